/- isoglossref12.Made, walked: it hands back some alias, whatever the world. -/
import Derived.Test.YtdjbanhoejegjaaDqPut
import Derived.Test.YtdjbanhoejegjaaDqP1
import Derived.Test.YtdjbanhoejegjaaDqP2
namespace Go.Proofs.Ytdjbanhoejegjaa.LikW
open Go.RowKit Go.Proofs.YtdjbanhoejegjaaW.PrintWords Go.Proofs.YtdjbanhoejegjaaW.PrintLast Go.Proofs.Ytdjbanhoejegjaa.P
set_option linter.unusedVariables false
set_option linter.unusedSimpArgs false

theorem pick_mem (l : List ByteArray) (h0 : l ≠ []) (h1 : l.length ≤ 1000) (n : Int) : ∃ x, x ∈ l ∧ isoglossref06_Pick.f l n = some x := by
 have hp : 0 < l.length := List.length_pos_iff.2 h0
 unfold isoglossref06_Pick.f
 have lo := Int.lt_tmod_of_pos n (show (0 : Int) < l.length by omega)
 have up := Int.tmod_lt_of_pos n (show (0 : Int) < l.length by omega)
 have w : wrap64 (Int.tmod n l.length + l.length) = Int.tmod n l.length + l.length := by unfold wrap64; omega
 rw [w]
 have r0 := Int.tmod_nonneg (l.length : Int) (show 0 ≤ Int.tmod n l.length + l.length by omega)
 have r1 := Int.tmod_lt_of_pos (Int.tmod n l.length + l.length) (show (0 : Int) < l.length by omega)
 rw [if_neg (by omega), if_pos r0, if_pos r1]
 generalize Int.tmod (Int.tmod n l.length + l.length) l.length = r at r0 r1
 refine ⟨rdOf ByteArray.empty l r, ?_, rfl⟩
 have hr : r.toNat < l.length := by omega
 unfold rdOf
 simp only [List.getD_eq_getElem?_getD, List.getElem?_eq_getElem hr, Option.getD_some]
 exact List.getElem_mem hr
theorem pick_lit {B : Nat} (l : List ByteArray) (n : Nat) (a : Int) (x : ByteArray) (h : isoglossref06_Pick.f l a = some x) (hn : l.length = n) (w : World) (hC : Kd.C Kd.string w (some ⟨B, 0, none⟩) l.length l) :
 Calls Try.prog 25 #[.slice (some ⟨B, 0, none⟩) n n, .int .i64 a] w fun e w' => e = .returned (.string x) ∧ Below w.heap.size w w' := by
 subst hn
 exact (isoglossref06_Pick.calls _ l.length l a x w hC (Nat.le_refl _) h).mono (fun e w' h => ⟨h.1, h.2.below⟩)
def langs_l : List ByteArray := [⟨#[105, 119]⟩, ⟨#[109, 111]⟩, ⟨#[110, 111]⟩, ⟨#[115, 104]⟩, ⟨#[116, 108]⟩, ⟨#[115, 103, 110]⟩, ⟨#[122, 104]⟩, ⟨#[104, 97, 110, 116]⟩]
theorem len_langs : langs_l.length = 8 := rfl
def toLangs_l : List ByteArray := [⟨#[104, 101]⟩, ⟨#[114, 111]⟩, ⟨#[110, 98]⟩, ⟨#[115, 114]⟩, ⟨#[102, 105, 108]⟩, ⟨#[120, 120]⟩, ⟨#[99, 109, 110]⟩, ⟨#[101, 110]⟩]
theorem len_toLangs : toLangs_l.length = 8 := rfl
def scripts_l : List ByteArray := [⟨#[113, 97, 97, 105]⟩, ⟨#[104, 97, 110, 115]⟩, ⟨#[97, 114, 97, 110]⟩]
theorem len_scripts : scripts_l.length = 3 := rfl
def toScripts_l : List ByteArray := [⟨#[122, 105, 110, 104]⟩, ⟨#[108, 97, 116, 110]⟩, ⟨#[97, 114, 97, 98]⟩]
theorem len_toScripts : toScripts_l.length = 3 := rfl
def regions_l : List ByteArray := [⟨#[100, 100]⟩, ⟨#[115, 117]⟩, ⟨#[98, 117]⟩, ⟨#[56, 52, 48]⟩]
theorem len_regions : regions_l.length = 4 := rfl
def toRegions_l : List ByteArray := [⟨#[100, 101]⟩, ⟨#[114, 117]⟩, ⟨#[109, 109]⟩, ⟨#[117, 115]⟩]
theorem len_toRegions : toRegions_l.length = 4 := rfl
def lS_l : List ByteArray := [⟨#[]⟩, ⟨#[]⟩, ⟨#[108, 97, 116, 110]⟩]
theorem len_lS : lS_l.length = 3 := rfl
def lR_l : List ByteArray := [⟨#[]⟩, ⟨#[]⟩, ⟨#[117, 115]⟩]
theorem len_lR : lR_l.length = 3 := rfl
def lP_l : List ByteArray := [⟨#[98, 114]⟩, ⟨#[99, 110]⟩, ⟨#[117, 115]⟩, ⟨#[100, 100]⟩]
theorem len_lP : lP_l.length = 4 := rfl
def lS2_l : List ByteArray := [⟨#[]⟩, ⟨#[108, 97, 116, 110]⟩]
theorem len_lS2 : lS2_l.length = 2 := rfl
def lV_l : List ByteArray := [⟨#[104, 101, 112, 108, 111, 99]⟩, ⟨#[97, 114, 101, 118, 101, 108, 97]⟩, ⟨#[49, 97, 50, 98]⟩]
theorem len_lV : lV_l.length = 3 := rfl
def lV2_l : List ByteArray := [⟨#[]⟩, ⟨#[97, 108, 97, 108, 99, 57, 55]⟩, ⟨#[49, 57, 57, 52]⟩]
theorem len_lV2 : lV2_l.length = 3 := rfl
def lK_l : List ByteArray := [⟨#[99, 97]⟩, ⟨#[99, 111]⟩]
theorem len_lK : lK_l.length = 2 := rfl
def lT_l : List ByteArray := [⟨#[105, 115, 108, 97, 109, 105, 99, 99]⟩, ⟨#[97, 98, 49]⟩, ⟨#[112, 104, 111, 110, 101, 98, 107]⟩]
theorem len_lT : lT_l.length = 3 := rfl
def lT2_l : List ByteArray := [⟨#[99, 105, 118, 105, 108]⟩, ⟨#[116, 114, 117, 101]⟩, ⟨#[115, 116, 97, 110, 100, 97, 114, 100]⟩]
theorem len_lT2 : lT2_l.length = 3 := rfl
theorem langs_lit (w : World) : Calls Try.prog 43 #[] w fun e W => (∃ B, e = .returned (.slice (some ⟨B, 0, none⟩) 8 8) ∧ Kd.C Kd.string W (some ⟨B, 0, none⟩) langs_l.length langs_l) ∧ Below w.heap.size w W := by
 refine (calls_run (w' := w.alloc (.cells (langs_l.flatMap encS).toArray 9)) (v := .slice (some ⟨w.heap.size, 0, none⟩) 8 8) Try.func43 0 rfl (by kernel_rfl)).mono ?_
 rintro e W ⟨rfl, rfl⟩
 exact ⟨⟨_, rfl, CStr langs_l (by decide) (World.alloc_heap_new w _)⟩, below_alloc (Below.refl _ _) _⟩
theorem toLangs_lit (w : World) : Calls Try.prog 42 #[] w fun e W => (∃ B, e = .returned (.slice (some ⟨B, 0, none⟩) 8 8) ∧ Kd.C Kd.string W (some ⟨B, 0, none⟩) toLangs_l.length toLangs_l) ∧ Below w.heap.size w W := by
 refine (calls_run (w' := w.alloc (.cells (toLangs_l.flatMap encS).toArray 9)) (v := .slice (some ⟨w.heap.size, 0, none⟩) 8 8) Try.func42 0 rfl (by kernel_rfl)).mono ?_
 rintro e W ⟨rfl, rfl⟩
 exact ⟨⟨_, rfl, CStr toLangs_l (by decide) (World.alloc_heap_new w _)⟩, below_alloc (Below.refl _ _) _⟩
theorem scripts_lit (w : World) : Calls Try.prog 44 #[] w fun e W => (∃ B, e = .returned (.slice (some ⟨B, 0, none⟩) 3 3) ∧ Kd.C Kd.string W (some ⟨B, 0, none⟩) scripts_l.length scripts_l) ∧ Below w.heap.size w W := by
 refine (calls_run (w' := w.alloc (.cells (scripts_l.flatMap encS).toArray 9)) (v := .slice (some ⟨w.heap.size, 0, none⟩) 3 3) Try.func44 0 rfl (by kernel_rfl)).mono ?_
 rintro e W ⟨rfl, rfl⟩
 exact ⟨⟨_, rfl, CStr scripts_l (by decide) (World.alloc_heap_new w _)⟩, below_alloc (Below.refl _ _) _⟩
theorem toScripts_lit (w : World) : Calls Try.prog 45 #[] w fun e W => (∃ B, e = .returned (.slice (some ⟨B, 0, none⟩) 3 3) ∧ Kd.C Kd.string W (some ⟨B, 0, none⟩) toScripts_l.length toScripts_l) ∧ Below w.heap.size w W := by
 refine (calls_run (w' := w.alloc (.cells (toScripts_l.flatMap encS).toArray 9)) (v := .slice (some ⟨w.heap.size, 0, none⟩) 3 3) Try.func45 0 rfl (by kernel_rfl)).mono ?_
 rintro e W ⟨rfl, rfl⟩
 exact ⟨⟨_, rfl, CStr toScripts_l (by decide) (World.alloc_heap_new w _)⟩, below_alloc (Below.refl _ _) _⟩
theorem regions_lit (w : World) : Calls Try.prog 46 #[] w fun e W => (∃ B, e = .returned (.slice (some ⟨B, 0, none⟩) 4 4) ∧ Kd.C Kd.string W (some ⟨B, 0, none⟩) regions_l.length regions_l) ∧ Below w.heap.size w W := by
 refine (calls_run (w' := w.alloc (.cells (regions_l.flatMap encS).toArray 9)) (v := .slice (some ⟨w.heap.size, 0, none⟩) 4 4) Try.func46 0 rfl (by kernel_rfl)).mono ?_
 rintro e W ⟨rfl, rfl⟩
 exact ⟨⟨_, rfl, CStr regions_l (by decide) (World.alloc_heap_new w _)⟩, below_alloc (Below.refl _ _) _⟩
theorem toRegions_lit (w : World) : Calls Try.prog 47 #[] w fun e W => (∃ B, e = .returned (.slice (some ⟨B, 0, none⟩) 4 4) ∧ Kd.C Kd.string W (some ⟨B, 0, none⟩) toRegions_l.length toRegions_l) ∧ Below w.heap.size w W := by
 refine (calls_run (w' := w.alloc (.cells (toRegions_l.flatMap encS).toArray 9)) (v := .slice (some ⟨w.heap.size, 0, none⟩) 4 4) Try.func47 0 rfl (by kernel_rfl)).mono ?_
 rintro e W ⟨rfl, rfl⟩
 exact ⟨⟨_, rfl, CStr toRegions_l (by decide) (World.alloc_heap_new w _)⟩, below_alloc (Below.refl _ _) _⟩
theorem title_all (l : List ByteArray) (h : (l.all fun x => (isoglossref02_Title.f 20 x).isSome) = true) (x : ByteArray) (hx : x ∈ l) : (isoglossref02_Title.f 20 x).isSome = true := List.all_eq_true.1 h x hx
theorem title_langs (x : ByteArray) (hx : x ∈ langs_l) : (isoglossref02_Title.f 20 x).isSome = true := title_all langs_l (by kernel_rfl) x hx
theorem title_scripts (x : ByteArray) (hx : x ∈ scripts_l) : (isoglossref02_Title.f 20 x).isSome = true := title_all scripts_l (by kernel_rfl) x hx
theorem title_regions (x : ByteArray) (hx : x ∈ regions_l) : (isoglossref02_Title.f 20 x).isSome = true := title_all regions_l (by kernel_rfl) x hx
theorem title_lV (x : ByteArray) (hx : x ∈ lV_l) : (isoglossref02_Title.f 20 x).isSome = true := title_all lV_l (by kernel_rfl) x hx
theorem title_lK (x : ByteArray) (hx : x ∈ lK_l) : (isoglossref02_Title.f 20 x).isSome = true := title_all lK_l (by kernel_rfl) x hx
theorem size_lP (x : ByteArray) (hx : x ∈ lP_l) : x.size ≤ 20 := by
 have h : (lP_l.all fun x => decide (x.size ≤ 20)) = true := by kernel_rfl
 exact of_decide_eq_true (List.all_eq_true.1 h x hx)
theorem size_lT (x : ByteArray) (hx : x ∈ lT_l) : x.size ≤ 20 := by
 have h : (lT_l.all fun x => decide (x.size ≤ 20)) = true := by kernel_rfl
 exact of_decide_eq_true (List.all_eq_true.1 h x hx)
theorem title1 (nn : Int) (h0 : 0 ≤ nn) (h1 : nn < 26) : (isoglossref02_Title.f 20 (strOfNums [48 + nn / 10, 48 + nn % 10])).isSome = true := by
 have h : ((List.range 26).all fun m => (isoglossref02_Title.f 20 (strOfNums [48 + (m : Int) / 10, 48 + (m : Int) % 10])).isSome) = true := by kernel_rfl
 have := List.all_eq_true.1 h nn.toNat (List.mem_range.2 (by omega))
 rwa [Int.toNat_of_nonneg h0] at this
theorem langs_some : isoglossref12_langs.f = some langs_l := rfl
theorem spoilt12_some (k : Int) (a b l s r : ByteArray) (o : Int) (ha : (isoglossref02_Title.f 20 a).isSome = true) (hb : b.size ≤ 20) : ∃ t0 t1 t2 t3 t4 t5, isoglossref12_spoilt.f 20 k a b l s r o = some (t0, t1, t2, t3, t4, t5) := by
 have key : (isoglossref12_spoilt.f 20 k a b l s r o).isSome = true := by
  unfold isoglossref12_spoilt.f
  by_cases h1 : o = 1
  · rw [if_pos h1]
    obtain ⟨t, ht⟩ := Option.isSome_iff_exists.1 ha
    rw [ht]
    rfl
  rw [if_neg h1]
  by_cases h2 : o = 2
  · rw [if_pos h2, if_pos (show b.size + 1 ≤ 9223372036854775807 by omega)]; rfl
  rw [if_neg h2]
  by_cases h3 : o = 3
  · rw [if_pos h3]; rfl
  rw [if_neg h3]
  by_cases h4 : o = 4
  · rw [if_pos h4]; rfl
  rw [if_neg h4]
  by_cases h5 : o = 5
  · rw [if_pos h5]; rfl
  rw [if_neg h5]
  by_cases h6 : o = 6
  · obtain ⟨x, _, hx⟩ := pick_mem langs_l (by decide) (by decide) (a.size : Int)
    rw [if_pos h6, langs_some, Option.bind_some, hx]
    rfl
  rw [if_neg h6]
  rfl
 obtain ⟨⟨t0, t1, t2, t3, t4, t5⟩, h⟩ := Option.isSome_iff_exists.1 key
 exact ⟨t0, t1, t2, t3, t4, t5, h⟩
set_option maxRecDepth 100000 in
set_option maxHeartbeats 4000000 in
theorem made12_1 (a0 a1 a2 a3 a4 a5 a6 : Int) (nn : Int) (hn : Int.tmod (wrap64 (Int.tmod a1 26 + 26)) 26 = nn) (hn0 : 0 ≤ nn) (hn1 : nn < 26) (hk : wrap64 (1 + Int.tmod (wrap64 (Int.tmod a0 7 + 7)) 7) = 1) : ∃ t0 t1 t2 t3 t4 t5, ∀ w : World, Calls Try.prog 21 #[.agg #[.int .i64 a0, .int .i64 a1, .int .i64 a2, .int .i64 a3, .int .i64 a4, .int .i64 a5, .int .i64 a6]] w fun e w' => e = .returned (.agg #[.int .i64 t0, .string t1, .string t2, .string t3, .string t4, .string t5]) ∧ Below w.heap.size w w' := by
 have hu62 := Try.underlying62
 have hu59 := Try.underlying59
 obtain ⟨x1, hx1⟩ : ∃ x, x = strOfNums [48 + nn / 10, 48 + nn % 10] := ⟨_, rfl⟩
 replace hx1 := Aside0.mk hx1
 obtain ⟨x3, x3m, x3_⟩ := pick_mem toLangs_l (by decide) (by decide) a3
 replace x3_ := Aside0.mk x3_
 obtain ⟨x4, x4m, x4_⟩ := pick_mem lS_l (by decide) (by decide) a4
 replace x4_ := Aside0.mk x4_
 obtain ⟨x5, x5m, x5_⟩ := pick_mem lR_l (by decide) (by decide) a5
 replace x5_ := Aside0.mk x5_
 obtain ⟨t0, t1, t2, t3, t4, t5, ht⟩ := spoilt12_some 1 x1 ⟨#[]⟩ x3 x4 x5 (Int.tmod (wrap64 (Int.tmod a6 9 + 9)) 9) (by rw [hx1.out]; exact title1 nn hn0 hn1) (by decide)
 have HT := Aside0.mk ht
 clear ht x3m x4m x5m
 refine ⟨t0, t1, t2, t3, t4, t5, fun w => ?_⟩
 have B0 := Aside0.mk (Below.refl w.heap.size w)
 go_enter Try.func21, Try.ntmps21
 go_wp2_with (first
  | ((with_reducible refine gate_dst (N := 1) rfl ?_); refine be 1 #[.int .i64 a0, .int .i64 a1, .int .i64 a2, .int .i64 a3, .int .i64 a4, .int .i64 a5, .int .i64 a6] 62 ?_; intro b1 hg v1 hbox hb; have G_b1 := Aside0.mk (show w.heap.size ≤ b1 by rw [hg]; exact B0.out.size); replace B0 := bb B0 hb; have K_b1 := Aside0.mk hbox; clear hb hbox hg)
  | ((with_reducible refine gate_dst (N := 2) rfl ?_); refine be 2 #[.int .i64 0, .string ⟨#[]⟩, .string ⟨#[]⟩, .string ⟨#[]⟩, .string ⟨#[]⟩, .string ⟨#[]⟩] 59 ?_; intro b2 hg v2 hbox hb; have N_b1_b2 := kn K_b1 hg; have G_b2 := Aside0.mk (show w.heap.size ≤ b2 by rw [hg]; exact B0.out.size); replace B0 := bb B0 hb; replace K_b1 := kb K_b1 hb; have K_b2 := Aside0.mk hbox; clear hb hbox hg; obtain ⟨y_b1_0, y_b1_1, y_b1_2, y_b1_3, y_b1_4, y_b1_5, y_b1_6⟩ := cz7 K_b1.out)
  | ((with_reducible refine gate_dst (N := 3) rfl ?_); refine be 3 #[.int .i64 0, .string ⟨#[]⟩, .string ⟨#[]⟩, .string ⟨#[]⟩, .string ⟨#[]⟩, .string ⟨#[]⟩] 59 ?_; intro b3 hg v3 hbox hb; clear y_b1_0 y_b1_1 y_b1_2 y_b1_3 y_b1_4 y_b1_5 y_b1_6; have N_b1_b3 := kn K_b1 hg; have N_b2_b3 := kn K_b2 hg; have G_b3 := Aside0.mk (show w.heap.size ≤ b3 by rw [hg]; exact B0.out.size); replace B0 := bb B0 hb; replace K_b1 := kb K_b1 hb; replace K_b2 := kb K_b2 hb; have K_b3 := Aside0.mk hbox; clear hb hbox hg)
  | ((with_reducible refine gate_ (.store 59 (.tmp 3) (.tmp 11)) rfl ?_); refine pe b3 0 #[.int .i64 1, .string ⟨#[]⟩, .string ⟨#[]⟩, .string ⟨#[]⟩, .string ⟨#[]⟩, .string ⟨#[]⟩] [.int .i64 1, .string ⟨#[]⟩, .string ⟨#[]⟩, .string ⟨#[]⟩, .string ⟨#[]⟩, .string ⟨#[]⟩] K_b3.out ?_; intro v4 hk hp; replace B0 := bp B0 hp G_b3.out; replace K_b1 := kp K_b1 hp N_b1_b3.out; replace K_b2 := kp K_b2 hp N_b2_b3.out; replace K_b3 := Aside0.mk hk; clear hk hp; obtain ⟨y_b1_0, y_b1_1, y_b1_2, y_b1_3, y_b1_4, y_b1_5, y_b1_6⟩ := cz7 K_b1.out; obtain ⟨y_b3_0, y_b3_1, y_b3_2, y_b3_3, y_b3_4, y_b3_5⟩ := cz6 K_b3.out)
  | ((with_reducible refine gate_dst (N := 44) rfl ?_); refine lit_event ?hg (N := 44) ?hd (cs := #[.int .u8 (48 + nn / 10), .int .u8 (48 + nn % 10)]) (e := 5) (n := 2) ?hr ?_; (case hd => rfl); (case hg => rfl); (case hr => first | (go_simp; done) | (go_simp; rfl)); intro g44 hg v5 hbox hb; clear y_b1_0 y_b1_1 y_b1_2 y_b1_3 y_b1_4 y_b1_5 y_b1_6 y_b3_0 y_b3_1 y_b3_2 y_b3_3 y_b3_4 y_b3_5; replace B0 := bb B0 hb; replace K_b1 := kb K_b1 hb; replace K_b2 := kb K_b2 hb; replace K_b3 := kb K_b3 hb; have hcv : (convert 83 9 (.slice (some ⟨g44, 0, none⟩) 2 2)).run Try.prog v5 = .ok (.string x1) v5 := (by rw [hx1.out]; exact Kd.C_string (P := Try.prog) (c := 2) Try.underlying83 Try.underlying5 Try.underlying9 (CByte (B := g44) [48 + nn / 10, 48 + nn % 10] (by simp) hbox)); clear hb hbox hg)
  | ((with_reducible refine gate_ (.store 9 (.tmp 46) (.tmp 45)) rfl ?_); refine pe b3 1 #[.int .i64 1, .string x1, .string ⟨#[]⟩, .string ⟨#[]⟩, .string ⟨#[]⟩, .string ⟨#[]⟩] [.string x1] K_b3.out ?_; intro v6 hk hp; replace B0 := bp B0 hp G_b3.out; replace K_b1 := kp K_b1 hp N_b1_b3.out; replace K_b2 := kp K_b2 hp N_b2_b3.out; replace K_b3 := Aside0.mk hk; clear hk hp))
 go_wp2
 skip
 refine start_ (n := 6) (S := fun w' => w'.cell? ⟨b1, 3, none⟩ = some (.int .i64 a3)) (ds := []) (M 6 0) (by kernel_rfl) rfl rfl ((blk_cell K_b1.out 3).trans rfl) (fun hHeld => ?_)
 have hb : Below v6.heap.size v6 v6.drew := below_drew1 (Below.refl _ _)
 generalize v6.drew = v7 at hb hHeld ⊢
 replace B0 := bb B0 hb
 replace K_b1 := kb K_b1 hb
 replace K_b2 := kb K_b2 hb
 replace K_b3 := kb K_b3 hb
 clear hb
 refine pw 1 48 (M 6 2) ?_
 refine tw 2 49 (M 6 6) hHeld ?_
 refine ow 0 (some 47) (M 6 7) fun K hK => ?_
 refine gow Try.func42 #[] ?_
 with_reducible refine (toLangs_lit _).mono ?_
 rintro e v8 ⟨⟨g47, rfl, hc⟩, hb⟩
 refine ⟨_, rfl, ?_⟩
 replace B0 := bb B0 hb
 replace K_b1 := kb K_b1 hb
 replace K_b2 := kb K_b2 hb
 replace K_b3 := kb K_b3 hb
 have C_g47 := Aside0.mk hc
 clear hb hc
 refine hK.out _ _ ((blk_cell K_b1.out 3).trans rfl) (fun hHeld => ?_)
 clear hK K
 refine norm_ (a' := ?_) ?_ ?_
 rotate_left
 · show Act.put _ (some 47) _ = _
   simp only [Act.put, List.setIfInBounds_toArray, List.set_cons_zero, List.set_cons_succ, i64_w, i32_w]
   rfl
 refine ow 3 (some 50) (M 6 15) fun K hK => ?_
 refine goes_ Try.func25 (by kernel_rfl) rfl #[.slice (some ⟨g47, 0, none⟩) 8 8, .int .i64 a3] (by rfl) rfl rfl (by simp only [List.map_toArray, List.map_cons, List.map_nil]; rfl) ?_
 with_reducible refine (pick_lit toLangs_l 8 a3 x3 x3_.out len_toLangs _ C_g47.out).mono ?_
 rintro e v9 ⟨rfl, hb⟩
 refine ⟨_, rfl, ?_⟩
 replace B0 := bb B0 hb
 replace K_b1 := kb K_b1 hb
 replace K_b2 := kb K_b2 hb
 replace K_b3 := kb K_b3 hb
 clear hb C_g47
 refine hK.out _ _ ((blk_cell K_b1.out 3).trans rfl) (fun hHeld => ?_)
 clear hK K
 refine norm_ (a' := ?_) ?_ ?_
 rotate_left
 · show Act.put _ (some 50) _ = _
   simp only [Act.put, List.setIfInBounds_toArray, List.set_cons_zero, List.set_cons_succ, i64_w, i32_w]
   rfl
 refine pw 4 51 (M 6 31) ?_
 refine ow 5 none (M 6 63) fun K hK => ?_
 refine put_step (g := b3) (off := 3) (cur := #[.int .i64 1, .string x1, .string ⟨#[]⟩, .string ⟨#[]⟩, .string ⟨#[]⟩, .string ⟨#[]⟩]) (new := #[.int .i64 1, .string x1, .string ⟨#[]⟩, .string x3, .string ⟨#[]⟩, .string ⟨#[]⟩]) (seg := [.string x3]) (u := .string x3) rfl rfl rfl rfl rfl rfl (by rfl) (by kernel_rfl) rfl rfl (Nat.le_of_ble_eq_true rfl) K_b3.out ?_
 intro v10 hk hp
 replace B0 := bp B0 hp G_b3.out
 replace K_b1 := kp K_b1 hp N_b1_b3.out
 replace K_b2 := kp K_b2 hp N_b2_b3.out
 replace K_b3 := Aside0.mk hk
 clear hk hp
 refine hK.out _ _ ((blk_cell K_b1.out 3).trans rfl) (fun hHeld => ?_)
 clear hK K
 refine done_ (by kernel_rfl) ?_

 go_wp2_with (first
  | ((with_reducible refine gate_dst (N := 52) rfl ?_); refine lit_event ?hg (N := 52) ?hd (cs := #[.string ⟨#[]⟩, .string ⟨#[]⟩, .string ⟨#[108, 97, 116, 110]⟩]) (e := 9) (n := 3) ?hr ?_; (case hd => rfl); (case hg => rfl); (case hr => first | (go_simp; done) | (go_simp; rfl)); intro g52 hg v11 hbox hb; replace B0 := bb B0 hb; replace K_b1 := kb K_b1 hb; replace K_b2 := kb K_b2 hb; replace K_b3 := kb K_b3 hb; have C_g52 := Aside0.mk (CStr (B := g52) lS_l (by decide) hbox); clear hb hbox hg; obtain ⟨y_b1_0, y_b1_1, y_b1_2, y_b1_3, y_b1_4, y_b1_5, y_b1_6⟩ := cz7 K_b1.out)
  | ((with_reducible refine gate_callee (f := 25) rfl ?_); refine goesL_ (some 55) rfl rfl Try.func25 (by kernel_rfl) rfl #[.slice (some ⟨g52, 0, none⟩) 3 3, .int .i64 a4] rfl mq ?_; (with_reducible refine (pick_lit lS_l 3 a4 x4 x4_.out len_lS _ C_g52.out).mono ?_); rintro e v12 ⟨rfl, hb⟩; refine ⟨_, rfl, ?_⟩; clear y_b1_0 y_b1_1 y_b1_2 y_b1_3 y_b1_4 y_b1_5 y_b1_6; clear C_g52; replace B0 := bb B0 hb; replace K_b1 := kb K_b1 hb; replace K_b2 := kb K_b2 hb; replace K_b3 := kb K_b3 hb; clear hb)
  | ((with_reducible refine gate_ (.store 9 (.tmp 56) (.tmp 55)) rfl ?_); refine pe b3 4 #[.int .i64 1, .string x1, .string ⟨#[]⟩, .string x3, .string x4, .string ⟨#[]⟩] [.string x4] K_b3.out ?_; intro v13 hk hp; replace B0 := bp B0 hp G_b3.out; replace K_b1 := kp K_b1 hp N_b1_b3.out; replace K_b2 := kp K_b2 hp N_b2_b3.out; replace K_b3 := Aside0.mk hk; clear hk hp)
  | ((with_reducible refine gate_dst (N := 57) rfl ?_); refine lit_event ?hg (N := 57) ?hd (cs := #[.string ⟨#[]⟩, .string ⟨#[]⟩, .string ⟨#[117, 115]⟩]) (e := 9) (n := 3) ?hr ?_; (case hd => rfl); (case hg => rfl); (case hr => first | (go_simp; done) | (go_simp; rfl)); intro g57 hg v14 hbox hb; replace B0 := bb B0 hb; replace K_b1 := kb K_b1 hb; replace K_b2 := kb K_b2 hb; replace K_b3 := kb K_b3 hb; have C_g57 := Aside0.mk (CStr (B := g57) lR_l (by decide) hbox); clear hb hbox hg; obtain ⟨y_b1_0, y_b1_1, y_b1_2, y_b1_3, y_b1_4, y_b1_5, y_b1_6⟩ := cz7 K_b1.out)
  | ((with_reducible refine gate_callee (f := 25) rfl ?_); refine goesL_ (some 60) rfl rfl Try.func25 (by kernel_rfl) rfl #[.slice (some ⟨g57, 0, none⟩) 3 3, .int .i64 a5] rfl mq ?_; (with_reducible refine (pick_lit lR_l 3 a5 x5 x5_.out len_lR _ C_g57.out).mono ?_); rintro e v15 ⟨rfl, hb⟩; refine ⟨_, rfl, ?_⟩; clear y_b1_0 y_b1_1 y_b1_2 y_b1_3 y_b1_4 y_b1_5 y_b1_6; clear C_g57; replace B0 := bb B0 hb; replace K_b1 := kb K_b1 hb; replace K_b2 := kb K_b2 hb; replace K_b3 := kb K_b3 hb; clear hb)
  | ((with_reducible refine gate_ (.store 9 (.tmp 61) (.tmp 60)) rfl ?_); refine pe b3 5 #[.int .i64 1, .string x1, .string ⟨#[]⟩, .string x3, .string x4, .string x5] [.string x5] K_b3.out ?_; intro v16 hk hp; replace B0 := bp B0 hp G_b3.out; replace K_b1 := kp K_b1 hp N_b1_b3.out; replace K_b2 := kp K_b2 hp N_b2_b3.out; replace K_b3 := Aside0.mk hk; clear hk hp; obtain ⟨y_b1_0, y_b1_1, y_b1_2, y_b1_3, y_b1_4, y_b1_5, y_b1_6⟩ := cz7 K_b1.out; obtain ⟨y_b3_0, y_b3_1, y_b3_2, y_b3_3, y_b3_4, y_b3_5⟩ := cz6 K_b3.out)
  | ((with_reducible refine gate_callee (f := 48) rfl ?_); refine goesL_ (some 143) rfl rfl Try.func48 (by kernel_rfl) rfl #[.agg #[.int .i64 1, .string x1, .string ⟨#[]⟩, .string x3, .string x4, .string x5], .int .i64 (Int.tmod (wrap64 (Int.tmod a6 9 + 9)) 9)] rfl mq ?_; (with_reducible refine (isoglossref12_spoilt.calls 20 1 x1 ⟨#[]⟩ x3 x4 x5 (Int.tmod (wrap64 (Int.tmod a6 9 + 9)) 9) t0 t1 t2 t3 t4 t5 _ HT.out).mono ?_); rintro e v17 ⟨rfl, hb⟩; refine ⟨_, rfl, ?_⟩; clear y_b1_0 y_b1_1 y_b1_2 y_b1_3 y_b1_4 y_b1_5 y_b1_6 y_b3_0 y_b3_1 y_b3_2 y_b3_3 y_b3_4 y_b3_5; replace B0 := bb B0 hb; replace K_b1 := kb K_b1 hb; replace K_b2 := kb K_b2 hb; replace K_b3 := kb K_b3 hb; clear hb)
  | ((with_reducible refine gate_ (.store 59 (.tmp 2) (.tmp 143)) rfl ?_); refine pe b2 0 #[.int .i64 t0, .string t1, .string t2, .string t3, .string t4, .string t5] [.int .i64 t0, .string t1, .string t2, .string t3, .string t4, .string t5] K_b2.out ?_; intro v18 hk hp; replace B0 := bp B0 hp G_b2.out; replace K_b1 := kp K_b1 hp N_b1_b2.out; replace K_b3 := kp K_b3 hp (Ne.symm N_b2_b3.out); replace K_b2 := Aside0.mk hk; clear hk hp))
 refine bodyPost_ret (results_cell_row rfl _ _ b2 59 #[.int .i64 t0, .string t1, .string t2, .string t3, .string t4, .string t5] (0, 0) _ rfl K_b2.out Try.underlying59 rfl (by kernel_rfl)) rfl ?_
 exact ⟨rfl, B0.out⟩
set_option maxRecDepth 100000 in
set_option maxHeartbeats 4000000 in
theorem made12_2 (a0 a1 a2 a3 a4 a5 a6 : Int) (hk : wrap64 (1 + Int.tmod (wrap64 (Int.tmod a0 7 + 7)) 7) = 2) : ∃ t0 t1 t2 t3 t4 t5, ∀ w : World, Calls Try.prog 21 #[.agg #[.int .i64 a0, .int .i64 a1, .int .i64 a2, .int .i64 a3, .int .i64 a4, .int .i64 a5, .int .i64 a6]] w fun e w' => e = .returned (.agg #[.int .i64 t0, .string t1, .string t2, .string t3, .string t4, .string t5]) ∧ Below w.heap.size w w' := by
 have hu62 := Try.underlying62
 have hu59 := Try.underlying59
 obtain ⟨x1, x1m, x1_⟩ := pick_mem langs_l (by decide) (by decide) a1
 replace x1_ := Aside0.mk x1_
 obtain ⟨x2, x2m, x2_⟩ := pick_mem lP_l (by decide) (by decide) a2
 replace x2_ := Aside0.mk x2_
 obtain ⟨x3, x3m, x3_⟩ := pick_mem toLangs_l (by decide) (by decide) a3
 replace x3_ := Aside0.mk x3_
 obtain ⟨t0, t1, t2, t3, t4, t5, ht⟩ := spoilt12_some 2 x1 x2 x3 ⟨#[]⟩ ⟨#[]⟩ (Int.tmod (wrap64 (Int.tmod a6 9 + 9)) 9) (title_langs x1 x1m) (size_lP x2 x2m)
 have HT := Aside0.mk ht
 clear ht x1m x2m x3m
 refine ⟨t0, t1, t2, t3, t4, t5, fun w => ?_⟩
 have B0 := Aside0.mk (Below.refl w.heap.size w)
 go_enter Try.func21, Try.ntmps21
 go_wp2_with (first
  | ((with_reducible refine gate_dst (N := 1) rfl ?_); refine be 1 #[.int .i64 a0, .int .i64 a1, .int .i64 a2, .int .i64 a3, .int .i64 a4, .int .i64 a5, .int .i64 a6] 62 ?_; intro b1 hg v1 hbox hb; have G_b1 := Aside0.mk (show w.heap.size ≤ b1 by rw [hg]; exact B0.out.size); replace B0 := bb B0 hb; have K_b1 := Aside0.mk hbox; clear hb hbox hg)
  | ((with_reducible refine gate_dst (N := 2) rfl ?_); refine be 2 #[.int .i64 0, .string ⟨#[]⟩, .string ⟨#[]⟩, .string ⟨#[]⟩, .string ⟨#[]⟩, .string ⟨#[]⟩] 59 ?_; intro b2 hg v2 hbox hb; have N_b1_b2 := kn K_b1 hg; have G_b2 := Aside0.mk (show w.heap.size ≤ b2 by rw [hg]; exact B0.out.size); replace B0 := bb B0 hb; replace K_b1 := kb K_b1 hb; have K_b2 := Aside0.mk hbox; clear hb hbox hg; obtain ⟨y_b1_0, y_b1_1, y_b1_2, y_b1_3, y_b1_4, y_b1_5, y_b1_6⟩ := cz7 K_b1.out)
  | ((with_reducible refine gate_dst (N := 3) rfl ?_); refine be 3 #[.int .i64 0, .string ⟨#[]⟩, .string ⟨#[]⟩, .string ⟨#[]⟩, .string ⟨#[]⟩, .string ⟨#[]⟩] 59 ?_; intro b3 hg v3 hbox hb; clear y_b1_0 y_b1_1 y_b1_2 y_b1_3 y_b1_4 y_b1_5 y_b1_6; have N_b1_b3 := kn K_b1 hg; have N_b2_b3 := kn K_b2 hg; have G_b3 := Aside0.mk (show w.heap.size ≤ b3 by rw [hg]; exact B0.out.size); replace B0 := bb B0 hb; replace K_b1 := kb K_b1 hb; replace K_b2 := kb K_b2 hb; have K_b3 := Aside0.mk hbox; clear hb hbox hg)
  | ((with_reducible refine gate_ (.store 59 (.tmp 3) (.tmp 11)) rfl ?_); refine pe b3 0 #[.int .i64 2, .string ⟨#[]⟩, .string ⟨#[]⟩, .string ⟨#[]⟩, .string ⟨#[]⟩, .string ⟨#[]⟩] [.int .i64 2, .string ⟨#[]⟩, .string ⟨#[]⟩, .string ⟨#[]⟩, .string ⟨#[]⟩, .string ⟨#[]⟩] K_b3.out ?_; intro v4 hk hp; replace B0 := bp B0 hp G_b3.out; replace K_b1 := kp K_b1 hp N_b1_b3.out; replace K_b2 := kp K_b2 hp N_b2_b3.out; replace K_b3 := Aside0.mk hk; clear hk hp; obtain ⟨y_b1_0, y_b1_1, y_b1_2, y_b1_3, y_b1_4, y_b1_5, y_b1_6⟩ := cz7 K_b1.out; obtain ⟨y_b3_0, y_b3_1, y_b3_2, y_b3_3, y_b3_4, y_b3_5⟩ := cz6 K_b3.out))
 go_wp2
 try clear y_b1_0 y_b1_1 y_b1_2 y_b1_3 y_b1_4 y_b1_5 y_b1_6 y_b3_0 y_b3_1 y_b3_2 y_b3_3 y_b3_4 y_b3_5
 refine start_ (n := 6) (S := fun w' => w'.cell? ⟨b1, 1, none⟩ = some (.int .i64 a1)) (ds := []) (M 6 0) (by kernel_rfl) rfl rfl ((blk_cell K_b1.out 1).trans rfl) (fun hHeld => ?_)
 have hb : Below v4.heap.size v4 v4.drew := below_drew1 (Below.refl _ _)
 generalize v4.drew = v5 at hb hHeld ⊢
 replace B0 := bb B0 hb
 replace K_b1 := kb K_b1 hb
 replace K_b2 := kb K_b2 hb
 replace K_b3 := kb K_b3 hb
 clear hb
 refine pw 1 65 (M 6 2) ?_
 refine tw 2 66 (M 6 6) hHeld ?_
 refine ow 0 (some 64) (M 6 7) fun K hK => ?_
 refine gow Try.func43 #[] ?_
 with_reducible refine (langs_lit _).mono ?_
 rintro e v6 ⟨⟨g64, rfl, hc⟩, hb⟩
 refine ⟨_, rfl, ?_⟩
 replace B0 := bb B0 hb
 replace K_b1 := kb K_b1 hb
 replace K_b2 := kb K_b2 hb
 replace K_b3 := kb K_b3 hb
 have C_g64 := Aside0.mk hc
 clear hb hc
 refine hK.out _ _ ((blk_cell K_b1.out 1).trans rfl) (fun hHeld => ?_)
 clear hK K
 refine norm_ (a' := ?_) ?_ ?_
 rotate_left
 · show Act.put _ (some 64) _ = _
   simp only [Act.put, List.setIfInBounds_toArray, List.set_cons_zero, List.set_cons_succ, i64_w, i32_w]
   rfl
 refine ow 3 (some 67) (M 6 15) fun K hK => ?_
 refine goes_ Try.func25 (by kernel_rfl) rfl #[.slice (some ⟨g64, 0, none⟩) 8 8, .int .i64 a1] (by rfl) rfl rfl (by simp only [List.map_toArray, List.map_cons, List.map_nil]; rfl) ?_
 with_reducible refine (pick_lit langs_l 8 a1 x1 x1_.out len_langs _ C_g64.out).mono ?_
 rintro e v7 ⟨rfl, hb⟩
 refine ⟨_, rfl, ?_⟩
 replace B0 := bb B0 hb
 replace K_b1 := kb K_b1 hb
 replace K_b2 := kb K_b2 hb
 replace K_b3 := kb K_b3 hb
 clear hb C_g64
 refine hK.out _ _ ((blk_cell K_b1.out 1).trans rfl) (fun hHeld => ?_)
 clear hK K
 refine norm_ (a' := ?_) ?_ ?_
 rotate_left
 · show Act.put _ (some 67) _ = _
   simp only [Act.put, List.setIfInBounds_toArray, List.set_cons_zero, List.set_cons_succ, i64_w, i32_w]
   rfl
 refine pw 4 68 (M 6 31) ?_
 refine ow 5 none (M 6 63) fun K hK => ?_
 refine put_step (g := b3) (off := 1) (cur := #[.int .i64 2, .string ⟨#[]⟩, .string ⟨#[]⟩, .string ⟨#[]⟩, .string ⟨#[]⟩, .string ⟨#[]⟩]) (new := #[.int .i64 2, .string x1, .string ⟨#[]⟩, .string ⟨#[]⟩, .string ⟨#[]⟩, .string ⟨#[]⟩]) (seg := [.string x1]) (u := .string x1) rfl rfl rfl rfl rfl rfl (by rfl) (by kernel_rfl) rfl rfl (Nat.le_of_ble_eq_true rfl) K_b3.out ?_
 intro v8 hk hp
 replace B0 := bp B0 hp G_b3.out
 replace K_b1 := kp K_b1 hp N_b1_b3.out
 replace K_b2 := kp K_b2 hp N_b2_b3.out
 replace K_b3 := Aside0.mk hk
 clear hk hp
 refine hK.out _ _ ((blk_cell K_b1.out 1).trans rfl) (fun hHeld => ?_)
 clear hK K
 refine done_ (by kernel_rfl) ?_

 go_wp2_with (first
  | ((with_reducible refine gate_dst (N := 69) rfl ?_); refine lit_event ?hg (N := 69) ?hd (cs := #[.string ⟨#[98, 114]⟩, .string ⟨#[99, 110]⟩, .string ⟨#[117, 115]⟩, .string ⟨#[100, 100]⟩]) (e := 9) (n := 4) ?hr ?_; (case hd => rfl); (case hg => rfl); (case hr => first | (go_simp; done) | (go_simp; rfl)); intro g69 hg v9 hbox hb; replace B0 := bb B0 hb; replace K_b1 := kb K_b1 hb; replace K_b2 := kb K_b2 hb; replace K_b3 := kb K_b3 hb; have C_g69 := Aside0.mk (CStr (B := g69) lP_l (by decide) hbox); clear hb hbox hg; obtain ⟨y_b1_0, y_b1_1, y_b1_2, y_b1_3, y_b1_4, y_b1_5, y_b1_6⟩ := cz7 K_b1.out)
  | ((with_reducible refine gate_callee (f := 25) rfl ?_); refine goesL_ (some 72) rfl rfl Try.func25 (by kernel_rfl) rfl #[.slice (some ⟨g69, 0, none⟩) 4 4, .int .i64 a2] rfl mq ?_; (with_reducible refine (pick_lit lP_l 4 a2 x2 x2_.out len_lP _ C_g69.out).mono ?_); rintro e v10 ⟨rfl, hb⟩; refine ⟨_, rfl, ?_⟩; clear y_b1_0 y_b1_1 y_b1_2 y_b1_3 y_b1_4 y_b1_5 y_b1_6; clear C_g69; replace B0 := bb B0 hb; replace K_b1 := kb K_b1 hb; replace K_b2 := kb K_b2 hb; replace K_b3 := kb K_b3 hb; clear hb)
  | ((with_reducible refine gate_ (.store 9 (.tmp 73) (.tmp 72)) rfl ?_); refine pe b3 2 #[.int .i64 2, .string x1, .string x2, .string ⟨#[]⟩, .string ⟨#[]⟩, .string ⟨#[]⟩] [.string x2] K_b3.out ?_; intro v11 hk hp; replace B0 := bp B0 hp G_b3.out; replace K_b1 := kp K_b1 hp N_b1_b3.out; replace K_b2 := kp K_b2 hp N_b2_b3.out; replace K_b3 := Aside0.mk hk; clear hk hp))
 go_wp2
 skip
 refine start_ (n := 6) (S := fun w' => w'.cell? ⟨b1, 3, none⟩ = some (.int .i64 a3)) (ds := []) (M 6 0) (by kernel_rfl) rfl rfl ((blk_cell K_b1.out 3).trans rfl) (fun hHeld => ?_)
 have hb : Below v11.heap.size v11 v11.drew := below_drew1 (Below.refl _ _)
 generalize v11.drew = v12 at hb hHeld ⊢
 replace B0 := bb B0 hb
 replace K_b1 := kb K_b1 hb
 replace K_b2 := kb K_b2 hb
 replace K_b3 := kb K_b3 hb
 clear hb
 refine pw 1 75 (M 6 2) ?_
 refine tw 2 76 (M 6 6) hHeld ?_
 refine ow 0 (some 74) (M 6 7) fun K hK => ?_
 refine gow Try.func42 #[] ?_
 with_reducible refine (toLangs_lit _).mono ?_
 rintro e v13 ⟨⟨g74, rfl, hc⟩, hb⟩
 refine ⟨_, rfl, ?_⟩
 replace B0 := bb B0 hb
 replace K_b1 := kb K_b1 hb
 replace K_b2 := kb K_b2 hb
 replace K_b3 := kb K_b3 hb
 have C_g74 := Aside0.mk hc
 clear hb hc
 refine hK.out _ _ ((blk_cell K_b1.out 3).trans rfl) (fun hHeld => ?_)
 clear hK K
 refine norm_ (a' := ?_) ?_ ?_
 rotate_left
 · show Act.put _ (some 74) _ = _
   simp only [Act.put, List.setIfInBounds_toArray, List.set_cons_zero, List.set_cons_succ, i64_w, i32_w]
   rfl
 refine ow 3 (some 77) (M 6 15) fun K hK => ?_
 refine goes_ Try.func25 (by kernel_rfl) rfl #[.slice (some ⟨g74, 0, none⟩) 8 8, .int .i64 a3] (by rfl) rfl rfl (by simp only [List.map_toArray, List.map_cons, List.map_nil]; rfl) ?_
 with_reducible refine (pick_lit toLangs_l 8 a3 x3 x3_.out len_toLangs _ C_g74.out).mono ?_
 rintro e v14 ⟨rfl, hb⟩
 refine ⟨_, rfl, ?_⟩
 replace B0 := bb B0 hb
 replace K_b1 := kb K_b1 hb
 replace K_b2 := kb K_b2 hb
 replace K_b3 := kb K_b3 hb
 clear hb C_g74
 refine hK.out _ _ ((blk_cell K_b1.out 3).trans rfl) (fun hHeld => ?_)
 clear hK K
 refine norm_ (a' := ?_) ?_ ?_
 rotate_left
 · show Act.put _ (some 77) _ = _
   simp only [Act.put, List.setIfInBounds_toArray, List.set_cons_zero, List.set_cons_succ, i64_w, i32_w]
   rfl
 refine pw 4 78 (M 6 31) ?_
 refine ow 5 none (M 6 63) fun K hK => ?_
 refine put_step (g := b3) (off := 3) (cur := #[.int .i64 2, .string x1, .string x2, .string ⟨#[]⟩, .string ⟨#[]⟩, .string ⟨#[]⟩]) (new := #[.int .i64 2, .string x1, .string x2, .string x3, .string ⟨#[]⟩, .string ⟨#[]⟩]) (seg := [.string x3]) (u := .string x3) rfl rfl rfl rfl rfl rfl (by rfl) (by kernel_rfl) rfl rfl (Nat.le_of_ble_eq_true rfl) K_b3.out ?_
 intro v15 hk hp
 replace B0 := bp B0 hp G_b3.out
 replace K_b1 := kp K_b1 hp N_b1_b3.out
 replace K_b2 := kp K_b2 hp N_b2_b3.out
 replace K_b3 := Aside0.mk hk
 clear hk hp
 refine hK.out _ _ ((blk_cell K_b1.out 3).trans rfl) (fun hHeld => ?_)
 clear hK K
 refine done_ (by kernel_rfl) ?_

 obtain ⟨y_b1_0, y_b1_1, y_b1_2, y_b1_3, y_b1_4, y_b1_5, y_b1_6⟩ := cz7 K_b1.out
 obtain ⟨y_b3_0, y_b3_1, y_b3_2, y_b3_3, y_b3_4, y_b3_5⟩ := cz6 K_b3.out
 go_wp2_with (first
  | ((with_reducible refine gate_callee (f := 48) rfl ?_); refine goesL_ (some 143) rfl rfl Try.func48 (by kernel_rfl) rfl #[.agg #[.int .i64 2, .string x1, .string x2, .string x3, .string ⟨#[]⟩, .string ⟨#[]⟩], .int .i64 (Int.tmod (wrap64 (Int.tmod a6 9 + 9)) 9)] rfl mq ?_; (with_reducible refine (isoglossref12_spoilt.calls 20 2 x1 x2 x3 ⟨#[]⟩ ⟨#[]⟩ (Int.tmod (wrap64 (Int.tmod a6 9 + 9)) 9) t0 t1 t2 t3 t4 t5 _ HT.out).mono ?_); rintro e v16 ⟨rfl, hb⟩; refine ⟨_, rfl, ?_⟩; replace B0 := bb B0 hb; replace K_b1 := kb K_b1 hb; replace K_b2 := kb K_b2 hb; replace K_b3 := kb K_b3 hb; clear hb)
  | ((with_reducible refine gate_ (.store 59 (.tmp 2) (.tmp 143)) rfl ?_); refine pe b2 0 #[.int .i64 t0, .string t1, .string t2, .string t3, .string t4, .string t5] [.int .i64 t0, .string t1, .string t2, .string t3, .string t4, .string t5] K_b2.out ?_; intro v17 hk hp; replace B0 := bp B0 hp G_b2.out; replace K_b1 := kp K_b1 hp N_b1_b2.out; replace K_b3 := kp K_b3 hp (Ne.symm N_b2_b3.out); replace K_b2 := Aside0.mk hk; clear hk hp))
 refine bodyPost_ret (results_cell_row rfl _ _ b2 59 #[.int .i64 t0, .string t1, .string t2, .string t3, .string t4, .string t5] (0, 0) _ rfl K_b2.out Try.underlying59 rfl (by kernel_rfl)) rfl ?_
 exact ⟨rfl, B0.out⟩
set_option maxRecDepth 100000 in
set_option maxHeartbeats 4000000 in
theorem made12_3 (a0 a1 a2 a3 a4 a5 a6 : Int) (hk : wrap64 (1 + Int.tmod (wrap64 (Int.tmod a0 7 + 7)) 7) = 3) : ∃ t0 t1 t2 t3 t4 t5, ∀ w : World, Calls Try.prog 21 #[.agg #[.int .i64 a0, .int .i64 a1, .int .i64 a2, .int .i64 a3, .int .i64 a4, .int .i64 a5, .int .i64 a6]] w fun e w' => e = .returned (.agg #[.int .i64 t0, .string t1, .string t2, .string t3, .string t4, .string t5]) ∧ Below w.heap.size w w' := by
 have hu62 := Try.underlying62
 have hu59 := Try.underlying59
 obtain ⟨x1, x1m, x1_⟩ := pick_mem langs_l (by decide) (by decide) a1
 replace x1_ := Aside0.mk x1_
 obtain ⟨x3, x3m, x3_⟩ := pick_mem toLangs_l (by decide) (by decide) a3
 replace x3_ := Aside0.mk x3_
 obtain ⟨x4, x4m, x4_⟩ := pick_mem lS2_l (by decide) (by decide) a4
 replace x4_ := Aside0.mk x4_
 obtain ⟨x5, x5m, x5_⟩ := pick_mem lR_l (by decide) (by decide) a5
 replace x5_ := Aside0.mk x5_
 obtain ⟨t0, t1, t2, t3, t4, t5, ht⟩ := spoilt12_some 3 x1 ⟨#[]⟩ x3 x4 x5 (Int.tmod (wrap64 (Int.tmod a6 9 + 9)) 9) (title_langs x1 x1m) (by decide)
 have HT := Aside0.mk ht
 clear ht x1m x3m x4m x5m
 refine ⟨t0, t1, t2, t3, t4, t5, fun w => ?_⟩
 have B0 := Aside0.mk (Below.refl w.heap.size w)
 go_enter Try.func21, Try.ntmps21
 go_wp2_with (first
  | ((with_reducible refine gate_dst (N := 1) rfl ?_); refine be 1 #[.int .i64 a0, .int .i64 a1, .int .i64 a2, .int .i64 a3, .int .i64 a4, .int .i64 a5, .int .i64 a6] 62 ?_; intro b1 hg v1 hbox hb; have G_b1 := Aside0.mk (show w.heap.size ≤ b1 by rw [hg]; exact B0.out.size); replace B0 := bb B0 hb; have K_b1 := Aside0.mk hbox; clear hb hbox hg)
  | ((with_reducible refine gate_dst (N := 2) rfl ?_); refine be 2 #[.int .i64 0, .string ⟨#[]⟩, .string ⟨#[]⟩, .string ⟨#[]⟩, .string ⟨#[]⟩, .string ⟨#[]⟩] 59 ?_; intro b2 hg v2 hbox hb; have N_b1_b2 := kn K_b1 hg; have G_b2 := Aside0.mk (show w.heap.size ≤ b2 by rw [hg]; exact B0.out.size); replace B0 := bb B0 hb; replace K_b1 := kb K_b1 hb; have K_b2 := Aside0.mk hbox; clear hb hbox hg; obtain ⟨y_b1_0, y_b1_1, y_b1_2, y_b1_3, y_b1_4, y_b1_5, y_b1_6⟩ := cz7 K_b1.out)
  | ((with_reducible refine gate_dst (N := 3) rfl ?_); refine be 3 #[.int .i64 0, .string ⟨#[]⟩, .string ⟨#[]⟩, .string ⟨#[]⟩, .string ⟨#[]⟩, .string ⟨#[]⟩] 59 ?_; intro b3 hg v3 hbox hb; clear y_b1_0 y_b1_1 y_b1_2 y_b1_3 y_b1_4 y_b1_5 y_b1_6; have N_b1_b3 := kn K_b1 hg; have N_b2_b3 := kn K_b2 hg; have G_b3 := Aside0.mk (show w.heap.size ≤ b3 by rw [hg]; exact B0.out.size); replace B0 := bb B0 hb; replace K_b1 := kb K_b1 hb; replace K_b2 := kb K_b2 hb; have K_b3 := Aside0.mk hbox; clear hb hbox hg)
  | ((with_reducible refine gate_ (.store 59 (.tmp 3) (.tmp 11)) rfl ?_); refine pe b3 0 #[.int .i64 3, .string ⟨#[]⟩, .string ⟨#[]⟩, .string ⟨#[]⟩, .string ⟨#[]⟩, .string ⟨#[]⟩] [.int .i64 3, .string ⟨#[]⟩, .string ⟨#[]⟩, .string ⟨#[]⟩, .string ⟨#[]⟩, .string ⟨#[]⟩] K_b3.out ?_; intro v4 hk hp; replace B0 := bp B0 hp G_b3.out; replace K_b1 := kp K_b1 hp N_b1_b3.out; replace K_b2 := kp K_b2 hp N_b2_b3.out; replace K_b3 := Aside0.mk hk; clear hk hp; obtain ⟨y_b1_0, y_b1_1, y_b1_2, y_b1_3, y_b1_4, y_b1_5, y_b1_6⟩ := cz7 K_b1.out; obtain ⟨y_b3_0, y_b3_1, y_b3_2, y_b3_3, y_b3_4, y_b3_5⟩ := cz6 K_b3.out))
 go_wp2
 try clear y_b1_0 y_b1_1 y_b1_2 y_b1_3 y_b1_4 y_b1_5 y_b1_6 y_b3_0 y_b3_1 y_b3_2 y_b3_3 y_b3_4 y_b3_5
 refine start_ (n := 6) (S := fun w' => w'.cell? ⟨b1, 1, none⟩ = some (.int .i64 a1)) (ds := []) (M 6 0) (by kernel_rfl) rfl rfl ((blk_cell K_b1.out 1).trans rfl) (fun hHeld => ?_)
 have hb : Below v4.heap.size v4 v4.drew := below_drew1 (Below.refl _ _)
 generalize v4.drew = v5 at hb hHeld ⊢
 replace B0 := bb B0 hb
 replace K_b1 := kb K_b1 hb
 replace K_b2 := kb K_b2 hb
 replace K_b3 := kb K_b3 hb
 clear hb
 refine pw 1 82 (M 6 2) ?_
 refine tw 2 83 (M 6 6) hHeld ?_
 refine ow 0 (some 81) (M 6 7) fun K hK => ?_
 refine gow Try.func43 #[] ?_
 with_reducible refine (langs_lit _).mono ?_
 rintro e v6 ⟨⟨g81, rfl, hc⟩, hb⟩
 refine ⟨_, rfl, ?_⟩
 replace B0 := bb B0 hb
 replace K_b1 := kb K_b1 hb
 replace K_b2 := kb K_b2 hb
 replace K_b3 := kb K_b3 hb
 have C_g81 := Aside0.mk hc
 clear hb hc
 refine hK.out _ _ ((blk_cell K_b1.out 1).trans rfl) (fun hHeld => ?_)
 clear hK K
 refine norm_ (a' := ?_) ?_ ?_
 rotate_left
 · show Act.put _ (some 81) _ = _
   simp only [Act.put, List.setIfInBounds_toArray, List.set_cons_zero, List.set_cons_succ, i64_w, i32_w]
   rfl
 refine ow 3 (some 84) (M 6 15) fun K hK => ?_
 refine goes_ Try.func25 (by kernel_rfl) rfl #[.slice (some ⟨g81, 0, none⟩) 8 8, .int .i64 a1] (by rfl) rfl rfl (by simp only [List.map_toArray, List.map_cons, List.map_nil]; rfl) ?_
 with_reducible refine (pick_lit langs_l 8 a1 x1 x1_.out len_langs _ C_g81.out).mono ?_
 rintro e v7 ⟨rfl, hb⟩
 refine ⟨_, rfl, ?_⟩
 replace B0 := bb B0 hb
 replace K_b1 := kb K_b1 hb
 replace K_b2 := kb K_b2 hb
 replace K_b3 := kb K_b3 hb
 clear hb C_g81
 refine hK.out _ _ ((blk_cell K_b1.out 1).trans rfl) (fun hHeld => ?_)
 clear hK K
 refine norm_ (a' := ?_) ?_ ?_
 rotate_left
 · show Act.put _ (some 84) _ = _
   simp only [Act.put, List.setIfInBounds_toArray, List.set_cons_zero, List.set_cons_succ, i64_w, i32_w]
   rfl
 refine pw 4 85 (M 6 31) ?_
 refine ow 5 none (M 6 63) fun K hK => ?_
 refine put_step (g := b3) (off := 1) (cur := #[.int .i64 3, .string ⟨#[]⟩, .string ⟨#[]⟩, .string ⟨#[]⟩, .string ⟨#[]⟩, .string ⟨#[]⟩]) (new := #[.int .i64 3, .string x1, .string ⟨#[]⟩, .string ⟨#[]⟩, .string ⟨#[]⟩, .string ⟨#[]⟩]) (seg := [.string x1]) (u := .string x1) rfl rfl rfl rfl rfl rfl (by rfl) (by kernel_rfl) rfl rfl (Nat.le_of_ble_eq_true rfl) K_b3.out ?_
 intro v8 hk hp
 replace B0 := bp B0 hp G_b3.out
 replace K_b1 := kp K_b1 hp N_b1_b3.out
 replace K_b2 := kp K_b2 hp N_b2_b3.out
 replace K_b3 := Aside0.mk hk
 clear hk hp
 refine hK.out _ _ ((blk_cell K_b1.out 1).trans rfl) (fun hHeld => ?_)
 clear hK K
 refine done_ (by kernel_rfl) ?_

 go_wp2
 skip
 refine start_ (n := 6) (S := fun w' => w'.cell? ⟨b1, 3, none⟩ = some (.int .i64 a3)) (ds := []) (M 6 0) (by kernel_rfl) rfl rfl ((blk_cell K_b1.out 3).trans rfl) (fun hHeld => ?_)
 have hb : Below v8.heap.size v8 v8.drew := below_drew1 (Below.refl _ _)
 generalize v8.drew = v9 at hb hHeld ⊢
 replace B0 := bb B0 hb
 replace K_b1 := kb K_b1 hb
 replace K_b2 := kb K_b2 hb
 replace K_b3 := kb K_b3 hb
 clear hb
 refine pw 1 87 (M 6 2) ?_
 refine tw 2 88 (M 6 6) hHeld ?_
 refine ow 0 (some 86) (M 6 7) fun K hK => ?_
 refine gow Try.func42 #[] ?_
 with_reducible refine (toLangs_lit _).mono ?_
 rintro e v10 ⟨⟨g86, rfl, hc⟩, hb⟩
 refine ⟨_, rfl, ?_⟩
 replace B0 := bb B0 hb
 replace K_b1 := kb K_b1 hb
 replace K_b2 := kb K_b2 hb
 replace K_b3 := kb K_b3 hb
 have C_g86 := Aside0.mk hc
 clear hb hc
 refine hK.out _ _ ((blk_cell K_b1.out 3).trans rfl) (fun hHeld => ?_)
 clear hK K
 refine norm_ (a' := ?_) ?_ ?_
 rotate_left
 · show Act.put _ (some 86) _ = _
   simp only [Act.put, List.setIfInBounds_toArray, List.set_cons_zero, List.set_cons_succ, i64_w, i32_w]
   rfl
 refine ow 3 (some 89) (M 6 15) fun K hK => ?_
 refine goes_ Try.func25 (by kernel_rfl) rfl #[.slice (some ⟨g86, 0, none⟩) 8 8, .int .i64 a3] (by rfl) rfl rfl (by simp only [List.map_toArray, List.map_cons, List.map_nil]; rfl) ?_
 with_reducible refine (pick_lit toLangs_l 8 a3 x3 x3_.out len_toLangs _ C_g86.out).mono ?_
 rintro e v11 ⟨rfl, hb⟩
 refine ⟨_, rfl, ?_⟩
 replace B0 := bb B0 hb
 replace K_b1 := kb K_b1 hb
 replace K_b2 := kb K_b2 hb
 replace K_b3 := kb K_b3 hb
 clear hb C_g86
 refine hK.out _ _ ((blk_cell K_b1.out 3).trans rfl) (fun hHeld => ?_)
 clear hK K
 refine norm_ (a' := ?_) ?_ ?_
 rotate_left
 · show Act.put _ (some 89) _ = _
   simp only [Act.put, List.setIfInBounds_toArray, List.set_cons_zero, List.set_cons_succ, i64_w, i32_w]
   rfl
 refine pw 4 90 (M 6 31) ?_
 refine ow 5 none (M 6 63) fun K hK => ?_
 refine put_step (g := b3) (off := 3) (cur := #[.int .i64 3, .string x1, .string ⟨#[]⟩, .string ⟨#[]⟩, .string ⟨#[]⟩, .string ⟨#[]⟩]) (new := #[.int .i64 3, .string x1, .string ⟨#[]⟩, .string x3, .string ⟨#[]⟩, .string ⟨#[]⟩]) (seg := [.string x3]) (u := .string x3) rfl rfl rfl rfl rfl rfl (by rfl) (by kernel_rfl) rfl rfl (Nat.le_of_ble_eq_true rfl) K_b3.out ?_
 intro v12 hk hp
 replace B0 := bp B0 hp G_b3.out
 replace K_b1 := kp K_b1 hp N_b1_b3.out
 replace K_b2 := kp K_b2 hp N_b2_b3.out
 replace K_b3 := Aside0.mk hk
 clear hk hp
 refine hK.out _ _ ((blk_cell K_b1.out 3).trans rfl) (fun hHeld => ?_)
 clear hK K
 refine done_ (by kernel_rfl) ?_

 go_wp2_with (first
  | ((with_reducible refine gate_dst (N := 91) rfl ?_); refine lit_event ?hg (N := 91) ?hd (cs := #[.string ⟨#[]⟩, .string ⟨#[108, 97, 116, 110]⟩]) (e := 9) (n := 2) ?hr ?_; (case hd => rfl); (case hg => rfl); (case hr => first | (go_simp; done) | (go_simp; rfl)); intro g91 hg v13 hbox hb; replace B0 := bb B0 hb; replace K_b1 := kb K_b1 hb; replace K_b2 := kb K_b2 hb; replace K_b3 := kb K_b3 hb; have C_g91 := Aside0.mk (CStr (B := g91) lS2_l (by decide) hbox); clear hb hbox hg; obtain ⟨y_b1_0, y_b1_1, y_b1_2, y_b1_3, y_b1_4, y_b1_5, y_b1_6⟩ := cz7 K_b1.out)
  | ((with_reducible refine gate_callee (f := 25) rfl ?_); refine goesL_ (some 94) rfl rfl Try.func25 (by kernel_rfl) rfl #[.slice (some ⟨g91, 0, none⟩) 2 2, .int .i64 a4] rfl mq ?_; (with_reducible refine (pick_lit lS2_l 2 a4 x4 x4_.out len_lS2 _ C_g91.out).mono ?_); rintro e v14 ⟨rfl, hb⟩; refine ⟨_, rfl, ?_⟩; clear y_b1_0 y_b1_1 y_b1_2 y_b1_3 y_b1_4 y_b1_5 y_b1_6; clear C_g91; replace B0 := bb B0 hb; replace K_b1 := kb K_b1 hb; replace K_b2 := kb K_b2 hb; replace K_b3 := kb K_b3 hb; clear hb)
  | ((with_reducible refine gate_ (.store 9 (.tmp 95) (.tmp 94)) rfl ?_); refine pe b3 4 #[.int .i64 3, .string x1, .string ⟨#[]⟩, .string x3, .string x4, .string ⟨#[]⟩] [.string x4] K_b3.out ?_; intro v15 hk hp; replace B0 := bp B0 hp G_b3.out; replace K_b1 := kp K_b1 hp N_b1_b3.out; replace K_b2 := kp K_b2 hp N_b2_b3.out; replace K_b3 := Aside0.mk hk; clear hk hp)
  | ((with_reducible refine gate_dst (N := 96) rfl ?_); refine lit_event ?hg (N := 96) ?hd (cs := #[.string ⟨#[]⟩, .string ⟨#[]⟩, .string ⟨#[117, 115]⟩]) (e := 9) (n := 3) ?hr ?_; (case hd => rfl); (case hg => rfl); (case hr => first | (go_simp; done) | (go_simp; rfl)); intro g96 hg v16 hbox hb; replace B0 := bb B0 hb; replace K_b1 := kb K_b1 hb; replace K_b2 := kb K_b2 hb; replace K_b3 := kb K_b3 hb; have C_g96 := Aside0.mk (CStr (B := g96) lR_l (by decide) hbox); clear hb hbox hg; obtain ⟨y_b1_0, y_b1_1, y_b1_2, y_b1_3, y_b1_4, y_b1_5, y_b1_6⟩ := cz7 K_b1.out)
  | ((with_reducible refine gate_callee (f := 25) rfl ?_); refine goesL_ (some 99) rfl rfl Try.func25 (by kernel_rfl) rfl #[.slice (some ⟨g96, 0, none⟩) 3 3, .int .i64 a5] rfl mq ?_; (with_reducible refine (pick_lit lR_l 3 a5 x5 x5_.out len_lR _ C_g96.out).mono ?_); rintro e v17 ⟨rfl, hb⟩; refine ⟨_, rfl, ?_⟩; clear y_b1_0 y_b1_1 y_b1_2 y_b1_3 y_b1_4 y_b1_5 y_b1_6; clear C_g96; replace B0 := bb B0 hb; replace K_b1 := kb K_b1 hb; replace K_b2 := kb K_b2 hb; replace K_b3 := kb K_b3 hb; clear hb)
  | ((with_reducible refine gate_ (.store 9 (.tmp 100) (.tmp 99)) rfl ?_); refine pe b3 5 #[.int .i64 3, .string x1, .string ⟨#[]⟩, .string x3, .string x4, .string x5] [.string x5] K_b3.out ?_; intro v18 hk hp; replace B0 := bp B0 hp G_b3.out; replace K_b1 := kp K_b1 hp N_b1_b3.out; replace K_b2 := kp K_b2 hp N_b2_b3.out; replace K_b3 := Aside0.mk hk; clear hk hp; obtain ⟨y_b1_0, y_b1_1, y_b1_2, y_b1_3, y_b1_4, y_b1_5, y_b1_6⟩ := cz7 K_b1.out; obtain ⟨y_b3_0, y_b3_1, y_b3_2, y_b3_3, y_b3_4, y_b3_5⟩ := cz6 K_b3.out)
  | ((with_reducible refine gate_callee (f := 48) rfl ?_); refine goesL_ (some 143) rfl rfl Try.func48 (by kernel_rfl) rfl #[.agg #[.int .i64 3, .string x1, .string ⟨#[]⟩, .string x3, .string x4, .string x5], .int .i64 (Int.tmod (wrap64 (Int.tmod a6 9 + 9)) 9)] rfl mq ?_; (with_reducible refine (isoglossref12_spoilt.calls 20 3 x1 ⟨#[]⟩ x3 x4 x5 (Int.tmod (wrap64 (Int.tmod a6 9 + 9)) 9) t0 t1 t2 t3 t4 t5 _ HT.out).mono ?_); rintro e v19 ⟨rfl, hb⟩; refine ⟨_, rfl, ?_⟩; clear y_b1_0 y_b1_1 y_b1_2 y_b1_3 y_b1_4 y_b1_5 y_b1_6 y_b3_0 y_b3_1 y_b3_2 y_b3_3 y_b3_4 y_b3_5; replace B0 := bb B0 hb; replace K_b1 := kb K_b1 hb; replace K_b2 := kb K_b2 hb; replace K_b3 := kb K_b3 hb; clear hb)
  | ((with_reducible refine gate_ (.store 59 (.tmp 2) (.tmp 143)) rfl ?_); refine pe b2 0 #[.int .i64 t0, .string t1, .string t2, .string t3, .string t4, .string t5] [.int .i64 t0, .string t1, .string t2, .string t3, .string t4, .string t5] K_b2.out ?_; intro v20 hk hp; replace B0 := bp B0 hp G_b2.out; replace K_b1 := kp K_b1 hp N_b1_b2.out; replace K_b3 := kp K_b3 hp (Ne.symm N_b2_b3.out); replace K_b2 := Aside0.mk hk; clear hk hp))
 refine bodyPost_ret (results_cell_row rfl _ _ b2 59 #[.int .i64 t0, .string t1, .string t2, .string t3, .string t4, .string t5] (0, 0) _ rfl K_b2.out Try.underlying59 rfl (by kernel_rfl)) rfl ?_
 exact ⟨rfl, B0.out⟩
set_option maxRecDepth 100000 in
set_option maxHeartbeats 4000000 in
theorem made12_4 (a0 a1 a2 a3 a4 a5 a6 : Int) (hk : wrap64 (1 + Int.tmod (wrap64 (Int.tmod a0 7 + 7)) 7) = 4) : ∃ t0 t1 t2 t3 t4 t5, ∀ w : World, Calls Try.prog 21 #[.agg #[.int .i64 a0, .int .i64 a1, .int .i64 a2, .int .i64 a3, .int .i64 a4, .int .i64 a5, .int .i64 a6]] w fun e w' => e = .returned (.agg #[.int .i64 t0, .string t1, .string t2, .string t3, .string t4, .string t5]) ∧ Below w.heap.size w w' := by
 have hu62 := Try.underlying62
 have hu59 := Try.underlying59
 obtain ⟨x1, x1m, x1_⟩ := pick_mem scripts_l (by decide) (by decide) a1
 replace x1_ := Aside0.mk x1_
 obtain ⟨x4, x4m, x4_⟩ := pick_mem toScripts_l (by decide) (by decide) a4
 replace x4_ := Aside0.mk x4_
 obtain ⟨t0, t1, t2, t3, t4, t5, ht⟩ := spoilt12_some 4 x1 ⟨#[]⟩ ⟨#[]⟩ x4 ⟨#[]⟩ (Int.tmod (wrap64 (Int.tmod a6 9 + 9)) 9) (title_scripts x1 x1m) (by decide)
 have HT := Aside0.mk ht
 clear ht x1m x4m
 refine ⟨t0, t1, t2, t3, t4, t5, fun w => ?_⟩
 have B0 := Aside0.mk (Below.refl w.heap.size w)
 go_enter Try.func21, Try.ntmps21
 go_wp2_with (first
  | ((with_reducible refine gate_dst (N := 1) rfl ?_); refine be 1 #[.int .i64 a0, .int .i64 a1, .int .i64 a2, .int .i64 a3, .int .i64 a4, .int .i64 a5, .int .i64 a6] 62 ?_; intro b1 hg v1 hbox hb; have G_b1 := Aside0.mk (show w.heap.size ≤ b1 by rw [hg]; exact B0.out.size); replace B0 := bb B0 hb; have K_b1 := Aside0.mk hbox; clear hb hbox hg)
  | ((with_reducible refine gate_dst (N := 2) rfl ?_); refine be 2 #[.int .i64 0, .string ⟨#[]⟩, .string ⟨#[]⟩, .string ⟨#[]⟩, .string ⟨#[]⟩, .string ⟨#[]⟩] 59 ?_; intro b2 hg v2 hbox hb; have N_b1_b2 := kn K_b1 hg; have G_b2 := Aside0.mk (show w.heap.size ≤ b2 by rw [hg]; exact B0.out.size); replace B0 := bb B0 hb; replace K_b1 := kb K_b1 hb; have K_b2 := Aside0.mk hbox; clear hb hbox hg; obtain ⟨y_b1_0, y_b1_1, y_b1_2, y_b1_3, y_b1_4, y_b1_5, y_b1_6⟩ := cz7 K_b1.out)
  | ((with_reducible refine gate_dst (N := 3) rfl ?_); refine be 3 #[.int .i64 0, .string ⟨#[]⟩, .string ⟨#[]⟩, .string ⟨#[]⟩, .string ⟨#[]⟩, .string ⟨#[]⟩] 59 ?_; intro b3 hg v3 hbox hb; clear y_b1_0 y_b1_1 y_b1_2 y_b1_3 y_b1_4 y_b1_5 y_b1_6; have N_b1_b3 := kn K_b1 hg; have N_b2_b3 := kn K_b2 hg; have G_b3 := Aside0.mk (show w.heap.size ≤ b3 by rw [hg]; exact B0.out.size); replace B0 := bb B0 hb; replace K_b1 := kb K_b1 hb; replace K_b2 := kb K_b2 hb; have K_b3 := Aside0.mk hbox; clear hb hbox hg)
  | ((with_reducible refine gate_ (.store 59 (.tmp 3) (.tmp 11)) rfl ?_); refine pe b3 0 #[.int .i64 4, .string ⟨#[]⟩, .string ⟨#[]⟩, .string ⟨#[]⟩, .string ⟨#[]⟩, .string ⟨#[]⟩] [.int .i64 4, .string ⟨#[]⟩, .string ⟨#[]⟩, .string ⟨#[]⟩, .string ⟨#[]⟩, .string ⟨#[]⟩] K_b3.out ?_; intro v4 hk hp; replace B0 := bp B0 hp G_b3.out; replace K_b1 := kp K_b1 hp N_b1_b3.out; replace K_b2 := kp K_b2 hp N_b2_b3.out; replace K_b3 := Aside0.mk hk; clear hk hp; obtain ⟨y_b1_0, y_b1_1, y_b1_2, y_b1_3, y_b1_4, y_b1_5, y_b1_6⟩ := cz7 K_b1.out; obtain ⟨y_b3_0, y_b3_1, y_b3_2, y_b3_3, y_b3_4, y_b3_5⟩ := cz6 K_b3.out))
 go_wp2
 try clear y_b1_0 y_b1_1 y_b1_2 y_b1_3 y_b1_4 y_b1_5 y_b1_6 y_b3_0 y_b3_1 y_b3_2 y_b3_3 y_b3_4 y_b3_5
 refine start_ (n := 6) (S := fun w' => w'.cell? ⟨b1, 1, none⟩ = some (.int .i64 a1)) (ds := []) (M 6 0) (by kernel_rfl) rfl rfl ((blk_cell K_b1.out 1).trans rfl) (fun hHeld => ?_)
 have hb : Below v4.heap.size v4 v4.drew := below_drew1 (Below.refl _ _)
 generalize v4.drew = v5 at hb hHeld ⊢
 replace B0 := bb B0 hb
 replace K_b1 := kb K_b1 hb
 replace K_b2 := kb K_b2 hb
 replace K_b3 := kb K_b3 hb
 clear hb
 refine pw 1 104 (M 6 2) ?_
 refine tw 2 105 (M 6 6) hHeld ?_
 refine ow 0 (some 103) (M 6 7) fun K hK => ?_
 refine gow Try.func44 #[] ?_
 with_reducible refine (scripts_lit _).mono ?_
 rintro e v6 ⟨⟨g103, rfl, hc⟩, hb⟩
 refine ⟨_, rfl, ?_⟩
 replace B0 := bb B0 hb
 replace K_b1 := kb K_b1 hb
 replace K_b2 := kb K_b2 hb
 replace K_b3 := kb K_b3 hb
 have C_g103 := Aside0.mk hc
 clear hb hc
 refine hK.out _ _ ((blk_cell K_b1.out 1).trans rfl) (fun hHeld => ?_)
 clear hK K
 refine norm_ (a' := ?_) ?_ ?_
 rotate_left
 · show Act.put _ (some 103) _ = _
   simp only [Act.put, List.setIfInBounds_toArray, List.set_cons_zero, List.set_cons_succ, i64_w, i32_w]
   rfl
 refine ow 3 (some 106) (M 6 15) fun K hK => ?_
 refine goes_ Try.func25 (by kernel_rfl) rfl #[.slice (some ⟨g103, 0, none⟩) 3 3, .int .i64 a1] (by rfl) rfl rfl (by simp only [List.map_toArray, List.map_cons, List.map_nil]; rfl) ?_
 with_reducible refine (pick_lit scripts_l 3 a1 x1 x1_.out len_scripts _ C_g103.out).mono ?_
 rintro e v7 ⟨rfl, hb⟩
 refine ⟨_, rfl, ?_⟩
 replace B0 := bb B0 hb
 replace K_b1 := kb K_b1 hb
 replace K_b2 := kb K_b2 hb
 replace K_b3 := kb K_b3 hb
 clear hb C_g103
 refine hK.out _ _ ((blk_cell K_b1.out 1).trans rfl) (fun hHeld => ?_)
 clear hK K
 refine norm_ (a' := ?_) ?_ ?_
 rotate_left
 · show Act.put _ (some 106) _ = _
   simp only [Act.put, List.setIfInBounds_toArray, List.set_cons_zero, List.set_cons_succ, i64_w, i32_w]
   rfl
 refine pw 4 107 (M 6 31) ?_
 refine ow 5 none (M 6 63) fun K hK => ?_
 refine put_step (g := b3) (off := 1) (cur := #[.int .i64 4, .string ⟨#[]⟩, .string ⟨#[]⟩, .string ⟨#[]⟩, .string ⟨#[]⟩, .string ⟨#[]⟩]) (new := #[.int .i64 4, .string x1, .string ⟨#[]⟩, .string ⟨#[]⟩, .string ⟨#[]⟩, .string ⟨#[]⟩]) (seg := [.string x1]) (u := .string x1) rfl rfl rfl rfl rfl rfl (by rfl) (by kernel_rfl) rfl rfl (Nat.le_of_ble_eq_true rfl) K_b3.out ?_
 intro v8 hk hp
 replace B0 := bp B0 hp G_b3.out
 replace K_b1 := kp K_b1 hp N_b1_b3.out
 replace K_b2 := kp K_b2 hp N_b2_b3.out
 replace K_b3 := Aside0.mk hk
 clear hk hp
 refine hK.out _ _ ((blk_cell K_b1.out 1).trans rfl) (fun hHeld => ?_)
 clear hK K
 refine done_ (by kernel_rfl) ?_

 go_wp2
 skip
 refine start_ (n := 6) (S := fun w' => w'.cell? ⟨b1, 4, none⟩ = some (.int .i64 a4)) (ds := []) (M 6 0) (by kernel_rfl) rfl rfl ((blk_cell K_b1.out 4).trans rfl) (fun hHeld => ?_)
 have hb : Below v8.heap.size v8 v8.drew := below_drew1 (Below.refl _ _)
 generalize v8.drew = v9 at hb hHeld ⊢
 replace B0 := bb B0 hb
 replace K_b1 := kb K_b1 hb
 replace K_b2 := kb K_b2 hb
 replace K_b3 := kb K_b3 hb
 clear hb
 refine pw 1 109 (M 6 2) ?_
 refine tw 2 110 (M 6 6) hHeld ?_
 refine ow 0 (some 108) (M 6 7) fun K hK => ?_
 refine gow Try.func45 #[] ?_
 with_reducible refine (toScripts_lit _).mono ?_
 rintro e v10 ⟨⟨g108, rfl, hc⟩, hb⟩
 refine ⟨_, rfl, ?_⟩
 replace B0 := bb B0 hb
 replace K_b1 := kb K_b1 hb
 replace K_b2 := kb K_b2 hb
 replace K_b3 := kb K_b3 hb
 have C_g108 := Aside0.mk hc
 clear hb hc
 refine hK.out _ _ ((blk_cell K_b1.out 4).trans rfl) (fun hHeld => ?_)
 clear hK K
 refine norm_ (a' := ?_) ?_ ?_
 rotate_left
 · show Act.put _ (some 108) _ = _
   simp only [Act.put, List.setIfInBounds_toArray, List.set_cons_zero, List.set_cons_succ, i64_w, i32_w]
   rfl
 refine ow 3 (some 111) (M 6 15) fun K hK => ?_
 refine goes_ Try.func25 (by kernel_rfl) rfl #[.slice (some ⟨g108, 0, none⟩) 3 3, .int .i64 a4] (by rfl) rfl rfl (by simp only [List.map_toArray, List.map_cons, List.map_nil]; rfl) ?_
 with_reducible refine (pick_lit toScripts_l 3 a4 x4 x4_.out len_toScripts _ C_g108.out).mono ?_
 rintro e v11 ⟨rfl, hb⟩
 refine ⟨_, rfl, ?_⟩
 replace B0 := bb B0 hb
 replace K_b1 := kb K_b1 hb
 replace K_b2 := kb K_b2 hb
 replace K_b3 := kb K_b3 hb
 clear hb C_g108
 refine hK.out _ _ ((blk_cell K_b1.out 4).trans rfl) (fun hHeld => ?_)
 clear hK K
 refine norm_ (a' := ?_) ?_ ?_
 rotate_left
 · show Act.put _ (some 111) _ = _
   simp only [Act.put, List.setIfInBounds_toArray, List.set_cons_zero, List.set_cons_succ, i64_w, i32_w]
   rfl
 refine pw 4 112 (M 6 31) ?_
 refine ow 5 none (M 6 63) fun K hK => ?_
 refine put_step (g := b3) (off := 4) (cur := #[.int .i64 4, .string x1, .string ⟨#[]⟩, .string ⟨#[]⟩, .string ⟨#[]⟩, .string ⟨#[]⟩]) (new := #[.int .i64 4, .string x1, .string ⟨#[]⟩, .string ⟨#[]⟩, .string x4, .string ⟨#[]⟩]) (seg := [.string x4]) (u := .string x4) rfl rfl rfl rfl rfl rfl (by rfl) (by kernel_rfl) rfl rfl (Nat.le_of_ble_eq_true rfl) K_b3.out ?_
 intro v12 hk hp
 replace B0 := bp B0 hp G_b3.out
 replace K_b1 := kp K_b1 hp N_b1_b3.out
 replace K_b2 := kp K_b2 hp N_b2_b3.out
 replace K_b3 := Aside0.mk hk
 clear hk hp
 refine hK.out _ _ ((blk_cell K_b1.out 4).trans rfl) (fun hHeld => ?_)
 clear hK K
 refine done_ (by kernel_rfl) ?_

 obtain ⟨y_b1_0, y_b1_1, y_b1_2, y_b1_3, y_b1_4, y_b1_5, y_b1_6⟩ := cz7 K_b1.out
 obtain ⟨y_b3_0, y_b3_1, y_b3_2, y_b3_3, y_b3_4, y_b3_5⟩ := cz6 K_b3.out
 go_wp2_with (first
  | ((with_reducible refine gate_callee (f := 48) rfl ?_); refine goesL_ (some 143) rfl rfl Try.func48 (by kernel_rfl) rfl #[.agg #[.int .i64 4, .string x1, .string ⟨#[]⟩, .string ⟨#[]⟩, .string x4, .string ⟨#[]⟩], .int .i64 (Int.tmod (wrap64 (Int.tmod a6 9 + 9)) 9)] rfl mq ?_; (with_reducible refine (isoglossref12_spoilt.calls 20 4 x1 ⟨#[]⟩ ⟨#[]⟩ x4 ⟨#[]⟩ (Int.tmod (wrap64 (Int.tmod a6 9 + 9)) 9) t0 t1 t2 t3 t4 t5 _ HT.out).mono ?_); rintro e v13 ⟨rfl, hb⟩; refine ⟨_, rfl, ?_⟩; replace B0 := bb B0 hb; replace K_b1 := kb K_b1 hb; replace K_b2 := kb K_b2 hb; replace K_b3 := kb K_b3 hb; clear hb)
  | ((with_reducible refine gate_ (.store 59 (.tmp 2) (.tmp 143)) rfl ?_); refine pe b2 0 #[.int .i64 t0, .string t1, .string t2, .string t3, .string t4, .string t5] [.int .i64 t0, .string t1, .string t2, .string t3, .string t4, .string t5] K_b2.out ?_; intro v14 hk hp; replace B0 := bp B0 hp G_b2.out; replace K_b1 := kp K_b1 hp N_b1_b2.out; replace K_b3 := kp K_b3 hp (Ne.symm N_b2_b3.out); replace K_b2 := Aside0.mk hk; clear hk hp))
 refine bodyPost_ret (results_cell_row rfl _ _ b2 59 #[.int .i64 t0, .string t1, .string t2, .string t3, .string t4, .string t5] (0, 0) _ rfl K_b2.out Try.underlying59 rfl (by kernel_rfl)) rfl ?_
 exact ⟨rfl, B0.out⟩
set_option maxRecDepth 100000 in
set_option maxHeartbeats 4000000 in
theorem made12_5 (a0 a1 a2 a3 a4 a5 a6 : Int) (hk : wrap64 (1 + Int.tmod (wrap64 (Int.tmod a0 7 + 7)) 7) = 5) : ∃ t0 t1 t2 t3 t4 t5, ∀ w : World, Calls Try.prog 21 #[.agg #[.int .i64 a0, .int .i64 a1, .int .i64 a2, .int .i64 a3, .int .i64 a4, .int .i64 a5, .int .i64 a6]] w fun e w' => e = .returned (.agg #[.int .i64 t0, .string t1, .string t2, .string t3, .string t4, .string t5]) ∧ Below w.heap.size w w' := by
 have hu62 := Try.underlying62
 have hu59 := Try.underlying59
 obtain ⟨x1, x1m, x1_⟩ := pick_mem regions_l (by decide) (by decide) a1
 replace x1_ := Aside0.mk x1_
 obtain ⟨x5, x5m, x5_⟩ := pick_mem toRegions_l (by decide) (by decide) a5
 replace x5_ := Aside0.mk x5_
 obtain ⟨t0, t1, t2, t3, t4, t5, ht⟩ := spoilt12_some 5 x1 ⟨#[]⟩ ⟨#[]⟩ ⟨#[]⟩ x5 (Int.tmod (wrap64 (Int.tmod a6 9 + 9)) 9) (title_regions x1 x1m) (by decide)
 have HT := Aside0.mk ht
 clear ht x1m x5m
 refine ⟨t0, t1, t2, t3, t4, t5, fun w => ?_⟩
 have B0 := Aside0.mk (Below.refl w.heap.size w)
 go_enter Try.func21, Try.ntmps21
 go_wp2_with (first
  | ((with_reducible refine gate_dst (N := 1) rfl ?_); refine be 1 #[.int .i64 a0, .int .i64 a1, .int .i64 a2, .int .i64 a3, .int .i64 a4, .int .i64 a5, .int .i64 a6] 62 ?_; intro b1 hg v1 hbox hb; have G_b1 := Aside0.mk (show w.heap.size ≤ b1 by rw [hg]; exact B0.out.size); replace B0 := bb B0 hb; have K_b1 := Aside0.mk hbox; clear hb hbox hg)
  | ((with_reducible refine gate_dst (N := 2) rfl ?_); refine be 2 #[.int .i64 0, .string ⟨#[]⟩, .string ⟨#[]⟩, .string ⟨#[]⟩, .string ⟨#[]⟩, .string ⟨#[]⟩] 59 ?_; intro b2 hg v2 hbox hb; have N_b1_b2 := kn K_b1 hg; have G_b2 := Aside0.mk (show w.heap.size ≤ b2 by rw [hg]; exact B0.out.size); replace B0 := bb B0 hb; replace K_b1 := kb K_b1 hb; have K_b2 := Aside0.mk hbox; clear hb hbox hg; obtain ⟨y_b1_0, y_b1_1, y_b1_2, y_b1_3, y_b1_4, y_b1_5, y_b1_6⟩ := cz7 K_b1.out)
  | ((with_reducible refine gate_dst (N := 3) rfl ?_); refine be 3 #[.int .i64 0, .string ⟨#[]⟩, .string ⟨#[]⟩, .string ⟨#[]⟩, .string ⟨#[]⟩, .string ⟨#[]⟩] 59 ?_; intro b3 hg v3 hbox hb; clear y_b1_0 y_b1_1 y_b1_2 y_b1_3 y_b1_4 y_b1_5 y_b1_6; have N_b1_b3 := kn K_b1 hg; have N_b2_b3 := kn K_b2 hg; have G_b3 := Aside0.mk (show w.heap.size ≤ b3 by rw [hg]; exact B0.out.size); replace B0 := bb B0 hb; replace K_b1 := kb K_b1 hb; replace K_b2 := kb K_b2 hb; have K_b3 := Aside0.mk hbox; clear hb hbox hg)
  | ((with_reducible refine gate_ (.store 59 (.tmp 3) (.tmp 11)) rfl ?_); refine pe b3 0 #[.int .i64 5, .string ⟨#[]⟩, .string ⟨#[]⟩, .string ⟨#[]⟩, .string ⟨#[]⟩, .string ⟨#[]⟩] [.int .i64 5, .string ⟨#[]⟩, .string ⟨#[]⟩, .string ⟨#[]⟩, .string ⟨#[]⟩, .string ⟨#[]⟩] K_b3.out ?_; intro v4 hk hp; replace B0 := bp B0 hp G_b3.out; replace K_b1 := kp K_b1 hp N_b1_b3.out; replace K_b2 := kp K_b2 hp N_b2_b3.out; replace K_b3 := Aside0.mk hk; clear hk hp; obtain ⟨y_b1_0, y_b1_1, y_b1_2, y_b1_3, y_b1_4, y_b1_5, y_b1_6⟩ := cz7 K_b1.out; obtain ⟨y_b3_0, y_b3_1, y_b3_2, y_b3_3, y_b3_4, y_b3_5⟩ := cz6 K_b3.out))
 go_wp2
 try clear y_b1_0 y_b1_1 y_b1_2 y_b1_3 y_b1_4 y_b1_5 y_b1_6 y_b3_0 y_b3_1 y_b3_2 y_b3_3 y_b3_4 y_b3_5
 refine start_ (n := 6) (S := fun w' => w'.cell? ⟨b1, 1, none⟩ = some (.int .i64 a1)) (ds := []) (M 6 0) (by kernel_rfl) rfl rfl ((blk_cell K_b1.out 1).trans rfl) (fun hHeld => ?_)
 have hb : Below v4.heap.size v4 v4.drew := below_drew1 (Below.refl _ _)
 generalize v4.drew = v5 at hb hHeld ⊢
 replace B0 := bb B0 hb
 replace K_b1 := kb K_b1 hb
 replace K_b2 := kb K_b2 hb
 replace K_b3 := kb K_b3 hb
 clear hb
 refine pw 1 116 (M 6 2) ?_
 refine tw 2 117 (M 6 6) hHeld ?_
 refine ow 0 (some 115) (M 6 7) fun K hK => ?_
 refine gow Try.func46 #[] ?_
 with_reducible refine (regions_lit _).mono ?_
 rintro e v6 ⟨⟨g115, rfl, hc⟩, hb⟩
 refine ⟨_, rfl, ?_⟩
 replace B0 := bb B0 hb
 replace K_b1 := kb K_b1 hb
 replace K_b2 := kb K_b2 hb
 replace K_b3 := kb K_b3 hb
 have C_g115 := Aside0.mk hc
 clear hb hc
 refine hK.out _ _ ((blk_cell K_b1.out 1).trans rfl) (fun hHeld => ?_)
 clear hK K
 refine norm_ (a' := ?_) ?_ ?_
 rotate_left
 · show Act.put _ (some 115) _ = _
   simp only [Act.put, List.setIfInBounds_toArray, List.set_cons_zero, List.set_cons_succ, i64_w, i32_w]
   rfl
 refine ow 3 (some 118) (M 6 15) fun K hK => ?_
 refine goes_ Try.func25 (by kernel_rfl) rfl #[.slice (some ⟨g115, 0, none⟩) 4 4, .int .i64 a1] (by rfl) rfl rfl (by simp only [List.map_toArray, List.map_cons, List.map_nil]; rfl) ?_
 with_reducible refine (pick_lit regions_l 4 a1 x1 x1_.out len_regions _ C_g115.out).mono ?_
 rintro e v7 ⟨rfl, hb⟩
 refine ⟨_, rfl, ?_⟩
 replace B0 := bb B0 hb
 replace K_b1 := kb K_b1 hb
 replace K_b2 := kb K_b2 hb
 replace K_b3 := kb K_b3 hb
 clear hb C_g115
 refine hK.out _ _ ((blk_cell K_b1.out 1).trans rfl) (fun hHeld => ?_)
 clear hK K
 refine norm_ (a' := ?_) ?_ ?_
 rotate_left
 · show Act.put _ (some 118) _ = _
   simp only [Act.put, List.setIfInBounds_toArray, List.set_cons_zero, List.set_cons_succ, i64_w, i32_w]
   rfl
 refine pw 4 119 (M 6 31) ?_
 refine ow 5 none (M 6 63) fun K hK => ?_
 refine put_step (g := b3) (off := 1) (cur := #[.int .i64 5, .string ⟨#[]⟩, .string ⟨#[]⟩, .string ⟨#[]⟩, .string ⟨#[]⟩, .string ⟨#[]⟩]) (new := #[.int .i64 5, .string x1, .string ⟨#[]⟩, .string ⟨#[]⟩, .string ⟨#[]⟩, .string ⟨#[]⟩]) (seg := [.string x1]) (u := .string x1) rfl rfl rfl rfl rfl rfl (by rfl) (by kernel_rfl) rfl rfl (Nat.le_of_ble_eq_true rfl) K_b3.out ?_
 intro v8 hk hp
 replace B0 := bp B0 hp G_b3.out
 replace K_b1 := kp K_b1 hp N_b1_b3.out
 replace K_b2 := kp K_b2 hp N_b2_b3.out
 replace K_b3 := Aside0.mk hk
 clear hk hp
 refine hK.out _ _ ((blk_cell K_b1.out 1).trans rfl) (fun hHeld => ?_)
 clear hK K
 refine done_ (by kernel_rfl) ?_

 go_wp2
 skip
 refine start_ (n := 6) (S := fun w' => w'.cell? ⟨b1, 5, none⟩ = some (.int .i64 a5)) (ds := []) (M 6 0) (by kernel_rfl) rfl rfl ((blk_cell K_b1.out 5).trans rfl) (fun hHeld => ?_)
 have hb : Below v8.heap.size v8 v8.drew := below_drew1 (Below.refl _ _)
 generalize v8.drew = v9 at hb hHeld ⊢
 replace B0 := bb B0 hb
 replace K_b1 := kb K_b1 hb
 replace K_b2 := kb K_b2 hb
 replace K_b3 := kb K_b3 hb
 clear hb
 refine pw 1 121 (M 6 2) ?_
 refine tw 2 122 (M 6 6) hHeld ?_
 refine ow 0 (some 120) (M 6 7) fun K hK => ?_
 refine gow Try.func47 #[] ?_
 with_reducible refine (toRegions_lit _).mono ?_
 rintro e v10 ⟨⟨g120, rfl, hc⟩, hb⟩
 refine ⟨_, rfl, ?_⟩
 replace B0 := bb B0 hb
 replace K_b1 := kb K_b1 hb
 replace K_b2 := kb K_b2 hb
 replace K_b3 := kb K_b3 hb
 have C_g120 := Aside0.mk hc
 clear hb hc
 refine hK.out _ _ ((blk_cell K_b1.out 5).trans rfl) (fun hHeld => ?_)
 clear hK K
 refine norm_ (a' := ?_) ?_ ?_
 rotate_left
 · show Act.put _ (some 120) _ = _
   simp only [Act.put, List.setIfInBounds_toArray, List.set_cons_zero, List.set_cons_succ, i64_w, i32_w]
   rfl
 refine ow 3 (some 123) (M 6 15) fun K hK => ?_
 refine goes_ Try.func25 (by kernel_rfl) rfl #[.slice (some ⟨g120, 0, none⟩) 4 4, .int .i64 a5] (by rfl) rfl rfl (by simp only [List.map_toArray, List.map_cons, List.map_nil]; rfl) ?_
 with_reducible refine (pick_lit toRegions_l 4 a5 x5 x5_.out len_toRegions _ C_g120.out).mono ?_
 rintro e v11 ⟨rfl, hb⟩
 refine ⟨_, rfl, ?_⟩
 replace B0 := bb B0 hb
 replace K_b1 := kb K_b1 hb
 replace K_b2 := kb K_b2 hb
 replace K_b3 := kb K_b3 hb
 clear hb C_g120
 refine hK.out _ _ ((blk_cell K_b1.out 5).trans rfl) (fun hHeld => ?_)
 clear hK K
 refine norm_ (a' := ?_) ?_ ?_
 rotate_left
 · show Act.put _ (some 123) _ = _
   simp only [Act.put, List.setIfInBounds_toArray, List.set_cons_zero, List.set_cons_succ, i64_w, i32_w]
   rfl
 refine pw 4 124 (M 6 31) ?_
 refine ow 5 none (M 6 63) fun K hK => ?_
 refine put_step (g := b3) (off := 5) (cur := #[.int .i64 5, .string x1, .string ⟨#[]⟩, .string ⟨#[]⟩, .string ⟨#[]⟩, .string ⟨#[]⟩]) (new := #[.int .i64 5, .string x1, .string ⟨#[]⟩, .string ⟨#[]⟩, .string ⟨#[]⟩, .string x5]) (seg := [.string x5]) (u := .string x5) rfl rfl rfl rfl rfl rfl (by rfl) (by kernel_rfl) rfl rfl (Nat.le_of_ble_eq_true rfl) K_b3.out ?_
 intro v12 hk hp
 replace B0 := bp B0 hp G_b3.out
 replace K_b1 := kp K_b1 hp N_b1_b3.out
 replace K_b2 := kp K_b2 hp N_b2_b3.out
 replace K_b3 := Aside0.mk hk
 clear hk hp
 refine hK.out _ _ ((blk_cell K_b1.out 5).trans rfl) (fun hHeld => ?_)
 clear hK K
 refine done_ (by kernel_rfl) ?_

 obtain ⟨y_b1_0, y_b1_1, y_b1_2, y_b1_3, y_b1_4, y_b1_5, y_b1_6⟩ := cz7 K_b1.out
 obtain ⟨y_b3_0, y_b3_1, y_b3_2, y_b3_3, y_b3_4, y_b3_5⟩ := cz6 K_b3.out
 go_wp2_with (first
  | ((with_reducible refine gate_callee (f := 48) rfl ?_); refine goesL_ (some 143) rfl rfl Try.func48 (by kernel_rfl) rfl #[.agg #[.int .i64 5, .string x1, .string ⟨#[]⟩, .string ⟨#[]⟩, .string ⟨#[]⟩, .string x5], .int .i64 (Int.tmod (wrap64 (Int.tmod a6 9 + 9)) 9)] rfl mq ?_; (with_reducible refine (isoglossref12_spoilt.calls 20 5 x1 ⟨#[]⟩ ⟨#[]⟩ ⟨#[]⟩ x5 (Int.tmod (wrap64 (Int.tmod a6 9 + 9)) 9) t0 t1 t2 t3 t4 t5 _ HT.out).mono ?_); rintro e v13 ⟨rfl, hb⟩; refine ⟨_, rfl, ?_⟩; replace B0 := bb B0 hb; replace K_b1 := kb K_b1 hb; replace K_b2 := kb K_b2 hb; replace K_b3 := kb K_b3 hb; clear hb)
  | ((with_reducible refine gate_ (.store 59 (.tmp 2) (.tmp 143)) rfl ?_); refine pe b2 0 #[.int .i64 t0, .string t1, .string t2, .string t3, .string t4, .string t5] [.int .i64 t0, .string t1, .string t2, .string t3, .string t4, .string t5] K_b2.out ?_; intro v14 hk hp; replace B0 := bp B0 hp G_b2.out; replace K_b1 := kp K_b1 hp N_b1_b2.out; replace K_b3 := kp K_b3 hp (Ne.symm N_b2_b3.out); replace K_b2 := Aside0.mk hk; clear hk hp))
 refine bodyPost_ret (results_cell_row rfl _ _ b2 59 #[.int .i64 t0, .string t1, .string t2, .string t3, .string t4, .string t5] (0, 0) _ rfl K_b2.out Try.underlying59 rfl (by kernel_rfl)) rfl ?_
 exact ⟨rfl, B0.out⟩
set_option maxRecDepth 100000 in
set_option maxHeartbeats 4000000 in
theorem made12_6 (a0 a1 a2 a3 a4 a5 a6 : Int) (hk : wrap64 (1 + Int.tmod (wrap64 (Int.tmod a0 7 + 7)) 7) = 6) : ∃ t0 t1 t2 t3 t4 t5, ∀ w : World, Calls Try.prog 21 #[.agg #[.int .i64 a0, .int .i64 a1, .int .i64 a2, .int .i64 a3, .int .i64 a4, .int .i64 a5, .int .i64 a6]] w fun e w' => e = .returned (.agg #[.int .i64 t0, .string t1, .string t2, .string t3, .string t4, .string t5]) ∧ Below w.heap.size w w' := by
 have hu62 := Try.underlying62
 have hu59 := Try.underlying59
 obtain ⟨x1, x1m, x1_⟩ := pick_mem lV_l (by decide) (by decide) a1
 replace x1_ := Aside0.mk x1_
 obtain ⟨x3, x3m, x3_⟩ := pick_mem lV2_l (by decide) (by decide) a3
 replace x3_ := Aside0.mk x3_
 obtain ⟨t0, t1, t2, t3, t4, t5, ht⟩ := spoilt12_some 6 x1 ⟨#[]⟩ x3 ⟨#[]⟩ ⟨#[]⟩ (Int.tmod (wrap64 (Int.tmod a6 9 + 9)) 9) (title_lV x1 x1m) (by decide)
 have HT := Aside0.mk ht
 clear ht x1m x3m
 refine ⟨t0, t1, t2, t3, t4, t5, fun w => ?_⟩
 have B0 := Aside0.mk (Below.refl w.heap.size w)
 go_enter Try.func21, Try.ntmps21
 go_wp2_with (first
  | ((with_reducible refine gate_dst (N := 1) rfl ?_); refine be 1 #[.int .i64 a0, .int .i64 a1, .int .i64 a2, .int .i64 a3, .int .i64 a4, .int .i64 a5, .int .i64 a6] 62 ?_; intro b1 hg v1 hbox hb; have G_b1 := Aside0.mk (show w.heap.size ≤ b1 by rw [hg]; exact B0.out.size); replace B0 := bb B0 hb; have K_b1 := Aside0.mk hbox; clear hb hbox hg)
  | ((with_reducible refine gate_dst (N := 2) rfl ?_); refine be 2 #[.int .i64 0, .string ⟨#[]⟩, .string ⟨#[]⟩, .string ⟨#[]⟩, .string ⟨#[]⟩, .string ⟨#[]⟩] 59 ?_; intro b2 hg v2 hbox hb; have N_b1_b2 := kn K_b1 hg; have G_b2 := Aside0.mk (show w.heap.size ≤ b2 by rw [hg]; exact B0.out.size); replace B0 := bb B0 hb; replace K_b1 := kb K_b1 hb; have K_b2 := Aside0.mk hbox; clear hb hbox hg; obtain ⟨y_b1_0, y_b1_1, y_b1_2, y_b1_3, y_b1_4, y_b1_5, y_b1_6⟩ := cz7 K_b1.out)
  | ((with_reducible refine gate_dst (N := 3) rfl ?_); refine be 3 #[.int .i64 0, .string ⟨#[]⟩, .string ⟨#[]⟩, .string ⟨#[]⟩, .string ⟨#[]⟩, .string ⟨#[]⟩] 59 ?_; intro b3 hg v3 hbox hb; clear y_b1_0 y_b1_1 y_b1_2 y_b1_3 y_b1_4 y_b1_5 y_b1_6; have N_b1_b3 := kn K_b1 hg; have N_b2_b3 := kn K_b2 hg; have G_b3 := Aside0.mk (show w.heap.size ≤ b3 by rw [hg]; exact B0.out.size); replace B0 := bb B0 hb; replace K_b1 := kb K_b1 hb; replace K_b2 := kb K_b2 hb; have K_b3 := Aside0.mk hbox; clear hb hbox hg)
  | ((with_reducible refine gate_ (.store 59 (.tmp 3) (.tmp 11)) rfl ?_); refine pe b3 0 #[.int .i64 6, .string ⟨#[]⟩, .string ⟨#[]⟩, .string ⟨#[]⟩, .string ⟨#[]⟩, .string ⟨#[]⟩] [.int .i64 6, .string ⟨#[]⟩, .string ⟨#[]⟩, .string ⟨#[]⟩, .string ⟨#[]⟩, .string ⟨#[]⟩] K_b3.out ?_; intro v4 hk hp; replace B0 := bp B0 hp G_b3.out; replace K_b1 := kp K_b1 hp N_b1_b3.out; replace K_b2 := kp K_b2 hp N_b2_b3.out; replace K_b3 := Aside0.mk hk; clear hk hp; obtain ⟨y_b1_0, y_b1_1, y_b1_2, y_b1_3, y_b1_4, y_b1_5, y_b1_6⟩ := cz7 K_b1.out; obtain ⟨y_b3_0, y_b3_1, y_b3_2, y_b3_3, y_b3_4, y_b3_5⟩ := cz6 K_b3.out)
  | ((with_reducible refine gate_dst (N := 127) rfl ?_); refine lit_event ?hg (N := 127) ?hd (cs := #[.string ⟨#[104, 101, 112, 108, 111, 99]⟩, .string ⟨#[97, 114, 101, 118, 101, 108, 97]⟩, .string ⟨#[49, 97, 50, 98]⟩]) (e := 9) (n := 3) ?hr ?_; (case hd => rfl); (case hg => rfl); (case hr => first | (go_simp; done) | (go_simp; rfl)); intro g127 hg v5 hbox hb; clear y_b1_0 y_b1_1 y_b1_2 y_b1_3 y_b1_4 y_b1_5 y_b1_6 y_b3_0 y_b3_1 y_b3_2 y_b3_3 y_b3_4 y_b3_5; replace B0 := bb B0 hb; replace K_b1 := kb K_b1 hb; replace K_b2 := kb K_b2 hb; replace K_b3 := kb K_b3 hb; have C_g127 := Aside0.mk (CStr (B := g127) lV_l (by decide) hbox); clear hb hbox hg; obtain ⟨y_b1_0, y_b1_1, y_b1_2, y_b1_3, y_b1_4, y_b1_5, y_b1_6⟩ := cz7 K_b1.out)
  | ((with_reducible refine gate_callee (f := 25) rfl ?_); refine goesL_ (some 130) rfl rfl Try.func25 (by kernel_rfl) rfl #[.slice (some ⟨g127, 0, none⟩) 3 3, .int .i64 a1] rfl mq ?_; (with_reducible refine (pick_lit lV_l 3 a1 x1 x1_.out len_lV _ C_g127.out).mono ?_); rintro e v6 ⟨rfl, hb⟩; refine ⟨_, rfl, ?_⟩; clear y_b1_0 y_b1_1 y_b1_2 y_b1_3 y_b1_4 y_b1_5 y_b1_6; clear C_g127; replace B0 := bb B0 hb; replace K_b1 := kb K_b1 hb; replace K_b2 := kb K_b2 hb; replace K_b3 := kb K_b3 hb; clear hb)
  | ((with_reducible refine gate_ (.store 9 (.tmp 131) (.tmp 130)) rfl ?_); refine pe b3 1 #[.int .i64 6, .string x1, .string ⟨#[]⟩, .string ⟨#[]⟩, .string ⟨#[]⟩, .string ⟨#[]⟩] [.string x1] K_b3.out ?_; intro v7 hk hp; replace B0 := bp B0 hp G_b3.out; replace K_b1 := kp K_b1 hp N_b1_b3.out; replace K_b2 := kp K_b2 hp N_b2_b3.out; replace K_b3 := Aside0.mk hk; clear hk hp)
  | ((with_reducible refine gate_dst (N := 132) rfl ?_); refine lit_event ?hg (N := 132) ?hd (cs := #[.string ⟨#[]⟩, .string ⟨#[97, 108, 97, 108, 99, 57, 55]⟩, .string ⟨#[49, 57, 57, 52]⟩]) (e := 9) (n := 3) ?hr ?_; (case hd => rfl); (case hg => rfl); (case hr => first | (go_simp; done) | (go_simp; rfl)); intro g132 hg v8 hbox hb; replace B0 := bb B0 hb; replace K_b1 := kb K_b1 hb; replace K_b2 := kb K_b2 hb; replace K_b3 := kb K_b3 hb; have C_g132 := Aside0.mk (CStr (B := g132) lV2_l (by decide) hbox); clear hb hbox hg; obtain ⟨y_b1_0, y_b1_1, y_b1_2, y_b1_3, y_b1_4, y_b1_5, y_b1_6⟩ := cz7 K_b1.out)
  | ((with_reducible refine gate_callee (f := 25) rfl ?_); refine goesL_ (some 135) rfl rfl Try.func25 (by kernel_rfl) rfl #[.slice (some ⟨g132, 0, none⟩) 3 3, .int .i64 a3] rfl mq ?_; (with_reducible refine (pick_lit lV2_l 3 a3 x3 x3_.out len_lV2 _ C_g132.out).mono ?_); rintro e v9 ⟨rfl, hb⟩; refine ⟨_, rfl, ?_⟩; clear y_b1_0 y_b1_1 y_b1_2 y_b1_3 y_b1_4 y_b1_5 y_b1_6; clear C_g132; replace B0 := bb B0 hb; replace K_b1 := kb K_b1 hb; replace K_b2 := kb K_b2 hb; replace K_b3 := kb K_b3 hb; clear hb)
  | ((with_reducible refine gate_ (.store 9 (.tmp 136) (.tmp 135)) rfl ?_); refine pe b3 3 #[.int .i64 6, .string x1, .string ⟨#[]⟩, .string x3, .string ⟨#[]⟩, .string ⟨#[]⟩] [.string x3] K_b3.out ?_; intro v10 hk hp; replace B0 := bp B0 hp G_b3.out; replace K_b1 := kp K_b1 hp N_b1_b3.out; replace K_b2 := kp K_b2 hp N_b2_b3.out; replace K_b3 := Aside0.mk hk; clear hk hp; obtain ⟨y_b1_0, y_b1_1, y_b1_2, y_b1_3, y_b1_4, y_b1_5, y_b1_6⟩ := cz7 K_b1.out; obtain ⟨y_b3_0, y_b3_1, y_b3_2, y_b3_3, y_b3_4, y_b3_5⟩ := cz6 K_b3.out)
  | ((with_reducible refine gate_callee (f := 48) rfl ?_); refine goesL_ (some 143) rfl rfl Try.func48 (by kernel_rfl) rfl #[.agg #[.int .i64 6, .string x1, .string ⟨#[]⟩, .string x3, .string ⟨#[]⟩, .string ⟨#[]⟩], .int .i64 (Int.tmod (wrap64 (Int.tmod a6 9 + 9)) 9)] rfl mq ?_; (with_reducible refine (isoglossref12_spoilt.calls 20 6 x1 ⟨#[]⟩ x3 ⟨#[]⟩ ⟨#[]⟩ (Int.tmod (wrap64 (Int.tmod a6 9 + 9)) 9) t0 t1 t2 t3 t4 t5 _ HT.out).mono ?_); rintro e v11 ⟨rfl, hb⟩; refine ⟨_, rfl, ?_⟩; clear y_b1_0 y_b1_1 y_b1_2 y_b1_3 y_b1_4 y_b1_5 y_b1_6 y_b3_0 y_b3_1 y_b3_2 y_b3_3 y_b3_4 y_b3_5; replace B0 := bb B0 hb; replace K_b1 := kb K_b1 hb; replace K_b2 := kb K_b2 hb; replace K_b3 := kb K_b3 hb; clear hb)
  | ((with_reducible refine gate_ (.store 59 (.tmp 2) (.tmp 143)) rfl ?_); refine pe b2 0 #[.int .i64 t0, .string t1, .string t2, .string t3, .string t4, .string t5] [.int .i64 t0, .string t1, .string t2, .string t3, .string t4, .string t5] K_b2.out ?_; intro v12 hk hp; replace B0 := bp B0 hp G_b2.out; replace K_b1 := kp K_b1 hp N_b1_b2.out; replace K_b3 := kp K_b3 hp (Ne.symm N_b2_b3.out); replace K_b2 := Aside0.mk hk; clear hk hp))
 refine bodyPost_ret (results_cell_row rfl _ _ b2 59 #[.int .i64 t0, .string t1, .string t2, .string t3, .string t4, .string t5] (0, 0) _ rfl K_b2.out Try.underlying59 rfl (by kernel_rfl)) rfl ?_
 exact ⟨rfl, B0.out⟩
set_option maxRecDepth 100000 in
set_option maxHeartbeats 4000000 in
theorem made12_7 (a0 a1 a2 a3 a4 a5 a6 : Int) (hk : wrap64 (1 + Int.tmod (wrap64 (Int.tmod a0 7 + 7)) 7) = 7) : ∃ t0 t1 t2 t3 t4 t5, ∀ w : World, Calls Try.prog 21 #[.agg #[.int .i64 a0, .int .i64 a1, .int .i64 a2, .int .i64 a3, .int .i64 a4, .int .i64 a5, .int .i64 a6]] w fun e w' => e = .returned (.agg #[.int .i64 t0, .string t1, .string t2, .string t3, .string t4, .string t5]) ∧ Below w.heap.size w w' := by
 have hu62 := Try.underlying62
 have hu59 := Try.underlying59
 obtain ⟨x1, x1m, x1_⟩ := pick_mem lK_l (by decide) (by decide) a1
 replace x1_ := Aside0.mk x1_
 obtain ⟨x2, x2m, x2_⟩ := pick_mem lT_l (by decide) (by decide) a2
 replace x2_ := Aside0.mk x2_
 obtain ⟨x3, x3m, x3_⟩ := pick_mem lT2_l (by decide) (by decide) a3
 replace x3_ := Aside0.mk x3_
 obtain ⟨t0, t1, t2, t3, t4, t5, ht⟩ := spoilt12_some 7 x1 x2 x3 ⟨#[]⟩ ⟨#[]⟩ (Int.tmod (wrap64 (Int.tmod a6 9 + 9)) 9) (title_lK x1 x1m) (size_lT x2 x2m)
 have HT := Aside0.mk ht
 clear ht x1m x2m x3m
 refine ⟨t0, t1, t2, t3, t4, t5, fun w => ?_⟩
 have B0 := Aside0.mk (Below.refl w.heap.size w)
 go_enter Try.func21, Try.ntmps21
 go_wp2_with (first
  | ((with_reducible refine gate_dst (N := 1) rfl ?_); refine be 1 #[.int .i64 a0, .int .i64 a1, .int .i64 a2, .int .i64 a3, .int .i64 a4, .int .i64 a5, .int .i64 a6] 62 ?_; intro b1 hg v1 hbox hb; have G_b1 := Aside0.mk (show w.heap.size ≤ b1 by rw [hg]; exact B0.out.size); replace B0 := bb B0 hb; have K_b1 := Aside0.mk hbox; clear hb hbox hg)
  | ((with_reducible refine gate_dst (N := 2) rfl ?_); refine be 2 #[.int .i64 0, .string ⟨#[]⟩, .string ⟨#[]⟩, .string ⟨#[]⟩, .string ⟨#[]⟩, .string ⟨#[]⟩] 59 ?_; intro b2 hg v2 hbox hb; have N_b1_b2 := kn K_b1 hg; have G_b2 := Aside0.mk (show w.heap.size ≤ b2 by rw [hg]; exact B0.out.size); replace B0 := bb B0 hb; replace K_b1 := kb K_b1 hb; have K_b2 := Aside0.mk hbox; clear hb hbox hg; obtain ⟨y_b1_0, y_b1_1, y_b1_2, y_b1_3, y_b1_4, y_b1_5, y_b1_6⟩ := cz7 K_b1.out)
  | ((with_reducible refine gate_dst (N := 3) rfl ?_); refine be 3 #[.int .i64 0, .string ⟨#[]⟩, .string ⟨#[]⟩, .string ⟨#[]⟩, .string ⟨#[]⟩, .string ⟨#[]⟩] 59 ?_; intro b3 hg v3 hbox hb; clear y_b1_0 y_b1_1 y_b1_2 y_b1_3 y_b1_4 y_b1_5 y_b1_6; have N_b1_b3 := kn K_b1 hg; have N_b2_b3 := kn K_b2 hg; have G_b3 := Aside0.mk (show w.heap.size ≤ b3 by rw [hg]; exact B0.out.size); replace B0 := bb B0 hb; replace K_b1 := kb K_b1 hb; replace K_b2 := kb K_b2 hb; have K_b3 := Aside0.mk hbox; clear hb hbox hg)
  | ((with_reducible refine gate_ (.store 59 (.tmp 3) (.tmp 11)) rfl ?_); refine pe b3 0 #[.int .i64 7, .string ⟨#[]⟩, .string ⟨#[]⟩, .string ⟨#[]⟩, .string ⟨#[]⟩, .string ⟨#[]⟩] [.int .i64 7, .string ⟨#[]⟩, .string ⟨#[]⟩, .string ⟨#[]⟩, .string ⟨#[]⟩, .string ⟨#[]⟩] K_b3.out ?_; intro v4 hk hp; replace B0 := bp B0 hp G_b3.out; replace K_b1 := kp K_b1 hp N_b1_b3.out; replace K_b2 := kp K_b2 hp N_b2_b3.out; replace K_b3 := Aside0.mk hk; clear hk hp; obtain ⟨y_b1_0, y_b1_1, y_b1_2, y_b1_3, y_b1_4, y_b1_5, y_b1_6⟩ := cz7 K_b1.out; obtain ⟨y_b3_0, y_b3_1, y_b3_2, y_b3_3, y_b3_4, y_b3_5⟩ := cz6 K_b3.out)
  | ((with_reducible refine gate_dst (N := 14) rfl ?_); refine lit_event ?hg (N := 14) ?hd (cs := #[.string ⟨#[99, 97]⟩, .string ⟨#[99, 111]⟩]) (e := 9) (n := 2) ?hr ?_; (case hd => rfl); (case hg => rfl); (case hr => first | (go_simp; done) | (go_simp; rfl)); intro g14 hg v5 hbox hb; clear y_b1_0 y_b1_1 y_b1_2 y_b1_3 y_b1_4 y_b1_5 y_b1_6 y_b3_0 y_b3_1 y_b3_2 y_b3_3 y_b3_4 y_b3_5; replace B0 := bb B0 hb; replace K_b1 := kb K_b1 hb; replace K_b2 := kb K_b2 hb; replace K_b3 := kb K_b3 hb; have C_g14 := Aside0.mk (CStr (B := g14) lK_l (by decide) hbox); clear hb hbox hg; obtain ⟨y_b1_0, y_b1_1, y_b1_2, y_b1_3, y_b1_4, y_b1_5, y_b1_6⟩ := cz7 K_b1.out)
  | ((with_reducible refine gate_callee (f := 25) rfl ?_); refine goesL_ (some 17) rfl rfl Try.func25 (by kernel_rfl) rfl #[.slice (some ⟨g14, 0, none⟩) 2 2, .int .i64 a1] rfl mq ?_; (with_reducible refine (pick_lit lK_l 2 a1 x1 x1_.out len_lK _ C_g14.out).mono ?_); rintro e v6 ⟨rfl, hb⟩; refine ⟨_, rfl, ?_⟩; clear y_b1_0 y_b1_1 y_b1_2 y_b1_3 y_b1_4 y_b1_5 y_b1_6; clear C_g14; replace B0 := bb B0 hb; replace K_b1 := kb K_b1 hb; replace K_b2 := kb K_b2 hb; replace K_b3 := kb K_b3 hb; clear hb)
  | ((with_reducible refine gate_ (.store 9 (.tmp 18) (.tmp 17)) rfl ?_); refine pe b3 1 #[.int .i64 7, .string x1, .string ⟨#[]⟩, .string ⟨#[]⟩, .string ⟨#[]⟩, .string ⟨#[]⟩] [.string x1] K_b3.out ?_; intro v7 hk hp; replace B0 := bp B0 hp G_b3.out; replace K_b1 := kp K_b1 hp N_b1_b3.out; replace K_b2 := kp K_b2 hp N_b2_b3.out; replace K_b3 := Aside0.mk hk; clear hk hp)
  | ((with_reducible refine gate_dst (N := 19) rfl ?_); refine lit_event ?hg (N := 19) ?hd (cs := #[.string ⟨#[105, 115, 108, 97, 109, 105, 99, 99]⟩, .string ⟨#[97, 98, 49]⟩, .string ⟨#[112, 104, 111, 110, 101, 98, 107]⟩]) (e := 9) (n := 3) ?hr ?_; (case hd => rfl); (case hg => rfl); (case hr => first | (go_simp; done) | (go_simp; rfl)); intro g19 hg v8 hbox hb; replace B0 := bb B0 hb; replace K_b1 := kb K_b1 hb; replace K_b2 := kb K_b2 hb; replace K_b3 := kb K_b3 hb; have C_g19 := Aside0.mk (CStr (B := g19) lT_l (by decide) hbox); clear hb hbox hg; obtain ⟨y_b1_0, y_b1_1, y_b1_2, y_b1_3, y_b1_4, y_b1_5, y_b1_6⟩ := cz7 K_b1.out)
  | ((with_reducible refine gate_callee (f := 25) rfl ?_); refine goesL_ (some 22) rfl rfl Try.func25 (by kernel_rfl) rfl #[.slice (some ⟨g19, 0, none⟩) 3 3, .int .i64 a2] rfl mq ?_; (with_reducible refine (pick_lit lT_l 3 a2 x2 x2_.out len_lT _ C_g19.out).mono ?_); rintro e v9 ⟨rfl, hb⟩; refine ⟨_, rfl, ?_⟩; clear y_b1_0 y_b1_1 y_b1_2 y_b1_3 y_b1_4 y_b1_5 y_b1_6; clear C_g19; replace B0 := bb B0 hb; replace K_b1 := kb K_b1 hb; replace K_b2 := kb K_b2 hb; replace K_b3 := kb K_b3 hb; clear hb)
  | ((with_reducible refine gate_ (.store 9 (.tmp 23) (.tmp 22)) rfl ?_); refine pe b3 2 #[.int .i64 7, .string x1, .string x2, .string ⟨#[]⟩, .string ⟨#[]⟩, .string ⟨#[]⟩] [.string x2] K_b3.out ?_; intro v10 hk hp; replace B0 := bp B0 hp G_b3.out; replace K_b1 := kp K_b1 hp N_b1_b3.out; replace K_b2 := kp K_b2 hp N_b2_b3.out; replace K_b3 := Aside0.mk hk; clear hk hp)
  | ((with_reducible refine gate_dst (N := 24) rfl ?_); refine lit_event ?hg (N := 24) ?hd (cs := #[.string ⟨#[99, 105, 118, 105, 108]⟩, .string ⟨#[116, 114, 117, 101]⟩, .string ⟨#[115, 116, 97, 110, 100, 97, 114, 100]⟩]) (e := 9) (n := 3) ?hr ?_; (case hd => rfl); (case hg => rfl); (case hr => first | (go_simp; done) | (go_simp; rfl)); intro g24 hg v11 hbox hb; replace B0 := bb B0 hb; replace K_b1 := kb K_b1 hb; replace K_b2 := kb K_b2 hb; replace K_b3 := kb K_b3 hb; have C_g24 := Aside0.mk (CStr (B := g24) lT2_l (by decide) hbox); clear hb hbox hg; obtain ⟨y_b1_0, y_b1_1, y_b1_2, y_b1_3, y_b1_4, y_b1_5, y_b1_6⟩ := cz7 K_b1.out)
  | ((with_reducible refine gate_callee (f := 25) rfl ?_); refine goesL_ (some 27) rfl rfl Try.func25 (by kernel_rfl) rfl #[.slice (some ⟨g24, 0, none⟩) 3 3, .int .i64 a3] rfl mq ?_; (with_reducible refine (pick_lit lT2_l 3 a3 x3 x3_.out len_lT2 _ C_g24.out).mono ?_); rintro e v12 ⟨rfl, hb⟩; refine ⟨_, rfl, ?_⟩; clear y_b1_0 y_b1_1 y_b1_2 y_b1_3 y_b1_4 y_b1_5 y_b1_6; clear C_g24; replace B0 := bb B0 hb; replace K_b1 := kb K_b1 hb; replace K_b2 := kb K_b2 hb; replace K_b3 := kb K_b3 hb; clear hb)
  | ((with_reducible refine gate_ (.store 9 (.tmp 28) (.tmp 27)) rfl ?_); refine pe b3 3 #[.int .i64 7, .string x1, .string x2, .string x3, .string ⟨#[]⟩, .string ⟨#[]⟩] [.string x3] K_b3.out ?_; intro v13 hk hp; replace B0 := bp B0 hp G_b3.out; replace K_b1 := kp K_b1 hp N_b1_b3.out; replace K_b2 := kp K_b2 hp N_b2_b3.out; replace K_b3 := Aside0.mk hk; clear hk hp; obtain ⟨y_b1_0, y_b1_1, y_b1_2, y_b1_3, y_b1_4, y_b1_5, y_b1_6⟩ := cz7 K_b1.out; obtain ⟨y_b3_0, y_b3_1, y_b3_2, y_b3_3, y_b3_4, y_b3_5⟩ := cz6 K_b3.out)
  | ((with_reducible refine gate_callee (f := 48) rfl ?_); refine goesL_ (some 143) rfl rfl Try.func48 (by kernel_rfl) rfl #[.agg #[.int .i64 7, .string x1, .string x2, .string x3, .string ⟨#[]⟩, .string ⟨#[]⟩], .int .i64 (Int.tmod (wrap64 (Int.tmod a6 9 + 9)) 9)] rfl mq ?_; (with_reducible refine (isoglossref12_spoilt.calls 20 7 x1 x2 x3 ⟨#[]⟩ ⟨#[]⟩ (Int.tmod (wrap64 (Int.tmod a6 9 + 9)) 9) t0 t1 t2 t3 t4 t5 _ HT.out).mono ?_); rintro e v14 ⟨rfl, hb⟩; refine ⟨_, rfl, ?_⟩; clear y_b1_0 y_b1_1 y_b1_2 y_b1_3 y_b1_4 y_b1_5 y_b1_6 y_b3_0 y_b3_1 y_b3_2 y_b3_3 y_b3_4 y_b3_5; replace B0 := bb B0 hb; replace K_b1 := kb K_b1 hb; replace K_b2 := kb K_b2 hb; replace K_b3 := kb K_b3 hb; clear hb)
  | ((with_reducible refine gate_ (.store 59 (.tmp 2) (.tmp 143)) rfl ?_); refine pe b2 0 #[.int .i64 t0, .string t1, .string t2, .string t3, .string t4, .string t5] [.int .i64 t0, .string t1, .string t2, .string t3, .string t4, .string t5] K_b2.out ?_; intro v15 hk hp; replace B0 := bp B0 hp G_b2.out; replace K_b1 := kp K_b1 hp N_b1_b2.out; replace K_b3 := kp K_b3 hp (Ne.symm N_b2_b3.out); replace K_b2 := Aside0.mk hk; clear hk hp))
 refine bodyPost_ret (results_cell_row rfl _ _ b2 59 #[.int .i64 t0, .string t1, .string t2, .string t3, .string t4, .string t5] (0, 0) _ rfl K_b2.out Try.underlying59 rfl (by kernel_rfl)) rfl ?_
 exact ⟨rfl, B0.out⟩
theorem made12_all (a0 a1 a2 a3 a4 a5 a6 : Int) : ∃ t0 t1 t2 t3 t4 t5, ∀ w : World, Calls Try.prog 21 #[.agg #[.int .i64 a0, .int .i64 a1, .int .i64 a2, .int .i64 a3, .int .i64 a4, .int .i64 a5, .int .i64 a6]] w fun e w' => e = .returned (.agg #[.int .i64 t0, .string t1, .string t2, .string t3, .string t4, .string t5]) ∧ Below w.heap.size w w' := by
 have b0 := Int.lt_tmod_of_pos a0 (show (0 : Int) < 7 by omega)
 have b1 := Int.tmod_lt_of_pos a0 (show (0 : Int) < 7 by omega)
 have b2 := Int.tmod_nonneg 7 (show 0 ≤ Int.tmod a0 7 + 7 by omega)
 have b3 := Int.tmod_lt_of_pos (Int.tmod a0 7 + 7) (show (0 : Int) < 7 by omega)
 have e0 : wrap64 (Int.tmod a0 7 + 7) = Int.tmod a0 7 + 7 := by unfold wrap64; omega
 have c0 := Int.lt_tmod_of_pos a1 (show (0 : Int) < 26 by omega)
 have c1 := Int.tmod_lt_of_pos a1 (show (0 : Int) < 26 by omega)
 have c2 := Int.tmod_nonneg 26 (show 0 ≤ Int.tmod a1 26 + 26 by omega)
 have c3 := Int.tmod_lt_of_pos (Int.tmod a1 26 + 26) (show (0 : Int) < 26 by omega)
 have e1 : wrap64 (Int.tmod a1 26 + 26) = Int.tmod a1 26 + 26 := by unfold wrap64; omega
 have e2 : wrap64 (1 + Int.tmod (Int.tmod a0 7 + 7) 7) = 1 + Int.tmod (Int.tmod a0 7 + 7) 7 := by unfold wrap64; omega
 obtain h | h | h | h | h | h | h : 1 + Int.tmod (Int.tmod a0 7 + 7) 7 = 1 ∨ 1 + Int.tmod (Int.tmod a0 7 + 7) 7 = 2 ∨ 1 + Int.tmod (Int.tmod a0 7 + 7) 7 = 3 ∨ 1 + Int.tmod (Int.tmod a0 7 + 7) 7 = 4 ∨ 1 + Int.tmod (Int.tmod a0 7 + 7) 7 = 5 ∨ 1 + Int.tmod (Int.tmod a0 7 + 7) 7 = 6 ∨ 1 + Int.tmod (Int.tmod a0 7 + 7) 7 = 7 := by omega
 · exact made12_1 a0 a1 a2 a3 a4 a5 a6 _ rfl (by rw [e1]; exact c2) (by rw [e1]; exact c3) (by rw [e0, e2]; exact h)
 · exact made12_2 a0 a1 a2 a3 a4 a5 a6 (by rw [e0, e2]; exact h)
 · exact made12_3 a0 a1 a2 a3 a4 a5 a6 (by rw [e0, e2]; exact h)
 · exact made12_4 a0 a1 a2 a3 a4 a5 a6 (by rw [e0, e2]; exact h)
 · exact made12_5 a0 a1 a2 a3 a4 a5 a6 (by rw [e0, e2]; exact h)
 · exact made12_6 a0 a1 a2 a3 a4 a5 a6 (by rw [e0, e2]; exact h)
 · exact made12_7 a0 a1 a2 a3 a4 a5 a6 (by rw [e0, e2]; exact h)
end Go.Proofs.Ytdjbanhoejegjaa.LikW
