/- distance.Cost, walked. -/
import Derived.Test.YtdjbanhoejegjaaDqDistBoth
import Derived.StillTailTactics
namespace Go.Proofs.Ytdjbanhoejegjaa.LikW
open Go.RowKit Go.Proofs.YtdjbanhoejegjaaW.PrintWords Go.Proofs.YtdjbanhoejegjaaW.PrintLast Go.Proofs.Ytdjbanhoejegjaa.P
set_option linter.unusedVariables false
set_option linter.unusedSimpArgs false

def hitP (ms : List S69) (r : S53) (d s : K3) (lv : Int) : Bool := decide (r.f0 = lv) && (bothP ms r d s lv || (!r.f2 && bothP ms r s d lv))
def costP (rs : List S53) (ms : List S69) (lv : Int) (d s : K3) : Int :=
 if lv < 1 ∨ 3 < lv then 100 else if at3 d (lv - 1).toNat = at3 s (lv - 1).toNat then 0 else match rs.find? fun r => hitP ms r d s lv with
 | some r => r.f1
 | none => 100
theorem toList_eqv (a b : ByteArray) : (a.toList == b.toList) = decide (a = b) := by
 by_cases h : a = b
 · rw [h, decide_eq_true rfl, beq_self_eq_true]
 · rw [decide_eq_false h, beq_eq_false_iff_ne]
   exact fun e => h (toList_inj e)
theorem find_take_none {α : Type} (P : α → Bool) (l : List α) (i : Nat) (h : i < l.length) (hn : (l.take i).find? P = none) (hp : P (l[i]'h) = false) : (l.take (i + 1)).find? P = none := by
 rw [List.take_succ_eq_append_getElem h, List.find?_append, hn]
 simp [List.find?, hp]
theorem find_take_some {α : Type} (P : α → Bool) (l : List α) (i : Nat) (h : i < l.length) (hn : (l.take i).find? P = none) (hp : P (l[i]'h) = true) : l.find? P = some (l[i]'h) := by
 have e : l.find? P = (l.take (i + 1) ++ l.drop (i + 1)).find? P := by rw [List.take_append_drop]
 rw [e, List.find?_append, List.take_succ_eq_append_getElem h, List.find?_append, hn]
 simp [List.find?, hp]
set_option maxRecDepth 100000 in
set_option maxHeartbeats 40000000 in
theorem cost_calls (A0 : Option Addr) (n0 c0 : Nat) (A1 : Option Addr) (n1 c1 : Nat) (A2 : Option Addr) (c2 : Nat) (A3 : Option Addr) (c3 : Nat) (rs : List S53) (ms : List S69) (p q : Int) (lv : Int) (d s : K3) (w : World) (hR : Kd.C k53 w A2 rs.length rs) (hC : Kd.C k69 w A3 ms.length ms) :
 Calls Try.prog 18 #[.agg #[.slice A0 n0 c0, .slice A1 n1 c1, .slice A2 rs.length c2, .slice A3 ms.length c3, .int .i64 p, .int .i64 q], .int .i64 lv, .agg #[.string d.1, .string d.2.1, .string d.2.2], .agg #[.string s.1, .string s.2.1, .string s.2.2]] w fun e w' => e = .returned (.int .i64 (costP rs ms lv d s)) ∧ Below w.heap.size w w' := by
 have hu39 := Try.underlying39
 have hu30 := Try.underlying30
 have hu53 := Try.underlying53
 have hmax := Kd.C_max hR
 obtain ⟨W0, hW0⟩ : ∃ W0, W0 = (((w.alloc (.cells #[.slice A0 n0 c0, .slice A1 n1 c1, .slice A2 rs.length c2, .slice A3 ms.length c3, .int .i64 p, .int .i64 q] 39)).alloc (.cells #[.int .i64 lv] 3)).alloc (.cells #[.string d.1, .string d.2.1, .string d.2.2] 30)).alloc (.cells #[.string s.1, .string s.2.1, .string s.2.2] 30) := ⟨_, rfl⟩
 have B0 : Below w.heap.size w W0 := by rw [hW0]; exact below_alloc (below_alloc (below_alloc (below_alloc (Below.refl _ _) _) _) _) _
 have sz0 : W0.heap.size = w.heap.size + 4 := by rw [hW0]; simp
 have h0 : W0.heap[w.heap.size]? = some (.cells #[.slice A0 n0 c0, .slice A1 n1 c1, .slice A2 rs.length c2, .slice A3 ms.length c3, .int .i64 p, .int .i64 q] 39 (0, 0)) := by rw [hW0]; exact ((below_alloc (below_alloc (below_alloc (Below.refl _ _) _) _) _).block _ (by simp)).trans (World.alloc_heap_new w _)
 have h1 : W0.heap[w.heap.size + 1]? = some (.cells #[.int .i64 lv] 3 (0, 0)) := by
  have := World.alloc_heap_new (w.alloc (.cells #[.slice A0 n0 c0, .slice A1 n1 c1, .slice A2 rs.length c2, .slice A3 ms.length c3, .int .i64 p, .int .i64 q] 39)) (.cells #[.int .i64 lv] 3)
  rw [World.size_alloc] at this
  rw [hW0]; exact ((below_alloc (below_alloc (Below.refl _ _) _) _).block _ (by simp)).trans this
 have h2 : W0.heap[w.heap.size + 1 + 1]? = some (.cells #[.string d.1, .string d.2.1, .string d.2.2] 30 (0, 0)) := by
  have := World.alloc_heap_new ((w.alloc (.cells #[.slice A0 n0 c0, .slice A1 n1 c1, .slice A2 rs.length c2, .slice A3 ms.length c3, .int .i64 p, .int .i64 q] 39)).alloc (.cells #[.int .i64 lv] 3)) (.cells #[.string d.1, .string d.2.1, .string d.2.2] 30)
  rw [World.size_alloc, World.size_alloc] at this
  rw [hW0]; exact ((below_alloc (Below.refl _ _) _).block _ (by simp)).trans this
 have h3 : W0.heap[w.heap.size + 1 + 1 + 1]? = some (.cells #[.string s.1, .string s.2.1, .string s.2.2] 30 (0, 0)) := by
  have := World.alloc_heap_new (((w.alloc (.cells #[.slice A0 n0 c0, .slice A1 n1 c1, .slice A2 rs.length c2, .slice A3 ms.length c3, .int .i64 p, .int .i64 q] 39)).alloc (.cells #[.int .i64 lv] 3)).alloc (.cells #[.string d.1, .string d.2.1, .string d.2.2] 30)) (.cells #[.string s.1, .string s.2.1, .string s.2.2] 30)
  rw [World.size_alloc, World.size_alloc, World.size_alloc] at this
  rw [hW0]; exact this
 have HR := Aside0.mk (Kd.C_below hR B0)
 have HC := Aside0.mk (Kd.C_below hC B0)
 have HW := Aside0.mk hW0
 have H0 := Aside0.mk h0
 have H1 := Aside0.mk h1
 have H2 := Aside0.mk h2
 have H3 := Aside0.mk h3
 have HB0 := Aside0.mk B0
 clear hR hC hW0 h0 h1 h2 h3 B0
 go_enter Try.func18, Try.ntmps18
 by_cases hlv : lv < 1 ∨ 3 < lv
 · have hv : costP rs ms lv d s = 100 := by unfold costP; rw [if_pos hlv]
   have HV := Aside0.mk hv
   clear hv
   rcases hlv with hl | hl
   · go_wp2
     go_ret
     exact ⟨by rw [HV.out]; rfl, by repeat (first | exact Below.refl _ _ | apply below_alloc)⟩
   · have hl2 : ¬ lv < 1 := by omega
     go_wp2
     go_ret
     exact ⟨by rw [HV.out]; rfl, by repeat (first | exact Below.refl _ _ | apply below_alloc)⟩
 · obtain rfl | rfl | rfl : lv = 1 ∨ lv = 2 ∨ lv = 3 := by omega
   · clear hlv
     go_wp2
     rw [← HW.out]
     have w1 := cell_of_blk H1.out 0
     have zd := cell_of_blk H2.out
     have zs := cell_of_blk H3.out
     have zi := cell_of_blk H0.out
     have v0 := zd 0
     have v1 := zd 1
     have v2 := zd 2
     have v3 := zs 0
     have v4 := zs 1
     have v5 := zs 2
     have i2 := zi 2
     simp only [List.getElem?_toArray, List.getElem?_cons_zero, List.getElem?_cons_succ] at w1 v0 v1 v2 v3 v4 v5 i2
     clear zd zs zi
     have hw : IntKind.i64.wrap 0 = 0 := by rfl
     go_still (by kernel_rfl)
     go_wp2
     · have he : d.1.toList = s.1.toList := eq_of_beq (by assumption : (d.1.toList == s.1.toList) = true)
       go_ret
       exact ⟨by have : costP rs ms 1 d s = 0 := by { unfold costP; rw [if_neg (by omega), if_pos (show at3 d ((1 : Int) - 1).toNat = at3 s ((1 : Int) - 1).toNat from toList_inj he)] }
                 rw [this]; rfl, HB0.out.trans ((below_drew (Below.refl W0.heap.size W0)).mono HB0.out.size)⟩
     have hbq : (d.1.toList == s.1.toList) = false := by assumption
     rw [hbq]
     have he : ¬ d.1.toList = s.1.toList := ne_of_beq_false (by assumption : (d.1.toList == s.1.toList) = false)
     have hc : costP rs ms 1 d s = match rs.find? fun r => hitP ms r d s 1 with
      | some r => r.f1
      | none => 100 := by unfold costP; rw [if_neg (by omega), if_neg (show ¬ at3 d ((1 : Int) - 1).toNat = at3 s ((1 : Int) - 1).toNat from fun e => he (congrArg ByteArray.toList e))]
     have HCC := Aside0.mk hc
     clear hc
     go_loopw [31] (fun vi wr => ∃ i : Nat, vi = .int .i64 (i : Int) ∧ i ≤ rs.length ∧ Aside0 ((rs.take i).find? (fun r => hitP ms r d s 1) = none) ∧ Aside0 (Below W0.heap.size W0 wr)) (fun vi _ => rs.length - (intOf vi).toNat)
     case atStart => exact ⟨0, rfl, Nat.zero_le _, ⟨rfl⟩, ⟨below_drew (Below.refl _ _)⟩⟩
     case round =>
      clear w1 v0 v1 v2 v3 v4 v5 i2
      obtain ⟨i, rfl, hi, HN, HB⟩ := hrel
      have BW := HB0.out.trans (HB.out.mono HB0.out.size)
      have HBW := Aside0.mk BW
      by_cases hlt : i < rs.length
      · have sr := HB.out.size
        have sw0 : w.heap.size < wr.heap.size := by omega
        have sw1 : w.heap.size + 1 < wr.heap.size := by omega
        have sw2 : w.heap.size + 1 + 1 < wr.heap.size := by omega
        have sw3 : w.heap.size + 1 + 1 + 1 < wr.heap.size := by omega
        have K0 := Aside0.mk ((HB.out.block _ (by omega)).trans H0.out)
        have K1 := Aside0.mk ((HB.out.block _ (by omega)).trans H1.out)
        have K2 := Aside0.mk ((HB.out.block _ (by omega)).trans H2.out)
        have K3 := Aside0.mk ((HB.out.block _ (by omega)).trans H3.out)
        obtain ⟨ad, e, x0, x1, x2, x3, x4, x5, x6, x7, x8⟩ := at_T53 HR.out (i : Int) (by omega) (by omega)
        cases e
        have bl := World.block_lt_of_cell? W0 _ x0
        replace x0 := (HB.out.cell (World.block_lt_of_cell? W0 _ x0)).trans x0
        replace x1 := (HB.out.cell (World.block_lt_of_cell? W0 _ x1)).trans x1
        replace x2 := (HB.out.cell (World.block_lt_of_cell? W0 _ x2)).trans x2
        replace x3 := (HB.out.cell (World.block_lt_of_cell? W0 _ x3)).trans x3
        replace x4 := (HB.out.cell (World.block_lt_of_cell? W0 _ x4)).trans x4
        replace x5 := (HB.out.cell (World.block_lt_of_cell? W0 _ x5)).trans x5
        replace x6 := (HB.out.cell (World.block_lt_of_cell? W0 _ x6)).trans x6
        replace x7 := (HB.out.cell (World.block_lt_of_cell? W0 _ x7)).trans x7
        replace x8 := (HB.out.cell (World.block_lt_of_cell? W0 _ x8)).trans x8
        obtain ⟨x, hx⟩ : ∃ x, x = rd_T53 rs (i : Int) := ⟨_, rfl⟩
        rw [← hx] at x0 x1 x2 x3 x4 x5 x6 x7 x8
        simp only [Int.toNat_natCast] at x0 x1 x2 x3 x4 x5 x6 x7 x8
        have hx2 : x = rs[i]'hlt := by rw [hx]; simp [rd_T53, List.getD_eq_getElem?_getD, List.getElem?_eq_getElem hlt]
        have HX := Aside0.mk hx2
        clear hx hx2 bl BW
        have zd := cell_of_blk K2.out
        have zs := cell_of_blk K3.out
        have l0 := cell_of_blk K1.out 0
        have v0 := zd 0
        have v1 := zd 1
        have v2 := zd 2
        have v3 := zs 0
        have v4 := zs 1
        have v5 := zs 2
        simp only [List.getElem?_toArray, List.getElem?_cons_zero, List.getElem?_cons_succ] at l0 v0 v1 v2 v3 v4 v5
        clear zd zs
        have tok1 : Aside0 (1 = 1) := ⟨rfl⟩
        have d1 : decide ((i : Int) < (rs.length : Int)) = true := decide_eq_true (by omega)
        by_cases hf0 : x.f0 = 1
        · have hq : (x.f0 == 1) = true := by rw [hf0]; rfl
          have HF0 := Aside0.mk hf0
          clear hf0
          cases hv1 : bothP ms x d s 1
          · cases hf2 : x.f2
            · have hq2 : (!x.f2) = true := by rw [hf2]; rfl
              have HF2 := Aside0.mk hf2
              clear hf2
              cases hv2 : bothP ms x s d 1
              · have hh : hitP ms x d s 1 = false := by unfold hitP; rw [hv1, hv2, HF2.out]; simp
                have HH := Aside0.mk hh
                clear hh
                go_wp2_with (first | (go_at_call 39; clear tok1; refine (both_calls w.heap.size (w.heap.size + 1) A0 n0 c0 A1 n1 c1 (some ad) rs.length c2 A3 c3 ms p q x d s 1 _ (Kd.C_below HC.out (HB.out.trans ((below_alloc (Below.refl wr.heap.size wr) _).mono HB.out.size))) (((below_alloc (Below.refl wr.heap.size wr) _).block _ (by omega)).trans K0.out) (((below_alloc (Below.refl wr.heap.size wr) _).block _ (by omega)).trans K1.out)).mono ?_; rintro e w1 ⟨rfl, hb⟩; rw [hv1]; have s1 := hb.size; rw [World.size_alloc] at s1; have zr := cell_of_blk ((hb.block wr.heap.size (by simp)).trans (World.alloc_heap_new wr (.cells #[.int .i64 x.f0, .int .i64 x.f1, .bool x.f2, .string x.f3.f0, .string x.f3.f1, .string x.f3.f2, .string x.f4.f0, .string x.f4.f1, .string x.f4.f2] 53))); have hb1 := Below.trans (below_alloc (Below.refl wr.heap.size wr) (.cells #[.int .i64 x.f0, .int .i64 x.f1, .bool x.f2, .string x.f3.f0, .string x.f3.f1, .string x.f3.f2, .string x.f4.f0, .string x.f4.f1, .string x.f4.f2] 53)) (hb.mono (by simp)); have zd := cell_of_blk ((hb1.block _ (by omega)).trans K2.out); have zs := cell_of_blk ((hb1.block _ (by omega)).trans K3.out); have x0 := zr 0; have x1 := zr 1; have x2 := zr 2; have x3 := zr 3; have x4 := zr 4; have x5 := zr 5; have x6 := zr 6; have x7 := zr 7; have x8 := zr 8; have v0 := zd 0; have v1 := zd 1; have v2 := zd 2; have v3 := zs 0; have v4 := zs 1; have v5 := zs 2; simp only [List.getElem?_toArray, List.getElem?_cons_zero, List.getElem?_cons_succ] at x0 x1 x2 x3 x4 x5 x6 x7 x8 v0 v1 v2 v3 v4 v5; clear zr zd zs; have KR := Aside0.mk ((hb.block wr.heap.size (by simp)).trans (World.alloc_heap_new wr (.cells #[.int .i64 x.f0, .int .i64 x.f1, .bool x.f2, .string x.f3.f0, .string x.f3.f1, .string x.f3.f2, .string x.f4.f0, .string x.f4.f1, .string x.f4.f2] 53))); have KB := Aside0.mk hb1; clear hb hb1) | (go_at_call 39; refine (both_calls w.heap.size (w.heap.size + 1) A0 n0 c0 A1 n1 c1 (some ad) rs.length c2 A3 c3 ms p q x s d 1 _ (Kd.C_below HC.out (HB.out.trans (KB.out.mono HB.out.size))) ((KB.out.block _ (by omega)).trans K0.out) ((KB.out.block _ (by omega)).trans K1.out)).mono ?_; rintro e w2 ⟨rfl, hb2⟩; rw [hv2]; have zr2 := cell_of_blk ((hb2.block wr.heap.size (by omega)).trans KR.out); have y1 := zr2 1; simp only [List.getElem?_toArray, List.getElem?_cons_zero, List.getElem?_cons_succ] at y1; clear zr2; have KB2 := Aside0.mk hb2; clear hb2))
                go_roundw
                case rel => exact ⟨i + 1, by simp, by omega, ⟨find_take_none _ rs i hlt HN.out (by rw [← HX.out]; exact HH.out)⟩, ⟨(HB.out.trans (KB.out.mono HB.out.size)).trans (KB2.out.mono (by omega))⟩⟩
                case measure => simp [intOf]; omega
              · have hh : hitP ms x d s 1 = true := by unfold hitP; rw [hv1, hv2, HF2.out, decide_eq_true HF0.out]; rfl
                have hv : costP rs ms 1 d s = x.f1 := by rw [HCC.out, find_take_some _ rs i hlt HN.out (by rw [← HX.out]; exact hh), ← HX.out]
                have HV := Aside0.mk hv
                clear hv hh
                go_wp2_with (first | (go_at_call 39; clear tok1; refine (both_calls w.heap.size (w.heap.size + 1) A0 n0 c0 A1 n1 c1 (some ad) rs.length c2 A3 c3 ms p q x d s 1 _ (Kd.C_below HC.out (HB.out.trans ((below_alloc (Below.refl wr.heap.size wr) _).mono HB.out.size))) (((below_alloc (Below.refl wr.heap.size wr) _).block _ (by omega)).trans K0.out) (((below_alloc (Below.refl wr.heap.size wr) _).block _ (by omega)).trans K1.out)).mono ?_; rintro e w1 ⟨rfl, hb⟩; rw [hv1]; have s1 := hb.size; rw [World.size_alloc] at s1; have zr := cell_of_blk ((hb.block wr.heap.size (by simp)).trans (World.alloc_heap_new wr (.cells #[.int .i64 x.f0, .int .i64 x.f1, .bool x.f2, .string x.f3.f0, .string x.f3.f1, .string x.f3.f2, .string x.f4.f0, .string x.f4.f1, .string x.f4.f2] 53))); have hb1 := Below.trans (below_alloc (Below.refl wr.heap.size wr) (.cells #[.int .i64 x.f0, .int .i64 x.f1, .bool x.f2, .string x.f3.f0, .string x.f3.f1, .string x.f3.f2, .string x.f4.f0, .string x.f4.f1, .string x.f4.f2] 53)) (hb.mono (by simp)); have zd := cell_of_blk ((hb1.block _ (by omega)).trans K2.out); have zs := cell_of_blk ((hb1.block _ (by omega)).trans K3.out); have x0 := zr 0; have x1 := zr 1; have x2 := zr 2; have x3 := zr 3; have x4 := zr 4; have x5 := zr 5; have x6 := zr 6; have x7 := zr 7; have x8 := zr 8; have v0 := zd 0; have v1 := zd 1; have v2 := zd 2; have v3 := zs 0; have v4 := zs 1; have v5 := zs 2; simp only [List.getElem?_toArray, List.getElem?_cons_zero, List.getElem?_cons_succ] at x0 x1 x2 x3 x4 x5 x6 x7 x8 v0 v1 v2 v3 v4 v5; clear zr zd zs; have KR := Aside0.mk ((hb.block wr.heap.size (by simp)).trans (World.alloc_heap_new wr (.cells #[.int .i64 x.f0, .int .i64 x.f1, .bool x.f2, .string x.f3.f0, .string x.f3.f1, .string x.f3.f2, .string x.f4.f0, .string x.f4.f1, .string x.f4.f2] 53))); have KB := Aside0.mk hb1; clear hb hb1) | (go_at_call 39; refine (both_calls w.heap.size (w.heap.size + 1) A0 n0 c0 A1 n1 c1 (some ad) rs.length c2 A3 c3 ms p q x s d 1 _ (Kd.C_below HC.out (HB.out.trans (KB.out.mono HB.out.size))) ((KB.out.block _ (by omega)).trans K0.out) ((KB.out.block _ (by omega)).trans K1.out)).mono ?_; rintro e w2 ⟨rfl, hb2⟩; rw [hv2]; have zr2 := cell_of_blk ((hb2.block wr.heap.size (by omega)).trans KR.out); have y1 := zr2 1; simp only [List.getElem?_toArray, List.getElem?_cons_zero, List.getElem?_cons_succ] at y1; clear zr2; have KB2 := Aside0.mk hb2; clear hb2))
                go_ret
                exact ⟨by rw [HV.out]; rfl, (HBW.out.trans (KB.out.mono HBW.out.size)).trans (KB2.out.mono (by omega))⟩
            · have hq2 : (!x.f2) = false := by rw [hf2]; rfl
              have HF2 := Aside0.mk hf2
              clear hf2
              have hh : hitP ms x d s 1 = false := by unfold hitP; rw [hv1, HF2.out]; simp
              have HH := Aside0.mk hh
              clear hh
              go_wp2_with (go_at_call 39; clear tok1; refine (both_calls w.heap.size (w.heap.size + 1) A0 n0 c0 A1 n1 c1 (some ad) rs.length c2 A3 c3 ms p q x d s 1 _ (Kd.C_below HC.out (HB.out.trans ((below_alloc (Below.refl wr.heap.size wr) _).mono HB.out.size))) (((below_alloc (Below.refl wr.heap.size wr) _).block _ (by omega)).trans K0.out) (((below_alloc (Below.refl wr.heap.size wr) _).block _ (by omega)).trans K1.out)).mono ?_; rintro e w1 ⟨rfl, hb⟩; rw [hv1]; have s1 := hb.size; rw [World.size_alloc] at s1; have zr := cell_of_blk ((hb.block wr.heap.size (by simp)).trans (World.alloc_heap_new wr (.cells #[.int .i64 x.f0, .int .i64 x.f1, .bool x.f2, .string x.f3.f0, .string x.f3.f1, .string x.f3.f2, .string x.f4.f0, .string x.f4.f1, .string x.f4.f2] 53))); have hb1 := Below.trans (below_alloc (Below.refl wr.heap.size wr) (.cells #[.int .i64 x.f0, .int .i64 x.f1, .bool x.f2, .string x.f3.f0, .string x.f3.f1, .string x.f3.f2, .string x.f4.f0, .string x.f4.f1, .string x.f4.f2] 53)) (hb.mono (by simp)); have zd := cell_of_blk ((hb1.block _ (by omega)).trans K2.out); have zs := cell_of_blk ((hb1.block _ (by omega)).trans K3.out); have x0 := zr 0; have x1 := zr 1; have x2 := zr 2; have x3 := zr 3; have x4 := zr 4; have x5 := zr 5; have x6 := zr 6; have x7 := zr 7; have x8 := zr 8; have v0 := zd 0; have v1 := zd 1; have v2 := zd 2; have v3 := zs 0; have v4 := zs 1; have v5 := zs 2; simp only [List.getElem?_toArray, List.getElem?_cons_zero, List.getElem?_cons_succ] at x0 x1 x2 x3 x4 x5 x6 x7 x8 v0 v1 v2 v3 v4 v5; clear zr zd zs; have KR := Aside0.mk ((hb.block wr.heap.size (by simp)).trans (World.alloc_heap_new wr (.cells #[.int .i64 x.f0, .int .i64 x.f1, .bool x.f2, .string x.f3.f0, .string x.f3.f1, .string x.f3.f2, .string x.f4.f0, .string x.f4.f1, .string x.f4.f2] 53))); have KB := Aside0.mk hb1; clear hb hb1)
              go_roundw
              case rel => exact ⟨i + 1, by simp, by omega, ⟨find_take_none _ rs i hlt HN.out (by rw [← HX.out]; exact HH.out)⟩, ⟨HB.out.trans (KB.out.mono HB.out.size)⟩⟩
              case measure => simp [intOf]; omega
          · have hh : hitP ms x d s 1 = true := by unfold hitP; rw [hv1, decide_eq_true HF0.out]; rfl
            have hv : costP rs ms 1 d s = x.f1 := by rw [HCC.out, find_take_some _ rs i hlt HN.out (by rw [← HX.out]; exact hh), ← HX.out]
            have HV := Aside0.mk hv
            clear hv hh
            go_wp2_with (go_at_call 39; clear tok1; refine (both_calls w.heap.size (w.heap.size + 1) A0 n0 c0 A1 n1 c1 (some ad) rs.length c2 A3 c3 ms p q x d s 1 _ (Kd.C_below HC.out (HB.out.trans ((below_alloc (Below.refl wr.heap.size wr) _).mono HB.out.size))) (((below_alloc (Below.refl wr.heap.size wr) _).block _ (by omega)).trans K0.out) (((below_alloc (Below.refl wr.heap.size wr) _).block _ (by omega)).trans K1.out)).mono ?_; rintro e w1 ⟨rfl, hb⟩; rw [hv1]; have s1 := hb.size; rw [World.size_alloc] at s1; have zr := cell_of_blk ((hb.block wr.heap.size (by simp)).trans (World.alloc_heap_new wr (.cells #[.int .i64 x.f0, .int .i64 x.f1, .bool x.f2, .string x.f3.f0, .string x.f3.f1, .string x.f3.f2, .string x.f4.f0, .string x.f4.f1, .string x.f4.f2] 53))); have hb1 := Below.trans (below_alloc (Below.refl wr.heap.size wr) (.cells #[.int .i64 x.f0, .int .i64 x.f1, .bool x.f2, .string x.f3.f0, .string x.f3.f1, .string x.f3.f2, .string x.f4.f0, .string x.f4.f1, .string x.f4.f2] 53)) (hb.mono (by simp)); have zd := cell_of_blk ((hb1.block _ (by omega)).trans K2.out); have zs := cell_of_blk ((hb1.block _ (by omega)).trans K3.out); have x0 := zr 0; have x1 := zr 1; have x2 := zr 2; have x3 := zr 3; have x4 := zr 4; have x5 := zr 5; have x6 := zr 6; have x7 := zr 7; have x8 := zr 8; have v0 := zd 0; have v1 := zd 1; have v2 := zd 2; have v3 := zs 0; have v4 := zs 1; have v5 := zs 2; simp only [List.getElem?_toArray, List.getElem?_cons_zero, List.getElem?_cons_succ] at x0 x1 x2 x3 x4 x5 x6 x7 x8 v0 v1 v2 v3 v4 v5; clear zr zd zs; have KR := Aside0.mk ((hb.block wr.heap.size (by simp)).trans (World.alloc_heap_new wr (.cells #[.int .i64 x.f0, .int .i64 x.f1, .bool x.f2, .string x.f3.f0, .string x.f3.f1, .string x.f3.f2, .string x.f4.f0, .string x.f4.f1, .string x.f4.f2] 53))); have KB := Aside0.mk hb1; clear hb hb1)
            go_ret
            exact ⟨by rw [HV.out]; rfl, HBW.out.trans (KB.out.mono HBW.out.size)⟩
        · have hh : hitP ms x d s 1 = false := by unfold hitP; rw [decide_eq_false hf0]; rfl
          have HH := Aside0.mk hh
          clear hh
          go_wp2
          go_roundw
          case rel => exact ⟨i + 1, by simp, by omega, ⟨find_take_none _ rs i hlt HN.out (by rw [← HX.out]; exact HH.out)⟩, ⟨HB.out.trans ((below_alloc (Below.refl wr.heap.size wr) _).mono HB.out.size)⟩⟩
          case measure => simp [intOf]; omega
      · obtain rfl : i = rs.length := by omega
        have d1 : decide (((rs.length : Nat) : Int) < (rs.length : Int)) = false := decide_eq_false (by omega)
        have hN := HN.out
        rw [List.take_length] at hN
        have hv : costP rs ms 1 d s = 100 := by rw [HCC.out, hN]
        have HV := Aside0.mk hv
        clear hv hN
        go_wp2
        go_ret
        exact ⟨by rw [HV.out]; rfl, HBW.out⟩
   · clear hlv
     go_wp2
     rw [← HW.out]
     have w1 := cell_of_blk H1.out 0
     have zd := cell_of_blk H2.out
     have zs := cell_of_blk H3.out
     have zi := cell_of_blk H0.out
     have v0 := zd 0
     have v1 := zd 1
     have v2 := zd 2
     have v3 := zs 0
     have v4 := zs 1
     have v5 := zs 2
     have i2 := zi 2
     simp only [List.getElem?_toArray, List.getElem?_cons_zero, List.getElem?_cons_succ] at w1 v0 v1 v2 v3 v4 v5 i2
     clear zd zs zi
     have hw : IntKind.i64.wrap 1 = 1 := by rfl
     go_still (by kernel_rfl)
     go_wp2
     · have he : d.2.1.toList = s.2.1.toList := eq_of_beq (by assumption : (d.2.1.toList == s.2.1.toList) = true)
       go_ret
       exact ⟨by have : costP rs ms 2 d s = 0 := by { unfold costP; rw [if_neg (by omega), if_pos (show at3 d ((2 : Int) - 1).toNat = at3 s ((2 : Int) - 1).toNat from toList_inj he)] }
                 rw [this]; rfl, HB0.out.trans ((below_drew (Below.refl W0.heap.size W0)).mono HB0.out.size)⟩
     have hbq : (d.2.1.toList == s.2.1.toList) = false := by assumption
     rw [hbq]
     have he : ¬ d.2.1.toList = s.2.1.toList := ne_of_beq_false (by assumption : (d.2.1.toList == s.2.1.toList) = false)
     have hc : costP rs ms 2 d s = match rs.find? fun r => hitP ms r d s 2 with
      | some r => r.f1
      | none => 100 := by unfold costP; rw [if_neg (by omega), if_neg (show ¬ at3 d ((2 : Int) - 1).toNat = at3 s ((2 : Int) - 1).toNat from fun e => he (congrArg ByteArray.toList e))]
     have HCC := Aside0.mk hc
     clear hc
     go_loopw [31] (fun vi wr => ∃ i : Nat, vi = .int .i64 (i : Int) ∧ i ≤ rs.length ∧ Aside0 ((rs.take i).find? (fun r => hitP ms r d s 2) = none) ∧ Aside0 (Below W0.heap.size W0 wr)) (fun vi _ => rs.length - (intOf vi).toNat)
     case atStart => exact ⟨0, rfl, Nat.zero_le _, ⟨rfl⟩, ⟨below_drew (Below.refl _ _)⟩⟩
     case round =>
      clear w1 v0 v1 v2 v3 v4 v5 i2
      obtain ⟨i, rfl, hi, HN, HB⟩ := hrel
      have BW := HB0.out.trans (HB.out.mono HB0.out.size)
      have HBW := Aside0.mk BW
      by_cases hlt : i < rs.length
      · have sr := HB.out.size
        have sw0 : w.heap.size < wr.heap.size := by omega
        have sw1 : w.heap.size + 1 < wr.heap.size := by omega
        have sw2 : w.heap.size + 1 + 1 < wr.heap.size := by omega
        have sw3 : w.heap.size + 1 + 1 + 1 < wr.heap.size := by omega
        have K0 := Aside0.mk ((HB.out.block _ (by omega)).trans H0.out)
        have K1 := Aside0.mk ((HB.out.block _ (by omega)).trans H1.out)
        have K2 := Aside0.mk ((HB.out.block _ (by omega)).trans H2.out)
        have K3 := Aside0.mk ((HB.out.block _ (by omega)).trans H3.out)
        obtain ⟨ad, e, x0, x1, x2, x3, x4, x5, x6, x7, x8⟩ := at_T53 HR.out (i : Int) (by omega) (by omega)
        cases e
        have bl := World.block_lt_of_cell? W0 _ x0
        replace x0 := (HB.out.cell (World.block_lt_of_cell? W0 _ x0)).trans x0
        replace x1 := (HB.out.cell (World.block_lt_of_cell? W0 _ x1)).trans x1
        replace x2 := (HB.out.cell (World.block_lt_of_cell? W0 _ x2)).trans x2
        replace x3 := (HB.out.cell (World.block_lt_of_cell? W0 _ x3)).trans x3
        replace x4 := (HB.out.cell (World.block_lt_of_cell? W0 _ x4)).trans x4
        replace x5 := (HB.out.cell (World.block_lt_of_cell? W0 _ x5)).trans x5
        replace x6 := (HB.out.cell (World.block_lt_of_cell? W0 _ x6)).trans x6
        replace x7 := (HB.out.cell (World.block_lt_of_cell? W0 _ x7)).trans x7
        replace x8 := (HB.out.cell (World.block_lt_of_cell? W0 _ x8)).trans x8
        obtain ⟨x, hx⟩ : ∃ x, x = rd_T53 rs (i : Int) := ⟨_, rfl⟩
        rw [← hx] at x0 x1 x2 x3 x4 x5 x6 x7 x8
        simp only [Int.toNat_natCast] at x0 x1 x2 x3 x4 x5 x6 x7 x8
        have hx2 : x = rs[i]'hlt := by rw [hx]; simp [rd_T53, List.getD_eq_getElem?_getD, List.getElem?_eq_getElem hlt]
        have HX := Aside0.mk hx2
        clear hx hx2 bl BW
        have zd := cell_of_blk K2.out
        have zs := cell_of_blk K3.out
        have l0 := cell_of_blk K1.out 0
        have v0 := zd 0
        have v1 := zd 1
        have v2 := zd 2
        have v3 := zs 0
        have v4 := zs 1
        have v5 := zs 2
        simp only [List.getElem?_toArray, List.getElem?_cons_zero, List.getElem?_cons_succ] at l0 v0 v1 v2 v3 v4 v5
        clear zd zs
        have tok1 : Aside0 (1 = 1) := ⟨rfl⟩
        have d1 : decide ((i : Int) < (rs.length : Int)) = true := decide_eq_true (by omega)
        by_cases hf0 : x.f0 = 2
        · have hq : (x.f0 == 2) = true := by rw [hf0]; rfl
          have HF0 := Aside0.mk hf0
          clear hf0
          cases hv1 : bothP ms x d s 2
          · cases hf2 : x.f2
            · have hq2 : (!x.f2) = true := by rw [hf2]; rfl
              have HF2 := Aside0.mk hf2
              clear hf2
              cases hv2 : bothP ms x s d 2
              · have hh : hitP ms x d s 2 = false := by unfold hitP; rw [hv1, hv2, HF2.out]; simp
                have HH := Aside0.mk hh
                clear hh
                go_wp2_with (first | (go_at_call 39; clear tok1; refine (both_calls w.heap.size (w.heap.size + 1) A0 n0 c0 A1 n1 c1 (some ad) rs.length c2 A3 c3 ms p q x d s 2 _ (Kd.C_below HC.out (HB.out.trans ((below_alloc (Below.refl wr.heap.size wr) _).mono HB.out.size))) (((below_alloc (Below.refl wr.heap.size wr) _).block _ (by omega)).trans K0.out) (((below_alloc (Below.refl wr.heap.size wr) _).block _ (by omega)).trans K1.out)).mono ?_; rintro e w1 ⟨rfl, hb⟩; rw [hv1]; have s1 := hb.size; rw [World.size_alloc] at s1; have zr := cell_of_blk ((hb.block wr.heap.size (by simp)).trans (World.alloc_heap_new wr (.cells #[.int .i64 x.f0, .int .i64 x.f1, .bool x.f2, .string x.f3.f0, .string x.f3.f1, .string x.f3.f2, .string x.f4.f0, .string x.f4.f1, .string x.f4.f2] 53))); have hb1 := Below.trans (below_alloc (Below.refl wr.heap.size wr) (.cells #[.int .i64 x.f0, .int .i64 x.f1, .bool x.f2, .string x.f3.f0, .string x.f3.f1, .string x.f3.f2, .string x.f4.f0, .string x.f4.f1, .string x.f4.f2] 53)) (hb.mono (by simp)); have zd := cell_of_blk ((hb1.block _ (by omega)).trans K2.out); have zs := cell_of_blk ((hb1.block _ (by omega)).trans K3.out); have x0 := zr 0; have x1 := zr 1; have x2 := zr 2; have x3 := zr 3; have x4 := zr 4; have x5 := zr 5; have x6 := zr 6; have x7 := zr 7; have x8 := zr 8; have v0 := zd 0; have v1 := zd 1; have v2 := zd 2; have v3 := zs 0; have v4 := zs 1; have v5 := zs 2; simp only [List.getElem?_toArray, List.getElem?_cons_zero, List.getElem?_cons_succ] at x0 x1 x2 x3 x4 x5 x6 x7 x8 v0 v1 v2 v3 v4 v5; clear zr zd zs; have KR := Aside0.mk ((hb.block wr.heap.size (by simp)).trans (World.alloc_heap_new wr (.cells #[.int .i64 x.f0, .int .i64 x.f1, .bool x.f2, .string x.f3.f0, .string x.f3.f1, .string x.f3.f2, .string x.f4.f0, .string x.f4.f1, .string x.f4.f2] 53))); have KB := Aside0.mk hb1; clear hb hb1) | (go_at_call 39; refine (both_calls w.heap.size (w.heap.size + 1) A0 n0 c0 A1 n1 c1 (some ad) rs.length c2 A3 c3 ms p q x s d 2 _ (Kd.C_below HC.out (HB.out.trans (KB.out.mono HB.out.size))) ((KB.out.block _ (by omega)).trans K0.out) ((KB.out.block _ (by omega)).trans K1.out)).mono ?_; rintro e w2 ⟨rfl, hb2⟩; rw [hv2]; have zr2 := cell_of_blk ((hb2.block wr.heap.size (by omega)).trans KR.out); have y1 := zr2 1; simp only [List.getElem?_toArray, List.getElem?_cons_zero, List.getElem?_cons_succ] at y1; clear zr2; have KB2 := Aside0.mk hb2; clear hb2))
                go_roundw
                case rel => exact ⟨i + 1, by simp, by omega, ⟨find_take_none _ rs i hlt HN.out (by rw [← HX.out]; exact HH.out)⟩, ⟨(HB.out.trans (KB.out.mono HB.out.size)).trans (KB2.out.mono (by omega))⟩⟩
                case measure => simp [intOf]; omega
              · have hh : hitP ms x d s 2 = true := by unfold hitP; rw [hv1, hv2, HF2.out, decide_eq_true HF0.out]; rfl
                have hv : costP rs ms 2 d s = x.f1 := by rw [HCC.out, find_take_some _ rs i hlt HN.out (by rw [← HX.out]; exact hh), ← HX.out]
                have HV := Aside0.mk hv
                clear hv hh
                go_wp2_with (first | (go_at_call 39; clear tok1; refine (both_calls w.heap.size (w.heap.size + 1) A0 n0 c0 A1 n1 c1 (some ad) rs.length c2 A3 c3 ms p q x d s 2 _ (Kd.C_below HC.out (HB.out.trans ((below_alloc (Below.refl wr.heap.size wr) _).mono HB.out.size))) (((below_alloc (Below.refl wr.heap.size wr) _).block _ (by omega)).trans K0.out) (((below_alloc (Below.refl wr.heap.size wr) _).block _ (by omega)).trans K1.out)).mono ?_; rintro e w1 ⟨rfl, hb⟩; rw [hv1]; have s1 := hb.size; rw [World.size_alloc] at s1; have zr := cell_of_blk ((hb.block wr.heap.size (by simp)).trans (World.alloc_heap_new wr (.cells #[.int .i64 x.f0, .int .i64 x.f1, .bool x.f2, .string x.f3.f0, .string x.f3.f1, .string x.f3.f2, .string x.f4.f0, .string x.f4.f1, .string x.f4.f2] 53))); have hb1 := Below.trans (below_alloc (Below.refl wr.heap.size wr) (.cells #[.int .i64 x.f0, .int .i64 x.f1, .bool x.f2, .string x.f3.f0, .string x.f3.f1, .string x.f3.f2, .string x.f4.f0, .string x.f4.f1, .string x.f4.f2] 53)) (hb.mono (by simp)); have zd := cell_of_blk ((hb1.block _ (by omega)).trans K2.out); have zs := cell_of_blk ((hb1.block _ (by omega)).trans K3.out); have x0 := zr 0; have x1 := zr 1; have x2 := zr 2; have x3 := zr 3; have x4 := zr 4; have x5 := zr 5; have x6 := zr 6; have x7 := zr 7; have x8 := zr 8; have v0 := zd 0; have v1 := zd 1; have v2 := zd 2; have v3 := zs 0; have v4 := zs 1; have v5 := zs 2; simp only [List.getElem?_toArray, List.getElem?_cons_zero, List.getElem?_cons_succ] at x0 x1 x2 x3 x4 x5 x6 x7 x8 v0 v1 v2 v3 v4 v5; clear zr zd zs; have KR := Aside0.mk ((hb.block wr.heap.size (by simp)).trans (World.alloc_heap_new wr (.cells #[.int .i64 x.f0, .int .i64 x.f1, .bool x.f2, .string x.f3.f0, .string x.f3.f1, .string x.f3.f2, .string x.f4.f0, .string x.f4.f1, .string x.f4.f2] 53))); have KB := Aside0.mk hb1; clear hb hb1) | (go_at_call 39; refine (both_calls w.heap.size (w.heap.size + 1) A0 n0 c0 A1 n1 c1 (some ad) rs.length c2 A3 c3 ms p q x s d 2 _ (Kd.C_below HC.out (HB.out.trans (KB.out.mono HB.out.size))) ((KB.out.block _ (by omega)).trans K0.out) ((KB.out.block _ (by omega)).trans K1.out)).mono ?_; rintro e w2 ⟨rfl, hb2⟩; rw [hv2]; have zr2 := cell_of_blk ((hb2.block wr.heap.size (by omega)).trans KR.out); have y1 := zr2 1; simp only [List.getElem?_toArray, List.getElem?_cons_zero, List.getElem?_cons_succ] at y1; clear zr2; have KB2 := Aside0.mk hb2; clear hb2))
                go_ret
                exact ⟨by rw [HV.out]; rfl, (HBW.out.trans (KB.out.mono HBW.out.size)).trans (KB2.out.mono (by omega))⟩
            · have hq2 : (!x.f2) = false := by rw [hf2]; rfl
              have HF2 := Aside0.mk hf2
              clear hf2
              have hh : hitP ms x d s 2 = false := by unfold hitP; rw [hv1, HF2.out]; simp
              have HH := Aside0.mk hh
              clear hh
              go_wp2_with (go_at_call 39; clear tok1; refine (both_calls w.heap.size (w.heap.size + 1) A0 n0 c0 A1 n1 c1 (some ad) rs.length c2 A3 c3 ms p q x d s 2 _ (Kd.C_below HC.out (HB.out.trans ((below_alloc (Below.refl wr.heap.size wr) _).mono HB.out.size))) (((below_alloc (Below.refl wr.heap.size wr) _).block _ (by omega)).trans K0.out) (((below_alloc (Below.refl wr.heap.size wr) _).block _ (by omega)).trans K1.out)).mono ?_; rintro e w1 ⟨rfl, hb⟩; rw [hv1]; have s1 := hb.size; rw [World.size_alloc] at s1; have zr := cell_of_blk ((hb.block wr.heap.size (by simp)).trans (World.alloc_heap_new wr (.cells #[.int .i64 x.f0, .int .i64 x.f1, .bool x.f2, .string x.f3.f0, .string x.f3.f1, .string x.f3.f2, .string x.f4.f0, .string x.f4.f1, .string x.f4.f2] 53))); have hb1 := Below.trans (below_alloc (Below.refl wr.heap.size wr) (.cells #[.int .i64 x.f0, .int .i64 x.f1, .bool x.f2, .string x.f3.f0, .string x.f3.f1, .string x.f3.f2, .string x.f4.f0, .string x.f4.f1, .string x.f4.f2] 53)) (hb.mono (by simp)); have zd := cell_of_blk ((hb1.block _ (by omega)).trans K2.out); have zs := cell_of_blk ((hb1.block _ (by omega)).trans K3.out); have x0 := zr 0; have x1 := zr 1; have x2 := zr 2; have x3 := zr 3; have x4 := zr 4; have x5 := zr 5; have x6 := zr 6; have x7 := zr 7; have x8 := zr 8; have v0 := zd 0; have v1 := zd 1; have v2 := zd 2; have v3 := zs 0; have v4 := zs 1; have v5 := zs 2; simp only [List.getElem?_toArray, List.getElem?_cons_zero, List.getElem?_cons_succ] at x0 x1 x2 x3 x4 x5 x6 x7 x8 v0 v1 v2 v3 v4 v5; clear zr zd zs; have KR := Aside0.mk ((hb.block wr.heap.size (by simp)).trans (World.alloc_heap_new wr (.cells #[.int .i64 x.f0, .int .i64 x.f1, .bool x.f2, .string x.f3.f0, .string x.f3.f1, .string x.f3.f2, .string x.f4.f0, .string x.f4.f1, .string x.f4.f2] 53))); have KB := Aside0.mk hb1; clear hb hb1)
              go_roundw
              case rel => exact ⟨i + 1, by simp, by omega, ⟨find_take_none _ rs i hlt HN.out (by rw [← HX.out]; exact HH.out)⟩, ⟨HB.out.trans (KB.out.mono HB.out.size)⟩⟩
              case measure => simp [intOf]; omega
          · have hh : hitP ms x d s 2 = true := by unfold hitP; rw [hv1, decide_eq_true HF0.out]; rfl
            have hv : costP rs ms 2 d s = x.f1 := by rw [HCC.out, find_take_some _ rs i hlt HN.out (by rw [← HX.out]; exact hh), ← HX.out]
            have HV := Aside0.mk hv
            clear hv hh
            go_wp2_with (go_at_call 39; clear tok1; refine (both_calls w.heap.size (w.heap.size + 1) A0 n0 c0 A1 n1 c1 (some ad) rs.length c2 A3 c3 ms p q x d s 2 _ (Kd.C_below HC.out (HB.out.trans ((below_alloc (Below.refl wr.heap.size wr) _).mono HB.out.size))) (((below_alloc (Below.refl wr.heap.size wr) _).block _ (by omega)).trans K0.out) (((below_alloc (Below.refl wr.heap.size wr) _).block _ (by omega)).trans K1.out)).mono ?_; rintro e w1 ⟨rfl, hb⟩; rw [hv1]; have s1 := hb.size; rw [World.size_alloc] at s1; have zr := cell_of_blk ((hb.block wr.heap.size (by simp)).trans (World.alloc_heap_new wr (.cells #[.int .i64 x.f0, .int .i64 x.f1, .bool x.f2, .string x.f3.f0, .string x.f3.f1, .string x.f3.f2, .string x.f4.f0, .string x.f4.f1, .string x.f4.f2] 53))); have hb1 := Below.trans (below_alloc (Below.refl wr.heap.size wr) (.cells #[.int .i64 x.f0, .int .i64 x.f1, .bool x.f2, .string x.f3.f0, .string x.f3.f1, .string x.f3.f2, .string x.f4.f0, .string x.f4.f1, .string x.f4.f2] 53)) (hb.mono (by simp)); have zd := cell_of_blk ((hb1.block _ (by omega)).trans K2.out); have zs := cell_of_blk ((hb1.block _ (by omega)).trans K3.out); have x0 := zr 0; have x1 := zr 1; have x2 := zr 2; have x3 := zr 3; have x4 := zr 4; have x5 := zr 5; have x6 := zr 6; have x7 := zr 7; have x8 := zr 8; have v0 := zd 0; have v1 := zd 1; have v2 := zd 2; have v3 := zs 0; have v4 := zs 1; have v5 := zs 2; simp only [List.getElem?_toArray, List.getElem?_cons_zero, List.getElem?_cons_succ] at x0 x1 x2 x3 x4 x5 x6 x7 x8 v0 v1 v2 v3 v4 v5; clear zr zd zs; have KR := Aside0.mk ((hb.block wr.heap.size (by simp)).trans (World.alloc_heap_new wr (.cells #[.int .i64 x.f0, .int .i64 x.f1, .bool x.f2, .string x.f3.f0, .string x.f3.f1, .string x.f3.f2, .string x.f4.f0, .string x.f4.f1, .string x.f4.f2] 53))); have KB := Aside0.mk hb1; clear hb hb1)
            go_ret
            exact ⟨by rw [HV.out]; rfl, HBW.out.trans (KB.out.mono HBW.out.size)⟩
        · have hh : hitP ms x d s 2 = false := by unfold hitP; rw [decide_eq_false hf0]; rfl
          have HH := Aside0.mk hh
          clear hh
          go_wp2
          go_roundw
          case rel => exact ⟨i + 1, by simp, by omega, ⟨find_take_none _ rs i hlt HN.out (by rw [← HX.out]; exact HH.out)⟩, ⟨HB.out.trans ((below_alloc (Below.refl wr.heap.size wr) _).mono HB.out.size)⟩⟩
          case measure => simp [intOf]; omega
      · obtain rfl : i = rs.length := by omega
        have d1 : decide (((rs.length : Nat) : Int) < (rs.length : Int)) = false := decide_eq_false (by omega)
        have hN := HN.out
        rw [List.take_length] at hN
        have hv : costP rs ms 2 d s = 100 := by rw [HCC.out, hN]
        have HV := Aside0.mk hv
        clear hv hN
        go_wp2
        go_ret
        exact ⟨by rw [HV.out]; rfl, HBW.out⟩
   · clear hlv
     go_wp2
     rw [← HW.out]
     have w1 := cell_of_blk H1.out 0
     have zd := cell_of_blk H2.out
     have zs := cell_of_blk H3.out
     have zi := cell_of_blk H0.out
     have v0 := zd 0
     have v1 := zd 1
     have v2 := zd 2
     have v3 := zs 0
     have v4 := zs 1
     have v5 := zs 2
     have i2 := zi 2
     simp only [List.getElem?_toArray, List.getElem?_cons_zero, List.getElem?_cons_succ] at w1 v0 v1 v2 v3 v4 v5 i2
     clear zd zs zi
     have hw : IntKind.i64.wrap 2 = 2 := by rfl
     go_still (by kernel_rfl)
     go_wp2
     · have he : d.2.2.toList = s.2.2.toList := eq_of_beq (by assumption : (d.2.2.toList == s.2.2.toList) = true)
       go_ret
       exact ⟨by have : costP rs ms 3 d s = 0 := by { unfold costP; rw [if_neg (by omega), if_pos (show at3 d ((3 : Int) - 1).toNat = at3 s ((3 : Int) - 1).toNat from toList_inj he)] }
                 rw [this]; rfl, HB0.out.trans ((below_drew (Below.refl W0.heap.size W0)).mono HB0.out.size)⟩
     have hbq : (d.2.2.toList == s.2.2.toList) = false := by assumption
     rw [hbq]
     have he : ¬ d.2.2.toList = s.2.2.toList := ne_of_beq_false (by assumption : (d.2.2.toList == s.2.2.toList) = false)
     have hc : costP rs ms 3 d s = match rs.find? fun r => hitP ms r d s 3 with
      | some r => r.f1
      | none => 100 := by unfold costP; rw [if_neg (by omega), if_neg (show ¬ at3 d ((3 : Int) - 1).toNat = at3 s ((3 : Int) - 1).toNat from fun e => he (congrArg ByteArray.toList e))]
     have HCC := Aside0.mk hc
     clear hc
     go_loopw [31] (fun vi wr => ∃ i : Nat, vi = .int .i64 (i : Int) ∧ i ≤ rs.length ∧ Aside0 ((rs.take i).find? (fun r => hitP ms r d s 3) = none) ∧ Aside0 (Below W0.heap.size W0 wr)) (fun vi _ => rs.length - (intOf vi).toNat)
     case atStart => exact ⟨0, rfl, Nat.zero_le _, ⟨rfl⟩, ⟨below_drew (Below.refl _ _)⟩⟩
     case round =>
      clear w1 v0 v1 v2 v3 v4 v5 i2
      obtain ⟨i, rfl, hi, HN, HB⟩ := hrel
      have BW := HB0.out.trans (HB.out.mono HB0.out.size)
      have HBW := Aside0.mk BW
      by_cases hlt : i < rs.length
      · have sr := HB.out.size
        have sw0 : w.heap.size < wr.heap.size := by omega
        have sw1 : w.heap.size + 1 < wr.heap.size := by omega
        have sw2 : w.heap.size + 1 + 1 < wr.heap.size := by omega
        have sw3 : w.heap.size + 1 + 1 + 1 < wr.heap.size := by omega
        have K0 := Aside0.mk ((HB.out.block _ (by omega)).trans H0.out)
        have K1 := Aside0.mk ((HB.out.block _ (by omega)).trans H1.out)
        have K2 := Aside0.mk ((HB.out.block _ (by omega)).trans H2.out)
        have K3 := Aside0.mk ((HB.out.block _ (by omega)).trans H3.out)
        obtain ⟨ad, e, x0, x1, x2, x3, x4, x5, x6, x7, x8⟩ := at_T53 HR.out (i : Int) (by omega) (by omega)
        cases e
        have bl := World.block_lt_of_cell? W0 _ x0
        replace x0 := (HB.out.cell (World.block_lt_of_cell? W0 _ x0)).trans x0
        replace x1 := (HB.out.cell (World.block_lt_of_cell? W0 _ x1)).trans x1
        replace x2 := (HB.out.cell (World.block_lt_of_cell? W0 _ x2)).trans x2
        replace x3 := (HB.out.cell (World.block_lt_of_cell? W0 _ x3)).trans x3
        replace x4 := (HB.out.cell (World.block_lt_of_cell? W0 _ x4)).trans x4
        replace x5 := (HB.out.cell (World.block_lt_of_cell? W0 _ x5)).trans x5
        replace x6 := (HB.out.cell (World.block_lt_of_cell? W0 _ x6)).trans x6
        replace x7 := (HB.out.cell (World.block_lt_of_cell? W0 _ x7)).trans x7
        replace x8 := (HB.out.cell (World.block_lt_of_cell? W0 _ x8)).trans x8
        obtain ⟨x, hx⟩ : ∃ x, x = rd_T53 rs (i : Int) := ⟨_, rfl⟩
        rw [← hx] at x0 x1 x2 x3 x4 x5 x6 x7 x8
        simp only [Int.toNat_natCast] at x0 x1 x2 x3 x4 x5 x6 x7 x8
        have hx2 : x = rs[i]'hlt := by rw [hx]; simp [rd_T53, List.getD_eq_getElem?_getD, List.getElem?_eq_getElem hlt]
        have HX := Aside0.mk hx2
        clear hx hx2 bl BW
        have zd := cell_of_blk K2.out
        have zs := cell_of_blk K3.out
        have l0 := cell_of_blk K1.out 0
        have v0 := zd 0
        have v1 := zd 1
        have v2 := zd 2
        have v3 := zs 0
        have v4 := zs 1
        have v5 := zs 2
        simp only [List.getElem?_toArray, List.getElem?_cons_zero, List.getElem?_cons_succ] at l0 v0 v1 v2 v3 v4 v5
        clear zd zs
        have tok1 : Aside0 (1 = 1) := ⟨rfl⟩
        have d1 : decide ((i : Int) < (rs.length : Int)) = true := decide_eq_true (by omega)
        by_cases hf0 : x.f0 = 3
        · have hq : (x.f0 == 3) = true := by rw [hf0]; rfl
          have HF0 := Aside0.mk hf0
          clear hf0
          cases hv1 : bothP ms x d s 3
          · cases hf2 : x.f2
            · have hq2 : (!x.f2) = true := by rw [hf2]; rfl
              have HF2 := Aside0.mk hf2
              clear hf2
              cases hv2 : bothP ms x s d 3
              · have hh : hitP ms x d s 3 = false := by unfold hitP; rw [hv1, hv2, HF2.out]; simp
                have HH := Aside0.mk hh
                clear hh
                go_wp2_with (first | (go_at_call 39; clear tok1; refine (both_calls w.heap.size (w.heap.size + 1) A0 n0 c0 A1 n1 c1 (some ad) rs.length c2 A3 c3 ms p q x d s 3 _ (Kd.C_below HC.out (HB.out.trans ((below_alloc (Below.refl wr.heap.size wr) _).mono HB.out.size))) (((below_alloc (Below.refl wr.heap.size wr) _).block _ (by omega)).trans K0.out) (((below_alloc (Below.refl wr.heap.size wr) _).block _ (by omega)).trans K1.out)).mono ?_; rintro e w1 ⟨rfl, hb⟩; rw [hv1]; have s1 := hb.size; rw [World.size_alloc] at s1; have zr := cell_of_blk ((hb.block wr.heap.size (by simp)).trans (World.alloc_heap_new wr (.cells #[.int .i64 x.f0, .int .i64 x.f1, .bool x.f2, .string x.f3.f0, .string x.f3.f1, .string x.f3.f2, .string x.f4.f0, .string x.f4.f1, .string x.f4.f2] 53))); have hb1 := Below.trans (below_alloc (Below.refl wr.heap.size wr) (.cells #[.int .i64 x.f0, .int .i64 x.f1, .bool x.f2, .string x.f3.f0, .string x.f3.f1, .string x.f3.f2, .string x.f4.f0, .string x.f4.f1, .string x.f4.f2] 53)) (hb.mono (by simp)); have zd := cell_of_blk ((hb1.block _ (by omega)).trans K2.out); have zs := cell_of_blk ((hb1.block _ (by omega)).trans K3.out); have x0 := zr 0; have x1 := zr 1; have x2 := zr 2; have x3 := zr 3; have x4 := zr 4; have x5 := zr 5; have x6 := zr 6; have x7 := zr 7; have x8 := zr 8; have v0 := zd 0; have v1 := zd 1; have v2 := zd 2; have v3 := zs 0; have v4 := zs 1; have v5 := zs 2; simp only [List.getElem?_toArray, List.getElem?_cons_zero, List.getElem?_cons_succ] at x0 x1 x2 x3 x4 x5 x6 x7 x8 v0 v1 v2 v3 v4 v5; clear zr zd zs; have KR := Aside0.mk ((hb.block wr.heap.size (by simp)).trans (World.alloc_heap_new wr (.cells #[.int .i64 x.f0, .int .i64 x.f1, .bool x.f2, .string x.f3.f0, .string x.f3.f1, .string x.f3.f2, .string x.f4.f0, .string x.f4.f1, .string x.f4.f2] 53))); have KB := Aside0.mk hb1; clear hb hb1) | (go_at_call 39; refine (both_calls w.heap.size (w.heap.size + 1) A0 n0 c0 A1 n1 c1 (some ad) rs.length c2 A3 c3 ms p q x s d 3 _ (Kd.C_below HC.out (HB.out.trans (KB.out.mono HB.out.size))) ((KB.out.block _ (by omega)).trans K0.out) ((KB.out.block _ (by omega)).trans K1.out)).mono ?_; rintro e w2 ⟨rfl, hb2⟩; rw [hv2]; have zr2 := cell_of_blk ((hb2.block wr.heap.size (by omega)).trans KR.out); have y1 := zr2 1; simp only [List.getElem?_toArray, List.getElem?_cons_zero, List.getElem?_cons_succ] at y1; clear zr2; have KB2 := Aside0.mk hb2; clear hb2))
                go_roundw
                case rel => exact ⟨i + 1, by simp, by omega, ⟨find_take_none _ rs i hlt HN.out (by rw [← HX.out]; exact HH.out)⟩, ⟨(HB.out.trans (KB.out.mono HB.out.size)).trans (KB2.out.mono (by omega))⟩⟩
                case measure => simp [intOf]; omega
              · have hh : hitP ms x d s 3 = true := by unfold hitP; rw [hv1, hv2, HF2.out, decide_eq_true HF0.out]; rfl
                have hv : costP rs ms 3 d s = x.f1 := by rw [HCC.out, find_take_some _ rs i hlt HN.out (by rw [← HX.out]; exact hh), ← HX.out]
                have HV := Aside0.mk hv
                clear hv hh
                go_wp2_with (first | (go_at_call 39; clear tok1; refine (both_calls w.heap.size (w.heap.size + 1) A0 n0 c0 A1 n1 c1 (some ad) rs.length c2 A3 c3 ms p q x d s 3 _ (Kd.C_below HC.out (HB.out.trans ((below_alloc (Below.refl wr.heap.size wr) _).mono HB.out.size))) (((below_alloc (Below.refl wr.heap.size wr) _).block _ (by omega)).trans K0.out) (((below_alloc (Below.refl wr.heap.size wr) _).block _ (by omega)).trans K1.out)).mono ?_; rintro e w1 ⟨rfl, hb⟩; rw [hv1]; have s1 := hb.size; rw [World.size_alloc] at s1; have zr := cell_of_blk ((hb.block wr.heap.size (by simp)).trans (World.alloc_heap_new wr (.cells #[.int .i64 x.f0, .int .i64 x.f1, .bool x.f2, .string x.f3.f0, .string x.f3.f1, .string x.f3.f2, .string x.f4.f0, .string x.f4.f1, .string x.f4.f2] 53))); have hb1 := Below.trans (below_alloc (Below.refl wr.heap.size wr) (.cells #[.int .i64 x.f0, .int .i64 x.f1, .bool x.f2, .string x.f3.f0, .string x.f3.f1, .string x.f3.f2, .string x.f4.f0, .string x.f4.f1, .string x.f4.f2] 53)) (hb.mono (by simp)); have zd := cell_of_blk ((hb1.block _ (by omega)).trans K2.out); have zs := cell_of_blk ((hb1.block _ (by omega)).trans K3.out); have x0 := zr 0; have x1 := zr 1; have x2 := zr 2; have x3 := zr 3; have x4 := zr 4; have x5 := zr 5; have x6 := zr 6; have x7 := zr 7; have x8 := zr 8; have v0 := zd 0; have v1 := zd 1; have v2 := zd 2; have v3 := zs 0; have v4 := zs 1; have v5 := zs 2; simp only [List.getElem?_toArray, List.getElem?_cons_zero, List.getElem?_cons_succ] at x0 x1 x2 x3 x4 x5 x6 x7 x8 v0 v1 v2 v3 v4 v5; clear zr zd zs; have KR := Aside0.mk ((hb.block wr.heap.size (by simp)).trans (World.alloc_heap_new wr (.cells #[.int .i64 x.f0, .int .i64 x.f1, .bool x.f2, .string x.f3.f0, .string x.f3.f1, .string x.f3.f2, .string x.f4.f0, .string x.f4.f1, .string x.f4.f2] 53))); have KB := Aside0.mk hb1; clear hb hb1) | (go_at_call 39; refine (both_calls w.heap.size (w.heap.size + 1) A0 n0 c0 A1 n1 c1 (some ad) rs.length c2 A3 c3 ms p q x s d 3 _ (Kd.C_below HC.out (HB.out.trans (KB.out.mono HB.out.size))) ((KB.out.block _ (by omega)).trans K0.out) ((KB.out.block _ (by omega)).trans K1.out)).mono ?_; rintro e w2 ⟨rfl, hb2⟩; rw [hv2]; have zr2 := cell_of_blk ((hb2.block wr.heap.size (by omega)).trans KR.out); have y1 := zr2 1; simp only [List.getElem?_toArray, List.getElem?_cons_zero, List.getElem?_cons_succ] at y1; clear zr2; have KB2 := Aside0.mk hb2; clear hb2))
                go_ret
                exact ⟨by rw [HV.out]; rfl, (HBW.out.trans (KB.out.mono HBW.out.size)).trans (KB2.out.mono (by omega))⟩
            · have hq2 : (!x.f2) = false := by rw [hf2]; rfl
              have HF2 := Aside0.mk hf2
              clear hf2
              have hh : hitP ms x d s 3 = false := by unfold hitP; rw [hv1, HF2.out]; simp
              have HH := Aside0.mk hh
              clear hh
              go_wp2_with (go_at_call 39; clear tok1; refine (both_calls w.heap.size (w.heap.size + 1) A0 n0 c0 A1 n1 c1 (some ad) rs.length c2 A3 c3 ms p q x d s 3 _ (Kd.C_below HC.out (HB.out.trans ((below_alloc (Below.refl wr.heap.size wr) _).mono HB.out.size))) (((below_alloc (Below.refl wr.heap.size wr) _).block _ (by omega)).trans K0.out) (((below_alloc (Below.refl wr.heap.size wr) _).block _ (by omega)).trans K1.out)).mono ?_; rintro e w1 ⟨rfl, hb⟩; rw [hv1]; have s1 := hb.size; rw [World.size_alloc] at s1; have zr := cell_of_blk ((hb.block wr.heap.size (by simp)).trans (World.alloc_heap_new wr (.cells #[.int .i64 x.f0, .int .i64 x.f1, .bool x.f2, .string x.f3.f0, .string x.f3.f1, .string x.f3.f2, .string x.f4.f0, .string x.f4.f1, .string x.f4.f2] 53))); have hb1 := Below.trans (below_alloc (Below.refl wr.heap.size wr) (.cells #[.int .i64 x.f0, .int .i64 x.f1, .bool x.f2, .string x.f3.f0, .string x.f3.f1, .string x.f3.f2, .string x.f4.f0, .string x.f4.f1, .string x.f4.f2] 53)) (hb.mono (by simp)); have zd := cell_of_blk ((hb1.block _ (by omega)).trans K2.out); have zs := cell_of_blk ((hb1.block _ (by omega)).trans K3.out); have x0 := zr 0; have x1 := zr 1; have x2 := zr 2; have x3 := zr 3; have x4 := zr 4; have x5 := zr 5; have x6 := zr 6; have x7 := zr 7; have x8 := zr 8; have v0 := zd 0; have v1 := zd 1; have v2 := zd 2; have v3 := zs 0; have v4 := zs 1; have v5 := zs 2; simp only [List.getElem?_toArray, List.getElem?_cons_zero, List.getElem?_cons_succ] at x0 x1 x2 x3 x4 x5 x6 x7 x8 v0 v1 v2 v3 v4 v5; clear zr zd zs; have KR := Aside0.mk ((hb.block wr.heap.size (by simp)).trans (World.alloc_heap_new wr (.cells #[.int .i64 x.f0, .int .i64 x.f1, .bool x.f2, .string x.f3.f0, .string x.f3.f1, .string x.f3.f2, .string x.f4.f0, .string x.f4.f1, .string x.f4.f2] 53))); have KB := Aside0.mk hb1; clear hb hb1)
              go_roundw
              case rel => exact ⟨i + 1, by simp, by omega, ⟨find_take_none _ rs i hlt HN.out (by rw [← HX.out]; exact HH.out)⟩, ⟨HB.out.trans (KB.out.mono HB.out.size)⟩⟩
              case measure => simp [intOf]; omega
          · have hh : hitP ms x d s 3 = true := by unfold hitP; rw [hv1, decide_eq_true HF0.out]; rfl
            have hv : costP rs ms 3 d s = x.f1 := by rw [HCC.out, find_take_some _ rs i hlt HN.out (by rw [← HX.out]; exact hh), ← HX.out]
            have HV := Aside0.mk hv
            clear hv hh
            go_wp2_with (go_at_call 39; clear tok1; refine (both_calls w.heap.size (w.heap.size + 1) A0 n0 c0 A1 n1 c1 (some ad) rs.length c2 A3 c3 ms p q x d s 3 _ (Kd.C_below HC.out (HB.out.trans ((below_alloc (Below.refl wr.heap.size wr) _).mono HB.out.size))) (((below_alloc (Below.refl wr.heap.size wr) _).block _ (by omega)).trans K0.out) (((below_alloc (Below.refl wr.heap.size wr) _).block _ (by omega)).trans K1.out)).mono ?_; rintro e w1 ⟨rfl, hb⟩; rw [hv1]; have s1 := hb.size; rw [World.size_alloc] at s1; have zr := cell_of_blk ((hb.block wr.heap.size (by simp)).trans (World.alloc_heap_new wr (.cells #[.int .i64 x.f0, .int .i64 x.f1, .bool x.f2, .string x.f3.f0, .string x.f3.f1, .string x.f3.f2, .string x.f4.f0, .string x.f4.f1, .string x.f4.f2] 53))); have hb1 := Below.trans (below_alloc (Below.refl wr.heap.size wr) (.cells #[.int .i64 x.f0, .int .i64 x.f1, .bool x.f2, .string x.f3.f0, .string x.f3.f1, .string x.f3.f2, .string x.f4.f0, .string x.f4.f1, .string x.f4.f2] 53)) (hb.mono (by simp)); have zd := cell_of_blk ((hb1.block _ (by omega)).trans K2.out); have zs := cell_of_blk ((hb1.block _ (by omega)).trans K3.out); have x0 := zr 0; have x1 := zr 1; have x2 := zr 2; have x3 := zr 3; have x4 := zr 4; have x5 := zr 5; have x6 := zr 6; have x7 := zr 7; have x8 := zr 8; have v0 := zd 0; have v1 := zd 1; have v2 := zd 2; have v3 := zs 0; have v4 := zs 1; have v5 := zs 2; simp only [List.getElem?_toArray, List.getElem?_cons_zero, List.getElem?_cons_succ] at x0 x1 x2 x3 x4 x5 x6 x7 x8 v0 v1 v2 v3 v4 v5; clear zr zd zs; have KR := Aside0.mk ((hb.block wr.heap.size (by simp)).trans (World.alloc_heap_new wr (.cells #[.int .i64 x.f0, .int .i64 x.f1, .bool x.f2, .string x.f3.f0, .string x.f3.f1, .string x.f3.f2, .string x.f4.f0, .string x.f4.f1, .string x.f4.f2] 53))); have KB := Aside0.mk hb1; clear hb hb1)
            go_ret
            exact ⟨by rw [HV.out]; rfl, HBW.out.trans (KB.out.mono HBW.out.size)⟩
        · have hh : hitP ms x d s 3 = false := by unfold hitP; rw [decide_eq_false hf0]; rfl
          have HH := Aside0.mk hh
          clear hh
          go_wp2
          go_roundw
          case rel => exact ⟨i + 1, by simp, by omega, ⟨find_take_none _ rs i hlt HN.out (by rw [← HX.out]; exact HH.out)⟩, ⟨HB.out.trans ((below_alloc (Below.refl wr.heap.size wr) _).mono HB.out.size)⟩⟩
          case measure => simp [intOf]; omega
      · obtain rfl : i = rs.length := by omega
        have d1 : decide (((rs.length : Nat) : Int) < (rs.length : Int)) = false := decide_eq_false (by omega)
        have hN := HN.out
        rw [List.take_length] at hN
        have hv : costP rs ms 3 d s = 100 := by rw [HCC.out, hN]
        have HV := Aside0.mk hv
        clear hv hN
        go_wp2
        go_ret
        exact ⟨by rw [HV.out]; rfl, HBW.out⟩
end Go.Proofs.Ytdjbanhoejegjaa.LikW
