/- Made by a program of this seat's own (myprint.py, round the kit's print): what the functions compute, and that they do. -/
import Derived.Test.YtdjbanhoejegjaaDpP0
import Derived.Test.YtdjbanhoejegjaaDpP1
import Derived.Test.YtdjbanhoejegjaaDpTight
namespace Go.Proofs.Ytdjbanhoejegjaa.P
open Go.RowKit Go.Proofs.YtdjbanhoejegjaaW.PrintWords Go.Proofs.YtdjbanhoejegjaaW.PrintLast Go.Proofs.YtdjbanhoejegjaaW.PrintMore
attribute [local go_sem] StrOrd.binOp_gtr StrOrd.binOp_leq max2_int min2_int max_two min_two max_three min_three max_four min_four   -- for this text's walks alone
set_option linter.unusedVariables false
set_option linter.unusedSimpArgs false

mutual
def isoglossref13_rule.j0 : Nat → Int → Int → Bool → Int → Int → Bool → ByteArray → ByteArray → ByteArray → ByteArray → ByteArray → ByteArray → Option (Int × Int × Bool × ByteArray × ByteArray × ByteArray × ByteArray × ByteArray × ByteArray)
 | 0, _, _, _, _, _, _, _, _, _, _, _, _ => none
 | k + 1, x3, x15, x21, x171000, x171001, x171002, x171003, x171004, x171005, x171006, x171007, x171008 => if x21 = true then ((some (([⟨#[110, 111]⟩, ⟨#[101, 110]⟩, ⟨#[115, 114]⟩] : List ByteArray) : List ByteArray)).bind fun y171 => (if 0 ≤ x3 then (if x3 < (y171.length : Int) then ((some (([⟨#[100, 101]⟩, ⟨#[42]⟩, ⟨#[114, 117]⟩] : List ByteArray) : List ByteArray)).bind fun y175 => (if x3 < (y175.length : Int) then (some (1, x171001, x171002, rdOf ByteArray.empty y171 x3, x171004, x171005, rdOf ByteArray.empty y175 x3, x171007, x171008)) else (none))) else (none)) else (none))) else (if x15 = 3 then (isoglossref13_rule.j1 k x3 x15 (x15 == 3) x171000 x171001 x171002 x171003 x171004 x171005 x171006 x171007 x171008) else (isoglossref13_rule.j1 k x3 x15 (x15 == 4) x171000 x171001 x171002 x171003 x171004 x171005 x171006 x171007 x171008))
def isoglossref13_rule.j1 : Nat → Int → Int → Bool → Int → Int → Bool → ByteArray → ByteArray → ByteArray → ByteArray → ByteArray → ByteArray → Option (Int × Int × Bool × ByteArray × ByteArray × ByteArray × ByteArray × ByteArray × ByteArray)
 | 0, _, _, _, _, _, _, _, _, _, _, _, _ => none
 | k + 1, x3, x15, x38, x171000, x171001, x171002, x171003, x171004, x171005, x171006, x171007, x171008 => if x38 = true then ((some (([⟨#[104, 97, 110, 115]⟩, ⟨#[42]⟩] : List ByteArray) : List ByteArray)).bind fun y179 => (if 0 ≤ (wrap64 (x3 - 3)) then (if (wrap64 (x3 - 3)) < (y179.length : Int) then (some (2, x171001, x171002, (⟨#[42]⟩ : ByteArray), (⟨#[104, 97, 110, 116]⟩ : ByteArray), (⟨#[]⟩ : ByteArray), (⟨#[122, 104]⟩ : ByteArray), rdOf ByteArray.empty y179 (wrap64 (x3 - 3)), (⟨#[]⟩ : ByteArray))) else (none)) else (none))) else (if x15 = 5 then ((some (([⟨#[36, 101, 117]⟩, ⟨#[117, 115]⟩] : List ByteArray) : List ByteArray)).bind fun y183 => (if 0 ≤ (wrap64 (x3 - 5)) then (if (wrap64 (x3 - 5)) < (y183.length : Int) then ((some (([⟨#[33, 101, 117]⟩, ⟨#[36, 101, 117]⟩] : List ByteArray) : List ByteArray)).bind fun y187 => (if (wrap64 (x3 - 5)) < (y187.length : Int) then (some (3, x171001, x171002, (⟨#[42]⟩ : ByteArray), (⟨#[42]⟩ : ByteArray), rdOf ByteArray.empty y183 (wrap64 (x3 - 5)), (⟨#[42]⟩ : ByteArray), (⟨#[108, 97, 116, 110]⟩ : ByteArray), rdOf ByteArray.empty y187 (wrap64 (x3 - 5)))) else (none))) else (none)) else (none))) else (if x15 = 6 then ((some (([⟨#[36, 101, 117]⟩, ⟨#[117, 115]⟩] : List ByteArray) : List ByteArray)).bind fun y191 => (if 0 ≤ (wrap64 (x3 - 5)) then (if (wrap64 (x3 - 5)) < (y191.length : Int) then ((some (([⟨#[33, 101, 117]⟩, ⟨#[36, 101, 117]⟩] : List ByteArray) : List ByteArray)).bind fun y195 => (if (wrap64 (x3 - 5)) < (y195.length : Int) then (some (3, x171001, x171002, (⟨#[42]⟩ : ByteArray), (⟨#[42]⟩ : ByteArray), rdOf ByteArray.empty y191 (wrap64 (x3 - 5)), (⟨#[42]⟩ : ByteArray), (⟨#[108, 97, 116, 110]⟩ : ByteArray), rdOf ByteArray.empty y195 (wrap64 (x3 - 5)))) else (none))) else (none)) else (none))) else (some (3, x171001, x171002, (⟨#[101, 110]⟩ : ByteArray), (⟨#[42]⟩ : ByteArray), (⟨#[103, 98]⟩ : ByteArray), (⟨#[101, 110]⟩ : ByteArray), (⟨#[42]⟩ : ByteArray), (⟨#[33, 101, 117]⟩ : ByteArray)))))
end
def isoglossref13_rule.f (k : Nat) (a0 : Int) : Option (Int × Int × Bool × ByteArray × ByteArray × ByteArray × ByteArray × ByteArray × ByteArray) := (isoglossref13_rest.f a0 9).bind fun t167 => ((isoglossref13_rest.f (wrap64 (Int.tdiv a0 9)) 101).bind fun t168 => ((isoglossref13_rest.f (wrap64 (Int.tdiv a0 3)) 2).bind fun t169 => (if t167 = 0 then (isoglossref13_rule.j0 k t167 t167 (t167 == 0) 0 t168 (t169 == 1) (⟨#[]⟩ : ByteArray) (⟨#[]⟩ : ByteArray) (⟨#[]⟩ : ByteArray) (⟨#[]⟩ : ByteArray) (⟨#[]⟩ : ByteArray) (⟨#[]⟩ : ByteArray)) else (if t167 = 1 then (isoglossref13_rule.j0 k t167 t167 (t167 == 1) 0 t168 (t169 == 1) (⟨#[]⟩ : ByteArray) (⟨#[]⟩ : ByteArray) (⟨#[]⟩ : ByteArray) (⟨#[]⟩ : ByteArray) (⟨#[]⟩ : ByteArray) (⟨#[]⟩ : ByteArray)) else (isoglossref13_rule.j0 k t167 t167 (t167 == 2) 0 t168 (t169 == 1) (⟨#[]⟩ : ByteArray) (⟨#[]⟩ : ByteArray) (⟨#[]⟩ : ByteArray) (⟨#[]⟩ : ByteArray) (⟨#[]⟩ : ByteArray) (⟨#[]⟩ : ByteArray))))))
set_option maxHeartbeats 8000000 in
set_option maxRecDepth 100000 in
theorem isoglossref13_rule.calls (k : Nat) (a0 : Int) (r1 : Int) (r2 : Int) (r3 : Bool) (r4 : ByteArray) (r5 : ByteArray) (r6 : ByteArray) (r7 : ByteArray) (r8 : ByteArray) (r9 : ByteArray) (w : World) (h : isoglossref13_rule.f k a0 = some (r1, r2, r3, r4, r5, r6, r7, r8, r9)) :
  Calls Try.prog 24 #[.int .i64 a0] w fun e w' => e = .returned (.agg #[.int .i64 r1, .int .i64 r2, .bool r3, .string r4, .string r5, .string r6, .string r7, .string r8, .string r9]) ∧ Below w.heap.size w w' := by
 have hu53 := Try.underlying53
 have hu30 := Try.underlying30
 have HB := ak (Below.refl w.heap.size w)
 have H : ((isoglossref13_rest.f a0 9).bind fun t167 => ((isoglossref13_rest.f (wrap64 (Int.tdiv a0 9)) 101).bind fun t168 => ((isoglossref13_rest.f (wrap64 (Int.tdiv a0 3)) 2).bind fun t169 => (if t167 = 0 then (isoglossref13_rule.j0 k t167 t167 (t167 == 0) 0 t168 (t169 == 1) (⟨#[]⟩ : ByteArray) (⟨#[]⟩ : ByteArray) (⟨#[]⟩ : ByteArray) (⟨#[]⟩ : ByteArray) (⟨#[]⟩ : ByteArray) (⟨#[]⟩ : ByteArray)) else (if t167 = 1 then (isoglossref13_rule.j0 k t167 t167 (t167 == 1) 0 t168 (t169 == 1) (⟨#[]⟩ : ByteArray) (⟨#[]⟩ : ByteArray) (⟨#[]⟩ : ByteArray) (⟨#[]⟩ : ByteArray) (⟨#[]⟩ : ByteArray) (⟨#[]⟩ : ByteArray)) else (isoglossref13_rule.j0 k t167 t167 (t167 == 2) 0 t168 (t169 == 1) (⟨#[]⟩ : ByteArray) (⟨#[]⟩ : ByteArray) (⟨#[]⟩ : ByteArray) (⟨#[]⟩ : ByteArray) (⟨#[]⟩ : ByteArray) (⟨#[]⟩ : ByteArray))))))) = some (r1, r2, r3, r4, r5, r6, r7, r8, r9) := h
 clear h
 replace H := Option.bind_eq_some_iff.mp H
 obtain ⟨t167, A20, H⟩ := H
 have A2 := ak A20
 clear A20
 replace H := Option.bind_eq_some_iff.mp H
 obtain ⟨t168, A30, H⟩ := H
 have A3 := ak A30
 clear A30
 replace H := Option.bind_eq_some_iff.mp H
 obtain ⟨t169, A40, H⟩ := H
 have A4 := ak A40
 clear A40
 have HC5 := ak H
 clear H
 go_enter Try.func24, Try.ntmps24
 go_upto_if 21 with (first | ((with_reducible refine gate_dst (N := 2) rfl ?_); refine box_event ?hg (N := 2) ?hd (cs := #[.int .i64 0, .int .i64 0, .bool false, .string ⟨#[]⟩, .string ⟨#[]⟩, .string ⟨#[]⟩, .string ⟨#[]⟩, .string ⟨#[]⟩, .string ⟨#[]⟩]) (t := 53) ?hr ?_; (case hd => rfl); (case hg => rfl); (case hr => first | (go_simp; done) | (go_simp; rfl)); intro gb166 hg w6 hbox hb; have n0_ := ak (below_step bq hb); have n1_ := ak (hbox); have n2_ := ak ((by rw [hg]; exact (below_size bq) : w.heap.size ≤ gb166)); have n3_ := ak ((by rw [hg]; exact (below_size bq) : w.heap.size ≤ gb166)); clear HB; have HB := n0_; have BK166 := n1_; have GW166 := n2_; have GE166 := n3_; clear n0_ n1_ n2_ n3_; clear hb hbox hg) | ((with_reducible refine gate_callee (f := 20) rfl ?_); refine goesL_ (some 6) rfl rfl Try.func20 (by kernel_rfl) rfl #[.int .i64 a0, .int .i64 9] rfl mq ?_; (with_reducible refine (isoglossref13_rest.calls a0 9 t167 _ A2.out).mono ?_); rintro e w' ⟨rfl, ⟨nd, rfl⟩⟩; refine ⟨_, rfl, ?_⟩; (try (rw [drewN_self w6]; generalize hq_ : World.drewN w6 _ = w6; have n0_ : Aside0 (w6.heap[gb166]? = some (.cells #[.int .i64 0, .int .i64 0, .bool false, .string ⟨#[]⟩, .string ⟨#[]⟩, .string ⟨#[]⟩, .string ⟨#[]⟩, .string ⟨#[]⟩, .string ⟨#[]⟩] 53 (0, 0))) := ⟨by rw [← hq_]; exact (bx BK166.out)⟩; have n1_ : Aside0 (Below w.heap.size w w6) := ⟨by rw [← hq_]; exact bq⟩; clear BK166 HB hq_; have BK166 := n0_; have HB := n1_; clear n0_ n1_)); (try clear A2)) | ((with_reducible refine gate_callee (f := 20) rfl ?_); refine goesL_ (some 9) rfl rfl Try.func20 (by kernel_rfl) rfl #[.int .i64 (wrap64 (Int.tdiv a0 9)), .int .i64 101] rfl mq ?_; (with_reducible refine (isoglossref13_rest.calls (wrap64 (Int.tdiv a0 9)) 101 t168 _ A3.out).mono ?_); rintro e w' ⟨rfl, ⟨nd, rfl⟩⟩; refine ⟨_, rfl, ?_⟩; (try (rw [drewN_self w6]; generalize hq_ : World.drewN w6 _ = w6; have n0_ : Aside0 (w6.heap[gb166]? = some (.cells #[.int .i64 0, .int .i64 0, .bool false, .string ⟨#[]⟩, .string ⟨#[]⟩, .string ⟨#[]⟩, .string ⟨#[]⟩, .string ⟨#[]⟩, .string ⟨#[]⟩] 53 (0, 0))) := ⟨by rw [← hq_]; exact (bx BK166.out)⟩; have n1_ : Aside0 (Below w.heap.size w w6) := ⟨by rw [← hq_]; exact bq⟩; clear BK166 HB hq_; have BK166 := n0_; have HB := n1_; clear n0_ n1_)); (try clear A3)) | ((with_reducible refine gate_callee (f := 20) rfl ?_); refine goesL_ (some 12) rfl rfl Try.func20 (by kernel_rfl) rfl #[.int .i64 (wrap64 (Int.tdiv a0 3)), .int .i64 2] rfl mq ?_; (with_reducible refine (isoglossref13_rest.calls (wrap64 (Int.tdiv a0 3)) 2 t169 _ A4.out).mono ?_); rintro e w' ⟨rfl, ⟨nd, rfl⟩⟩; refine ⟨_, rfl, ?_⟩; (try (rw [drewN_self w6]; generalize hq_ : World.drewN w6 _ = w6; have n0_ : Aside0 (w6.heap[gb166]? = some (.cells #[.int .i64 0, .int .i64 0, .bool false, .string ⟨#[]⟩, .string ⟨#[]⟩, .string ⟨#[]⟩, .string ⟨#[]⟩, .string ⟨#[]⟩, .string ⟨#[]⟩] 53 (0, 0))) := ⟨by rw [← hq_]; exact (bx BK166.out)⟩; have n1_ : Aside0 (Below w.heap.size w w6) := ⟨by rw [← hq_]; exact bq⟩; clear BK166 HB hq_; have BK166 := n0_; have HB := n1_; clear n0_ n1_)); (try clear A4)) | ((with_reducible refine gate_dst (N := 4) rfl ?_); refine box_event ?hg (N := 4) ?hd (cs := #[.int .i64 0, .int .i64 0, .bool false, .string ⟨#[]⟩, .string ⟨#[]⟩, .string ⟨#[]⟩, .string ⟨#[]⟩, .string ⟨#[]⟩, .string ⟨#[]⟩]) (t := 53) ?hr ?_; (case hd => rfl); (case hg => rfl); (case hr => first | (go_simp; done) | (go_simp; rfl)); intro gb170 hg w7 hbox hb; have n0_ := ak (blk_below (g := gb166) (bx BK166.out) hb); have n1_ := ak (below_step bq hb); have n2_ := ak (hbox); have n3_ := ak ((by rw [hg]; exact (below_size bq) : w.heap.size ≤ gb170)); have n4_ := ak ((by rw [hg]; exact (below_size bq) : w.heap.size ≤ gb170)); have n5_ := ak ((by rw [hg]; exact Nat.ne_of_lt (blk_lt (g := gb166) (bx BK166.out)) : gb166 ≠ gb170)); have n6_ := ak ((by rw [hg]; exact Nat.ne_of_gt (blk_lt (g := gb166) (bx BK166.out)) : gb170 ≠ gb166)); clear BK166; clear HB; have BK166 := n0_; have HB := n1_; have BK170 := n2_; have GW170 := n3_; have GE170 := n4_; have NB166_170 := n5_; have NB170_166 := n6_; clear n0_ n1_ n2_ n3_ n4_ n5_ n6_; clear hb hbox hg; have hnb8 := NB170_166.out; have hnc8 := NB166_170.out; obtain ⟨hcz9_0, hcz9_1, hcz9_2, hcz9_3, hcz9_4, hcz9_5, hcz9_6, hcz9_7, hcz9_8⟩ := cz9 BK170.out; obtain ⟨hfz9_0, hfz9_1, hfz9_2, hfz9_3, hfz9_4, hfz9_5, hfz9_6, hfz9_7, hfz9_8⟩ := fz9 BK170.out))
 (try simp only [Act.put, pA, pB, pC])
 go_cut [21] (fun v21 wc => ∃ (kq : Nat) (x21_4 : Bool), v21 = .bool x21_4 ∧ Aside0 (isoglossref13_rule.j0 kq t167 t167 x21_4 0 t168 (t169 == 1) (⟨#[]⟩ : ByteArray) (⟨#[]⟩ : ByteArray) (⟨#[]⟩ : ByteArray) (⟨#[]⟩ : ByteArray) (⟨#[]⟩ : ByteArray) (⟨#[]⟩ : ByteArray) = some (r1, r2, r3, r4, r5, r6, r7, r8, r9)) ∧ Aside0 (kq ≤ k) ∧ Aside0 (wc.heap[gb166]? = some (.cells #[.int .i64 0, .int .i64 0, .bool false, .string ⟨#[]⟩, .string ⟨#[]⟩, .string ⟨#[]⟩, .string ⟨#[]⟩, .string ⟨#[]⟩, .string ⟨#[]⟩] 53 (0, 0))) ∧ Aside0 (wc.heap[gb170]? = some (.cells #[.int .i64 0, .int .i64 t168, .bool (t169 == 1), .string ⟨#[]⟩, .string ⟨#[]⟩, .string ⟨#[]⟩, .string ⟨#[]⟩, .string ⟨#[]⟩, .string ⟨#[]⟩] 53 (0, 0))) ∧ Aside0 (Below w.heap.size w wc))
 case first =>
  have H := HC5.out
  clear HC5
  by_cases c10 : t167 = 0
  ·
   rw [if_pos c10] at H
   have c10b0 : (t167 == 0) = true := beq_iff_eq.mpr c10
   have c10b1 : (t167 != 0) = false := bne_eq_false_iff_eq.mpr c10
   (try (have c10b2 : (t167 : Int).toNat = 0 := by rw [c10]; rfl))
   try have c10b3 : (0 ≤ t167) = True := eq_true (by omega)
   try have c10b4_2 : (t167 < 2) = True := eq_true (by omega)
   try have c10b4_3 : (t167 < 3) = True := eq_true (by omega)
   try have c10b4_5 : (t167 < 5) = True := eq_true (by omega)
   clear c10
   (first | rw [c10b0] | (simp only [i64_w, i32_w]; rw [c10b0]) | rw [c10b2] | skip)
   have H' := ak H
   clear H
   go_wp2
   go_meet
   case rel => exact ⟨_, ((t167 == 0)), (by first | rfl | (simp; done) | (simp [*]; done)), H', ⟨by first | omega | exact Nat.le_refl _⟩, ⟨(bx (blk_far (bx (blk_far (bx (blk_far (bx (blk_far (bx (blk_far (bx (blk_far (bx (blk_far (bx (blk_far (bx (blk_far (bx BK166.out) NB166_170.out _)) NB166_170.out _)) NB166_170.out _)) NB166_170.out _)) NB166_170.out _)) NB166_170.out _)) NB166_170.out _)) NB166_170.out _)) NB166_170.out _))⟩, ⟨(bx (blk_put (cs := #[.int .i64 0, .int .i64 t168, .bool (t169 == 1), .string ⟨#[]⟩, .string ⟨#[]⟩, .string ⟨#[]⟩, .string ⟨#[]⟩, .string ⟨#[]⟩, .string ⟨#[]⟩]) (bx (blk_put (cs := #[.int .i64 0, .int .i64 t168, .bool (t169 == 1), .string ⟨#[]⟩, .string ⟨#[]⟩, .string ⟨#[]⟩, .string ⟨#[]⟩, .string ⟨#[]⟩, .string ⟨#[]⟩]) (bx (blk_put (cs := #[.int .i64 0, .int .i64 t168, .bool (t169 == 1), .string ⟨#[]⟩, .string ⟨#[]⟩, .string ⟨#[]⟩, .string ⟨#[]⟩, .string ⟨#[]⟩, .string ⟨#[]⟩]) (bx (blk_put (cs := #[.int .i64 0, .int .i64 t168, .bool (t169 == 1), .string ⟨#[]⟩, .string ⟨#[]⟩, .string ⟨#[]⟩, .string ⟨#[]⟩, .string ⟨#[]⟩, .string ⟨#[]⟩]) (bx (blk_put (cs := #[.int .i64 0, .int .i64 t168, .bool (t169 == 1), .string ⟨#[]⟩, .string ⟨#[]⟩, .string ⟨#[]⟩, .string ⟨#[]⟩, .string ⟨#[]⟩, .string ⟨#[]⟩]) (bx (blk_put (cs := #[.int .i64 0, .int .i64 t168, .bool (t169 == 1), .string ⟨#[]⟩, .string ⟨#[]⟩, .string ⟨#[]⟩, .string ⟨#[]⟩, .string ⟨#[]⟩, .string ⟨#[]⟩]) (bx (blk_put (cs := #[.int .i64 0, .int .i64 t168, .bool false, .string ⟨#[]⟩, .string ⟨#[]⟩, .string ⟨#[]⟩, .string ⟨#[]⟩, .string ⟨#[]⟩, .string ⟨#[]⟩]) (bx (blk_put (cs := #[.int .i64 0, .int .i64 0, .bool false, .string ⟨#[]⟩, .string ⟨#[]⟩, .string ⟨#[]⟩, .string ⟨#[]⟩, .string ⟨#[]⟩, .string ⟨#[]⟩]) (bx (blk_put (cs := #[.int .i64 0, .int .i64 0, .bool false, .string ⟨#[]⟩, .string ⟨#[]⟩, .string ⟨#[]⟩, .string ⟨#[]⟩, .string ⟨#[]⟩, .string ⟨#[]⟩]) (bx BK170.out) 0 _ rfl)) 1 _ rfl)) 2 _ rfl)) 3 _ rfl)) 4 _ rfl)) 5 _ rfl)) 6 _ rfl)) 7 _ rfl)) 8 _ rfl))⟩, ⟨bq⟩⟩
  ·
   rw [if_neg c10] at H
   have c10b0 : (t167 == 0) = false := beq_eq_false_iff_ne.mpr c10
   have c10b1 : (t167 != 0) = true := bne_iff_ne.mpr c10
   (first | rw [c10b0] | (simp only [i64_w, i32_w]; rw [c10b0]) | rw [c10b2] | skip)
   by_cases c11 : t167 = 1
   ·
    rw [if_pos c11] at H
    have c11b0 : (t167 == 1) = true := beq_iff_eq.mpr c11
    have c11b1 : (t167 != 1) = false := bne_eq_false_iff_eq.mpr c11
    (try (have c11b2 : (t167 : Int).toNat = 1 := by rw [c11]; rfl))
    try have c11b3 : (0 ≤ t167) = True := eq_true (by omega)
    try have c11b4_2 : (t167 < 2) = True := eq_true (by omega)
    try have c11b4_3 : (t167 < 3) = True := eq_true (by omega)
    try have c11b4_5 : (t167 < 5) = True := eq_true (by omega)
    clear c11
    have H' := ak H
    clear H
    go_wp2
    go_meet
    case rel => exact ⟨_, ((t167 == 1)), (by first | rfl | (simp; done) | (simp [*]; done)), H', ⟨by first | omega | exact Nat.le_refl _⟩, ⟨(bx (blk_far (bx (blk_far (bx (blk_far (bx (blk_far (bx (blk_far (bx (blk_far (bx (blk_far (bx (blk_far (bx (blk_far (bx BK166.out) NB166_170.out _)) NB166_170.out _)) NB166_170.out _)) NB166_170.out _)) NB166_170.out _)) NB166_170.out _)) NB166_170.out _)) NB166_170.out _)) NB166_170.out _))⟩, ⟨(bx (blk_put (cs := #[.int .i64 0, .int .i64 t168, .bool (t169 == 1), .string ⟨#[]⟩, .string ⟨#[]⟩, .string ⟨#[]⟩, .string ⟨#[]⟩, .string ⟨#[]⟩, .string ⟨#[]⟩]) (bx (blk_put (cs := #[.int .i64 0, .int .i64 t168, .bool (t169 == 1), .string ⟨#[]⟩, .string ⟨#[]⟩, .string ⟨#[]⟩, .string ⟨#[]⟩, .string ⟨#[]⟩, .string ⟨#[]⟩]) (bx (blk_put (cs := #[.int .i64 0, .int .i64 t168, .bool (t169 == 1), .string ⟨#[]⟩, .string ⟨#[]⟩, .string ⟨#[]⟩, .string ⟨#[]⟩, .string ⟨#[]⟩, .string ⟨#[]⟩]) (bx (blk_put (cs := #[.int .i64 0, .int .i64 t168, .bool (t169 == 1), .string ⟨#[]⟩, .string ⟨#[]⟩, .string ⟨#[]⟩, .string ⟨#[]⟩, .string ⟨#[]⟩, .string ⟨#[]⟩]) (bx (blk_put (cs := #[.int .i64 0, .int .i64 t168, .bool (t169 == 1), .string ⟨#[]⟩, .string ⟨#[]⟩, .string ⟨#[]⟩, .string ⟨#[]⟩, .string ⟨#[]⟩, .string ⟨#[]⟩]) (bx (blk_put (cs := #[.int .i64 0, .int .i64 t168, .bool (t169 == 1), .string ⟨#[]⟩, .string ⟨#[]⟩, .string ⟨#[]⟩, .string ⟨#[]⟩, .string ⟨#[]⟩, .string ⟨#[]⟩]) (bx (blk_put (cs := #[.int .i64 0, .int .i64 t168, .bool false, .string ⟨#[]⟩, .string ⟨#[]⟩, .string ⟨#[]⟩, .string ⟨#[]⟩, .string ⟨#[]⟩, .string ⟨#[]⟩]) (bx (blk_put (cs := #[.int .i64 0, .int .i64 0, .bool false, .string ⟨#[]⟩, .string ⟨#[]⟩, .string ⟨#[]⟩, .string ⟨#[]⟩, .string ⟨#[]⟩, .string ⟨#[]⟩]) (bx (blk_put (cs := #[.int .i64 0, .int .i64 0, .bool false, .string ⟨#[]⟩, .string ⟨#[]⟩, .string ⟨#[]⟩, .string ⟨#[]⟩, .string ⟨#[]⟩, .string ⟨#[]⟩]) (bx BK170.out) 0 _ rfl)) 1 _ rfl)) 2 _ rfl)) 3 _ rfl)) 4 _ rfl)) 5 _ rfl)) 6 _ rfl)) 7 _ rfl)) 8 _ rfl))⟩, ⟨bq⟩⟩
   ·
    rw [if_neg c11] at H
    have c11b0 : (t167 == 1) = false := beq_eq_false_iff_ne.mpr c11
    have c11b1 : (t167 != 1) = true := bne_iff_ne.mpr c11
    have H' := ak H
    clear H
    go_wp2
    go_meet
    case rel => exact ⟨_, ((t167 == 2)), (by first | rfl | (simp; done) | (simp [*]; done)), H', ⟨by first | omega | exact Nat.le_refl _⟩, ⟨(bx (blk_far (bx (blk_far (bx (blk_far (bx (blk_far (bx (blk_far (bx (blk_far (bx (blk_far (bx (blk_far (bx (blk_far (bx BK166.out) NB166_170.out _)) NB166_170.out _)) NB166_170.out _)) NB166_170.out _)) NB166_170.out _)) NB166_170.out _)) NB166_170.out _)) NB166_170.out _)) NB166_170.out _))⟩, ⟨(bx (blk_put (cs := #[.int .i64 0, .int .i64 t168, .bool (t169 == 1), .string ⟨#[]⟩, .string ⟨#[]⟩, .string ⟨#[]⟩, .string ⟨#[]⟩, .string ⟨#[]⟩, .string ⟨#[]⟩]) (bx (blk_put (cs := #[.int .i64 0, .int .i64 t168, .bool (t169 == 1), .string ⟨#[]⟩, .string ⟨#[]⟩, .string ⟨#[]⟩, .string ⟨#[]⟩, .string ⟨#[]⟩, .string ⟨#[]⟩]) (bx (blk_put (cs := #[.int .i64 0, .int .i64 t168, .bool (t169 == 1), .string ⟨#[]⟩, .string ⟨#[]⟩, .string ⟨#[]⟩, .string ⟨#[]⟩, .string ⟨#[]⟩, .string ⟨#[]⟩]) (bx (blk_put (cs := #[.int .i64 0, .int .i64 t168, .bool (t169 == 1), .string ⟨#[]⟩, .string ⟨#[]⟩, .string ⟨#[]⟩, .string ⟨#[]⟩, .string ⟨#[]⟩, .string ⟨#[]⟩]) (bx (blk_put (cs := #[.int .i64 0, .int .i64 t168, .bool (t169 == 1), .string ⟨#[]⟩, .string ⟨#[]⟩, .string ⟨#[]⟩, .string ⟨#[]⟩, .string ⟨#[]⟩, .string ⟨#[]⟩]) (bx (blk_put (cs := #[.int .i64 0, .int .i64 t168, .bool (t169 == 1), .string ⟨#[]⟩, .string ⟨#[]⟩, .string ⟨#[]⟩, .string ⟨#[]⟩, .string ⟨#[]⟩, .string ⟨#[]⟩]) (bx (blk_put (cs := #[.int .i64 0, .int .i64 t168, .bool false, .string ⟨#[]⟩, .string ⟨#[]⟩, .string ⟨#[]⟩, .string ⟨#[]⟩, .string ⟨#[]⟩, .string ⟨#[]⟩]) (bx (blk_put (cs := #[.int .i64 0, .int .i64 0, .bool false, .string ⟨#[]⟩, .string ⟨#[]⟩, .string ⟨#[]⟩, .string ⟨#[]⟩, .string ⟨#[]⟩, .string ⟨#[]⟩]) (bx (blk_put (cs := #[.int .i64 0, .int .i64 0, .bool false, .string ⟨#[]⟩, .string ⟨#[]⟩, .string ⟨#[]⟩, .string ⟨#[]⟩, .string ⟨#[]⟩, .string ⟨#[]⟩]) (bx BK170.out) 0 _ rfl)) 1 _ rfl)) 2 _ rfl)) 3 _ rfl)) 4 _ rfl)) 5 _ rfl)) 6 _ rfl)) 7 _ rfl)) 8 _ rfl))⟩, ⟨bq⟩⟩
 case rest =>
  clear HC5
  try clear c1
  try clear c2
  try clear p2
  try clear p6
  try clear c8
  try clear c10
  try clear c10b0
  try clear c10b1
  try clear c10b2
  try clear c11
  try clear c11b0
  try clear c11b1
  try clear c11b2
  try clear hcz9_0
  try clear hcz9_1
  try clear hcz9_2
  try clear hcz9_3
  try clear hcz9_4
  try clear hcz9_5
  try clear hcz9_6
  try clear hcz9_7
  try clear hcz9_8
  try clear hfz9_0
  try clear hfz9_1
  try clear hfz9_2
  try clear hfz9_3
  try clear hfz9_4
  try clear hfz9_5
  try clear hfz9_6
  try clear hfz9_7
  try clear hfz9_8
  obtain ⟨kq, x21_4, rfl, HA, HJ4, BK166, BK170, HB⟩ := hcut
  cases kq with
  | zero => exact absurd HA.out (by simp [isoglossref13_rule.j0])
  | succ kj4 =>
   have H := HA.out
   clear HA
   simp only [isoglossref13_rule.j0] at H
   by_cases c12 : x21_4 = true
   ·
    subst c12
    have H1 : ((some (([⟨#[110, 111]⟩, ⟨#[101, 110]⟩, ⟨#[115, 114]⟩] : List ByteArray) : List ByteArray)).bind fun y171 => (if 0 ≤ t167 then (if t167 < (y171.length : Int) then ((some (([⟨#[100, 101]⟩, ⟨#[42]⟩, ⟨#[114, 117]⟩] : List ByteArray) : List ByteArray)).bind fun y175 => (if t167 < (y175.length : Int) then (some (1, t168, (t169 == 1), rdOf ByteArray.empty y171 t167, (⟨#[]⟩ : ByteArray), (⟨#[]⟩ : ByteArray), rdOf ByteArray.empty y175 t167, (⟨#[]⟩ : ByteArray), (⟨#[]⟩ : ByteArray))) else (none))) else (none)) else (none))) = some (r1, r2, r3, r4, r5, r6, r7, r8, r9) := by rw [if_pos rfl] at H; exact H
    clear H
    have H := H1
    clear H1
    obtain ⟨y171, hy171⟩ : ∃ y_ : List ByteArray, y_ = (([⟨#[110, 111]⟩, ⟨#[101, 110]⟩, ⟨#[115, 114]⟩] : List ByteArray)) := ⟨_, rfl⟩
    replace H : (if 0 ≤ t167 then (if t167 < (y171.length : Int) then ((some (([⟨#[100, 101]⟩, ⟨#[42]⟩, ⟨#[114, 117]⟩] : List ByteArray) : List ByteArray)).bind fun y175 => (if t167 < (y175.length : Int) then (some (1, t168, (t169 == 1), rdOf ByteArray.empty y171 t167, (⟨#[]⟩ : ByteArray), (⟨#[]⟩ : ByteArray), rdOf ByteArray.empty y175 t167, (⟨#[]⟩ : ByteArray), (⟨#[]⟩ : ByteArray))) else (none))) else (none)) else (none)) = some (r1, r2, r3, r4, r5, r6, r7, r8, r9) := by first | (rw [hy171]; with_reducible exact H) | (have H2_ := (Option.bind_some _ _).symm.trans H; rw [hy171]; with_reducible exact H2_) | (have H2_ := (Option.bind_some _ _).symm.trans H; with_reducible exact H2_) | with_reducible exact H | (rw [hy171]; exact H) | exact H
    have Ny171 := ak hy171
    clear hy171
    by_cases c13 : 0 ≤ t167
    ·
     rw [if_pos c13] at H
     have c13b0 : decide (0 ≤ t167) = true := decide_eq_true c13
     clear c13
     by_cases c14 : t167 < (y171.length : Int)
     ·
      rw [if_pos c14] at H
      have c14b0 : decide (t167 < (y171.length : Int)) = true := decide_eq_true c14
      clear c14
      obtain ⟨y175, hy175⟩ : ∃ y_ : List ByteArray, y_ = (([⟨#[100, 101]⟩, ⟨#[42]⟩, ⟨#[114, 117]⟩] : List ByteArray)) := ⟨_, rfl⟩
      replace H : (if t167 < (y175.length : Int) then (some (1, t168, (t169 == 1), rdOf ByteArray.empty y171 t167, (⟨#[]⟩ : ByteArray), (⟨#[]⟩ : ByteArray), rdOf ByteArray.empty y175 t167, (⟨#[]⟩ : ByteArray), (⟨#[]⟩ : ByteArray))) else (none)) = some (r1, r2, r3, r4, r5, r6, r7, r8, r9) := by first | (rw [hy175]; with_reducible exact H) | (have H2_ := (Option.bind_some _ _).symm.trans H; rw [hy175]; with_reducible exact H2_) | (have H2_ := (Option.bind_some _ _).symm.trans H; with_reducible exact H2_) | with_reducible exact H | (rw [hy175]; exact H) | exact H
      have Ny175 := ak hy175
      clear hy175
      by_cases c15 : t167 < (y175.length : Int)
      ·
       rw [if_pos c15] at H
       have c15b0 : decide (t167 < (y175.length : Int)) = true := decide_eq_true c15
       clear c15
       simp only [Option.some.injEq, Prod.mk.injEq] at H
       obtain ⟨rfl, rfl, rfl, rfl, rfl, rfl, rfl, rfl, rfl⟩ := H
       have hnb16 := NB170_166.out
       have hnc16 := NB166_170.out
       obtain ⟨hcz17_0, hcz17_1, hcz17_2, hcz17_3, hcz17_4, hcz17_5, hcz17_6, hcz17_7, hcz17_8⟩ := cz9 BK170.out
       obtain ⟨hfz17_0, hfz17_1, hfz17_2, hfz17_3, hfz17_4, hfz17_5, hfz17_6, hfz17_7, hfz17_8⟩ := fz9 BK170.out
       go_wp2_with (first | ((with_reducible refine gate_dst (N := 26) rfl ?_); refine Kd.R_lit Kd.string _ 9 ?hg (N := 26) ?hd (xs := ([⟨#[110, 111]⟩, ⟨#[101, 110]⟩, ⟨#[115, 114]⟩] : List ByteArray)) (inner := [.string ⟨#[110, 111]⟩, .string ⟨#[101, 110]⟩, .string ⟨#[115, 114]⟩]) (ok := fun _ => True) (okp := fun _ => True) ?hr ?hp (fun _ hk => hk) trivial (Below.refl _ _) (Nat.le_refl _) (by simp) ?_; (case hd => rfl); (case hg => rfl); (case hr => first | (go_simp; done) | (go_simp; rfl)); (case hp => exact (Reps.one (show Kd.M Kd.string _ _ _ (⟨#[110, 111]⟩ : ByteArray) [.string ⟨#[110, 111]⟩] from rfl) (Reps.one (show Kd.M Kd.string _ _ _ (⟨#[101, 110]⟩ : ByteArray) [.string ⟨#[101, 110]⟩] from rfl) (Reps.one (show Kd.M Kd.string _ _ _ (⟨#[115, 114]⟩ : ByteArray) [.string ⟨#[115, 114]⟩] from rfl) (Reps.none _ _))))); intro v172 w18 ho19 hb hg_ hnew_; clear hg_ hnew_; (first | rw [← Ny171.out] at ho19 | (simp only [Int.reduceToNat] at ho19; rw [← Ny171.out] at ho19)); have n0_ := ak (Kd.R_lower ho19 (below_size bq)); have n1_ := ak (blk_below (g := gb166) (o := .cells #[.int .i64 0, .int .i64 0, .bool false, .string ⟨#[]⟩, .string ⟨#[]⟩, .string ⟨#[]⟩, .string ⟨#[]⟩, .string ⟨#[]⟩, .string ⟨#[]⟩] 53 (0, 0)) (bx (blk_far (bx BK166.out) NB166_170.out _)) hb); have n2_ := ak (blk_below (g := gb170) (o := .cells #[.int .i64 1, .int .i64 t168, .bool (t169 == 1), .string ⟨#[]⟩, .string ⟨#[]⟩, .string ⟨#[]⟩, .string ⟨#[]⟩, .string ⟨#[]⟩, .string ⟨#[]⟩] 53 (0, 0)) (bx (blk_put (cs := #[.int .i64 0, .int .i64 t168, .bool (t169 == 1), .string ⟨#[]⟩, .string ⟨#[]⟩, .string ⟨#[]⟩, .string ⟨#[]⟩, .string ⟨#[]⟩, .string ⟨#[]⟩]) (bx BK170.out) 0 _ rfl)) hb); have n3_ := ak (below_step bq hb); clear BK166; clear BK170; clear HB; have HO173 := n0_; have BK166 := n1_; have BK170 := n2_; have HB := n3_; clear n0_ n1_ n2_ n3_; clear hb ho19; obtain ⟨Ao20, co20, eo20⟩ := Kd.R_slice HO173.out; subst eo20; have p174 : 0 ≤ (t167 : Int) := of_decide_eq_true (by first | (with_reducible assumption) | assumption); have q174 : t167 < (y171.length : Int) := of_decide_eq_true (by first | (with_reducible assumption) | assumption); obtain ⟨ad174, e174, hx174_0⟩ := Kd.at_string (Kd.R_reads' HO173.out).2.2 t167 p174 q174; cases e174; replace p174 := eq_true p174; replace q174 := eq_true q174; obtain ⟨hcz21_0, hcz21_1, hcz21_2, hcz21_3, hcz21_4, hcz21_5, hcz21_6, hcz21_7, hcz21_8⟩ := cz9 BK170.out; obtain ⟨hfz21_0, hfz21_1, hfz21_2, hfz21_3, hfz21_4, hfz21_5, hfz21_6, hfz21_7, hfz21_8⟩ := fz9 BK170.out) | ((with_reducible refine gate_dst (N := 32) rfl ?_); refine Kd.R_lit Kd.string _ 9 ?hg (N := 32) ?hd (xs := ([⟨#[100, 101]⟩, ⟨#[42]⟩, ⟨#[114, 117]⟩] : List ByteArray)) (inner := [.string ⟨#[100, 101]⟩, .string ⟨#[42]⟩, .string ⟨#[114, 117]⟩]) (ok := fun _ => True) (okp := fun _ => True) ?hr ?hp (fun _ hk => hk) trivial (Below.refl _ _) (Nat.le_refl _) (by simp) ?_; (case hd => rfl); (case hg => rfl); (case hr => first | (go_simp; done) | (go_simp; rfl)); (case hp => exact (Reps.one (show Kd.M Kd.string _ _ _ (⟨#[100, 101]⟩ : ByteArray) [.string ⟨#[100, 101]⟩] from rfl) (Reps.one (show Kd.M Kd.string _ _ _ (⟨#[42]⟩ : ByteArray) [.string ⟨#[42]⟩] from rfl) (Reps.one (show Kd.M Kd.string _ _ _ (⟨#[114, 117]⟩ : ByteArray) [.string ⟨#[114, 117]⟩] from rfl) (Reps.none _ _))))); intro v176 w22 ho23 hb hg_ hnew_; clear hg_ hnew_; (first | rw [← Ny175.out] at ho23 | (simp only [Int.reduceToNat] at ho23; rw [← Ny175.out] at ho23)); have n0_ := ak (Kd.R_elder' (rx ((Kd.R_mono (Kd.R_far (p := ⟨gb170, 3, none⟩) (Kd.R_types HO173.out BK170.out (by decide)) (fun _ hk => hk.2) (.string (rdOf ByteArray.empty y171 t167))) (fun _ h_ => h_.1)))) (Kd.R_base ho23) hb); have n1_ := ak (Kd.R_lower (Kd.R_new' ho23 (Kd.R_lt (rx ((Kd.R_mono (Kd.R_far (p := ⟨gb170, 3, none⟩) (Kd.R_types HO173.out BK170.out (by decide)) (fun _ hk => hk.2) (.string (rdOf ByteArray.empty y171 t167))) (fun _ h_ => h_.1)))))) (below_size bq)); have n2_ := ak (blk_below (g := gb166) (o := .cells #[.int .i64 0, .int .i64 0, .bool false, .string ⟨#[]⟩, .string ⟨#[]⟩, .string ⟨#[]⟩, .string ⟨#[]⟩, .string ⟨#[]⟩, .string ⟨#[]⟩] 53 (0, 0)) (bx (blk_far (bx BK166.out) NB166_170.out _)) hb); have n3_ := ak (blk_below (g := gb170) (o := .cells #[.int .i64 1, .int .i64 t168, .bool (t169 == 1), .string (rdOf ByteArray.empty y171 t167), .string ⟨#[]⟩, .string ⟨#[]⟩, .string ⟨#[]⟩, .string ⟨#[]⟩, .string ⟨#[]⟩] 53 (0, 0)) (bx (blk_put (cs := #[.int .i64 1, .int .i64 t168, .bool (t169 == 1), .string ⟨#[]⟩, .string ⟨#[]⟩, .string ⟨#[]⟩, .string ⟨#[]⟩, .string ⟨#[]⟩, .string ⟨#[]⟩]) (bx BK170.out) 3 _ rfl)) hb); have n4_ := ak (below_step bq hb); clear HO173; clear BK166; clear BK170; clear HB; have HO173 := n0_; have HO177 := n1_; have BK166 := n2_; have BK170 := n3_; have HB := n4_; clear n0_ n1_ n2_ n3_ n4_; clear hb ho23; obtain ⟨Ao24, co24, eo24⟩ := Kd.R_slice HO177.out; subst eo24; have p178 : 0 ≤ (t167 : Int) := of_decide_eq_true (by first | (with_reducible assumption) | assumption); have q178 : t167 < (y175.length : Int) := of_decide_eq_true (by first | (with_reducible assumption) | assumption); obtain ⟨ad178, e178, hx178_0⟩ := Kd.at_string (Kd.R_reads' HO177.out).2.2 t167 p178 q178; cases e178; replace p178 := eq_true p178; replace q178 := eq_true q178; obtain ⟨hcz25_0, hcz25_1, hcz25_2, hcz25_3, hcz25_4, hcz25_5, hcz25_6, hcz25_7, hcz25_8⟩ := cz9 BK170.out; obtain ⟨hfz25_0, hfz25_1, hfz25_2, hfz25_3, hfz25_4, hfz25_5, hfz25_6, hfz25_7, hfz25_8⟩ := fz9 BK170.out; obtain ⟨hcz26_0, hcz26_1, hcz26_2, hcz26_3, hcz26_4, hcz26_5, hcz26_6, hcz26_7, hcz26_8⟩ := cz9 BK166.out; obtain ⟨hfz26_0, hfz26_1, hfz26_2, hfz26_3, hfz26_4, hfz26_5, hfz26_6, hfz26_7, hfz26_8⟩ := fz9 BK166.out))
       refine bodyPost_ret (results_cell_row rfl _ _ gb166 53 #[.int .i64 1, .int .i64 t168, .bool (t169 == 1), .string (rdOf ByteArray.empty y171 t167), .string ⟨#[]⟩, .string ⟨#[]⟩, .string (rdOf ByteArray.empty y175 t167), .string ⟨#[]⟩, .string ⟨#[]⟩] (0, 0) _ rfl (bx (blk_put (cs := #[.int .i64 1, .int .i64 t168, .bool (t169 == 1), .string (rdOf ByteArray.empty y171 t167), .string ⟨#[]⟩, .string ⟨#[]⟩, .string (rdOf ByteArray.empty y175 t167), .string ⟨#[]⟩, .string ⟨#[]⟩]) (bx (blk_put (cs := #[.int .i64 1, .int .i64 t168, .bool (t169 == 1), .string (rdOf ByteArray.empty y171 t167), .string ⟨#[]⟩, .string ⟨#[]⟩, .string (rdOf ByteArray.empty y175 t167), .string ⟨#[]⟩, .string ⟨#[]⟩]) (bx (blk_put (cs := #[.int .i64 1, .int .i64 t168, .bool (t169 == 1), .string (rdOf ByteArray.empty y171 t167), .string ⟨#[]⟩, .string ⟨#[]⟩, .string ⟨#[]⟩, .string ⟨#[]⟩, .string ⟨#[]⟩]) (bx (blk_put (cs := #[.int .i64 1, .int .i64 t168, .bool (t169 == 1), .string (rdOf ByteArray.empty y171 t167), .string ⟨#[]⟩, .string ⟨#[]⟩, .string ⟨#[]⟩, .string ⟨#[]⟩, .string ⟨#[]⟩]) (bx (blk_put (cs := #[.int .i64 1, .int .i64 t168, .bool (t169 == 1), .string (rdOf ByteArray.empty y171 t167), .string ⟨#[]⟩, .string ⟨#[]⟩, .string ⟨#[]⟩, .string ⟨#[]⟩, .string ⟨#[]⟩]) (bx (blk_put (cs := #[.int .i64 1, .int .i64 t168, .bool (t169 == 1), .string ⟨#[]⟩, .string ⟨#[]⟩, .string ⟨#[]⟩, .string ⟨#[]⟩, .string ⟨#[]⟩, .string ⟨#[]⟩]) (bx (blk_put (cs := #[.int .i64 1, .int .i64 t168, .bool false, .string ⟨#[]⟩, .string ⟨#[]⟩, .string ⟨#[]⟩, .string ⟨#[]⟩, .string ⟨#[]⟩, .string ⟨#[]⟩]) (bx (blk_put (cs := #[.int .i64 1, .int .i64 0, .bool false, .string ⟨#[]⟩, .string ⟨#[]⟩, .string ⟨#[]⟩, .string ⟨#[]⟩, .string ⟨#[]⟩, .string ⟨#[]⟩]) (bx (blk_put (cs := #[.int .i64 0, .int .i64 0, .bool false, .string ⟨#[]⟩, .string ⟨#[]⟩, .string ⟨#[]⟩, .string ⟨#[]⟩, .string ⟨#[]⟩, .string ⟨#[]⟩]) (bx (blk_far (bx BK166.out) NB166_170.out _)) 0 _ rfl)) 1 _ rfl)) 2 _ rfl)) 3 _ rfl)) 4 _ rfl)) 5 _ rfl)) 6 _ rfl)) 7 _ rfl)) 8 _ rfl)) Try.underlying53 rfl (by kernel_rfl)) rfl ?_
       exact ⟨by first | rfl | (simp [errW_none, errW_some] <;> rfl) | (simp [*, errW_none, errW_some] <;> rfl), bq⟩
      ·
       rw [if_neg c15] at H
       exact absurd H (by simp)
     ·
      rw [if_neg c14] at H
      exact absurd H (by simp)
    ·
     rw [if_neg c13] at H
     exact absurd H (by simp)
   ·
    replace c12 := Bool.eq_false_iff.mpr c12
    subst c12
    have H1 : (if t167 = 3 then (isoglossref13_rule.j1 kj4 t167 t167 (t167 == 3) 0 t168 (t169 == 1) (⟨#[]⟩ : ByteArray) (⟨#[]⟩ : ByteArray) (⟨#[]⟩ : ByteArray) (⟨#[]⟩ : ByteArray) (⟨#[]⟩ : ByteArray) (⟨#[]⟩ : ByteArray)) else (isoglossref13_rule.j1 kj4 t167 t167 (t167 == 4) 0 t168 (t169 == 1) (⟨#[]⟩ : ByteArray) (⟨#[]⟩ : ByteArray) (⟨#[]⟩ : ByteArray) (⟨#[]⟩ : ByteArray) (⟨#[]⟩ : ByteArray) (⟨#[]⟩ : ByteArray))) = some (r1, r2, r3, r4, r5, r6, r7, r8, r9) := by rw [if_neg (show ¬ (false = true) by decide)] at H; exact H
    clear H
    have H := H1
    clear H1
    have HC27 := ak H
    clear H
    go_upto_if 38 with (fail)
    go_cut [38] (fun v38 wc => ∃ (kq : Nat) (x38_26 : Bool), v38 = .bool x38_26 ∧ Aside0 (isoglossref13_rule.j1 kq t167 t167 x38_26 0 t168 (t169 == 1) (⟨#[]⟩ : ByteArray) (⟨#[]⟩ : ByteArray) (⟨#[]⟩ : ByteArray) (⟨#[]⟩ : ByteArray) (⟨#[]⟩ : ByteArray) (⟨#[]⟩ : ByteArray) = some (r1, r2, r3, r4, r5, r6, r7, r8, r9)) ∧ Aside0 (kq ≤ kj4) ∧ Aside0 (wc.heap[gb166]? = some (.cells #[.int .i64 0, .int .i64 0, .bool false, .string ⟨#[]⟩, .string ⟨#[]⟩, .string ⟨#[]⟩, .string ⟨#[]⟩, .string ⟨#[]⟩, .string ⟨#[]⟩] 53 (0, 0))) ∧ Aside0 (wc.heap[gb170]? = some (.cells #[.int .i64 0, .int .i64 t168, .bool (t169 == 1), .string ⟨#[]⟩, .string ⟨#[]⟩, .string ⟨#[]⟩, .string ⟨#[]⟩, .string ⟨#[]⟩, .string ⟨#[]⟩] 53 (0, 0))) ∧ Aside0 (Below w.heap.size w wc))
    case first =>
     have H := HC27.out
     clear HC27
     by_cases c28 : t167 = 3
     ·
      rw [if_pos c28] at H
      have c28b0 : (t167 == 3) = true := beq_iff_eq.mpr c28
      have c28b1 : (t167 != 3) = false := bne_eq_false_iff_eq.mpr c28
      (try (have c28b2 : (t167 : Int).toNat = 3 := by rw [c28]; rfl))
      try have c28b3 : (0 ≤ t167) = True := eq_true (by omega)
      try have c28b4_5 : (t167 < 5) = True := eq_true (by omega)
      clear c28
      (first | rw [c28b0] | (simp only [i64_w, i32_w]; rw [c28b0]) | rw [c28b2] | skip)
      have H' := ak H
      clear H
      go_wp2
      go_meet
      case rel => exact ⟨_, ((t167 == 3)), (by first | rfl | (simp; done) | (simp [*]; done)), H', ⟨by have := HJ4.out; first | omega | exact Nat.le_refl _⟩, ⟨(bx BK166.out)⟩, ⟨(bx BK170.out)⟩, ⟨bq⟩⟩
     ·
      rw [if_neg c28] at H
      have c28b0 : (t167 == 3) = false := beq_eq_false_iff_ne.mpr c28
      have c28b1 : (t167 != 3) = true := bne_iff_ne.mpr c28
      (first | rw [c28b0] | (simp only [i64_w, i32_w]; rw [c28b0]) | rw [c28b2] | skip)
      have H' := ak H
      clear H
      go_wp2
      go_meet
      case rel => exact ⟨_, ((t167 == 4)), (by first | rfl | (simp; done) | (simp [*]; done)), H', ⟨by have := HJ4.out; first | omega | exact Nat.le_refl _⟩, ⟨(bx BK166.out)⟩, ⟨(bx BK170.out)⟩, ⟨bq⟩⟩
    case rest =>
     clear HC27
     try clear c1
     try clear p1
     try clear q1
     try clear hx1
     try clear c2
     try clear p2
     try clear p6
     try clear c8
     try clear c10
     try clear c10b0
     try clear c10b1
     try clear c10b2
     try clear c11
     try clear c11b0
     try clear c11b1
     try clear c11b2
     try clear c12
     try clear c13
     try clear c13b0
     try clear c14
     try clear c14b0
     try clear c15
     try clear c15b0
     try clear c16
     try clear p17
     try clear q17
     try clear hx17
     try clear c20
     try clear c24
     try clear c28
     try clear c28b0
     try clear c28b1
     try clear c28b2
     try clear hcz17_0
     try clear hcz17_1
     try clear hcz17_2
     try clear hcz17_3
     try clear hcz17_4
     try clear hcz17_5
     try clear hcz17_6
     try clear hcz17_7
     try clear hcz17_8
     try clear hcz21_0
     try clear hcz21_1
     try clear hcz21_2
     try clear hcz21_3
     try clear hcz21_4
     try clear hcz21_5
     try clear hcz21_6
     try clear hcz21_7
     try clear hcz21_8
     try clear hcz25_0
     try clear hcz25_1
     try clear hcz25_2
     try clear hcz25_3
     try clear hcz25_4
     try clear hcz25_5
     try clear hcz25_6
     try clear hcz25_7
     try clear hcz25_8
     try clear hcz26_0
     try clear hcz26_1
     try clear hcz26_2
     try clear hcz26_3
     try clear hcz26_4
     try clear hcz26_5
     try clear hcz26_6
     try clear hcz26_7
     try clear hcz26_8
     try clear hcz9_0
     try clear hcz9_1
     try clear hcz9_2
     try clear hcz9_3
     try clear hcz9_4
     try clear hcz9_5
     try clear hcz9_6
     try clear hcz9_7
     try clear hcz9_8
     try clear hfz17_0
     try clear hfz17_1
     try clear hfz17_2
     try clear hfz17_3
     try clear hfz17_4
     try clear hfz17_5
     try clear hfz17_6
     try clear hfz17_7
     try clear hfz17_8
     try clear hfz21_0
     try clear hfz21_1
     try clear hfz21_2
     try clear hfz21_3
     try clear hfz21_4
     try clear hfz21_5
     try clear hfz21_6
     try clear hfz21_7
     try clear hfz21_8
     try clear hfz25_0
     try clear hfz25_1
     try clear hfz25_2
     try clear hfz25_3
     try clear hfz25_4
     try clear hfz25_5
     try clear hfz25_6
     try clear hfz25_7
     try clear hfz25_8
     try clear hfz26_0
     try clear hfz26_1
     try clear hfz26_2
     try clear hfz26_3
     try clear hfz26_4
     try clear hfz26_5
     try clear hfz26_6
     try clear hfz26_7
     try clear hfz26_8
     try clear hfz9_0
     try clear hfz9_1
     try clear hfz9_2
     try clear hfz9_3
     try clear hfz9_4
     try clear hfz9_5
     try clear hfz9_6
     try clear hfz9_7
     try clear hfz9_8
     try clear hx174_0
     try clear hx178_0
     try clear p174
     try clear p178
     try clear p2
     try clear p6
     try clear q174
     try clear q178
     obtain ⟨kq, x38_26, rfl, HA, HJ26, BK166, BK170, HB⟩ := hcut
     cases kq with
     | zero => exact absurd HA.out (by simp [isoglossref13_rule.j1])
     | succ kj26 =>
      have H := HA.out
      clear HA
      simp only [isoglossref13_rule.j1] at H
      by_cases c29 : x38_26 = true
      ·
       subst c29
       have H1 : ((some (([⟨#[104, 97, 110, 115]⟩, ⟨#[42]⟩] : List ByteArray) : List ByteArray)).bind fun y179 => (if 0 ≤ (wrap64 (t167 - 3)) then (if (wrap64 (t167 - 3)) < (y179.length : Int) then (some (2, t168, (t169 == 1), (⟨#[42]⟩ : ByteArray), (⟨#[104, 97, 110, 116]⟩ : ByteArray), (⟨#[]⟩ : ByteArray), (⟨#[122, 104]⟩ : ByteArray), rdOf ByteArray.empty y179 (wrap64 (t167 - 3)), (⟨#[]⟩ : ByteArray))) else (none)) else (none))) = some (r1, r2, r3, r4, r5, r6, r7, r8, r9) := by rw [if_pos rfl] at H; exact H
       clear H
       have H := H1
       clear H1
       obtain ⟨y179, hy179⟩ : ∃ y_ : List ByteArray, y_ = (([⟨#[104, 97, 110, 115]⟩, ⟨#[42]⟩] : List ByteArray)) := ⟨_, rfl⟩
       replace H : (if 0 ≤ (wrap64 (t167 - 3)) then (if (wrap64 (t167 - 3)) < (y179.length : Int) then (some (2, t168, (t169 == 1), (⟨#[42]⟩ : ByteArray), (⟨#[104, 97, 110, 116]⟩ : ByteArray), (⟨#[]⟩ : ByteArray), (⟨#[122, 104]⟩ : ByteArray), rdOf ByteArray.empty y179 (wrap64 (t167 - 3)), (⟨#[]⟩ : ByteArray))) else (none)) else (none)) = some (r1, r2, r3, r4, r5, r6, r7, r8, r9) := by first | (rw [hy179]; with_reducible exact H) | (have H2_ := (Option.bind_some _ _).symm.trans H; rw [hy179]; with_reducible exact H2_) | (have H2_ := (Option.bind_some _ _).symm.trans H; with_reducible exact H2_) | with_reducible exact H | (rw [hy179]; exact H) | exact H
       have Ny179 := ak hy179
       clear hy179
       obtain ⟨ji30, hji30⟩ : ∃ j_ : Int, (wrap64 (t167 - 3)) = j_ := ⟨_, rfl⟩
       replace H : (if 0 ≤ (ji30) then (if (ji30) < (y179.length : Int) then (some (2, t168, (t169 == 1), (⟨#[42]⟩ : ByteArray), (⟨#[104, 97, 110, 116]⟩ : ByteArray), (⟨#[]⟩ : ByteArray), (⟨#[122, 104]⟩ : ByteArray), rdOf ByteArray.empty y179 (ji30), (⟨#[]⟩ : ByteArray))) else (none)) else (none)) = some (r1, r2, r3, r4, r5, r6, r7, r8, r9) := by first | (rw [hji30] at H; exact H) | (simp only [hji30] at H ⊢; exact H)
       have hji30w : (IntKind.i64.wrap (t167 - 3)) = ji30 := (i64_w _).trans hji30
       by_cases c31 : 0 ≤ (ji30)
       ·
        rw [if_pos c31] at H
        have c31b0 : decide (0 ≤ (ji30)) = true := decide_eq_true c31
        clear c31
        by_cases c32 : (ji30) < (y179.length : Int)
        ·
         rw [if_pos c32] at H
         have c32b0 : decide ((ji30) < (y179.length : Int)) = true := decide_eq_true c32
         clear c32
         simp only [Option.some.injEq, Prod.mk.injEq] at H
         obtain ⟨rfl, rfl, rfl, rfl, rfl, rfl, rfl, rfl, rfl⟩ := H
         have hnb33 := NB170_166.out
         have hnc33 := NB166_170.out
         obtain ⟨hcz34_0, hcz34_1, hcz34_2, hcz34_3, hcz34_4, hcz34_5, hcz34_6, hcz34_7, hcz34_8⟩ := cz9 BK170.out
         obtain ⟨hfz34_0, hfz34_1, hfz34_2, hfz34_3, hfz34_4, hfz34_5, hfz34_6, hfz34_7, hfz34_8⟩ := fz9 BK170.out
         go_wp2_with (first | ((with_reducible refine gate_dst (N := 44) rfl ?_); refine Kd.R_lit Kd.string _ 9 ?hg (N := 44) ?hd (xs := ([⟨#[104, 97, 110, 115]⟩, ⟨#[42]⟩] : List ByteArray)) (inner := [.string ⟨#[104, 97, 110, 115]⟩, .string ⟨#[42]⟩]) (ok := fun _ => True) (okp := fun _ => True) ?hr ?hp (fun _ hk => hk) trivial (Below.refl _ _) (Nat.le_refl _) (by simp) ?_; (case hd => rfl); (case hg => rfl); (case hr => first | (go_simp; done) | (go_simp; rfl)); (case hp => exact (Reps.one (show Kd.M Kd.string _ _ _ (⟨#[104, 97, 110, 115]⟩ : ByteArray) [.string ⟨#[104, 97, 110, 115]⟩] from rfl) (Reps.one (show Kd.M Kd.string _ _ _ (⟨#[42]⟩ : ByteArray) [.string ⟨#[42]⟩] from rfl) (Reps.none _ _)))); intro v180 w35 ho36 hb hg_ hnew_; clear hg_ hnew_; (first | rw [← Ny179.out] at ho36 | (simp only [Int.reduceToNat] at ho36; rw [← Ny179.out] at ho36)); have n0_ := ak (Kd.R_lower ho36 (below_size bq)); have n1_ := ak (blk_below (g := gb166) (o := .cells #[.int .i64 0, .int .i64 0, .bool false, .string ⟨#[]⟩, .string ⟨#[]⟩, .string ⟨#[]⟩, .string ⟨#[]⟩, .string ⟨#[]⟩, .string ⟨#[]⟩] 53 (0, 0)) (bx (blk_far (bx (blk_far (bx (blk_far (bx (blk_far (bx BK166.out) NB166_170.out _)) NB166_170.out _)) NB166_170.out _)) NB166_170.out _)) hb); have n2_ := ak (blk_below (g := gb170) (o := .cells #[.int .i64 2, .int .i64 t168, .bool (t169 == 1), .string ⟨#[42]⟩, .string ⟨#[104, 97, 110, 116]⟩, .string ⟨#[]⟩, .string ⟨#[]⟩, .string ⟨#[]⟩, .string ⟨#[]⟩] 53 (0, 0)) (bx (blk_put (cs := #[.int .i64 2, .int .i64 t168, .bool (t169 == 1), .string ⟨#[42]⟩, .string ⟨#[104, 97, 110, 116]⟩, .string ⟨#[]⟩, .string ⟨#[]⟩, .string ⟨#[]⟩, .string ⟨#[]⟩]) (bx (blk_put (cs := #[.int .i64 2, .int .i64 t168, .bool (t169 == 1), .string ⟨#[42]⟩, .string ⟨#[]⟩, .string ⟨#[]⟩, .string ⟨#[]⟩, .string ⟨#[]⟩, .string ⟨#[]⟩]) (bx (blk_put (cs := #[.int .i64 2, .int .i64 t168, .bool (t169 == 1), .string ⟨#[]⟩, .string ⟨#[]⟩, .string ⟨#[]⟩, .string ⟨#[]⟩, .string ⟨#[]⟩, .string ⟨#[]⟩]) (bx (blk_put (cs := #[.int .i64 0, .int .i64 t168, .bool (t169 == 1), .string ⟨#[]⟩, .string ⟨#[]⟩, .string ⟨#[]⟩, .string ⟨#[]⟩, .string ⟨#[]⟩, .string ⟨#[]⟩]) (bx BK170.out) 0 _ rfl)) 3 _ rfl)) 4 _ rfl)) 5 _ rfl)) hb); have n3_ := ak (below_step bq hb); clear BK166; clear BK170; clear HB; have HO181 := n0_; have BK166 := n1_; have BK170 := n2_; have HB := n3_; clear n0_ n1_ n2_ n3_; clear hb ho36; obtain ⟨Ao37, co37, eo37⟩ := Kd.R_slice HO181.out; subst eo37; have p182 : 0 ≤ ((ji30) : Int) := of_decide_eq_true (by first | (with_reducible assumption) | assumption); have q182 : (ji30) < (y179.length : Int) := of_decide_eq_true (by first | (with_reducible assumption) | assumption); obtain ⟨ad182, e182, hx182_0⟩ := Kd.at_string (Kd.R_reads' HO181.out).2.2 (ji30) p182 q182; cases e182; replace p182 := eq_true p182; replace q182 := eq_true q182; obtain ⟨hcz38_0, hcz38_1, hcz38_2, hcz38_3, hcz38_4, hcz38_5, hcz38_6, hcz38_7, hcz38_8⟩ := cz9 BK170.out; obtain ⟨hfz38_0, hfz38_1, hfz38_2, hfz38_3, hfz38_4, hfz38_5, hfz38_6, hfz38_7, hfz38_8⟩ := fz9 BK170.out; obtain ⟨hcz39_0, hcz39_1, hcz39_2, hcz39_3, hcz39_4, hcz39_5, hcz39_6, hcz39_7, hcz39_8⟩ := cz9 BK166.out; obtain ⟨hfz39_0, hfz39_1, hfz39_2, hfz39_3, hfz39_4, hfz39_5, hfz39_6, hfz39_7, hfz39_8⟩ := fz9 BK166.out))
         refine bodyPost_ret (results_cell_row rfl _ _ gb166 53 #[.int .i64 2, .int .i64 t168, .bool (t169 == 1), .string ⟨#[42]⟩, .string ⟨#[104, 97, 110, 116]⟩, .string ⟨#[]⟩, .string ⟨#[122, 104]⟩, .string (rdOf ByteArray.empty y179 (ji30)), .string ⟨#[]⟩] (0, 0) _ rfl (bx (blk_put (cs := #[.int .i64 2, .int .i64 t168, .bool (t169 == 1), .string ⟨#[42]⟩, .string ⟨#[104, 97, 110, 116]⟩, .string ⟨#[]⟩, .string ⟨#[122, 104]⟩, .string (rdOf ByteArray.empty y179 (ji30)), .string ⟨#[]⟩]) (bx (blk_put (cs := #[.int .i64 2, .int .i64 t168, .bool (t169 == 1), .string ⟨#[42]⟩, .string ⟨#[104, 97, 110, 116]⟩, .string ⟨#[]⟩, .string ⟨#[122, 104]⟩, .string ⟨#[]⟩, .string ⟨#[]⟩]) (bx (blk_put (cs := #[.int .i64 2, .int .i64 t168, .bool (t169 == 1), .string ⟨#[42]⟩, .string ⟨#[104, 97, 110, 116]⟩, .string ⟨#[]⟩, .string ⟨#[]⟩, .string ⟨#[]⟩, .string ⟨#[]⟩]) (bx (blk_put (cs := #[.int .i64 2, .int .i64 t168, .bool (t169 == 1), .string ⟨#[42]⟩, .string ⟨#[104, 97, 110, 116]⟩, .string ⟨#[]⟩, .string ⟨#[]⟩, .string ⟨#[]⟩, .string ⟨#[]⟩]) (bx (blk_put (cs := #[.int .i64 2, .int .i64 t168, .bool (t169 == 1), .string ⟨#[42]⟩, .string ⟨#[]⟩, .string ⟨#[]⟩, .string ⟨#[]⟩, .string ⟨#[]⟩, .string ⟨#[]⟩]) (bx (blk_put (cs := #[.int .i64 2, .int .i64 t168, .bool (t169 == 1), .string ⟨#[]⟩, .string ⟨#[]⟩, .string ⟨#[]⟩, .string ⟨#[]⟩, .string ⟨#[]⟩, .string ⟨#[]⟩]) (bx (blk_put (cs := #[.int .i64 2, .int .i64 t168, .bool false, .string ⟨#[]⟩, .string ⟨#[]⟩, .string ⟨#[]⟩, .string ⟨#[]⟩, .string ⟨#[]⟩, .string ⟨#[]⟩]) (bx (blk_put (cs := #[.int .i64 2, .int .i64 0, .bool false, .string ⟨#[]⟩, .string ⟨#[]⟩, .string ⟨#[]⟩, .string ⟨#[]⟩, .string ⟨#[]⟩, .string ⟨#[]⟩]) (bx (blk_put (cs := #[.int .i64 0, .int .i64 0, .bool false, .string ⟨#[]⟩, .string ⟨#[]⟩, .string ⟨#[]⟩, .string ⟨#[]⟩, .string ⟨#[]⟩, .string ⟨#[]⟩]) (bx (blk_far (bx (blk_far (bx (blk_far (bx BK166.out) NB166_170.out _)) NB166_170.out _)) NB166_170.out _)) 0 _ rfl)) 1 _ rfl)) 2 _ rfl)) 3 _ rfl)) 4 _ rfl)) 5 _ rfl)) 6 _ rfl)) 7 _ rfl)) 8 _ rfl)) Try.underlying53 rfl (by kernel_rfl)) rfl ?_
         exact ⟨by first | rfl | (simp [errW_none, errW_some] <;> rfl) | (simp only [← hji30]; first | rfl | (simp [errW_none, errW_some] <;> rfl)) | (simp [*, errW_none, errW_some] <;> rfl), bq⟩
        ·
         rw [if_neg c32] at H
         exact absurd H (by simp)
       ·
        rw [if_neg c31] at H
        exact absurd H (by simp)
      ·
       replace c29 := Bool.eq_false_iff.mpr c29
       subst c29
       have H1 : (if t167 = 5 then ((some (([⟨#[36, 101, 117]⟩, ⟨#[117, 115]⟩] : List ByteArray) : List ByteArray)).bind fun y183 => (if 0 ≤ (wrap64 (t167 - 5)) then (if (wrap64 (t167 - 5)) < (y183.length : Int) then ((some (([⟨#[33, 101, 117]⟩, ⟨#[36, 101, 117]⟩] : List ByteArray) : List ByteArray)).bind fun y187 => (if (wrap64 (t167 - 5)) < (y187.length : Int) then (some (3, t168, (t169 == 1), (⟨#[42]⟩ : ByteArray), (⟨#[42]⟩ : ByteArray), rdOf ByteArray.empty y183 (wrap64 (t167 - 5)), (⟨#[42]⟩ : ByteArray), (⟨#[108, 97, 116, 110]⟩ : ByteArray), rdOf ByteArray.empty y187 (wrap64 (t167 - 5)))) else (none))) else (none)) else (none))) else (if t167 = 6 then ((some (([⟨#[36, 101, 117]⟩, ⟨#[117, 115]⟩] : List ByteArray) : List ByteArray)).bind fun y191 => (if 0 ≤ (wrap64 (t167 - 5)) then (if (wrap64 (t167 - 5)) < (y191.length : Int) then ((some (([⟨#[33, 101, 117]⟩, ⟨#[36, 101, 117]⟩] : List ByteArray) : List ByteArray)).bind fun y195 => (if (wrap64 (t167 - 5)) < (y195.length : Int) then (some (3, t168, (t169 == 1), (⟨#[42]⟩ : ByteArray), (⟨#[42]⟩ : ByteArray), rdOf ByteArray.empty y191 (wrap64 (t167 - 5)), (⟨#[42]⟩ : ByteArray), (⟨#[108, 97, 116, 110]⟩ : ByteArray), rdOf ByteArray.empty y195 (wrap64 (t167 - 5)))) else (none))) else (none)) else (none))) else (some (3, t168, (t169 == 1), (⟨#[101, 110]⟩ : ByteArray), (⟨#[42]⟩ : ByteArray), (⟨#[103, 98]⟩ : ByteArray), (⟨#[101, 110]⟩ : ByteArray), (⟨#[42]⟩ : ByteArray), (⟨#[33, 101, 117]⟩ : ByteArray))))) = some (r1, r2, r3, r4, r5, r6, r7, r8, r9) := by rw [if_neg (show ¬ (false = true) by decide)] at H; exact H
       clear H
       have H := H1
       clear H1
       by_cases c40 : t167 = 5
       ·
        rw [if_pos c40] at H
        have c40b0 : (t167 == 5) = true := beq_iff_eq.mpr c40
        have c40b1 : (t167 != 5) = false := bne_eq_false_iff_eq.mpr c40
        (try (have c40b2 : (t167 : Int).toNat = 5 := by rw [c40]; rfl))
        try have c40b3 : (0 ≤ t167) = True := eq_true (by omega)
        clear c40
        obtain ⟨y183, hy183⟩ : ∃ y_ : List ByteArray, y_ = (([⟨#[36, 101, 117]⟩, ⟨#[117, 115]⟩] : List ByteArray)) := ⟨_, rfl⟩
        replace H : (if 0 ≤ (wrap64 (t167 - 5)) then (if (wrap64 (t167 - 5)) < (y183.length : Int) then ((some (([⟨#[33, 101, 117]⟩, ⟨#[36, 101, 117]⟩] : List ByteArray) : List ByteArray)).bind fun y187 => (if (wrap64 (t167 - 5)) < (y187.length : Int) then (some (3, t168, (t169 == 1), (⟨#[42]⟩ : ByteArray), (⟨#[42]⟩ : ByteArray), rdOf ByteArray.empty y183 (wrap64 (t167 - 5)), (⟨#[42]⟩ : ByteArray), (⟨#[108, 97, 116, 110]⟩ : ByteArray), rdOf ByteArray.empty y187 (wrap64 (t167 - 5)))) else (none))) else (none)) else (none)) = some (r1, r2, r3, r4, r5, r6, r7, r8, r9) := by first | (rw [hy183]; with_reducible exact H) | (have H2_ := (Option.bind_some _ _).symm.trans H; rw [hy183]; with_reducible exact H2_) | (have H2_ := (Option.bind_some _ _).symm.trans H; with_reducible exact H2_) | with_reducible exact H | (rw [hy183]; exact H) | exact H
        have Ny183 := ak hy183
        clear hy183
        obtain ⟨ji41, hji41⟩ : ∃ j_ : Int, (wrap64 (t167 - 5)) = j_ := ⟨_, rfl⟩
        replace H : (if 0 ≤ (ji41) then (if (ji41) < (y183.length : Int) then ((some (([⟨#[33, 101, 117]⟩, ⟨#[36, 101, 117]⟩] : List ByteArray) : List ByteArray)).bind fun y187 => (if (ji41) < (y187.length : Int) then (some (3, t168, (t169 == 1), (⟨#[42]⟩ : ByteArray), (⟨#[42]⟩ : ByteArray), rdOf ByteArray.empty y183 (ji41), (⟨#[42]⟩ : ByteArray), (⟨#[108, 97, 116, 110]⟩ : ByteArray), rdOf ByteArray.empty y187 (ji41))) else (none))) else (none)) else (none)) = some (r1, r2, r3, r4, r5, r6, r7, r8, r9) := by first | (rw [hji41] at H; exact H) | (simp only [hji41] at H ⊢; exact H)
        have hji41w : (IntKind.i64.wrap (t167 - 5)) = ji41 := (i64_w _).trans hji41
        by_cases c42 : 0 ≤ (ji41)
        ·
         rw [if_pos c42] at H
         have c42b0 : decide (0 ≤ (ji41)) = true := decide_eq_true c42
         clear c42
         by_cases c43 : (ji41) < (y183.length : Int)
         ·
          rw [if_pos c43] at H
          have c43b0 : decide ((ji41) < (y183.length : Int)) = true := decide_eq_true c43
          clear c43
          obtain ⟨y187, hy187⟩ : ∃ y_ : List ByteArray, y_ = (([⟨#[33, 101, 117]⟩, ⟨#[36, 101, 117]⟩] : List ByteArray)) := ⟨_, rfl⟩
          replace H : (if (ji41) < (y187.length : Int) then (some (3, t168, (t169 == 1), (⟨#[42]⟩ : ByteArray), (⟨#[42]⟩ : ByteArray), rdOf ByteArray.empty y183 (ji41), (⟨#[42]⟩ : ByteArray), (⟨#[108, 97, 116, 110]⟩ : ByteArray), rdOf ByteArray.empty y187 (ji41))) else (none)) = some (r1, r2, r3, r4, r5, r6, r7, r8, r9) := by first | (rw [hy187]; with_reducible exact H) | (have H2_ := (Option.bind_some _ _).symm.trans H; rw [hy187]; with_reducible exact H2_) | (have H2_ := (Option.bind_some _ _).symm.trans H; with_reducible exact H2_) | with_reducible exact H | (rw [hy187]; exact H) | exact H
          have Ny187 := ak hy187
          clear hy187
          by_cases c44 : (ji41) < (y187.length : Int)
          ·
           rw [if_pos c44] at H
           have c44b0 : decide ((ji41) < (y187.length : Int)) = true := decide_eq_true c44
           clear c44
           simp only [Option.some.injEq, Prod.mk.injEq] at H
           obtain ⟨rfl, rfl, rfl, rfl, rfl, rfl, rfl, rfl, rfl⟩ := H
           have hnb45 := NB170_166.out
           have hnc45 := NB166_170.out
           obtain ⟨hcz46_0, hcz46_1, hcz46_2, hcz46_3, hcz46_4, hcz46_5, hcz46_6, hcz46_7, hcz46_8⟩ := cz9 BK170.out
           obtain ⟨hfz46_0, hfz46_1, hfz46_2, hfz46_3, hfz46_4, hfz46_5, hfz46_6, hfz46_7, hfz46_8⟩ := fz9 BK170.out
           go_wp2_with (first | ((with_reducible refine gate_dst (N := 55) rfl ?_); refine Kd.R_lit Kd.string _ 9 ?hg (N := 55) ?hd (xs := ([⟨#[36, 101, 117]⟩, ⟨#[117, 115]⟩] : List ByteArray)) (inner := [.string ⟨#[36, 101, 117]⟩, .string ⟨#[117, 115]⟩]) (ok := fun _ => True) (okp := fun _ => True) ?hr ?hp (fun _ hk => hk) trivial (Below.refl _ _) (Nat.le_refl _) (by simp) ?_; (case hd => rfl); (case hg => rfl); (case hr => first | (go_simp; done) | (go_simp; rfl)); (case hp => exact (Reps.one (show Kd.M Kd.string _ _ _ (⟨#[36, 101, 117]⟩ : ByteArray) [.string ⟨#[36, 101, 117]⟩] from rfl) (Reps.one (show Kd.M Kd.string _ _ _ (⟨#[117, 115]⟩ : ByteArray) [.string ⟨#[117, 115]⟩] from rfl) (Reps.none _ _)))); intro v184 w47 ho48 hb hg_ hnew_; clear hg_ hnew_; (first | rw [← Ny183.out] at ho48 | (simp only [Int.reduceToNat] at ho48; rw [← Ny183.out] at ho48)); have n0_ := ak (Kd.R_lower ho48 (below_size bq)); have n1_ := ak (blk_below (g := gb166) (o := .cells #[.int .i64 0, .int .i64 0, .bool false, .string ⟨#[]⟩, .string ⟨#[]⟩, .string ⟨#[]⟩, .string ⟨#[]⟩, .string ⟨#[]⟩, .string ⟨#[]⟩] 53 (0, 0)) (bx (blk_far (bx BK166.out) NB166_170.out _)) hb); have n2_ := ak (blk_below (g := gb170) (o := .cells #[.int .i64 3, .int .i64 t168, .bool (t169 == 1), .string ⟨#[]⟩, .string ⟨#[]⟩, .string ⟨#[]⟩, .string ⟨#[]⟩, .string ⟨#[]⟩, .string ⟨#[]⟩] 53 (0, 0)) (bx (blk_put (cs := #[.int .i64 0, .int .i64 t168, .bool (t169 == 1), .string ⟨#[]⟩, .string ⟨#[]⟩, .string ⟨#[]⟩, .string ⟨#[]⟩, .string ⟨#[]⟩, .string ⟨#[]⟩]) (bx BK170.out) 0 _ rfl)) hb); have n3_ := ak (below_step bq hb); clear BK166; clear BK170; clear HB; have HO185 := n0_; have BK166 := n1_; have BK170 := n2_; have HB := n3_; clear n0_ n1_ n2_ n3_; clear hb ho48; obtain ⟨Ao49, co49, eo49⟩ := Kd.R_slice HO185.out; subst eo49; have p186 : 0 ≤ ((ji41) : Int) := of_decide_eq_true (by first | (with_reducible assumption) | assumption); have q186 : (ji41) < (y183.length : Int) := of_decide_eq_true (by first | (with_reducible assumption) | assumption); obtain ⟨ad186, e186, hx186_0⟩ := Kd.at_string (Kd.R_reads' HO185.out).2.2 (ji41) p186 q186; cases e186; replace p186 := eq_true p186; replace q186 := eq_true q186; obtain ⟨hcz50_0, hcz50_1, hcz50_2, hcz50_3, hcz50_4, hcz50_5, hcz50_6, hcz50_7, hcz50_8⟩ := cz9 BK170.out; obtain ⟨hfz50_0, hfz50_1, hfz50_2, hfz50_3, hfz50_4, hfz50_5, hfz50_6, hfz50_7, hfz50_8⟩ := fz9 BK170.out) | ((with_reducible refine gate_dst (N := 62) rfl ?_); refine Kd.R_lit Kd.string _ 9 ?hg (N := 62) ?hd (xs := ([⟨#[33, 101, 117]⟩, ⟨#[36, 101, 117]⟩] : List ByteArray)) (inner := [.string ⟨#[33, 101, 117]⟩, .string ⟨#[36, 101, 117]⟩]) (ok := fun _ => True) (okp := fun _ => True) ?hr ?hp (fun _ hk => hk) trivial (Below.refl _ _) (Nat.le_refl _) (by simp) ?_; (case hd => rfl); (case hg => rfl); (case hr => first | (go_simp; done) | (go_simp; rfl)); (case hp => exact (Reps.one (show Kd.M Kd.string _ _ _ (⟨#[33, 101, 117]⟩ : ByteArray) [.string ⟨#[33, 101, 117]⟩] from rfl) (Reps.one (show Kd.M Kd.string _ _ _ (⟨#[36, 101, 117]⟩ : ByteArray) [.string ⟨#[36, 101, 117]⟩] from rfl) (Reps.none _ _)))); intro v188 w51 ho52 hb hg_ hnew_; clear hg_ hnew_; (first | rw [← Ny187.out] at ho52 | (simp only [Int.reduceToNat] at ho52; rw [← Ny187.out] at ho52)); have n0_ := ak (Kd.R_elder' (rx ((Kd.R_mono (Kd.R_far (p := ⟨gb170, 5, none⟩) (Kd.R_far (p := ⟨gb170, 4, none⟩) (Kd.R_far (p := ⟨gb170, 3, none⟩) (Kd.R_types HO185.out BK170.out (by decide)) (fun _ hk => hk.2) (.string ⟨#[42]⟩)) (fun _ hk => hk.2) (.string ⟨#[42]⟩)) (fun _ hk => hk.2) (.string (rdOf ByteArray.empty y183 (ji41)))) (fun _ h_ => h_.1)))) (Kd.R_base ho52) hb); have n1_ := ak (Kd.R_lower (Kd.R_new' ho52 (Kd.R_lt (rx ((Kd.R_mono (Kd.R_far (p := ⟨gb170, 5, none⟩) (Kd.R_far (p := ⟨gb170, 4, none⟩) (Kd.R_far (p := ⟨gb170, 3, none⟩) (Kd.R_types HO185.out BK170.out (by decide)) (fun _ hk => hk.2) (.string ⟨#[42]⟩)) (fun _ hk => hk.2) (.string ⟨#[42]⟩)) (fun _ hk => hk.2) (.string (rdOf ByteArray.empty y183 (ji41)))) (fun _ h_ => h_.1)))))) (below_size bq)); have n2_ := ak (blk_below (g := gb166) (o := .cells #[.int .i64 0, .int .i64 0, .bool false, .string ⟨#[]⟩, .string ⟨#[]⟩, .string ⟨#[]⟩, .string ⟨#[]⟩, .string ⟨#[]⟩, .string ⟨#[]⟩] 53 (0, 0)) (bx (blk_far (bx (blk_far (bx (blk_far (bx BK166.out) NB166_170.out _)) NB166_170.out _)) NB166_170.out _)) hb); have n3_ := ak (blk_below (g := gb170) (o := .cells #[.int .i64 3, .int .i64 t168, .bool (t169 == 1), .string ⟨#[42]⟩, .string ⟨#[42]⟩, .string (rdOf ByteArray.empty y183 (ji41)), .string ⟨#[]⟩, .string ⟨#[]⟩, .string ⟨#[]⟩] 53 (0, 0)) (bx (blk_put (cs := #[.int .i64 3, .int .i64 t168, .bool (t169 == 1), .string ⟨#[42]⟩, .string ⟨#[42]⟩, .string ⟨#[]⟩, .string ⟨#[]⟩, .string ⟨#[]⟩, .string ⟨#[]⟩]) (bx (blk_put (cs := #[.int .i64 3, .int .i64 t168, .bool (t169 == 1), .string ⟨#[42]⟩, .string ⟨#[]⟩, .string ⟨#[]⟩, .string ⟨#[]⟩, .string ⟨#[]⟩, .string ⟨#[]⟩]) (bx (blk_put (cs := #[.int .i64 3, .int .i64 t168, .bool (t169 == 1), .string ⟨#[]⟩, .string ⟨#[]⟩, .string ⟨#[]⟩, .string ⟨#[]⟩, .string ⟨#[]⟩, .string ⟨#[]⟩]) (bx BK170.out) 3 _ rfl)) 4 _ rfl)) 5 _ rfl)) hb); have n4_ := ak (below_step bq hb); clear HO185; clear BK166; clear BK170; clear HB; have HO185 := n0_; have HO189 := n1_; have BK166 := n2_; have BK170 := n3_; have HB := n4_; clear n0_ n1_ n2_ n3_ n4_; clear hb ho52; obtain ⟨Ao53, co53, eo53⟩ := Kd.R_slice HO189.out; subst eo53; have p190 : 0 ≤ ((ji41) : Int) := of_decide_eq_true (by first | (with_reducible assumption) | assumption); have q190 : (ji41) < (y187.length : Int) := of_decide_eq_true (by first | (with_reducible assumption) | assumption); obtain ⟨ad190, e190, hx190_0⟩ := Kd.at_string (Kd.R_reads' HO189.out).2.2 (ji41) p190 q190; cases e190; replace p190 := eq_true p190; replace q190 := eq_true q190; obtain ⟨hcz54_0, hcz54_1, hcz54_2, hcz54_3, hcz54_4, hcz54_5, hcz54_6, hcz54_7, hcz54_8⟩ := cz9 BK170.out; obtain ⟨hfz54_0, hfz54_1, hfz54_2, hfz54_3, hfz54_4, hfz54_5, hfz54_6, hfz54_7, hfz54_8⟩ := fz9 BK170.out; obtain ⟨hcz55_0, hcz55_1, hcz55_2, hcz55_3, hcz55_4, hcz55_5, hcz55_6, hcz55_7, hcz55_8⟩ := cz9 BK166.out; obtain ⟨hfz55_0, hfz55_1, hfz55_2, hfz55_3, hfz55_4, hfz55_5, hfz55_6, hfz55_7, hfz55_8⟩ := fz9 BK166.out))
           refine bodyPost_ret (results_cell_row rfl _ _ gb166 53 #[.int .i64 3, .int .i64 t168, .bool (t169 == 1), .string ⟨#[42]⟩, .string ⟨#[42]⟩, .string (rdOf ByteArray.empty y183 (ji41)), .string ⟨#[42]⟩, .string ⟨#[108, 97, 116, 110]⟩, .string (rdOf ByteArray.empty y187 (ji41))] (0, 0) _ rfl (bx (blk_put (cs := #[.int .i64 3, .int .i64 t168, .bool (t169 == 1), .string ⟨#[42]⟩, .string ⟨#[42]⟩, .string (rdOf ByteArray.empty y183 (ji41)), .string ⟨#[42]⟩, .string ⟨#[108, 97, 116, 110]⟩, .string ⟨#[]⟩]) (bx (blk_put (cs := #[.int .i64 3, .int .i64 t168, .bool (t169 == 1), .string ⟨#[42]⟩, .string ⟨#[42]⟩, .string (rdOf ByteArray.empty y183 (ji41)), .string ⟨#[42]⟩, .string ⟨#[]⟩, .string ⟨#[]⟩]) (bx (blk_put (cs := #[.int .i64 3, .int .i64 t168, .bool (t169 == 1), .string ⟨#[42]⟩, .string ⟨#[42]⟩, .string (rdOf ByteArray.empty y183 (ji41)), .string ⟨#[]⟩, .string ⟨#[]⟩, .string ⟨#[]⟩]) (bx (blk_put (cs := #[.int .i64 3, .int .i64 t168, .bool (t169 == 1), .string ⟨#[42]⟩, .string ⟨#[42]⟩, .string ⟨#[]⟩, .string ⟨#[]⟩, .string ⟨#[]⟩, .string ⟨#[]⟩]) (bx (blk_put (cs := #[.int .i64 3, .int .i64 t168, .bool (t169 == 1), .string ⟨#[42]⟩, .string ⟨#[]⟩, .string ⟨#[]⟩, .string ⟨#[]⟩, .string ⟨#[]⟩, .string ⟨#[]⟩]) (bx (blk_put (cs := #[.int .i64 3, .int .i64 t168, .bool (t169 == 1), .string ⟨#[]⟩, .string ⟨#[]⟩, .string ⟨#[]⟩, .string ⟨#[]⟩, .string ⟨#[]⟩, .string ⟨#[]⟩]) (bx (blk_put (cs := #[.int .i64 3, .int .i64 t168, .bool false, .string ⟨#[]⟩, .string ⟨#[]⟩, .string ⟨#[]⟩, .string ⟨#[]⟩, .string ⟨#[]⟩, .string ⟨#[]⟩]) (bx (blk_put (cs := #[.int .i64 3, .int .i64 0, .bool false, .string ⟨#[]⟩, .string ⟨#[]⟩, .string ⟨#[]⟩, .string ⟨#[]⟩, .string ⟨#[]⟩, .string ⟨#[]⟩]) (bx (blk_put (cs := #[.int .i64 0, .int .i64 0, .bool false, .string ⟨#[]⟩, .string ⟨#[]⟩, .string ⟨#[]⟩, .string ⟨#[]⟩, .string ⟨#[]⟩, .string ⟨#[]⟩]) (bx (blk_far (bx (blk_far (bx (blk_far (bx BK166.out) NB166_170.out _)) NB166_170.out _)) NB166_170.out _)) 0 _ rfl)) 1 _ rfl)) 2 _ rfl)) 3 _ rfl)) 4 _ rfl)) 5 _ rfl)) 6 _ rfl)) 7 _ rfl)) 8 _ rfl)) Try.underlying53 rfl (by kernel_rfl)) rfl ?_
           exact ⟨by first | rfl | (simp [errW_none, errW_some] <;> rfl) | (simp only [← hji41]; first | rfl | (simp [errW_none, errW_some] <;> rfl)) | (simp [*, errW_none, errW_some] <;> rfl), bq⟩
          ·
           rw [if_neg c44] at H
           exact absurd H (by simp)
         ·
          rw [if_neg c43] at H
          exact absurd H (by simp)
        ·
         rw [if_neg c42] at H
         exact absurd H (by simp)
       ·
        rw [if_neg c40] at H
        have c40b0 : (t167 == 5) = false := beq_eq_false_iff_ne.mpr c40
        have c40b1 : (t167 != 5) = true := bne_iff_ne.mpr c40
        by_cases c56 : t167 = 6
        ·
         rw [if_pos c56] at H
         have c56b0 : (t167 == 6) = true := beq_iff_eq.mpr c56
         have c56b1 : (t167 != 6) = false := bne_eq_false_iff_eq.mpr c56
         (try (have c56b2 : (t167 : Int).toNat = 6 := by rw [c56]; rfl))
         try have c56b3 : (0 ≤ t167) = True := eq_true (by omega)
         clear c56
         obtain ⟨y191, hy191⟩ : ∃ y_ : List ByteArray, y_ = (([⟨#[36, 101, 117]⟩, ⟨#[117, 115]⟩] : List ByteArray)) := ⟨_, rfl⟩
         replace H : (if 0 ≤ (wrap64 (t167 - 5)) then (if (wrap64 (t167 - 5)) < (y191.length : Int) then ((some (([⟨#[33, 101, 117]⟩, ⟨#[36, 101, 117]⟩] : List ByteArray) : List ByteArray)).bind fun y195 => (if (wrap64 (t167 - 5)) < (y195.length : Int) then (some (3, t168, (t169 == 1), (⟨#[42]⟩ : ByteArray), (⟨#[42]⟩ : ByteArray), rdOf ByteArray.empty y191 (wrap64 (t167 - 5)), (⟨#[42]⟩ : ByteArray), (⟨#[108, 97, 116, 110]⟩ : ByteArray), rdOf ByteArray.empty y195 (wrap64 (t167 - 5)))) else (none))) else (none)) else (none)) = some (r1, r2, r3, r4, r5, r6, r7, r8, r9) := by first | (rw [hy191]; with_reducible exact H) | (have H2_ := (Option.bind_some _ _).symm.trans H; rw [hy191]; with_reducible exact H2_) | (have H2_ := (Option.bind_some _ _).symm.trans H; with_reducible exact H2_) | with_reducible exact H | (rw [hy191]; exact H) | exact H
         have Ny191 := ak hy191
         clear hy191
         obtain ⟨ji57, hji57⟩ : ∃ j_ : Int, (wrap64 (t167 - 5)) = j_ := ⟨_, rfl⟩
         replace H : (if 0 ≤ (ji57) then (if (ji57) < (y191.length : Int) then ((some (([⟨#[33, 101, 117]⟩, ⟨#[36, 101, 117]⟩] : List ByteArray) : List ByteArray)).bind fun y195 => (if (ji57) < (y195.length : Int) then (some (3, t168, (t169 == 1), (⟨#[42]⟩ : ByteArray), (⟨#[42]⟩ : ByteArray), rdOf ByteArray.empty y191 (ji57), (⟨#[42]⟩ : ByteArray), (⟨#[108, 97, 116, 110]⟩ : ByteArray), rdOf ByteArray.empty y195 (ji57))) else (none))) else (none)) else (none)) = some (r1, r2, r3, r4, r5, r6, r7, r8, r9) := by first | (rw [hji57] at H; exact H) | (simp only [hji57] at H ⊢; exact H)
         have hji57w : (IntKind.i64.wrap (t167 - 5)) = ji57 := (i64_w _).trans hji57
         by_cases c58 : 0 ≤ (ji57)
         ·
          rw [if_pos c58] at H
          have c58b0 : decide (0 ≤ (ji57)) = true := decide_eq_true c58
          clear c58
          by_cases c59 : (ji57) < (y191.length : Int)
          ·
           rw [if_pos c59] at H
           have c59b0 : decide ((ji57) < (y191.length : Int)) = true := decide_eq_true c59
           clear c59
           obtain ⟨y195, hy195⟩ : ∃ y_ : List ByteArray, y_ = (([⟨#[33, 101, 117]⟩, ⟨#[36, 101, 117]⟩] : List ByteArray)) := ⟨_, rfl⟩
           replace H : (if (ji57) < (y195.length : Int) then (some (3, t168, (t169 == 1), (⟨#[42]⟩ : ByteArray), (⟨#[42]⟩ : ByteArray), rdOf ByteArray.empty y191 (ji57), (⟨#[42]⟩ : ByteArray), (⟨#[108, 97, 116, 110]⟩ : ByteArray), rdOf ByteArray.empty y195 (ji57))) else (none)) = some (r1, r2, r3, r4, r5, r6, r7, r8, r9) := by first | (rw [hy195]; with_reducible exact H) | (have H2_ := (Option.bind_some _ _).symm.trans H; rw [hy195]; with_reducible exact H2_) | (have H2_ := (Option.bind_some _ _).symm.trans H; with_reducible exact H2_) | with_reducible exact H | (rw [hy195]; exact H) | exact H
           have Ny195 := ak hy195
           clear hy195
           by_cases c60 : (ji57) < (y195.length : Int)
           ·
            rw [if_pos c60] at H
            have c60b0 : decide ((ji57) < (y195.length : Int)) = true := decide_eq_true c60
            clear c60
            simp only [Option.some.injEq, Prod.mk.injEq] at H
            obtain ⟨rfl, rfl, rfl, rfl, rfl, rfl, rfl, rfl, rfl⟩ := H
            have hnb61 := NB170_166.out
            have hnc61 := NB166_170.out
            obtain ⟨hcz62_0, hcz62_1, hcz62_2, hcz62_3, hcz62_4, hcz62_5, hcz62_6, hcz62_7, hcz62_8⟩ := cz9 BK170.out
            obtain ⟨hfz62_0, hfz62_1, hfz62_2, hfz62_3, hfz62_4, hfz62_5, hfz62_6, hfz62_7, hfz62_8⟩ := fz9 BK170.out
            go_wp2_with (first | ((with_reducible refine gate_dst (N := 55) rfl ?_); refine Kd.R_lit Kd.string _ 9 ?hg (N := 55) ?hd (xs := ([⟨#[36, 101, 117]⟩, ⟨#[117, 115]⟩] : List ByteArray)) (inner := [.string ⟨#[36, 101, 117]⟩, .string ⟨#[117, 115]⟩]) (ok := fun _ => True) (okp := fun _ => True) ?hr ?hp (fun _ hk => hk) trivial (Below.refl _ _) (Nat.le_refl _) (by simp) ?_; (case hd => rfl); (case hg => rfl); (case hr => first | (go_simp; done) | (go_simp; rfl)); (case hp => exact (Reps.one (show Kd.M Kd.string _ _ _ (⟨#[36, 101, 117]⟩ : ByteArray) [.string ⟨#[36, 101, 117]⟩] from rfl) (Reps.one (show Kd.M Kd.string _ _ _ (⟨#[117, 115]⟩ : ByteArray) [.string ⟨#[117, 115]⟩] from rfl) (Reps.none _ _)))); intro v192 w63 ho64 hb hg_ hnew_; clear hg_ hnew_; (first | rw [← Ny191.out] at ho64 | (simp only [Int.reduceToNat] at ho64; rw [← Ny191.out] at ho64)); have n0_ := ak (Kd.R_lower ho64 (below_size bq)); have n1_ := ak (blk_below (g := gb166) (o := .cells #[.int .i64 0, .int .i64 0, .bool false, .string ⟨#[]⟩, .string ⟨#[]⟩, .string ⟨#[]⟩, .string ⟨#[]⟩, .string ⟨#[]⟩, .string ⟨#[]⟩] 53 (0, 0)) (bx (blk_far (bx BK166.out) NB166_170.out _)) hb); have n2_ := ak (blk_below (g := gb170) (o := .cells #[.int .i64 3, .int .i64 t168, .bool (t169 == 1), .string ⟨#[]⟩, .string ⟨#[]⟩, .string ⟨#[]⟩, .string ⟨#[]⟩, .string ⟨#[]⟩, .string ⟨#[]⟩] 53 (0, 0)) (bx (blk_put (cs := #[.int .i64 0, .int .i64 t168, .bool (t169 == 1), .string ⟨#[]⟩, .string ⟨#[]⟩, .string ⟨#[]⟩, .string ⟨#[]⟩, .string ⟨#[]⟩, .string ⟨#[]⟩]) (bx BK170.out) 0 _ rfl)) hb); have n3_ := ak (below_step bq hb); clear BK166; clear BK170; clear HB; have HO193 := n0_; have BK166 := n1_; have BK170 := n2_; have HB := n3_; clear n0_ n1_ n2_ n3_; clear hb ho64; obtain ⟨Ao65, co65, eo65⟩ := Kd.R_slice HO193.out; subst eo65; have p194 : 0 ≤ ((ji57) : Int) := of_decide_eq_true (by first | (with_reducible assumption) | assumption); have q194 : (ji57) < (y191.length : Int) := of_decide_eq_true (by first | (with_reducible assumption) | assumption); obtain ⟨ad194, e194, hx194_0⟩ := Kd.at_string (Kd.R_reads' HO193.out).2.2 (ji57) p194 q194; cases e194; replace p194 := eq_true p194; replace q194 := eq_true q194; obtain ⟨hcz66_0, hcz66_1, hcz66_2, hcz66_3, hcz66_4, hcz66_5, hcz66_6, hcz66_7, hcz66_8⟩ := cz9 BK170.out; obtain ⟨hfz66_0, hfz66_1, hfz66_2, hfz66_3, hfz66_4, hfz66_5, hfz66_6, hfz66_7, hfz66_8⟩ := fz9 BK170.out) | ((with_reducible refine gate_dst (N := 62) rfl ?_); refine Kd.R_lit Kd.string _ 9 ?hg (N := 62) ?hd (xs := ([⟨#[33, 101, 117]⟩, ⟨#[36, 101, 117]⟩] : List ByteArray)) (inner := [.string ⟨#[33, 101, 117]⟩, .string ⟨#[36, 101, 117]⟩]) (ok := fun _ => True) (okp := fun _ => True) ?hr ?hp (fun _ hk => hk) trivial (Below.refl _ _) (Nat.le_refl _) (by simp) ?_; (case hd => rfl); (case hg => rfl); (case hr => first | (go_simp; done) | (go_simp; rfl)); (case hp => exact (Reps.one (show Kd.M Kd.string _ _ _ (⟨#[33, 101, 117]⟩ : ByteArray) [.string ⟨#[33, 101, 117]⟩] from rfl) (Reps.one (show Kd.M Kd.string _ _ _ (⟨#[36, 101, 117]⟩ : ByteArray) [.string ⟨#[36, 101, 117]⟩] from rfl) (Reps.none _ _)))); intro v196 w67 ho68 hb hg_ hnew_; clear hg_ hnew_; (first | rw [← Ny195.out] at ho68 | (simp only [Int.reduceToNat] at ho68; rw [← Ny195.out] at ho68)); have n0_ := ak (Kd.R_elder' (rx ((Kd.R_mono (Kd.R_far (p := ⟨gb170, 5, none⟩) (Kd.R_far (p := ⟨gb170, 4, none⟩) (Kd.R_far (p := ⟨gb170, 3, none⟩) (Kd.R_types HO193.out BK170.out (by decide)) (fun _ hk => hk.2) (.string ⟨#[42]⟩)) (fun _ hk => hk.2) (.string ⟨#[42]⟩)) (fun _ hk => hk.2) (.string (rdOf ByteArray.empty y191 (ji57)))) (fun _ h_ => h_.1)))) (Kd.R_base ho68) hb); have n1_ := ak (Kd.R_lower (Kd.R_new' ho68 (Kd.R_lt (rx ((Kd.R_mono (Kd.R_far (p := ⟨gb170, 5, none⟩) (Kd.R_far (p := ⟨gb170, 4, none⟩) (Kd.R_far (p := ⟨gb170, 3, none⟩) (Kd.R_types HO193.out BK170.out (by decide)) (fun _ hk => hk.2) (.string ⟨#[42]⟩)) (fun _ hk => hk.2) (.string ⟨#[42]⟩)) (fun _ hk => hk.2) (.string (rdOf ByteArray.empty y191 (ji57)))) (fun _ h_ => h_.1)))))) (below_size bq)); have n2_ := ak (blk_below (g := gb166) (o := .cells #[.int .i64 0, .int .i64 0, .bool false, .string ⟨#[]⟩, .string ⟨#[]⟩, .string ⟨#[]⟩, .string ⟨#[]⟩, .string ⟨#[]⟩, .string ⟨#[]⟩] 53 (0, 0)) (bx (blk_far (bx (blk_far (bx (blk_far (bx BK166.out) NB166_170.out _)) NB166_170.out _)) NB166_170.out _)) hb); have n3_ := ak (blk_below (g := gb170) (o := .cells #[.int .i64 3, .int .i64 t168, .bool (t169 == 1), .string ⟨#[42]⟩, .string ⟨#[42]⟩, .string (rdOf ByteArray.empty y191 (ji57)), .string ⟨#[]⟩, .string ⟨#[]⟩, .string ⟨#[]⟩] 53 (0, 0)) (bx (blk_put (cs := #[.int .i64 3, .int .i64 t168, .bool (t169 == 1), .string ⟨#[42]⟩, .string ⟨#[42]⟩, .string ⟨#[]⟩, .string ⟨#[]⟩, .string ⟨#[]⟩, .string ⟨#[]⟩]) (bx (blk_put (cs := #[.int .i64 3, .int .i64 t168, .bool (t169 == 1), .string ⟨#[42]⟩, .string ⟨#[]⟩, .string ⟨#[]⟩, .string ⟨#[]⟩, .string ⟨#[]⟩, .string ⟨#[]⟩]) (bx (blk_put (cs := #[.int .i64 3, .int .i64 t168, .bool (t169 == 1), .string ⟨#[]⟩, .string ⟨#[]⟩, .string ⟨#[]⟩, .string ⟨#[]⟩, .string ⟨#[]⟩, .string ⟨#[]⟩]) (bx BK170.out) 3 _ rfl)) 4 _ rfl)) 5 _ rfl)) hb); have n4_ := ak (below_step bq hb); clear HO193; clear BK166; clear BK170; clear HB; have HO193 := n0_; have HO197 := n1_; have BK166 := n2_; have BK170 := n3_; have HB := n4_; clear n0_ n1_ n2_ n3_ n4_; clear hb ho68; obtain ⟨Ao69, co69, eo69⟩ := Kd.R_slice HO197.out; subst eo69; have p198 : 0 ≤ ((ji57) : Int) := of_decide_eq_true (by first | (with_reducible assumption) | assumption); have q198 : (ji57) < (y195.length : Int) := of_decide_eq_true (by first | (with_reducible assumption) | assumption); obtain ⟨ad198, e198, hx198_0⟩ := Kd.at_string (Kd.R_reads' HO197.out).2.2 (ji57) p198 q198; cases e198; replace p198 := eq_true p198; replace q198 := eq_true q198; obtain ⟨hcz70_0, hcz70_1, hcz70_2, hcz70_3, hcz70_4, hcz70_5, hcz70_6, hcz70_7, hcz70_8⟩ := cz9 BK170.out; obtain ⟨hfz70_0, hfz70_1, hfz70_2, hfz70_3, hfz70_4, hfz70_5, hfz70_6, hfz70_7, hfz70_8⟩ := fz9 BK170.out; obtain ⟨hcz71_0, hcz71_1, hcz71_2, hcz71_3, hcz71_4, hcz71_5, hcz71_6, hcz71_7, hcz71_8⟩ := cz9 BK166.out; obtain ⟨hfz71_0, hfz71_1, hfz71_2, hfz71_3, hfz71_4, hfz71_5, hfz71_6, hfz71_7, hfz71_8⟩ := fz9 BK166.out))
            refine bodyPost_ret (results_cell_row rfl _ _ gb166 53 #[.int .i64 3, .int .i64 t168, .bool (t169 == 1), .string ⟨#[42]⟩, .string ⟨#[42]⟩, .string (rdOf ByteArray.empty y191 (ji57)), .string ⟨#[42]⟩, .string ⟨#[108, 97, 116, 110]⟩, .string (rdOf ByteArray.empty y195 (ji57))] (0, 0) _ rfl (bx (blk_put (cs := #[.int .i64 3, .int .i64 t168, .bool (t169 == 1), .string ⟨#[42]⟩, .string ⟨#[42]⟩, .string (rdOf ByteArray.empty y191 (ji57)), .string ⟨#[42]⟩, .string ⟨#[108, 97, 116, 110]⟩, .string ⟨#[]⟩]) (bx (blk_put (cs := #[.int .i64 3, .int .i64 t168, .bool (t169 == 1), .string ⟨#[42]⟩, .string ⟨#[42]⟩, .string (rdOf ByteArray.empty y191 (ji57)), .string ⟨#[42]⟩, .string ⟨#[]⟩, .string ⟨#[]⟩]) (bx (blk_put (cs := #[.int .i64 3, .int .i64 t168, .bool (t169 == 1), .string ⟨#[42]⟩, .string ⟨#[42]⟩, .string (rdOf ByteArray.empty y191 (ji57)), .string ⟨#[]⟩, .string ⟨#[]⟩, .string ⟨#[]⟩]) (bx (blk_put (cs := #[.int .i64 3, .int .i64 t168, .bool (t169 == 1), .string ⟨#[42]⟩, .string ⟨#[42]⟩, .string ⟨#[]⟩, .string ⟨#[]⟩, .string ⟨#[]⟩, .string ⟨#[]⟩]) (bx (blk_put (cs := #[.int .i64 3, .int .i64 t168, .bool (t169 == 1), .string ⟨#[42]⟩, .string ⟨#[]⟩, .string ⟨#[]⟩, .string ⟨#[]⟩, .string ⟨#[]⟩, .string ⟨#[]⟩]) (bx (blk_put (cs := #[.int .i64 3, .int .i64 t168, .bool (t169 == 1), .string ⟨#[]⟩, .string ⟨#[]⟩, .string ⟨#[]⟩, .string ⟨#[]⟩, .string ⟨#[]⟩, .string ⟨#[]⟩]) (bx (blk_put (cs := #[.int .i64 3, .int .i64 t168, .bool false, .string ⟨#[]⟩, .string ⟨#[]⟩, .string ⟨#[]⟩, .string ⟨#[]⟩, .string ⟨#[]⟩, .string ⟨#[]⟩]) (bx (blk_put (cs := #[.int .i64 3, .int .i64 0, .bool false, .string ⟨#[]⟩, .string ⟨#[]⟩, .string ⟨#[]⟩, .string ⟨#[]⟩, .string ⟨#[]⟩, .string ⟨#[]⟩]) (bx (blk_put (cs := #[.int .i64 0, .int .i64 0, .bool false, .string ⟨#[]⟩, .string ⟨#[]⟩, .string ⟨#[]⟩, .string ⟨#[]⟩, .string ⟨#[]⟩, .string ⟨#[]⟩]) (bx (blk_far (bx (blk_far (bx (blk_far (bx BK166.out) NB166_170.out _)) NB166_170.out _)) NB166_170.out _)) 0 _ rfl)) 1 _ rfl)) 2 _ rfl)) 3 _ rfl)) 4 _ rfl)) 5 _ rfl)) 6 _ rfl)) 7 _ rfl)) 8 _ rfl)) Try.underlying53 rfl (by kernel_rfl)) rfl ?_
            exact ⟨by first | rfl | (simp [errW_none, errW_some] <;> rfl) | (simp only [← hji57]; first | rfl | (simp [errW_none, errW_some] <;> rfl)) | (simp [*, errW_none, errW_some] <;> rfl), bq⟩
           ·
            rw [if_neg c60] at H
            exact absurd H (by simp)
          ·
           rw [if_neg c59] at H
           exact absurd H (by simp)
         ·
          rw [if_neg c58] at H
          exact absurd H (by simp)
        ·
         rw [if_neg c56] at H
         have c56b0 : (t167 == 6) = false := beq_eq_false_iff_ne.mpr c56
         have c56b1 : (t167 != 6) = true := bne_iff_ne.mpr c56
         simp only [Option.some.injEq, Prod.mk.injEq] at H
         obtain ⟨rfl, rfl, rfl, rfl, rfl, rfl, rfl, rfl, rfl⟩ := H
         have hnb72 := NB170_166.out
         have hnc72 := NB166_170.out
         obtain ⟨hcz73_0, hcz73_1, hcz73_2, hcz73_3, hcz73_4, hcz73_5, hcz73_6, hcz73_7, hcz73_8⟩ := cz9 BK170.out
         obtain ⟨hfz73_0, hfz73_1, hfz73_2, hfz73_3, hfz73_4, hfz73_5, hfz73_6, hfz73_7, hfz73_8⟩ := fz9 BK170.out
         obtain ⟨hcz74_0, hcz74_1, hcz74_2, hcz74_3, hcz74_4, hcz74_5, hcz74_6, hcz74_7, hcz74_8⟩ := cz9 BK166.out
         obtain ⟨hfz74_0, hfz74_1, hfz74_2, hfz74_3, hfz74_4, hfz74_5, hfz74_6, hfz74_7, hfz74_8⟩ := fz9 BK166.out
         go_wp2
         refine bodyPost_ret (results_cell_row rfl _ _ gb166 53 #[.int .i64 3, .int .i64 t168, .bool (t169 == 1), .string ⟨#[101, 110]⟩, .string ⟨#[42]⟩, .string ⟨#[103, 98]⟩, .string ⟨#[101, 110]⟩, .string ⟨#[42]⟩, .string ⟨#[33, 101, 117]⟩] (0, 0) _ rfl (bx (blk_put (cs := #[.int .i64 3, .int .i64 t168, .bool (t169 == 1), .string ⟨#[101, 110]⟩, .string ⟨#[42]⟩, .string ⟨#[103, 98]⟩, .string ⟨#[101, 110]⟩, .string ⟨#[42]⟩, .string ⟨#[]⟩]) (bx (blk_put (cs := #[.int .i64 3, .int .i64 t168, .bool (t169 == 1), .string ⟨#[101, 110]⟩, .string ⟨#[42]⟩, .string ⟨#[103, 98]⟩, .string ⟨#[101, 110]⟩, .string ⟨#[]⟩, .string ⟨#[]⟩]) (bx (blk_put (cs := #[.int .i64 3, .int .i64 t168, .bool (t169 == 1), .string ⟨#[101, 110]⟩, .string ⟨#[42]⟩, .string ⟨#[103, 98]⟩, .string ⟨#[]⟩, .string ⟨#[]⟩, .string ⟨#[]⟩]) (bx (blk_put (cs := #[.int .i64 3, .int .i64 t168, .bool (t169 == 1), .string ⟨#[101, 110]⟩, .string ⟨#[42]⟩, .string ⟨#[]⟩, .string ⟨#[]⟩, .string ⟨#[]⟩, .string ⟨#[]⟩]) (bx (blk_put (cs := #[.int .i64 3, .int .i64 t168, .bool (t169 == 1), .string ⟨#[101, 110]⟩, .string ⟨#[]⟩, .string ⟨#[]⟩, .string ⟨#[]⟩, .string ⟨#[]⟩, .string ⟨#[]⟩]) (bx (blk_put (cs := #[.int .i64 3, .int .i64 t168, .bool (t169 == 1), .string ⟨#[]⟩, .string ⟨#[]⟩, .string ⟨#[]⟩, .string ⟨#[]⟩, .string ⟨#[]⟩, .string ⟨#[]⟩]) (bx (blk_put (cs := #[.int .i64 3, .int .i64 t168, .bool false, .string ⟨#[]⟩, .string ⟨#[]⟩, .string ⟨#[]⟩, .string ⟨#[]⟩, .string ⟨#[]⟩, .string ⟨#[]⟩]) (bx (blk_put (cs := #[.int .i64 3, .int .i64 0, .bool false, .string ⟨#[]⟩, .string ⟨#[]⟩, .string ⟨#[]⟩, .string ⟨#[]⟩, .string ⟨#[]⟩, .string ⟨#[]⟩]) (bx (blk_put (cs := #[.int .i64 0, .int .i64 0, .bool false, .string ⟨#[]⟩, .string ⟨#[]⟩, .string ⟨#[]⟩, .string ⟨#[]⟩, .string ⟨#[]⟩, .string ⟨#[]⟩]) (bx (blk_far (bx (blk_far (bx (blk_far (bx (blk_far (bx (blk_far (bx (blk_far (bx (blk_far (bx BK166.out) NB166_170.out _)) NB166_170.out _)) NB166_170.out _)) NB166_170.out _)) NB166_170.out _)) NB166_170.out _)) NB166_170.out _)) 0 _ rfl)) 1 _ rfl)) 2 _ rfl)) 3 _ rfl)) 4 _ rfl)) 5 _ rfl)) 6 _ rfl)) 7 _ rfl)) 8 _ rfl)) Try.underlying53 rfl (by kernel_rfl)) rfl ?_
         exact ⟨by first | rfl | (simp [errW_none, errW_some] <;> rfl) | (simp [*, errW_none, errW_some] <;> rfl), bq⟩

end Go.Proofs.Ytdjbanhoejegjaa.P
