/- Made by a program of this seat's own (myprint.py, round the kit's print): what the functions compute, and that they do. -/
import Derived.Test.YtdjbanhoejegjaaDpP0
import Derived.Test.YtdjbanhoejegjaaDpP1
import Derived.Test.YtdjbanhoejegjaaDpTight
namespace Go.Proofs.Ytdjbanhoejegjaa.P
open Go.RowKit Go.Proofs.YtdjbanhoejegjaaW.PrintWords Go.Proofs.YtdjbanhoejegjaaW.PrintLast Go.Proofs.YtdjbanhoejegjaaW.PrintMore
attribute [local go_sem] StrOrd.binOp_gtr StrOrd.binOp_leq max2_int min2_int max_two min_two max_three min_three max_four min_four   -- for this text's walks alone
set_option linter.unusedVariables false
set_option linter.unusedSimpArgs false

def isoglossref12_spoilt.f (k : Nat) (a0_0 : Int) (a0_1 : ByteArray) (a0_2 : ByteArray) (a0_3 : ByteArray) (a0_4 : ByteArray) (a0_5 : ByteArray) (a1 : Int) : Option (Int × ByteArray × ByteArray × ByteArray × ByteArray × ByteArray) := if a1 = 1 then ((isoglossref02_Title.f k a0_1).bind fun t157 => (some (a0_0, t157, a0_2, a0_3, a0_4, a0_5))) else (if a1 = 2 then (if a0_2.size + 1 ≤ 9223372036854775807 then (some (a0_0, a0_1, a0_2 ++ (⟨#[120]⟩ : ByteArray), a0_3, a0_4, a0_5)) else (none)) else (if a1 = 3 then (some (a0_0, a0_1, a0_2, (⟨#[]⟩ : ByteArray), (⟨#[]⟩ : ByteArray), (⟨#[]⟩ : ByteArray))) else (if a1 = 4 then (some (8, a0_1, a0_2, a0_3, a0_4, a0_5)) else (if a1 = 5 then (some (a0_0, a0_1, a0_2, (⟨#[97, 98, 99, 100, 101, 102, 103, 104, 105]⟩ : ByteArray), a0_4, a0_5)) else (if a1 = 6 then ((isoglossref12_langs.f).bind fun t158 => ((isoglossref06_Pick.f t158 (a0_1.size : Int)).bind fun t161 => (some (a0_0, a0_1, a0_2, t161, a0_4, a0_5)))) else (some (a0_0, a0_1, a0_2, a0_3, a0_4, a0_5)))))))
set_option maxHeartbeats 8000000 in
set_option maxRecDepth 100000 in
theorem isoglossref12_spoilt.calls (k : Nat) (a0_0 : Int) (a0_1 : ByteArray) (a0_2 : ByteArray) (a0_3 : ByteArray) (a0_4 : ByteArray) (a0_5 : ByteArray) (a1 : Int) (r1 : Int) (r2 : ByteArray) (r3 : ByteArray) (r4 : ByteArray) (r5 : ByteArray) (r6 : ByteArray) (w : World) (h : isoglossref12_spoilt.f k a0_0 a0_1 a0_2 a0_3 a0_4 a0_5 a1 = some (r1, r2, r3, r4, r5, r6)) :
  Calls Try.prog 48 #[.agg #[.int .i64 a0_0, .string a0_1, .string a0_2, .string a0_3, .string a0_4, .string a0_5], .int .i64 a1] w fun e w' => e = .returned (.agg #[.int .i64 r1, .string r2, .string r3, .string r4, .string r5, .string r6]) ∧ Below w.heap.size w w' := by
 have hu59 := Try.underlying59
 have HB := ak (Below.refl w.heap.size w)
 have H : (if a1 = 1 then ((isoglossref02_Title.f k a0_1).bind fun t157 => (some (a0_0, t157, a0_2, a0_3, a0_4, a0_5))) else (if a1 = 2 then (if a0_2.size + 1 ≤ 9223372036854775807 then (some (a0_0, a0_1, a0_2 ++ (⟨#[120]⟩ : ByteArray), a0_3, a0_4, a0_5)) else (none)) else (if a1 = 3 then (some (a0_0, a0_1, a0_2, (⟨#[]⟩ : ByteArray), (⟨#[]⟩ : ByteArray), (⟨#[]⟩ : ByteArray))) else (if a1 = 4 then (some (8, a0_1, a0_2, a0_3, a0_4, a0_5)) else (if a1 = 5 then (some (a0_0, a0_1, a0_2, (⟨#[97, 98, 99, 100, 101, 102, 103, 104, 105]⟩ : ByteArray), a0_4, a0_5)) else (if a1 = 6 then ((isoglossref12_langs.f).bind fun t158 => ((isoglossref06_Pick.f t158 (a0_1.size : Int)).bind fun t161 => (some (a0_0, a0_1, a0_2, t161, a0_4, a0_5)))) else (some (a0_0, a0_1, a0_2, a0_3, a0_4, a0_5)))))))) = some (r1, r2, r3, r4, r5, r6) := h
 clear h
 by_cases c3 : a1 = 1
 ·
  rw [if_pos c3] at H
  have c3b0 : (a1 == 1) = true := beq_iff_eq.mpr c3
  have c3b1 : (a1 != 1) = false := bne_eq_false_iff_eq.mpr c3
  (try (have c3b2 : (a1 : Int).toNat = 1 := by rw [c3]; rfl))
  try have c3b3 : (0 ≤ a1) = True := eq_true (by omega)
  try have c3b4_2 : (a1 < 2) = True := eq_true (by omega)
  try have c3b4_3 : (a1 < 3) = True := eq_true (by omega)
  try have c3b4_5 : (a1 < 5) = True := eq_true (by omega)
  clear c3
  replace H := Option.bind_eq_some_iff.mp H
  obtain ⟨t157, A40, H⟩ := H
  have A4 := ak A40
  clear A40
  simp only [Option.some.injEq, Prod.mk.injEq] at H
  obtain ⟨rfl, rfl, rfl, rfl, rfl, rfl⟩ := H
  go_enter Try.func48, Try.ntmps48
  go_wp2_with (first | ((with_reducible refine gate_dst (N := 2) rfl ?_); refine box_event ?hg (N := 2) ?hd (cs := #[.int .i64 a0_0, .string a0_1, .string a0_2, .string a0_3, .string a0_4, .string a0_5]) (t := 59) ?hr ?_; (case hd => rfl); (case hg => rfl); (case hr => first | (go_simp; done) | (go_simp; rfl)); intro gb155 hg w5 hbox hb; have n0_ := ak (below_step bq hb); have n1_ := ak (hbox); have n2_ := ak ((by rw [hg]; exact (below_size bq) : w.heap.size ≤ gb155)); have n3_ := ak ((by rw [hg]; exact (below_size bq) : w.heap.size ≤ gb155)); clear HB; have HB := n0_; have BK155 := n1_; have GW155 := n2_; have GE155 := n3_; clear n0_ n1_ n2_ n3_; clear hb hbox hg) | ((with_reducible refine gate_dst (N := 4) rfl ?_); refine box_event ?hg (N := 4) ?hd (cs := #[.int .i64 0, .string ⟨#[]⟩, .string ⟨#[]⟩, .string ⟨#[]⟩, .string ⟨#[]⟩, .string ⟨#[]⟩]) (t := 59) ?hr ?_; (case hd => rfl); (case hg => rfl); (case hr => first | (go_simp; done) | (go_simp; rfl)); intro gb156 hg w6 hbox hb; have n0_ := ak (blk_below (g := gb155) (bx BK155.out) hb); have n1_ := ak (below_step bq hb); have n2_ := ak (hbox); have n3_ := ak ((by rw [hg]; exact (below_size bq) : w.heap.size ≤ gb156)); have n4_ := ak ((by rw [hg]; exact (below_size bq) : w.heap.size ≤ gb156)); have n5_ := ak ((by rw [hg]; exact Nat.ne_of_lt (blk_lt (g := gb155) (bx BK155.out)) : gb155 ≠ gb156)); have n6_ := ak ((by rw [hg]; exact Nat.ne_of_gt (blk_lt (g := gb155) (bx BK155.out)) : gb156 ≠ gb155)); clear BK155; clear HB; have BK155 := n0_; have HB := n1_; have BK156 := n2_; have GW156 := n3_; have GE156 := n4_; have NB155_156 := n5_; have NB156_155 := n6_; clear n0_ n1_ n2_ n3_ n4_ n5_ n6_; clear hb hbox hg; have hnb7 := NB155_156.out; have hnc7 := NB156_155.out; obtain ⟨hcz8_0, hcz8_1, hcz8_2, hcz8_3, hcz8_4, hcz8_5⟩ := cz6 BK155.out; obtain ⟨hfz8_0, hfz8_1, hfz8_2, hfz8_3, hfz8_4, hfz8_5⟩ := fz6 BK155.out) | ((with_reducible refine gate_callee (f := 50) rfl ?_); refine goesL_ (some 10) rfl rfl Try.func50 (by kernel_rfl) rfl #[.string a0_1] rfl mq ?_; (with_reducible refine (isoglossref02_Title.calls k a0_1 t157 _ A4.out).mono ?_); rintro e w9 ⟨rfl, hb⟩; refine ⟨_, rfl, ?_⟩; have n0_ := ak (blk_below (g := gb155) (bx BK155.out) hb); have n1_ := ak (blk_below (g := gb156) (bx BK156.out) hb); have n2_ := ak (below_step bq hb); clear BK155; clear BK156; clear HB; have BK155 := n0_; have BK156 := n1_; have HB := n2_; clear n0_ n1_ n2_; (try clear hb); (try clear hb2); (try clear hk); (try clear hi); obtain ⟨hcz10_0, hcz10_1, hcz10_2, hcz10_3, hcz10_4, hcz10_5⟩ := cz6 BK155.out; obtain ⟨hfz10_0, hfz10_1, hfz10_2, hfz10_3, hfz10_4, hfz10_5⟩ := fz6 BK155.out; obtain ⟨hcz11_0, hcz11_1, hcz11_2, hcz11_3, hcz11_4, hcz11_5⟩ := cz6 BK156.out; obtain ⟨hfz11_0, hfz11_1, hfz11_2, hfz11_3, hfz11_4, hfz11_5⟩ := fz6 BK156.out; (try clear A4)))
  refine bodyPost_ret (results_cell_row rfl _ _ gb156 59 #[.int .i64 a0_0, .string t157, .string a0_2, .string a0_3, .string a0_4, .string a0_5] (0, 0) _ rfl (bx (blk_put (cs := #[.int .i64 a0_0, .string t157, .string a0_2, .string a0_3, .string a0_4, .string ⟨#[]⟩]) (bx (blk_put (cs := #[.int .i64 a0_0, .string t157, .string a0_2, .string a0_3, .string ⟨#[]⟩, .string ⟨#[]⟩]) (bx (blk_put (cs := #[.int .i64 a0_0, .string t157, .string a0_2, .string ⟨#[]⟩, .string ⟨#[]⟩, .string ⟨#[]⟩]) (bx (blk_put (cs := #[.int .i64 a0_0, .string t157, .string ⟨#[]⟩, .string ⟨#[]⟩, .string ⟨#[]⟩, .string ⟨#[]⟩]) (bx (blk_put (cs := #[.int .i64 a0_0, .string ⟨#[]⟩, .string ⟨#[]⟩, .string ⟨#[]⟩, .string ⟨#[]⟩, .string ⟨#[]⟩]) (bx (blk_put (cs := #[.int .i64 0, .string ⟨#[]⟩, .string ⟨#[]⟩, .string ⟨#[]⟩, .string ⟨#[]⟩, .string ⟨#[]⟩]) (bx (blk_far (bx BK156.out) NB156_155.out _)) 0 _ rfl)) 1 _ rfl)) 2 _ rfl)) 3 _ rfl)) 4 _ rfl)) 5 _ rfl)) Try.underlying59 rfl (by kernel_rfl)) rfl ?_
  exact ⟨by first | rfl | (simp [errW_none, errW_some] <;> rfl) | (simp [*, errW_none, errW_some] <;> rfl), bq⟩
 ·
  rw [if_neg c3] at H
  have c3b0 : (a1 == 1) = false := beq_eq_false_iff_ne.mpr c3
  have c3b1 : (a1 != 1) = true := bne_iff_ne.mpr c3
  by_cases c12 : a1 = 2
  ·
   rw [if_pos c12] at H
   have c12b0 : (a1 == 2) = true := beq_iff_eq.mpr c12
   have c12b1 : (a1 != 2) = false := bne_eq_false_iff_eq.mpr c12
   (try (have c12b2 : (a1 : Int).toNat = 2 := by rw [c12]; rfl))
   try have c12b3 : (0 ≤ a1) = True := eq_true (by omega)
   try have c12b4_3 : (a1 < 3) = True := eq_true (by omega)
   try have c12b4_5 : (a1 < 5) = True := eq_true (by omega)
   clear c12
   by_cases c13 : a0_2.size + 1 ≤ 9223372036854775807
   ·
    rw [if_pos c13] at H
    have c13b0 := eq_true c13
    have c13b1 : decide (a0_2.size + 1 ≤ 9223372036854775807) = true := decide_eq_true c13
    try have c13b2 : (9223372036854775807 < a0_2.size + 1) = False := eq_false (Nat.not_lt.2 c13)
    simp only [Option.some.injEq, Prod.mk.injEq] at H
    obtain ⟨rfl, rfl, rfl, rfl, rfl, rfl⟩ := H
    go_enter Try.func48, Try.ntmps48
    go_wp2_with (first | ((with_reducible refine gate_dst (N := 2) rfl ?_); refine box_event ?hg (N := 2) ?hd (cs := #[.int .i64 a0_0, .string a0_1, .string a0_2, .string a0_3, .string a0_4, .string a0_5]) (t := 59) ?hr ?_; (case hd => rfl); (case hg => rfl); (case hr => first | (go_simp; done) | (go_simp; rfl)); intro gb155 hg w14 hbox hb; have n0_ := ak (below_step bq hb); have n1_ := ak (hbox); have n2_ := ak ((by rw [hg]; exact (below_size bq) : w.heap.size ≤ gb155)); have n3_ := ak ((by rw [hg]; exact (below_size bq) : w.heap.size ≤ gb155)); clear HB; have HB := n0_; have BK155 := n1_; have GW155 := n2_; have GE155 := n3_; clear n0_ n1_ n2_ n3_; clear hb hbox hg) | ((with_reducible refine gate_dst (N := 4) rfl ?_); refine box_event ?hg (N := 4) ?hd (cs := #[.int .i64 0, .string ⟨#[]⟩, .string ⟨#[]⟩, .string ⟨#[]⟩, .string ⟨#[]⟩, .string ⟨#[]⟩]) (t := 59) ?hr ?_; (case hd => rfl); (case hg => rfl); (case hr => first | (go_simp; done) | (go_simp; rfl)); intro gb156 hg w15 hbox hb; have n0_ := ak (blk_below (g := gb155) (bx BK155.out) hb); have n1_ := ak (below_step bq hb); have n2_ := ak (hbox); have n3_ := ak ((by rw [hg]; exact (below_size bq) : w.heap.size ≤ gb156)); have n4_ := ak ((by rw [hg]; exact (below_size bq) : w.heap.size ≤ gb156)); have n5_ := ak ((by rw [hg]; exact Nat.ne_of_lt (blk_lt (g := gb155) (bx BK155.out)) : gb155 ≠ gb156)); have n6_ := ak ((by rw [hg]; exact Nat.ne_of_gt (blk_lt (g := gb155) (bx BK155.out)) : gb156 ≠ gb155)); clear BK155; clear HB; have BK155 := n0_; have HB := n1_; have BK156 := n2_; have GW156 := n3_; have GE156 := n4_; have NB155_156 := n5_; have NB156_155 := n6_; clear n0_ n1_ n2_ n3_ n4_ n5_ n6_; clear hb hbox hg; have hnb16 := NB155_156.out; have hnc16 := NB156_155.out; obtain ⟨hcz17_0, hcz17_1, hcz17_2, hcz17_3, hcz17_4, hcz17_5⟩ := cz6 BK155.out; obtain ⟨hfz17_0, hfz17_1, hfz17_2, hfz17_3, hfz17_4, hfz17_5⟩ := fz6 BK155.out; obtain ⟨hcz18_0, hcz18_1, hcz18_2, hcz18_3, hcz18_4, hcz18_5⟩ := cz6 BK156.out; obtain ⟨hfz18_0, hfz18_1, hfz18_2, hfz18_3, hfz18_4, hfz18_5⟩ := fz6 BK156.out))
    refine bodyPost_ret (results_cell_row rfl _ _ gb156 59 #[.int .i64 a0_0, .string a0_1, .string (a0_2 ++ (⟨#[120]⟩ : ByteArray)), .string a0_3, .string a0_4, .string a0_5] (0, 0) _ rfl (bx (blk_put (cs := #[.int .i64 a0_0, .string a0_1, .string (a0_2 ++ (⟨#[120]⟩ : ByteArray)), .string a0_3, .string a0_4, .string ⟨#[]⟩]) (bx (blk_put (cs := #[.int .i64 a0_0, .string a0_1, .string (a0_2 ++ (⟨#[120]⟩ : ByteArray)), .string a0_3, .string ⟨#[]⟩, .string ⟨#[]⟩]) (bx (blk_put (cs := #[.int .i64 a0_0, .string a0_1, .string (a0_2 ++ (⟨#[120]⟩ : ByteArray)), .string ⟨#[]⟩, .string ⟨#[]⟩, .string ⟨#[]⟩]) (bx (blk_put (cs := #[.int .i64 a0_0, .string a0_1, .string ⟨#[]⟩, .string ⟨#[]⟩, .string ⟨#[]⟩, .string ⟨#[]⟩]) (bx (blk_put (cs := #[.int .i64 a0_0, .string ⟨#[]⟩, .string ⟨#[]⟩, .string ⟨#[]⟩, .string ⟨#[]⟩, .string ⟨#[]⟩]) (bx (blk_put (cs := #[.int .i64 0, .string ⟨#[]⟩, .string ⟨#[]⟩, .string ⟨#[]⟩, .string ⟨#[]⟩, .string ⟨#[]⟩]) (bx (blk_far (bx BK156.out) NB156_155.out _)) 0 _ rfl)) 1 _ rfl)) 2 _ rfl)) 3 _ rfl)) 4 _ rfl)) 5 _ rfl)) Try.underlying59 rfl (by kernel_rfl)) rfl ?_
    exact ⟨by first | rfl | (simp [errW_none, errW_some] <;> rfl) | (simp [*, errW_none, errW_some] <;> rfl), bq⟩
   ·
    rw [if_neg c13] at H
    exact absurd H (by simp)
  ·
   rw [if_neg c12] at H
   have c12b0 : (a1 == 2) = false := beq_eq_false_iff_ne.mpr c12
   have c12b1 : (a1 != 2) = true := bne_iff_ne.mpr c12
   by_cases c19 : a1 = 3
   ·
    rw [if_pos c19] at H
    have c19b0 : (a1 == 3) = true := beq_iff_eq.mpr c19
    have c19b1 : (a1 != 3) = false := bne_eq_false_iff_eq.mpr c19
    (try (have c19b2 : (a1 : Int).toNat = 3 := by rw [c19]; rfl))
    try have c19b3 : (0 ≤ a1) = True := eq_true (by omega)
    try have c19b4_5 : (a1 < 5) = True := eq_true (by omega)
    clear c19
    simp only [Option.some.injEq, Prod.mk.injEq] at H
    obtain ⟨rfl, rfl, rfl, rfl, rfl, rfl⟩ := H
    go_enter Try.func48, Try.ntmps48
    go_wp2_with (first | ((with_reducible refine gate_dst (N := 2) rfl ?_); refine box_event ?hg (N := 2) ?hd (cs := #[.int .i64 a0_0, .string a0_1, .string a0_2, .string a0_3, .string a0_4, .string a0_5]) (t := 59) ?hr ?_; (case hd => rfl); (case hg => rfl); (case hr => first | (go_simp; done) | (go_simp; rfl)); intro gb155 hg w20 hbox hb; have n0_ := ak (below_step bq hb); have n1_ := ak (hbox); have n2_ := ak ((by rw [hg]; exact (below_size bq) : w.heap.size ≤ gb155)); have n3_ := ak ((by rw [hg]; exact (below_size bq) : w.heap.size ≤ gb155)); clear HB; have HB := n0_; have BK155 := n1_; have GW155 := n2_; have GE155 := n3_; clear n0_ n1_ n2_ n3_; clear hb hbox hg) | ((with_reducible refine gate_dst (N := 4) rfl ?_); refine box_event ?hg (N := 4) ?hd (cs := #[.int .i64 0, .string ⟨#[]⟩, .string ⟨#[]⟩, .string ⟨#[]⟩, .string ⟨#[]⟩, .string ⟨#[]⟩]) (t := 59) ?hr ?_; (case hd => rfl); (case hg => rfl); (case hr => first | (go_simp; done) | (go_simp; rfl)); intro gb156 hg w21 hbox hb; have n0_ := ak (blk_below (g := gb155) (bx BK155.out) hb); have n1_ := ak (below_step bq hb); have n2_ := ak (hbox); have n3_ := ak ((by rw [hg]; exact (below_size bq) : w.heap.size ≤ gb156)); have n4_ := ak ((by rw [hg]; exact (below_size bq) : w.heap.size ≤ gb156)); have n5_ := ak ((by rw [hg]; exact Nat.ne_of_lt (blk_lt (g := gb155) (bx BK155.out)) : gb155 ≠ gb156)); have n6_ := ak ((by rw [hg]; exact Nat.ne_of_gt (blk_lt (g := gb155) (bx BK155.out)) : gb156 ≠ gb155)); clear BK155; clear HB; have BK155 := n0_; have HB := n1_; have BK156 := n2_; have GW156 := n3_; have GE156 := n4_; have NB155_156 := n5_; have NB156_155 := n6_; clear n0_ n1_ n2_ n3_ n4_ n5_ n6_; clear hb hbox hg; have hnb22 := NB155_156.out; have hnc22 := NB156_155.out; obtain ⟨hcz23_0, hcz23_1, hcz23_2, hcz23_3, hcz23_4, hcz23_5⟩ := cz6 BK155.out; obtain ⟨hfz23_0, hfz23_1, hfz23_2, hfz23_3, hfz23_4, hfz23_5⟩ := fz6 BK155.out; obtain ⟨hcz24_0, hcz24_1, hcz24_2, hcz24_3, hcz24_4, hcz24_5⟩ := cz6 BK156.out; obtain ⟨hfz24_0, hfz24_1, hfz24_2, hfz24_3, hfz24_4, hfz24_5⟩ := fz6 BK156.out))
    refine bodyPost_ret (results_cell_row rfl _ _ gb156 59 #[.int .i64 a0_0, .string a0_1, .string a0_2, .string ⟨#[]⟩, .string ⟨#[]⟩, .string ⟨#[]⟩] (0, 0) _ rfl (bx (blk_put (cs := #[.int .i64 a0_0, .string a0_1, .string a0_2, .string ⟨#[]⟩, .string ⟨#[]⟩, .string ⟨#[]⟩]) (bx (blk_put (cs := #[.int .i64 a0_0, .string a0_1, .string a0_2, .string ⟨#[]⟩, .string ⟨#[]⟩, .string ⟨#[]⟩]) (bx (blk_put (cs := #[.int .i64 a0_0, .string a0_1, .string a0_2, .string ⟨#[]⟩, .string ⟨#[]⟩, .string ⟨#[]⟩]) (bx (blk_put (cs := #[.int .i64 a0_0, .string a0_1, .string ⟨#[]⟩, .string ⟨#[]⟩, .string ⟨#[]⟩, .string ⟨#[]⟩]) (bx (blk_put (cs := #[.int .i64 a0_0, .string ⟨#[]⟩, .string ⟨#[]⟩, .string ⟨#[]⟩, .string ⟨#[]⟩, .string ⟨#[]⟩]) (bx (blk_put (cs := #[.int .i64 0, .string ⟨#[]⟩, .string ⟨#[]⟩, .string ⟨#[]⟩, .string ⟨#[]⟩, .string ⟨#[]⟩]) (bx (blk_far (bx (blk_far (bx (blk_far (bx BK156.out) NB156_155.out _)) NB156_155.out _)) NB156_155.out _)) 0 _ rfl)) 1 _ rfl)) 2 _ rfl)) 3 _ rfl)) 4 _ rfl)) 5 _ rfl)) Try.underlying59 rfl (by kernel_rfl)) rfl ?_
    exact ⟨by first | rfl | (simp [errW_none, errW_some] <;> rfl) | (simp [*, errW_none, errW_some] <;> rfl), bq⟩
   ·
    rw [if_neg c19] at H
    have c19b0 : (a1 == 3) = false := beq_eq_false_iff_ne.mpr c19
    have c19b1 : (a1 != 3) = true := bne_iff_ne.mpr c19
    by_cases c25 : a1 = 4
    ·
     rw [if_pos c25] at H
     have c25b0 : (a1 == 4) = true := beq_iff_eq.mpr c25
     have c25b1 : (a1 != 4) = false := bne_eq_false_iff_eq.mpr c25
     (try (have c25b2 : (a1 : Int).toNat = 4 := by rw [c25]; rfl))
     try have c25b3 : (0 ≤ a1) = True := eq_true (by omega)
     try have c25b4_5 : (a1 < 5) = True := eq_true (by omega)
     clear c25
     simp only [Option.some.injEq, Prod.mk.injEq] at H
     obtain ⟨rfl, rfl, rfl, rfl, rfl, rfl⟩ := H
     go_enter Try.func48, Try.ntmps48
     go_wp2_with (first | ((with_reducible refine gate_dst (N := 2) rfl ?_); refine box_event ?hg (N := 2) ?hd (cs := #[.int .i64 a0_0, .string a0_1, .string a0_2, .string a0_3, .string a0_4, .string a0_5]) (t := 59) ?hr ?_; (case hd => rfl); (case hg => rfl); (case hr => first | (go_simp; done) | (go_simp; rfl)); intro gb155 hg w26 hbox hb; have n0_ := ak (below_step bq hb); have n1_ := ak (hbox); have n2_ := ak ((by rw [hg]; exact (below_size bq) : w.heap.size ≤ gb155)); have n3_ := ak ((by rw [hg]; exact (below_size bq) : w.heap.size ≤ gb155)); clear HB; have HB := n0_; have BK155 := n1_; have GW155 := n2_; have GE155 := n3_; clear n0_ n1_ n2_ n3_; clear hb hbox hg) | ((with_reducible refine gate_dst (N := 4) rfl ?_); refine box_event ?hg (N := 4) ?hd (cs := #[.int .i64 0, .string ⟨#[]⟩, .string ⟨#[]⟩, .string ⟨#[]⟩, .string ⟨#[]⟩, .string ⟨#[]⟩]) (t := 59) ?hr ?_; (case hd => rfl); (case hg => rfl); (case hr => first | (go_simp; done) | (go_simp; rfl)); intro gb156 hg w27 hbox hb; have n0_ := ak (blk_below (g := gb155) (bx BK155.out) hb); have n1_ := ak (below_step bq hb); have n2_ := ak (hbox); have n3_ := ak ((by rw [hg]; exact (below_size bq) : w.heap.size ≤ gb156)); have n4_ := ak ((by rw [hg]; exact (below_size bq) : w.heap.size ≤ gb156)); have n5_ := ak ((by rw [hg]; exact Nat.ne_of_lt (blk_lt (g := gb155) (bx BK155.out)) : gb155 ≠ gb156)); have n6_ := ak ((by rw [hg]; exact Nat.ne_of_gt (blk_lt (g := gb155) (bx BK155.out)) : gb156 ≠ gb155)); clear BK155; clear HB; have BK155 := n0_; have HB := n1_; have BK156 := n2_; have GW156 := n3_; have GE156 := n4_; have NB155_156 := n5_; have NB156_155 := n6_; clear n0_ n1_ n2_ n3_ n4_ n5_ n6_; clear hb hbox hg; have hnb28 := NB155_156.out; have hnc28 := NB156_155.out; obtain ⟨hcz29_0, hcz29_1, hcz29_2, hcz29_3, hcz29_4, hcz29_5⟩ := cz6 BK155.out; obtain ⟨hfz29_0, hfz29_1, hfz29_2, hfz29_3, hfz29_4, hfz29_5⟩ := fz6 BK155.out; obtain ⟨hcz30_0, hcz30_1, hcz30_2, hcz30_3, hcz30_4, hcz30_5⟩ := cz6 BK156.out; obtain ⟨hfz30_0, hfz30_1, hfz30_2, hfz30_3, hfz30_4, hfz30_5⟩ := fz6 BK156.out))
     refine bodyPost_ret (results_cell_row rfl _ _ gb156 59 #[.int .i64 8, .string a0_1, .string a0_2, .string a0_3, .string a0_4, .string a0_5] (0, 0) _ rfl (bx (blk_put (cs := #[.int .i64 8, .string a0_1, .string a0_2, .string a0_3, .string a0_4, .string ⟨#[]⟩]) (bx (blk_put (cs := #[.int .i64 8, .string a0_1, .string a0_2, .string a0_3, .string ⟨#[]⟩, .string ⟨#[]⟩]) (bx (blk_put (cs := #[.int .i64 8, .string a0_1, .string a0_2, .string ⟨#[]⟩, .string ⟨#[]⟩, .string ⟨#[]⟩]) (bx (blk_put (cs := #[.int .i64 8, .string a0_1, .string ⟨#[]⟩, .string ⟨#[]⟩, .string ⟨#[]⟩, .string ⟨#[]⟩]) (bx (blk_put (cs := #[.int .i64 8, .string ⟨#[]⟩, .string ⟨#[]⟩, .string ⟨#[]⟩, .string ⟨#[]⟩, .string ⟨#[]⟩]) (bx (blk_put (cs := #[.int .i64 0, .string ⟨#[]⟩, .string ⟨#[]⟩, .string ⟨#[]⟩, .string ⟨#[]⟩, .string ⟨#[]⟩]) (bx (blk_far (bx BK156.out) NB156_155.out _)) 0 _ rfl)) 1 _ rfl)) 2 _ rfl)) 3 _ rfl)) 4 _ rfl)) 5 _ rfl)) Try.underlying59 rfl (by kernel_rfl)) rfl ?_
     exact ⟨by first | rfl | (simp [errW_none, errW_some] <;> rfl) | (simp [*, errW_none, errW_some] <;> rfl), bq⟩
    ·
     rw [if_neg c25] at H
     have c25b0 : (a1 == 4) = false := beq_eq_false_iff_ne.mpr c25
     have c25b1 : (a1 != 4) = true := bne_iff_ne.mpr c25
     by_cases c31 : a1 = 5
     ·
      rw [if_pos c31] at H
      have c31b0 : (a1 == 5) = true := beq_iff_eq.mpr c31
      have c31b1 : (a1 != 5) = false := bne_eq_false_iff_eq.mpr c31
      (try (have c31b2 : (a1 : Int).toNat = 5 := by rw [c31]; rfl))
      try have c31b3 : (0 ≤ a1) = True := eq_true (by omega)
      clear c31
      simp only [Option.some.injEq, Prod.mk.injEq] at H
      obtain ⟨rfl, rfl, rfl, rfl, rfl, rfl⟩ := H
      go_enter Try.func48, Try.ntmps48
      go_wp2_with (first | ((with_reducible refine gate_dst (N := 2) rfl ?_); refine box_event ?hg (N := 2) ?hd (cs := #[.int .i64 a0_0, .string a0_1, .string a0_2, .string a0_3, .string a0_4, .string a0_5]) (t := 59) ?hr ?_; (case hd => rfl); (case hg => rfl); (case hr => first | (go_simp; done) | (go_simp; rfl)); intro gb155 hg w32 hbox hb; have n0_ := ak (below_step bq hb); have n1_ := ak (hbox); have n2_ := ak ((by rw [hg]; exact (below_size bq) : w.heap.size ≤ gb155)); have n3_ := ak ((by rw [hg]; exact (below_size bq) : w.heap.size ≤ gb155)); clear HB; have HB := n0_; have BK155 := n1_; have GW155 := n2_; have GE155 := n3_; clear n0_ n1_ n2_ n3_; clear hb hbox hg) | ((with_reducible refine gate_dst (N := 4) rfl ?_); refine box_event ?hg (N := 4) ?hd (cs := #[.int .i64 0, .string ⟨#[]⟩, .string ⟨#[]⟩, .string ⟨#[]⟩, .string ⟨#[]⟩, .string ⟨#[]⟩]) (t := 59) ?hr ?_; (case hd => rfl); (case hg => rfl); (case hr => first | (go_simp; done) | (go_simp; rfl)); intro gb156 hg w33 hbox hb; have n0_ := ak (blk_below (g := gb155) (bx BK155.out) hb); have n1_ := ak (below_step bq hb); have n2_ := ak (hbox); have n3_ := ak ((by rw [hg]; exact (below_size bq) : w.heap.size ≤ gb156)); have n4_ := ak ((by rw [hg]; exact (below_size bq) : w.heap.size ≤ gb156)); have n5_ := ak ((by rw [hg]; exact Nat.ne_of_lt (blk_lt (g := gb155) (bx BK155.out)) : gb155 ≠ gb156)); have n6_ := ak ((by rw [hg]; exact Nat.ne_of_gt (blk_lt (g := gb155) (bx BK155.out)) : gb156 ≠ gb155)); clear BK155; clear HB; have BK155 := n0_; have HB := n1_; have BK156 := n2_; have GW156 := n3_; have GE156 := n4_; have NB155_156 := n5_; have NB156_155 := n6_; clear n0_ n1_ n2_ n3_ n4_ n5_ n6_; clear hb hbox hg; have hnb34 := NB155_156.out; have hnc34 := NB156_155.out; obtain ⟨hcz35_0, hcz35_1, hcz35_2, hcz35_3, hcz35_4, hcz35_5⟩ := cz6 BK155.out; obtain ⟨hfz35_0, hfz35_1, hfz35_2, hfz35_3, hfz35_4, hfz35_5⟩ := fz6 BK155.out; obtain ⟨hcz36_0, hcz36_1, hcz36_2, hcz36_3, hcz36_4, hcz36_5⟩ := cz6 BK156.out; obtain ⟨hfz36_0, hfz36_1, hfz36_2, hfz36_3, hfz36_4, hfz36_5⟩ := fz6 BK156.out))
      refine bodyPost_ret (results_cell_row rfl _ _ gb156 59 #[.int .i64 a0_0, .string a0_1, .string a0_2, .string ⟨#[97, 98, 99, 100, 101, 102, 103, 104, 105]⟩, .string a0_4, .string a0_5] (0, 0) _ rfl (bx (blk_put (cs := #[.int .i64 a0_0, .string a0_1, .string a0_2, .string ⟨#[97, 98, 99, 100, 101, 102, 103, 104, 105]⟩, .string a0_4, .string ⟨#[]⟩]) (bx (blk_put (cs := #[.int .i64 a0_0, .string a0_1, .string a0_2, .string ⟨#[97, 98, 99, 100, 101, 102, 103, 104, 105]⟩, .string ⟨#[]⟩, .string ⟨#[]⟩]) (bx (blk_put (cs := #[.int .i64 a0_0, .string a0_1, .string a0_2, .string ⟨#[]⟩, .string ⟨#[]⟩, .string ⟨#[]⟩]) (bx (blk_put (cs := #[.int .i64 a0_0, .string a0_1, .string ⟨#[]⟩, .string ⟨#[]⟩, .string ⟨#[]⟩, .string ⟨#[]⟩]) (bx (blk_put (cs := #[.int .i64 a0_0, .string ⟨#[]⟩, .string ⟨#[]⟩, .string ⟨#[]⟩, .string ⟨#[]⟩, .string ⟨#[]⟩]) (bx (blk_put (cs := #[.int .i64 0, .string ⟨#[]⟩, .string ⟨#[]⟩, .string ⟨#[]⟩, .string ⟨#[]⟩, .string ⟨#[]⟩]) (bx (blk_far (bx BK156.out) NB156_155.out _)) 0 _ rfl)) 1 _ rfl)) 2 _ rfl)) 3 _ rfl)) 4 _ rfl)) 5 _ rfl)) Try.underlying59 rfl (by kernel_rfl)) rfl ?_
      exact ⟨by first | rfl | (simp [errW_none, errW_some] <;> rfl) | (simp [*, errW_none, errW_some] <;> rfl), bq⟩
     ·
      rw [if_neg c31] at H
      have c31b0 : (a1 == 5) = false := beq_eq_false_iff_ne.mpr c31
      have c31b1 : (a1 != 5) = true := bne_iff_ne.mpr c31
      by_cases c37 : a1 = 6
      ·
       rw [if_pos c37] at H
       have c37b0 : (a1 == 6) = true := beq_iff_eq.mpr c37
       have c37b1 : (a1 != 6) = false := bne_eq_false_iff_eq.mpr c37
       (try (have c37b2 : (a1 : Int).toNat = 6 := by rw [c37]; rfl))
       try have c37b3 : (0 ≤ a1) = True := eq_true (by omega)
       clear c37
       replace H := Option.bind_eq_some_iff.mp H
       obtain ⟨t158, A380, H⟩ := H
       have A38 := ak A380
       clear A380
       replace H := Option.bind_eq_some_iff.mp H
       obtain ⟨t161, A390, H⟩ := H
       have A39 := ak A390
       clear A390
       simp only [Option.some.injEq, Prod.mk.injEq] at H
       obtain ⟨rfl, rfl, rfl, rfl, rfl, rfl⟩ := H
       go_enter Try.func48, Try.ntmps48
       try go_wp2_with (first | ((with_reducible refine gate_dst (N := 2) rfl ?_); refine box_event ?hg (N := 2) ?hd (cs := #[.int .i64 a0_0, .string a0_1, .string a0_2, .string a0_3, .string a0_4, .string a0_5]) (t := 59) ?hr ?_; (case hd => rfl); (case hg => rfl); (case hr => first | (go_simp; done) | (go_simp; rfl)); intro gb155 hg w40 hbox hb; have n0_ := ak (below_step bq hb); have n1_ := ak (hbox); have n2_ := ak ((by rw [hg]; exact (below_size bq) : w.heap.size ≤ gb155)); have n3_ := ak ((by rw [hg]; exact (below_size bq) : w.heap.size ≤ gb155)); clear HB; have HB := n0_; have BK155 := n1_; have GW155 := n2_; have GE155 := n3_; clear n0_ n1_ n2_ n3_; clear hb hbox hg) | ((with_reducible refine gate_dst (N := 4) rfl ?_); refine box_event ?hg (N := 4) ?hd (cs := #[.int .i64 0, .string ⟨#[]⟩, .string ⟨#[]⟩, .string ⟨#[]⟩, .string ⟨#[]⟩, .string ⟨#[]⟩]) (t := 59) ?hr ?_; (case hd => rfl); (case hg => rfl); (case hr => first | (go_simp; done) | (go_simp; rfl)); intro gb156 hg w41 hbox hb; have n0_ := ak (blk_below (g := gb155) (bx BK155.out) hb); have n1_ := ak (below_step bq hb); have n2_ := ak (hbox); have n3_ := ak ((by rw [hg]; exact (below_size bq) : w.heap.size ≤ gb156)); have n4_ := ak ((by rw [hg]; exact (below_size bq) : w.heap.size ≤ gb156)); have n5_ := ak ((by rw [hg]; exact Nat.ne_of_lt (blk_lt (g := gb155) (bx BK155.out)) : gb155 ≠ gb156)); have n6_ := ak ((by rw [hg]; exact Nat.ne_of_gt (blk_lt (g := gb155) (bx BK155.out)) : gb156 ≠ gb155)); clear BK155; clear HB; have BK155 := n0_; have HB := n1_; have BK156 := n2_; have GW156 := n3_; have GE156 := n4_; have NB155_156 := n5_; have NB156_155 := n6_; clear n0_ n1_ n2_ n3_ n4_ n5_ n6_; clear hb hbox hg))
       have n0_ := ak (blk_drew BK155.out)
       have n1_ := ak (blk_drew BK156.out)
       have n2_ := ak (below_drew1 HB.out)
       clear BK155
       clear BK156
       clear HB
       have BK155 := n0_
       have BK156 := n1_
       have HB := n2_
       clear n0_ n1_ n2_
       refine start_ (n := 7) (S := fun w' => w'.cell? ⟨gb155, 0, none⟩ = some (.int .i64 a0_0) ∧ w'.cell? ⟨gb155, 1, none⟩ = some (.string a0_1) ∧ w'.cell? ⟨gb155, 2, none⟩ = some (.string a0_2) ∧ w'.cell? ⟨gb155, 3, none⟩ = some (.string a0_3) ∧ w'.cell? ⟨gb155, 4, none⟩ = some (.string a0_4) ∧ w'.cell? ⟨gb155, 5, none⟩ = some (.string a0_5)) (ds := [6]) #[false, false, false, false, false, false, false] (by kernel_rfl) rfl rfl ⟨(blk_cell BK155.out 0).trans rfl, (blk_cell BK155.out 1).trans rfl, (blk_cell BK155.out 2).trans rfl, (blk_cell BK155.out 3).trans rfl, (blk_cell BK155.out 4).trans rfl, (blk_cell BK155.out 5).trans rfl⟩ (fun hHeld => ?_)
       generalize w41.drew = w42 at BK155 BK156 HB hHeld ⊢
       refine pure_ (i := 1) (N := some 32) (v := ?_) (a' := ?_) (M 7 2) rfl rfl (by kernel_rfl) (fun _ _ _ h => h) (Or.inl ⟨by rfl, ?_⟩) ?_ ?_
       rotate_left
       ·
        intro w'
        go_simp
        with_reducible rfl
       rotate_left
       ·
        simp only [Act.put, pA, pB, pC, i64_w, i32_w]
        rfl
       refine take_ (i := 2) (N := some 33) (v := ?_) (a' := ?_) (M 7 6) rfl rfl (by kernel_rfl) (fun _ _ _ h => h) (Or.inl ⟨by rfl, ?_⟩) hHeld ?_ ?_
       rotate_left
       ·
        rintro w' ⟨s0, s1, s2, s3, s4, s5⟩
        go_simp
        with_reducible rfl
       rotate_left
       ·
        simp only [Act.put, pA, pB, pC, i64_w, i32_w]
        rfl
       refine pure_ (i := 3) (N := some 34) (v := ?_) (a' := ?_) (M 7 14) rfl rfl (by kernel_rfl) (fun _ _ _ h => h) (Or.inl ⟨by rfl, ?_⟩) ?_ ?_
       rotate_left
       ·
        intro w'
        go_simp
        with_reducible rfl
       rotate_left
       ·
        simp only [Act.put, pA, pB, pC, i64_w, i32_w]
        rfl
       refine one_ (i := 0) (N := some 31) (M 7 15) rfl rfl (by kernel_rfl) (by decide) (fun K hK => ?_)
       refine goes_ Try.func43 (by kernel_rfl) rfl #[] (by rfl) rfl rfl mq ?_
       with_reducible refine (isoglossref12_langs.calls  t158 _ A38.out).mono ?_
       rintro e w43 ⟨v159, rfl, ho0, hb⟩
       refine ⟨_, rfl, ?_⟩
       have n0_ := ak (Kd.R_lower ho0 (below_size bq))
       have n1_ := ak (blk_below (g := gb155) (bx BK155.out) hb)
       have n2_ := ak (blk_below (g := gb156) (bx BK156.out) hb)
       have n3_ := ak (below_step bq hb)
       clear BK155
       clear BK156
       clear HB
       have HO160 := n0_
       have BK155 := n1_
       have BK156 := n2_
       have HB := n3_
       clear n0_ n1_ n2_ n3_
       (try clear hb)
       (try clear hb2)
       (try clear hk)
       (try clear hi)
       (try clear ho0)
       obtain ⟨Ao44, co44, eo44⟩ := Kd.R_slice HO160.out
       (first | subst eo44 | (injection eo44 with f1_ f2_ f3_; have f4_ := f1_.symm; have f5_ := f3_.symm; clear f1_ f2_ f3_; subst f4_; subst f5_))
       refine hK.out _ _ ⟨(blk_cell BK155.out 0).trans rfl, (blk_cell BK155.out 1).trans rfl, (blk_cell BK155.out 2).trans rfl, (blk_cell BK155.out 3).trans rfl, (blk_cell BK155.out 4).trans rfl, (blk_cell BK155.out 5).trans rfl⟩ (fun hHeld => ?_)
       clear hK K
       refine norm_ (a' := ?_) ?_ ?_
       rotate_left
       ·
        show Act.put _ (some 31) _ = _
        simp only [Act.put, pA, pB, pC, i64_w, i32_w]
        rfl
       refine one_ (i := 4) (N := some 35) (M 7 31) rfl rfl (by kernel_rfl) (by decide) (fun K hK => ?_)
       refine goes_ Try.func25 (by kernel_rfl) rfl #[.slice Ao44 t158.length co44, .int .i64 (a0_1.size : Int)] (by rfl) rfl rfl mq ?_
       with_reducible refine (isoglossref06_Pick.calls _ _ t158 (a0_1.size : Int) t161 _ ?side1 ?side2 A39.out).mono ?_
       (case side1 => repeat (first | exact (Kd.R_reads' HO160.out).2.2 | (with_reducible refine Kd.C_alloc ?_ _) | (with_reducible refine Kd.C_drewN ?_ _) | (with_reducible refine Kd.C_drew ?_)))
       (case side2 => exact (Kd.R_reads' HO160.out).2.1)
       rintro e w' ⟨rfl, ⟨nd, rfl⟩⟩
       refine ⟨_, rfl, ?_⟩
       refine hK.out _ _ ⟨(blk_cell BK155.out 0).trans rfl, (blk_cell BK155.out 1).trans rfl, (blk_cell BK155.out 2).trans rfl, (blk_cell BK155.out 3).trans rfl, (blk_cell BK155.out 4).trans rfl, (blk_cell BK155.out 5).trans rfl⟩ (fun hHeld => ?_)
       clear hK K
       refine norm_ (a' := ?_) ?_ ?_
       rotate_left
       ·
        show Act.put _ (some 35) _ = _
        simp only [Act.put, pA, pB, pC, i64_w, i32_w]
        rfl
       refine pure_ (i := 5) (N := some 36) (v := ?_) (a' := ?_) (M 7 63) rfl rfl (by kernel_rfl) (fun _ _ _ h => h) (Or.inl ⟨by rfl, ?_⟩) ?_ ?_
       rotate_left
       ·
        intro w'
        go_simp
        with_reducible rfl
       rotate_left
       ·
        simp only [Act.put, pA, pB, pC, i64_w, i32_w]
        rfl
       refine last_ (i := 6) (N := none) (M 7 127) rfl rfl (by kernel_rfl) (by decide) (fun K hK => ?_)
       have hs45 : w43.cell? ⟨gb155, 3, none⟩ = some (.string a0_3) := (blk_cell BK155.out 3).trans rfl
       have hfs45 := blk_frozen BK155.out 3
       have hns45_1 := NB156_155.out
       have hms45_1 := NB155_156.out
       refine skip_ (w1 := ?_) (by rfl) rfl ?_ ?_
       rotate_left
       ·
        go_simp
        rfl
       refine hK.out _ _ ?_
       clear hK K
       refine done_ (by kernel_rfl) ?_
       have hnb46 := NB155_156.out
       have hnc46 := NB156_155.out
       obtain ⟨hcz47_0, hcz47_1, hcz47_2, hcz47_3, hcz47_4, hcz47_5⟩ := cz6 BK155.out
       obtain ⟨hfz47_0, hfz47_1, hfz47_2, hfz47_3, hfz47_4, hfz47_5⟩ := fz6 BK155.out
       obtain ⟨hcz48_0, hcz48_1, hcz48_2, hcz48_3, hcz48_4, hcz48_5⟩ := cz6 BK156.out
       obtain ⟨hfz48_0, hfz48_1, hfz48_2, hfz48_3, hfz48_4, hfz48_5⟩ := fz6 BK156.out
       try go_wp2
       refine bodyPost_ret (results_cell_row rfl _ _ gb156 59 #[.int .i64 a0_0, .string a0_1, .string a0_2, .string t161, .string a0_4, .string a0_5] (0, 0) _ rfl (bx (blk_put (cs := #[.int .i64 a0_0, .string a0_1, .string a0_2, .string t161, .string a0_4, .string ⟨#[]⟩]) (bx (blk_put (cs := #[.int .i64 a0_0, .string a0_1, .string a0_2, .string t161, .string ⟨#[]⟩, .string ⟨#[]⟩]) (bx (blk_put (cs := #[.int .i64 a0_0, .string a0_1, .string a0_2, .string ⟨#[]⟩, .string ⟨#[]⟩, .string ⟨#[]⟩]) (bx (blk_put (cs := #[.int .i64 a0_0, .string a0_1, .string ⟨#[]⟩, .string ⟨#[]⟩, .string ⟨#[]⟩, .string ⟨#[]⟩]) (bx (blk_put (cs := #[.int .i64 a0_0, .string ⟨#[]⟩, .string ⟨#[]⟩, .string ⟨#[]⟩, .string ⟨#[]⟩, .string ⟨#[]⟩]) (bx (blk_put (cs := #[.int .i64 0, .string ⟨#[]⟩, .string ⟨#[]⟩, .string ⟨#[]⟩, .string ⟨#[]⟩, .string ⟨#[]⟩]) (bx (blk_far (bx BK156.out) NB156_155.out _)) 0 _ rfl)) 1 _ rfl)) 2 _ rfl)) 3 _ rfl)) 4 _ rfl)) 5 _ rfl)) Try.underlying59 rfl (by kernel_rfl)) rfl ?_
       exact ⟨by first | rfl | (simp [errW_none, errW_some] <;> rfl) | (simp [*, errW_none, errW_some] <;> rfl), bq⟩
      ·
       rw [if_neg c37] at H
       have c37b0 : (a1 == 6) = false := beq_eq_false_iff_ne.mpr c37
       have c37b1 : (a1 != 6) = true := bne_iff_ne.mpr c37
       simp only [Option.some.injEq, Prod.mk.injEq] at H
       obtain ⟨rfl, rfl, rfl, rfl, rfl, rfl⟩ := H
       go_enter Try.func48, Try.ntmps48
       go_wp2_with (first | ((with_reducible refine gate_dst (N := 2) rfl ?_); refine box_event ?hg (N := 2) ?hd (cs := #[.int .i64 a0_0, .string a0_1, .string a0_2, .string a0_3, .string a0_4, .string a0_5]) (t := 59) ?hr ?_; (case hd => rfl); (case hg => rfl); (case hr => first | (go_simp; done) | (go_simp; rfl)); intro gb155 hg w49 hbox hb; have n0_ := ak (below_step bq hb); have n1_ := ak (hbox); have n2_ := ak ((by rw [hg]; exact (below_size bq) : w.heap.size ≤ gb155)); have n3_ := ak ((by rw [hg]; exact (below_size bq) : w.heap.size ≤ gb155)); clear HB; have HB := n0_; have BK155 := n1_; have GW155 := n2_; have GE155 := n3_; clear n0_ n1_ n2_ n3_; clear hb hbox hg) | ((with_reducible refine gate_dst (N := 4) rfl ?_); refine box_event ?hg (N := 4) ?hd (cs := #[.int .i64 0, .string ⟨#[]⟩, .string ⟨#[]⟩, .string ⟨#[]⟩, .string ⟨#[]⟩, .string ⟨#[]⟩]) (t := 59) ?hr ?_; (case hd => rfl); (case hg => rfl); (case hr => first | (go_simp; done) | (go_simp; rfl)); intro gb156 hg w50 hbox hb; have n0_ := ak (blk_below (g := gb155) (bx BK155.out) hb); have n1_ := ak (below_step bq hb); have n2_ := ak (hbox); have n3_ := ak ((by rw [hg]; exact (below_size bq) : w.heap.size ≤ gb156)); have n4_ := ak ((by rw [hg]; exact (below_size bq) : w.heap.size ≤ gb156)); have n5_ := ak ((by rw [hg]; exact Nat.ne_of_lt (blk_lt (g := gb155) (bx BK155.out)) : gb155 ≠ gb156)); have n6_ := ak ((by rw [hg]; exact Nat.ne_of_gt (blk_lt (g := gb155) (bx BK155.out)) : gb156 ≠ gb155)); clear BK155; clear HB; have BK155 := n0_; have HB := n1_; have BK156 := n2_; have GW156 := n3_; have GE156 := n4_; have NB155_156 := n5_; have NB156_155 := n6_; clear n0_ n1_ n2_ n3_ n4_ n5_ n6_; clear hb hbox hg; have hnb51 := NB155_156.out; have hnc51 := NB156_155.out; obtain ⟨hcz52_0, hcz52_1, hcz52_2, hcz52_3, hcz52_4, hcz52_5⟩ := cz6 BK155.out; obtain ⟨hfz52_0, hfz52_1, hfz52_2, hfz52_3, hfz52_4, hfz52_5⟩ := fz6 BK155.out; obtain ⟨hcz53_0, hcz53_1, hcz53_2, hcz53_3, hcz53_4, hcz53_5⟩ := cz6 BK156.out; obtain ⟨hfz53_0, hfz53_1, hfz53_2, hfz53_3, hfz53_4, hfz53_5⟩ := fz6 BK156.out))
       refine bodyPost_ret (results_cell_row rfl _ _ gb156 59 #[.int .i64 a0_0, .string a0_1, .string a0_2, .string a0_3, .string a0_4, .string a0_5] (0, 0) _ rfl (bx (blk_put (cs := #[.int .i64 a0_0, .string a0_1, .string a0_2, .string a0_3, .string a0_4, .string ⟨#[]⟩]) (bx (blk_put (cs := #[.int .i64 a0_0, .string a0_1, .string a0_2, .string a0_3, .string ⟨#[]⟩, .string ⟨#[]⟩]) (bx (blk_put (cs := #[.int .i64 a0_0, .string a0_1, .string a0_2, .string ⟨#[]⟩, .string ⟨#[]⟩, .string ⟨#[]⟩]) (bx (blk_put (cs := #[.int .i64 a0_0, .string a0_1, .string ⟨#[]⟩, .string ⟨#[]⟩, .string ⟨#[]⟩, .string ⟨#[]⟩]) (bx (blk_put (cs := #[.int .i64 a0_0, .string ⟨#[]⟩, .string ⟨#[]⟩, .string ⟨#[]⟩, .string ⟨#[]⟩, .string ⟨#[]⟩]) (bx (blk_put (cs := #[.int .i64 0, .string ⟨#[]⟩, .string ⟨#[]⟩, .string ⟨#[]⟩, .string ⟨#[]⟩, .string ⟨#[]⟩]) (bx BK156.out) 0 _ rfl)) 1 _ rfl)) 2 _ rfl)) 3 _ rfl)) 4 _ rfl)) 5 _ rfl)) Try.underlying59 rfl (by kernel_rfl)) rfl ?_
       exact ⟨by first | rfl | (simp [errW_none, errW_some] <;> rfl) | (simp [*, errW_none, errW_some] <;> rfl), bq⟩

def isoglossref12_order.f (a0 : ByteArray) (a1 : ByteArray) : Option (Int) := if (Op.bytesLess a0.toList a1.toList) = true then (some (-1)) else (if (Op.bytesLess a1.toList a0.toList) = true then (some 1) else (some 0))
set_option maxHeartbeats 8000000 in
set_option maxRecDepth 100000 in
theorem isoglossref12_order.calls (a0 : ByteArray) (a1 : ByteArray) (r : Int) (w : World) (h : isoglossref12_order.f a0 a1 = some r) :
  Calls Try.prog 49 #[.string a0, .string a1] w fun e w' => e = .returned (.int .i64 r) ∧ Drawn0 w w' := by
 have H : (if (Op.bytesLess a0.toList a1.toList) = true then (some (-1)) else (if (Op.bytesLess a1.toList a0.toList) = true then (some 1) else (some 0))) = some r := h
 clear h
 by_cases c3 : (Op.bytesLess a0.toList a1.toList) = true
 ·
  rw [if_pos c3] at H
  have c3b0 : (Op.bytesLess a0.toList a1.toList) = true := c3
  clear c3
  obtain rfl := Option.some.inj H
  go_enter Try.func49, Try.ntmps49
  go_wp2
  go_ret
  exact ⟨by first | rfl | (simp; done) | (simp [*]; done), by repeat (first | exact Drawn0.refl _ | apply Drawn0.step)⟩
 ·
  rw [if_neg c3] at H
  have c3b0 : (Op.bytesLess a0.toList a1.toList) = false := by simpa using c3
  clear c3
  by_cases c4 : (Op.bytesLess a1.toList a0.toList) = true
  ·
   rw [if_pos c4] at H
   have c4b0 : (Op.bytesLess a1.toList a0.toList) = true := c4
   clear c4
   obtain rfl := Option.some.inj H
   go_enter Try.func49, Try.ntmps49
   go_wp2
   go_ret
   exact ⟨by first | rfl | (simp; done) | (simp [*]; done), by repeat (first | exact Drawn0.refl _ | apply Drawn0.step)⟩
  ·
   rw [if_neg c4] at H
   have c4b0 : (Op.bytesLess a1.toList a0.toList) = false := by simpa using c4
   clear c4
   obtain rfl := Option.some.inj H
   go_enter Try.func49, Try.ntmps49
   go_wp2
   go_ret
   exact ⟨by first | rfl | (simp; done) | (simp [*]; done), by repeat (first | exact Drawn0.refl _ | apply Drawn0.step)⟩

def isoglossref12_Compare.f (a0_0 : Int) (a0_1 : ByteArray) (a0_2 : ByteArray) (a0_3 : ByteArray) (a0_4 : ByteArray) (a0_5 : ByteArray) (a1_0 : Int) (a1_1 : ByteArray) (a1_2 : ByteArray) (a1_3 : ByteArray) (a1_4 : ByteArray) (a1_5 : ByteArray) : Option (Int) := if a0_0 < a1_0 then (some (-1)) else (if a0_0 > a1_0 then (some 1) else ((isoglossref12_order.f a0_1 a1_1).bind fun t164 => (if t164 = 0 then ((isoglossref12_order.f a0_2 a1_2).bind fun t165 => (some t165)) else (some t164))))
set_option maxHeartbeats 8000000 in
set_option maxRecDepth 100000 in
theorem isoglossref12_Compare.calls (a0_0 : Int) (a0_1 : ByteArray) (a0_2 : ByteArray) (a0_3 : ByteArray) (a0_4 : ByteArray) (a0_5 : ByteArray) (a1_0 : Int) (a1_1 : ByteArray) (a1_2 : ByteArray) (a1_3 : ByteArray) (a1_4 : ByteArray) (a1_5 : ByteArray) (r : Int) (w : World) (h : isoglossref12_Compare.f a0_0 a0_1 a0_2 a0_3 a0_4 a0_5 a1_0 a1_1 a1_2 a1_3 a1_4 a1_5 = some r) :
  Calls Try.prog 22 #[.agg #[.int .i64 a0_0, .string a0_1, .string a0_2, .string a0_3, .string a0_4, .string a0_5], .agg #[.int .i64 a1_0, .string a1_1, .string a1_2, .string a1_3, .string a1_4, .string a1_5]] w fun e w' => e = .returned (.int .i64 r) ∧ Below w.heap.size w w' := by
 have hu59 := Try.underlying59
 have HB := ak (Below.refl w.heap.size w)
 have H : (if a0_0 < a1_0 then (some (-1)) else (if a0_0 > a1_0 then (some 1) else ((isoglossref12_order.f a0_1 a1_1).bind fun t164 => (if t164 = 0 then ((isoglossref12_order.f a0_2 a1_2).bind fun t165 => (some t165)) else (some t164))))) = some r := h
 clear h
 by_cases c3 : a0_0 < a1_0
 ·
  rw [if_pos c3] at H
  have c3b0 : decide (a0_0 < a1_0) = true := decide_eq_true c3
  clear c3
  obtain rfl := Option.some.inj H
  go_enter Try.func22, Try.ntmps22
  go_wp2_with (first | ((with_reducible refine gate_dst (N := 2) rfl ?_); refine box_event ?hg (N := 2) ?hd (cs := #[.int .i64 a0_0, .string a0_1, .string a0_2, .string a0_3, .string a0_4, .string a0_5]) (t := 59) ?hr ?_; (case hd => rfl); (case hg => rfl); (case hr => first | (go_simp; done) | (go_simp; rfl)); intro gb162 hg w4 hbox hb; have n0_ := ak (below_step bq hb); have n1_ := ak (hbox); have n2_ := ak ((by rw [hg]; exact (below_size bq) : w.heap.size ≤ gb162)); have n3_ := ak ((by rw [hg]; exact (below_size bq) : w.heap.size ≤ gb162)); clear HB; have HB := n0_; have BK162 := n1_; have GW162 := n2_; have GE162 := n3_; clear n0_ n1_ n2_ n3_; clear hb hbox hg) | ((with_reducible refine gate_dst (N := 3) rfl ?_); refine box_event ?hg (N := 3) ?hd (cs := #[.int .i64 a1_0, .string a1_1, .string a1_2, .string a1_3, .string a1_4, .string a1_5]) (t := 59) ?hr ?_; (case hd => rfl); (case hg => rfl); (case hr => first | (go_simp; done) | (go_simp; rfl)); intro gb163 hg w5 hbox hb; have n0_ := ak (blk_below (g := gb162) (bx BK162.out) hb); have n1_ := ak (below_step bq hb); have n2_ := ak (hbox); have n3_ := ak ((by rw [hg]; exact (below_size bq) : w.heap.size ≤ gb163)); have n4_ := ak ((by rw [hg]; exact (below_size bq) : w.heap.size ≤ gb163)); have n5_ := ak ((by rw [hg]; exact Nat.ne_of_lt (blk_lt (g := gb162) (bx BK162.out)) : gb162 ≠ gb163)); have n6_ := ak ((by rw [hg]; exact Nat.ne_of_gt (blk_lt (g := gb162) (bx BK162.out)) : gb163 ≠ gb162)); clear BK162; clear HB; have BK162 := n0_; have HB := n1_; have BK163 := n2_; have GW163 := n3_; have GE163 := n4_; have NB162_163 := n5_; have NB163_162 := n6_; clear n0_ n1_ n2_ n3_ n4_ n5_ n6_; clear hb hbox hg; have hnb6 := NB162_163.out; have hnc6 := NB163_162.out; obtain ⟨hcz7_0, hcz7_1, hcz7_2, hcz7_3, hcz7_4, hcz7_5⟩ := cz6 BK162.out; obtain ⟨hfz7_0, hfz7_1, hfz7_2, hfz7_3, hfz7_4, hfz7_5⟩ := fz6 BK162.out; obtain ⟨hcz8_0, hcz8_1, hcz8_2, hcz8_3, hcz8_4, hcz8_5⟩ := cz6 BK163.out; obtain ⟨hfz8_0, hfz8_1, hfz8_2, hfz8_3, hfz8_4, hfz8_5⟩ := fz6 BK163.out))
  go_ret
  exact ⟨by first | rfl | (simp [errW_none, errW_some] <;> rfl) | (simp [*, errW_none, errW_some] <;> rfl), bq⟩
 ·
  rw [if_neg c3] at H
  have c3b0 : decide (a0_0 < a1_0) = false := decide_eq_false c3
  clear c3
  by_cases c9 : a0_0 > a1_0
  ·
   rw [if_pos c9] at H
   have c9b0 : decide (a1_0 < a0_0) = true := decide_eq_true c9
   clear c9
   obtain rfl := Option.some.inj H
   go_enter Try.func22, Try.ntmps22
   go_wp2_with (first | ((with_reducible refine gate_dst (N := 2) rfl ?_); refine box_event ?hg (N := 2) ?hd (cs := #[.int .i64 a0_0, .string a0_1, .string a0_2, .string a0_3, .string a0_4, .string a0_5]) (t := 59) ?hr ?_; (case hd => rfl); (case hg => rfl); (case hr => first | (go_simp; done) | (go_simp; rfl)); intro gb162 hg w10 hbox hb; have n0_ := ak (below_step bq hb); have n1_ := ak (hbox); have n2_ := ak ((by rw [hg]; exact (below_size bq) : w.heap.size ≤ gb162)); have n3_ := ak ((by rw [hg]; exact (below_size bq) : w.heap.size ≤ gb162)); clear HB; have HB := n0_; have BK162 := n1_; have GW162 := n2_; have GE162 := n3_; clear n0_ n1_ n2_ n3_; clear hb hbox hg) | ((with_reducible refine gate_dst (N := 3) rfl ?_); refine box_event ?hg (N := 3) ?hd (cs := #[.int .i64 a1_0, .string a1_1, .string a1_2, .string a1_3, .string a1_4, .string a1_5]) (t := 59) ?hr ?_; (case hd => rfl); (case hg => rfl); (case hr => first | (go_simp; done) | (go_simp; rfl)); intro gb163 hg w11 hbox hb; have n0_ := ak (blk_below (g := gb162) (bx BK162.out) hb); have n1_ := ak (below_step bq hb); have n2_ := ak (hbox); have n3_ := ak ((by rw [hg]; exact (below_size bq) : w.heap.size ≤ gb163)); have n4_ := ak ((by rw [hg]; exact (below_size bq) : w.heap.size ≤ gb163)); have n5_ := ak ((by rw [hg]; exact Nat.ne_of_lt (blk_lt (g := gb162) (bx BK162.out)) : gb162 ≠ gb163)); have n6_ := ak ((by rw [hg]; exact Nat.ne_of_gt (blk_lt (g := gb162) (bx BK162.out)) : gb163 ≠ gb162)); clear BK162; clear HB; have BK162 := n0_; have HB := n1_; have BK163 := n2_; have GW163 := n3_; have GE163 := n4_; have NB162_163 := n5_; have NB163_162 := n6_; clear n0_ n1_ n2_ n3_ n4_ n5_ n6_; clear hb hbox hg; have hnb12 := NB162_163.out; have hnc12 := NB163_162.out; obtain ⟨hcz13_0, hcz13_1, hcz13_2, hcz13_3, hcz13_4, hcz13_5⟩ := cz6 BK162.out; obtain ⟨hfz13_0, hfz13_1, hfz13_2, hfz13_3, hfz13_4, hfz13_5⟩ := fz6 BK162.out; obtain ⟨hcz14_0, hcz14_1, hcz14_2, hcz14_3, hcz14_4, hcz14_5⟩ := cz6 BK163.out; obtain ⟨hfz14_0, hfz14_1, hfz14_2, hfz14_3, hfz14_4, hfz14_5⟩ := fz6 BK163.out))
   go_ret
   exact ⟨by first | rfl | (simp [errW_none, errW_some] <;> rfl) | (simp [*, errW_none, errW_some] <;> rfl), bq⟩
  ·
   rw [if_neg c9] at H
   have c9b0 : decide (a1_0 < a0_0) = false := decide_eq_false c9
   clear c9
   replace H := Option.bind_eq_some_iff.mp H
   obtain ⟨t164, A150, H⟩ := H
   have A15 := ak A150
   clear A150
   by_cases c16 : t164 = 0
   ·
    rw [if_pos c16] at H
    have c16b0 : (t164 == 0) = true := beq_iff_eq.mpr c16
    have c16b1 : (t164 != 0) = false := bne_eq_false_iff_eq.mpr c16
    (try (have c16b2 : (t164 : Int).toNat = 0 := by rw [c16]; rfl))
    try have c16b3 : (0 ≤ t164) = True := eq_true (by omega)
    try have c16b4_2 : (t164 < 2) = True := eq_true (by omega)
    try have c16b4_3 : (t164 < 3) = True := eq_true (by omega)
    try have c16b4_5 : (t164 < 5) = True := eq_true (by omega)
    clear c16
    replace H := Option.bind_eq_some_iff.mp H
    obtain ⟨t165, A170, H⟩ := H
    have A17 := ak A170
    clear A170
    obtain rfl := Option.some.inj H
    go_enter Try.func22, Try.ntmps22
    go_wp2_with (first | ((with_reducible refine gate_dst (N := 2) rfl ?_); refine box_event ?hg (N := 2) ?hd (cs := #[.int .i64 a0_0, .string a0_1, .string a0_2, .string a0_3, .string a0_4, .string a0_5]) (t := 59) ?hr ?_; (case hd => rfl); (case hg => rfl); (case hr => first | (go_simp; done) | (go_simp; rfl)); intro gb162 hg w18 hbox hb; have n0_ := ak (below_step bq hb); have n1_ := ak (hbox); have n2_ := ak ((by rw [hg]; exact (below_size bq) : w.heap.size ≤ gb162)); have n3_ := ak ((by rw [hg]; exact (below_size bq) : w.heap.size ≤ gb162)); clear HB; have HB := n0_; have BK162 := n1_; have GW162 := n2_; have GE162 := n3_; clear n0_ n1_ n2_ n3_; clear hb hbox hg) | ((with_reducible refine gate_dst (N := 3) rfl ?_); refine box_event ?hg (N := 3) ?hd (cs := #[.int .i64 a1_0, .string a1_1, .string a1_2, .string a1_3, .string a1_4, .string a1_5]) (t := 59) ?hr ?_; (case hd => rfl); (case hg => rfl); (case hr => first | (go_simp; done) | (go_simp; rfl)); intro gb163 hg w19 hbox hb; have n0_ := ak (blk_below (g := gb162) (bx BK162.out) hb); have n1_ := ak (below_step bq hb); have n2_ := ak (hbox); have n3_ := ak ((by rw [hg]; exact (below_size bq) : w.heap.size ≤ gb163)); have n4_ := ak ((by rw [hg]; exact (below_size bq) : w.heap.size ≤ gb163)); have n5_ := ak ((by rw [hg]; exact Nat.ne_of_lt (blk_lt (g := gb162) (bx BK162.out)) : gb162 ≠ gb163)); have n6_ := ak ((by rw [hg]; exact Nat.ne_of_gt (blk_lt (g := gb162) (bx BK162.out)) : gb163 ≠ gb162)); clear BK162; clear HB; have BK162 := n0_; have HB := n1_; have BK163 := n2_; have GW163 := n3_; have GE163 := n4_; have NB162_163 := n5_; have NB163_162 := n6_; clear n0_ n1_ n2_ n3_ n4_ n5_ n6_; clear hb hbox hg; have hnb20 := NB162_163.out; have hnc20 := NB163_162.out; obtain ⟨hcz21_0, hcz21_1, hcz21_2, hcz21_3, hcz21_4, hcz21_5⟩ := cz6 BK162.out; obtain ⟨hfz21_0, hfz21_1, hfz21_2, hfz21_3, hfz21_4, hfz21_5⟩ := fz6 BK162.out; obtain ⟨hcz22_0, hcz22_1, hcz22_2, hcz22_3, hcz22_4, hcz22_5⟩ := cz6 BK163.out; obtain ⟨hfz22_0, hfz22_1, hfz22_2, hfz22_3, hfz22_4, hfz22_5⟩ := fz6 BK163.out) | ((with_reducible refine gate_callee (f := 49) rfl ?_); refine goesL_ (some 20) rfl rfl Try.func49 (by kernel_rfl) rfl #[.string a0_1, .string a1_1] rfl mq ?_; (with_reducible refine (isoglossref12_order.calls a0_1 a1_1 t164 _ A15.out).mono ?_); rintro e w' ⟨rfl, ⟨nd, rfl⟩⟩; refine ⟨_, rfl, ?_⟩; (try clear A15)) | ((with_reducible refine gate_callee (f := 49) rfl ?_); refine goesL_ (some 28) rfl rfl Try.func49 (by kernel_rfl) rfl #[.string a0_2, .string a1_2] rfl mq ?_; (with_reducible refine (isoglossref12_order.calls a0_2 a1_2 t165 _ A17.out).mono ?_); rintro e w' ⟨rfl, ⟨nd, rfl⟩⟩; refine ⟨_, rfl, ?_⟩; (try clear A17)))
    go_ret
    exact ⟨by first | rfl | (simp [errW_none, errW_some] <;> rfl) | (simp [*, errW_none, errW_some] <;> rfl), bq⟩
   ·
    rw [if_neg c16] at H
    have c16b0 : (t164 == 0) = false := beq_eq_false_iff_ne.mpr c16
    have c16b1 : (t164 != 0) = true := bne_iff_ne.mpr c16
    obtain rfl := Option.some.inj H
    go_enter Try.func22, Try.ntmps22
    go_wp2_with (first | ((with_reducible refine gate_dst (N := 2) rfl ?_); refine box_event ?hg (N := 2) ?hd (cs := #[.int .i64 a0_0, .string a0_1, .string a0_2, .string a0_3, .string a0_4, .string a0_5]) (t := 59) ?hr ?_; (case hd => rfl); (case hg => rfl); (case hr => first | (go_simp; done) | (go_simp; rfl)); intro gb162 hg w23 hbox hb; have n0_ := ak (below_step bq hb); have n1_ := ak (hbox); have n2_ := ak ((by rw [hg]; exact (below_size bq) : w.heap.size ≤ gb162)); have n3_ := ak ((by rw [hg]; exact (below_size bq) : w.heap.size ≤ gb162)); clear HB; have HB := n0_; have BK162 := n1_; have GW162 := n2_; have GE162 := n3_; clear n0_ n1_ n2_ n3_; clear hb hbox hg) | ((with_reducible refine gate_dst (N := 3) rfl ?_); refine box_event ?hg (N := 3) ?hd (cs := #[.int .i64 a1_0, .string a1_1, .string a1_2, .string a1_3, .string a1_4, .string a1_5]) (t := 59) ?hr ?_; (case hd => rfl); (case hg => rfl); (case hr => first | (go_simp; done) | (go_simp; rfl)); intro gb163 hg w24 hbox hb; have n0_ := ak (blk_below (g := gb162) (bx BK162.out) hb); have n1_ := ak (below_step bq hb); have n2_ := ak (hbox); have n3_ := ak ((by rw [hg]; exact (below_size bq) : w.heap.size ≤ gb163)); have n4_ := ak ((by rw [hg]; exact (below_size bq) : w.heap.size ≤ gb163)); have n5_ := ak ((by rw [hg]; exact Nat.ne_of_lt (blk_lt (g := gb162) (bx BK162.out)) : gb162 ≠ gb163)); have n6_ := ak ((by rw [hg]; exact Nat.ne_of_gt (blk_lt (g := gb162) (bx BK162.out)) : gb163 ≠ gb162)); clear BK162; clear HB; have BK162 := n0_; have HB := n1_; have BK163 := n2_; have GW163 := n3_; have GE163 := n4_; have NB162_163 := n5_; have NB163_162 := n6_; clear n0_ n1_ n2_ n3_ n4_ n5_ n6_; clear hb hbox hg; have hnb25 := NB162_163.out; have hnc25 := NB163_162.out; obtain ⟨hcz26_0, hcz26_1, hcz26_2, hcz26_3, hcz26_4, hcz26_5⟩ := cz6 BK162.out; obtain ⟨hfz26_0, hfz26_1, hfz26_2, hfz26_3, hfz26_4, hfz26_5⟩ := fz6 BK162.out; obtain ⟨hcz27_0, hcz27_1, hcz27_2, hcz27_3, hcz27_4, hcz27_5⟩ := cz6 BK163.out; obtain ⟨hfz27_0, hfz27_1, hfz27_2, hfz27_3, hfz27_4, hfz27_5⟩ := fz6 BK163.out) | ((with_reducible refine gate_callee (f := 49) rfl ?_); refine goesL_ (some 20) rfl rfl Try.func49 (by kernel_rfl) rfl #[.string a0_1, .string a1_1] rfl mq ?_; (with_reducible refine (isoglossref12_order.calls a0_1 a1_1 t164 _ A15.out).mono ?_); rintro e w' ⟨rfl, ⟨nd, rfl⟩⟩; refine ⟨_, rfl, ?_⟩; (try clear A15)))
    go_ret
    exact ⟨by first | rfl | (simp [errW_none, errW_some] <;> rfl) | (simp [*, errW_none, errW_some] <;> rfl), bq⟩

end Go.Proofs.Ytdjbanhoejegjaa.P
