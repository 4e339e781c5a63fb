/- Made by a program of this seat's own (myprint.py, round the kit's print): what the functions compute, and that they do. -/
import Derived.Test.YtmbfnbnlajchmaaDoorAdP0
import Derived.Test.YtmbfnbnlajchmaaDoorAdP9
import Derived.Test.YtmbfnbnlajchmaaDoorAdP12
import Derived.Test.YtmbfnbnlajchmaaDoorAdTight
namespace Go.Proofs.YtmbfnbnlajchmaaDoor.P
open Go.RowKit Go.Proofs.YtmbfnbnlajchmaaDoorW.PrintWords Go.Proofs.YtmbfnbnlajchmaaDoorW.PrintLast Go.Proofs.YtmbfnbnlajchmaaDoorW.PrintMore
attribute [local go_sem] StrOrd.binOp_gtr StrOrd.binOp_leq max2_int min2_int max_two min_two max_three min_three max_four min_four   -- for this text's walks alone
set_option linter.unusedVariables false
set_option linter.unusedSimpArgs false

def isoglossref12_Row.l0 : Nat → ByteArray → Int → ByteArray → ByteArray → ByteArray → ByteArray → ByteArray → Option (ByteArray)
 | 0, _, _, _, _, _, _, _ => none
 | k + 1, x3, x5, x340000, x340001, x340002, x340003, x340004 => if x5 < 5 then (if x5 = 0 then ((isoglossref03_Pack.f k x340000).bind fun bt340 => ((isoglossref03_Put.f k bt340.1 8).bind fun t342 => (if x3.size + t342.size ≤ 9223372036854775807 then (isoglossref12_Row.l0 k (x3 ++ t342) (wrap64 (x5 + 1)) x340000 x340001 x340002 x340003 x340004) else (none)))) else (if x5 = 1 then ((isoglossref03_Pack.f k x340001).bind fun bt343 => ((isoglossref03_Put.f k bt343.1 8).bind fun t345 => (if x3.size + t345.size ≤ 9223372036854775807 then (isoglossref12_Row.l0 k (x3 ++ t345) (wrap64 (x5 + 1)) x340000 x340001 x340002 x340003 x340004) else (none)))) else (if x5 = 2 then ((isoglossref03_Pack.f k x340002).bind fun bt346 => ((isoglossref03_Put.f k bt346.1 8).bind fun t348 => (if x3.size + t348.size ≤ 9223372036854775807 then (isoglossref12_Row.l0 k (x3 ++ t348) (wrap64 (x5 + 1)) x340000 x340001 x340002 x340003 x340004) else (none)))) else (if x5 = 3 then ((isoglossref03_Pack.f k x340003).bind fun bt349 => ((isoglossref03_Put.f k bt349.1 8).bind fun t351 => (if x3.size + t351.size ≤ 9223372036854775807 then (isoglossref12_Row.l0 k (x3 ++ t351) (wrap64 (x5 + 1)) x340000 x340001 x340002 x340003 x340004) else (none)))) else (if x5 = 4 then ((isoglossref03_Pack.f k x340004).bind fun bt352 => ((isoglossref03_Put.f k bt352.1 8).bind fun t354 => (if x3.size + t354.size ≤ 9223372036854775807 then (isoglossref12_Row.l0 k (x3 ++ t354) (wrap64 (x5 + 1)) x340000 x340001 x340002 x340003 x340004) else (none)))) else (none)))))) else (some x3)
def isoglossref12_Row.f (k : Nat) (a0_0 : Int) (a0_1 : ByteArray) (a0_2 : ByteArray) (a0_3 : ByteArray) (a0_4 : ByteArray) (a0_5 : ByteArray) : Option (ByteArray) := (isoglossref12_texts.f a0_0 a0_1 a0_2 a0_3 a0_4 a0_5).bind fun bt334 => (isoglossref12_Row.l0 k (strOfNums (([(a0_0) % 256] : List Int))) 0 bt334.1 bt334.2.1 bt334.2.2.1 bt334.2.2.2.1 bt334.2.2.2.2)
set_option maxHeartbeats 8000000 in
set_option maxRecDepth 100000 in
theorem isoglossref12_Row.calls (k : Nat) (a0_0 : Int) (a0_1 : ByteArray) (a0_2 : ByteArray) (a0_3 : ByteArray) (a0_4 : ByteArray) (a0_5 : ByteArray) (r : ByteArray) (w : World) (h : isoglossref12_Row.f k a0_0 a0_1 a0_2 a0_3 a0_4 a0_5 = some r) :
  Calls Tryd.prog 42 #[.agg #[.int .i64 a0_0, .string a0_1, .string a0_2, .string a0_3, .string a0_4, .string a0_5]] w fun e w' => e = .returned (.string r) ∧ Below w.heap.size w w' := by
 have hu50 := Tryd.underlying50
 have hu98 := Tryd.underlying98
 have hf95_0 : ∀ (n0 : Int) (n1 : Bool) (W : World), (Instr.field 95 (.agg #[.int .u64 n0, .bool n1]) 0).run Tryd.prog W = .ok (.int .u64 n0) W := by intros; kernel_rfl
 have HB := ak (Below.refl w.heap.size w)
 have H : ((isoglossref12_texts.f a0_0 a0_1 a0_2 a0_3 a0_4 a0_5).bind fun bt334 => (isoglossref12_Row.l0 k (strOfNums (([(a0_0) % 256] : List Int))) 0 bt334.1 bt334.2.1 bt334.2.2.1 bt334.2.2.2.1 bt334.2.2.2.2)) = some r := h
 clear h
 obtain ⟨y331, hy331⟩ : ∃ y_ : List Int, y_ = (([(a0_0) % 256] : List Int)) := ⟨_, rfl⟩
 replace H : ((isoglossref12_texts.f a0_0 a0_1 a0_2 a0_3 a0_4 a0_5).bind fun bt334 => (isoglossref12_Row.l0 k (strOfNums y331) 0 bt334.1 bt334.2.1 bt334.2.2.1 bt334.2.2.2.1 bt334.2.2.2.2)) = some r := by first | (rw [hy331]; with_reducible exact H) | (have H2_ := (Option.bind_some _ _).symm.trans H; rw [hy331]; with_reducible exact H2_) | (have H2_ := (Option.bind_some _ _).symm.trans H; with_reducible exact H2_) | with_reducible exact H | (rw [hy331]; exact H) | exact H
 have Ny331 := ak hy331
 clear hy331
 replace H := Option.bind_eq_some_iff.mp H
 obtain ⟨⟨t334, t335, t336, t337, t338⟩, A20, H⟩ := H
 replace H : (isoglossref12_Row.l0 k (strOfNums y331) 0 t334 t335 t336 t337 t338) = some r := H
 have A2 := ak A20
 clear A20
 have H' := ak H
 clear H
 go_enter Tryd.func42, Tryd.ntmps42
 go_wp2_with (first | ((with_reducible refine gate_dst (N := 1) rfl ?_); refine box_event ?hg (N := 1) ?hd (cs := #[.int .i64 a0_0, .string a0_1, .string a0_2, .string a0_3, .string a0_4, .string a0_5]) (t := 50) ?hr ?_; (case hd => rfl); (case hg => rfl); (case hr => first | (go_simp; done) | (go_simp; rfl)); intro gb330 hg w3 hbox hb; have n0_ := ak (below_step bq hb); have n1_ := ak (hbox); have n2_ := ak ((by rw [hg]; exact (below_size bq) : w.heap.size ≤ gb330)); have n3_ := ak ((by rw [hg]; exact (below_size bq) : w.heap.size ≤ gb330)); clear HB; have HB := n0_; have BK330 := n1_; have GW330 := n2_; have GE330 := n3_; clear n0_ n1_ n2_ n3_; clear hb hbox hg; obtain ⟨hcz4_0, hcz4_1, hcz4_2, hcz4_3, hcz4_4, hcz4_5⟩ := cz6 BK330.out; obtain ⟨hfz4_0, hfz4_1, hfz4_2, hfz4_3, hfz4_4, hfz4_5⟩ := fz6 BK330.out) | ((with_reducible refine gate_dst (N := 9) rfl ?_); refine Kd.R_lit (Kd.int .u8) _ 5 ?hg (N := 9) ?hd (xs := ([(a0_0) % 256] : List Int)) (inner := [.int .u8 ((a0_0) % 256)]) (ok := fun _ => True) (okp := fun _ => True) ?hr ?hp (fun _ hk => hk) trivial (Below.refl _ _) (Nat.le_refl _) (by simp) ?_; (case hd => rfl); (case hg => rfl); (case hr => first | (go_simp; done) | (go_simp; rfl)); (case hp => exact (Reps.one (show Kd.M (Kd.int .u8) _ _ _ ((a0_0) % 256) [.int .u8 ((a0_0) % 256)] from rfl) (Reps.none _ _))); intro v332 w5 ho6 hb hg_ hnew_; clear hg_ hnew_; (first | rw [← Ny331.out] at ho6 | (simp only [Int.reduceToNat] at ho6; rw [← Ny331.out] at ho6)); have n0_ := ak (Kd.R_lower ho6 (below_size bq)); have n1_ := ak (blk_below (g := gb330) (bx BK330.out) hb); have n2_ := ak (below_step bq hb); clear BK330; clear HB; have HO333 := n0_; have BK330 := n1_; have HB := n2_; clear n0_ n1_ n2_; clear hb ho6; have hcv7 := own_string (P := Tryd.prog) Tryd.underlying28 Tryd.underlying5 Tryd.underlying9 (Kd.own_of_R HO333.out); obtain ⟨hcz8_0, hcz8_1, hcz8_2, hcz8_3, hcz8_4, hcz8_5⟩ := cz6 BK330.out; obtain ⟨hfz8_0, hfz8_1, hfz8_2, hfz8_3, hfz8_4, hfz8_5⟩ := fz6 BK330.out) | ((with_reducible refine gate_callee (f := 75) rfl ?_); refine goesL_ (some 12) rfl rfl Tryd.func75 (by kernel_rfl) rfl #[.agg #[.int .i64 a0_0, .string a0_1, .string a0_2, .string a0_3, .string a0_4, .string a0_5]] rfl mq ?_; (with_reducible refine (isoglossref12_texts.calls a0_0 a0_1 a0_2 a0_3 a0_4 a0_5 t334 t335 t336 t337 t338 _ A2.out).mono ?_); rintro e w9 ⟨rfl, hb⟩; refine ⟨_, rfl, ?_⟩; have n0_ := ak (Kd.R_below (rx HO333.out) hb); have n1_ := ak (blk_below (g := gb330) (bx BK330.out) hb); have n2_ := ak (below_step bq hb); clear HO333; clear BK330; clear HB; have HO333 := n0_; have BK330 := n1_; have HB := n2_; clear n0_ n1_ n2_; (try clear hb); (try clear hb2); (try clear hk); (try clear hi); (try clear A2)) | ((with_reducible refine gate_dst (N := 4) rfl ?_); refine box_event ?hg (N := 4) ?hd (cs := #[.string ⟨#[]⟩, .string ⟨#[]⟩, .string ⟨#[]⟩, .string ⟨#[]⟩, .string ⟨#[]⟩]) (t := 98) ?hr ?_; (case hd => rfl); (case hg => rfl); (case hr => first | (go_simp; done) | (go_simp; rfl)); intro gb339 hg w10 hbox hb; have n0_ := ak (Kd.R_below (rx HO333.out) hb); have n1_ := ak (blk_below (g := gb330) (bx BK330.out) hb); have n2_ := ak (below_step bq hb); have n3_ := ak (hbox); have n4_ := ak ((by rw [hg]; exact (below_size bq) : w.heap.size ≤ gb339)); have n5_ := ak ((by rw [hg]; exact (below_size bq) : w.heap.size ≤ gb339)); have n6_ := ak ((by rw [hg]; exact Nat.ne_of_lt (blk_lt (g := gb330) (bx BK330.out)) : gb330 ≠ gb339)); have n7_ := ak ((by rw [hg]; exact Nat.ne_of_gt (blk_lt (g := gb330) (bx BK330.out)) : gb339 ≠ gb330)); clear HO333; clear BK330; clear HB; have HO333 := n0_; have BK330 := n1_; have HB := n2_; have BK339 := n3_; have GW339 := n4_; have GE339 := n5_; have NB330_339 := n6_; have NB339_330 := n7_; clear n0_ n1_ n2_ n3_ n4_ n5_ n6_ n7_; clear hb hbox hg; have hnb11 := NB339_330.out; have hnc11 := NB330_339.out; obtain ⟨hcz12_0, hcz12_1, hcz12_2, hcz12_3, hcz12_4⟩ := cz5 BK339.out; obtain ⟨hfz12_0, hfz12_1, hfz12_2, hfz12_3, hfz12_4⟩ := fz5 BK339.out))
 go_loopg [3, 5] k (fun kq v3 v5 w' => ∃ (x3_1 : ByteArray) (x5_1 : Int), v3 = .string x3_1 ∧ v5 = .int .i64 x5_1 ∧ Aside0 (isoglossref12_Row.l0 kq x3_1 x5_1 t334 t335 t336 t337 t338 = some r) ∧ Aside0 (kq ≤ k) ∧ Aside0 (w'.heap[gb330]? = some (.cells #[.int .i64 a0_0, .string a0_1, .string a0_2, .string a0_3, .string a0_4, .string a0_5] 50 (0, 0))) ∧ Aside0 (w'.heap[gb339]? = some (.cells #[.string t334, .string t335, .string t336, .string t337, .string t338] 98 (0, 0))) ∧ Aside0 (Below w.heap.size w w'))
 case atStart => exact ⟨(strOfNums y331), (0), (by first | rfl | (simp; done) | (simp [*]; done)), (by first | rfl | (simp; done) | (simp [*]; done) | (simp <;> unfold wrap64 <;> omega)), H', ⟨Nat.le_refl _⟩, ⟨(bx (blk_far (bx (blk_far (bx (blk_far (bx (blk_far (bx (blk_far (bx BK330.out) NB330_339.out _)) NB330_339.out _)) NB330_339.out _)) NB330_339.out _)) NB330_339.out _))⟩, ⟨(bx (blk_put (cs := #[.string t334, .string t335, .string t336, .string t337, .string ⟨#[]⟩]) (bx (blk_put (cs := #[.string t334, .string t335, .string t336, .string ⟨#[]⟩, .string ⟨#[]⟩]) (bx (blk_put (cs := #[.string t334, .string t335, .string ⟨#[]⟩, .string ⟨#[]⟩, .string ⟨#[]⟩]) (bx (blk_put (cs := #[.string t334, .string ⟨#[]⟩, .string ⟨#[]⟩, .string ⟨#[]⟩, .string ⟨#[]⟩]) (bx (blk_put (cs := #[.string ⟨#[]⟩, .string ⟨#[]⟩, .string ⟨#[]⟩, .string ⟨#[]⟩, .string ⟨#[]⟩]) (bx BK339.out) 0 _ rfl)) 1 _ rfl)) 2 _ rfl)) 3 _ rfl)) 4 _ rfl))⟩, ⟨bq⟩⟩
 case round =>
  clear H'
  try clear c1
  try clear p2
  try clear c4
  try clear c7
  try clear hcv7
  try clear c11
  try clear hcz12_0
  try clear hcz12_1
  try clear hcz12_2
  try clear hcz12_3
  try clear hcz12_4
  try clear hcz4_0
  try clear hcz4_1
  try clear hcz4_2
  try clear hcz4_3
  try clear hcz4_4
  try clear hcz4_5
  try clear hcz8_0
  try clear hcz8_1
  try clear hcz8_2
  try clear hcz8_3
  try clear hcz8_4
  try clear hcz8_5
  try clear hfz12_0
  try clear hfz12_1
  try clear hfz12_2
  try clear hfz12_3
  try clear hfz12_4
  try clear hfz4_0
  try clear hfz4_1
  try clear hfz4_2
  try clear hfz4_3
  try clear hfz4_4
  try clear hfz4_5
  try clear hfz8_0
  try clear hfz8_1
  try clear hfz8_2
  try clear hfz8_3
  try clear hfz8_4
  try clear hfz8_5
  obtain ⟨x3_1, x5_1, rfl, rfl, HA, HK1, BK330, BK339, HB⟩ := hrel
  cases gk with
  | zero => exact absurd HA.out (by simp [isoglossref12_Row.l0])
  | succ k1 =>
   have H := HA.out
   clear HA
   simp only [isoglossref12_Row.l0] at H
   by_cases c13 : x5_1 < 5
   ·
    rw [if_pos c13] at H
    have c13b0 : decide (x5_1 < 5) = true := decide_eq_true c13
    clear c13
    by_cases c14 : x5_1 = 0
    ·
     rw [if_pos c14] at H
     have c14b0 : (x5_1 == 0) = true := beq_iff_eq.mpr c14
     have c14b1 : (x5_1 != 0) = false := bne_eq_false_iff_eq.mpr c14
     (try (have c14b2 : (x5_1 : Int).toNat = 0 := by rw [c14]; rfl))
     try have c14b3 : (0 ≤ x5_1) = True := eq_true (by omega)
     try have c14b4_2 : (x5_1 < 2) = True := eq_true (by omega)
     try have c14b4_3 : (x5_1 < 3) = True := eq_true (by omega)
     try have c14b4_5 : (x5_1 < 5) = True := eq_true (by omega)
     clear c14
     replace H := Option.bind_eq_some_iff.mp H
     obtain ⟨⟨t340, t341⟩, A150, H⟩ := H
     replace H : ((isoglossref03_Put.f k1 t340 8).bind fun t342 => (if x3_1.size + t342.size ≤ 9223372036854775807 then (isoglossref12_Row.l0 k1 (x3_1 ++ t342) (wrap64 (x5_1 + 1)) t334 t335 t336 t337 t338) else (none))) = some r := H
     have A15 := ak A150
     clear A150
     replace H := Option.bind_eq_some_iff.mp H
     obtain ⟨t342, A160, H⟩ := H
     have A16 := ak A160
     clear A160
     by_cases c17 : x3_1.size + t342.size ≤ 9223372036854775807
     ·
      rw [if_pos c17] at H
      have c17b0 := eq_true c17
      have c17b1 : decide (x3_1.size + t342.size ≤ 9223372036854775807) = true := decide_eq_true c17
      try have c17b2 : (9223372036854775807 < x3_1.size + t342.size) = False := eq_false (Nat.not_lt.2 c17)
      have H' := ak H
      clear H
      have hnb18 := NB339_330.out
      have hnc18 := NB330_339.out
      obtain ⟨hcz19_0, hcz19_1, hcz19_2, hcz19_3, hcz19_4⟩ := cz5 BK339.out
      obtain ⟨hfz19_0, hfz19_1, hfz19_2, hfz19_3, hfz19_4⟩ := fz5 BK339.out
      go_wp2_with (first | ((with_reducible refine gate_callee (f := 69) rfl ?_); refine goesL_ (some 21) rfl rfl Tryd.func69 (by kernel_rfl) rfl #[.string t334] rfl mq ?_; (with_reducible refine (isoglossref03_Pack.calls k1 t334 t340 t341 _ A15.out).mono ?_); rintro e w20 ⟨rfl, hb⟩; refine ⟨_, rfl, ?_⟩; have n0_ := ak (blk_below (g := gb330) (bx BK330.out) hb); have n1_ := ak (blk_below (g := gb339) (bx BK339.out) hb); have n2_ := ak (below_step bq hb); clear BK330; clear BK339; clear HB; have BK330 := n0_; have BK339 := n1_; have HB := n2_; clear n0_ n1_ n2_; (try clear hb); (try clear hb2); (try clear hk); (try clear hi); (try clear A15)) | ((with_reducible refine gate_callee (f := 70) rfl ?_); refine goesL_ (some 23) rfl rfl Tryd.func70 (by kernel_rfl) rfl #[.int .u64 t340, .int .i64 8] rfl mq ?_; (with_reducible refine (isoglossref03_Put.calls k1 t340 8 t342 _ A16.out).mono ?_); rintro e w21 ⟨rfl, hb⟩; refine ⟨_, rfl, ?_⟩; have n0_ := ak (blk_below (g := gb330) (bx BK330.out) hb); have n1_ := ak (blk_below (g := gb339) (bx BK339.out) hb); have n2_ := ak (below_step bq hb); clear BK330; clear BK339; clear HB; have BK330 := n0_; have BK339 := n1_; have HB := n2_; clear n0_ n1_ n2_; (try clear hb); (try clear hb2); (try clear hk); (try clear hi); (try clear A16)))
      go_roundg k1
      case measure => have := HK1.out; omega
      case rel => exact ⟨(x3_1 ++ t342), (wrap64 (x5_1 + 1)), (by first | rfl | (simp; done) | (simp [*]; done)), (by first | rfl | (simp; done) | (simp [*]; done) | (simp <;> unfold wrap64 <;> omega)), H', ⟨by have := HK1.out; omega⟩, ⟨(bx BK330.out)⟩, ⟨(bx BK339.out)⟩, ⟨bq⟩⟩
     ·
      rw [if_neg c17] at H
      exact absurd H (by simp)
    ·
     rw [if_neg c14] at H
     have c14b0 : (x5_1 == 0) = false := beq_eq_false_iff_ne.mpr c14
     have c14b1 : (x5_1 != 0) = true := bne_iff_ne.mpr c14
     by_cases c22 : x5_1 = 1
     ·
      rw [if_pos c22] at H
      have c22b0 : (x5_1 == 1) = true := beq_iff_eq.mpr c22
      have c22b1 : (x5_1 != 1) = false := bne_eq_false_iff_eq.mpr c22
      (try (have c22b2 : (x5_1 : Int).toNat = 1 := by rw [c22]; rfl))
      try have c22b3 : (0 ≤ x5_1) = True := eq_true (by omega)
      try have c22b4_2 : (x5_1 < 2) = True := eq_true (by omega)
      try have c22b4_3 : (x5_1 < 3) = True := eq_true (by omega)
      try have c22b4_5 : (x5_1 < 5) = True := eq_true (by omega)
      clear c22
      replace H := Option.bind_eq_some_iff.mp H
      obtain ⟨⟨t343, t344⟩, A230, H⟩ := H
      replace H : ((isoglossref03_Put.f k1 t343 8).bind fun t345 => (if x3_1.size + t345.size ≤ 9223372036854775807 then (isoglossref12_Row.l0 k1 (x3_1 ++ t345) (wrap64 (x5_1 + 1)) t334 t335 t336 t337 t338) else (none))) = some r := H
      have A23 := ak A230
      clear A230
      replace H := Option.bind_eq_some_iff.mp H
      obtain ⟨t345, A240, H⟩ := H
      have A24 := ak A240
      clear A240
      by_cases c25 : x3_1.size + t345.size ≤ 9223372036854775807
      ·
       rw [if_pos c25] at H
       have c25b0 := eq_true c25
       have c25b1 : decide (x3_1.size + t345.size ≤ 9223372036854775807) = true := decide_eq_true c25
       try have c25b2 : (9223372036854775807 < x3_1.size + t345.size) = False := eq_false (Nat.not_lt.2 c25)
       have H' := ak H
       clear H
       have hnb26 := NB339_330.out
       have hnc26 := NB330_339.out
       obtain ⟨hcz27_0, hcz27_1, hcz27_2, hcz27_3, hcz27_4⟩ := cz5 BK339.out
       obtain ⟨hfz27_0, hfz27_1, hfz27_2, hfz27_3, hfz27_4⟩ := fz5 BK339.out
       go_wp2_with (first | ((with_reducible refine gate_callee (f := 69) rfl ?_); refine goesL_ (some 21) rfl rfl Tryd.func69 (by kernel_rfl) rfl #[.string t335] rfl mq ?_; (with_reducible refine (isoglossref03_Pack.calls k1 t335 t343 t344 _ A23.out).mono ?_); rintro e w28 ⟨rfl, hb⟩; refine ⟨_, rfl, ?_⟩; have n0_ := ak (blk_below (g := gb330) (bx BK330.out) hb); have n1_ := ak (blk_below (g := gb339) (bx BK339.out) hb); have n2_ := ak (below_step bq hb); clear BK330; clear BK339; clear HB; have BK330 := n0_; have BK339 := n1_; have HB := n2_; clear n0_ n1_ n2_; (try clear hb); (try clear hb2); (try clear hk); (try clear hi); (try clear A23)) | ((with_reducible refine gate_callee (f := 70) rfl ?_); refine goesL_ (some 23) rfl rfl Tryd.func70 (by kernel_rfl) rfl #[.int .u64 t343, .int .i64 8] rfl mq ?_; (with_reducible refine (isoglossref03_Put.calls k1 t343 8 t345 _ A24.out).mono ?_); rintro e w29 ⟨rfl, hb⟩; refine ⟨_, rfl, ?_⟩; have n0_ := ak (blk_below (g := gb330) (bx BK330.out) hb); have n1_ := ak (blk_below (g := gb339) (bx BK339.out) hb); have n2_ := ak (below_step bq hb); clear BK330; clear BK339; clear HB; have BK330 := n0_; have BK339 := n1_; have HB := n2_; clear n0_ n1_ n2_; (try clear hb); (try clear hb2); (try clear hk); (try clear hi); (try clear A24)))
       go_roundg k1
       case measure => have := HK1.out; omega
       case rel => exact ⟨(x3_1 ++ t345), (wrap64 (x5_1 + 1)), (by first | rfl | (simp; done) | (simp [*]; done)), (by first | rfl | (simp; done) | (simp [*]; done) | (simp <;> unfold wrap64 <;> omega)), H', ⟨by have := HK1.out; omega⟩, ⟨(bx BK330.out)⟩, ⟨(bx BK339.out)⟩, ⟨bq⟩⟩
      ·
       rw [if_neg c25] at H
       exact absurd H (by simp)
     ·
      rw [if_neg c22] at H
      have c22b0 : (x5_1 == 1) = false := beq_eq_false_iff_ne.mpr c22
      have c22b1 : (x5_1 != 1) = true := bne_iff_ne.mpr c22
      by_cases c30 : x5_1 = 2
      ·
       rw [if_pos c30] at H
       have c30b0 : (x5_1 == 2) = true := beq_iff_eq.mpr c30
       have c30b1 : (x5_1 != 2) = false := bne_eq_false_iff_eq.mpr c30
       (try (have c30b2 : (x5_1 : Int).toNat = 2 := by rw [c30]; rfl))
       try have c30b3 : (0 ≤ x5_1) = True := eq_true (by omega)
       try have c30b4_3 : (x5_1 < 3) = True := eq_true (by omega)
       try have c30b4_5 : (x5_1 < 5) = True := eq_true (by omega)
       clear c30
       replace H := Option.bind_eq_some_iff.mp H
       obtain ⟨⟨t346, t347⟩, A310, H⟩ := H
       replace H : ((isoglossref03_Put.f k1 t346 8).bind fun t348 => (if x3_1.size + t348.size ≤ 9223372036854775807 then (isoglossref12_Row.l0 k1 (x3_1 ++ t348) (wrap64 (x5_1 + 1)) t334 t335 t336 t337 t338) else (none))) = some r := H
       have A31 := ak A310
       clear A310
       replace H := Option.bind_eq_some_iff.mp H
       obtain ⟨t348, A320, H⟩ := H
       have A32 := ak A320
       clear A320
       by_cases c33 : x3_1.size + t348.size ≤ 9223372036854775807
       ·
        rw [if_pos c33] at H
        have c33b0 := eq_true c33
        have c33b1 : decide (x3_1.size + t348.size ≤ 9223372036854775807) = true := decide_eq_true c33
        try have c33b2 : (9223372036854775807 < x3_1.size + t348.size) = False := eq_false (Nat.not_lt.2 c33)
        have H' := ak H
        clear H
        have hnb34 := NB339_330.out
        have hnc34 := NB330_339.out
        obtain ⟨hcz35_0, hcz35_1, hcz35_2, hcz35_3, hcz35_4⟩ := cz5 BK339.out
        obtain ⟨hfz35_0, hfz35_1, hfz35_2, hfz35_3, hfz35_4⟩ := fz5 BK339.out
        go_wp2_with (first | ((with_reducible refine gate_callee (f := 69) rfl ?_); refine goesL_ (some 21) rfl rfl Tryd.func69 (by kernel_rfl) rfl #[.string t336] rfl mq ?_; (with_reducible refine (isoglossref03_Pack.calls k1 t336 t346 t347 _ A31.out).mono ?_); rintro e w36 ⟨rfl, hb⟩; refine ⟨_, rfl, ?_⟩; have n0_ := ak (blk_below (g := gb330) (bx BK330.out) hb); have n1_ := ak (blk_below (g := gb339) (bx BK339.out) hb); have n2_ := ak (below_step bq hb); clear BK330; clear BK339; clear HB; have BK330 := n0_; have BK339 := n1_; have HB := n2_; clear n0_ n1_ n2_; (try clear hb); (try clear hb2); (try clear hk); (try clear hi); (try clear A31)) | ((with_reducible refine gate_callee (f := 70) rfl ?_); refine goesL_ (some 23) rfl rfl Tryd.func70 (by kernel_rfl) rfl #[.int .u64 t346, .int .i64 8] rfl mq ?_; (with_reducible refine (isoglossref03_Put.calls k1 t346 8 t348 _ A32.out).mono ?_); rintro e w37 ⟨rfl, hb⟩; refine ⟨_, rfl, ?_⟩; have n0_ := ak (blk_below (g := gb330) (bx BK330.out) hb); have n1_ := ak (blk_below (g := gb339) (bx BK339.out) hb); have n2_ := ak (below_step bq hb); clear BK330; clear BK339; clear HB; have BK330 := n0_; have BK339 := n1_; have HB := n2_; clear n0_ n1_ n2_; (try clear hb); (try clear hb2); (try clear hk); (try clear hi); (try clear A32)))
        go_roundg k1
        case measure => have := HK1.out; omega
        case rel => exact ⟨(x3_1 ++ t348), (wrap64 (x5_1 + 1)), (by first | rfl | (simp; done) | (simp [*]; done)), (by first | rfl | (simp; done) | (simp [*]; done) | (simp <;> unfold wrap64 <;> omega)), H', ⟨by have := HK1.out; omega⟩, ⟨(bx BK330.out)⟩, ⟨(bx BK339.out)⟩, ⟨bq⟩⟩
       ·
        rw [if_neg c33] at H
        exact absurd H (by simp)
      ·
       rw [if_neg c30] at H
       have c30b0 : (x5_1 == 2) = false := beq_eq_false_iff_ne.mpr c30
       have c30b1 : (x5_1 != 2) = true := bne_iff_ne.mpr c30
       by_cases c38 : x5_1 = 3
       ·
        rw [if_pos c38] at H
        have c38b0 : (x5_1 == 3) = true := beq_iff_eq.mpr c38
        have c38b1 : (x5_1 != 3) = false := bne_eq_false_iff_eq.mpr c38
        (try (have c38b2 : (x5_1 : Int).toNat = 3 := by rw [c38]; rfl))
        try have c38b3 : (0 ≤ x5_1) = True := eq_true (by omega)
        try have c38b4_5 : (x5_1 < 5) = True := eq_true (by omega)
        clear c38
        replace H := Option.bind_eq_some_iff.mp H
        obtain ⟨⟨t349, t350⟩, A390, H⟩ := H
        replace H : ((isoglossref03_Put.f k1 t349 8).bind fun t351 => (if x3_1.size + t351.size ≤ 9223372036854775807 then (isoglossref12_Row.l0 k1 (x3_1 ++ t351) (wrap64 (x5_1 + 1)) t334 t335 t336 t337 t338) else (none))) = some r := H
        have A39 := ak A390
        clear A390
        replace H := Option.bind_eq_some_iff.mp H
        obtain ⟨t351, A400, H⟩ := H
        have A40 := ak A400
        clear A400
        by_cases c41 : x3_1.size + t351.size ≤ 9223372036854775807
        ·
         rw [if_pos c41] at H
         have c41b0 := eq_true c41
         have c41b1 : decide (x3_1.size + t351.size ≤ 9223372036854775807) = true := decide_eq_true c41
         try have c41b2 : (9223372036854775807 < x3_1.size + t351.size) = False := eq_false (Nat.not_lt.2 c41)
         have H' := ak H
         clear H
         have hnb42 := NB339_330.out
         have hnc42 := NB330_339.out
         obtain ⟨hcz43_0, hcz43_1, hcz43_2, hcz43_3, hcz43_4⟩ := cz5 BK339.out
         obtain ⟨hfz43_0, hfz43_1, hfz43_2, hfz43_3, hfz43_4⟩ := fz5 BK339.out
         go_wp2_with (first | ((with_reducible refine gate_callee (f := 69) rfl ?_); refine goesL_ (some 21) rfl rfl Tryd.func69 (by kernel_rfl) rfl #[.string t337] rfl mq ?_; (with_reducible refine (isoglossref03_Pack.calls k1 t337 t349 t350 _ A39.out).mono ?_); rintro e w44 ⟨rfl, hb⟩; refine ⟨_, rfl, ?_⟩; have n0_ := ak (blk_below (g := gb330) (bx BK330.out) hb); have n1_ := ak (blk_below (g := gb339) (bx BK339.out) hb); have n2_ := ak (below_step bq hb); clear BK330; clear BK339; clear HB; have BK330 := n0_; have BK339 := n1_; have HB := n2_; clear n0_ n1_ n2_; (try clear hb); (try clear hb2); (try clear hk); (try clear hi); (try clear A39)) | ((with_reducible refine gate_callee (f := 70) rfl ?_); refine goesL_ (some 23) rfl rfl Tryd.func70 (by kernel_rfl) rfl #[.int .u64 t349, .int .i64 8] rfl mq ?_; (with_reducible refine (isoglossref03_Put.calls k1 t349 8 t351 _ A40.out).mono ?_); rintro e w45 ⟨rfl, hb⟩; refine ⟨_, rfl, ?_⟩; have n0_ := ak (blk_below (g := gb330) (bx BK330.out) hb); have n1_ := ak (blk_below (g := gb339) (bx BK339.out) hb); have n2_ := ak (below_step bq hb); clear BK330; clear BK339; clear HB; have BK330 := n0_; have BK339 := n1_; have HB := n2_; clear n0_ n1_ n2_; (try clear hb); (try clear hb2); (try clear hk); (try clear hi); (try clear A40)))
         go_roundg k1
         case measure => have := HK1.out; omega
         case rel => exact ⟨(x3_1 ++ t351), (wrap64 (x5_1 + 1)), (by first | rfl | (simp; done) | (simp [*]; done)), (by first | rfl | (simp; done) | (simp [*]; done) | (simp <;> unfold wrap64 <;> omega)), H', ⟨by have := HK1.out; omega⟩, ⟨(bx BK330.out)⟩, ⟨(bx BK339.out)⟩, ⟨bq⟩⟩
        ·
         rw [if_neg c41] at H
         exact absurd H (by simp)
       ·
        rw [if_neg c38] at H
        have c38b0 : (x5_1 == 3) = false := beq_eq_false_iff_ne.mpr c38
        have c38b1 : (x5_1 != 3) = true := bne_iff_ne.mpr c38
        by_cases c46 : x5_1 = 4
        ·
         rw [if_pos c46] at H
         have c46b0 : (x5_1 == 4) = true := beq_iff_eq.mpr c46
         have c46b1 : (x5_1 != 4) = false := bne_eq_false_iff_eq.mpr c46
         (try (have c46b2 : (x5_1 : Int).toNat = 4 := by rw [c46]; rfl))
         try have c46b3 : (0 ≤ x5_1) = True := eq_true (by omega)
         try have c46b4_5 : (x5_1 < 5) = True := eq_true (by omega)
         clear c46
         replace H := Option.bind_eq_some_iff.mp H
         obtain ⟨⟨t352, t353⟩, A470, H⟩ := H
         replace H : ((isoglossref03_Put.f k1 t352 8).bind fun t354 => (if x3_1.size + t354.size ≤ 9223372036854775807 then (isoglossref12_Row.l0 k1 (x3_1 ++ t354) (wrap64 (x5_1 + 1)) t334 t335 t336 t337 t338) else (none))) = some r := H
         have A47 := ak A470
         clear A470
         replace H := Option.bind_eq_some_iff.mp H
         obtain ⟨t354, A480, H⟩ := H
         have A48 := ak A480
         clear A480
         by_cases c49 : x3_1.size + t354.size ≤ 9223372036854775807
         ·
          rw [if_pos c49] at H
          have c49b0 := eq_true c49
          have c49b1 : decide (x3_1.size + t354.size ≤ 9223372036854775807) = true := decide_eq_true c49
          try have c49b2 : (9223372036854775807 < x3_1.size + t354.size) = False := eq_false (Nat.not_lt.2 c49)
          have H' := ak H
          clear H
          have hnb50 := NB339_330.out
          have hnc50 := NB330_339.out
          obtain ⟨hcz51_0, hcz51_1, hcz51_2, hcz51_3, hcz51_4⟩ := cz5 BK339.out
          obtain ⟨hfz51_0, hfz51_1, hfz51_2, hfz51_3, hfz51_4⟩ := fz5 BK339.out
          go_wp2_with (first | ((with_reducible refine gate_callee (f := 69) rfl ?_); refine goesL_ (some 21) rfl rfl Tryd.func69 (by kernel_rfl) rfl #[.string t338] rfl mq ?_; (with_reducible refine (isoglossref03_Pack.calls k1 t338 t352 t353 _ A47.out).mono ?_); rintro e w52 ⟨rfl, hb⟩; refine ⟨_, rfl, ?_⟩; have n0_ := ak (blk_below (g := gb330) (bx BK330.out) hb); have n1_ := ak (blk_below (g := gb339) (bx BK339.out) hb); have n2_ := ak (below_step bq hb); clear BK330; clear BK339; clear HB; have BK330 := n0_; have BK339 := n1_; have HB := n2_; clear n0_ n1_ n2_; (try clear hb); (try clear hb2); (try clear hk); (try clear hi); (try clear A47)) | ((with_reducible refine gate_callee (f := 70) rfl ?_); refine goesL_ (some 23) rfl rfl Tryd.func70 (by kernel_rfl) rfl #[.int .u64 t352, .int .i64 8] rfl mq ?_; (with_reducible refine (isoglossref03_Put.calls k1 t352 8 t354 _ A48.out).mono ?_); rintro e w53 ⟨rfl, hb⟩; refine ⟨_, rfl, ?_⟩; have n0_ := ak (blk_below (g := gb330) (bx BK330.out) hb); have n1_ := ak (blk_below (g := gb339) (bx BK339.out) hb); have n2_ := ak (below_step bq hb); clear BK330; clear BK339; clear HB; have BK330 := n0_; have BK339 := n1_; have HB := n2_; clear n0_ n1_ n2_; (try clear hb); (try clear hb2); (try clear hk); (try clear hi); (try clear A48)))
          go_roundg k1
          case measure => have := HK1.out; omega
          case rel => exact ⟨(x3_1 ++ t354), (wrap64 (x5_1 + 1)), (by first | rfl | (simp; done) | (simp [*]; done)), (by first | rfl | (simp; done) | (simp [*]; done) | (simp <;> unfold wrap64 <;> omega)), H', ⟨by have := HK1.out; omega⟩, ⟨(bx BK330.out)⟩, ⟨(bx BK339.out)⟩, ⟨bq⟩⟩
         ·
          rw [if_neg c49] at H
          exact absurd H (by simp)
        ·
         rw [if_neg c46] at H
         exact absurd H (by simp)
   ·
    rw [if_neg c13] at H
    have c13b0 : decide (x5_1 < 5) = false := decide_eq_false c13
    clear c13
    obtain rfl := Option.some.inj H
    go_wp2
    go_ret
    exact ⟨by first | rfl | (simp [errW_none, errW_some] <;> rfl) | (simp [*, errW_none, errW_some] <;> rfl), bq⟩

def isoglossref06_letters.f (k : Nat) (a0 : ByteArray) (a1 : Int) (a2 : Int) : Option (Bool) := (isoglossref02_Class.f k a0).bind fun t355 => (if t355 = 1 then (if (a0.size : Int) ≥ a1 then (some (decide ((a0.size : Int) ≤ a2))) else (some false)) else (some false))
set_option maxHeartbeats 8000000 in
set_option maxRecDepth 100000 in
theorem isoglossref06_letters.calls (k : Nat) (a0 : ByteArray) (a1 : Int) (a2 : Int) (r : Bool) (w : World) (h : isoglossref06_letters.f k a0 a1 a2 = some r) :
  Calls Tryd.prog 116 #[.string a0, .int .i64 a1, .int .i64 a2] w fun e w' => e = .returned (.bool r) ∧ Drawn0 w w' := by
 have H : ((isoglossref02_Class.f k a0).bind fun t355 => (if t355 = 1 then (if (a0.size : Int) ≥ a1 then (some (decide ((a0.size : Int) ≤ a2))) else (some false)) else (some false))) = some r := h
 clear h
 replace H := Option.bind_eq_some_iff.mp H
 obtain ⟨t355, A40, H⟩ := H
 have A4 := ak A40
 clear A40
 by_cases c5 : t355 = 1
 ·
  rw [if_pos c5] at H
  have c5b0 : (t355 == 1) = true := beq_iff_eq.mpr c5
  have c5b1 : (t355 != 1) = false := bne_eq_false_iff_eq.mpr c5
  (try (have c5b2 : (t355 : Int).toNat = 1 := by rw [c5]; rfl))
  try have c5b3 : (0 ≤ t355) = True := eq_true (by omega)
  try have c5b4_2 : (t355 < 2) = True := eq_true (by omega)
  try have c5b4_3 : (t355 < 3) = True := eq_true (by omega)
  try have c5b4_5 : (t355 < 5) = True := eq_true (by omega)
  clear c5
  by_cases c6 : (a0.size : Int) ≥ a1
  ·
   rw [if_pos c6] at H
   have c6b0 : decide (a1 ≤ (a0.size : Int)) = true := decide_eq_true c6
   clear c6
   obtain rfl := Option.some.inj H
   go_enter Tryd.func116, Tryd.ntmps116
   go_wp2_with (first | ((with_reducible refine gate_callee (f := 82) rfl ?_); refine goesL_ (some 8) rfl rfl Tryd.func82 (by kernel_rfl) rfl #[.string a0] rfl mq ?_; (with_reducible refine (isoglossref02_Class.calls k a0 t355 _ A4.out).mono ?_); rintro e w' ⟨rfl, ⟨nd, rfl⟩⟩; refine ⟨_, rfl, ?_⟩; (try clear A4)))
   go_ret
   exact ⟨by first | rfl | (simp; done) | (simp [*]; done), by repeat (first | exact Drawn0.refl _ | apply Drawn0.step)⟩
  ·
   rw [if_neg c6] at H
   have c6b0 : decide (a1 ≤ (a0.size : Int)) = false := decide_eq_false c6
   clear c6
   obtain rfl := Option.some.inj H
   go_enter Tryd.func116, Tryd.ntmps116
   go_wp2_with (first | ((with_reducible refine gate_callee (f := 82) rfl ?_); refine goesL_ (some 8) rfl rfl Tryd.func82 (by kernel_rfl) rfl #[.string a0] rfl mq ?_; (with_reducible refine (isoglossref02_Class.calls k a0 t355 _ A4.out).mono ?_); rintro e w' ⟨rfl, ⟨nd, rfl⟩⟩; refine ⟨_, rfl, ?_⟩; (try clear A4)))
   go_ret
   exact ⟨by first | rfl | (simp; done) | (simp [*]; done), by repeat (first | exact Drawn0.refl _ | apply Drawn0.step)⟩
 ·
  rw [if_neg c5] at H
  have c5b0 : (t355 == 1) = false := beq_eq_false_iff_ne.mpr c5
  have c5b1 : (t355 != 1) = true := bne_iff_ne.mpr c5
  obtain rfl := Option.some.inj H
  go_enter Tryd.func116, Tryd.ntmps116
  go_wp2_with (first | ((with_reducible refine gate_callee (f := 82) rfl ?_); refine goesL_ (some 8) rfl rfl Tryd.func82 (by kernel_rfl) rfl #[.string a0] rfl mq ?_; (with_reducible refine (isoglossref02_Class.calls k a0 t355 _ A4.out).mono ?_); rintro e w' ⟨rfl, ⟨nd, rfl⟩⟩; refine ⟨_, rfl, ?_⟩; (try clear A4)))
  go_ret
  exact ⟨by first | rfl | (simp; done) | (simp [*]; done), by repeat (first | exact Drawn0.refl _ | apply Drawn0.step)⟩

def isoglossref06_Language.f (k : Nat) (a0 : ByteArray) : Option (Bool) := (isoglossref06_letters.f k a0 2 8).bind fun t356 => (some t356)
set_option maxHeartbeats 8000000 in
set_option maxRecDepth 100000 in
theorem isoglossref06_Language.calls (k : Nat) (a0 : ByteArray) (r : Bool) (w : World) (h : isoglossref06_Language.f k a0 = some r) :
  Calls Tryd.prog 85 #[.string a0] w fun e w' => e = .returned (.bool r) ∧ Drawn0 w w' := by
 have H : ((isoglossref06_letters.f k a0 2 8).bind fun t356 => (some t356)) = some r := h
 clear h
 replace H := Option.bind_eq_some_iff.mp H
 obtain ⟨t356, A20, H⟩ := H
 have A2 := ak A20
 clear A20
 obtain rfl := Option.some.inj H
 go_enter Tryd.func85, Tryd.ntmps85
 go_wp2_with (first | ((with_reducible refine gate_callee (f := 116) rfl ?_); refine goesL_ (some 4) rfl rfl Tryd.func116 (by kernel_rfl) rfl #[.string a0, .int .i64 2, .int .i64 8] rfl mq ?_; (with_reducible refine (isoglossref06_letters.calls k a0 2 8 t356 _ A2.out).mono ?_); rintro e w' ⟨rfl, ⟨nd, rfl⟩⟩; refine ⟨_, rfl, ?_⟩; (try clear A2)))
 go_ret
 exact ⟨by first | rfl | (simp; done) | (simp [*]; done), by repeat (first | exact Drawn0.refl _ | apply Drawn0.step)⟩

def isoglossref06_Region.f (k : Nat) (a0 : ByteArray) : Option (Bool) := (isoglossref06_letters.f k a0 2 2).bind fun t357 => (if t357 = true then (some true) else (if (a0.size : Int) = 3 then ((isoglossref02_Class.f k a0).bind fun t358 => (some (t358 == 2))) else (some false)))
set_option maxHeartbeats 8000000 in
set_option maxRecDepth 100000 in
theorem isoglossref06_Region.calls (k : Nat) (a0 : ByteArray) (r : Bool) (w : World) (h : isoglossref06_Region.f k a0 = some r) :
  Calls Tryd.prog 86 #[.string a0] w fun e w' => e = .returned (.bool r) ∧ Drawn0 w w' := by
 have H : ((isoglossref06_letters.f k a0 2 2).bind fun t357 => (if t357 = true then (some true) else (if (a0.size : Int) = 3 then ((isoglossref02_Class.f k a0).bind fun t358 => (some (t358 == 2))) else (some false)))) = some r := h
 clear h
 replace H := Option.bind_eq_some_iff.mp H
 obtain ⟨t357, A20, H⟩ := H
 have A2 := ak A20
 clear A20
 by_cases c3 : t357 = true
 ·
  subst c3
  have H1 : (some true) = some r := by rw [if_pos rfl] at H; exact H
  clear H
  have H := H1
  clear H1
  obtain rfl := Option.some.inj H
  go_enter Tryd.func86, Tryd.ntmps86
  go_wp2_with (first | ((with_reducible refine gate_callee (f := 116) rfl ?_); refine goesL_ (some 5) rfl rfl Tryd.func116 (by kernel_rfl) rfl #[.string a0, .int .i64 2, .int .i64 2] rfl mq ?_; (with_reducible refine (isoglossref06_letters.calls k a0 2 2 true _ A2.out).mono ?_); rintro e w' ⟨rfl, ⟨nd, rfl⟩⟩; refine ⟨_, rfl, ?_⟩; (try clear A2)))
  go_ret
  exact ⟨by first | rfl | (simp; done) | (simp [*]; done), by repeat (first | exact Drawn0.refl _ | apply Drawn0.step)⟩
 ·
  replace c3 := Bool.eq_false_iff.mpr c3
  subst c3
  have H1 : (if (a0.size : Int) = 3 then ((isoglossref02_Class.f k a0).bind fun t358 => (some (t358 == 2))) else (some false)) = some r := by rw [if_neg (show ¬ (false = true) by decide)] at H; exact H
  clear H
  have H := H1
  clear H1
  by_cases c4 : (a0.size : Int) = 3
  ·
   rw [if_pos c4] at H
   have c4b0 : ((a0.size : Int) == 3) = true := beq_iff_eq.mpr c4
   have c4b1 : ((a0.size : Int) != 3) = false := bne_eq_false_iff_eq.mpr c4
   clear c4
   replace H := Option.bind_eq_some_iff.mp H
   obtain ⟨t358, A50, H⟩ := H
   have A5 := ak A50
   clear A50
   obtain rfl := Option.some.inj H
   go_enter Tryd.func86, Tryd.ntmps86
   go_wp2_with (first | ((with_reducible refine gate_callee (f := 116) rfl ?_); refine goesL_ (some 5) rfl rfl Tryd.func116 (by kernel_rfl) rfl #[.string a0, .int .i64 2, .int .i64 2] rfl mq ?_; (with_reducible refine (isoglossref06_letters.calls k a0 2 2 false _ A2.out).mono ?_); rintro e w' ⟨rfl, ⟨nd, rfl⟩⟩; refine ⟨_, rfl, ?_⟩; (try clear A2)) | (go_at_call 82; (with_reducible refine (isoglossref02_Class.calls k a0 t358 _ A5.out).mono ?_); rintro e w' ⟨rfl, ⟨nd, rfl⟩⟩; (try clear A5)))
   go_ret
   exact ⟨by first | rfl | (simp; done) | (simp [*]; done), by repeat (first | exact Drawn0.refl _ | apply Drawn0.step)⟩
  ·
   rw [if_neg c4] at H
   have c4b0 : ((a0.size : Int) == 3) = false := beq_eq_false_iff_ne.mpr c4
   have c4b1 : ((a0.size : Int) != 3) = true := bne_iff_ne.mpr c4
   obtain rfl := Option.some.inj H
   go_enter Tryd.func86, Tryd.ntmps86
   go_wp2_with (first | ((with_reducible refine gate_callee (f := 116) rfl ?_); refine goesL_ (some 5) rfl rfl Tryd.func116 (by kernel_rfl) rfl #[.string a0, .int .i64 2, .int .i64 2] rfl mq ?_; (with_reducible refine (isoglossref06_letters.calls k a0 2 2 false _ A2.out).mono ?_); rintro e w' ⟨rfl, ⟨nd, rfl⟩⟩; refine ⟨_, rfl, ?_⟩; (try clear A2)))
   go_ret
   exact ⟨by first | rfl | (simp; done) | (simp [*]; done), by repeat (first | exact Drawn0.refl _ | apply Drawn0.step)⟩

def isoglossref06_Script.f (k : Nat) (a0 : ByteArray) : Option (Bool) := (isoglossref06_letters.f k a0 4 4).bind fun t359 => (some t359)
set_option maxHeartbeats 8000000 in
set_option maxRecDepth 100000 in
theorem isoglossref06_Script.calls (k : Nat) (a0 : ByteArray) (r : Bool) (w : World) (h : isoglossref06_Script.f k a0 = some r) :
  Calls Tryd.prog 87 #[.string a0] w fun e w' => e = .returned (.bool r) ∧ Drawn0 w w' := by
 have H : ((isoglossref06_letters.f k a0 4 4).bind fun t359 => (some t359)) = some r := h
 clear h
 replace H := Option.bind_eq_some_iff.mp H
 obtain ⟨t359, A20, H⟩ := H
 have A2 := ak A20
 clear A20
 obtain rfl := Option.some.inj H
 go_enter Tryd.func87, Tryd.ntmps87
 go_wp2_with (first | ((with_reducible refine gate_callee (f := 116) rfl ?_); refine goesL_ (some 4) rfl rfl Tryd.func116 (by kernel_rfl) rfl #[.string a0, .int .i64 4, .int .i64 4] rfl mq ?_; (with_reducible refine (isoglossref06_letters.calls k a0 4 4 t359 _ A2.out).mono ?_); rintro e w' ⟨rfl, ⟨nd, rfl⟩⟩; refine ⟨_, rfl, ?_⟩; (try clear A2)))
 go_ret
 exact ⟨by first | rfl | (simp; done) | (simp [*]; done), by repeat (first | exact Drawn0.refl _ | apply Drawn0.step)⟩

def isoglossref12_target.f (k : Nat) (a0_0 : Int) (a0_1 : ByteArray) (a0_2 : ByteArray) (a0_3 : ByteArray) (a0_4 : ByteArray) (a0_5 : ByteArray) : Option (Bool) := (isoglossref06_Language.f k a0_3).bind fun t361 => (if a0_4.toList = ([] : List UInt8) then (if a0_5.toList = ([] : List UInt8) then (if t361 = true then (some true) else (some false)) else ((isoglossref06_Region.f k a0_5).bind fun t362 => (if t361 = true then (some t362) else (some false)))) else ((isoglossref06_Script.f k a0_4).bind fun t363 => (if a0_5.toList = ([] : List UInt8) then (if t361 = true then (if t363 = true then (some true) else (some false)) else (some false)) else ((isoglossref06_Region.f k a0_5).bind fun t364 => (if t361 = true then (if t363 = true then (some t364) else (some false)) else (some false))))))
set_option maxHeartbeats 8000000 in
set_option maxRecDepth 100000 in
theorem isoglossref12_target.calls (k : Nat) (a0_0 : Int) (a0_1 : ByteArray) (a0_2 : ByteArray) (a0_3 : ByteArray) (a0_4 : ByteArray) (a0_5 : ByteArray) (r : Bool) (w : World) (h : isoglossref12_target.f k a0_0 a0_1 a0_2 a0_3 a0_4 a0_5 = some r) :
  Calls Tryd.prog 83 #[.agg #[.int .i64 a0_0, .string a0_1, .string a0_2, .string a0_3, .string a0_4, .string a0_5]] w fun e w' => e = .returned (.bool r) ∧ Below w.heap.size w w' := by
 have hu50 := Tryd.underlying50
 have HB := ak (Below.refl w.heap.size w)
 have H : ((isoglossref06_Language.f k a0_3).bind fun t361 => (if a0_4.toList = ([] : List UInt8) then (if a0_5.toList = ([] : List UInt8) then (if t361 = true then (some true) else (some false)) else ((isoglossref06_Region.f k a0_5).bind fun t362 => (if t361 = true then (some t362) else (some false)))) else ((isoglossref06_Script.f k a0_4).bind fun t363 => (if a0_5.toList = ([] : List UInt8) then (if t361 = true then (if t363 = true then (some true) else (some false)) else (some false)) else ((isoglossref06_Region.f k a0_5).bind fun t364 => (if t361 = true then (if t363 = true then (some t364) else (some false)) else (some false))))))) = some r := h
 clear h
 replace H := Option.bind_eq_some_iff.mp H
 obtain ⟨t361, A20, H⟩ := H
 have A2 := ak A20
 clear A20
 by_cases c3 : a0_4.toList = ([] : List UInt8)
 ·
  rw [if_pos c3] at H
  have c3b0 : (a0_4.toList == ([] : List UInt8)) = true := beq_iff_eq.mpr c3
  have c3b1 : (a0_4.toList != ([] : List UInt8)) = false := bne_eq_false_iff_eq.mpr c3
  have c3b2 : a0_4.toList.isEmpty = true := List.isEmpty_iff.mpr c3
  clear c3
  by_cases c4 : a0_5.toList = ([] : List UInt8)
  ·
   rw [if_pos c4] at H
   have c4b0 : (a0_5.toList == ([] : List UInt8)) = true := beq_iff_eq.mpr c4
   have c4b1 : (a0_5.toList != ([] : List UInt8)) = false := bne_eq_false_iff_eq.mpr c4
   have c4b2 : a0_5.toList.isEmpty = true := List.isEmpty_iff.mpr c4
   clear c4
   by_cases c5 : t361 = true
   ·
    subst c5
    have H1 : (some true) = some r := by rw [if_pos rfl] at H; exact H
    clear H
    have H := H1
    clear H1
    obtain rfl := Option.some.inj H
    go_enter Tryd.func83, Tryd.ntmps83
    go_wp2_with (first | ((with_reducible refine gate_dst (N := 1) rfl ?_); refine box_event ?hg (N := 1) ?hd (cs := #[.int .i64 a0_0, .string a0_1, .string a0_2, .string a0_3, .string a0_4, .string a0_5]) (t := 50) ?hr ?_; (case hd => rfl); (case hg => rfl); (case hr => first | (go_simp; done) | (go_simp; rfl)); intro gb360 hg w6 hbox hb; have n0_ := ak (below_step bq hb); have n1_ := ak (hbox); have n2_ := ak ((by rw [hg]; exact (below_size bq) : w.heap.size ≤ gb360)); have n3_ := ak ((by rw [hg]; exact (below_size bq) : w.heap.size ≤ gb360)); clear HB; have HB := n0_; have BK360 := n1_; have GW360 := n2_; have GE360 := n3_; clear n0_ n1_ n2_ n3_; clear hb hbox hg; obtain ⟨hcz7_0, hcz7_1, hcz7_2, hcz7_3, hcz7_4, hcz7_5⟩ := cz6 BK360.out; obtain ⟨hfz7_0, hfz7_1, hfz7_2, hfz7_3, hfz7_4, hfz7_5⟩ := fz6 BK360.out) | ((with_reducible refine gate_callee (f := 85) rfl ?_); refine goesL_ (some 8) rfl rfl Tryd.func85 (by kernel_rfl) rfl #[.string a0_3] rfl mq ?_; (with_reducible refine (isoglossref06_Language.calls k a0_3 true _ A2.out).mono ?_); rintro e w' ⟨rfl, ⟨nd, rfl⟩⟩; refine ⟨_, rfl, ?_⟩; (try clear A2)))
    go_ret
    exact ⟨by first | rfl | (simp [errW_none, errW_some] <;> rfl) | (simp [*, errW_none, errW_some] <;> rfl), bq⟩
   ·
    replace c5 := Bool.eq_false_iff.mpr c5
    subst c5
    have H1 : (some false) = some r := by rw [if_neg (show ¬ (false = true) by decide)] at H; exact H
    clear H
    have H := H1
    clear H1
    obtain rfl := Option.some.inj H
    go_enter Tryd.func83, Tryd.ntmps83
    go_wp2_with (first | ((with_reducible refine gate_dst (N := 1) rfl ?_); refine box_event ?hg (N := 1) ?hd (cs := #[.int .i64 a0_0, .string a0_1, .string a0_2, .string a0_3, .string a0_4, .string a0_5]) (t := 50) ?hr ?_; (case hd => rfl); (case hg => rfl); (case hr => first | (go_simp; done) | (go_simp; rfl)); intro gb360 hg w8 hbox hb; have n0_ := ak (below_step bq hb); have n1_ := ak (hbox); have n2_ := ak ((by rw [hg]; exact (below_size bq) : w.heap.size ≤ gb360)); have n3_ := ak ((by rw [hg]; exact (below_size bq) : w.heap.size ≤ gb360)); clear HB; have HB := n0_; have BK360 := n1_; have GW360 := n2_; have GE360 := n3_; clear n0_ n1_ n2_ n3_; clear hb hbox hg; obtain ⟨hcz9_0, hcz9_1, hcz9_2, hcz9_3, hcz9_4, hcz9_5⟩ := cz6 BK360.out; obtain ⟨hfz9_0, hfz9_1, hfz9_2, hfz9_3, hfz9_4, hfz9_5⟩ := fz6 BK360.out) | ((with_reducible refine gate_callee (f := 85) rfl ?_); refine goesL_ (some 8) rfl rfl Tryd.func85 (by kernel_rfl) rfl #[.string a0_3] rfl mq ?_; (with_reducible refine (isoglossref06_Language.calls k a0_3 false _ A2.out).mono ?_); rintro e w' ⟨rfl, ⟨nd, rfl⟩⟩; refine ⟨_, rfl, ?_⟩; (try clear A2)))
    go_ret
    exact ⟨by first | rfl | (simp [errW_none, errW_some] <;> rfl) | (simp [*, errW_none, errW_some] <;> rfl), bq⟩
  ·
   rw [if_neg c4] at H
   have c4b0 : (a0_5.toList == ([] : List UInt8)) = false := beq_eq_false_iff_ne.mpr c4
   have c4b1 : (a0_5.toList != ([] : List UInt8)) = true := bne_iff_ne.mpr c4
   have c4b2 : a0_5.toList.isEmpty = false := List.isEmpty_eq_false_iff.mpr c4
   replace H := Option.bind_eq_some_iff.mp H
   obtain ⟨t362, A100, H⟩ := H
   have A10 := ak A100
   clear A100
   by_cases c11 : t361 = true
   ·
    subst c11
    have H1 : (some t362) = some r := by rw [if_pos rfl] at H; exact H
    clear H
    have H := H1
    clear H1
    obtain rfl := Option.some.inj H
    go_enter Tryd.func83, Tryd.ntmps83
    go_wp2_with (first | ((with_reducible refine gate_dst (N := 1) rfl ?_); refine box_event ?hg (N := 1) ?hd (cs := #[.int .i64 a0_0, .string a0_1, .string a0_2, .string a0_3, .string a0_4, .string a0_5]) (t := 50) ?hr ?_; (case hd => rfl); (case hg => rfl); (case hr => first | (go_simp; done) | (go_simp; rfl)); intro gb360 hg w12 hbox hb; have n0_ := ak (below_step bq hb); have n1_ := ak (hbox); have n2_ := ak ((by rw [hg]; exact (below_size bq) : w.heap.size ≤ gb360)); have n3_ := ak ((by rw [hg]; exact (below_size bq) : w.heap.size ≤ gb360)); clear HB; have HB := n0_; have BK360 := n1_; have GW360 := n2_; have GE360 := n3_; clear n0_ n1_ n2_ n3_; clear hb hbox hg; obtain ⟨hcz13_0, hcz13_1, hcz13_2, hcz13_3, hcz13_4, hcz13_5⟩ := cz6 BK360.out; obtain ⟨hfz13_0, hfz13_1, hfz13_2, hfz13_3, hfz13_4, hfz13_5⟩ := fz6 BK360.out) | ((with_reducible refine gate_callee (f := 85) rfl ?_); refine goesL_ (some 8) rfl rfl Tryd.func85 (by kernel_rfl) rfl #[.string a0_3] rfl mq ?_; (with_reducible refine (isoglossref06_Language.calls k a0_3 true _ A2.out).mono ?_); rintro e w' ⟨rfl, ⟨nd, rfl⟩⟩; refine ⟨_, rfl, ?_⟩; (try clear A2)) | (go_at_call 86; (with_reducible refine (isoglossref06_Region.calls k a0_5 t362 _ A10.out).mono ?_); rintro e w' ⟨rfl, ⟨nd, rfl⟩⟩; (try clear A10)))
    go_ret
    exact ⟨by first | rfl | (simp [errW_none, errW_some] <;> rfl) | (simp [*, errW_none, errW_some] <;> rfl), bq⟩
   ·
    replace c11 := Bool.eq_false_iff.mpr c11
    subst c11
    have H1 : (some false) = some r := by rw [if_neg (show ¬ (false = true) by decide)] at H; exact H
    clear H
    have H := H1
    clear H1
    obtain rfl := Option.some.inj H
    go_enter Tryd.func83, Tryd.ntmps83
    go_wp2_with (first | ((with_reducible refine gate_dst (N := 1) rfl ?_); refine box_event ?hg (N := 1) ?hd (cs := #[.int .i64 a0_0, .string a0_1, .string a0_2, .string a0_3, .string a0_4, .string a0_5]) (t := 50) ?hr ?_; (case hd => rfl); (case hg => rfl); (case hr => first | (go_simp; done) | (go_simp; rfl)); intro gb360 hg w14 hbox hb; have n0_ := ak (below_step bq hb); have n1_ := ak (hbox); have n2_ := ak ((by rw [hg]; exact (below_size bq) : w.heap.size ≤ gb360)); have n3_ := ak ((by rw [hg]; exact (below_size bq) : w.heap.size ≤ gb360)); clear HB; have HB := n0_; have BK360 := n1_; have GW360 := n2_; have GE360 := n3_; clear n0_ n1_ n2_ n3_; clear hb hbox hg; obtain ⟨hcz15_0, hcz15_1, hcz15_2, hcz15_3, hcz15_4, hcz15_5⟩ := cz6 BK360.out; obtain ⟨hfz15_0, hfz15_1, hfz15_2, hfz15_3, hfz15_4, hfz15_5⟩ := fz6 BK360.out) | ((with_reducible refine gate_callee (f := 85) rfl ?_); refine goesL_ (some 8) rfl rfl Tryd.func85 (by kernel_rfl) rfl #[.string a0_3] rfl mq ?_; (with_reducible refine (isoglossref06_Language.calls k a0_3 false _ A2.out).mono ?_); rintro e w' ⟨rfl, ⟨nd, rfl⟩⟩; refine ⟨_, rfl, ?_⟩; (try clear A2)) | (go_at_call 86; (with_reducible refine (isoglossref06_Region.calls k a0_5 t362 _ A10.out).mono ?_); rintro e w' ⟨rfl, ⟨nd, rfl⟩⟩; (try clear A10)))
    go_ret
    exact ⟨by first | rfl | (simp [errW_none, errW_some] <;> rfl) | (simp [*, errW_none, errW_some] <;> rfl), bq⟩
 ·
  rw [if_neg c3] at H
  have c3b0 : (a0_4.toList == ([] : List UInt8)) = false := beq_eq_false_iff_ne.mpr c3
  have c3b1 : (a0_4.toList != ([] : List UInt8)) = true := bne_iff_ne.mpr c3
  have c3b2 : a0_4.toList.isEmpty = false := List.isEmpty_eq_false_iff.mpr c3
  replace H := Option.bind_eq_some_iff.mp H
  obtain ⟨t363, A160, H⟩ := H
  have A16 := ak A160
  clear A160
  by_cases c17 : a0_5.toList = ([] : List UInt8)
  ·
   rw [if_pos c17] at H
   have c17b0 : (a0_5.toList == ([] : List UInt8)) = true := beq_iff_eq.mpr c17
   have c17b1 : (a0_5.toList != ([] : List UInt8)) = false := bne_eq_false_iff_eq.mpr c17
   have c17b2 : a0_5.toList.isEmpty = true := List.isEmpty_iff.mpr c17
   clear c17
   by_cases c18 : t361 = true
   ·
    subst c18
    have H1 : (if t363 = true then (some true) else (some false)) = some r := by rw [if_pos rfl] at H; exact H
    clear H
    have H := H1
    clear H1
    by_cases c19 : t363 = true
    ·
     subst c19
     have H1 : (some true) = some r := by rw [if_pos rfl] at H; exact H
     clear H
     have H := H1
     clear H1
     obtain rfl := Option.some.inj H
     go_enter Tryd.func83, Tryd.ntmps83
     go_wp2_with (first | ((with_reducible refine gate_dst (N := 1) rfl ?_); refine box_event ?hg (N := 1) ?hd (cs := #[.int .i64 a0_0, .string a0_1, .string a0_2, .string a0_3, .string a0_4, .string a0_5]) (t := 50) ?hr ?_; (case hd => rfl); (case hg => rfl); (case hr => first | (go_simp; done) | (go_simp; rfl)); intro gb360 hg w20 hbox hb; have n0_ := ak (below_step bq hb); have n1_ := ak (hbox); have n2_ := ak ((by rw [hg]; exact (below_size bq) : w.heap.size ≤ gb360)); have n3_ := ak ((by rw [hg]; exact (below_size bq) : w.heap.size ≤ gb360)); clear HB; have HB := n0_; have BK360 := n1_; have GW360 := n2_; have GE360 := n3_; clear n0_ n1_ n2_ n3_; clear hb hbox hg; obtain ⟨hcz21_0, hcz21_1, hcz21_2, hcz21_3, hcz21_4, hcz21_5⟩ := cz6 BK360.out; obtain ⟨hfz21_0, hfz21_1, hfz21_2, hfz21_3, hfz21_4, hfz21_5⟩ := fz6 BK360.out) | ((with_reducible refine gate_callee (f := 85) rfl ?_); refine goesL_ (some 8) rfl rfl Tryd.func85 (by kernel_rfl) rfl #[.string a0_3] rfl mq ?_; (with_reducible refine (isoglossref06_Language.calls k a0_3 true _ A2.out).mono ?_); rintro e w' ⟨rfl, ⟨nd, rfl⟩⟩; refine ⟨_, rfl, ?_⟩; (try clear A2)) | (go_at_call 87; (with_reducible refine (isoglossref06_Script.calls k a0_4 true _ A16.out).mono ?_); rintro e w' ⟨rfl, ⟨nd, rfl⟩⟩; (try clear A16)))
     go_ret
     exact ⟨by first | rfl | (simp [errW_none, errW_some] <;> rfl) | (simp [*, errW_none, errW_some] <;> rfl), bq⟩
    ·
     replace c19 := Bool.eq_false_iff.mpr c19
     subst c19
     have H1 : (some false) = some r := by rw [if_neg (show ¬ (false = true) by decide)] at H; exact H
     clear H
     have H := H1
     clear H1
     obtain rfl := Option.some.inj H
     go_enter Tryd.func83, Tryd.ntmps83
     go_wp2_with (first | ((with_reducible refine gate_dst (N := 1) rfl ?_); refine box_event ?hg (N := 1) ?hd (cs := #[.int .i64 a0_0, .string a0_1, .string a0_2, .string a0_3, .string a0_4, .string a0_5]) (t := 50) ?hr ?_; (case hd => rfl); (case hg => rfl); (case hr => first | (go_simp; done) | (go_simp; rfl)); intro gb360 hg w22 hbox hb; have n0_ := ak (below_step bq hb); have n1_ := ak (hbox); have n2_ := ak ((by rw [hg]; exact (below_size bq) : w.heap.size ≤ gb360)); have n3_ := ak ((by rw [hg]; exact (below_size bq) : w.heap.size ≤ gb360)); clear HB; have HB := n0_; have BK360 := n1_; have GW360 := n2_; have GE360 := n3_; clear n0_ n1_ n2_ n3_; clear hb hbox hg; obtain ⟨hcz23_0, hcz23_1, hcz23_2, hcz23_3, hcz23_4, hcz23_5⟩ := cz6 BK360.out; obtain ⟨hfz23_0, hfz23_1, hfz23_2, hfz23_3, hfz23_4, hfz23_5⟩ := fz6 BK360.out) | ((with_reducible refine gate_callee (f := 85) rfl ?_); refine goesL_ (some 8) rfl rfl Tryd.func85 (by kernel_rfl) rfl #[.string a0_3] rfl mq ?_; (with_reducible refine (isoglossref06_Language.calls k a0_3 true _ A2.out).mono ?_); rintro e w' ⟨rfl, ⟨nd, rfl⟩⟩; refine ⟨_, rfl, ?_⟩; (try clear A2)) | (go_at_call 87; (with_reducible refine (isoglossref06_Script.calls k a0_4 false _ A16.out).mono ?_); rintro e w' ⟨rfl, ⟨nd, rfl⟩⟩; (try clear A16)))
     go_ret
     exact ⟨by first | rfl | (simp [errW_none, errW_some] <;> rfl) | (simp [*, errW_none, errW_some] <;> rfl), bq⟩
   ·
    replace c18 := Bool.eq_false_iff.mpr c18
    subst c18
    have H1 : (some false) = some r := by rw [if_neg (show ¬ (false = true) by decide)] at H; exact H
    clear H
    have H := H1
    clear H1
    obtain rfl := Option.some.inj H
    go_enter Tryd.func83, Tryd.ntmps83
    go_wp2_with (first | ((with_reducible refine gate_dst (N := 1) rfl ?_); refine box_event ?hg (N := 1) ?hd (cs := #[.int .i64 a0_0, .string a0_1, .string a0_2, .string a0_3, .string a0_4, .string a0_5]) (t := 50) ?hr ?_; (case hd => rfl); (case hg => rfl); (case hr => first | (go_simp; done) | (go_simp; rfl)); intro gb360 hg w24 hbox hb; have n0_ := ak (below_step bq hb); have n1_ := ak (hbox); have n2_ := ak ((by rw [hg]; exact (below_size bq) : w.heap.size ≤ gb360)); have n3_ := ak ((by rw [hg]; exact (below_size bq) : w.heap.size ≤ gb360)); clear HB; have HB := n0_; have BK360 := n1_; have GW360 := n2_; have GE360 := n3_; clear n0_ n1_ n2_ n3_; clear hb hbox hg; obtain ⟨hcz25_0, hcz25_1, hcz25_2, hcz25_3, hcz25_4, hcz25_5⟩ := cz6 BK360.out; obtain ⟨hfz25_0, hfz25_1, hfz25_2, hfz25_3, hfz25_4, hfz25_5⟩ := fz6 BK360.out) | ((with_reducible refine gate_callee (f := 85) rfl ?_); refine goesL_ (some 8) rfl rfl Tryd.func85 (by kernel_rfl) rfl #[.string a0_3] rfl mq ?_; (with_reducible refine (isoglossref06_Language.calls k a0_3 false _ A2.out).mono ?_); rintro e w' ⟨rfl, ⟨nd, rfl⟩⟩; refine ⟨_, rfl, ?_⟩; (try clear A2)) | (go_at_call 87; (with_reducible refine (isoglossref06_Script.calls k a0_4 t363 _ A16.out).mono ?_); rintro e w' ⟨rfl, ⟨nd, rfl⟩⟩; (try clear A16)))
    go_ret
    exact ⟨by first | rfl | (simp [errW_none, errW_some] <;> rfl) | (simp [*, errW_none, errW_some] <;> rfl), bq⟩
  ·
   rw [if_neg c17] at H
   have c17b0 : (a0_5.toList == ([] : List UInt8)) = false := beq_eq_false_iff_ne.mpr c17
   have c17b1 : (a0_5.toList != ([] : List UInt8)) = true := bne_iff_ne.mpr c17
   have c17b2 : a0_5.toList.isEmpty = false := List.isEmpty_eq_false_iff.mpr c17
   replace H := Option.bind_eq_some_iff.mp H
   obtain ⟨t364, A260, H⟩ := H
   have A26 := ak A260
   clear A260
   by_cases c27 : t361 = true
   ·
    subst c27
    have H1 : (if t363 = true then (some t364) else (some false)) = some r := by rw [if_pos rfl] at H; exact H
    clear H
    have H := H1
    clear H1
    by_cases c28 : t363 = true
    ·
     subst c28
     have H1 : (some t364) = some r := by rw [if_pos rfl] at H; exact H
     clear H
     have H := H1
     clear H1
     obtain rfl := Option.some.inj H
     go_enter Tryd.func83, Tryd.ntmps83
     go_wp2_with (first | ((with_reducible refine gate_dst (N := 1) rfl ?_); refine box_event ?hg (N := 1) ?hd (cs := #[.int .i64 a0_0, .string a0_1, .string a0_2, .string a0_3, .string a0_4, .string a0_5]) (t := 50) ?hr ?_; (case hd => rfl); (case hg => rfl); (case hr => first | (go_simp; done) | (go_simp; rfl)); intro gb360 hg w29 hbox hb; have n0_ := ak (below_step bq hb); have n1_ := ak (hbox); have n2_ := ak ((by rw [hg]; exact (below_size bq) : w.heap.size ≤ gb360)); have n3_ := ak ((by rw [hg]; exact (below_size bq) : w.heap.size ≤ gb360)); clear HB; have HB := n0_; have BK360 := n1_; have GW360 := n2_; have GE360 := n3_; clear n0_ n1_ n2_ n3_; clear hb hbox hg; obtain ⟨hcz30_0, hcz30_1, hcz30_2, hcz30_3, hcz30_4, hcz30_5⟩ := cz6 BK360.out; obtain ⟨hfz30_0, hfz30_1, hfz30_2, hfz30_3, hfz30_4, hfz30_5⟩ := fz6 BK360.out) | ((with_reducible refine gate_callee (f := 85) rfl ?_); refine goesL_ (some 8) rfl rfl Tryd.func85 (by kernel_rfl) rfl #[.string a0_3] rfl mq ?_; (with_reducible refine (isoglossref06_Language.calls k a0_3 true _ A2.out).mono ?_); rintro e w' ⟨rfl, ⟨nd, rfl⟩⟩; refine ⟨_, rfl, ?_⟩; (try clear A2)) | (go_at_call 87; (with_reducible refine (isoglossref06_Script.calls k a0_4 true _ A16.out).mono ?_); rintro e w' ⟨rfl, ⟨nd, rfl⟩⟩; (try clear A16)) | (go_at_call 86; (with_reducible refine (isoglossref06_Region.calls k a0_5 t364 _ A26.out).mono ?_); rintro e w' ⟨rfl, ⟨nd, rfl⟩⟩; (try clear A26)))
     go_ret
     exact ⟨by first | rfl | (simp [errW_none, errW_some] <;> rfl) | (simp [*, errW_none, errW_some] <;> rfl), bq⟩
    ·
     replace c28 := Bool.eq_false_iff.mpr c28
     subst c28
     have H1 : (some false) = some r := by rw [if_neg (show ¬ (false = true) by decide)] at H; exact H
     clear H
     have H := H1
     clear H1
     obtain rfl := Option.some.inj H
     go_enter Tryd.func83, Tryd.ntmps83
     go_wp2_with (first | ((with_reducible refine gate_dst (N := 1) rfl ?_); refine box_event ?hg (N := 1) ?hd (cs := #[.int .i64 a0_0, .string a0_1, .string a0_2, .string a0_3, .string a0_4, .string a0_5]) (t := 50) ?hr ?_; (case hd => rfl); (case hg => rfl); (case hr => first | (go_simp; done) | (go_simp; rfl)); intro gb360 hg w31 hbox hb; have n0_ := ak (below_step bq hb); have n1_ := ak (hbox); have n2_ := ak ((by rw [hg]; exact (below_size bq) : w.heap.size ≤ gb360)); have n3_ := ak ((by rw [hg]; exact (below_size bq) : w.heap.size ≤ gb360)); clear HB; have HB := n0_; have BK360 := n1_; have GW360 := n2_; have GE360 := n3_; clear n0_ n1_ n2_ n3_; clear hb hbox hg; obtain ⟨hcz32_0, hcz32_1, hcz32_2, hcz32_3, hcz32_4, hcz32_5⟩ := cz6 BK360.out; obtain ⟨hfz32_0, hfz32_1, hfz32_2, hfz32_3, hfz32_4, hfz32_5⟩ := fz6 BK360.out) | ((with_reducible refine gate_callee (f := 85) rfl ?_); refine goesL_ (some 8) rfl rfl Tryd.func85 (by kernel_rfl) rfl #[.string a0_3] rfl mq ?_; (with_reducible refine (isoglossref06_Language.calls k a0_3 true _ A2.out).mono ?_); rintro e w' ⟨rfl, ⟨nd, rfl⟩⟩; refine ⟨_, rfl, ?_⟩; (try clear A2)) | (go_at_call 87; (with_reducible refine (isoglossref06_Script.calls k a0_4 false _ A16.out).mono ?_); rintro e w' ⟨rfl, ⟨nd, rfl⟩⟩; (try clear A16)) | (go_at_call 86; (with_reducible refine (isoglossref06_Region.calls k a0_5 t364 _ A26.out).mono ?_); rintro e w' ⟨rfl, ⟨nd, rfl⟩⟩; (try clear A26)))
     go_ret
     exact ⟨by first | rfl | (simp [errW_none, errW_some] <;> rfl) | (simp [*, errW_none, errW_some] <;> rfl), bq⟩
   ·
    replace c27 := Bool.eq_false_iff.mpr c27
    subst c27
    have H1 : (some false) = some r := by rw [if_neg (show ¬ (false = true) by decide)] at H; exact H
    clear H
    have H := H1
    clear H1
    obtain rfl := Option.some.inj H
    go_enter Tryd.func83, Tryd.ntmps83
    go_wp2_with (first | ((with_reducible refine gate_dst (N := 1) rfl ?_); refine box_event ?hg (N := 1) ?hd (cs := #[.int .i64 a0_0, .string a0_1, .string a0_2, .string a0_3, .string a0_4, .string a0_5]) (t := 50) ?hr ?_; (case hd => rfl); (case hg => rfl); (case hr => first | (go_simp; done) | (go_simp; rfl)); intro gb360 hg w33 hbox hb; have n0_ := ak (below_step bq hb); have n1_ := ak (hbox); have n2_ := ak ((by rw [hg]; exact (below_size bq) : w.heap.size ≤ gb360)); have n3_ := ak ((by rw [hg]; exact (below_size bq) : w.heap.size ≤ gb360)); clear HB; have HB := n0_; have BK360 := n1_; have GW360 := n2_; have GE360 := n3_; clear n0_ n1_ n2_ n3_; clear hb hbox hg; obtain ⟨hcz34_0, hcz34_1, hcz34_2, hcz34_3, hcz34_4, hcz34_5⟩ := cz6 BK360.out; obtain ⟨hfz34_0, hfz34_1, hfz34_2, hfz34_3, hfz34_4, hfz34_5⟩ := fz6 BK360.out) | ((with_reducible refine gate_callee (f := 85) rfl ?_); refine goesL_ (some 8) rfl rfl Tryd.func85 (by kernel_rfl) rfl #[.string a0_3] rfl mq ?_; (with_reducible refine (isoglossref06_Language.calls k a0_3 false _ A2.out).mono ?_); rintro e w' ⟨rfl, ⟨nd, rfl⟩⟩; refine ⟨_, rfl, ?_⟩; (try clear A2)) | (go_at_call 87; (with_reducible refine (isoglossref06_Script.calls k a0_4 t363 _ A16.out).mono ?_); rintro e w' ⟨rfl, ⟨nd, rfl⟩⟩; (try clear A16)) | (go_at_call 86; (with_reducible refine (isoglossref06_Region.calls k a0_5 t364 _ A26.out).mono ?_); rintro e w' ⟨rfl, ⟨nd, rfl⟩⟩; (try clear A26)))
    go_ret
    exact ⟨by first | rfl | (simp [errW_none, errW_some] <;> rfl) | (simp [*, errW_none, errW_some] <;> rfl), bq⟩

def isoglossref12_word.f (k : Nat) (a0 : ByteArray) (a1 : Int) (a2 : Int) : Option (Bool) := (isoglossref02_Class.f k a0).bind fun t365 => (if t365 > 0 then (if (a0.size : Int) ≥ a1 then (some (decide ((a0.size : Int) ≤ a2))) else (some false)) else (some false))
set_option maxHeartbeats 8000000 in
set_option maxRecDepth 100000 in
theorem isoglossref12_word.calls (k : Nat) (a0 : ByteArray) (a1 : Int) (a2 : Int) (r : Bool) (w : World) (h : isoglossref12_word.f k a0 a1 a2 = some r) :
  Calls Tryd.prog 84 #[.string a0, .int .i64 a1, .int .i64 a2] w fun e w' => e = .returned (.bool r) ∧ Drawn0 w w' := by
 have H : ((isoglossref02_Class.f k a0).bind fun t365 => (if t365 > 0 then (if (a0.size : Int) ≥ a1 then (some (decide ((a0.size : Int) ≤ a2))) else (some false)) else (some false))) = some r := h
 clear h
 replace H := Option.bind_eq_some_iff.mp H
 obtain ⟨t365, A40, H⟩ := H
 have A4 := ak A40
 clear A40
 by_cases c5 : t365 > 0
 ·
  rw [if_pos c5] at H
  have c5b0 : decide (0 < t365) = true := decide_eq_true c5
  clear c5
  by_cases c6 : (a0.size : Int) ≥ a1
  ·
   rw [if_pos c6] at H
   have c6b0 : decide (a1 ≤ (a0.size : Int)) = true := decide_eq_true c6
   clear c6
   obtain rfl := Option.some.inj H
   go_enter Tryd.func84, Tryd.ntmps84
   go_wp2_with (first | ((with_reducible refine gate_callee (f := 82) rfl ?_); refine goesL_ (some 8) rfl rfl Tryd.func82 (by kernel_rfl) rfl #[.string a0] rfl mq ?_; (with_reducible refine (isoglossref02_Class.calls k a0 t365 _ A4.out).mono ?_); rintro e w' ⟨rfl, ⟨nd, rfl⟩⟩; refine ⟨_, rfl, ?_⟩; (try clear A4)))
   go_ret
   exact ⟨by first | rfl | (simp; done) | (simp [*]; done), by repeat (first | exact Drawn0.refl _ | apply Drawn0.step)⟩
  ·
   rw [if_neg c6] at H
   have c6b0 : decide (a1 ≤ (a0.size : Int)) = false := decide_eq_false c6
   clear c6
   obtain rfl := Option.some.inj H
   go_enter Tryd.func84, Tryd.ntmps84
   go_wp2_with (first | ((with_reducible refine gate_callee (f := 82) rfl ?_); refine goesL_ (some 8) rfl rfl Tryd.func82 (by kernel_rfl) rfl #[.string a0] rfl mq ?_; (with_reducible refine (isoglossref02_Class.calls k a0 t365 _ A4.out).mono ?_); rintro e w' ⟨rfl, ⟨nd, rfl⟩⟩; refine ⟨_, rfl, ?_⟩; (try clear A4)))
   go_ret
   exact ⟨by first | rfl | (simp; done) | (simp [*]; done), by repeat (first | exact Drawn0.refl _ | apply Drawn0.step)⟩
 ·
  rw [if_neg c5] at H
  have c5b0 : decide (0 < t365) = false := decide_eq_false c5
  clear c5
  obtain rfl := Option.some.inj H
  go_enter Tryd.func84, Tryd.ntmps84
  go_wp2_with (first | ((with_reducible refine gate_callee (f := 82) rfl ?_); refine goesL_ (some 8) rfl rfl Tryd.func82 (by kernel_rfl) rfl #[.string a0] rfl mq ?_; (with_reducible refine (isoglossref02_Class.calls k a0 t365 _ A4.out).mono ?_); rintro e w' ⟨rfl, ⟨nd, rfl⟩⟩; refine ⟨_, rfl, ?_⟩; (try clear A4)))
  go_ret
  exact ⟨by first | rfl | (simp; done) | (simp [*]; done), by repeat (first | exact Drawn0.refl _ | apply Drawn0.step)⟩

end Go.Proofs.YtmbfnbnlajchmaaDoor.P
