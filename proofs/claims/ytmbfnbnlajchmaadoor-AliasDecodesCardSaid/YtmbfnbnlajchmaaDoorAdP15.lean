/- Made by a program of this seat's own (myprint.py, round the kit's print): what the functions compute, and that they do. -/
import Derived.Test.YtmbfnbnlajchmaaDoorAdP0
import Derived.Test.YtmbfnbnlajchmaaDoorAdP4
import Derived.Test.YtmbfnbnlajchmaaDoorAdP5
import Derived.Test.YtmbfnbnlajchmaaDoorAdP9
import Derived.Test.YtmbfnbnlajchmaaDoorAdP12
import Derived.Test.YtmbfnbnlajchmaaDoorAdP13
import Derived.Test.YtmbfnbnlajchmaaDoorAdP14
import Derived.Test.YtmbfnbnlajchmaaDoorAdTight
namespace Go.Proofs.YtmbfnbnlajchmaaDoor.P
open Go.RowKit Go.Proofs.YtmbfnbnlajchmaaDoorW.PrintWords Go.Proofs.YtmbfnbnlajchmaaDoorW.PrintLast Go.Proofs.YtmbfnbnlajchmaaDoorW.PrintMore
attribute [local go_sem] StrOrd.binOp_gtr StrOrd.binOp_leq max2_int min2_int max_two min_two max_three min_three max_four min_four   -- for this text's walks alone
set_option linter.unusedVariables false
set_option linter.unusedSimpArgs false

def isoglossref12_Right.l0 : Nat → Int → Int → ByteArray → ByteArray → ByteArray → ByteArray → ByteArray → ByteArray → ByteArray → ByteArray → ByteArray → ByteArray → Option (Bool)
 | 0, _, _, _, _, _, _, _, _, _, _, _, _ => none
 | k + 1, x4, x368000, x368001, x368002, x368003, x368004, x368005, x374000, x374001, x374002, x374003, x374004 => if x4 < 5 then (if x4 = 0 then ((isoglossref02_Lower.f k x374000).bind fun t374 => (if x374000.toList = t374.toList then (isoglossref12_Right.l0 k (wrap64 (x4 + 1)) x368000 x368001 x368002 x368003 x368004 x368005 x374000 x374001 x374002 x374003 x374004) else (some false))) else (if x4 = 1 then ((isoglossref02_Lower.f k x374001).bind fun t375 => (if x374001.toList = t375.toList then (isoglossref12_Right.l0 k (wrap64 (x4 + 1)) x368000 x368001 x368002 x368003 x368004 x368005 x374000 x374001 x374002 x374003 x374004) else (some false))) else (if x4 = 2 then ((isoglossref02_Lower.f k x374002).bind fun t376 => (if x374002.toList = t376.toList then (isoglossref12_Right.l0 k (wrap64 (x4 + 1)) x368000 x368001 x368002 x368003 x368004 x368005 x374000 x374001 x374002 x374003 x374004) else (some false))) else (if x4 = 3 then ((isoglossref02_Lower.f k x374003).bind fun t377 => (if x374003.toList = t377.toList then (isoglossref12_Right.l0 k (wrap64 (x4 + 1)) x368000 x368001 x368002 x368003 x368004 x368005 x374000 x374001 x374002 x374003 x374004) else (some false))) else (if x4 = 4 then ((isoglossref02_Lower.f k x374004).bind fun t378 => (if x374004.toList = t378.toList then (isoglossref12_Right.l0 k (wrap64 (x4 + 1)) x368000 x368001 x368002 x368003 x368004 x368005 x374000 x374001 x374002 x374003 x374004) else (some false))) else (none)))))) else ((isoglossref12_target.f k x368000 x368001 x368002 x368003 x368004 x368005).bind fun t379 => (if x368000 = 1 then ((isoglossref12_word.f k x368001 2 2).bind fun t380 => (if t380 = true then ((isoglossref02_Class.f k x368001).bind fun t381 => (if t381 = 2 then (if 0 < (x368001.size : Int) then (if 1 < (x368001.size : Int) then ((isoglossref05_List.f).bind fun t382 => (if (((((bt x368001 0) - 48) % 256) * 10) + (((bt x368001 1) - 48) % 256)) < (t382.length : Int) then (if x368002.toList = ([] : List UInt8) then (some t379) else (some false)) else (some false))) else (none)) else (none)) else (some false))) else (some false))) else (if x368000 = 2 then ((isoglossref06_Language.f k x368001).bind fun t385 => ((isoglossref06_Region.f k x368002).bind fun t386 => (if t385 = true then (if t386 = true then ((isoglossref06_Language.f k x368003).bind fun t387 => (if t387 = true then (if x368004.toList = ([] : List UInt8) then (some (x368005.toList == ([] : List UInt8))) else (some false)) else (some false))) else (some false)) else (some false)))) else (if x368000 = 3 then ((isoglossref06_Language.f k x368001).bind fun t388 => (if t388 = true then (if x368002.toList = ([] : List UInt8) then (some t379) else (some false)) else (some false))) else (if x368000 = 4 then ((isoglossref06_Script.f k x368001).bind fun t389 => (if t389 = true then (if x368002.toList = ([] : List UInt8) then (if x368003.toList = ([] : List UInt8) then ((isoglossref06_Script.f k x368004).bind fun t390 => (if t390 = true then (some (x368005.toList == ([] : List UInt8))) else (some false))) else (some false)) else (some false)) else (some false))) else (if x368000 = 5 then ((isoglossref06_Region.f k x368001).bind fun t391 => (if t391 = true then (if x368002.toList = ([] : List UInt8) then (if x368003.toList = ([] : List UInt8) then (if x368004.toList = ([] : List UInt8) then ((isoglossref06_Region.f k x368005).bind fun t392 => (some t392)) else (some false)) else (some false)) else (some false)) else (some false))) else (if x368000 = 6 then ((isoglossref06_Variant.f k x368001).bind fun t393 => (if t393 = true then (if x368002.toList = ([] : List UInt8) then (if x368003.toList = ([] : List UInt8) then (if x368004.toList = ([] : List UInt8) then (some (x368005.toList == ([] : List UInt8))) else (some false)) else ((isoglossref06_Variant.f k x368003).bind fun t394 => (if t394 = true then (if x368004.toList = ([] : List UInt8) then (some (x368005.toList == ([] : List UInt8))) else (some false)) else (some false)))) else (some false)) else (some false))) else (if x368000 = 7 then ((isoglossref12_word.f k x368001 2 2).bind fun t395 => ((isoglossref12_word.f k x368002 3 8).bind fun t396 => ((isoglossref12_word.f k x368003 3 8).bind fun t397 => (if t395 = true then (if t396 = true then (if t397 = true then (if x368004.toList = ([] : List UInt8) then (some (x368005.toList == ([] : List UInt8))) else (some false)) else (some false)) else (some false)) else (some false))))) else (some false)))))))))
def isoglossref12_Right.f (k : Nat) (a0_0 : Int) (a0_1 : ByteArray) (a0_2 : ByteArray) (a0_3 : ByteArray) (a0_4 : ByteArray) (a0_5 : ByteArray) : Option (Bool) := (isoglossref12_texts.f a0_0 a0_1 a0_2 a0_3 a0_4 a0_5).bind fun bt368 => (isoglossref12_Right.l0 k 0 a0_0 a0_1 a0_2 a0_3 a0_4 a0_5 bt368.1 bt368.2.1 bt368.2.2.1 bt368.2.2.2.1 bt368.2.2.2.2)
def isoglossref12_Right.T5 : Bool × List (List Nat × List Nat) := (true, [([], []), ([0], [0]), ([1], [1]), ([], []), ([3], [3]), ([4], [4]), ([5], [5]), ([2, 6], [2, 6])])
def isoglossref12_Right.B5 : List Nat := [0, 1, 3, 0, 8, 24, 56, 127]
theorem isoglossref12_Right.tab5 : rtab .any (opsOf Tryd.f55 5) = isoglossref12_Right.T5 := by kernel_rfl
theorem isoglossref12_Right.bits5 : waitsOk isoglossref12_Right.T5.2 isoglossref12_Right.B5 = true := by kernel_rfl
def isoglossref12_Right.T11 : Bool × List (List Nat × List Nat) := (true, [([], []), ([0], [0]), ([1], [1]), ([2, 1], [1, 2]), ([3, 1, 1], [1, 3]), ([4, 1], [1, 4]), ([1, 5], [1, 5]), ([6, 4], [6]), ([7], [7]), ([8, 7], [7, 8]), ([9, 7], [7, 9]), ([10, 7], [7, 10]), ([11, 7], [7, 11]), ([12, 7], [7, 12]), ([7], [7]), ([14, 7], [7, 14]), ([15, 7], [7, 15]), ([16, 7], [7, 16]), ([17, 7], [7, 17]), ([13, 18, 7], [7, 13, 18]), ([7, 7], [7]), ([20, 7], [7, 20]), ([19, 21, 7], [7, 19, 21]), ([7, 22], [7, 22]), ([23, 20], [23]), ([24], [24]), ([25, 24], [24, 25]), ([26, 24], [24, 26]), ([24, 27], [24, 27]), ([28, 24], [28]), ([29], [29]), ([29, 30], [29, 30]), ([31, 29, 0, 1, 2, 3, 4, 5, 6, 7, 8, 9, 10, 11, 12, 13, 14, 15, 16, 17, 18, 19, 20, 21, 22, 23, 24, 25, 26, 27, 28, 29, 30, 31], [31])])
def isoglossref12_Right.B11 : List Nat := [0, 1, 3, 7, 15, 31, 63, 127, 255, 511, 1023, 2047, 4095, 8191, 255, 16639, 49407, 114943, 246015, 524287, 255, 1048831, 4194303, 8388607, 16777215, 33554431, 67108863, 134217727, 268435455, 536870911, 1073741823, 2147483647, 4294967295]
theorem isoglossref12_Right.tab11 : rtab .any (opsOf Tryd.f55 11) = isoglossref12_Right.T11 := by kernel_rfl
theorem isoglossref12_Right.bits11 : waitsOk isoglossref12_Right.T11.2 isoglossref12_Right.B11 = true := by kernel_rfl
set_option maxHeartbeats 8000000 in
set_option maxRecDepth 100000 in
theorem isoglossref12_Right.calls (k : Nat) (a0_0 : Int) (a0_1 : ByteArray) (a0_2 : ByteArray) (a0_3 : ByteArray) (a0_4 : ByteArray) (a0_5 : ByteArray) (r : Bool) (w : World) (h : isoglossref12_Right.f k a0_0 a0_1 a0_2 a0_3 a0_4 a0_5 = some r) :
  Calls Tryd.prog 55 #[.agg #[.int .i64 a0_0, .string a0_1, .string a0_2, .string a0_3, .string a0_4, .string a0_5]] w fun e w' => e = .returned (.bool r) ∧ Below w.heap.size w w' := by
 have hu50 := Tryd.underlying50
 have hu98 := Tryd.underlying98
 have HB := ak (Below.refl w.heap.size w)
 have H : ((isoglossref12_texts.f a0_0 a0_1 a0_2 a0_3 a0_4 a0_5).bind fun bt368 => (isoglossref12_Right.l0 k 0 a0_0 a0_1 a0_2 a0_3 a0_4 a0_5 bt368.1 bt368.2.1 bt368.2.2.1 bt368.2.2.2.1 bt368.2.2.2.2)) = some r := h
 clear h
 replace H := Option.bind_eq_some_iff.mp H
 obtain ⟨⟨t368, t369, t370, t371, t372⟩, A20, H⟩ := H
 replace H : (isoglossref12_Right.l0 k 0 a0_0 a0_1 a0_2 a0_3 a0_4 a0_5 t368 t369 t370 t371 t372) = some r := H
 have A2 := ak A20
 clear A20
 have H' := ak H
 clear H
 go_enter Tryd.func55, Tryd.ntmps55
 go_wp2_with (first | ((with_reducible refine gate_dst (N := 1) rfl ?_); (try (refine gate_guard (by rfl) ?_; dsimp only)); refine box_event ?hg (N := 1) ?hd (cs := #[.int .i64 a0_0, .string a0_1, .string a0_2, .string a0_3, .string a0_4, .string a0_5]) (t := 50) ?hr ?_; (case hd => rfl); (case hg => rfl); (case hr => first | (go_simp; done) | (go_simp; rfl)); intro gb367 hg w3 hbox hb; have n0_ := ak (below_step bq hb); have n1_ := ak (hbox); have n2_ := ak ((by rw [hg]; exact (below_size bq) : w.heap.size ≤ gb367)); have n3_ := ak ((by rw [hg]; exact (below_size bq) : w.heap.size ≤ gb367)); clear HB; have HB := n0_; have BK367 := n1_; have GW367 := n2_; have GE367 := n3_; clear n0_ n1_ n2_ n3_; clear hb hbox hg; obtain ⟨hcz4_0, hcz4_1, hcz4_2, hcz4_3, hcz4_4, hcz4_5⟩ := cz6 BK367.out; obtain ⟨hfz4_0, hfz4_1, hfz4_2, hfz4_3, hfz4_4, hfz4_5⟩ := fz6 BK367.out) | ((with_reducible refine gate_callee (f := 75) rfl ?_); refine goesL_ (some 17) rfl rfl Tryd.func75 (by kernel_rfl) rfl #[.agg #[.int .i64 a0_0, .string a0_1, .string a0_2, .string a0_3, .string a0_4, .string a0_5]] rfl mq ?_; (with_reducible refine (isoglossref12_texts.calls a0_0 a0_1 a0_2 a0_3 a0_4 a0_5 t368 t369 t370 t371 t372 _ A2.out).mono ?_); rintro e w5 ⟨rfl, hb⟩; refine ⟨_, rfl, ?_⟩; have n0_ := ak (blk_below (g := gb367) (bx BK367.out) hb); have n1_ := ak (below_step bq hb); clear BK367; clear HB; have BK367 := n0_; have HB := n1_; clear n0_ n1_; (try clear hb); (try clear hb2); (try clear hk); (try clear hi); (try clear A2)) | ((with_reducible refine gate_dst (N := 3) rfl ?_); (try (refine gate_guard (by rfl) ?_; dsimp only)); refine box_event ?hg (N := 3) ?hd (cs := #[.string ⟨#[]⟩, .string ⟨#[]⟩, .string ⟨#[]⟩, .string ⟨#[]⟩, .string ⟨#[]⟩]) (t := 98) ?hr ?_; (case hd => rfl); (case hg => rfl); (case hr => first | (go_simp; done) | (go_simp; rfl)); intro gb373 hg w6 hbox hb; have n0_ := ak (blk_below (g := gb367) (bx BK367.out) hb); have n1_ := ak (below_step bq hb); have n2_ := ak (hbox); have n3_ := ak ((by rw [hg]; exact (below_size bq) : w.heap.size ≤ gb373)); have n4_ := ak ((by rw [hg]; exact (below_size bq) : w.heap.size ≤ gb373)); have n5_ := ak ((by rw [hg]; exact Nat.ne_of_lt (blk_lt (g := gb367) (bx BK367.out)) : gb367 ≠ gb373)); have n6_ := ak ((by rw [hg]; exact Nat.ne_of_gt (blk_lt (g := gb367) (bx BK367.out)) : gb373 ≠ gb367)); clear BK367; clear HB; have BK367 := n0_; have HB := n1_; have BK373 := n2_; have GW373 := n3_; have GE373 := n4_; have NB367_373 := n5_; have NB373_367 := n6_; clear n0_ n1_ n2_ n3_ n4_ n5_ n6_; clear hb hbox hg; have hnb7 := NB373_367.out; have hnc7 := NB367_373.out; obtain ⟨hcz8_0, hcz8_1, hcz8_2, hcz8_3, hcz8_4⟩ := cz5 BK373.out; obtain ⟨hfz8_0, hfz8_1, hfz8_2, hfz8_3, hfz8_4⟩ := fz5 BK373.out))
 go_loopg [4] k (fun kq v4 w' => ∃ (x4_1 : Int), v4 = .int .i64 x4_1 ∧ Aside0 (isoglossref12_Right.l0 kq x4_1 a0_0 a0_1 a0_2 a0_3 a0_4 a0_5 t368 t369 t370 t371 t372 = some r) ∧ Aside0 (kq ≤ k) ∧ Aside0 (w'.heap[gb367]? = some (.cells #[.int .i64 a0_0, .string a0_1, .string a0_2, .string a0_3, .string a0_4, .string a0_5] 50 (0, 0))) ∧ Aside0 (w'.heap[gb373]? = some (.cells #[.string t368, .string t369, .string t370, .string t371, .string t372] 98 (0, 0))) ∧ Aside0 (Below w.heap.size w w'))
 case atStart => exact ⟨(0), (by first | rfl | (simp; done) | (simp [*]; done) | (simp <;> unfold wrap64 <;> omega)), H', ⟨Nat.le_refl _⟩, ⟨(bx (blk_far (bx (blk_far (bx (blk_far (bx (blk_far (bx (blk_far (bx BK367.out) NB367_373.out _)) NB367_373.out _)) NB367_373.out _)) NB367_373.out _)) NB367_373.out _))⟩, ⟨(bx (blk_put (cs := #[.string t368, .string t369, .string t370, .string t371, .string ⟨#[]⟩]) (bx (blk_put (cs := #[.string t368, .string t369, .string t370, .string ⟨#[]⟩, .string ⟨#[]⟩]) (bx (blk_put (cs := #[.string t368, .string t369, .string ⟨#[]⟩, .string ⟨#[]⟩, .string ⟨#[]⟩]) (bx (blk_put (cs := #[.string t368, .string ⟨#[]⟩, .string ⟨#[]⟩, .string ⟨#[]⟩, .string ⟨#[]⟩]) (bx (blk_put (cs := #[.string ⟨#[]⟩, .string ⟨#[]⟩, .string ⟨#[]⟩, .string ⟨#[]⟩, .string ⟨#[]⟩]) (bx BK373.out) 0 _ rfl)) 1 _ rfl)) 2 _ rfl)) 3 _ rfl)) 4 _ rfl))⟩, ⟨bq⟩⟩
 case round =>
  clear H'
  try clear p2
  try clear c5
  try clear c7
  try clear hcz4_0
  try clear hcz4_1
  try clear hcz4_2
  try clear hcz4_3
  try clear hcz4_4
  try clear hcz4_5
  try clear hcz8_0
  try clear hcz8_1
  try clear hcz8_2
  try clear hcz8_3
  try clear hcz8_4
  try clear hfz4_0
  try clear hfz4_1
  try clear hfz4_2
  try clear hfz4_3
  try clear hfz4_4
  try clear hfz4_5
  try clear hfz8_0
  try clear hfz8_1
  try clear hfz8_2
  try clear hfz8_3
  try clear hfz8_4
  obtain ⟨x4_1, rfl, HA, HK1, BK367, BK373, HB⟩ := hrel
  cases gk with
  | zero => exact absurd HA.out (by simp [isoglossref12_Right.l0])
  | succ k1 =>
   have H := HA.out
   clear HA
   simp only [isoglossref12_Right.l0] at H
   by_cases c9 : x4_1 < 5
   ·
    rw [if_pos c9] at H
    have c9b0 : decide (x4_1 < 5) = true := decide_eq_true c9
    clear c9
    by_cases c10 : x4_1 = 0
    ·
     rw [if_pos c10] at H
     have c10b0 : (x4_1 == 0) = true := beq_iff_eq.mpr c10
     have c10b1 : (x4_1 != 0) = false := bne_eq_false_iff_eq.mpr c10
     (try (have c10b2 : (x4_1 : Int).toNat = 0 := by rw [c10]; rfl))
     try have c10b3 : (0 ≤ x4_1) = True := eq_true (by omega)
     try have c10b4_2 : (x4_1 < 2) = True := eq_true (by omega)
     try have c10b4_3 : (x4_1 < 3) = True := eq_true (by omega)
     try have c10b4_5 : (x4_1 < 5) = True := eq_true (by omega)
     clear c10
     replace H := Option.bind_eq_some_iff.mp H
     obtain ⟨t374, A110, H⟩ := H
     have A11 := ak A110
     clear A110
     by_cases c12 : t368.toList = t374.toList
     ·
      rw [if_pos c12] at H
      have c12b0 : (t368.toList == t374.toList) = true := beq_iff_eq.mpr c12
      have c12b1 : (t368.toList != t374.toList) = false := bne_eq_false_iff_eq.mpr c12
      clear c12
      have H' := ak H
      clear H
      try go_wp2
      have n0_ := ak (blk_drew BK367.out)
      have n1_ := ak (blk_drew BK373.out)
      have n2_ := ak (below_drew1 HB.out)
      clear BK367
      clear BK373
      clear HB
      have BK367 := n0_
      have BK373 := n1_
      have HB := n2_
      clear n0_ n1_ n2_
      refine start_ (n := 8) (S := fun w' => w'.cell? ⟨gb373, 0, none⟩ = some (.string t368) ∧ w'.cell? ⟨gb373, 1, none⟩ = some (.string t369) ∧ w'.cell? ⟨gb373, 2, none⟩ = some (.string t370) ∧ w'.cell? ⟨gb373, 3, none⟩ = some (.string t371) ∧ w'.cell? ⟨gb373, 4, none⟩ = some (.string t372)) (ds := []) #[false, false, false, false, false, false, false, false] (by kernel_rfl) rfl rfl ⟨(blk_cell BK373.out 0).trans rfl, (blk_cell BK373.out 1).trans rfl, (blk_cell BK373.out 2).trans rfl, (blk_cell BK373.out 3).trans rfl, (blk_cell BK373.out 4).trans rfl⟩ (fun hHeld => ?_); refine with_tabW isoglossref12_Right.tab5 isoglossref12_Right.bits5 (fun HT_ HW_ => ?_)
      generalize wr.drew = w13 at BK367 BK373 HB hHeld ⊢
      refine pu 0 (some 22) (M 8 1) ?_
      refine pu 1 (some 23) (M 8 3) ?_
      refine pu 3 (some 25) (M 8 11) ?_
      refine pu 4 (some 26) (M 8 27) ?_
      refine take_ (i := 2) (N := some 24) (v := ?_) (a' := ?_) (M 8 31) rfl rfl (take_ofW HT_.out HW_.out (by kernel_rfl)) (fun _ _ _ h => h) (Or.inl ⟨by rfl, ?_⟩) hHeld ?_ ?_
      rotate_left
      ·
       rintro w' ⟨s0, s1, s2, s3, s4⟩
       go_simp
       with_reducible rfl
      rotate_left
      ·
       simp only [Act.put, pA, pB, pC, i64_w, i32_w]
       rfl
      refine take_ (i := 5) (N := some 27) (v := ?_) (a' := ?_) (M 8 63) rfl rfl (take_ofW HT_.out HW_.out (by kernel_rfl)) (fun _ _ _ h => h) (Or.inl ⟨by rfl, ?_⟩) hHeld ?_ ?_
      rotate_left
      ·
       rintro w' ⟨s0, s1, s2, s3, s4⟩
       go_simp
       with_reducible rfl
      rotate_left
      ·
       simp only [Act.put, pA, pB, pC, i64_w, i32_w]
       rfl
      refine one_ (i := 6) (N := some 28) (M 8 127) rfl rfl (one_of HT_.out (by kernel_rfl)) (by decide) (fun K hK => ?_)
      refine goes_ Tryd.func27 (by kernel_rfl) rfl #[.string t368] (by rfl) rfl rfl mq ?_
      with_reducible refine (isoglossref02_Lower.calls k1 t368 t374 _ A11.out).mono ?_
      rintro e w14 ⟨rfl, hb⟩
      refine ⟨_, rfl, ?_⟩
      have n0_ := ak (blk_below (g := gb367) (bx BK367.out) hb)
      have n1_ := ak (blk_below (g := gb373) (bx BK373.out) hb)
      have n2_ := ak (below_step bq hb)
      clear BK367
      clear BK373
      clear HB
      have BK367 := n0_
      have BK373 := n1_
      have HB := n2_
      clear n0_ n1_ n2_
      (try clear hb)
      (try clear hb2)
      (try clear hk)
      (try clear hi)
      refine hK.out _ _ ⟨(blk_cell BK373.out 0).trans rfl, (blk_cell BK373.out 1).trans rfl, (blk_cell BK373.out 2).trans rfl, (blk_cell BK373.out 3).trans rfl, (blk_cell BK373.out 4).trans rfl⟩ (fun hHeld => ?_)
      clear hK K
      refine norm_ (a' := ?_) ?_ ?_
      rotate_left
      ·
       show Act.put _ (some 28) _ = _
       simp only [Act.put, pA, pB, pC, i64_w, i32_w]
       rfl
      refine pu 7 (some 29) (M 8 255) ?_
      refine done_ (done_of HT_.out (by kernel_rfl)) ?_
      try go_wp2
      go_roundg k1
      case measure => have := HK1.out; omega
      case rel => exact ⟨(wrap64 (x4_1 + 1)), (by first | rfl | (simp; done) | (simp [*]; done) | (simp <;> unfold wrap64 <;> omega)), H', ⟨by have := HK1.out; omega⟩, ⟨(bx BK367.out)⟩, ⟨(bx BK373.out)⟩, ⟨bq⟩⟩
     ·
      rw [if_neg c12] at H
      have c12b0 : (t368.toList == t374.toList) = false := beq_eq_false_iff_ne.mpr c12
      have c12b1 : (t368.toList != t374.toList) = true := bne_iff_ne.mpr c12
      obtain rfl := Option.some.inj H
      try go_wp2
      have n0_ := ak (blk_drew BK367.out)
      have n1_ := ak (blk_drew BK373.out)
      have n2_ := ak (below_drew1 HB.out)
      clear BK367
      clear BK373
      clear HB
      have BK367 := n0_
      have BK373 := n1_
      have HB := n2_
      clear n0_ n1_ n2_
      refine start_ (n := 8) (S := fun w' => w'.cell? ⟨gb373, 0, none⟩ = some (.string t368) ∧ w'.cell? ⟨gb373, 1, none⟩ = some (.string t369) ∧ w'.cell? ⟨gb373, 2, none⟩ = some (.string t370) ∧ w'.cell? ⟨gb373, 3, none⟩ = some (.string t371) ∧ w'.cell? ⟨gb373, 4, none⟩ = some (.string t372)) (ds := []) #[false, false, false, false, false, false, false, false] (by kernel_rfl) rfl rfl ⟨(blk_cell BK373.out 0).trans rfl, (blk_cell BK373.out 1).trans rfl, (blk_cell BK373.out 2).trans rfl, (blk_cell BK373.out 3).trans rfl, (blk_cell BK373.out 4).trans rfl⟩ (fun hHeld => ?_); refine with_tabW isoglossref12_Right.tab5 isoglossref12_Right.bits5 (fun HT_ HW_ => ?_)
      generalize wr.drew = w15 at BK367 BK373 HB hHeld ⊢
      refine pu 0 (some 22) (M 8 1) ?_
      refine pu 1 (some 23) (M 8 3) ?_
      refine pu 3 (some 25) (M 8 11) ?_
      refine pu 4 (some 26) (M 8 27) ?_
      refine take_ (i := 2) (N := some 24) (v := ?_) (a' := ?_) (M 8 31) rfl rfl (take_ofW HT_.out HW_.out (by kernel_rfl)) (fun _ _ _ h => h) (Or.inl ⟨by rfl, ?_⟩) hHeld ?_ ?_
      rotate_left
      ·
       rintro w' ⟨s0, s1, s2, s3, s4⟩
       go_simp
       with_reducible rfl
      rotate_left
      ·
       simp only [Act.put, pA, pB, pC, i64_w, i32_w]
       rfl
      refine take_ (i := 5) (N := some 27) (v := ?_) (a' := ?_) (M 8 63) rfl rfl (take_ofW HT_.out HW_.out (by kernel_rfl)) (fun _ _ _ h => h) (Or.inl ⟨by rfl, ?_⟩) hHeld ?_ ?_
      rotate_left
      ·
       rintro w' ⟨s0, s1, s2, s3, s4⟩
       go_simp
       with_reducible rfl
      rotate_left
      ·
       simp only [Act.put, pA, pB, pC, i64_w, i32_w]
       rfl
      refine one_ (i := 6) (N := some 28) (M 8 127) rfl rfl (one_of HT_.out (by kernel_rfl)) (by decide) (fun K hK => ?_)
      refine goes_ Tryd.func27 (by kernel_rfl) rfl #[.string t368] (by rfl) rfl rfl mq ?_
      with_reducible refine (isoglossref02_Lower.calls k1 t368 t374 _ A11.out).mono ?_
      rintro e w16 ⟨rfl, hb⟩
      refine ⟨_, rfl, ?_⟩
      have n0_ := ak (blk_below (g := gb367) (bx BK367.out) hb)
      have n1_ := ak (blk_below (g := gb373) (bx BK373.out) hb)
      have n2_ := ak (below_step bq hb)
      clear BK367
      clear BK373
      clear HB
      have BK367 := n0_
      have BK373 := n1_
      have HB := n2_
      clear n0_ n1_ n2_
      (try clear hb)
      (try clear hb2)
      (try clear hk)
      (try clear hi)
      refine hK.out _ _ ⟨(blk_cell BK373.out 0).trans rfl, (blk_cell BK373.out 1).trans rfl, (blk_cell BK373.out 2).trans rfl, (blk_cell BK373.out 3).trans rfl, (blk_cell BK373.out 4).trans rfl⟩ (fun hHeld => ?_)
      clear hK K
      refine norm_ (a' := ?_) ?_ ?_
      rotate_left
      ·
       show Act.put _ (some 28) _ = _
       simp only [Act.put, pA, pB, pC, i64_w, i32_w]
       rfl
      refine pu 7 (some 29) (M 8 255) ?_
      refine done_ (done_of HT_.out (by kernel_rfl)) ?_
      try go_wp2
      go_ret
      exact ⟨by first | rfl | (simp [errW_none, errW_some] <;> rfl) | (simp [*, errW_none, errW_some] <;> rfl), bq⟩
    ·
     rw [if_neg c10] at H
     have c10b0 : (x4_1 == 0) = false := beq_eq_false_iff_ne.mpr c10
     have c10b1 : (x4_1 != 0) = true := bne_iff_ne.mpr c10
     by_cases c17 : x4_1 = 1
     ·
      rw [if_pos c17] at H
      have c17b0 : (x4_1 == 1) = true := beq_iff_eq.mpr c17
      have c17b1 : (x4_1 != 1) = false := bne_eq_false_iff_eq.mpr c17
      (try (have c17b2 : (x4_1 : Int).toNat = 1 := by rw [c17]; rfl))
      try have c17b3 : (0 ≤ x4_1) = True := eq_true (by omega)
      try have c17b4_2 : (x4_1 < 2) = True := eq_true (by omega)
      try have c17b4_3 : (x4_1 < 3) = True := eq_true (by omega)
      try have c17b4_5 : (x4_1 < 5) = True := eq_true (by omega)
      clear c17
      replace H := Option.bind_eq_some_iff.mp H
      obtain ⟨t375, A180, H⟩ := H
      have A18 := ak A180
      clear A180
      by_cases c19 : t369.toList = t375.toList
      ·
       rw [if_pos c19] at H
       have c19b0 : (t369.toList == t375.toList) = true := beq_iff_eq.mpr c19
       have c19b1 : (t369.toList != t375.toList) = false := bne_eq_false_iff_eq.mpr c19
       clear c19
       have H' := ak H
       clear H
       try go_wp2
       have n0_ := ak (blk_drew BK367.out)
       have n1_ := ak (blk_drew BK373.out)
       have n2_ := ak (below_drew1 HB.out)
       clear BK367
       clear BK373
       clear HB
       have BK367 := n0_
       have BK373 := n1_
       have HB := n2_
       clear n0_ n1_ n2_
       refine start_ (n := 8) (S := fun w' => w'.cell? ⟨gb373, 0, none⟩ = some (.string t368) ∧ w'.cell? ⟨gb373, 1, none⟩ = some (.string t369) ∧ w'.cell? ⟨gb373, 2, none⟩ = some (.string t370) ∧ w'.cell? ⟨gb373, 3, none⟩ = some (.string t371) ∧ w'.cell? ⟨gb373, 4, none⟩ = some (.string t372)) (ds := []) #[false, false, false, false, false, false, false, false] (by kernel_rfl) rfl rfl ⟨(blk_cell BK373.out 0).trans rfl, (blk_cell BK373.out 1).trans rfl, (blk_cell BK373.out 2).trans rfl, (blk_cell BK373.out 3).trans rfl, (blk_cell BK373.out 4).trans rfl⟩ (fun hHeld => ?_); refine with_tabW isoglossref12_Right.tab5 isoglossref12_Right.bits5 (fun HT_ HW_ => ?_)
       generalize wr.drew = w20 at BK367 BK373 HB hHeld ⊢
       refine pu 0 (some 22) (M 8 1) ?_
       refine pu 1 (some 23) (M 8 3) ?_
       refine pu 3 (some 25) (M 8 11) ?_
       refine pu 4 (some 26) (M 8 27) ?_
       refine take_ (i := 2) (N := some 24) (v := ?_) (a' := ?_) (M 8 31) rfl rfl (take_ofW HT_.out HW_.out (by kernel_rfl)) (fun _ _ _ h => h) (Or.inl ⟨by rfl, ?_⟩) hHeld ?_ ?_
       rotate_left
       ·
        rintro w' ⟨s0, s1, s2, s3, s4⟩
        go_simp
        with_reducible rfl
       rotate_left
       ·
        simp only [Act.put, pA, pB, pC, i64_w, i32_w]
        rfl
       refine take_ (i := 5) (N := some 27) (v := ?_) (a' := ?_) (M 8 63) rfl rfl (take_ofW HT_.out HW_.out (by kernel_rfl)) (fun _ _ _ h => h) (Or.inl ⟨by rfl, ?_⟩) hHeld ?_ ?_
       rotate_left
       ·
        rintro w' ⟨s0, s1, s2, s3, s4⟩
        go_simp
        with_reducible rfl
       rotate_left
       ·
        simp only [Act.put, pA, pB, pC, i64_w, i32_w]
        rfl
       refine one_ (i := 6) (N := some 28) (M 8 127) rfl rfl (one_of HT_.out (by kernel_rfl)) (by decide) (fun K hK => ?_)
       refine goes_ Tryd.func27 (by kernel_rfl) rfl #[.string t369] (by rfl) rfl rfl mq ?_
       with_reducible refine (isoglossref02_Lower.calls k1 t369 t375 _ A18.out).mono ?_
       rintro e w21 ⟨rfl, hb⟩
       refine ⟨_, rfl, ?_⟩
       have n0_ := ak (blk_below (g := gb367) (bx BK367.out) hb)
       have n1_ := ak (blk_below (g := gb373) (bx BK373.out) hb)
       have n2_ := ak (below_step bq hb)
       clear BK367
       clear BK373
       clear HB
       have BK367 := n0_
       have BK373 := n1_
       have HB := n2_
       clear n0_ n1_ n2_
       (try clear hb)
       (try clear hb2)
       (try clear hk)
       (try clear hi)
       refine hK.out _ _ ⟨(blk_cell BK373.out 0).trans rfl, (blk_cell BK373.out 1).trans rfl, (blk_cell BK373.out 2).trans rfl, (blk_cell BK373.out 3).trans rfl, (blk_cell BK373.out 4).trans rfl⟩ (fun hHeld => ?_)
       clear hK K
       refine norm_ (a' := ?_) ?_ ?_
       rotate_left
       ·
        show Act.put _ (some 28) _ = _
        simp only [Act.put, pA, pB, pC, i64_w, i32_w]
        rfl
       refine pu 7 (some 29) (M 8 255) ?_
       refine done_ (done_of HT_.out (by kernel_rfl)) ?_
       try go_wp2
       go_roundg k1
       case measure => have := HK1.out; omega
       case rel => exact ⟨(wrap64 (x4_1 + 1)), (by first | rfl | (simp; done) | (simp [*]; done) | (simp <;> unfold wrap64 <;> omega)), H', ⟨by have := HK1.out; omega⟩, ⟨(bx BK367.out)⟩, ⟨(bx BK373.out)⟩, ⟨bq⟩⟩
      ·
       rw [if_neg c19] at H
       have c19b0 : (t369.toList == t375.toList) = false := beq_eq_false_iff_ne.mpr c19
       have c19b1 : (t369.toList != t375.toList) = true := bne_iff_ne.mpr c19
       obtain rfl := Option.some.inj H
       try go_wp2
       have n0_ := ak (blk_drew BK367.out)
       have n1_ := ak (blk_drew BK373.out)
       have n2_ := ak (below_drew1 HB.out)
       clear BK367
       clear BK373
       clear HB
       have BK367 := n0_
       have BK373 := n1_
       have HB := n2_
       clear n0_ n1_ n2_
       refine start_ (n := 8) (S := fun w' => w'.cell? ⟨gb373, 0, none⟩ = some (.string t368) ∧ w'.cell? ⟨gb373, 1, none⟩ = some (.string t369) ∧ w'.cell? ⟨gb373, 2, none⟩ = some (.string t370) ∧ w'.cell? ⟨gb373, 3, none⟩ = some (.string t371) ∧ w'.cell? ⟨gb373, 4, none⟩ = some (.string t372)) (ds := []) #[false, false, false, false, false, false, false, false] (by kernel_rfl) rfl rfl ⟨(blk_cell BK373.out 0).trans rfl, (blk_cell BK373.out 1).trans rfl, (blk_cell BK373.out 2).trans rfl, (blk_cell BK373.out 3).trans rfl, (blk_cell BK373.out 4).trans rfl⟩ (fun hHeld => ?_); refine with_tabW isoglossref12_Right.tab5 isoglossref12_Right.bits5 (fun HT_ HW_ => ?_)
       generalize wr.drew = w22 at BK367 BK373 HB hHeld ⊢
       refine pu 0 (some 22) (M 8 1) ?_
       refine pu 1 (some 23) (M 8 3) ?_
       refine pu 3 (some 25) (M 8 11) ?_
       refine pu 4 (some 26) (M 8 27) ?_
       refine take_ (i := 2) (N := some 24) (v := ?_) (a' := ?_) (M 8 31) rfl rfl (take_ofW HT_.out HW_.out (by kernel_rfl)) (fun _ _ _ h => h) (Or.inl ⟨by rfl, ?_⟩) hHeld ?_ ?_
       rotate_left
       ·
        rintro w' ⟨s0, s1, s2, s3, s4⟩
        go_simp
        with_reducible rfl
       rotate_left
       ·
        simp only [Act.put, pA, pB, pC, i64_w, i32_w]
        rfl
       refine take_ (i := 5) (N := some 27) (v := ?_) (a' := ?_) (M 8 63) rfl rfl (take_ofW HT_.out HW_.out (by kernel_rfl)) (fun _ _ _ h => h) (Or.inl ⟨by rfl, ?_⟩) hHeld ?_ ?_
       rotate_left
       ·
        rintro w' ⟨s0, s1, s2, s3, s4⟩
        go_simp
        with_reducible rfl
       rotate_left
       ·
        simp only [Act.put, pA, pB, pC, i64_w, i32_w]
        rfl
       refine one_ (i := 6) (N := some 28) (M 8 127) rfl rfl (one_of HT_.out (by kernel_rfl)) (by decide) (fun K hK => ?_)
       refine goes_ Tryd.func27 (by kernel_rfl) rfl #[.string t369] (by rfl) rfl rfl mq ?_
       with_reducible refine (isoglossref02_Lower.calls k1 t369 t375 _ A18.out).mono ?_
       rintro e w23 ⟨rfl, hb⟩
       refine ⟨_, rfl, ?_⟩
       have n0_ := ak (blk_below (g := gb367) (bx BK367.out) hb)
       have n1_ := ak (blk_below (g := gb373) (bx BK373.out) hb)
       have n2_ := ak (below_step bq hb)
       clear BK367
       clear BK373
       clear HB
       have BK367 := n0_
       have BK373 := n1_
       have HB := n2_
       clear n0_ n1_ n2_
       (try clear hb)
       (try clear hb2)
       (try clear hk)
       (try clear hi)
       refine hK.out _ _ ⟨(blk_cell BK373.out 0).trans rfl, (blk_cell BK373.out 1).trans rfl, (blk_cell BK373.out 2).trans rfl, (blk_cell BK373.out 3).trans rfl, (blk_cell BK373.out 4).trans rfl⟩ (fun hHeld => ?_)
       clear hK K
       refine norm_ (a' := ?_) ?_ ?_
       rotate_left
       ·
        show Act.put _ (some 28) _ = _
        simp only [Act.put, pA, pB, pC, i64_w, i32_w]
        rfl
       refine pu 7 (some 29) (M 8 255) ?_
       refine done_ (done_of HT_.out (by kernel_rfl)) ?_
       try go_wp2
       go_ret
       exact ⟨by first | rfl | (simp [errW_none, errW_some] <;> rfl) | (simp [*, errW_none, errW_some] <;> rfl), bq⟩
     ·
      rw [if_neg c17] at H
      have c17b0 : (x4_1 == 1) = false := beq_eq_false_iff_ne.mpr c17
      have c17b1 : (x4_1 != 1) = true := bne_iff_ne.mpr c17
      by_cases c24 : x4_1 = 2
      ·
       rw [if_pos c24] at H
       have c24b0 : (x4_1 == 2) = true := beq_iff_eq.mpr c24
       have c24b1 : (x4_1 != 2) = false := bne_eq_false_iff_eq.mpr c24
       (try (have c24b2 : (x4_1 : Int).toNat = 2 := by rw [c24]; rfl))
       try have c24b3 : (0 ≤ x4_1) = True := eq_true (by omega)
       try have c24b4_3 : (x4_1 < 3) = True := eq_true (by omega)
       try have c24b4_5 : (x4_1 < 5) = True := eq_true (by omega)
       clear c24
       replace H := Option.bind_eq_some_iff.mp H
       obtain ⟨t376, A250, H⟩ := H
       have A25 := ak A250
       clear A250
       by_cases c26 : t370.toList = t376.toList
       ·
        rw [if_pos c26] at H
        have c26b0 : (t370.toList == t376.toList) = true := beq_iff_eq.mpr c26
        have c26b1 : (t370.toList != t376.toList) = false := bne_eq_false_iff_eq.mpr c26
        clear c26
        have H' := ak H
        clear H
        try go_wp2
        have n0_ := ak (blk_drew BK367.out)
        have n1_ := ak (blk_drew BK373.out)
        have n2_ := ak (below_drew1 HB.out)
        clear BK367
        clear BK373
        clear HB
        have BK367 := n0_
        have BK373 := n1_
        have HB := n2_
        clear n0_ n1_ n2_
        refine start_ (n := 8) (S := fun w' => w'.cell? ⟨gb373, 0, none⟩ = some (.string t368) ∧ w'.cell? ⟨gb373, 1, none⟩ = some (.string t369) ∧ w'.cell? ⟨gb373, 2, none⟩ = some (.string t370) ∧ w'.cell? ⟨gb373, 3, none⟩ = some (.string t371) ∧ w'.cell? ⟨gb373, 4, none⟩ = some (.string t372)) (ds := []) #[false, false, false, false, false, false, false, false] (by kernel_rfl) rfl rfl ⟨(blk_cell BK373.out 0).trans rfl, (blk_cell BK373.out 1).trans rfl, (blk_cell BK373.out 2).trans rfl, (blk_cell BK373.out 3).trans rfl, (blk_cell BK373.out 4).trans rfl⟩ (fun hHeld => ?_); refine with_tabW isoglossref12_Right.tab5 isoglossref12_Right.bits5 (fun HT_ HW_ => ?_)
        generalize wr.drew = w27 at BK367 BK373 HB hHeld ⊢
        refine pu 0 (some 22) (M 8 1) ?_
        refine pu 1 (some 23) (M 8 3) ?_
        refine pu 3 (some 25) (M 8 11) ?_
        refine pu 4 (some 26) (M 8 27) ?_
        refine take_ (i := 2) (N := some 24) (v := ?_) (a' := ?_) (M 8 31) rfl rfl (take_ofW HT_.out HW_.out (by kernel_rfl)) (fun _ _ _ h => h) (Or.inl ⟨by rfl, ?_⟩) hHeld ?_ ?_
        rotate_left
        ·
         rintro w' ⟨s0, s1, s2, s3, s4⟩
         go_simp
         with_reducible rfl
        rotate_left
        ·
         simp only [Act.put, pA, pB, pC, i64_w, i32_w]
         rfl
        refine take_ (i := 5) (N := some 27) (v := ?_) (a' := ?_) (M 8 63) rfl rfl (take_ofW HT_.out HW_.out (by kernel_rfl)) (fun _ _ _ h => h) (Or.inl ⟨by rfl, ?_⟩) hHeld ?_ ?_
        rotate_left
        ·
         rintro w' ⟨s0, s1, s2, s3, s4⟩
         go_simp
         with_reducible rfl
        rotate_left
        ·
         simp only [Act.put, pA, pB, pC, i64_w, i32_w]
         rfl
        refine one_ (i := 6) (N := some 28) (M 8 127) rfl rfl (one_of HT_.out (by kernel_rfl)) (by decide) (fun K hK => ?_)
        refine goes_ Tryd.func27 (by kernel_rfl) rfl #[.string t370] (by rfl) rfl rfl mq ?_
        with_reducible refine (isoglossref02_Lower.calls k1 t370 t376 _ A25.out).mono ?_
        rintro e w28 ⟨rfl, hb⟩
        refine ⟨_, rfl, ?_⟩
        have n0_ := ak (blk_below (g := gb367) (bx BK367.out) hb)
        have n1_ := ak (blk_below (g := gb373) (bx BK373.out) hb)
        have n2_ := ak (below_step bq hb)
        clear BK367
        clear BK373
        clear HB
        have BK367 := n0_
        have BK373 := n1_
        have HB := n2_
        clear n0_ n1_ n2_
        (try clear hb)
        (try clear hb2)
        (try clear hk)
        (try clear hi)
        refine hK.out _ _ ⟨(blk_cell BK373.out 0).trans rfl, (blk_cell BK373.out 1).trans rfl, (blk_cell BK373.out 2).trans rfl, (blk_cell BK373.out 3).trans rfl, (blk_cell BK373.out 4).trans rfl⟩ (fun hHeld => ?_)
        clear hK K
        refine norm_ (a' := ?_) ?_ ?_
        rotate_left
        ·
         show Act.put _ (some 28) _ = _
         simp only [Act.put, pA, pB, pC, i64_w, i32_w]
         rfl
        refine pu 7 (some 29) (M 8 255) ?_
        refine done_ (done_of HT_.out (by kernel_rfl)) ?_
        try go_wp2
        go_roundg k1
        case measure => have := HK1.out; omega
        case rel => exact ⟨(wrap64 (x4_1 + 1)), (by first | rfl | (simp; done) | (simp [*]; done) | (simp <;> unfold wrap64 <;> omega)), H', ⟨by have := HK1.out; omega⟩, ⟨(bx BK367.out)⟩, ⟨(bx BK373.out)⟩, ⟨bq⟩⟩
       ·
        rw [if_neg c26] at H
        have c26b0 : (t370.toList == t376.toList) = false := beq_eq_false_iff_ne.mpr c26
        have c26b1 : (t370.toList != t376.toList) = true := bne_iff_ne.mpr c26
        obtain rfl := Option.some.inj H
        try go_wp2
        have n0_ := ak (blk_drew BK367.out)
        have n1_ := ak (blk_drew BK373.out)
        have n2_ := ak (below_drew1 HB.out)
        clear BK367
        clear BK373
        clear HB
        have BK367 := n0_
        have BK373 := n1_
        have HB := n2_
        clear n0_ n1_ n2_
        refine start_ (n := 8) (S := fun w' => w'.cell? ⟨gb373, 0, none⟩ = some (.string t368) ∧ w'.cell? ⟨gb373, 1, none⟩ = some (.string t369) ∧ w'.cell? ⟨gb373, 2, none⟩ = some (.string t370) ∧ w'.cell? ⟨gb373, 3, none⟩ = some (.string t371) ∧ w'.cell? ⟨gb373, 4, none⟩ = some (.string t372)) (ds := []) #[false, false, false, false, false, false, false, false] (by kernel_rfl) rfl rfl ⟨(blk_cell BK373.out 0).trans rfl, (blk_cell BK373.out 1).trans rfl, (blk_cell BK373.out 2).trans rfl, (blk_cell BK373.out 3).trans rfl, (blk_cell BK373.out 4).trans rfl⟩ (fun hHeld => ?_); refine with_tabW isoglossref12_Right.tab5 isoglossref12_Right.bits5 (fun HT_ HW_ => ?_)
        generalize wr.drew = w29 at BK367 BK373 HB hHeld ⊢
        refine pu 0 (some 22) (M 8 1) ?_
        refine pu 1 (some 23) (M 8 3) ?_
        refine pu 3 (some 25) (M 8 11) ?_
        refine pu 4 (some 26) (M 8 27) ?_
        refine take_ (i := 2) (N := some 24) (v := ?_) (a' := ?_) (M 8 31) rfl rfl (take_ofW HT_.out HW_.out (by kernel_rfl)) (fun _ _ _ h => h) (Or.inl ⟨by rfl, ?_⟩) hHeld ?_ ?_
        rotate_left
        ·
         rintro w' ⟨s0, s1, s2, s3, s4⟩
         go_simp
         with_reducible rfl
        rotate_left
        ·
         simp only [Act.put, pA, pB, pC, i64_w, i32_w]
         rfl
        refine take_ (i := 5) (N := some 27) (v := ?_) (a' := ?_) (M 8 63) rfl rfl (take_ofW HT_.out HW_.out (by kernel_rfl)) (fun _ _ _ h => h) (Or.inl ⟨by rfl, ?_⟩) hHeld ?_ ?_
        rotate_left
        ·
         rintro w' ⟨s0, s1, s2, s3, s4⟩
         go_simp
         with_reducible rfl
        rotate_left
        ·
         simp only [Act.put, pA, pB, pC, i64_w, i32_w]
         rfl
        refine one_ (i := 6) (N := some 28) (M 8 127) rfl rfl (one_of HT_.out (by kernel_rfl)) (by decide) (fun K hK => ?_)
        refine goes_ Tryd.func27 (by kernel_rfl) rfl #[.string t370] (by rfl) rfl rfl mq ?_
        with_reducible refine (isoglossref02_Lower.calls k1 t370 t376 _ A25.out).mono ?_
        rintro e w30 ⟨rfl, hb⟩
        refine ⟨_, rfl, ?_⟩
        have n0_ := ak (blk_below (g := gb367) (bx BK367.out) hb)
        have n1_ := ak (blk_below (g := gb373) (bx BK373.out) hb)
        have n2_ := ak (below_step bq hb)
        clear BK367
        clear BK373
        clear HB
        have BK367 := n0_
        have BK373 := n1_
        have HB := n2_
        clear n0_ n1_ n2_
        (try clear hb)
        (try clear hb2)
        (try clear hk)
        (try clear hi)
        refine hK.out _ _ ⟨(blk_cell BK373.out 0).trans rfl, (blk_cell BK373.out 1).trans rfl, (blk_cell BK373.out 2).trans rfl, (blk_cell BK373.out 3).trans rfl, (blk_cell BK373.out 4).trans rfl⟩ (fun hHeld => ?_)
        clear hK K
        refine norm_ (a' := ?_) ?_ ?_
        rotate_left
        ·
         show Act.put _ (some 28) _ = _
         simp only [Act.put, pA, pB, pC, i64_w, i32_w]
         rfl
        refine pu 7 (some 29) (M 8 255) ?_
        refine done_ (done_of HT_.out (by kernel_rfl)) ?_
        try go_wp2
        go_ret
        exact ⟨by first | rfl | (simp [errW_none, errW_some] <;> rfl) | (simp [*, errW_none, errW_some] <;> rfl), bq⟩
      ·
       rw [if_neg c24] at H
       have c24b0 : (x4_1 == 2) = false := beq_eq_false_iff_ne.mpr c24
       have c24b1 : (x4_1 != 2) = true := bne_iff_ne.mpr c24
       by_cases c31 : x4_1 = 3
       ·
        rw [if_pos c31] at H
        have c31b0 : (x4_1 == 3) = true := beq_iff_eq.mpr c31
        have c31b1 : (x4_1 != 3) = false := bne_eq_false_iff_eq.mpr c31
        (try (have c31b2 : (x4_1 : Int).toNat = 3 := by rw [c31]; rfl))
        try have c31b3 : (0 ≤ x4_1) = True := eq_true (by omega)
        try have c31b4_5 : (x4_1 < 5) = True := eq_true (by omega)
        clear c31
        replace H := Option.bind_eq_some_iff.mp H
        obtain ⟨t377, A320, H⟩ := H
        have A32 := ak A320
        clear A320
        by_cases c33 : t371.toList = t377.toList
        ·
         rw [if_pos c33] at H
         have c33b0 : (t371.toList == t377.toList) = true := beq_iff_eq.mpr c33
         have c33b1 : (t371.toList != t377.toList) = false := bne_eq_false_iff_eq.mpr c33
         clear c33
         have H' := ak H
         clear H
         try go_wp2
         have n0_ := ak (blk_drew BK367.out)
         have n1_ := ak (blk_drew BK373.out)
         have n2_ := ak (below_drew1 HB.out)
         clear BK367
         clear BK373
         clear HB
         have BK367 := n0_
         have BK373 := n1_
         have HB := n2_
         clear n0_ n1_ n2_
         refine start_ (n := 8) (S := fun w' => w'.cell? ⟨gb373, 0, none⟩ = some (.string t368) ∧ w'.cell? ⟨gb373, 1, none⟩ = some (.string t369) ∧ w'.cell? ⟨gb373, 2, none⟩ = some (.string t370) ∧ w'.cell? ⟨gb373, 3, none⟩ = some (.string t371) ∧ w'.cell? ⟨gb373, 4, none⟩ = some (.string t372)) (ds := []) #[false, false, false, false, false, false, false, false] (by kernel_rfl) rfl rfl ⟨(blk_cell BK373.out 0).trans rfl, (blk_cell BK373.out 1).trans rfl, (blk_cell BK373.out 2).trans rfl, (blk_cell BK373.out 3).trans rfl, (blk_cell BK373.out 4).trans rfl⟩ (fun hHeld => ?_); refine with_tabW isoglossref12_Right.tab5 isoglossref12_Right.bits5 (fun HT_ HW_ => ?_)
         generalize wr.drew = w34 at BK367 BK373 HB hHeld ⊢
         refine pu 0 (some 22) (M 8 1) ?_
         refine pu 1 (some 23) (M 8 3) ?_
         refine pu 3 (some 25) (M 8 11) ?_
         refine pu 4 (some 26) (M 8 27) ?_
         refine take_ (i := 2) (N := some 24) (v := ?_) (a' := ?_) (M 8 31) rfl rfl (take_ofW HT_.out HW_.out (by kernel_rfl)) (fun _ _ _ h => h) (Or.inl ⟨by rfl, ?_⟩) hHeld ?_ ?_
         rotate_left
         ·
          rintro w' ⟨s0, s1, s2, s3, s4⟩
          go_simp
          with_reducible rfl
         rotate_left
         ·
          simp only [Act.put, pA, pB, pC, i64_w, i32_w]
          rfl
         refine take_ (i := 5) (N := some 27) (v := ?_) (a' := ?_) (M 8 63) rfl rfl (take_ofW HT_.out HW_.out (by kernel_rfl)) (fun _ _ _ h => h) (Or.inl ⟨by rfl, ?_⟩) hHeld ?_ ?_
         rotate_left
         ·
          rintro w' ⟨s0, s1, s2, s3, s4⟩
          go_simp
          with_reducible rfl
         rotate_left
         ·
          simp only [Act.put, pA, pB, pC, i64_w, i32_w]
          rfl
         refine one_ (i := 6) (N := some 28) (M 8 127) rfl rfl (one_of HT_.out (by kernel_rfl)) (by decide) (fun K hK => ?_)
         refine goes_ Tryd.func27 (by kernel_rfl) rfl #[.string t371] (by rfl) rfl rfl mq ?_
         with_reducible refine (isoglossref02_Lower.calls k1 t371 t377 _ A32.out).mono ?_
         rintro e w35 ⟨rfl, hb⟩
         refine ⟨_, rfl, ?_⟩
         have n0_ := ak (blk_below (g := gb367) (bx BK367.out) hb)
         have n1_ := ak (blk_below (g := gb373) (bx BK373.out) hb)
         have n2_ := ak (below_step bq hb)
         clear BK367
         clear BK373
         clear HB
         have BK367 := n0_
         have BK373 := n1_
         have HB := n2_
         clear n0_ n1_ n2_
         (try clear hb)
         (try clear hb2)
         (try clear hk)
         (try clear hi)
         refine hK.out _ _ ⟨(blk_cell BK373.out 0).trans rfl, (blk_cell BK373.out 1).trans rfl, (blk_cell BK373.out 2).trans rfl, (blk_cell BK373.out 3).trans rfl, (blk_cell BK373.out 4).trans rfl⟩ (fun hHeld => ?_)
         clear hK K
         refine norm_ (a' := ?_) ?_ ?_
         rotate_left
         ·
          show Act.put _ (some 28) _ = _
          simp only [Act.put, pA, pB, pC, i64_w, i32_w]
          rfl
         refine pu 7 (some 29) (M 8 255) ?_
         refine done_ (done_of HT_.out (by kernel_rfl)) ?_
         try go_wp2
         go_roundg k1
         case measure => have := HK1.out; omega
         case rel => exact ⟨(wrap64 (x4_1 + 1)), (by first | rfl | (simp; done) | (simp [*]; done) | (simp <;> unfold wrap64 <;> omega)), H', ⟨by have := HK1.out; omega⟩, ⟨(bx BK367.out)⟩, ⟨(bx BK373.out)⟩, ⟨bq⟩⟩
        ·
         rw [if_neg c33] at H
         have c33b0 : (t371.toList == t377.toList) = false := beq_eq_false_iff_ne.mpr c33
         have c33b1 : (t371.toList != t377.toList) = true := bne_iff_ne.mpr c33
         obtain rfl := Option.some.inj H
         try go_wp2
         have n0_ := ak (blk_drew BK367.out)
         have n1_ := ak (blk_drew BK373.out)
         have n2_ := ak (below_drew1 HB.out)
         clear BK367
         clear BK373
         clear HB
         have BK367 := n0_
         have BK373 := n1_
         have HB := n2_
         clear n0_ n1_ n2_
         refine start_ (n := 8) (S := fun w' => w'.cell? ⟨gb373, 0, none⟩ = some (.string t368) ∧ w'.cell? ⟨gb373, 1, none⟩ = some (.string t369) ∧ w'.cell? ⟨gb373, 2, none⟩ = some (.string t370) ∧ w'.cell? ⟨gb373, 3, none⟩ = some (.string t371) ∧ w'.cell? ⟨gb373, 4, none⟩ = some (.string t372)) (ds := []) #[false, false, false, false, false, false, false, false] (by kernel_rfl) rfl rfl ⟨(blk_cell BK373.out 0).trans rfl, (blk_cell BK373.out 1).trans rfl, (blk_cell BK373.out 2).trans rfl, (blk_cell BK373.out 3).trans rfl, (blk_cell BK373.out 4).trans rfl⟩ (fun hHeld => ?_); refine with_tabW isoglossref12_Right.tab5 isoglossref12_Right.bits5 (fun HT_ HW_ => ?_)
         generalize wr.drew = w36 at BK367 BK373 HB hHeld ⊢
         refine pu 0 (some 22) (M 8 1) ?_
         refine pu 1 (some 23) (M 8 3) ?_
         refine pu 3 (some 25) (M 8 11) ?_
         refine pu 4 (some 26) (M 8 27) ?_
         refine take_ (i := 2) (N := some 24) (v := ?_) (a' := ?_) (M 8 31) rfl rfl (take_ofW HT_.out HW_.out (by kernel_rfl)) (fun _ _ _ h => h) (Or.inl ⟨by rfl, ?_⟩) hHeld ?_ ?_
         rotate_left
         ·
          rintro w' ⟨s0, s1, s2, s3, s4⟩
          go_simp
          with_reducible rfl
         rotate_left
         ·
          simp only [Act.put, pA, pB, pC, i64_w, i32_w]
          rfl
         refine take_ (i := 5) (N := some 27) (v := ?_) (a' := ?_) (M 8 63) rfl rfl (take_ofW HT_.out HW_.out (by kernel_rfl)) (fun _ _ _ h => h) (Or.inl ⟨by rfl, ?_⟩) hHeld ?_ ?_
         rotate_left
         ·
          rintro w' ⟨s0, s1, s2, s3, s4⟩
          go_simp
          with_reducible rfl
         rotate_left
         ·
          simp only [Act.put, pA, pB, pC, i64_w, i32_w]
          rfl
         refine one_ (i := 6) (N := some 28) (M 8 127) rfl rfl (one_of HT_.out (by kernel_rfl)) (by decide) (fun K hK => ?_)
         refine goes_ Tryd.func27 (by kernel_rfl) rfl #[.string t371] (by rfl) rfl rfl mq ?_
         with_reducible refine (isoglossref02_Lower.calls k1 t371 t377 _ A32.out).mono ?_
         rintro e w37 ⟨rfl, hb⟩
         refine ⟨_, rfl, ?_⟩
         have n0_ := ak (blk_below (g := gb367) (bx BK367.out) hb)
         have n1_ := ak (blk_below (g := gb373) (bx BK373.out) hb)
         have n2_ := ak (below_step bq hb)
         clear BK367
         clear BK373
         clear HB
         have BK367 := n0_
         have BK373 := n1_
         have HB := n2_
         clear n0_ n1_ n2_
         (try clear hb)
         (try clear hb2)
         (try clear hk)
         (try clear hi)
         refine hK.out _ _ ⟨(blk_cell BK373.out 0).trans rfl, (blk_cell BK373.out 1).trans rfl, (blk_cell BK373.out 2).trans rfl, (blk_cell BK373.out 3).trans rfl, (blk_cell BK373.out 4).trans rfl⟩ (fun hHeld => ?_)
         clear hK K
         refine norm_ (a' := ?_) ?_ ?_
         rotate_left
         ·
          show Act.put _ (some 28) _ = _
          simp only [Act.put, pA, pB, pC, i64_w, i32_w]
          rfl
         refine pu 7 (some 29) (M 8 255) ?_
         refine done_ (done_of HT_.out (by kernel_rfl)) ?_
         try go_wp2
         go_ret
         exact ⟨by first | rfl | (simp [errW_none, errW_some] <;> rfl) | (simp [*, errW_none, errW_some] <;> rfl), bq⟩
       ·
        rw [if_neg c31] at H
        have c31b0 : (x4_1 == 3) = false := beq_eq_false_iff_ne.mpr c31
        have c31b1 : (x4_1 != 3) = true := bne_iff_ne.mpr c31
        by_cases c38 : x4_1 = 4
        ·
         rw [if_pos c38] at H
         have c38b0 : (x4_1 == 4) = true := beq_iff_eq.mpr c38
         have c38b1 : (x4_1 != 4) = false := bne_eq_false_iff_eq.mpr c38
         (try (have c38b2 : (x4_1 : Int).toNat = 4 := by rw [c38]; rfl))
         try have c38b3 : (0 ≤ x4_1) = True := eq_true (by omega)
         try have c38b4_5 : (x4_1 < 5) = True := eq_true (by omega)
         clear c38
         replace H := Option.bind_eq_some_iff.mp H
         obtain ⟨t378, A390, H⟩ := H
         have A39 := ak A390
         clear A390
         by_cases c40 : t372.toList = t378.toList
         ·
          rw [if_pos c40] at H
          have c40b0 : (t372.toList == t378.toList) = true := beq_iff_eq.mpr c40
          have c40b1 : (t372.toList != t378.toList) = false := bne_eq_false_iff_eq.mpr c40
          clear c40
          have H' := ak H
          clear H
          try go_wp2
          have n0_ := ak (blk_drew BK367.out)
          have n1_ := ak (blk_drew BK373.out)
          have n2_ := ak (below_drew1 HB.out)
          clear BK367
          clear BK373
          clear HB
          have BK367 := n0_
          have BK373 := n1_
          have HB := n2_
          clear n0_ n1_ n2_
          refine start_ (n := 8) (S := fun w' => w'.cell? ⟨gb373, 0, none⟩ = some (.string t368) ∧ w'.cell? ⟨gb373, 1, none⟩ = some (.string t369) ∧ w'.cell? ⟨gb373, 2, none⟩ = some (.string t370) ∧ w'.cell? ⟨gb373, 3, none⟩ = some (.string t371) ∧ w'.cell? ⟨gb373, 4, none⟩ = some (.string t372)) (ds := []) #[false, false, false, false, false, false, false, false] (by kernel_rfl) rfl rfl ⟨(blk_cell BK373.out 0).trans rfl, (blk_cell BK373.out 1).trans rfl, (blk_cell BK373.out 2).trans rfl, (blk_cell BK373.out 3).trans rfl, (blk_cell BK373.out 4).trans rfl⟩ (fun hHeld => ?_); refine with_tabW isoglossref12_Right.tab5 isoglossref12_Right.bits5 (fun HT_ HW_ => ?_)
          generalize wr.drew = w41 at BK367 BK373 HB hHeld ⊢
          refine pu 0 (some 22) (M 8 1) ?_
          refine pu 1 (some 23) (M 8 3) ?_
          refine pu 3 (some 25) (M 8 11) ?_
          refine pu 4 (some 26) (M 8 27) ?_
          refine take_ (i := 2) (N := some 24) (v := ?_) (a' := ?_) (M 8 31) rfl rfl (take_ofW HT_.out HW_.out (by kernel_rfl)) (fun _ _ _ h => h) (Or.inl ⟨by rfl, ?_⟩) hHeld ?_ ?_
          rotate_left
          ·
           rintro w' ⟨s0, s1, s2, s3, s4⟩
           go_simp
           with_reducible rfl
          rotate_left
          ·
           simp only [Act.put, pA, pB, pC, i64_w, i32_w]
           rfl
          refine take_ (i := 5) (N := some 27) (v := ?_) (a' := ?_) (M 8 63) rfl rfl (take_ofW HT_.out HW_.out (by kernel_rfl)) (fun _ _ _ h => h) (Or.inl ⟨by rfl, ?_⟩) hHeld ?_ ?_
          rotate_left
          ·
           rintro w' ⟨s0, s1, s2, s3, s4⟩
           go_simp
           with_reducible rfl
          rotate_left
          ·
           simp only [Act.put, pA, pB, pC, i64_w, i32_w]
           rfl
          refine one_ (i := 6) (N := some 28) (M 8 127) rfl rfl (one_of HT_.out (by kernel_rfl)) (by decide) (fun K hK => ?_)
          refine goes_ Tryd.func27 (by kernel_rfl) rfl #[.string t372] (by rfl) rfl rfl mq ?_
          with_reducible refine (isoglossref02_Lower.calls k1 t372 t378 _ A39.out).mono ?_
          rintro e w42 ⟨rfl, hb⟩
          refine ⟨_, rfl, ?_⟩
          have n0_ := ak (blk_below (g := gb367) (bx BK367.out) hb)
          have n1_ := ak (blk_below (g := gb373) (bx BK373.out) hb)
          have n2_ := ak (below_step bq hb)
          clear BK367
          clear BK373
          clear HB
          have BK367 := n0_
          have BK373 := n1_
          have HB := n2_
          clear n0_ n1_ n2_
          (try clear hb)
          (try clear hb2)
          (try clear hk)
          (try clear hi)
          refine hK.out _ _ ⟨(blk_cell BK373.out 0).trans rfl, (blk_cell BK373.out 1).trans rfl, (blk_cell BK373.out 2).trans rfl, (blk_cell BK373.out 3).trans rfl, (blk_cell BK373.out 4).trans rfl⟩ (fun hHeld => ?_)
          clear hK K
          refine norm_ (a' := ?_) ?_ ?_
          rotate_left
          ·
           show Act.put _ (some 28) _ = _
           simp only [Act.put, pA, pB, pC, i64_w, i32_w]
           rfl
          refine pu 7 (some 29) (M 8 255) ?_
          refine done_ (done_of HT_.out (by kernel_rfl)) ?_
          try go_wp2
          go_roundg k1
          case measure => have := HK1.out; omega
          case rel => exact ⟨(wrap64 (x4_1 + 1)), (by first | rfl | (simp; done) | (simp [*]; done) | (simp <;> unfold wrap64 <;> omega)), H', ⟨by have := HK1.out; omega⟩, ⟨(bx BK367.out)⟩, ⟨(bx BK373.out)⟩, ⟨bq⟩⟩
         ·
          rw [if_neg c40] at H
          have c40b0 : (t372.toList == t378.toList) = false := beq_eq_false_iff_ne.mpr c40
          have c40b1 : (t372.toList != t378.toList) = true := bne_iff_ne.mpr c40
          obtain rfl := Option.some.inj H
          try go_wp2
          have n0_ := ak (blk_drew BK367.out)
          have n1_ := ak (blk_drew BK373.out)
          have n2_ := ak (below_drew1 HB.out)
          clear BK367
          clear BK373
          clear HB
          have BK367 := n0_
          have BK373 := n1_
          have HB := n2_
          clear n0_ n1_ n2_
          refine start_ (n := 8) (S := fun w' => w'.cell? ⟨gb373, 0, none⟩ = some (.string t368) ∧ w'.cell? ⟨gb373, 1, none⟩ = some (.string t369) ∧ w'.cell? ⟨gb373, 2, none⟩ = some (.string t370) ∧ w'.cell? ⟨gb373, 3, none⟩ = some (.string t371) ∧ w'.cell? ⟨gb373, 4, none⟩ = some (.string t372)) (ds := []) #[false, false, false, false, false, false, false, false] (by kernel_rfl) rfl rfl ⟨(blk_cell BK373.out 0).trans rfl, (blk_cell BK373.out 1).trans rfl, (blk_cell BK373.out 2).trans rfl, (blk_cell BK373.out 3).trans rfl, (blk_cell BK373.out 4).trans rfl⟩ (fun hHeld => ?_); refine with_tabW isoglossref12_Right.tab5 isoglossref12_Right.bits5 (fun HT_ HW_ => ?_)
          generalize wr.drew = w43 at BK367 BK373 HB hHeld ⊢
          refine pu 0 (some 22) (M 8 1) ?_
          refine pu 1 (some 23) (M 8 3) ?_
          refine pu 3 (some 25) (M 8 11) ?_
          refine pu 4 (some 26) (M 8 27) ?_
          refine take_ (i := 2) (N := some 24) (v := ?_) (a' := ?_) (M 8 31) rfl rfl (take_ofW HT_.out HW_.out (by kernel_rfl)) (fun _ _ _ h => h) (Or.inl ⟨by rfl, ?_⟩) hHeld ?_ ?_
          rotate_left
          ·
           rintro w' ⟨s0, s1, s2, s3, s4⟩
           go_simp
           with_reducible rfl
          rotate_left
          ·
           simp only [Act.put, pA, pB, pC, i64_w, i32_w]
           rfl
          refine take_ (i := 5) (N := some 27) (v := ?_) (a' := ?_) (M 8 63) rfl rfl (take_ofW HT_.out HW_.out (by kernel_rfl)) (fun _ _ _ h => h) (Or.inl ⟨by rfl, ?_⟩) hHeld ?_ ?_
          rotate_left
          ·
           rintro w' ⟨s0, s1, s2, s3, s4⟩
           go_simp
           with_reducible rfl
          rotate_left
          ·
           simp only [Act.put, pA, pB, pC, i64_w, i32_w]
           rfl
          refine one_ (i := 6) (N := some 28) (M 8 127) rfl rfl (one_of HT_.out (by kernel_rfl)) (by decide) (fun K hK => ?_)
          refine goes_ Tryd.func27 (by kernel_rfl) rfl #[.string t372] (by rfl) rfl rfl mq ?_
          with_reducible refine (isoglossref02_Lower.calls k1 t372 t378 _ A39.out).mono ?_
          rintro e w44 ⟨rfl, hb⟩
          refine ⟨_, rfl, ?_⟩
          have n0_ := ak (blk_below (g := gb367) (bx BK367.out) hb)
          have n1_ := ak (blk_below (g := gb373) (bx BK373.out) hb)
          have n2_ := ak (below_step bq hb)
          clear BK367
          clear BK373
          clear HB
          have BK367 := n0_
          have BK373 := n1_
          have HB := n2_
          clear n0_ n1_ n2_
          (try clear hb)
          (try clear hb2)
          (try clear hk)
          (try clear hi)
          refine hK.out _ _ ⟨(blk_cell BK373.out 0).trans rfl, (blk_cell BK373.out 1).trans rfl, (blk_cell BK373.out 2).trans rfl, (blk_cell BK373.out 3).trans rfl, (blk_cell BK373.out 4).trans rfl⟩ (fun hHeld => ?_)
          clear hK K
          refine norm_ (a' := ?_) ?_ ?_
          rotate_left
          ·
           show Act.put _ (some 28) _ = _
           simp only [Act.put, pA, pB, pC, i64_w, i32_w]
           rfl
          refine pu 7 (some 29) (M 8 255) ?_
          refine done_ (done_of HT_.out (by kernel_rfl)) ?_
          try go_wp2
          go_ret
          exact ⟨by first | rfl | (simp [errW_none, errW_some] <;> rfl) | (simp [*, errW_none, errW_some] <;> rfl), bq⟩
        ·
         rw [if_neg c38] at H
         exact absurd H (by simp)
   ·
    rw [if_neg c9] at H
    have c9b0 : decide (x4_1 < 5) = false := decide_eq_false c9
    clear c9
    replace H := Option.bind_eq_some_iff.mp H
    obtain ⟨t379, A450, H⟩ := H
    have A45 := ak A450
    clear A450
    by_cases c46 : a0_0 = 1
    ·
     rw [if_pos c46] at H
     have c46b0 : (a0_0 == 1) = true := beq_iff_eq.mpr c46
     have c46b1 : (a0_0 != 1) = false := bne_eq_false_iff_eq.mpr c46
     (try (have c46b2 : (a0_0 : Int).toNat = 1 := by rw [c46]; rfl))
     try have c46b3 : (0 ≤ a0_0) = True := eq_true (by omega)
     try have c46b4_2 : (a0_0 < 2) = True := eq_true (by omega)
     try have c46b4_3 : (a0_0 < 3) = True := eq_true (by omega)
     try have c46b4_5 : (a0_0 < 5) = True := eq_true (by omega)
     clear c46
     replace H := Option.bind_eq_some_iff.mp H
     obtain ⟨t380, A470, H⟩ := H
     have A47 := ak A470
     clear A470
     by_cases c48 : t380 = true
     ·
      subst c48
      have H1 : ((isoglossref02_Class.f k1 a0_1).bind fun t381 => (if t381 = 2 then (if 0 < (a0_1.size : Int) then (if 1 < (a0_1.size : Int) then ((isoglossref05_List.f).bind fun t382 => (if (((((bt a0_1 0) - 48) % 256) * 10) + (((bt a0_1 1) - 48) % 256)) < (t382.length : Int) then (if a0_2.toList = ([] : List UInt8) then (some t379) else (some false)) else (some false))) else (none)) else (none)) else (some false))) = some r := by rw [if_pos rfl] at H; exact H
      clear H
      have H := H1
      clear H1
      replace H := Option.bind_eq_some_iff.mp H
      obtain ⟨t381, A490, H⟩ := H
      have A49 := ak A490
      clear A490
      by_cases c50 : t381 = 2
      ·
       rw [if_pos c50] at H
       have c50b0 : (t381 == 2) = true := beq_iff_eq.mpr c50
       have c50b1 : (t381 != 2) = false := bne_eq_false_iff_eq.mpr c50
       (try (have c50b2 : (t381 : Int).toNat = 2 := by rw [c50]; rfl))
       try have c50b3 : (0 ≤ t381) = True := eq_true (by omega)
       try have c50b4_3 : (t381 < 3) = True := eq_true (by omega)
       try have c50b4_5 : (t381 < 5) = True := eq_true (by omega)
       clear c50
       by_cases c51 : 0 < (a0_1.size : Int)
       ·
        rw [if_pos c51] at H
        have c51b0 : decide (0 < (a0_1.size : Int)) = true := decide_eq_true c51
        have c51b1 : decide (0 < a0_1.size) = true := decide_eq_true (by omega)
        clear c51
        by_cases c53 : 1 < (a0_1.size : Int)
        ·
         rw [if_pos c53] at H
         have c53b0 : decide (1 < (a0_1.size : Int)) = true := decide_eq_true c53
         have c53b1 : decide (1 < a0_1.size) = true := decide_eq_true (by omega)
         clear c53
         replace H := Option.bind_eq_some_iff.mp H
         obtain ⟨t382, A550, H⟩ := H
         have A55 := ak A550
         clear A550
         by_cases c56 : (((((bt a0_1 0) - 48) % 256) * 10) + (((bt a0_1 1) - 48) % 256)) < (t382.length : Int)
         ·
          rw [if_pos c56] at H
          have c56b0 : decide ((((((bt a0_1 0) - 48) % 256) * 10) + (((bt a0_1 1) - 48) % 256)) < (t382.length : Int)) = true := decide_eq_true c56
          have c56b7 : decide (wrap64 (wrap64 (wrap64 (IntKind.u8.wrap (bt a0_1 0 - 48)) * 10) + wrap64 (IntKind.u8.wrap (bt a0_1 1 - 48))) < (t382.length : Int)) = true := by have z : wrap64 (wrap64 (wrap64 (IntKind.u8.wrap (bt a0_1 0 - 48)) * 10) + wrap64 (IntKind.u8.wrap (bt a0_1 1 - 48))) = (((((bt a0_1 0) - 48) % 256) * 10) + (((bt a0_1 1) - 48) % 256)) := (by simp only [IntKind.wrap_u8]; unfold wrap64; omega); rw [z]; exact c56b0
          clear c56
          by_cases c57 : a0_2.toList = ([] : List UInt8)
          ·
           rw [if_pos c57] at H
           have c57b0 : (a0_2.toList == ([] : List UInt8)) = true := beq_iff_eq.mpr c57
           have c57b1 : (a0_2.toList != ([] : List UInt8)) = false := bne_eq_false_iff_eq.mpr c57
           have c57b2 : a0_2.toList.isEmpty = true := List.isEmpty_iff.mpr c57
           clear c57
           obtain rfl := Option.some.inj H
           have hnb58 := NB367_373.out
           have hnc58 := NB373_367.out
           obtain ⟨hcz59_0, hcz59_1, hcz59_2, hcz59_3, hcz59_4, hcz59_5⟩ := cz6 BK367.out
           obtain ⟨hfz59_0, hfz59_1, hfz59_2, hfz59_3, hfz59_4, hfz59_5⟩ := fz6 BK367.out
           try go_wp2_with (first | ((with_reducible refine gate_callee (f := 83) rfl ?_); refine goesL_ (some 31) rfl rfl Tryd.func83 (by kernel_rfl) rfl #[.agg #[.int .i64 a0_0, .string a0_1, .string a0_2, .string a0_3, .string a0_4, .string a0_5]] rfl mq ?_; (with_reducible refine (isoglossref12_target.calls k1 a0_0 a0_1 a0_2 a0_3 a0_4 a0_5 t379 _ A45.out).mono ?_); rintro e w60 ⟨rfl, hb⟩; refine ⟨_, rfl, ?_⟩; have n0_ := ak (blk_below (g := gb367) (bx BK367.out) hb); have n1_ := ak (blk_below (g := gb373) (bx BK373.out) hb); have n2_ := ak (below_step bq hb); clear BK367; clear BK373; clear HB; have BK367 := n0_; have BK373 := n1_; have HB := n2_; clear n0_ n1_ n2_; (try clear hb); (try clear hb2); (try clear hk); (try clear hi); obtain ⟨hcz61_0, hcz61_1, hcz61_2, hcz61_3, hcz61_4, hcz61_5⟩ := cz6 BK367.out; obtain ⟨hfz61_0, hfz61_1, hfz61_2, hfz61_3, hfz61_4, hfz61_5⟩ := fz6 BK367.out; (try clear A45)) | ((with_reducible refine gate_callee (f := 84) rfl ?_); refine goesL_ (some 38) rfl rfl Tryd.func84 (by kernel_rfl) rfl #[.string a0_1, .int .i64 2, .int .i64 2] rfl mq ?_; (with_reducible refine (isoglossref12_word.calls k1 a0_1 2 2 true _ A47.out).mono ?_); rintro e w' ⟨rfl, ⟨nd, rfl⟩⟩; refine ⟨_, rfl, ?_⟩; (try clear A47)))
           (try (rw [drewN_self w60]; generalize hq_ : World.drewN w60 _ = w60; have n0_ : Aside0 (w60.heap[gb367]? = some (.cells #[.int .i64 a0_0, .string a0_1, .string a0_2, .string a0_3, .string a0_4, .string a0_5] 50 (0, 0))) := ⟨by rw [← hq_]; exact (bx BK367.out)⟩; have n1_ : Aside0 (w60.heap[gb373]? = some (.cells #[.string t368, .string t369, .string t370, .string t371, .string t372] 98 (0, 0))) := ⟨by rw [← hq_]; exact (bx BK373.out)⟩; have n2_ : Aside0 (Below w.heap.size w w60) := ⟨by rw [← hq_]; exact bq⟩; clear BK367 BK373 HB hq_; have BK367 := n0_; have BK373 := n1_; have HB := n2_; clear n0_ n1_ n2_))
           have n0_ := ak (blk_drew BK367.out)
           have n1_ := ak (blk_drew BK373.out)
           have n2_ := ak (below_drew1 HB.out)
           clear BK367
           clear BK373
           clear HB
           have BK367 := n0_
           have BK373 := n1_
           have HB := n2_
           clear n0_ n1_ n2_
           refine start_ (n := 33) (S := fun w' => w'.cell? ⟨gb367, 0, none⟩ = some (.int .i64 a0_0) ∧ w'.cell? ⟨gb367, 1, none⟩ = some (.string a0_1) ∧ w'.cell? ⟨gb367, 2, none⟩ = some (.string a0_2) ∧ w'.cell? ⟨gb367, 3, none⟩ = some (.string a0_3) ∧ w'.cell? ⟨gb367, 4, none⟩ = some (.string a0_4) ∧ w'.cell? ⟨gb367, 5, none⟩ = some (.string a0_5)) (ds := []) #[false, false, false, false, false, false, false, false, false, false, false, false, false, false, false, false, false, false, false, false, false, false, false, false, false, false, false, false, false, false, false, false, false] (by kernel_rfl) rfl rfl ⟨(blk_cell BK367.out 0).trans rfl, (blk_cell BK367.out 1).trans rfl, (blk_cell BK367.out 2).trans rfl, (blk_cell BK367.out 3).trans rfl, (blk_cell BK367.out 4).trans rfl, (blk_cell BK367.out 5).trans rfl⟩ (fun hHeld => ?_); refine with_tabW isoglossref12_Right.tab11 isoglossref12_Right.bits11 (fun HT_ HW_ => ?_)
           generalize w60.drew = w62 at BK367 BK373 HB hHeld ⊢
           refine pu 0 (some 39) (M 33 1) ?_
           refine pu 1 (some 40) (M 33 3) ?_
           refine pu 2 (some 41) (M 33 7) ?_
           refine take_ (i := 3) (N := some 42) (v := ?_) (a' := ?_) (M 33 15) rfl rfl (take_ofW HT_.out HW_.out (by kernel_rfl)) (fun _ _ _ h => h) (Or.inl ⟨by rfl, ?_⟩) hHeld ?_ ?_
           rotate_left
           ·
            rintro w' ⟨s0, s1, s2, s3, s4, s5⟩
            go_simp
            with_reducible rfl
           rotate_left
           ·
            simp only [Act.put, pA, pB, pC, i64_w, i32_w]
            rfl
           refine one_ (i := 4) (N := some 43) (M 33 31) rfl rfl (one_of HT_.out (by kernel_rfl)) (by decide) (fun K hK => ?_)
           refine goes_ Tryd.func82 (by kernel_rfl) rfl #[.string a0_1] (by rfl) rfl rfl mq ?_
           with_reducible refine (isoglossref02_Class.calls k1 a0_1 t381 _ A49.out).mono ?_
           rintro e w' ⟨rfl, ⟨nd, rfl⟩⟩
           refine ⟨_, rfl, ?_⟩
           have p52 : 0 ≤ (0 : Int) := (by omega)
           have q52 : 0 < a0_1.size := (by have : (0 : Int) < (a0_1.size : Int) := of_decide_eq_true (by first | (with_reducible assumption) | assumption); omega)
           have hx52 : ∀ h : 0 < a0_1.size, ((a0_1[0]'h).toNat : Int) = bt a0_1 0 := bt_at a0_1 0
           clear p52
           have qi52 : (0 < (a0_1.size : Int)) = True := eq_true (of_decide_eq_true (by first | (with_reducible assumption) | assumption))
           replace q52 := eq_true q52
           have p54 : 0 ≤ (1 : Int) := (by omega)
           have q54 : 1 < a0_1.size := (by have : (1 : Int) < (a0_1.size : Int) := of_decide_eq_true (by first | (with_reducible assumption) | assumption); omega)
           have hx54 : ∀ h : 1 < a0_1.size, ((a0_1[1]'h).toNat : Int) = bt a0_1 1 := bt_at a0_1 1
           clear p54
           have qi54 : (1 < (a0_1.size : Int)) = True := eq_true (of_decide_eq_true (by first | (with_reducible assumption) | assumption))
           replace q54 := eq_true q54
           refine hK.out _ _ ⟨(blk_cell BK367.out 0).trans rfl, (blk_cell BK367.out 1).trans rfl, (blk_cell BK367.out 2).trans rfl, (blk_cell BK367.out 3).trans rfl, (blk_cell BK367.out 4).trans rfl, (blk_cell BK367.out 5).trans rfl⟩ (fun hHeld => ?_)
           clear hK K
           refine norm_ (a' := ?_) ?_ ?_
           rotate_left
           ·
            show Act.put _ (some 43) _ = _
            simp only [Act.put, pA, pB, pC, i64_w, i32_w]
            rfl
           refine pu 5 (some 44) (M 33 63) ?_
           refine pu 6 (some 45) (M 33 127) ?_
           refine pu 7 (some 46) (M 33 255) ?_
           refine pu 8 (some 47) (M 33 511) ?_
           refine pu 14 (some 53) (M 33 16895) ?_
           refine take_ (i := 9) (N := some 48) (v := ?_) (a' := ?_) (M 33 17407) rfl rfl (take_ofW HT_.out HW_.out (by kernel_rfl)) (fun _ _ _ h => h) (Or.inl ⟨by rfl, ?_⟩) hHeld ?_ ?_
           rotate_left
           ·
            rintro w' ⟨s0, s1, s2, s3, s4, s5⟩
            go_simp
            with_reducible rfl
           rotate_left
           ·
            simp only [Act.put, pA, pB, pC, i64_w, i32_w]
            rfl
           refine take_ (i := 10) (N := some 49) (v := ?_) (a' := ?_) (M 33 18431) rfl rfl (take_ofW HT_.out HW_.out (by kernel_rfl)) (fun _ _ _ h => h) (Or.inl ⟨by rfl, ?_⟩) hHeld ?_ ?_
           rotate_left
           ·
            rintro w' ⟨s0, s1, s2, s3, s4, s5⟩
            go_simp
            with_reducible rfl
           rotate_left
           ·
            simp only [Act.put, pA, pB, pC, i64_w, i32_w]
            rfl
           refine pu 11 (some 50) (M 33 20479) ?_
           refine pu 12 (some 51) (M 33 24575) ?_
           refine pu 13 (some 52) (M 33 32767) ?_
           refine take_ (i := 15) (N := some 54) (v := ?_) (a' := ?_) (M 33 65535) rfl rfl (take_ofW HT_.out HW_.out (by kernel_rfl)) (fun _ _ _ h => h) (Or.inl ⟨by rfl, ?_⟩) hHeld ?_ ?_
           rotate_left
           ·
            rintro w' ⟨s0, s1, s2, s3, s4, s5⟩
            go_simp
            with_reducible rfl
           rotate_left
           ·
            simp only [Act.put, pA, pB, pC, i64_w, i32_w]
            rfl
           refine take_ (i := 16) (N := some 55) (v := ?_) (a' := ?_) (M 33 131071) rfl rfl (take_ofW HT_.out HW_.out (by kernel_rfl)) (fun _ _ _ h => h) (Or.inl ⟨by rfl, ?_⟩) hHeld ?_ ?_
           rotate_left
           ·
            rintro w' ⟨s0, s1, s2, s3, s4, s5⟩
            go_simp
            with_reducible rfl
           rotate_left
           ·
            simp only [Act.put, pA, pB, pC, i64_w, i32_w]
            rfl
           refine pu 17 (some 56) (M 33 262143) ?_
           refine pu 18 (some 57) (M 33 524287) ?_
           refine pu 19 (some 58) (M 33 1048575) ?_
           refine one_ (i := 20) (N := some 59) (M 33 2097151) rfl rfl (one_of HT_.out (by kernel_rfl)) (by decide) (fun K hK => ?_)
           refine goes_ Tryd.func15 (by kernel_rfl) rfl #[] (by rfl) rfl rfl mq ?_
           with_reducible refine (isoglossref05_List.calls  t382 _ A55.out).mono ?_
           rintro e w63 ⟨v383, rfl, ho0, hb⟩
           refine ⟨_, rfl, ?_⟩
           have n0_ := ak (Kd.R_lower ho0 (below_size bq))
           have n1_ := ak (blk_below (g := gb367) (bx BK367.out) hb)
           have n2_ := ak (blk_below (g := gb373) (bx BK373.out) hb)
           have n3_ := ak (below_step bq hb)
           clear BK367
           clear BK373
           clear HB
           have HO384 := n0_
           have BK367 := n1_
           have BK373 := n2_
           have HB := n3_
           clear n0_ n1_ n2_ n3_
           (try clear hb)
           (try clear hb2)
           (try clear hk)
           (try clear hi)
           (try clear ho0)
           obtain ⟨Ao64, co64, eo64⟩ := Kd.R_slice HO384.out
           (first | subst eo64 | (injection eo64 with f1_ f2_ f3_; have f4_ := f1_.symm; have f5_ := f3_.symm; clear f1_ f2_ f3_; subst f4_; subst f5_))
           refine hK.out _ _ ⟨(blk_cell BK367.out 0).trans rfl, (blk_cell BK367.out 1).trans rfl, (blk_cell BK367.out 2).trans rfl, (blk_cell BK367.out 3).trans rfl, (blk_cell BK367.out 4).trans rfl, (blk_cell BK367.out 5).trans rfl⟩ (fun hHeld => ?_)
           clear hK K
           refine norm_ (a' := ?_) ?_ ?_
           rotate_left
           ·
            show Act.put _ (some 59) _ = _
            simp only [Act.put, pA, pB, pC, i64_w, i32_w]
            rfl
           refine pu 21 (some 60) (M 33 4194303) ?_
           refine pu 22 (some 61) (M 33 8388607) ?_
           refine pu 23 (some 62) (M 33 16777215) ?_
           refine pu 24 (some 63) (M 33 33554431) ?_
           refine pu 25 (some 64) (M 33 67108863) ?_
           refine take_ (i := 26) (N := some 65) (v := ?_) (a' := ?_) (M 33 134217727) rfl rfl (take_ofW HT_.out HW_.out (by kernel_rfl)) (fun _ _ _ h => h) (Or.inl ⟨by rfl, ?_⟩) hHeld ?_ ?_
           rotate_left
           ·
            rintro w' ⟨s0, s1, s2, s3, s4, s5⟩
            go_simp
            with_reducible rfl
           rotate_left
           ·
            simp only [Act.put, pA, pB, pC, i64_w, i32_w]
            rfl
           refine pu 27 (some 66) (M 33 268435455) ?_
           refine pu 28 (some 67) (M 33 536870911) ?_
           refine pu 29 (some 68) (M 33 1073741823) ?_
           refine pu 30 (some 69) (M 33 2147483647) ?_
           refine pu 31 (some 70) (M 33 4294967295) ?_
           refine pu 32 (some 2) (M 33 8589934591) ?_
           refine done_ (done_of HT_.out (by kernel_rfl)) ?_
           try go_wp2
           go_ret
           exact ⟨by first | rfl | (simp [errW_none, errW_some] <;> rfl) | (simp [*, errW_none, errW_some] <;> rfl), bq⟩
          ·
           rw [if_neg c57] at H
           have c57b0 : (a0_2.toList == ([] : List UInt8)) = false := beq_eq_false_iff_ne.mpr c57
           have c57b1 : (a0_2.toList != ([] : List UInt8)) = true := bne_iff_ne.mpr c57
           have c57b2 : a0_2.toList.isEmpty = false := List.isEmpty_eq_false_iff.mpr c57
           obtain rfl := Option.some.inj H
           have hnb65 := NB367_373.out
           have hnc65 := NB373_367.out
           obtain ⟨hcz66_0, hcz66_1, hcz66_2, hcz66_3, hcz66_4, hcz66_5⟩ := cz6 BK367.out
           obtain ⟨hfz66_0, hfz66_1, hfz66_2, hfz66_3, hfz66_4, hfz66_5⟩ := fz6 BK367.out
           try go_wp2_with (first | ((with_reducible refine gate_callee (f := 83) rfl ?_); refine goesL_ (some 31) rfl rfl Tryd.func83 (by kernel_rfl) rfl #[.agg #[.int .i64 a0_0, .string a0_1, .string a0_2, .string a0_3, .string a0_4, .string a0_5]] rfl mq ?_; (with_reducible refine (isoglossref12_target.calls k1 a0_0 a0_1 a0_2 a0_3 a0_4 a0_5 t379 _ A45.out).mono ?_); rintro e w67 ⟨rfl, hb⟩; refine ⟨_, rfl, ?_⟩; have n0_ := ak (blk_below (g := gb367) (bx BK367.out) hb); have n1_ := ak (blk_below (g := gb373) (bx BK373.out) hb); have n2_ := ak (below_step bq hb); clear BK367; clear BK373; clear HB; have BK367 := n0_; have BK373 := n1_; have HB := n2_; clear n0_ n1_ n2_; (try clear hb); (try clear hb2); (try clear hk); (try clear hi); obtain ⟨hcz68_0, hcz68_1, hcz68_2, hcz68_3, hcz68_4, hcz68_5⟩ := cz6 BK367.out; obtain ⟨hfz68_0, hfz68_1, hfz68_2, hfz68_3, hfz68_4, hfz68_5⟩ := fz6 BK367.out; (try clear A45)) | ((with_reducible refine gate_callee (f := 84) rfl ?_); refine goesL_ (some 38) rfl rfl Tryd.func84 (by kernel_rfl) rfl #[.string a0_1, .int .i64 2, .int .i64 2] rfl mq ?_; (with_reducible refine (isoglossref12_word.calls k1 a0_1 2 2 true _ A47.out).mono ?_); rintro e w' ⟨rfl, ⟨nd, rfl⟩⟩; refine ⟨_, rfl, ?_⟩; (try clear A47)))
           (try (rw [drewN_self w67]; generalize hq_ : World.drewN w67 _ = w67; have n0_ : Aside0 (w67.heap[gb367]? = some (.cells #[.int .i64 a0_0, .string a0_1, .string a0_2, .string a0_3, .string a0_4, .string a0_5] 50 (0, 0))) := ⟨by rw [← hq_]; exact (bx BK367.out)⟩; have n1_ : Aside0 (w67.heap[gb373]? = some (.cells #[.string t368, .string t369, .string t370, .string t371, .string t372] 98 (0, 0))) := ⟨by rw [← hq_]; exact (bx BK373.out)⟩; have n2_ : Aside0 (Below w.heap.size w w67) := ⟨by rw [← hq_]; exact bq⟩; clear BK367 BK373 HB hq_; have BK367 := n0_; have BK373 := n1_; have HB := n2_; clear n0_ n1_ n2_))
           have n0_ := ak (blk_drew BK367.out)
           have n1_ := ak (blk_drew BK373.out)
           have n2_ := ak (below_drew1 HB.out)
           clear BK367
           clear BK373
           clear HB
           have BK367 := n0_
           have BK373 := n1_
           have HB := n2_
           clear n0_ n1_ n2_
           refine start_ (n := 33) (S := fun w' => w'.cell? ⟨gb367, 0, none⟩ = some (.int .i64 a0_0) ∧ w'.cell? ⟨gb367, 1, none⟩ = some (.string a0_1) ∧ w'.cell? ⟨gb367, 2, none⟩ = some (.string a0_2) ∧ w'.cell? ⟨gb367, 3, none⟩ = some (.string a0_3) ∧ w'.cell? ⟨gb367, 4, none⟩ = some (.string a0_4) ∧ w'.cell? ⟨gb367, 5, none⟩ = some (.string a0_5)) (ds := []) #[false, false, false, false, false, false, false, false, false, false, false, false, false, false, false, false, false, false, false, false, false, false, false, false, false, false, false, false, false, false, false, false, false] (by kernel_rfl) rfl rfl ⟨(blk_cell BK367.out 0).trans rfl, (blk_cell BK367.out 1).trans rfl, (blk_cell BK367.out 2).trans rfl, (blk_cell BK367.out 3).trans rfl, (blk_cell BK367.out 4).trans rfl, (blk_cell BK367.out 5).trans rfl⟩ (fun hHeld => ?_); refine with_tabW isoglossref12_Right.tab11 isoglossref12_Right.bits11 (fun HT_ HW_ => ?_)
           generalize w67.drew = w69 at BK367 BK373 HB hHeld ⊢
           refine pu 0 (some 39) (M 33 1) ?_
           refine pu 1 (some 40) (M 33 3) ?_
           refine pu 2 (some 41) (M 33 7) ?_
           refine take_ (i := 3) (N := some 42) (v := ?_) (a' := ?_) (M 33 15) rfl rfl (take_ofW HT_.out HW_.out (by kernel_rfl)) (fun _ _ _ h => h) (Or.inl ⟨by rfl, ?_⟩) hHeld ?_ ?_
           rotate_left
           ·
            rintro w' ⟨s0, s1, s2, s3, s4, s5⟩
            go_simp
            with_reducible rfl
           rotate_left
           ·
            simp only [Act.put, pA, pB, pC, i64_w, i32_w]
            rfl
           refine one_ (i := 4) (N := some 43) (M 33 31) rfl rfl (one_of HT_.out (by kernel_rfl)) (by decide) (fun K hK => ?_)
           refine goes_ Tryd.func82 (by kernel_rfl) rfl #[.string a0_1] (by rfl) rfl rfl mq ?_
           with_reducible refine (isoglossref02_Class.calls k1 a0_1 t381 _ A49.out).mono ?_
           rintro e w' ⟨rfl, ⟨nd, rfl⟩⟩
           refine ⟨_, rfl, ?_⟩
           have p52 : 0 ≤ (0 : Int) := (by omega)
           have q52 : 0 < a0_1.size := (by have : (0 : Int) < (a0_1.size : Int) := of_decide_eq_true (by first | (with_reducible assumption) | assumption); omega)
           have hx52 : ∀ h : 0 < a0_1.size, ((a0_1[0]'h).toNat : Int) = bt a0_1 0 := bt_at a0_1 0
           clear p52
           have qi52 : (0 < (a0_1.size : Int)) = True := eq_true (of_decide_eq_true (by first | (with_reducible assumption) | assumption))
           replace q52 := eq_true q52
           have p54 : 0 ≤ (1 : Int) := (by omega)
           have q54 : 1 < a0_1.size := (by have : (1 : Int) < (a0_1.size : Int) := of_decide_eq_true (by first | (with_reducible assumption) | assumption); omega)
           have hx54 : ∀ h : 1 < a0_1.size, ((a0_1[1]'h).toNat : Int) = bt a0_1 1 := bt_at a0_1 1
           clear p54
           have qi54 : (1 < (a0_1.size : Int)) = True := eq_true (of_decide_eq_true (by first | (with_reducible assumption) | assumption))
           replace q54 := eq_true q54
           refine hK.out _ _ ⟨(blk_cell BK367.out 0).trans rfl, (blk_cell BK367.out 1).trans rfl, (blk_cell BK367.out 2).trans rfl, (blk_cell BK367.out 3).trans rfl, (blk_cell BK367.out 4).trans rfl, (blk_cell BK367.out 5).trans rfl⟩ (fun hHeld => ?_)
           clear hK K
           refine norm_ (a' := ?_) ?_ ?_
           rotate_left
           ·
            show Act.put _ (some 43) _ = _
            simp only [Act.put, pA, pB, pC, i64_w, i32_w]
            rfl
           refine pu 5 (some 44) (M 33 63) ?_
           refine pu 6 (some 45) (M 33 127) ?_
           refine pu 7 (some 46) (M 33 255) ?_
           refine pu 8 (some 47) (M 33 511) ?_
           refine pu 14 (some 53) (M 33 16895) ?_
           refine take_ (i := 9) (N := some 48) (v := ?_) (a' := ?_) (M 33 17407) rfl rfl (take_ofW HT_.out HW_.out (by kernel_rfl)) (fun _ _ _ h => h) (Or.inl ⟨by rfl, ?_⟩) hHeld ?_ ?_
           rotate_left
           ·
            rintro w' ⟨s0, s1, s2, s3, s4, s5⟩
            go_simp
            with_reducible rfl
           rotate_left
           ·
            simp only [Act.put, pA, pB, pC, i64_w, i32_w]
            rfl
           refine take_ (i := 10) (N := some 49) (v := ?_) (a' := ?_) (M 33 18431) rfl rfl (take_ofW HT_.out HW_.out (by kernel_rfl)) (fun _ _ _ h => h) (Or.inl ⟨by rfl, ?_⟩) hHeld ?_ ?_
           rotate_left
           ·
            rintro w' ⟨s0, s1, s2, s3, s4, s5⟩
            go_simp
            with_reducible rfl
           rotate_left
           ·
            simp only [Act.put, pA, pB, pC, i64_w, i32_w]
            rfl
           refine pu 11 (some 50) (M 33 20479) ?_
           refine pu 12 (some 51) (M 33 24575) ?_
           refine pu 13 (some 52) (M 33 32767) ?_
           refine take_ (i := 15) (N := some 54) (v := ?_) (a' := ?_) (M 33 65535) rfl rfl (take_ofW HT_.out HW_.out (by kernel_rfl)) (fun _ _ _ h => h) (Or.inl ⟨by rfl, ?_⟩) hHeld ?_ ?_
           rotate_left
           ·
            rintro w' ⟨s0, s1, s2, s3, s4, s5⟩
            go_simp
            with_reducible rfl
           rotate_left
           ·
            simp only [Act.put, pA, pB, pC, i64_w, i32_w]
            rfl
           refine take_ (i := 16) (N := some 55) (v := ?_) (a' := ?_) (M 33 131071) rfl rfl (take_ofW HT_.out HW_.out (by kernel_rfl)) (fun _ _ _ h => h) (Or.inl ⟨by rfl, ?_⟩) hHeld ?_ ?_
           rotate_left
           ·
            rintro w' ⟨s0, s1, s2, s3, s4, s5⟩
            go_simp
            with_reducible rfl
           rotate_left
           ·
            simp only [Act.put, pA, pB, pC, i64_w, i32_w]
            rfl
           refine pu 17 (some 56) (M 33 262143) ?_
           refine pu 18 (some 57) (M 33 524287) ?_
           refine pu 19 (some 58) (M 33 1048575) ?_
           refine one_ (i := 20) (N := some 59) (M 33 2097151) rfl rfl (one_of HT_.out (by kernel_rfl)) (by decide) (fun K hK => ?_)
           refine goes_ Tryd.func15 (by kernel_rfl) rfl #[] (by rfl) rfl rfl mq ?_
           with_reducible refine (isoglossref05_List.calls  t382 _ A55.out).mono ?_
           rintro e w70 ⟨v383, rfl, ho0, hb⟩
           refine ⟨_, rfl, ?_⟩
           have n0_ := ak (Kd.R_lower ho0 (below_size bq))
           have n1_ := ak (blk_below (g := gb367) (bx BK367.out) hb)
           have n2_ := ak (blk_below (g := gb373) (bx BK373.out) hb)
           have n3_ := ak (below_step bq hb)
           clear BK367
           clear BK373
           clear HB
           have HO384 := n0_
           have BK367 := n1_
           have BK373 := n2_
           have HB := n3_
           clear n0_ n1_ n2_ n3_
           (try clear hb)
           (try clear hb2)
           (try clear hk)
           (try clear hi)
           (try clear ho0)
           obtain ⟨Ao71, co71, eo71⟩ := Kd.R_slice HO384.out
           (first | subst eo71 | (injection eo71 with f1_ f2_ f3_; have f4_ := f1_.symm; have f5_ := f3_.symm; clear f1_ f2_ f3_; subst f4_; subst f5_))
           refine hK.out _ _ ⟨(blk_cell BK367.out 0).trans rfl, (blk_cell BK367.out 1).trans rfl, (blk_cell BK367.out 2).trans rfl, (blk_cell BK367.out 3).trans rfl, (blk_cell BK367.out 4).trans rfl, (blk_cell BK367.out 5).trans rfl⟩ (fun hHeld => ?_)
           clear hK K
           refine norm_ (a' := ?_) ?_ ?_
           rotate_left
           ·
            show Act.put _ (some 59) _ = _
            simp only [Act.put, pA, pB, pC, i64_w, i32_w]
            rfl
           refine pu 21 (some 60) (M 33 4194303) ?_
           refine pu 22 (some 61) (M 33 8388607) ?_
           refine pu 23 (some 62) (M 33 16777215) ?_
           refine pu 24 (some 63) (M 33 33554431) ?_
           refine pu 25 (some 64) (M 33 67108863) ?_
           refine take_ (i := 26) (N := some 65) (v := ?_) (a' := ?_) (M 33 134217727) rfl rfl (take_ofW HT_.out HW_.out (by kernel_rfl)) (fun _ _ _ h => h) (Or.inl ⟨by rfl, ?_⟩) hHeld ?_ ?_
           rotate_left
           ·
            rintro w' ⟨s0, s1, s2, s3, s4, s5⟩
            go_simp
            with_reducible rfl
           rotate_left
           ·
            simp only [Act.put, pA, pB, pC, i64_w, i32_w]
            rfl
           refine pu 27 (some 66) (M 33 268435455) ?_
           refine pu 28 (some 67) (M 33 536870911) ?_
           refine pu 29 (some 68) (M 33 1073741823) ?_
           refine pn 30 (some 69) (M 33 2147483647) ?_
           refine pu 31 (some 70) (M 33 4294967295) ?_
           refine pu 32 (some 2) (M 33 8589934591) ?_
           refine done_ (done_of HT_.out (by kernel_rfl)) ?_
           try go_wp2
           go_ret
           exact ⟨by first | rfl | (simp [errW_none, errW_some] <;> rfl) | (simp [*, errW_none, errW_some] <;> rfl), bq⟩
         ·
          rw [if_neg c56] at H
          have c56b0 : decide ((((((bt a0_1 0) - 48) % 256) * 10) + (((bt a0_1 1) - 48) % 256)) < (t382.length : Int)) = false := decide_eq_false c56
          have c56b7 : decide (wrap64 (wrap64 (wrap64 (IntKind.u8.wrap (bt a0_1 0 - 48)) * 10) + wrap64 (IntKind.u8.wrap (bt a0_1 1 - 48))) < (t382.length : Int)) = false := by have z : wrap64 (wrap64 (wrap64 (IntKind.u8.wrap (bt a0_1 0 - 48)) * 10) + wrap64 (IntKind.u8.wrap (bt a0_1 1 - 48))) = (((((bt a0_1 0) - 48) % 256) * 10) + (((bt a0_1 1) - 48) % 256)) := (by simp only [IntKind.wrap_u8]; unfold wrap64; omega); rw [z]; exact c56b0
          clear c56
          obtain rfl := Option.some.inj H
          have hnb72 := NB367_373.out
          have hnc72 := NB373_367.out
          obtain ⟨hcz73_0, hcz73_1, hcz73_2, hcz73_3, hcz73_4, hcz73_5⟩ := cz6 BK367.out
          obtain ⟨hfz73_0, hfz73_1, hfz73_2, hfz73_3, hfz73_4, hfz73_5⟩ := fz6 BK367.out
          try go_wp2_with (first | ((with_reducible refine gate_callee (f := 83) rfl ?_); refine goesL_ (some 31) rfl rfl Tryd.func83 (by kernel_rfl) rfl #[.agg #[.int .i64 a0_0, .string a0_1, .string a0_2, .string a0_3, .string a0_4, .string a0_5]] rfl mq ?_; (with_reducible refine (isoglossref12_target.calls k1 a0_0 a0_1 a0_2 a0_3 a0_4 a0_5 t379 _ A45.out).mono ?_); rintro e w74 ⟨rfl, hb⟩; refine ⟨_, rfl, ?_⟩; have n0_ := ak (blk_below (g := gb367) (bx BK367.out) hb); have n1_ := ak (blk_below (g := gb373) (bx BK373.out) hb); have n2_ := ak (below_step bq hb); clear BK367; clear BK373; clear HB; have BK367 := n0_; have BK373 := n1_; have HB := n2_; clear n0_ n1_ n2_; (try clear hb); (try clear hb2); (try clear hk); (try clear hi); obtain ⟨hcz75_0, hcz75_1, hcz75_2, hcz75_3, hcz75_4, hcz75_5⟩ := cz6 BK367.out; obtain ⟨hfz75_0, hfz75_1, hfz75_2, hfz75_3, hfz75_4, hfz75_5⟩ := fz6 BK367.out; (try clear A45)) | ((with_reducible refine gate_callee (f := 84) rfl ?_); refine goesL_ (some 38) rfl rfl Tryd.func84 (by kernel_rfl) rfl #[.string a0_1, .int .i64 2, .int .i64 2] rfl mq ?_; (with_reducible refine (isoglossref12_word.calls k1 a0_1 2 2 true _ A47.out).mono ?_); rintro e w' ⟨rfl, ⟨nd, rfl⟩⟩; refine ⟨_, rfl, ?_⟩; (try clear A47)))
          (try (rw [drewN_self w74]; generalize hq_ : World.drewN w74 _ = w74; have n0_ : Aside0 (w74.heap[gb367]? = some (.cells #[.int .i64 a0_0, .string a0_1, .string a0_2, .string a0_3, .string a0_4, .string a0_5] 50 (0, 0))) := ⟨by rw [← hq_]; exact (bx BK367.out)⟩; have n1_ : Aside0 (w74.heap[gb373]? = some (.cells #[.string t368, .string t369, .string t370, .string t371, .string t372] 98 (0, 0))) := ⟨by rw [← hq_]; exact (bx BK373.out)⟩; have n2_ : Aside0 (Below w.heap.size w w74) := ⟨by rw [← hq_]; exact bq⟩; clear BK367 BK373 HB hq_; have BK367 := n0_; have BK373 := n1_; have HB := n2_; clear n0_ n1_ n2_))
          have n0_ := ak (blk_drew BK367.out)
          have n1_ := ak (blk_drew BK373.out)
          have n2_ := ak (below_drew1 HB.out)
          clear BK367
          clear BK373
          clear HB
          have BK367 := n0_
          have BK373 := n1_
          have HB := n2_
          clear n0_ n1_ n2_
          refine start_ (n := 33) (S := fun w' => w'.cell? ⟨gb367, 0, none⟩ = some (.int .i64 a0_0) ∧ w'.cell? ⟨gb367, 1, none⟩ = some (.string a0_1) ∧ w'.cell? ⟨gb367, 2, none⟩ = some (.string a0_2) ∧ w'.cell? ⟨gb367, 3, none⟩ = some (.string a0_3) ∧ w'.cell? ⟨gb367, 4, none⟩ = some (.string a0_4) ∧ w'.cell? ⟨gb367, 5, none⟩ = some (.string a0_5)) (ds := []) #[false, false, false, false, false, false, false, false, false, false, false, false, false, false, false, false, false, false, false, false, false, false, false, false, false, false, false, false, false, false, false, false, false] (by kernel_rfl) rfl rfl ⟨(blk_cell BK367.out 0).trans rfl, (blk_cell BK367.out 1).trans rfl, (blk_cell BK367.out 2).trans rfl, (blk_cell BK367.out 3).trans rfl, (blk_cell BK367.out 4).trans rfl, (blk_cell BK367.out 5).trans rfl⟩ (fun hHeld => ?_); refine with_tabW isoglossref12_Right.tab11 isoglossref12_Right.bits11 (fun HT_ HW_ => ?_)
          generalize w74.drew = w76 at BK367 BK373 HB hHeld ⊢
          refine pu 0 (some 39) (M 33 1) ?_
          refine pu 1 (some 40) (M 33 3) ?_
          refine pu 2 (some 41) (M 33 7) ?_
          refine take_ (i := 3) (N := some 42) (v := ?_) (a' := ?_) (M 33 15) rfl rfl (take_ofW HT_.out HW_.out (by kernel_rfl)) (fun _ _ _ h => h) (Or.inl ⟨by rfl, ?_⟩) hHeld ?_ ?_
          rotate_left
          ·
           rintro w' ⟨s0, s1, s2, s3, s4, s5⟩
           go_simp
           with_reducible rfl
          rotate_left
          ·
           simp only [Act.put, pA, pB, pC, i64_w, i32_w]
           rfl
          refine one_ (i := 4) (N := some 43) (M 33 31) rfl rfl (one_of HT_.out (by kernel_rfl)) (by decide) (fun K hK => ?_)
          refine goes_ Tryd.func82 (by kernel_rfl) rfl #[.string a0_1] (by rfl) rfl rfl mq ?_
          with_reducible refine (isoglossref02_Class.calls k1 a0_1 t381 _ A49.out).mono ?_
          rintro e w' ⟨rfl, ⟨nd, rfl⟩⟩
          refine ⟨_, rfl, ?_⟩
          have p52 : 0 ≤ (0 : Int) := (by omega)
          have q52 : 0 < a0_1.size := (by have : (0 : Int) < (a0_1.size : Int) := of_decide_eq_true (by first | (with_reducible assumption) | assumption); omega)
          have hx52 : ∀ h : 0 < a0_1.size, ((a0_1[0]'h).toNat : Int) = bt a0_1 0 := bt_at a0_1 0
          clear p52
          have qi52 : (0 < (a0_1.size : Int)) = True := eq_true (of_decide_eq_true (by first | (with_reducible assumption) | assumption))
          replace q52 := eq_true q52
          have p54 : 0 ≤ (1 : Int) := (by omega)
          have q54 : 1 < a0_1.size := (by have : (1 : Int) < (a0_1.size : Int) := of_decide_eq_true (by first | (with_reducible assumption) | assumption); omega)
          have hx54 : ∀ h : 1 < a0_1.size, ((a0_1[1]'h).toNat : Int) = bt a0_1 1 := bt_at a0_1 1
          clear p54
          have qi54 : (1 < (a0_1.size : Int)) = True := eq_true (of_decide_eq_true (by first | (with_reducible assumption) | assumption))
          replace q54 := eq_true q54
          refine hK.out _ _ ⟨(blk_cell BK367.out 0).trans rfl, (blk_cell BK367.out 1).trans rfl, (blk_cell BK367.out 2).trans rfl, (blk_cell BK367.out 3).trans rfl, (blk_cell BK367.out 4).trans rfl, (blk_cell BK367.out 5).trans rfl⟩ (fun hHeld => ?_)
          clear hK K
          refine norm_ (a' := ?_) ?_ ?_
          rotate_left
          ·
           show Act.put _ (some 43) _ = _
           simp only [Act.put, pA, pB, pC, i64_w, i32_w]
           rfl
          refine pu 5 (some 44) (M 33 63) ?_
          refine pu 6 (some 45) (M 33 127) ?_
          refine pu 7 (some 46) (M 33 255) ?_
          refine pu 8 (some 47) (M 33 511) ?_
          refine pu 14 (some 53) (M 33 16895) ?_
          refine take_ (i := 9) (N := some 48) (v := ?_) (a' := ?_) (M 33 17407) rfl rfl (take_ofW HT_.out HW_.out (by kernel_rfl)) (fun _ _ _ h => h) (Or.inl ⟨by rfl, ?_⟩) hHeld ?_ ?_
          rotate_left
          ·
           rintro w' ⟨s0, s1, s2, s3, s4, s5⟩
           go_simp
           with_reducible rfl
          rotate_left
          ·
           simp only [Act.put, pA, pB, pC, i64_w, i32_w]
           rfl
          refine take_ (i := 10) (N := some 49) (v := ?_) (a' := ?_) (M 33 18431) rfl rfl (take_ofW HT_.out HW_.out (by kernel_rfl)) (fun _ _ _ h => h) (Or.inl ⟨by rfl, ?_⟩) hHeld ?_ ?_
          rotate_left
          ·
           rintro w' ⟨s0, s1, s2, s3, s4, s5⟩
           go_simp
           with_reducible rfl
          rotate_left
          ·
           simp only [Act.put, pA, pB, pC, i64_w, i32_w]
           rfl
          refine pu 11 (some 50) (M 33 20479) ?_
          refine pu 12 (some 51) (M 33 24575) ?_
          refine pu 13 (some 52) (M 33 32767) ?_
          refine take_ (i := 15) (N := some 54) (v := ?_) (a' := ?_) (M 33 65535) rfl rfl (take_ofW HT_.out HW_.out (by kernel_rfl)) (fun _ _ _ h => h) (Or.inl ⟨by rfl, ?_⟩) hHeld ?_ ?_
          rotate_left
          ·
           rintro w' ⟨s0, s1, s2, s3, s4, s5⟩
           go_simp
           with_reducible rfl
          rotate_left
          ·
           simp only [Act.put, pA, pB, pC, i64_w, i32_w]
           rfl
          refine take_ (i := 16) (N := some 55) (v := ?_) (a' := ?_) (M 33 131071) rfl rfl (take_ofW HT_.out HW_.out (by kernel_rfl)) (fun _ _ _ h => h) (Or.inl ⟨by rfl, ?_⟩) hHeld ?_ ?_
          rotate_left
          ·
           rintro w' ⟨s0, s1, s2, s3, s4, s5⟩
           go_simp
           with_reducible rfl
          rotate_left
          ·
           simp only [Act.put, pA, pB, pC, i64_w, i32_w]
           rfl
          refine pu 17 (some 56) (M 33 262143) ?_
          refine pu 18 (some 57) (M 33 524287) ?_
          refine pu 19 (some 58) (M 33 1048575) ?_
          refine one_ (i := 20) (N := some 59) (M 33 2097151) rfl rfl (one_of HT_.out (by kernel_rfl)) (by decide) (fun K hK => ?_)
          refine goes_ Tryd.func15 (by kernel_rfl) rfl #[] (by rfl) rfl rfl mq ?_
          with_reducible refine (isoglossref05_List.calls  t382 _ A55.out).mono ?_
          rintro e w77 ⟨v383, rfl, ho0, hb⟩
          refine ⟨_, rfl, ?_⟩
          have n0_ := ak (Kd.R_lower ho0 (below_size bq))
          have n1_ := ak (blk_below (g := gb367) (bx BK367.out) hb)
          have n2_ := ak (blk_below (g := gb373) (bx BK373.out) hb)
          have n3_ := ak (below_step bq hb)
          clear BK367
          clear BK373
          clear HB
          have HO384 := n0_
          have BK367 := n1_
          have BK373 := n2_
          have HB := n3_
          clear n0_ n1_ n2_ n3_
          (try clear hb)
          (try clear hb2)
          (try clear hk)
          (try clear hi)
          (try clear ho0)
          obtain ⟨Ao78, co78, eo78⟩ := Kd.R_slice HO384.out
          (first | subst eo78 | (injection eo78 with f1_ f2_ f3_; have f4_ := f1_.symm; have f5_ := f3_.symm; clear f1_ f2_ f3_; subst f4_; subst f5_))
          refine hK.out _ _ ⟨(blk_cell BK367.out 0).trans rfl, (blk_cell BK367.out 1).trans rfl, (blk_cell BK367.out 2).trans rfl, (blk_cell BK367.out 3).trans rfl, (blk_cell BK367.out 4).trans rfl, (blk_cell BK367.out 5).trans rfl⟩ (fun hHeld => ?_)
          clear hK K
          refine norm_ (a' := ?_) ?_ ?_
          rotate_left
          ·
           show Act.put _ (some 59) _ = _
           simp only [Act.put, pA, pB, pC, i64_w, i32_w]
           rfl
          refine pu 21 (some 60) (M 33 4194303) ?_
          refine pu 22 (some 61) (M 33 8388607) ?_
          refine pu 23 (some 62) (M 33 16777215) ?_
          refine pu 24 (some 63) (M 33 33554431) ?_
          refine pn 25 (some 64) (M 33 67108863) ?_
          refine pn 26 (some 65) (M 33 134217727) ?_
          refine pn 27 (some 66) (M 33 268435455) ?_
          refine pu 28 (some 67) (M 33 536870911) ?_
          refine pu 29 (some 68) (M 33 1073741823) ?_
          refine pn 30 (some 69) (M 33 2147483647) ?_
          refine pu 31 (some 70) (M 33 4294967295) ?_
          refine pu 32 (some 2) (M 33 8589934591) ?_
          refine done_ (done_of HT_.out (by kernel_rfl)) ?_
          try go_wp2
          go_ret
          exact ⟨by first | rfl | (simp [errW_none, errW_some] <;> rfl) | (simp [*, errW_none, errW_some] <;> rfl), bq⟩
        ·
         rw [if_neg c53] at H
         exact absurd H (by simp)
       ·
        rw [if_neg c51] at H
        exact absurd H (by simp)
      ·
       rw [if_neg c50] at H
       have c50b0 : (t381 == 2) = false := beq_eq_false_iff_ne.mpr c50
       have c50b1 : (t381 != 2) = true := bne_iff_ne.mpr c50
       obtain rfl := Option.some.inj H
       have hnb79 := NB367_373.out
       have hnc79 := NB373_367.out
       obtain ⟨hcz80_0, hcz80_1, hcz80_2, hcz80_3, hcz80_4, hcz80_5⟩ := cz6 BK367.out
       obtain ⟨hfz80_0, hfz80_1, hfz80_2, hfz80_3, hfz80_4, hfz80_5⟩ := fz6 BK367.out
       try go_wp2_with (first | ((with_reducible refine gate_callee (f := 83) rfl ?_); refine goesL_ (some 31) rfl rfl Tryd.func83 (by kernel_rfl) rfl #[.agg #[.int .i64 a0_0, .string a0_1, .string a0_2, .string a0_3, .string a0_4, .string a0_5]] rfl mq ?_; (with_reducible refine (isoglossref12_target.calls k1 a0_0 a0_1 a0_2 a0_3 a0_4 a0_5 t379 _ A45.out).mono ?_); rintro e w81 ⟨rfl, hb⟩; refine ⟨_, rfl, ?_⟩; have n0_ := ak (blk_below (g := gb367) (bx BK367.out) hb); have n1_ := ak (blk_below (g := gb373) (bx BK373.out) hb); have n2_ := ak (below_step bq hb); clear BK367; clear BK373; clear HB; have BK367 := n0_; have BK373 := n1_; have HB := n2_; clear n0_ n1_ n2_; (try clear hb); (try clear hb2); (try clear hk); (try clear hi); obtain ⟨hcz82_0, hcz82_1, hcz82_2, hcz82_3, hcz82_4, hcz82_5⟩ := cz6 BK367.out; obtain ⟨hfz82_0, hfz82_1, hfz82_2, hfz82_3, hfz82_4, hfz82_5⟩ := fz6 BK367.out; (try clear A45)) | ((with_reducible refine gate_callee (f := 84) rfl ?_); refine goesL_ (some 38) rfl rfl Tryd.func84 (by kernel_rfl) rfl #[.string a0_1, .int .i64 2, .int .i64 2] rfl mq ?_; (with_reducible refine (isoglossref12_word.calls k1 a0_1 2 2 true _ A47.out).mono ?_); rintro e w' ⟨rfl, ⟨nd, rfl⟩⟩; refine ⟨_, rfl, ?_⟩; (try clear A47)))
       (try (rw [drewN_self w81]; generalize hq_ : World.drewN w81 _ = w81; have n0_ : Aside0 (w81.heap[gb367]? = some (.cells #[.int .i64 a0_0, .string a0_1, .string a0_2, .string a0_3, .string a0_4, .string a0_5] 50 (0, 0))) := ⟨by rw [← hq_]; exact (bx BK367.out)⟩; have n1_ : Aside0 (w81.heap[gb373]? = some (.cells #[.string t368, .string t369, .string t370, .string t371, .string t372] 98 (0, 0))) := ⟨by rw [← hq_]; exact (bx BK373.out)⟩; have n2_ : Aside0 (Below w.heap.size w w81) := ⟨by rw [← hq_]; exact bq⟩; clear BK367 BK373 HB hq_; have BK367 := n0_; have BK373 := n1_; have HB := n2_; clear n0_ n1_ n2_))
       have n0_ := ak (blk_drew BK367.out)
       have n1_ := ak (blk_drew BK373.out)
       have n2_ := ak (below_drew1 HB.out)
       clear BK367
       clear BK373
       clear HB
       have BK367 := n0_
       have BK373 := n1_
       have HB := n2_
       clear n0_ n1_ n2_
       refine start_ (n := 33) (S := fun w' => w'.cell? ⟨gb367, 0, none⟩ = some (.int .i64 a0_0) ∧ w'.cell? ⟨gb367, 1, none⟩ = some (.string a0_1) ∧ w'.cell? ⟨gb367, 2, none⟩ = some (.string a0_2) ∧ w'.cell? ⟨gb367, 3, none⟩ = some (.string a0_3) ∧ w'.cell? ⟨gb367, 4, none⟩ = some (.string a0_4) ∧ w'.cell? ⟨gb367, 5, none⟩ = some (.string a0_5)) (ds := []) #[false, false, false, false, false, false, false, false, false, false, false, false, false, false, false, false, false, false, false, false, false, false, false, false, false, false, false, false, false, false, false, false, false] (by kernel_rfl) rfl rfl ⟨(blk_cell BK367.out 0).trans rfl, (blk_cell BK367.out 1).trans rfl, (blk_cell BK367.out 2).trans rfl, (blk_cell BK367.out 3).trans rfl, (blk_cell BK367.out 4).trans rfl, (blk_cell BK367.out 5).trans rfl⟩ (fun hHeld => ?_); refine with_tabW isoglossref12_Right.tab11 isoglossref12_Right.bits11 (fun HT_ HW_ => ?_)
       generalize w81.drew = w83 at BK367 BK373 HB hHeld ⊢
       refine pu 0 (some 39) (M 33 1) ?_
       refine pu 1 (some 40) (M 33 3) ?_
       refine pu 2 (some 41) (M 33 7) ?_
       refine take_ (i := 3) (N := some 42) (v := ?_) (a' := ?_) (M 33 15) rfl rfl (take_ofW HT_.out HW_.out (by kernel_rfl)) (fun _ _ _ h => h) (Or.inl ⟨by rfl, ?_⟩) hHeld ?_ ?_
       rotate_left
       ·
        rintro w' ⟨s0, s1, s2, s3, s4, s5⟩
        go_simp
        with_reducible rfl
       rotate_left
       ·
        simp only [Act.put, pA, pB, pC, i64_w, i32_w]
        rfl
       refine one_ (i := 4) (N := some 43) (M 33 31) rfl rfl (one_of HT_.out (by kernel_rfl)) (by decide) (fun K hK => ?_)
       refine goes_ Tryd.func82 (by kernel_rfl) rfl #[.string a0_1] (by rfl) rfl rfl mq ?_
       with_reducible refine (isoglossref02_Class.calls k1 a0_1 t381 _ A49.out).mono ?_
       rintro e w' ⟨rfl, ⟨nd, rfl⟩⟩
       refine ⟨_, rfl, ?_⟩
       refine hK.out _ _ ⟨(blk_cell BK367.out 0).trans rfl, (blk_cell BK367.out 1).trans rfl, (blk_cell BK367.out 2).trans rfl, (blk_cell BK367.out 3).trans rfl, (blk_cell BK367.out 4).trans rfl, (blk_cell BK367.out 5).trans rfl⟩ (fun hHeld => ?_)
       clear hK K
       refine norm_ (a' := ?_) ?_ ?_
       rotate_left
       ·
        show Act.put _ (some 43) _ = _
        simp only [Act.put, pA, pB, pC, i64_w, i32_w]
        rfl
       refine pu 5 (some 44) (M 33 63) ?_
       refine pu 6 (some 45) (M 33 127) ?_
       refine pu 7 (some 46) (M 33 255) ?_
       refine pn 8 (some 47) (M 33 511) ?_
       refine pn 9 (some 48) (M 33 1023) ?_
       refine pn 10 (some 49) (M 33 2047) ?_
       refine pn 11 (some 50) (M 33 4095) ?_
       refine pn 12 (some 51) (M 33 8191) ?_
       refine pn 13 (some 52) (M 33 16383) ?_
       refine pn 14 (some 53) (M 33 32767) ?_
       refine pn 15 (some 54) (M 33 65535) ?_
       refine pn 16 (some 55) (M 33 131071) ?_
       refine pn 17 (some 56) (M 33 262143) ?_
       refine pn 18 (some 57) (M 33 524287) ?_
       refine pn 19 (some 58) (M 33 1048575) ?_
       refine pn 20 (some 59) (M 33 2097151) ?_
       refine pn 21 (some 60) (M 33 4194303) ?_
       refine pn 22 (some 61) (M 33 8388607) ?_
       refine pu 23 (some 62) (M 33 16777215) ?_
       refine pu 24 (some 63) (M 33 33554431) ?_
       refine pn 25 (some 64) (M 33 67108863) ?_
       refine pn 26 (some 65) (M 33 134217727) ?_
       refine pn 27 (some 66) (M 33 268435455) ?_
       refine pu 28 (some 67) (M 33 536870911) ?_
       refine pu 29 (some 68) (M 33 1073741823) ?_
       refine pn 30 (some 69) (M 33 2147483647) ?_
       refine pu 31 (some 70) (M 33 4294967295) ?_
       refine pu 32 (some 2) (M 33 8589934591) ?_
       refine done_ (done_of HT_.out (by kernel_rfl)) ?_
       try go_wp2
       go_ret
       exact ⟨by first | rfl | (simp [errW_none, errW_some] <;> rfl) | (simp [*, errW_none, errW_some] <;> rfl), bq⟩
     ·
      replace c48 := Bool.eq_false_iff.mpr c48
      subst c48
      have H1 : (some false) = some r := by rw [if_neg (show ¬ (false = true) by decide)] at H; exact H
      clear H
      have H := H1
      clear H1
      obtain rfl := Option.some.inj H
      have hnb84 := NB367_373.out
      have hnc84 := NB373_367.out
      obtain ⟨hcz85_0, hcz85_1, hcz85_2, hcz85_3, hcz85_4, hcz85_5⟩ := cz6 BK367.out
      obtain ⟨hfz85_0, hfz85_1, hfz85_2, hfz85_3, hfz85_4, hfz85_5⟩ := fz6 BK367.out
      try go_wp2_with (first | ((with_reducible refine gate_callee (f := 83) rfl ?_); refine goesL_ (some 31) rfl rfl Tryd.func83 (by kernel_rfl) rfl #[.agg #[.int .i64 a0_0, .string a0_1, .string a0_2, .string a0_3, .string a0_4, .string a0_5]] rfl mq ?_; (with_reducible refine (isoglossref12_target.calls k1 a0_0 a0_1 a0_2 a0_3 a0_4 a0_5 t379 _ A45.out).mono ?_); rintro e w86 ⟨rfl, hb⟩; refine ⟨_, rfl, ?_⟩; have n0_ := ak (blk_below (g := gb367) (bx BK367.out) hb); have n1_ := ak (blk_below (g := gb373) (bx BK373.out) hb); have n2_ := ak (below_step bq hb); clear BK367; clear BK373; clear HB; have BK367 := n0_; have BK373 := n1_; have HB := n2_; clear n0_ n1_ n2_; (try clear hb); (try clear hb2); (try clear hk); (try clear hi); obtain ⟨hcz87_0, hcz87_1, hcz87_2, hcz87_3, hcz87_4, hcz87_5⟩ := cz6 BK367.out; obtain ⟨hfz87_0, hfz87_1, hfz87_2, hfz87_3, hfz87_4, hfz87_5⟩ := fz6 BK367.out; (try clear A45)) | ((with_reducible refine gate_callee (f := 84) rfl ?_); refine goesL_ (some 38) rfl rfl Tryd.func84 (by kernel_rfl) rfl #[.string a0_1, .int .i64 2, .int .i64 2] rfl mq ?_; (with_reducible refine (isoglossref12_word.calls k1 a0_1 2 2 false _ A47.out).mono ?_); rintro e w' ⟨rfl, ⟨nd, rfl⟩⟩; refine ⟨_, rfl, ?_⟩; (try clear A47)))
      (try (rw [drewN_self w86]; generalize hq_ : World.drewN w86 _ = w86; have n0_ : Aside0 (w86.heap[gb367]? = some (.cells #[.int .i64 a0_0, .string a0_1, .string a0_2, .string a0_3, .string a0_4, .string a0_5] 50 (0, 0))) := ⟨by rw [← hq_]; exact (bx BK367.out)⟩; have n1_ : Aside0 (w86.heap[gb373]? = some (.cells #[.string t368, .string t369, .string t370, .string t371, .string t372] 98 (0, 0))) := ⟨by rw [← hq_]; exact (bx BK373.out)⟩; have n2_ : Aside0 (Below w.heap.size w w86) := ⟨by rw [← hq_]; exact bq⟩; clear BK367 BK373 HB hq_; have BK367 := n0_; have BK373 := n1_; have HB := n2_; clear n0_ n1_ n2_))
      have n0_ := ak (blk_drew BK367.out)
      have n1_ := ak (blk_drew BK373.out)
      have n2_ := ak (below_drew1 HB.out)
      clear BK367
      clear BK373
      clear HB
      have BK367 := n0_
      have BK373 := n1_
      have HB := n2_
      clear n0_ n1_ n2_
      refine start_ (n := 33) (S := fun w' => True) (ds := []) #[false, false, false, false, false, false, false, false, false, false, false, false, false, false, false, false, false, false, false, false, false, false, false, false, false, false, false, false, false, false, false, false, false] (by kernel_rfl) rfl rfl trivial (fun hHeld => ?_); refine with_tabW isoglossref12_Right.tab11 isoglossref12_Right.bits11 (fun HT_ HW_ => ?_)
      generalize w86.drew = w88 at BK367 BK373 HB hHeld ⊢
      refine pu 0 (some 39) (M 33 1) ?_
      refine pu 1 (some 40) (M 33 3) ?_
      refine pn 2 (some 41) (M 33 7) ?_
      refine pn 3 (some 42) (M 33 15) ?_
      refine pn 4 (some 43) (M 33 31) ?_
      refine pn 5 (some 44) (M 33 63) ?_
      refine pu 6 (some 45) (M 33 127) ?_
      refine pu 7 (some 46) (M 33 255) ?_
      refine pn 8 (some 47) (M 33 511) ?_
      refine pn 9 (some 48) (M 33 1023) ?_
      refine pn 10 (some 49) (M 33 2047) ?_
      refine pn 11 (some 50) (M 33 4095) ?_
      refine pn 12 (some 51) (M 33 8191) ?_
      refine pn 13 (some 52) (M 33 16383) ?_
      refine pn 14 (some 53) (M 33 32767) ?_
      refine pn 15 (some 54) (M 33 65535) ?_
      refine pn 16 (some 55) (M 33 131071) ?_
      refine pn 17 (some 56) (M 33 262143) ?_
      refine pn 18 (some 57) (M 33 524287) ?_
      refine pn 19 (some 58) (M 33 1048575) ?_
      refine pn 20 (some 59) (M 33 2097151) ?_
      refine pn 21 (some 60) (M 33 4194303) ?_
      refine pn 22 (some 61) (M 33 8388607) ?_
      refine pu 23 (some 62) (M 33 16777215) ?_
      refine pu 24 (some 63) (M 33 33554431) ?_
      refine pn 25 (some 64) (M 33 67108863) ?_
      refine pn 26 (some 65) (M 33 134217727) ?_
      refine pn 27 (some 66) (M 33 268435455) ?_
      refine pu 28 (some 67) (M 33 536870911) ?_
      refine pu 29 (some 68) (M 33 1073741823) ?_
      refine pn 30 (some 69) (M 33 2147483647) ?_
      refine pu 31 (some 70) (M 33 4294967295) ?_
      refine pu 32 (some 2) (M 33 8589934591) ?_
      refine done_ (done_of HT_.out (by kernel_rfl)) ?_
      try go_wp2
      go_ret
      exact ⟨by first | rfl | (simp [errW_none, errW_some] <;> rfl) | (simp [*, errW_none, errW_some] <;> rfl), bq⟩
    ·
     rw [if_neg c46] at H
     have c46b0 : (a0_0 == 1) = false := beq_eq_false_iff_ne.mpr c46
     have c46b1 : (a0_0 != 1) = true := bne_iff_ne.mpr c46
     by_cases c89 : a0_0 = 2
     ·
      rw [if_pos c89] at H
      have c89b0 : (a0_0 == 2) = true := beq_iff_eq.mpr c89
      have c89b1 : (a0_0 != 2) = false := bne_eq_false_iff_eq.mpr c89
      (try (have c89b2 : (a0_0 : Int).toNat = 2 := by rw [c89]; rfl))
      try have c89b3 : (0 ≤ a0_0) = True := eq_true (by omega)
      try have c89b4_3 : (a0_0 < 3) = True := eq_true (by omega)
      try have c89b4_5 : (a0_0 < 5) = True := eq_true (by omega)
      clear c89
      replace H := Option.bind_eq_some_iff.mp H
      obtain ⟨t385, A900, H⟩ := H
      have A90 := ak A900
      clear A900
      replace H := Option.bind_eq_some_iff.mp H
      obtain ⟨t386, A910, H⟩ := H
      have A91 := ak A910
      clear A910
      by_cases c92 : t385 = true
      ·
       subst c92
       have H1 : (if t386 = true then ((isoglossref06_Language.f k1 a0_3).bind fun t387 => (if t387 = true then (if a0_4.toList = ([] : List UInt8) then (some (a0_5.toList == ([] : List UInt8))) else (some false)) else (some false))) else (some false)) = some r := by rw [if_pos rfl] at H; exact H
       clear H
       have H := H1
       clear H1
       by_cases c93 : t386 = true
       ·
        subst c93
        have H1 : ((isoglossref06_Language.f k1 a0_3).bind fun t387 => (if t387 = true then (if a0_4.toList = ([] : List UInt8) then (some (a0_5.toList == ([] : List UInt8))) else (some false)) else (some false))) = some r := by rw [if_pos rfl] at H; exact H
        clear H
        have H := H1
        clear H1
        replace H := Option.bind_eq_some_iff.mp H
        obtain ⟨t387, A940, H⟩ := H
        have A94 := ak A940
        clear A940
        by_cases c95 : t387 = true
        ·
         subst c95
         have H1 : (if a0_4.toList = ([] : List UInt8) then (some (a0_5.toList == ([] : List UInt8))) else (some false)) = some r := by rw [if_pos rfl] at H; exact H
         clear H
         have H := H1
         clear H1
         by_cases c96 : a0_4.toList = ([] : List UInt8)
         ·
          rw [if_pos c96] at H
          have c96b0 : (a0_4.toList == ([] : List UInt8)) = true := beq_iff_eq.mpr c96
          have c96b1 : (a0_4.toList != ([] : List UInt8)) = false := bne_eq_false_iff_eq.mpr c96
          have c96b2 : a0_4.toList.isEmpty = true := List.isEmpty_iff.mpr c96
          clear c96
          obtain rfl := Option.some.inj H
          have hnb97 := NB367_373.out
          have hnc97 := NB373_367.out
          obtain ⟨hcz98_0, hcz98_1, hcz98_2, hcz98_3, hcz98_4, hcz98_5⟩ := cz6 BK367.out
          obtain ⟨hfz98_0, hfz98_1, hfz98_2, hfz98_3, hfz98_4, hfz98_5⟩ := fz6 BK367.out
          go_wp2_with (first | ((with_reducible refine gate_callee (f := 83) rfl ?_); refine goesL_ (some 31) rfl rfl Tryd.func83 (by kernel_rfl) rfl #[.agg #[.int .i64 a0_0, .string a0_1, .string a0_2, .string a0_3, .string a0_4, .string a0_5]] rfl mq ?_; (with_reducible refine (isoglossref12_target.calls k1 a0_0 a0_1 a0_2 a0_3 a0_4 a0_5 t379 _ A45.out).mono ?_); rintro e w99 ⟨rfl, hb⟩; refine ⟨_, rfl, ?_⟩; have n0_ := ak (blk_below (g := gb367) (bx BK367.out) hb); have n1_ := ak (blk_below (g := gb373) (bx BK373.out) hb); have n2_ := ak (below_step bq hb); clear BK367; clear BK373; clear HB; have BK367 := n0_; have BK373 := n1_; have HB := n2_; clear n0_ n1_ n2_; (try clear hb); (try clear hb2); (try clear hk); (try clear hi); obtain ⟨hcz100_0, hcz100_1, hcz100_2, hcz100_3, hcz100_4, hcz100_5⟩ := cz6 BK367.out; obtain ⟨hfz100_0, hfz100_1, hfz100_2, hfz100_3, hfz100_4, hfz100_5⟩ := fz6 BK367.out; (try clear A45)) | ((with_reducible refine gate_callee (f := 85) rfl ?_); refine goesL_ (some 75) rfl rfl Tryd.func85 (by kernel_rfl) rfl #[.string a0_1] rfl mq ?_; (with_reducible refine (isoglossref06_Language.calls k1 a0_1 true _ A90.out).mono ?_); rintro e w' ⟨rfl, ⟨nd, rfl⟩⟩; refine ⟨_, rfl, ?_⟩; (try clear A90)) | ((with_reducible refine gate_callee (f := 86) rfl ?_); refine goesL_ (some 78) rfl rfl Tryd.func86 (by kernel_rfl) rfl #[.string a0_2] rfl mq ?_; (with_reducible refine (isoglossref06_Region.calls k1 a0_2 true _ A91.out).mono ?_); rintro e w' ⟨rfl, ⟨nd, rfl⟩⟩; refine ⟨_, rfl, ?_⟩; (try clear A91)) | (go_at_call 85; (with_reducible refine (isoglossref06_Language.calls k1 a0_3 true _ A94.out).mono ?_); rintro e w' ⟨rfl, ⟨nd, rfl⟩⟩; (try clear A94)))
          go_ret
          exact ⟨by first | rfl | (simp [errW_none, errW_some] <;> rfl) | (simp [*, errW_none, errW_some] <;> rfl), bq⟩
         ·
          rw [if_neg c96] at H
          have c96b0 : (a0_4.toList == ([] : List UInt8)) = false := beq_eq_false_iff_ne.mpr c96
          have c96b1 : (a0_4.toList != ([] : List UInt8)) = true := bne_iff_ne.mpr c96
          have c96b2 : a0_4.toList.isEmpty = false := List.isEmpty_eq_false_iff.mpr c96
          obtain rfl := Option.some.inj H
          have hnb101 := NB367_373.out
          have hnc101 := NB373_367.out
          obtain ⟨hcz102_0, hcz102_1, hcz102_2, hcz102_3, hcz102_4, hcz102_5⟩ := cz6 BK367.out
          obtain ⟨hfz102_0, hfz102_1, hfz102_2, hfz102_3, hfz102_4, hfz102_5⟩ := fz6 BK367.out
          go_wp2_with (first | ((with_reducible refine gate_callee (f := 83) rfl ?_); refine goesL_ (some 31) rfl rfl Tryd.func83 (by kernel_rfl) rfl #[.agg #[.int .i64 a0_0, .string a0_1, .string a0_2, .string a0_3, .string a0_4, .string a0_5]] rfl mq ?_; (with_reducible refine (isoglossref12_target.calls k1 a0_0 a0_1 a0_2 a0_3 a0_4 a0_5 t379 _ A45.out).mono ?_); rintro e w103 ⟨rfl, hb⟩; refine ⟨_, rfl, ?_⟩; have n0_ := ak (blk_below (g := gb367) (bx BK367.out) hb); have n1_ := ak (blk_below (g := gb373) (bx BK373.out) hb); have n2_ := ak (below_step bq hb); clear BK367; clear BK373; clear HB; have BK367 := n0_; have BK373 := n1_; have HB := n2_; clear n0_ n1_ n2_; (try clear hb); (try clear hb2); (try clear hk); (try clear hi); obtain ⟨hcz104_0, hcz104_1, hcz104_2, hcz104_3, hcz104_4, hcz104_5⟩ := cz6 BK367.out; obtain ⟨hfz104_0, hfz104_1, hfz104_2, hfz104_3, hfz104_4, hfz104_5⟩ := fz6 BK367.out; (try clear A45)) | ((with_reducible refine gate_callee (f := 85) rfl ?_); refine goesL_ (some 75) rfl rfl Tryd.func85 (by kernel_rfl) rfl #[.string a0_1] rfl mq ?_; (with_reducible refine (isoglossref06_Language.calls k1 a0_1 true _ A90.out).mono ?_); rintro e w' ⟨rfl, ⟨nd, rfl⟩⟩; refine ⟨_, rfl, ?_⟩; (try clear A90)) | ((with_reducible refine gate_callee (f := 86) rfl ?_); refine goesL_ (some 78) rfl rfl Tryd.func86 (by kernel_rfl) rfl #[.string a0_2] rfl mq ?_; (with_reducible refine (isoglossref06_Region.calls k1 a0_2 true _ A91.out).mono ?_); rintro e w' ⟨rfl, ⟨nd, rfl⟩⟩; refine ⟨_, rfl, ?_⟩; (try clear A91)) | (go_at_call 85; (with_reducible refine (isoglossref06_Language.calls k1 a0_3 true _ A94.out).mono ?_); rintro e w' ⟨rfl, ⟨nd, rfl⟩⟩; (try clear A94)))
          go_ret
          exact ⟨by first | rfl | (simp [errW_none, errW_some] <;> rfl) | (simp [*, errW_none, errW_some] <;> rfl), bq⟩
        ·
         replace c95 := Bool.eq_false_iff.mpr c95
         subst c95
         have H1 : (some false) = some r := by rw [if_neg (show ¬ (false = true) by decide)] at H; exact H
         clear H
         have H := H1
         clear H1
         obtain rfl := Option.some.inj H
         have hnb105 := NB367_373.out
         have hnc105 := NB373_367.out
         obtain ⟨hcz106_0, hcz106_1, hcz106_2, hcz106_3, hcz106_4, hcz106_5⟩ := cz6 BK367.out
         obtain ⟨hfz106_0, hfz106_1, hfz106_2, hfz106_3, hfz106_4, hfz106_5⟩ := fz6 BK367.out
         go_wp2_with (first | ((with_reducible refine gate_callee (f := 83) rfl ?_); refine goesL_ (some 31) rfl rfl Tryd.func83 (by kernel_rfl) rfl #[.agg #[.int .i64 a0_0, .string a0_1, .string a0_2, .string a0_3, .string a0_4, .string a0_5]] rfl mq ?_; (with_reducible refine (isoglossref12_target.calls k1 a0_0 a0_1 a0_2 a0_3 a0_4 a0_5 t379 _ A45.out).mono ?_); rintro e w107 ⟨rfl, hb⟩; refine ⟨_, rfl, ?_⟩; have n0_ := ak (blk_below (g := gb367) (bx BK367.out) hb); have n1_ := ak (blk_below (g := gb373) (bx BK373.out) hb); have n2_ := ak (below_step bq hb); clear BK367; clear BK373; clear HB; have BK367 := n0_; have BK373 := n1_; have HB := n2_; clear n0_ n1_ n2_; (try clear hb); (try clear hb2); (try clear hk); (try clear hi); obtain ⟨hcz108_0, hcz108_1, hcz108_2, hcz108_3, hcz108_4, hcz108_5⟩ := cz6 BK367.out; obtain ⟨hfz108_0, hfz108_1, hfz108_2, hfz108_3, hfz108_4, hfz108_5⟩ := fz6 BK367.out; (try clear A45)) | ((with_reducible refine gate_callee (f := 85) rfl ?_); refine goesL_ (some 75) rfl rfl Tryd.func85 (by kernel_rfl) rfl #[.string a0_1] rfl mq ?_; (with_reducible refine (isoglossref06_Language.calls k1 a0_1 true _ A90.out).mono ?_); rintro e w' ⟨rfl, ⟨nd, rfl⟩⟩; refine ⟨_, rfl, ?_⟩; (try clear A90)) | ((with_reducible refine gate_callee (f := 86) rfl ?_); refine goesL_ (some 78) rfl rfl Tryd.func86 (by kernel_rfl) rfl #[.string a0_2] rfl mq ?_; (with_reducible refine (isoglossref06_Region.calls k1 a0_2 true _ A91.out).mono ?_); rintro e w' ⟨rfl, ⟨nd, rfl⟩⟩; refine ⟨_, rfl, ?_⟩; (try clear A91)) | (go_at_call 85; (with_reducible refine (isoglossref06_Language.calls k1 a0_3 false _ A94.out).mono ?_); rintro e w' ⟨rfl, ⟨nd, rfl⟩⟩; (try clear A94)))
         go_ret
         exact ⟨by first | rfl | (simp [errW_none, errW_some] <;> rfl) | (simp [*, errW_none, errW_some] <;> rfl), bq⟩
       ·
        replace c93 := Bool.eq_false_iff.mpr c93
        subst c93
        have H1 : (some false) = some r := by rw [if_neg (show ¬ (false = true) by decide)] at H; exact H
        clear H
        have H := H1
        clear H1
        obtain rfl := Option.some.inj H
        have hnb109 := NB367_373.out
        have hnc109 := NB373_367.out
        obtain ⟨hcz110_0, hcz110_1, hcz110_2, hcz110_3, hcz110_4, hcz110_5⟩ := cz6 BK367.out
        obtain ⟨hfz110_0, hfz110_1, hfz110_2, hfz110_3, hfz110_4, hfz110_5⟩ := fz6 BK367.out
        go_wp2_with (first | ((with_reducible refine gate_callee (f := 83) rfl ?_); refine goesL_ (some 31) rfl rfl Tryd.func83 (by kernel_rfl) rfl #[.agg #[.int .i64 a0_0, .string a0_1, .string a0_2, .string a0_3, .string a0_4, .string a0_5]] rfl mq ?_; (with_reducible refine (isoglossref12_target.calls k1 a0_0 a0_1 a0_2 a0_3 a0_4 a0_5 t379 _ A45.out).mono ?_); rintro e w111 ⟨rfl, hb⟩; refine ⟨_, rfl, ?_⟩; have n0_ := ak (blk_below (g := gb367) (bx BK367.out) hb); have n1_ := ak (blk_below (g := gb373) (bx BK373.out) hb); have n2_ := ak (below_step bq hb); clear BK367; clear BK373; clear HB; have BK367 := n0_; have BK373 := n1_; have HB := n2_; clear n0_ n1_ n2_; (try clear hb); (try clear hb2); (try clear hk); (try clear hi); obtain ⟨hcz112_0, hcz112_1, hcz112_2, hcz112_3, hcz112_4, hcz112_5⟩ := cz6 BK367.out; obtain ⟨hfz112_0, hfz112_1, hfz112_2, hfz112_3, hfz112_4, hfz112_5⟩ := fz6 BK367.out; (try clear A45)) | ((with_reducible refine gate_callee (f := 85) rfl ?_); refine goesL_ (some 75) rfl rfl Tryd.func85 (by kernel_rfl) rfl #[.string a0_1] rfl mq ?_; (with_reducible refine (isoglossref06_Language.calls k1 a0_1 true _ A90.out).mono ?_); rintro e w' ⟨rfl, ⟨nd, rfl⟩⟩; refine ⟨_, rfl, ?_⟩; (try clear A90)) | ((with_reducible refine gate_callee (f := 86) rfl ?_); refine goesL_ (some 78) rfl rfl Tryd.func86 (by kernel_rfl) rfl #[.string a0_2] rfl mq ?_; (with_reducible refine (isoglossref06_Region.calls k1 a0_2 false _ A91.out).mono ?_); rintro e w' ⟨rfl, ⟨nd, rfl⟩⟩; refine ⟨_, rfl, ?_⟩; (try clear A91)))
        go_ret
        exact ⟨by first | rfl | (simp [errW_none, errW_some] <;> rfl) | (simp [*, errW_none, errW_some] <;> rfl), bq⟩
      ·
       replace c92 := Bool.eq_false_iff.mpr c92
       subst c92
       have H1 : (some false) = some r := by rw [if_neg (show ¬ (false = true) by decide)] at H; exact H
       clear H
       have H := H1
       clear H1
       obtain rfl := Option.some.inj H
       have hnb113 := NB367_373.out
       have hnc113 := NB373_367.out
       obtain ⟨hcz114_0, hcz114_1, hcz114_2, hcz114_3, hcz114_4, hcz114_5⟩ := cz6 BK367.out
       obtain ⟨hfz114_0, hfz114_1, hfz114_2, hfz114_3, hfz114_4, hfz114_5⟩ := fz6 BK367.out
       go_wp2_with (first | ((with_reducible refine gate_callee (f := 83) rfl ?_); refine goesL_ (some 31) rfl rfl Tryd.func83 (by kernel_rfl) rfl #[.agg #[.int .i64 a0_0, .string a0_1, .string a0_2, .string a0_3, .string a0_4, .string a0_5]] rfl mq ?_; (with_reducible refine (isoglossref12_target.calls k1 a0_0 a0_1 a0_2 a0_3 a0_4 a0_5 t379 _ A45.out).mono ?_); rintro e w115 ⟨rfl, hb⟩; refine ⟨_, rfl, ?_⟩; have n0_ := ak (blk_below (g := gb367) (bx BK367.out) hb); have n1_ := ak (blk_below (g := gb373) (bx BK373.out) hb); have n2_ := ak (below_step bq hb); clear BK367; clear BK373; clear HB; have BK367 := n0_; have BK373 := n1_; have HB := n2_; clear n0_ n1_ n2_; (try clear hb); (try clear hb2); (try clear hk); (try clear hi); obtain ⟨hcz116_0, hcz116_1, hcz116_2, hcz116_3, hcz116_4, hcz116_5⟩ := cz6 BK367.out; obtain ⟨hfz116_0, hfz116_1, hfz116_2, hfz116_3, hfz116_4, hfz116_5⟩ := fz6 BK367.out; (try clear A45)) | ((with_reducible refine gate_callee (f := 85) rfl ?_); refine goesL_ (some 75) rfl rfl Tryd.func85 (by kernel_rfl) rfl #[.string a0_1] rfl mq ?_; (with_reducible refine (isoglossref06_Language.calls k1 a0_1 false _ A90.out).mono ?_); rintro e w' ⟨rfl, ⟨nd, rfl⟩⟩; refine ⟨_, rfl, ?_⟩; (try clear A90)) | ((with_reducible refine gate_callee (f := 86) rfl ?_); refine goesL_ (some 78) rfl rfl Tryd.func86 (by kernel_rfl) rfl #[.string a0_2] rfl mq ?_; (with_reducible refine (isoglossref06_Region.calls k1 a0_2 t386 _ A91.out).mono ?_); rintro e w' ⟨rfl, ⟨nd, rfl⟩⟩; refine ⟨_, rfl, ?_⟩; (try clear A91)))
       go_ret
       exact ⟨by first | rfl | (simp [errW_none, errW_some] <;> rfl) | (simp [*, errW_none, errW_some] <;> rfl), bq⟩
     ·
      rw [if_neg c89] at H
      have c89b0 : (a0_0 == 2) = false := beq_eq_false_iff_ne.mpr c89
      have c89b1 : (a0_0 != 2) = true := bne_iff_ne.mpr c89
      by_cases c117 : a0_0 = 3
      ·
       rw [if_pos c117] at H
       have c117b0 : (a0_0 == 3) = true := beq_iff_eq.mpr c117
       have c117b1 : (a0_0 != 3) = false := bne_eq_false_iff_eq.mpr c117
       (try (have c117b2 : (a0_0 : Int).toNat = 3 := by rw [c117]; rfl))
       try have c117b3 : (0 ≤ a0_0) = True := eq_true (by omega)
       try have c117b4_5 : (a0_0 < 5) = True := eq_true (by omega)
       clear c117
       replace H := Option.bind_eq_some_iff.mp H
       obtain ⟨t388, A1180, H⟩ := H
       have A118 := ak A1180
       clear A1180
       by_cases c119 : t388 = true
       ·
        subst c119
        have H1 : (if a0_2.toList = ([] : List UInt8) then (some t379) else (some false)) = some r := by rw [if_pos rfl] at H; exact H
        clear H
        have H := H1
        clear H1
        by_cases c120 : a0_2.toList = ([] : List UInt8)
        ·
         rw [if_pos c120] at H
         have c120b0 : (a0_2.toList == ([] : List UInt8)) = true := beq_iff_eq.mpr c120
         have c120b1 : (a0_2.toList != ([] : List UInt8)) = false := bne_eq_false_iff_eq.mpr c120
         have c120b2 : a0_2.toList.isEmpty = true := List.isEmpty_iff.mpr c120
         clear c120
         obtain rfl := Option.some.inj H
         have hnb121 := NB367_373.out
         have hnc121 := NB373_367.out
         obtain ⟨hcz122_0, hcz122_1, hcz122_2, hcz122_3, hcz122_4, hcz122_5⟩ := cz6 BK367.out
         obtain ⟨hfz122_0, hfz122_1, hfz122_2, hfz122_3, hfz122_4, hfz122_5⟩ := fz6 BK367.out
         go_wp2_with (first | ((with_reducible refine gate_callee (f := 83) rfl ?_); refine goesL_ (some 31) rfl rfl Tryd.func83 (by kernel_rfl) rfl #[.agg #[.int .i64 a0_0, .string a0_1, .string a0_2, .string a0_3, .string a0_4, .string a0_5]] rfl mq ?_; (with_reducible refine (isoglossref12_target.calls k1 a0_0 a0_1 a0_2 a0_3 a0_4 a0_5 t379 _ A45.out).mono ?_); rintro e w123 ⟨rfl, hb⟩; refine ⟨_, rfl, ?_⟩; have n0_ := ak (blk_below (g := gb367) (bx BK367.out) hb); have n1_ := ak (blk_below (g := gb373) (bx BK373.out) hb); have n2_ := ak (below_step bq hb); clear BK367; clear BK373; clear HB; have BK367 := n0_; have BK373 := n1_; have HB := n2_; clear n0_ n1_ n2_; (try clear hb); (try clear hb2); (try clear hk); (try clear hi); obtain ⟨hcz124_0, hcz124_1, hcz124_2, hcz124_3, hcz124_4, hcz124_5⟩ := cz6 BK367.out; obtain ⟨hfz124_0, hfz124_1, hfz124_2, hfz124_3, hfz124_4, hfz124_5⟩ := fz6 BK367.out; (try clear A45)) | ((with_reducible refine gate_callee (f := 85) rfl ?_); refine goesL_ (some 102) rfl rfl Tryd.func85 (by kernel_rfl) rfl #[.string a0_1] rfl mq ?_; (with_reducible refine (isoglossref06_Language.calls k1 a0_1 true _ A118.out).mono ?_); rintro e w' ⟨rfl, ⟨nd, rfl⟩⟩; refine ⟨_, rfl, ?_⟩; (try clear A118)))
         go_ret
         exact ⟨by first | rfl | (simp [errW_none, errW_some] <;> rfl) | (simp [*, errW_none, errW_some] <;> rfl), bq⟩
        ·
         rw [if_neg c120] at H
         have c120b0 : (a0_2.toList == ([] : List UInt8)) = false := beq_eq_false_iff_ne.mpr c120
         have c120b1 : (a0_2.toList != ([] : List UInt8)) = true := bne_iff_ne.mpr c120
         have c120b2 : a0_2.toList.isEmpty = false := List.isEmpty_eq_false_iff.mpr c120
         obtain rfl := Option.some.inj H
         have hnb125 := NB367_373.out
         have hnc125 := NB373_367.out
         obtain ⟨hcz126_0, hcz126_1, hcz126_2, hcz126_3, hcz126_4, hcz126_5⟩ := cz6 BK367.out
         obtain ⟨hfz126_0, hfz126_1, hfz126_2, hfz126_3, hfz126_4, hfz126_5⟩ := fz6 BK367.out
         go_wp2_with (first | ((with_reducible refine gate_callee (f := 83) rfl ?_); refine goesL_ (some 31) rfl rfl Tryd.func83 (by kernel_rfl) rfl #[.agg #[.int .i64 a0_0, .string a0_1, .string a0_2, .string a0_3, .string a0_4, .string a0_5]] rfl mq ?_; (with_reducible refine (isoglossref12_target.calls k1 a0_0 a0_1 a0_2 a0_3 a0_4 a0_5 t379 _ A45.out).mono ?_); rintro e w127 ⟨rfl, hb⟩; refine ⟨_, rfl, ?_⟩; have n0_ := ak (blk_below (g := gb367) (bx BK367.out) hb); have n1_ := ak (blk_below (g := gb373) (bx BK373.out) hb); have n2_ := ak (below_step bq hb); clear BK367; clear BK373; clear HB; have BK367 := n0_; have BK373 := n1_; have HB := n2_; clear n0_ n1_ n2_; (try clear hb); (try clear hb2); (try clear hk); (try clear hi); obtain ⟨hcz128_0, hcz128_1, hcz128_2, hcz128_3, hcz128_4, hcz128_5⟩ := cz6 BK367.out; obtain ⟨hfz128_0, hfz128_1, hfz128_2, hfz128_3, hfz128_4, hfz128_5⟩ := fz6 BK367.out; (try clear A45)) | ((with_reducible refine gate_callee (f := 85) rfl ?_); refine goesL_ (some 102) rfl rfl Tryd.func85 (by kernel_rfl) rfl #[.string a0_1] rfl mq ?_; (with_reducible refine (isoglossref06_Language.calls k1 a0_1 true _ A118.out).mono ?_); rintro e w' ⟨rfl, ⟨nd, rfl⟩⟩; refine ⟨_, rfl, ?_⟩; (try clear A118)))
         go_ret
         exact ⟨by first | rfl | (simp [errW_none, errW_some] <;> rfl) | (simp [*, errW_none, errW_some] <;> rfl), bq⟩
       ·
        replace c119 := Bool.eq_false_iff.mpr c119
        subst c119
        have H1 : (some false) = some r := by rw [if_neg (show ¬ (false = true) by decide)] at H; exact H
        clear H
        have H := H1
        clear H1
        obtain rfl := Option.some.inj H
        have hnb129 := NB367_373.out
        have hnc129 := NB373_367.out
        obtain ⟨hcz130_0, hcz130_1, hcz130_2, hcz130_3, hcz130_4, hcz130_5⟩ := cz6 BK367.out
        obtain ⟨hfz130_0, hfz130_1, hfz130_2, hfz130_3, hfz130_4, hfz130_5⟩ := fz6 BK367.out
        go_wp2_with (first | ((with_reducible refine gate_callee (f := 83) rfl ?_); refine goesL_ (some 31) rfl rfl Tryd.func83 (by kernel_rfl) rfl #[.agg #[.int .i64 a0_0, .string a0_1, .string a0_2, .string a0_3, .string a0_4, .string a0_5]] rfl mq ?_; (with_reducible refine (isoglossref12_target.calls k1 a0_0 a0_1 a0_2 a0_3 a0_4 a0_5 t379 _ A45.out).mono ?_); rintro e w131 ⟨rfl, hb⟩; refine ⟨_, rfl, ?_⟩; have n0_ := ak (blk_below (g := gb367) (bx BK367.out) hb); have n1_ := ak (blk_below (g := gb373) (bx BK373.out) hb); have n2_ := ak (below_step bq hb); clear BK367; clear BK373; clear HB; have BK367 := n0_; have BK373 := n1_; have HB := n2_; clear n0_ n1_ n2_; (try clear hb); (try clear hb2); (try clear hk); (try clear hi); obtain ⟨hcz132_0, hcz132_1, hcz132_2, hcz132_3, hcz132_4, hcz132_5⟩ := cz6 BK367.out; obtain ⟨hfz132_0, hfz132_1, hfz132_2, hfz132_3, hfz132_4, hfz132_5⟩ := fz6 BK367.out; (try clear A45)) | ((with_reducible refine gate_callee (f := 85) rfl ?_); refine goesL_ (some 102) rfl rfl Tryd.func85 (by kernel_rfl) rfl #[.string a0_1] rfl mq ?_; (with_reducible refine (isoglossref06_Language.calls k1 a0_1 false _ A118.out).mono ?_); rintro e w' ⟨rfl, ⟨nd, rfl⟩⟩; refine ⟨_, rfl, ?_⟩; (try clear A118)))
        go_ret
        exact ⟨by first | rfl | (simp [errW_none, errW_some] <;> rfl) | (simp [*, errW_none, errW_some] <;> rfl), bq⟩
      ·
       rw [if_neg c117] at H
       have c117b0 : (a0_0 == 3) = false := beq_eq_false_iff_ne.mpr c117
       have c117b1 : (a0_0 != 3) = true := bne_iff_ne.mpr c117
       by_cases c133 : a0_0 = 4
       ·
        rw [if_pos c133] at H
        have c133b0 : (a0_0 == 4) = true := beq_iff_eq.mpr c133
        have c133b1 : (a0_0 != 4) = false := bne_eq_false_iff_eq.mpr c133
        (try (have c133b2 : (a0_0 : Int).toNat = 4 := by rw [c133]; rfl))
        try have c133b3 : (0 ≤ a0_0) = True := eq_true (by omega)
        try have c133b4_5 : (a0_0 < 5) = True := eq_true (by omega)
        clear c133
        replace H := Option.bind_eq_some_iff.mp H
        obtain ⟨t389, A1340, H⟩ := H
        have A134 := ak A1340
        clear A1340
        by_cases c135 : t389 = true
        ·
         subst c135
         have H1 : (if a0_2.toList = ([] : List UInt8) then (if a0_3.toList = ([] : List UInt8) then ((isoglossref06_Script.f k1 a0_4).bind fun t390 => (if t390 = true then (some (a0_5.toList == ([] : List UInt8))) else (some false))) else (some false)) else (some false)) = some r := by rw [if_pos rfl] at H; exact H
         clear H
         have H := H1
         clear H1
         by_cases c136 : a0_2.toList = ([] : List UInt8)
         ·
          rw [if_pos c136] at H
          have c136b0 : (a0_2.toList == ([] : List UInt8)) = true := beq_iff_eq.mpr c136
          have c136b1 : (a0_2.toList != ([] : List UInt8)) = false := bne_eq_false_iff_eq.mpr c136
          have c136b2 : a0_2.toList.isEmpty = true := List.isEmpty_iff.mpr c136
          clear c136
          by_cases c137 : a0_3.toList = ([] : List UInt8)
          ·
           rw [if_pos c137] at H
           have c137b0 : (a0_3.toList == ([] : List UInt8)) = true := beq_iff_eq.mpr c137
           have c137b1 : (a0_3.toList != ([] : List UInt8)) = false := bne_eq_false_iff_eq.mpr c137
           have c137b2 : a0_3.toList.isEmpty = true := List.isEmpty_iff.mpr c137
           clear c137
           replace H := Option.bind_eq_some_iff.mp H
           obtain ⟨t390, A1380, H⟩ := H
           have A138 := ak A1380
           clear A1380
           by_cases c139 : t390 = true
           ·
            subst c139
            have H1 : (some (a0_5.toList == ([] : List UInt8))) = some r := by rw [if_pos rfl] at H; exact H
            clear H
            have H := H1
            clear H1
            obtain rfl := Option.some.inj H
            have hnb140 := NB367_373.out
            have hnc140 := NB373_367.out
            obtain ⟨hcz141_0, hcz141_1, hcz141_2, hcz141_3, hcz141_4, hcz141_5⟩ := cz6 BK367.out
            obtain ⟨hfz141_0, hfz141_1, hfz141_2, hfz141_3, hfz141_4, hfz141_5⟩ := fz6 BK367.out
            go_wp2_with (first | ((with_reducible refine gate_callee (f := 83) rfl ?_); refine goesL_ (some 31) rfl rfl Tryd.func83 (by kernel_rfl) rfl #[.agg #[.int .i64 a0_0, .string a0_1, .string a0_2, .string a0_3, .string a0_4, .string a0_5]] rfl mq ?_; (with_reducible refine (isoglossref12_target.calls k1 a0_0 a0_1 a0_2 a0_3 a0_4 a0_5 t379 _ A45.out).mono ?_); rintro e w142 ⟨rfl, hb⟩; refine ⟨_, rfl, ?_⟩; have n0_ := ak (blk_below (g := gb367) (bx BK367.out) hb); have n1_ := ak (blk_below (g := gb373) (bx BK373.out) hb); have n2_ := ak (below_step bq hb); clear BK367; clear BK373; clear HB; have BK367 := n0_; have BK373 := n1_; have HB := n2_; clear n0_ n1_ n2_; (try clear hb); (try clear hb2); (try clear hk); (try clear hi); obtain ⟨hcz143_0, hcz143_1, hcz143_2, hcz143_3, hcz143_4, hcz143_5⟩ := cz6 BK367.out; obtain ⟨hfz143_0, hfz143_1, hfz143_2, hfz143_3, hfz143_4, hfz143_5⟩ := fz6 BK367.out; (try clear A45)) | ((with_reducible refine gate_callee (f := 87) rfl ?_); refine goesL_ (some 116) rfl rfl Tryd.func87 (by kernel_rfl) rfl #[.string a0_1] rfl mq ?_; (with_reducible refine (isoglossref06_Script.calls k1 a0_1 true _ A134.out).mono ?_); rintro e w' ⟨rfl, ⟨nd, rfl⟩⟩; refine ⟨_, rfl, ?_⟩; (try clear A134)) | (go_at_call 87; (with_reducible refine (isoglossref06_Script.calls k1 a0_4 true _ A138.out).mono ?_); rintro e w' ⟨rfl, ⟨nd, rfl⟩⟩; (try clear A138)))
            go_ret
            exact ⟨by first | rfl | (simp [errW_none, errW_some] <;> rfl) | (simp [*, errW_none, errW_some] <;> rfl), bq⟩
           ·
            replace c139 := Bool.eq_false_iff.mpr c139
            subst c139
            have H1 : (some false) = some r := by rw [if_neg (show ¬ (false = true) by decide)] at H; exact H
            clear H
            have H := H1
            clear H1
            obtain rfl := Option.some.inj H
            have hnb144 := NB367_373.out
            have hnc144 := NB373_367.out
            obtain ⟨hcz145_0, hcz145_1, hcz145_2, hcz145_3, hcz145_4, hcz145_5⟩ := cz6 BK367.out
            obtain ⟨hfz145_0, hfz145_1, hfz145_2, hfz145_3, hfz145_4, hfz145_5⟩ := fz6 BK367.out
            go_wp2_with (first | ((with_reducible refine gate_callee (f := 83) rfl ?_); refine goesL_ (some 31) rfl rfl Tryd.func83 (by kernel_rfl) rfl #[.agg #[.int .i64 a0_0, .string a0_1, .string a0_2, .string a0_3, .string a0_4, .string a0_5]] rfl mq ?_; (with_reducible refine (isoglossref12_target.calls k1 a0_0 a0_1 a0_2 a0_3 a0_4 a0_5 t379 _ A45.out).mono ?_); rintro e w146 ⟨rfl, hb⟩; refine ⟨_, rfl, ?_⟩; have n0_ := ak (blk_below (g := gb367) (bx BK367.out) hb); have n1_ := ak (blk_below (g := gb373) (bx BK373.out) hb); have n2_ := ak (below_step bq hb); clear BK367; clear BK373; clear HB; have BK367 := n0_; have BK373 := n1_; have HB := n2_; clear n0_ n1_ n2_; (try clear hb); (try clear hb2); (try clear hk); (try clear hi); obtain ⟨hcz147_0, hcz147_1, hcz147_2, hcz147_3, hcz147_4, hcz147_5⟩ := cz6 BK367.out; obtain ⟨hfz147_0, hfz147_1, hfz147_2, hfz147_3, hfz147_4, hfz147_5⟩ := fz6 BK367.out; (try clear A45)) | ((with_reducible refine gate_callee (f := 87) rfl ?_); refine goesL_ (some 116) rfl rfl Tryd.func87 (by kernel_rfl) rfl #[.string a0_1] rfl mq ?_; (with_reducible refine (isoglossref06_Script.calls k1 a0_1 true _ A134.out).mono ?_); rintro e w' ⟨rfl, ⟨nd, rfl⟩⟩; refine ⟨_, rfl, ?_⟩; (try clear A134)) | (go_at_call 87; (with_reducible refine (isoglossref06_Script.calls k1 a0_4 false _ A138.out).mono ?_); rintro e w' ⟨rfl, ⟨nd, rfl⟩⟩; (try clear A138)))
            go_ret
            exact ⟨by first | rfl | (simp [errW_none, errW_some] <;> rfl) | (simp [*, errW_none, errW_some] <;> rfl), bq⟩
          ·
           rw [if_neg c137] at H
           have c137b0 : (a0_3.toList == ([] : List UInt8)) = false := beq_eq_false_iff_ne.mpr c137
           have c137b1 : (a0_3.toList != ([] : List UInt8)) = true := bne_iff_ne.mpr c137
           have c137b2 : a0_3.toList.isEmpty = false := List.isEmpty_eq_false_iff.mpr c137
           obtain rfl := Option.some.inj H
           have hnb148 := NB367_373.out
           have hnc148 := NB373_367.out
           obtain ⟨hcz149_0, hcz149_1, hcz149_2, hcz149_3, hcz149_4, hcz149_5⟩ := cz6 BK367.out
           obtain ⟨hfz149_0, hfz149_1, hfz149_2, hfz149_3, hfz149_4, hfz149_5⟩ := fz6 BK367.out
           go_wp2_with (first | ((with_reducible refine gate_callee (f := 83) rfl ?_); refine goesL_ (some 31) rfl rfl Tryd.func83 (by kernel_rfl) rfl #[.agg #[.int .i64 a0_0, .string a0_1, .string a0_2, .string a0_3, .string a0_4, .string a0_5]] rfl mq ?_; (with_reducible refine (isoglossref12_target.calls k1 a0_0 a0_1 a0_2 a0_3 a0_4 a0_5 t379 _ A45.out).mono ?_); rintro e w150 ⟨rfl, hb⟩; refine ⟨_, rfl, ?_⟩; have n0_ := ak (blk_below (g := gb367) (bx BK367.out) hb); have n1_ := ak (blk_below (g := gb373) (bx BK373.out) hb); have n2_ := ak (below_step bq hb); clear BK367; clear BK373; clear HB; have BK367 := n0_; have BK373 := n1_; have HB := n2_; clear n0_ n1_ n2_; (try clear hb); (try clear hb2); (try clear hk); (try clear hi); obtain ⟨hcz151_0, hcz151_1, hcz151_2, hcz151_3, hcz151_4, hcz151_5⟩ := cz6 BK367.out; obtain ⟨hfz151_0, hfz151_1, hfz151_2, hfz151_3, hfz151_4, hfz151_5⟩ := fz6 BK367.out; (try clear A45)) | ((with_reducible refine gate_callee (f := 87) rfl ?_); refine goesL_ (some 116) rfl rfl Tryd.func87 (by kernel_rfl) rfl #[.string a0_1] rfl mq ?_; (with_reducible refine (isoglossref06_Script.calls k1 a0_1 true _ A134.out).mono ?_); rintro e w' ⟨rfl, ⟨nd, rfl⟩⟩; refine ⟨_, rfl, ?_⟩; (try clear A134)))
           go_ret
           exact ⟨by first | rfl | (simp [errW_none, errW_some] <;> rfl) | (simp [*, errW_none, errW_some] <;> rfl), bq⟩
         ·
          rw [if_neg c136] at H
          have c136b0 : (a0_2.toList == ([] : List UInt8)) = false := beq_eq_false_iff_ne.mpr c136
          have c136b1 : (a0_2.toList != ([] : List UInt8)) = true := bne_iff_ne.mpr c136
          have c136b2 : a0_2.toList.isEmpty = false := List.isEmpty_eq_false_iff.mpr c136
          obtain rfl := Option.some.inj H
          have hnb152 := NB367_373.out
          have hnc152 := NB373_367.out
          obtain ⟨hcz153_0, hcz153_1, hcz153_2, hcz153_3, hcz153_4, hcz153_5⟩ := cz6 BK367.out
          obtain ⟨hfz153_0, hfz153_1, hfz153_2, hfz153_3, hfz153_4, hfz153_5⟩ := fz6 BK367.out
          go_wp2_with (first | ((with_reducible refine gate_callee (f := 83) rfl ?_); refine goesL_ (some 31) rfl rfl Tryd.func83 (by kernel_rfl) rfl #[.agg #[.int .i64 a0_0, .string a0_1, .string a0_2, .string a0_3, .string a0_4, .string a0_5]] rfl mq ?_; (with_reducible refine (isoglossref12_target.calls k1 a0_0 a0_1 a0_2 a0_3 a0_4 a0_5 t379 _ A45.out).mono ?_); rintro e w154 ⟨rfl, hb⟩; refine ⟨_, rfl, ?_⟩; have n0_ := ak (blk_below (g := gb367) (bx BK367.out) hb); have n1_ := ak (blk_below (g := gb373) (bx BK373.out) hb); have n2_ := ak (below_step bq hb); clear BK367; clear BK373; clear HB; have BK367 := n0_; have BK373 := n1_; have HB := n2_; clear n0_ n1_ n2_; (try clear hb); (try clear hb2); (try clear hk); (try clear hi); obtain ⟨hcz155_0, hcz155_1, hcz155_2, hcz155_3, hcz155_4, hcz155_5⟩ := cz6 BK367.out; obtain ⟨hfz155_0, hfz155_1, hfz155_2, hfz155_3, hfz155_4, hfz155_5⟩ := fz6 BK367.out; (try clear A45)) | ((with_reducible refine gate_callee (f := 87) rfl ?_); refine goesL_ (some 116) rfl rfl Tryd.func87 (by kernel_rfl) rfl #[.string a0_1] rfl mq ?_; (with_reducible refine (isoglossref06_Script.calls k1 a0_1 true _ A134.out).mono ?_); rintro e w' ⟨rfl, ⟨nd, rfl⟩⟩; refine ⟨_, rfl, ?_⟩; (try clear A134)))
          go_ret
          exact ⟨by first | rfl | (simp [errW_none, errW_some] <;> rfl) | (simp [*, errW_none, errW_some] <;> rfl), bq⟩
        ·
         replace c135 := Bool.eq_false_iff.mpr c135
         subst c135
         have H1 : (some false) = some r := by rw [if_neg (show ¬ (false = true) by decide)] at H; exact H
         clear H
         have H := H1
         clear H1
         obtain rfl := Option.some.inj H
         have hnb156 := NB367_373.out
         have hnc156 := NB373_367.out
         obtain ⟨hcz157_0, hcz157_1, hcz157_2, hcz157_3, hcz157_4, hcz157_5⟩ := cz6 BK367.out
         obtain ⟨hfz157_0, hfz157_1, hfz157_2, hfz157_3, hfz157_4, hfz157_5⟩ := fz6 BK367.out
         go_wp2_with (first | ((with_reducible refine gate_callee (f := 83) rfl ?_); refine goesL_ (some 31) rfl rfl Tryd.func83 (by kernel_rfl) rfl #[.agg #[.int .i64 a0_0, .string a0_1, .string a0_2, .string a0_3, .string a0_4, .string a0_5]] rfl mq ?_; (with_reducible refine (isoglossref12_target.calls k1 a0_0 a0_1 a0_2 a0_3 a0_4 a0_5 t379 _ A45.out).mono ?_); rintro e w158 ⟨rfl, hb⟩; refine ⟨_, rfl, ?_⟩; have n0_ := ak (blk_below (g := gb367) (bx BK367.out) hb); have n1_ := ak (blk_below (g := gb373) (bx BK373.out) hb); have n2_ := ak (below_step bq hb); clear BK367; clear BK373; clear HB; have BK367 := n0_; have BK373 := n1_; have HB := n2_; clear n0_ n1_ n2_; (try clear hb); (try clear hb2); (try clear hk); (try clear hi); obtain ⟨hcz159_0, hcz159_1, hcz159_2, hcz159_3, hcz159_4, hcz159_5⟩ := cz6 BK367.out; obtain ⟨hfz159_0, hfz159_1, hfz159_2, hfz159_3, hfz159_4, hfz159_5⟩ := fz6 BK367.out; (try clear A45)) | ((with_reducible refine gate_callee (f := 87) rfl ?_); refine goesL_ (some 116) rfl rfl Tryd.func87 (by kernel_rfl) rfl #[.string a0_1] rfl mq ?_; (with_reducible refine (isoglossref06_Script.calls k1 a0_1 false _ A134.out).mono ?_); rintro e w' ⟨rfl, ⟨nd, rfl⟩⟩; refine ⟨_, rfl, ?_⟩; (try clear A134)))
         go_ret
         exact ⟨by first | rfl | (simp [errW_none, errW_some] <;> rfl) | (simp [*, errW_none, errW_some] <;> rfl), bq⟩
       ·
        rw [if_neg c133] at H
        have c133b0 : (a0_0 == 4) = false := beq_eq_false_iff_ne.mpr c133
        have c133b1 : (a0_0 != 4) = true := bne_iff_ne.mpr c133
        by_cases c160 : a0_0 = 5
        ·
         rw [if_pos c160] at H
         have c160b0 : (a0_0 == 5) = true := beq_iff_eq.mpr c160
         have c160b1 : (a0_0 != 5) = false := bne_eq_false_iff_eq.mpr c160
         (try (have c160b2 : (a0_0 : Int).toNat = 5 := by rw [c160]; rfl))
         try have c160b3 : (0 ≤ a0_0) = True := eq_true (by omega)
         clear c160
         replace H := Option.bind_eq_some_iff.mp H
         obtain ⟨t391, A1610, H⟩ := H
         have A161 := ak A1610
         clear A1610
         by_cases c162 : t391 = true
         ·
          subst c162
          have H1 : (if a0_2.toList = ([] : List UInt8) then (if a0_3.toList = ([] : List UInt8) then (if a0_4.toList = ([] : List UInt8) then ((isoglossref06_Region.f k1 a0_5).bind fun t392 => (some t392)) else (some false)) else (some false)) else (some false)) = some r := by rw [if_pos rfl] at H; exact H
          clear H
          have H := H1
          clear H1
          by_cases c163 : a0_2.toList = ([] : List UInt8)
          ·
           rw [if_pos c163] at H
           have c163b0 : (a0_2.toList == ([] : List UInt8)) = true := beq_iff_eq.mpr c163
           have c163b1 : (a0_2.toList != ([] : List UInt8)) = false := bne_eq_false_iff_eq.mpr c163
           have c163b2 : a0_2.toList.isEmpty = true := List.isEmpty_iff.mpr c163
           clear c163
           by_cases c164 : a0_3.toList = ([] : List UInt8)
           ·
            rw [if_pos c164] at H
            have c164b0 : (a0_3.toList == ([] : List UInt8)) = true := beq_iff_eq.mpr c164
            have c164b1 : (a0_3.toList != ([] : List UInt8)) = false := bne_eq_false_iff_eq.mpr c164
            have c164b2 : a0_3.toList.isEmpty = true := List.isEmpty_iff.mpr c164
            clear c164
            by_cases c165 : a0_4.toList = ([] : List UInt8)
            ·
             rw [if_pos c165] at H
             have c165b0 : (a0_4.toList == ([] : List UInt8)) = true := beq_iff_eq.mpr c165
             have c165b1 : (a0_4.toList != ([] : List UInt8)) = false := bne_eq_false_iff_eq.mpr c165
             have c165b2 : a0_4.toList.isEmpty = true := List.isEmpty_iff.mpr c165
             clear c165
             replace H := Option.bind_eq_some_iff.mp H
             obtain ⟨t392, A1660, H⟩ := H
             have A166 := ak A1660
             clear A1660
             obtain rfl := Option.some.inj H
             have hnb167 := NB367_373.out
             have hnc167 := NB373_367.out
             obtain ⟨hcz168_0, hcz168_1, hcz168_2, hcz168_3, hcz168_4, hcz168_5⟩ := cz6 BK367.out
             obtain ⟨hfz168_0, hfz168_1, hfz168_2, hfz168_3, hfz168_4, hfz168_5⟩ := fz6 BK367.out
             go_wp2_with (first | ((with_reducible refine gate_callee (f := 83) rfl ?_); refine goesL_ (some 31) rfl rfl Tryd.func83 (by kernel_rfl) rfl #[.agg #[.int .i64 a0_0, .string a0_1, .string a0_2, .string a0_3, .string a0_4, .string a0_5]] rfl mq ?_; (with_reducible refine (isoglossref12_target.calls k1 a0_0 a0_1 a0_2 a0_3 a0_4 a0_5 t379 _ A45.out).mono ?_); rintro e w169 ⟨rfl, hb⟩; refine ⟨_, rfl, ?_⟩; have n0_ := ak (blk_below (g := gb367) (bx BK367.out) hb); have n1_ := ak (blk_below (g := gb373) (bx BK373.out) hb); have n2_ := ak (below_step bq hb); clear BK367; clear BK373; clear HB; have BK367 := n0_; have BK373 := n1_; have HB := n2_; clear n0_ n1_ n2_; (try clear hb); (try clear hb2); (try clear hk); (try clear hi); obtain ⟨hcz170_0, hcz170_1, hcz170_2, hcz170_3, hcz170_4, hcz170_5⟩ := cz6 BK367.out; obtain ⟨hfz170_0, hfz170_1, hfz170_2, hfz170_3, hfz170_4, hfz170_5⟩ := fz6 BK367.out; (try clear A45)) | ((with_reducible refine gate_callee (f := 86) rfl ?_); refine goesL_ (some 142) rfl rfl Tryd.func86 (by kernel_rfl) rfl #[.string a0_1] rfl mq ?_; (with_reducible refine (isoglossref06_Region.calls k1 a0_1 true _ A161.out).mono ?_); rintro e w' ⟨rfl, ⟨nd, rfl⟩⟩; refine ⟨_, rfl, ?_⟩; (try clear A161)) | (go_at_call 86; (with_reducible refine (isoglossref06_Region.calls k1 a0_5 t392 _ A166.out).mono ?_); rintro e w' ⟨rfl, ⟨nd, rfl⟩⟩; (try clear A166)))
             go_ret
             exact ⟨by first | rfl | (simp [errW_none, errW_some] <;> rfl) | (simp [*, errW_none, errW_some] <;> rfl), bq⟩
            ·
             rw [if_neg c165] at H
             have c165b0 : (a0_4.toList == ([] : List UInt8)) = false := beq_eq_false_iff_ne.mpr c165
             have c165b1 : (a0_4.toList != ([] : List UInt8)) = true := bne_iff_ne.mpr c165
             have c165b2 : a0_4.toList.isEmpty = false := List.isEmpty_eq_false_iff.mpr c165
             obtain rfl := Option.some.inj H
             have hnb171 := NB367_373.out
             have hnc171 := NB373_367.out
             obtain ⟨hcz172_0, hcz172_1, hcz172_2, hcz172_3, hcz172_4, hcz172_5⟩ := cz6 BK367.out
             obtain ⟨hfz172_0, hfz172_1, hfz172_2, hfz172_3, hfz172_4, hfz172_5⟩ := fz6 BK367.out
             go_wp2_with (first | ((with_reducible refine gate_callee (f := 83) rfl ?_); refine goesL_ (some 31) rfl rfl Tryd.func83 (by kernel_rfl) rfl #[.agg #[.int .i64 a0_0, .string a0_1, .string a0_2, .string a0_3, .string a0_4, .string a0_5]] rfl mq ?_; (with_reducible refine (isoglossref12_target.calls k1 a0_0 a0_1 a0_2 a0_3 a0_4 a0_5 t379 _ A45.out).mono ?_); rintro e w173 ⟨rfl, hb⟩; refine ⟨_, rfl, ?_⟩; have n0_ := ak (blk_below (g := gb367) (bx BK367.out) hb); have n1_ := ak (blk_below (g := gb373) (bx BK373.out) hb); have n2_ := ak (below_step bq hb); clear BK367; clear BK373; clear HB; have BK367 := n0_; have BK373 := n1_; have HB := n2_; clear n0_ n1_ n2_; (try clear hb); (try clear hb2); (try clear hk); (try clear hi); obtain ⟨hcz174_0, hcz174_1, hcz174_2, hcz174_3, hcz174_4, hcz174_5⟩ := cz6 BK367.out; obtain ⟨hfz174_0, hfz174_1, hfz174_2, hfz174_3, hfz174_4, hfz174_5⟩ := fz6 BK367.out; (try clear A45)) | ((with_reducible refine gate_callee (f := 86) rfl ?_); refine goesL_ (some 142) rfl rfl Tryd.func86 (by kernel_rfl) rfl #[.string a0_1] rfl mq ?_; (with_reducible refine (isoglossref06_Region.calls k1 a0_1 true _ A161.out).mono ?_); rintro e w' ⟨rfl, ⟨nd, rfl⟩⟩; refine ⟨_, rfl, ?_⟩; (try clear A161)))
             go_ret
             exact ⟨by first | rfl | (simp [errW_none, errW_some] <;> rfl) | (simp [*, errW_none, errW_some] <;> rfl), bq⟩
           ·
            rw [if_neg c164] at H
            have c164b0 : (a0_3.toList == ([] : List UInt8)) = false := beq_eq_false_iff_ne.mpr c164
            have c164b1 : (a0_3.toList != ([] : List UInt8)) = true := bne_iff_ne.mpr c164
            have c164b2 : a0_3.toList.isEmpty = false := List.isEmpty_eq_false_iff.mpr c164
            obtain rfl := Option.some.inj H
            have hnb175 := NB367_373.out
            have hnc175 := NB373_367.out
            obtain ⟨hcz176_0, hcz176_1, hcz176_2, hcz176_3, hcz176_4, hcz176_5⟩ := cz6 BK367.out
            obtain ⟨hfz176_0, hfz176_1, hfz176_2, hfz176_3, hfz176_4, hfz176_5⟩ := fz6 BK367.out
            go_wp2_with (first | ((with_reducible refine gate_callee (f := 83) rfl ?_); refine goesL_ (some 31) rfl rfl Tryd.func83 (by kernel_rfl) rfl #[.agg #[.int .i64 a0_0, .string a0_1, .string a0_2, .string a0_3, .string a0_4, .string a0_5]] rfl mq ?_; (with_reducible refine (isoglossref12_target.calls k1 a0_0 a0_1 a0_2 a0_3 a0_4 a0_5 t379 _ A45.out).mono ?_); rintro e w177 ⟨rfl, hb⟩; refine ⟨_, rfl, ?_⟩; have n0_ := ak (blk_below (g := gb367) (bx BK367.out) hb); have n1_ := ak (blk_below (g := gb373) (bx BK373.out) hb); have n2_ := ak (below_step bq hb); clear BK367; clear BK373; clear HB; have BK367 := n0_; have BK373 := n1_; have HB := n2_; clear n0_ n1_ n2_; (try clear hb); (try clear hb2); (try clear hk); (try clear hi); obtain ⟨hcz178_0, hcz178_1, hcz178_2, hcz178_3, hcz178_4, hcz178_5⟩ := cz6 BK367.out; obtain ⟨hfz178_0, hfz178_1, hfz178_2, hfz178_3, hfz178_4, hfz178_5⟩ := fz6 BK367.out; (try clear A45)) | ((with_reducible refine gate_callee (f := 86) rfl ?_); refine goesL_ (some 142) rfl rfl Tryd.func86 (by kernel_rfl) rfl #[.string a0_1] rfl mq ?_; (with_reducible refine (isoglossref06_Region.calls k1 a0_1 true _ A161.out).mono ?_); rintro e w' ⟨rfl, ⟨nd, rfl⟩⟩; refine ⟨_, rfl, ?_⟩; (try clear A161)))
            go_ret
            exact ⟨by first | rfl | (simp [errW_none, errW_some] <;> rfl) | (simp [*, errW_none, errW_some] <;> rfl), bq⟩
          ·
           rw [if_neg c163] at H
           have c163b0 : (a0_2.toList == ([] : List UInt8)) = false := beq_eq_false_iff_ne.mpr c163
           have c163b1 : (a0_2.toList != ([] : List UInt8)) = true := bne_iff_ne.mpr c163
           have c163b2 : a0_2.toList.isEmpty = false := List.isEmpty_eq_false_iff.mpr c163
           obtain rfl := Option.some.inj H
           have hnb179 := NB367_373.out
           have hnc179 := NB373_367.out
           obtain ⟨hcz180_0, hcz180_1, hcz180_2, hcz180_3, hcz180_4, hcz180_5⟩ := cz6 BK367.out
           obtain ⟨hfz180_0, hfz180_1, hfz180_2, hfz180_3, hfz180_4, hfz180_5⟩ := fz6 BK367.out
           go_wp2_with (first | ((with_reducible refine gate_callee (f := 83) rfl ?_); refine goesL_ (some 31) rfl rfl Tryd.func83 (by kernel_rfl) rfl #[.agg #[.int .i64 a0_0, .string a0_1, .string a0_2, .string a0_3, .string a0_4, .string a0_5]] rfl mq ?_; (with_reducible refine (isoglossref12_target.calls k1 a0_0 a0_1 a0_2 a0_3 a0_4 a0_5 t379 _ A45.out).mono ?_); rintro e w181 ⟨rfl, hb⟩; refine ⟨_, rfl, ?_⟩; have n0_ := ak (blk_below (g := gb367) (bx BK367.out) hb); have n1_ := ak (blk_below (g := gb373) (bx BK373.out) hb); have n2_ := ak (below_step bq hb); clear BK367; clear BK373; clear HB; have BK367 := n0_; have BK373 := n1_; have HB := n2_; clear n0_ n1_ n2_; (try clear hb); (try clear hb2); (try clear hk); (try clear hi); obtain ⟨hcz182_0, hcz182_1, hcz182_2, hcz182_3, hcz182_4, hcz182_5⟩ := cz6 BK367.out; obtain ⟨hfz182_0, hfz182_1, hfz182_2, hfz182_3, hfz182_4, hfz182_5⟩ := fz6 BK367.out; (try clear A45)) | ((with_reducible refine gate_callee (f := 86) rfl ?_); refine goesL_ (some 142) rfl rfl Tryd.func86 (by kernel_rfl) rfl #[.string a0_1] rfl mq ?_; (with_reducible refine (isoglossref06_Region.calls k1 a0_1 true _ A161.out).mono ?_); rintro e w' ⟨rfl, ⟨nd, rfl⟩⟩; refine ⟨_, rfl, ?_⟩; (try clear A161)))
           go_ret
           exact ⟨by first | rfl | (simp [errW_none, errW_some] <;> rfl) | (simp [*, errW_none, errW_some] <;> rfl), bq⟩
         ·
          replace c162 := Bool.eq_false_iff.mpr c162
          subst c162
          have H1 : (some false) = some r := by rw [if_neg (show ¬ (false = true) by decide)] at H; exact H
          clear H
          have H := H1
          clear H1
          obtain rfl := Option.some.inj H
          have hnb183 := NB367_373.out
          have hnc183 := NB373_367.out
          obtain ⟨hcz184_0, hcz184_1, hcz184_2, hcz184_3, hcz184_4, hcz184_5⟩ := cz6 BK367.out
          obtain ⟨hfz184_0, hfz184_1, hfz184_2, hfz184_3, hfz184_4, hfz184_5⟩ := fz6 BK367.out
          go_wp2_with (first | ((with_reducible refine gate_callee (f := 83) rfl ?_); refine goesL_ (some 31) rfl rfl Tryd.func83 (by kernel_rfl) rfl #[.agg #[.int .i64 a0_0, .string a0_1, .string a0_2, .string a0_3, .string a0_4, .string a0_5]] rfl mq ?_; (with_reducible refine (isoglossref12_target.calls k1 a0_0 a0_1 a0_2 a0_3 a0_4 a0_5 t379 _ A45.out).mono ?_); rintro e w185 ⟨rfl, hb⟩; refine ⟨_, rfl, ?_⟩; have n0_ := ak (blk_below (g := gb367) (bx BK367.out) hb); have n1_ := ak (blk_below (g := gb373) (bx BK373.out) hb); have n2_ := ak (below_step bq hb); clear BK367; clear BK373; clear HB; have BK367 := n0_; have BK373 := n1_; have HB := n2_; clear n0_ n1_ n2_; (try clear hb); (try clear hb2); (try clear hk); (try clear hi); obtain ⟨hcz186_0, hcz186_1, hcz186_2, hcz186_3, hcz186_4, hcz186_5⟩ := cz6 BK367.out; obtain ⟨hfz186_0, hfz186_1, hfz186_2, hfz186_3, hfz186_4, hfz186_5⟩ := fz6 BK367.out; (try clear A45)) | ((with_reducible refine gate_callee (f := 86) rfl ?_); refine goesL_ (some 142) rfl rfl Tryd.func86 (by kernel_rfl) rfl #[.string a0_1] rfl mq ?_; (with_reducible refine (isoglossref06_Region.calls k1 a0_1 false _ A161.out).mono ?_); rintro e w' ⟨rfl, ⟨nd, rfl⟩⟩; refine ⟨_, rfl, ?_⟩; (try clear A161)))
          go_ret
          exact ⟨by first | rfl | (simp [errW_none, errW_some] <;> rfl) | (simp [*, errW_none, errW_some] <;> rfl), bq⟩
        ·
         rw [if_neg c160] at H
         have c160b0 : (a0_0 == 5) = false := beq_eq_false_iff_ne.mpr c160
         have c160b1 : (a0_0 != 5) = true := bne_iff_ne.mpr c160
         by_cases c187 : a0_0 = 6
         ·
          rw [if_pos c187] at H
          have c187b0 : (a0_0 == 6) = true := beq_iff_eq.mpr c187
          have c187b1 : (a0_0 != 6) = false := bne_eq_false_iff_eq.mpr c187
          (try (have c187b2 : (a0_0 : Int).toNat = 6 := by rw [c187]; rfl))
          try have c187b3 : (0 ≤ a0_0) = True := eq_true (by omega)
          clear c187
          replace H := Option.bind_eq_some_iff.mp H
          obtain ⟨t393, A1880, H⟩ := H
          have A188 := ak A1880
          clear A1880
          by_cases c189 : t393 = true
          ·
           subst c189
           have H1 : (if a0_2.toList = ([] : List UInt8) then (if a0_3.toList = ([] : List UInt8) then (if a0_4.toList = ([] : List UInt8) then (some (a0_5.toList == ([] : List UInt8))) else (some false)) else ((isoglossref06_Variant.f k1 a0_3).bind fun t394 => (if t394 = true then (if a0_4.toList = ([] : List UInt8) then (some (a0_5.toList == ([] : List UInt8))) else (some false)) else (some false)))) else (some false)) = some r := by rw [if_pos rfl] at H; exact H
           clear H
           have H := H1
           clear H1
           by_cases c190 : a0_2.toList = ([] : List UInt8)
           ·
            rw [if_pos c190] at H
            have c190b0 : (a0_2.toList == ([] : List UInt8)) = true := beq_iff_eq.mpr c190
            have c190b1 : (a0_2.toList != ([] : List UInt8)) = false := bne_eq_false_iff_eq.mpr c190
            have c190b2 : a0_2.toList.isEmpty = true := List.isEmpty_iff.mpr c190
            clear c190
            by_cases c191 : a0_3.toList = ([] : List UInt8)
            ·
             rw [if_pos c191] at H
             have c191b0 : (a0_3.toList == ([] : List UInt8)) = true := beq_iff_eq.mpr c191
             have c191b1 : (a0_3.toList != ([] : List UInt8)) = false := bne_eq_false_iff_eq.mpr c191
             have c191b2 : a0_3.toList.isEmpty = true := List.isEmpty_iff.mpr c191
             clear c191
             by_cases c192 : a0_4.toList = ([] : List UInt8)
             ·
              rw [if_pos c192] at H
              have c192b0 : (a0_4.toList == ([] : List UInt8)) = true := beq_iff_eq.mpr c192
              have c192b1 : (a0_4.toList != ([] : List UInt8)) = false := bne_eq_false_iff_eq.mpr c192
              have c192b2 : a0_4.toList.isEmpty = true := List.isEmpty_iff.mpr c192
              clear c192
              obtain rfl := Option.some.inj H
              have hnb193 := NB367_373.out
              have hnc193 := NB373_367.out
              obtain ⟨hcz194_0, hcz194_1, hcz194_2, hcz194_3, hcz194_4, hcz194_5⟩ := cz6 BK367.out
              obtain ⟨hfz194_0, hfz194_1, hfz194_2, hfz194_3, hfz194_4, hfz194_5⟩ := fz6 BK367.out
              go_wp2_with (first | ((with_reducible refine gate_callee (f := 83) rfl ?_); refine goesL_ (some 31) rfl rfl Tryd.func83 (by kernel_rfl) rfl #[.agg #[.int .i64 a0_0, .string a0_1, .string a0_2, .string a0_3, .string a0_4, .string a0_5]] rfl mq ?_; (with_reducible refine (isoglossref12_target.calls k1 a0_0 a0_1 a0_2 a0_3 a0_4 a0_5 t379 _ A45.out).mono ?_); rintro e w195 ⟨rfl, hb⟩; refine ⟨_, rfl, ?_⟩; have n0_ := ak (blk_below (g := gb367) (bx BK367.out) hb); have n1_ := ak (blk_below (g := gb373) (bx BK373.out) hb); have n2_ := ak (below_step bq hb); clear BK367; clear BK373; clear HB; have BK367 := n0_; have BK373 := n1_; have HB := n2_; clear n0_ n1_ n2_; (try clear hb); (try clear hb2); (try clear hk); (try clear hi); obtain ⟨hcz196_0, hcz196_1, hcz196_2, hcz196_3, hcz196_4, hcz196_5⟩ := cz6 BK367.out; obtain ⟨hfz196_0, hfz196_1, hfz196_2, hfz196_3, hfz196_4, hfz196_5⟩ := fz6 BK367.out; (try clear A45)) | ((with_reducible refine gate_callee (f := 88) rfl ?_); refine goesL_ (some 168) rfl rfl Tryd.func88 (by kernel_rfl) rfl #[.string a0_1] rfl mq ?_; (with_reducible refine (isoglossref06_Variant.calls k1 a0_1 true _ A188.out).mono ?_); rintro e w' ⟨rfl, ⟨nd, rfl⟩⟩; refine ⟨_, rfl, ?_⟩; (try clear A188)))
              go_ret
              exact ⟨by first | rfl | (simp [errW_none, errW_some] <;> rfl) | (simp [*, errW_none, errW_some] <;> rfl), bq⟩
             ·
              rw [if_neg c192] at H
              have c192b0 : (a0_4.toList == ([] : List UInt8)) = false := beq_eq_false_iff_ne.mpr c192
              have c192b1 : (a0_4.toList != ([] : List UInt8)) = true := bne_iff_ne.mpr c192
              have c192b2 : a0_4.toList.isEmpty = false := List.isEmpty_eq_false_iff.mpr c192
              obtain rfl := Option.some.inj H
              have hnb197 := NB367_373.out
              have hnc197 := NB373_367.out
              obtain ⟨hcz198_0, hcz198_1, hcz198_2, hcz198_3, hcz198_4, hcz198_5⟩ := cz6 BK367.out
              obtain ⟨hfz198_0, hfz198_1, hfz198_2, hfz198_3, hfz198_4, hfz198_5⟩ := fz6 BK367.out
              go_wp2_with (first | ((with_reducible refine gate_callee (f := 83) rfl ?_); refine goesL_ (some 31) rfl rfl Tryd.func83 (by kernel_rfl) rfl #[.agg #[.int .i64 a0_0, .string a0_1, .string a0_2, .string a0_3, .string a0_4, .string a0_5]] rfl mq ?_; (with_reducible refine (isoglossref12_target.calls k1 a0_0 a0_1 a0_2 a0_3 a0_4 a0_5 t379 _ A45.out).mono ?_); rintro e w199 ⟨rfl, hb⟩; refine ⟨_, rfl, ?_⟩; have n0_ := ak (blk_below (g := gb367) (bx BK367.out) hb); have n1_ := ak (blk_below (g := gb373) (bx BK373.out) hb); have n2_ := ak (below_step bq hb); clear BK367; clear BK373; clear HB; have BK367 := n0_; have BK373 := n1_; have HB := n2_; clear n0_ n1_ n2_; (try clear hb); (try clear hb2); (try clear hk); (try clear hi); obtain ⟨hcz200_0, hcz200_1, hcz200_2, hcz200_3, hcz200_4, hcz200_5⟩ := cz6 BK367.out; obtain ⟨hfz200_0, hfz200_1, hfz200_2, hfz200_3, hfz200_4, hfz200_5⟩ := fz6 BK367.out; (try clear A45)) | ((with_reducible refine gate_callee (f := 88) rfl ?_); refine goesL_ (some 168) rfl rfl Tryd.func88 (by kernel_rfl) rfl #[.string a0_1] rfl mq ?_; (with_reducible refine (isoglossref06_Variant.calls k1 a0_1 true _ A188.out).mono ?_); rintro e w' ⟨rfl, ⟨nd, rfl⟩⟩; refine ⟨_, rfl, ?_⟩; (try clear A188)))
              go_ret
              exact ⟨by first | rfl | (simp [errW_none, errW_some] <;> rfl) | (simp [*, errW_none, errW_some] <;> rfl), bq⟩
            ·
             rw [if_neg c191] at H
             have c191b0 : (a0_3.toList == ([] : List UInt8)) = false := beq_eq_false_iff_ne.mpr c191
             have c191b1 : (a0_3.toList != ([] : List UInt8)) = true := bne_iff_ne.mpr c191
             have c191b2 : a0_3.toList.isEmpty = false := List.isEmpty_eq_false_iff.mpr c191
             replace H := Option.bind_eq_some_iff.mp H
             obtain ⟨t394, A2010, H⟩ := H
             have A201 := ak A2010
             clear A2010
             by_cases c202 : t394 = true
             ·
              subst c202
              have H1 : (if a0_4.toList = ([] : List UInt8) then (some (a0_5.toList == ([] : List UInt8))) else (some false)) = some r := by rw [if_pos rfl] at H; exact H
              clear H
              have H := H1
              clear H1
              by_cases c203 : a0_4.toList = ([] : List UInt8)
              ·
               rw [if_pos c203] at H
               have c203b0 : (a0_4.toList == ([] : List UInt8)) = true := beq_iff_eq.mpr c203
               have c203b1 : (a0_4.toList != ([] : List UInt8)) = false := bne_eq_false_iff_eq.mpr c203
               have c203b2 : a0_4.toList.isEmpty = true := List.isEmpty_iff.mpr c203
               clear c203
               obtain rfl := Option.some.inj H
               have hnb204 := NB367_373.out
               have hnc204 := NB373_367.out
               obtain ⟨hcz205_0, hcz205_1, hcz205_2, hcz205_3, hcz205_4, hcz205_5⟩ := cz6 BK367.out
               obtain ⟨hfz205_0, hfz205_1, hfz205_2, hfz205_3, hfz205_4, hfz205_5⟩ := fz6 BK367.out
               go_wp2_with (first | ((with_reducible refine gate_callee (f := 83) rfl ?_); refine goesL_ (some 31) rfl rfl Tryd.func83 (by kernel_rfl) rfl #[.agg #[.int .i64 a0_0, .string a0_1, .string a0_2, .string a0_3, .string a0_4, .string a0_5]] rfl mq ?_; (with_reducible refine (isoglossref12_target.calls k1 a0_0 a0_1 a0_2 a0_3 a0_4 a0_5 t379 _ A45.out).mono ?_); rintro e w206 ⟨rfl, hb⟩; refine ⟨_, rfl, ?_⟩; have n0_ := ak (blk_below (g := gb367) (bx BK367.out) hb); have n1_ := ak (blk_below (g := gb373) (bx BK373.out) hb); have n2_ := ak (below_step bq hb); clear BK367; clear BK373; clear HB; have BK367 := n0_; have BK373 := n1_; have HB := n2_; clear n0_ n1_ n2_; (try clear hb); (try clear hb2); (try clear hk); (try clear hi); obtain ⟨hcz207_0, hcz207_1, hcz207_2, hcz207_3, hcz207_4, hcz207_5⟩ := cz6 BK367.out; obtain ⟨hfz207_0, hfz207_1, hfz207_2, hfz207_3, hfz207_4, hfz207_5⟩ := fz6 BK367.out; (try clear A45)) | ((with_reducible refine gate_callee (f := 88) rfl ?_); refine goesL_ (some 168) rfl rfl Tryd.func88 (by kernel_rfl) rfl #[.string a0_1] rfl mq ?_; (with_reducible refine (isoglossref06_Variant.calls k1 a0_1 true _ A188.out).mono ?_); rintro e w' ⟨rfl, ⟨nd, rfl⟩⟩; refine ⟨_, rfl, ?_⟩; (try clear A188)) | (go_at_call 88; (with_reducible refine (isoglossref06_Variant.calls k1 a0_3 true _ A201.out).mono ?_); rintro e w' ⟨rfl, ⟨nd, rfl⟩⟩; (try clear A201)))
               go_ret
               exact ⟨by first | rfl | (simp [errW_none, errW_some] <;> rfl) | (simp [*, errW_none, errW_some] <;> rfl), bq⟩
              ·
               rw [if_neg c203] at H
               have c203b0 : (a0_4.toList == ([] : List UInt8)) = false := beq_eq_false_iff_ne.mpr c203
               have c203b1 : (a0_4.toList != ([] : List UInt8)) = true := bne_iff_ne.mpr c203
               have c203b2 : a0_4.toList.isEmpty = false := List.isEmpty_eq_false_iff.mpr c203
               obtain rfl := Option.some.inj H
               have hnb208 := NB367_373.out
               have hnc208 := NB373_367.out
               obtain ⟨hcz209_0, hcz209_1, hcz209_2, hcz209_3, hcz209_4, hcz209_5⟩ := cz6 BK367.out
               obtain ⟨hfz209_0, hfz209_1, hfz209_2, hfz209_3, hfz209_4, hfz209_5⟩ := fz6 BK367.out
               go_wp2_with (first | ((with_reducible refine gate_callee (f := 83) rfl ?_); refine goesL_ (some 31) rfl rfl Tryd.func83 (by kernel_rfl) rfl #[.agg #[.int .i64 a0_0, .string a0_1, .string a0_2, .string a0_3, .string a0_4, .string a0_5]] rfl mq ?_; (with_reducible refine (isoglossref12_target.calls k1 a0_0 a0_1 a0_2 a0_3 a0_4 a0_5 t379 _ A45.out).mono ?_); rintro e w210 ⟨rfl, hb⟩; refine ⟨_, rfl, ?_⟩; have n0_ := ak (blk_below (g := gb367) (bx BK367.out) hb); have n1_ := ak (blk_below (g := gb373) (bx BK373.out) hb); have n2_ := ak (below_step bq hb); clear BK367; clear BK373; clear HB; have BK367 := n0_; have BK373 := n1_; have HB := n2_; clear n0_ n1_ n2_; (try clear hb); (try clear hb2); (try clear hk); (try clear hi); obtain ⟨hcz211_0, hcz211_1, hcz211_2, hcz211_3, hcz211_4, hcz211_5⟩ := cz6 BK367.out; obtain ⟨hfz211_0, hfz211_1, hfz211_2, hfz211_3, hfz211_4, hfz211_5⟩ := fz6 BK367.out; (try clear A45)) | ((with_reducible refine gate_callee (f := 88) rfl ?_); refine goesL_ (some 168) rfl rfl Tryd.func88 (by kernel_rfl) rfl #[.string a0_1] rfl mq ?_; (with_reducible refine (isoglossref06_Variant.calls k1 a0_1 true _ A188.out).mono ?_); rintro e w' ⟨rfl, ⟨nd, rfl⟩⟩; refine ⟨_, rfl, ?_⟩; (try clear A188)) | (go_at_call 88; (with_reducible refine (isoglossref06_Variant.calls k1 a0_3 true _ A201.out).mono ?_); rintro e w' ⟨rfl, ⟨nd, rfl⟩⟩; (try clear A201)))
               go_ret
               exact ⟨by first | rfl | (simp [errW_none, errW_some] <;> rfl) | (simp [*, errW_none, errW_some] <;> rfl), bq⟩
             ·
              replace c202 := Bool.eq_false_iff.mpr c202
              subst c202
              have H1 : (some false) = some r := by rw [if_neg (show ¬ (false = true) by decide)] at H; exact H
              clear H
              have H := H1
              clear H1
              obtain rfl := Option.some.inj H
              have hnb212 := NB367_373.out
              have hnc212 := NB373_367.out
              obtain ⟨hcz213_0, hcz213_1, hcz213_2, hcz213_3, hcz213_4, hcz213_5⟩ := cz6 BK367.out
              obtain ⟨hfz213_0, hfz213_1, hfz213_2, hfz213_3, hfz213_4, hfz213_5⟩ := fz6 BK367.out
              go_wp2_with (first | ((with_reducible refine gate_callee (f := 83) rfl ?_); refine goesL_ (some 31) rfl rfl Tryd.func83 (by kernel_rfl) rfl #[.agg #[.int .i64 a0_0, .string a0_1, .string a0_2, .string a0_3, .string a0_4, .string a0_5]] rfl mq ?_; (with_reducible refine (isoglossref12_target.calls k1 a0_0 a0_1 a0_2 a0_3 a0_4 a0_5 t379 _ A45.out).mono ?_); rintro e w214 ⟨rfl, hb⟩; refine ⟨_, rfl, ?_⟩; have n0_ := ak (blk_below (g := gb367) (bx BK367.out) hb); have n1_ := ak (blk_below (g := gb373) (bx BK373.out) hb); have n2_ := ak (below_step bq hb); clear BK367; clear BK373; clear HB; have BK367 := n0_; have BK373 := n1_; have HB := n2_; clear n0_ n1_ n2_; (try clear hb); (try clear hb2); (try clear hk); (try clear hi); obtain ⟨hcz215_0, hcz215_1, hcz215_2, hcz215_3, hcz215_4, hcz215_5⟩ := cz6 BK367.out; obtain ⟨hfz215_0, hfz215_1, hfz215_2, hfz215_3, hfz215_4, hfz215_5⟩ := fz6 BK367.out; (try clear A45)) | ((with_reducible refine gate_callee (f := 88) rfl ?_); refine goesL_ (some 168) rfl rfl Tryd.func88 (by kernel_rfl) rfl #[.string a0_1] rfl mq ?_; (with_reducible refine (isoglossref06_Variant.calls k1 a0_1 true _ A188.out).mono ?_); rintro e w' ⟨rfl, ⟨nd, rfl⟩⟩; refine ⟨_, rfl, ?_⟩; (try clear A188)) | (go_at_call 88; (with_reducible refine (isoglossref06_Variant.calls k1 a0_3 false _ A201.out).mono ?_); rintro e w' ⟨rfl, ⟨nd, rfl⟩⟩; (try clear A201)))
              go_ret
              exact ⟨by first | rfl | (simp [errW_none, errW_some] <;> rfl) | (simp [*, errW_none, errW_some] <;> rfl), bq⟩
           ·
            rw [if_neg c190] at H
            have c190b0 : (a0_2.toList == ([] : List UInt8)) = false := beq_eq_false_iff_ne.mpr c190
            have c190b1 : (a0_2.toList != ([] : List UInt8)) = true := bne_iff_ne.mpr c190
            have c190b2 : a0_2.toList.isEmpty = false := List.isEmpty_eq_false_iff.mpr c190
            obtain rfl := Option.some.inj H
            have hnb216 := NB367_373.out
            have hnc216 := NB373_367.out
            obtain ⟨hcz217_0, hcz217_1, hcz217_2, hcz217_3, hcz217_4, hcz217_5⟩ := cz6 BK367.out
            obtain ⟨hfz217_0, hfz217_1, hfz217_2, hfz217_3, hfz217_4, hfz217_5⟩ := fz6 BK367.out
            go_wp2_with (first | ((with_reducible refine gate_callee (f := 83) rfl ?_); refine goesL_ (some 31) rfl rfl Tryd.func83 (by kernel_rfl) rfl #[.agg #[.int .i64 a0_0, .string a0_1, .string a0_2, .string a0_3, .string a0_4, .string a0_5]] rfl mq ?_; (with_reducible refine (isoglossref12_target.calls k1 a0_0 a0_1 a0_2 a0_3 a0_4 a0_5 t379 _ A45.out).mono ?_); rintro e w218 ⟨rfl, hb⟩; refine ⟨_, rfl, ?_⟩; have n0_ := ak (blk_below (g := gb367) (bx BK367.out) hb); have n1_ := ak (blk_below (g := gb373) (bx BK373.out) hb); have n2_ := ak (below_step bq hb); clear BK367; clear BK373; clear HB; have BK367 := n0_; have BK373 := n1_; have HB := n2_; clear n0_ n1_ n2_; (try clear hb); (try clear hb2); (try clear hk); (try clear hi); obtain ⟨hcz219_0, hcz219_1, hcz219_2, hcz219_3, hcz219_4, hcz219_5⟩ := cz6 BK367.out; obtain ⟨hfz219_0, hfz219_1, hfz219_2, hfz219_3, hfz219_4, hfz219_5⟩ := fz6 BK367.out; (try clear A45)) | ((with_reducible refine gate_callee (f := 88) rfl ?_); refine goesL_ (some 168) rfl rfl Tryd.func88 (by kernel_rfl) rfl #[.string a0_1] rfl mq ?_; (with_reducible refine (isoglossref06_Variant.calls k1 a0_1 true _ A188.out).mono ?_); rintro e w' ⟨rfl, ⟨nd, rfl⟩⟩; refine ⟨_, rfl, ?_⟩; (try clear A188)))
            go_ret
            exact ⟨by first | rfl | (simp [errW_none, errW_some] <;> rfl) | (simp [*, errW_none, errW_some] <;> rfl), bq⟩
          ·
           replace c189 := Bool.eq_false_iff.mpr c189
           subst c189
           have H1 : (some false) = some r := by rw [if_neg (show ¬ (false = true) by decide)] at H; exact H
           clear H
           have H := H1
           clear H1
           obtain rfl := Option.some.inj H
           have hnb220 := NB367_373.out
           have hnc220 := NB373_367.out
           obtain ⟨hcz221_0, hcz221_1, hcz221_2, hcz221_3, hcz221_4, hcz221_5⟩ := cz6 BK367.out
           obtain ⟨hfz221_0, hfz221_1, hfz221_2, hfz221_3, hfz221_4, hfz221_5⟩ := fz6 BK367.out
           go_wp2_with (first | ((with_reducible refine gate_callee (f := 83) rfl ?_); refine goesL_ (some 31) rfl rfl Tryd.func83 (by kernel_rfl) rfl #[.agg #[.int .i64 a0_0, .string a0_1, .string a0_2, .string a0_3, .string a0_4, .string a0_5]] rfl mq ?_; (with_reducible refine (isoglossref12_target.calls k1 a0_0 a0_1 a0_2 a0_3 a0_4 a0_5 t379 _ A45.out).mono ?_); rintro e w222 ⟨rfl, hb⟩; refine ⟨_, rfl, ?_⟩; have n0_ := ak (blk_below (g := gb367) (bx BK367.out) hb); have n1_ := ak (blk_below (g := gb373) (bx BK373.out) hb); have n2_ := ak (below_step bq hb); clear BK367; clear BK373; clear HB; have BK367 := n0_; have BK373 := n1_; have HB := n2_; clear n0_ n1_ n2_; (try clear hb); (try clear hb2); (try clear hk); (try clear hi); obtain ⟨hcz223_0, hcz223_1, hcz223_2, hcz223_3, hcz223_4, hcz223_5⟩ := cz6 BK367.out; obtain ⟨hfz223_0, hfz223_1, hfz223_2, hfz223_3, hfz223_4, hfz223_5⟩ := fz6 BK367.out; (try clear A45)) | ((with_reducible refine gate_callee (f := 88) rfl ?_); refine goesL_ (some 168) rfl rfl Tryd.func88 (by kernel_rfl) rfl #[.string a0_1] rfl mq ?_; (with_reducible refine (isoglossref06_Variant.calls k1 a0_1 false _ A188.out).mono ?_); rintro e w' ⟨rfl, ⟨nd, rfl⟩⟩; refine ⟨_, rfl, ?_⟩; (try clear A188)))
           go_ret
           exact ⟨by first | rfl | (simp [errW_none, errW_some] <;> rfl) | (simp [*, errW_none, errW_some] <;> rfl), bq⟩
         ·
          rw [if_neg c187] at H
          have c187b0 : (a0_0 == 6) = false := beq_eq_false_iff_ne.mpr c187
          have c187b1 : (a0_0 != 6) = true := bne_iff_ne.mpr c187
          by_cases c224 : a0_0 = 7
          ·
           rw [if_pos c224] at H
           have c224b0 : (a0_0 == 7) = true := beq_iff_eq.mpr c224
           have c224b1 : (a0_0 != 7) = false := bne_eq_false_iff_eq.mpr c224
           (try (have c224b2 : (a0_0 : Int).toNat = 7 := by rw [c224]; rfl))
           try have c224b3 : (0 ≤ a0_0) = True := eq_true (by omega)
           clear c224
           replace H := Option.bind_eq_some_iff.mp H
           obtain ⟨t395, A2250, H⟩ := H
           have A225 := ak A2250
           clear A2250
           replace H := Option.bind_eq_some_iff.mp H
           obtain ⟨t396, A2260, H⟩ := H
           have A226 := ak A2260
           clear A2260
           replace H := Option.bind_eq_some_iff.mp H
           obtain ⟨t397, A2270, H⟩ := H
           have A227 := ak A2270
           clear A2270
           by_cases c228 : t395 = true
           ·
            subst c228
            have H1 : (if t396 = true then (if t397 = true then (if a0_4.toList = ([] : List UInt8) then (some (a0_5.toList == ([] : List UInt8))) else (some false)) else (some false)) else (some false)) = some r := by rw [if_pos rfl] at H; exact H
            clear H
            have H := H1
            clear H1
            by_cases c229 : t396 = true
            ·
             subst c229
             have H1 : (if t397 = true then (if a0_4.toList = ([] : List UInt8) then (some (a0_5.toList == ([] : List UInt8))) else (some false)) else (some false)) = some r := by rw [if_pos rfl] at H; exact H
             clear H
             have H := H1
             clear H1
             by_cases c230 : t397 = true
             ·
              subst c230
              have H1 : (if a0_4.toList = ([] : List UInt8) then (some (a0_5.toList == ([] : List UInt8))) else (some false)) = some r := by rw [if_pos rfl] at H; exact H
              clear H
              have H := H1
              clear H1
              by_cases c231 : a0_4.toList = ([] : List UInt8)
              ·
               rw [if_pos c231] at H
               have c231b0 : (a0_4.toList == ([] : List UInt8)) = true := beq_iff_eq.mpr c231
               have c231b1 : (a0_4.toList != ([] : List UInt8)) = false := bne_eq_false_iff_eq.mpr c231
               have c231b2 : a0_4.toList.isEmpty = true := List.isEmpty_iff.mpr c231
               clear c231
               obtain rfl := Option.some.inj H
               have hnb232 := NB367_373.out
               have hnc232 := NB373_367.out
               obtain ⟨hcz233_0, hcz233_1, hcz233_2, hcz233_3, hcz233_4, hcz233_5⟩ := cz6 BK367.out
               obtain ⟨hfz233_0, hfz233_1, hfz233_2, hfz233_3, hfz233_4, hfz233_5⟩ := fz6 BK367.out
               go_wp2_with (first | ((with_reducible refine gate_callee (f := 83) rfl ?_); refine goesL_ (some 31) rfl rfl Tryd.func83 (by kernel_rfl) rfl #[.agg #[.int .i64 a0_0, .string a0_1, .string a0_2, .string a0_3, .string a0_4, .string a0_5]] rfl mq ?_; (with_reducible refine (isoglossref12_target.calls k1 a0_0 a0_1 a0_2 a0_3 a0_4 a0_5 t379 _ A45.out).mono ?_); rintro e w234 ⟨rfl, hb⟩; refine ⟨_, rfl, ?_⟩; have n0_ := ak (blk_below (g := gb367) (bx BK367.out) hb); have n1_ := ak (blk_below (g := gb373) (bx BK373.out) hb); have n2_ := ak (below_step bq hb); clear BK367; clear BK373; clear HB; have BK367 := n0_; have BK373 := n1_; have HB := n2_; clear n0_ n1_ n2_; (try clear hb); (try clear hb2); (try clear hk); (try clear hi); obtain ⟨hcz235_0, hcz235_1, hcz235_2, hcz235_3, hcz235_4, hcz235_5⟩ := cz6 BK367.out; obtain ⟨hfz235_0, hfz235_1, hfz235_2, hfz235_3, hfz235_4, hfz235_5⟩ := fz6 BK367.out; (try clear A45)) | ((with_reducible refine gate_callee (f := 84) rfl ?_); refine goesL_ (some 199) rfl rfl Tryd.func84 (by kernel_rfl) rfl #[.string a0_1, .int .i64 2, .int .i64 2] rfl mq ?_; (with_reducible refine (isoglossref12_word.calls k1 a0_1 2 2 true _ A225.out).mono ?_); rintro e w' ⟨rfl, ⟨nd, rfl⟩⟩; refine ⟨_, rfl, ?_⟩; (try clear A225)) | ((with_reducible refine gate_callee (f := 84) rfl ?_); refine goesL_ (some 202) rfl rfl Tryd.func84 (by kernel_rfl) rfl #[.string a0_2, .int .i64 3, .int .i64 8] rfl mq ?_; (with_reducible refine (isoglossref12_word.calls k1 a0_2 3 8 true _ A226.out).mono ?_); rintro e w' ⟨rfl, ⟨nd, rfl⟩⟩; refine ⟨_, rfl, ?_⟩; (try clear A226)) | ((with_reducible refine gate_callee (f := 84) rfl ?_); refine goesL_ (some 205) rfl rfl Tryd.func84 (by kernel_rfl) rfl #[.string a0_3, .int .i64 3, .int .i64 8] rfl mq ?_; (with_reducible refine (isoglossref12_word.calls k1 a0_3 3 8 true _ A227.out).mono ?_); rintro e w' ⟨rfl, ⟨nd, rfl⟩⟩; refine ⟨_, rfl, ?_⟩; (try clear A227)))
               go_ret
               exact ⟨by first | rfl | (simp [errW_none, errW_some] <;> rfl) | (simp [*, errW_none, errW_some] <;> rfl), bq⟩
              ·
               rw [if_neg c231] at H
               have c231b0 : (a0_4.toList == ([] : List UInt8)) = false := beq_eq_false_iff_ne.mpr c231
               have c231b1 : (a0_4.toList != ([] : List UInt8)) = true := bne_iff_ne.mpr c231
               have c231b2 : a0_4.toList.isEmpty = false := List.isEmpty_eq_false_iff.mpr c231
               obtain rfl := Option.some.inj H
               have hnb236 := NB367_373.out
               have hnc236 := NB373_367.out
               obtain ⟨hcz237_0, hcz237_1, hcz237_2, hcz237_3, hcz237_4, hcz237_5⟩ := cz6 BK367.out
               obtain ⟨hfz237_0, hfz237_1, hfz237_2, hfz237_3, hfz237_4, hfz237_5⟩ := fz6 BK367.out
               go_wp2_with (first | ((with_reducible refine gate_callee (f := 83) rfl ?_); refine goesL_ (some 31) rfl rfl Tryd.func83 (by kernel_rfl) rfl #[.agg #[.int .i64 a0_0, .string a0_1, .string a0_2, .string a0_3, .string a0_4, .string a0_5]] rfl mq ?_; (with_reducible refine (isoglossref12_target.calls k1 a0_0 a0_1 a0_2 a0_3 a0_4 a0_5 t379 _ A45.out).mono ?_); rintro e w238 ⟨rfl, hb⟩; refine ⟨_, rfl, ?_⟩; have n0_ := ak (blk_below (g := gb367) (bx BK367.out) hb); have n1_ := ak (blk_below (g := gb373) (bx BK373.out) hb); have n2_ := ak (below_step bq hb); clear BK367; clear BK373; clear HB; have BK367 := n0_; have BK373 := n1_; have HB := n2_; clear n0_ n1_ n2_; (try clear hb); (try clear hb2); (try clear hk); (try clear hi); obtain ⟨hcz239_0, hcz239_1, hcz239_2, hcz239_3, hcz239_4, hcz239_5⟩ := cz6 BK367.out; obtain ⟨hfz239_0, hfz239_1, hfz239_2, hfz239_3, hfz239_4, hfz239_5⟩ := fz6 BK367.out; (try clear A45)) | ((with_reducible refine gate_callee (f := 84) rfl ?_); refine goesL_ (some 199) rfl rfl Tryd.func84 (by kernel_rfl) rfl #[.string a0_1, .int .i64 2, .int .i64 2] rfl mq ?_; (with_reducible refine (isoglossref12_word.calls k1 a0_1 2 2 true _ A225.out).mono ?_); rintro e w' ⟨rfl, ⟨nd, rfl⟩⟩; refine ⟨_, rfl, ?_⟩; (try clear A225)) | ((with_reducible refine gate_callee (f := 84) rfl ?_); refine goesL_ (some 202) rfl rfl Tryd.func84 (by kernel_rfl) rfl #[.string a0_2, .int .i64 3, .int .i64 8] rfl mq ?_; (with_reducible refine (isoglossref12_word.calls k1 a0_2 3 8 true _ A226.out).mono ?_); rintro e w' ⟨rfl, ⟨nd, rfl⟩⟩; refine ⟨_, rfl, ?_⟩; (try clear A226)) | ((with_reducible refine gate_callee (f := 84) rfl ?_); refine goesL_ (some 205) rfl rfl Tryd.func84 (by kernel_rfl) rfl #[.string a0_3, .int .i64 3, .int .i64 8] rfl mq ?_; (with_reducible refine (isoglossref12_word.calls k1 a0_3 3 8 true _ A227.out).mono ?_); rintro e w' ⟨rfl, ⟨nd, rfl⟩⟩; refine ⟨_, rfl, ?_⟩; (try clear A227)))
               go_ret
               exact ⟨by first | rfl | (simp [errW_none, errW_some] <;> rfl) | (simp [*, errW_none, errW_some] <;> rfl), bq⟩
             ·
              replace c230 := Bool.eq_false_iff.mpr c230
              subst c230
              have H1 : (some false) = some r := by rw [if_neg (show ¬ (false = true) by decide)] at H; exact H
              clear H
              have H := H1
              clear H1
              obtain rfl := Option.some.inj H
              have hnb240 := NB367_373.out
              have hnc240 := NB373_367.out
              obtain ⟨hcz241_0, hcz241_1, hcz241_2, hcz241_3, hcz241_4, hcz241_5⟩ := cz6 BK367.out
              obtain ⟨hfz241_0, hfz241_1, hfz241_2, hfz241_3, hfz241_4, hfz241_5⟩ := fz6 BK367.out
              go_wp2_with (first | ((with_reducible refine gate_callee (f := 83) rfl ?_); refine goesL_ (some 31) rfl rfl Tryd.func83 (by kernel_rfl) rfl #[.agg #[.int .i64 a0_0, .string a0_1, .string a0_2, .string a0_3, .string a0_4, .string a0_5]] rfl mq ?_; (with_reducible refine (isoglossref12_target.calls k1 a0_0 a0_1 a0_2 a0_3 a0_4 a0_5 t379 _ A45.out).mono ?_); rintro e w242 ⟨rfl, hb⟩; refine ⟨_, rfl, ?_⟩; have n0_ := ak (blk_below (g := gb367) (bx BK367.out) hb); have n1_ := ak (blk_below (g := gb373) (bx BK373.out) hb); have n2_ := ak (below_step bq hb); clear BK367; clear BK373; clear HB; have BK367 := n0_; have BK373 := n1_; have HB := n2_; clear n0_ n1_ n2_; (try clear hb); (try clear hb2); (try clear hk); (try clear hi); obtain ⟨hcz243_0, hcz243_1, hcz243_2, hcz243_3, hcz243_4, hcz243_5⟩ := cz6 BK367.out; obtain ⟨hfz243_0, hfz243_1, hfz243_2, hfz243_3, hfz243_4, hfz243_5⟩ := fz6 BK367.out; (try clear A45)) | ((with_reducible refine gate_callee (f := 84) rfl ?_); refine goesL_ (some 199) rfl rfl Tryd.func84 (by kernel_rfl) rfl #[.string a0_1, .int .i64 2, .int .i64 2] rfl mq ?_; (with_reducible refine (isoglossref12_word.calls k1 a0_1 2 2 true _ A225.out).mono ?_); rintro e w' ⟨rfl, ⟨nd, rfl⟩⟩; refine ⟨_, rfl, ?_⟩; (try clear A225)) | ((with_reducible refine gate_callee (f := 84) rfl ?_); refine goesL_ (some 202) rfl rfl Tryd.func84 (by kernel_rfl) rfl #[.string a0_2, .int .i64 3, .int .i64 8] rfl mq ?_; (with_reducible refine (isoglossref12_word.calls k1 a0_2 3 8 true _ A226.out).mono ?_); rintro e w' ⟨rfl, ⟨nd, rfl⟩⟩; refine ⟨_, rfl, ?_⟩; (try clear A226)) | ((with_reducible refine gate_callee (f := 84) rfl ?_); refine goesL_ (some 205) rfl rfl Tryd.func84 (by kernel_rfl) rfl #[.string a0_3, .int .i64 3, .int .i64 8] rfl mq ?_; (with_reducible refine (isoglossref12_word.calls k1 a0_3 3 8 false _ A227.out).mono ?_); rintro e w' ⟨rfl, ⟨nd, rfl⟩⟩; refine ⟨_, rfl, ?_⟩; (try clear A227)))
              go_ret
              exact ⟨by first | rfl | (simp [errW_none, errW_some] <;> rfl) | (simp [*, errW_none, errW_some] <;> rfl), bq⟩
            ·
             replace c229 := Bool.eq_false_iff.mpr c229
             subst c229
             have H1 : (some false) = some r := by rw [if_neg (show ¬ (false = true) by decide)] at H; exact H
             clear H
             have H := H1
             clear H1
             obtain rfl := Option.some.inj H
             have hnb244 := NB367_373.out
             have hnc244 := NB373_367.out
             obtain ⟨hcz245_0, hcz245_1, hcz245_2, hcz245_3, hcz245_4, hcz245_5⟩ := cz6 BK367.out
             obtain ⟨hfz245_0, hfz245_1, hfz245_2, hfz245_3, hfz245_4, hfz245_5⟩ := fz6 BK367.out
             go_wp2_with (first | ((with_reducible refine gate_callee (f := 83) rfl ?_); refine goesL_ (some 31) rfl rfl Tryd.func83 (by kernel_rfl) rfl #[.agg #[.int .i64 a0_0, .string a0_1, .string a0_2, .string a0_3, .string a0_4, .string a0_5]] rfl mq ?_; (with_reducible refine (isoglossref12_target.calls k1 a0_0 a0_1 a0_2 a0_3 a0_4 a0_5 t379 _ A45.out).mono ?_); rintro e w246 ⟨rfl, hb⟩; refine ⟨_, rfl, ?_⟩; have n0_ := ak (blk_below (g := gb367) (bx BK367.out) hb); have n1_ := ak (blk_below (g := gb373) (bx BK373.out) hb); have n2_ := ak (below_step bq hb); clear BK367; clear BK373; clear HB; have BK367 := n0_; have BK373 := n1_; have HB := n2_; clear n0_ n1_ n2_; (try clear hb); (try clear hb2); (try clear hk); (try clear hi); obtain ⟨hcz247_0, hcz247_1, hcz247_2, hcz247_3, hcz247_4, hcz247_5⟩ := cz6 BK367.out; obtain ⟨hfz247_0, hfz247_1, hfz247_2, hfz247_3, hfz247_4, hfz247_5⟩ := fz6 BK367.out; (try clear A45)) | ((with_reducible refine gate_callee (f := 84) rfl ?_); refine goesL_ (some 199) rfl rfl Tryd.func84 (by kernel_rfl) rfl #[.string a0_1, .int .i64 2, .int .i64 2] rfl mq ?_; (with_reducible refine (isoglossref12_word.calls k1 a0_1 2 2 true _ A225.out).mono ?_); rintro e w' ⟨rfl, ⟨nd, rfl⟩⟩; refine ⟨_, rfl, ?_⟩; (try clear A225)) | ((with_reducible refine gate_callee (f := 84) rfl ?_); refine goesL_ (some 202) rfl rfl Tryd.func84 (by kernel_rfl) rfl #[.string a0_2, .int .i64 3, .int .i64 8] rfl mq ?_; (with_reducible refine (isoglossref12_word.calls k1 a0_2 3 8 false _ A226.out).mono ?_); rintro e w' ⟨rfl, ⟨nd, rfl⟩⟩; refine ⟨_, rfl, ?_⟩; (try clear A226)) | ((with_reducible refine gate_callee (f := 84) rfl ?_); refine goesL_ (some 205) rfl rfl Tryd.func84 (by kernel_rfl) rfl #[.string a0_3, .int .i64 3, .int .i64 8] rfl mq ?_; (with_reducible refine (isoglossref12_word.calls k1 a0_3 3 8 t397 _ A227.out).mono ?_); rintro e w' ⟨rfl, ⟨nd, rfl⟩⟩; refine ⟨_, rfl, ?_⟩; (try clear A227)))
             go_ret
             exact ⟨by first | rfl | (simp [errW_none, errW_some] <;> rfl) | (simp [*, errW_none, errW_some] <;> rfl), bq⟩
           ·
            replace c228 := Bool.eq_false_iff.mpr c228
            subst c228
            have H1 : (some false) = some r := by rw [if_neg (show ¬ (false = true) by decide)] at H; exact H
            clear H
            have H := H1
            clear H1
            obtain rfl := Option.some.inj H
            have hnb248 := NB367_373.out
            have hnc248 := NB373_367.out
            obtain ⟨hcz249_0, hcz249_1, hcz249_2, hcz249_3, hcz249_4, hcz249_5⟩ := cz6 BK367.out
            obtain ⟨hfz249_0, hfz249_1, hfz249_2, hfz249_3, hfz249_4, hfz249_5⟩ := fz6 BK367.out
            go_wp2_with (first | ((with_reducible refine gate_callee (f := 83) rfl ?_); refine goesL_ (some 31) rfl rfl Tryd.func83 (by kernel_rfl) rfl #[.agg #[.int .i64 a0_0, .string a0_1, .string a0_2, .string a0_3, .string a0_4, .string a0_5]] rfl mq ?_; (with_reducible refine (isoglossref12_target.calls k1 a0_0 a0_1 a0_2 a0_3 a0_4 a0_5 t379 _ A45.out).mono ?_); rintro e w250 ⟨rfl, hb⟩; refine ⟨_, rfl, ?_⟩; have n0_ := ak (blk_below (g := gb367) (bx BK367.out) hb); have n1_ := ak (blk_below (g := gb373) (bx BK373.out) hb); have n2_ := ak (below_step bq hb); clear BK367; clear BK373; clear HB; have BK367 := n0_; have BK373 := n1_; have HB := n2_; clear n0_ n1_ n2_; (try clear hb); (try clear hb2); (try clear hk); (try clear hi); obtain ⟨hcz251_0, hcz251_1, hcz251_2, hcz251_3, hcz251_4, hcz251_5⟩ := cz6 BK367.out; obtain ⟨hfz251_0, hfz251_1, hfz251_2, hfz251_3, hfz251_4, hfz251_5⟩ := fz6 BK367.out; (try clear A45)) | ((with_reducible refine gate_callee (f := 84) rfl ?_); refine goesL_ (some 199) rfl rfl Tryd.func84 (by kernel_rfl) rfl #[.string a0_1, .int .i64 2, .int .i64 2] rfl mq ?_; (with_reducible refine (isoglossref12_word.calls k1 a0_1 2 2 false _ A225.out).mono ?_); rintro e w' ⟨rfl, ⟨nd, rfl⟩⟩; refine ⟨_, rfl, ?_⟩; (try clear A225)) | ((with_reducible refine gate_callee (f := 84) rfl ?_); refine goesL_ (some 202) rfl rfl Tryd.func84 (by kernel_rfl) rfl #[.string a0_2, .int .i64 3, .int .i64 8] rfl mq ?_; (with_reducible refine (isoglossref12_word.calls k1 a0_2 3 8 t396 _ A226.out).mono ?_); rintro e w' ⟨rfl, ⟨nd, rfl⟩⟩; refine ⟨_, rfl, ?_⟩; (try clear A226)) | ((with_reducible refine gate_callee (f := 84) rfl ?_); refine goesL_ (some 205) rfl rfl Tryd.func84 (by kernel_rfl) rfl #[.string a0_3, .int .i64 3, .int .i64 8] rfl mq ?_; (with_reducible refine (isoglossref12_word.calls k1 a0_3 3 8 t397 _ A227.out).mono ?_); rintro e w' ⟨rfl, ⟨nd, rfl⟩⟩; refine ⟨_, rfl, ?_⟩; (try clear A227)))
            go_ret
            exact ⟨by first | rfl | (simp [errW_none, errW_some] <;> rfl) | (simp [*, errW_none, errW_some] <;> rfl), bq⟩
          ·
           rw [if_neg c224] at H
           have c224b0 : (a0_0 == 7) = false := beq_eq_false_iff_ne.mpr c224
           have c224b1 : (a0_0 != 7) = true := bne_iff_ne.mpr c224
           obtain rfl := Option.some.inj H
           have hnb252 := NB367_373.out
           have hnc252 := NB373_367.out
           obtain ⟨hcz253_0, hcz253_1, hcz253_2, hcz253_3, hcz253_4, hcz253_5⟩ := cz6 BK367.out
           obtain ⟨hfz253_0, hfz253_1, hfz253_2, hfz253_3, hfz253_4, hfz253_5⟩ := fz6 BK367.out
           go_wp2_with (first | ((with_reducible refine gate_callee (f := 83) rfl ?_); refine goesL_ (some 31) rfl rfl Tryd.func83 (by kernel_rfl) rfl #[.agg #[.int .i64 a0_0, .string a0_1, .string a0_2, .string a0_3, .string a0_4, .string a0_5]] rfl mq ?_; (with_reducible refine (isoglossref12_target.calls k1 a0_0 a0_1 a0_2 a0_3 a0_4 a0_5 t379 _ A45.out).mono ?_); rintro e w254 ⟨rfl, hb⟩; refine ⟨_, rfl, ?_⟩; have n0_ := ak (blk_below (g := gb367) (bx BK367.out) hb); have n1_ := ak (blk_below (g := gb373) (bx BK373.out) hb); have n2_ := ak (below_step bq hb); clear BK367; clear BK373; clear HB; have BK367 := n0_; have BK373 := n1_; have HB := n2_; clear n0_ n1_ n2_; (try clear hb); (try clear hb2); (try clear hk); (try clear hi); obtain ⟨hcz255_0, hcz255_1, hcz255_2, hcz255_3, hcz255_4, hcz255_5⟩ := cz6 BK367.out; obtain ⟨hfz255_0, hfz255_1, hfz255_2, hfz255_3, hfz255_4, hfz255_5⟩ := fz6 BK367.out; (try clear A45)))
           go_ret
           exact ⟨by first | rfl | (simp [errW_none, errW_some] <;> rfl) | (simp [*, errW_none, errW_some] <;> rfl), bq⟩

end Go.Proofs.YtmbfnbnlajchmaaDoor.P
