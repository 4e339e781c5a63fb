/- Made by a program of this seat's own (myprint.py, round the kit's print): what the functions compute, and that they do. -/
import Derived.Test.YtmbfnbnlajchmaaDoorAoP0
import Derived.Test.YtmbfnbnlajchmaaDoorAoP11
import Derived.Test.YtmbfnbnlajchmaaDoorAoP17
import Derived.Test.YtmbfnbnlajchmaaDoorAoP22
import Derived.Test.YtmbfnbnlajchmaaDoorAoTight
namespace Go.Proofs.YtmbfnbnlajchmaaDoor.P
open Go.RowKit Go.Proofs.YtmbfnbnlajchmaaDoorW.PrintWords Go.Proofs.YtmbfnbnlajchmaaDoorW.PrintLast Go.Proofs.YtmbfnbnlajchmaaDoorW.PrintMore
attribute [local go_sem] StrOrd.binOp_gtr StrOrd.binOp_leq max2_int min2_int max_two min_two max_three min_three max_four min_four   -- for this text's walks alone
set_option linter.unusedVariables false
set_option linter.unusedSimpArgs false

def isoglosslaw12_AliasOrders.j0 : Nat → Bool → Int → Bool → Int → ByteArray → ByteArray → ByteArray → ByteArray → ByteArray → Int → ByteArray → ByteArray → ByteArray → ByteArray → ByteArray → Int → ByteArray → ByteArray → ByteArray → ByteArray → ByteArray → Int → ByteArray → ByteArray → ByteArray → ByteArray → ByteArray → Option (Bool)
 | 0, _, _, _, _, _, _, _, _, _, _, _, _, _, _, _, _, _, _, _, _, _, _, _, _, _, _, _ => none
 | k + 1, x5, x8, x58, x662000, x662001, x662002, x662003, x662004, x662005, x662006, x662007, x662008, x662009, x662010, x662011, x670000, x670001, x670002, x670003, x670004, x670005, x677000, x677001, x677002, x677003, x677004, x677005 => if x58 = true then (some false) else ((isoglosslaw12_few.f x662000 x662001 x662002 x662003 x662004 x662005).bind fun bt682 => ((isoglosslaw12_few.f x662006 x662007 x662008 x662009 x662010 x662011).bind fun bt689 => (if x5 = true then ((isoglossref12_Compare.f x670000 x670001 x670002 x670003 x670004 x670005 x677000 x677001 x677002 x677003 x677004 x677005).bind fun t696 => (if x8 = t696 then ((alias_Compare.f k x677000 x677001 x677002 x677003 x677004 x677005 x670000 x670001 x670002 x670003 x670004 x670005).bind fun t697 => (if t697 = (wrap64 (-x8)) then ((alias_Compare.f k bt682.1 bt682.2.1 bt682.2.2.1 bt682.2.2.2.1 bt682.2.2.2.2.1 bt682.2.2.2.2.2 bt689.1 bt689.2.1 bt689.2.2.1 bt689.2.2.2.1 bt689.2.2.2.2.1 bt689.2.2.2.2.2).bind fun t698 => ((isoglossref12_Compare.f bt682.1 bt682.2.1 bt682.2.2.1 bt682.2.2.2.1 bt682.2.2.2.2.1 bt682.2.2.2.2.2 bt689.1 bt689.2.1 bt689.2.2.1 bt689.2.2.2.1 bt689.2.2.2.2.1 bt689.2.2.2.2.2).bind fun t699 => (if t698 = t699 then ((alias_Compare.f k bt682.1 bt682.2.1 bt682.2.2.1 bt682.2.2.2.1 bt682.2.2.2.2.1 bt682.2.2.2.2.2 bt682.1 bt682.2.1 bt682.2.2.1 bt682.2.2.2.1 bt682.2.2.2.2.1 bt682.2.2.2.2.2).bind fun t700 => (some (t700 == 0))) else (some false)))) else (some false))) else (some false))) else (some false))))
def isoglosslaw12_AliasOrders.f (k : Nat) (a0_0 : Int) (a0_1 : Int) (a0_2 : Int) (a0_3 : Int) (a0_4 : Int) (a0_5 : Int) (a0_6 : Int) (a0_7 : Int) (a0_8 : Int) (a0_9 : Int) (a0_10 : Int) (a0_11 : Int) (a0_12 : Int) (a0_13 : Int) (a1_0 : Int) (a1_1 : ByteArray) (a1_2 : ByteArray) (a1_3 : ByteArray) (a1_4 : ByteArray) (a1_5 : ByteArray) (a1_6 : Int) (a1_7 : ByteArray) (a1_8 : ByteArray) (a1_9 : ByteArray) (a1_10 : ByteArray) (a1_11 : ByteArray) : Option (Bool) := (isoglosslaw12_awake.f k).bind fun t662 => ((isoglossref12_Made.f k a0_0 a0_1 a0_2 a0_3 a0_4 a0_5 a0_6).bind fun bt663 => ((isoglossref12_Made.f k a0_7 a0_8 a0_9 a0_10 a0_11 a0_12 a0_13).bind fun bt670 => ((alias_Compare.f k bt663.1 bt663.2.1 bt663.2.2.1 bt663.2.2.2.1 bt663.2.2.2.2.1 bt663.2.2.2.2.2 bt670.1 bt670.2.1 bt670.2.2.1 bt670.2.2.2.1 bt670.2.2.2.2.1 bt670.2.2.2.2.2).bind fun t677 => ((alias_Encode.f k bt663.1 bt663.2.1 bt663.2.2.1 bt663.2.2.2.1 bt663.2.2.2.2.1 bt663.2.2.2.2.2).bind fun bt678 => ((alias_Encode.f k bt670.1 bt670.2.1 bt670.2.2.1 bt670.2.2.2.1 bt670.2.2.2.2.1 bt670.2.2.2.2.2).bind fun bt680 => (if bt678.2 = true then (if bt680.2 = true then (if 0 ≤ 17 then (if 17 ≤ (bt678.1.size : Int) then (if 17 ≤ (bt680.1.size : Int) then (if ((decide (t677 < 0)) != (Op.bytesLess ((bt678.1.extract 0 17).toList) ((bt680.1.extract 0 17).toList))) = true then (isoglosslaw12_AliasOrders.j0 k t662 t677 true a1_0 a1_1 a1_2 a1_3 a1_4 a1_5 a1_6 a1_7 a1_8 a1_9 a1_10 a1_11 bt663.1 bt663.2.1 bt663.2.2.1 bt663.2.2.2.1 bt663.2.2.2.2.1 bt663.2.2.2.2.2 bt670.1 bt670.2.1 bt670.2.2.1 bt670.2.2.2.1 bt670.2.2.2.2.1 bt670.2.2.2.2.2) else (isoglosslaw12_AliasOrders.j0 k t662 t677 ((t677 == 0) != ((bt678.1.extract 0 17).toList == (bt680.1.extract 0 17).toList)) a1_0 a1_1 a1_2 a1_3 a1_4 a1_5 a1_6 a1_7 a1_8 a1_9 a1_10 a1_11 bt663.1 bt663.2.1 bt663.2.2.1 bt663.2.2.2.1 bt663.2.2.2.2.1 bt663.2.2.2.2.2 bt670.1 bt670.2.1 bt670.2.2.1 bt670.2.2.2.1 bt670.2.2.2.2.1 bt670.2.2.2.2.2)) else (none)) else (none)) else (none)) else (isoglosslaw12_AliasOrders.j0 k t662 t677 false a1_0 a1_1 a1_2 a1_3 a1_4 a1_5 a1_6 a1_7 a1_8 a1_9 a1_10 a1_11 bt663.1 bt663.2.1 bt663.2.2.1 bt663.2.2.2.1 bt663.2.2.2.2.1 bt663.2.2.2.2.2 bt670.1 bt670.2.1 bt670.2.2.1 bt670.2.2.2.1 bt670.2.2.2.2.1 bt670.2.2.2.2.2)) else (isoglosslaw12_AliasOrders.j0 k t662 t677 false a1_0 a1_1 a1_2 a1_3 a1_4 a1_5 a1_6 a1_7 a1_8 a1_9 a1_10 a1_11 bt663.1 bt663.2.1 bt663.2.2.1 bt663.2.2.2.1 bt663.2.2.2.2.1 bt663.2.2.2.2.2 bt670.1 bt670.2.1 bt670.2.2.1 bt670.2.2.2.1 bt670.2.2.2.2.1 bt670.2.2.2.2.2)))))))
def isoglosslaw12_AliasOrders.T7 : Bool × List (List Nat × List Nat) := (true, [([], []), ([0], [0]), ([1], [1]), ([1, 2], [1, 2]), ([3, 1], [3]), ([4], [4]), ([5, 4], [4, 5]), ([4], [4]), ([7, 4], [4, 7]), ([4], [4]), ([9, 4], [4, 9]), ([8, 10, 4], [4, 8, 10]), ([6, 11, 4], [4, 6, 11]), ([12, 4, 4], [4, 12]), ([13], [13]), ([14, 13], [13, 14]), ([13], [13]), ([16, 13], [13, 16]), ([13], [13]), ([18, 13], [13, 18]), ([17, 19, 13], [13, 17, 19]), ([15, 20, 13], [13, 15, 20]), ([13, 21, 4], [4, 13, 21]), ([4, 22], [4, 22])])
def isoglosslaw12_AliasOrders.B7 : List Nat := [0, 1, 3, 7, 15, 31, 63, 31, 159, 31, 543, 1951, 4095, 8191, 16383, 32767, 16383, 81919, 16383, 278527, 999423, 2097151, 4194303, 8388607]
theorem isoglosslaw12_AliasOrders.tab7 : rtab .any (opsOf Tryd.f11 7) = isoglosslaw12_AliasOrders.T7 := by kernel_rfl
theorem isoglosslaw12_AliasOrders.bits7 : waitsOk isoglosslaw12_AliasOrders.T7.2 isoglosslaw12_AliasOrders.B7 = true := by kernel_rfl
def isoglosslaw12_AliasOrders.T11 : Bool × List (List Nat × List Nat) := (true, [([], []), ([0], [0]), ([1], [1]), ([1], [1]), ([1], [1]), ([3, 4, 1, 1], [1, 3, 4]), ([2, 5, 1], [1, 2, 5]), ([1, 6], [1, 6]), ([7, 5], [7]), ([8], [8]), ([8], [8]), ([9, 10, 8, 8], [8, 9, 10]), ([8], [8]), ([12, 8], [8, 12]), ([11, 13, 8], [8, 11, 13]), ([8, 14], [8, 14]), ([15, 11], [15]), ([16], [16]), ([16], [16]), ([17, 18, 16, 16], [16, 17, 18]), ([16], [16]), ([16], [16]), ([20, 21, 19, 16], [16, 20, 21]), ([19, 22, 16], [16, 19, 22]), ([16, 23], [16, 23]), ([24, 22], [24]), ([25], [25]), ([25], [25]), ([26, 27, 25, 25], [25, 26, 27]), ([28, 25], [25, 28]), ([25, 29], [25, 29]), ([30, 28, 0, 1, 2, 3, 4, 5, 6, 7, 8, 9, 10, 11, 12, 13, 14, 15, 16, 17, 18, 19, 20, 21, 22, 23, 24, 25, 26, 27, 28, 29, 30], [30])])
def isoglosslaw12_AliasOrders.B11 : List Nat := [0, 1, 3, 3, 3, 27, 63, 127, 255, 511, 511, 2047, 511, 4607, 16383, 32767, 65535, 131071, 131071, 524287, 131071, 131071, 4194303, 8388607, 16777215, 33554431, 67108863, 67108863, 268435455, 536870911, 1073741823, 2147483647]
theorem isoglosslaw12_AliasOrders.tab11 : rtab .any (opsOf Tryd.f11 11) = isoglosslaw12_AliasOrders.T11 := by kernel_rfl
theorem isoglosslaw12_AliasOrders.bits11 : waitsOk isoglosslaw12_AliasOrders.T11.2 isoglosslaw12_AliasOrders.B11 = true := by kernel_rfl
set_option maxHeartbeats 8000000 in
set_option maxRecDepth 100000 in
theorem isoglosslaw12_AliasOrders.calls (k : Nat) (a0_0 : Int) (a0_1 : Int) (a0_2 : Int) (a0_3 : Int) (a0_4 : Int) (a0_5 : Int) (a0_6 : Int) (a0_7 : Int) (a0_8 : Int) (a0_9 : Int) (a0_10 : Int) (a0_11 : Int) (a0_12 : Int) (a0_13 : Int) (a1_0 : Int) (a1_1 : ByteArray) (a1_2 : ByteArray) (a1_3 : ByteArray) (a1_4 : ByteArray) (a1_5 : ByteArray) (a1_6 : Int) (a1_7 : ByteArray) (a1_8 : ByteArray) (a1_9 : ByteArray) (a1_10 : ByteArray) (a1_11 : ByteArray) (r : Bool) (w : World) (h : isoglosslaw12_AliasOrders.f k a0_0 a0_1 a0_2 a0_3 a0_4 a0_5 a0_6 a0_7 a0_8 a0_9 a0_10 a0_11 a0_12 a0_13 a1_0 a1_1 a1_2 a1_3 a1_4 a1_5 a1_6 a1_7 a1_8 a1_9 a1_10 a1_11 = some r) (hG : GrandW.G w) :
  Calls Tryd.prog 11 #[.agg #[.int .i64 a0_0, .int .i64 a0_1, .int .i64 a0_2, .int .i64 a0_3, .int .i64 a0_4, .int .i64 a0_5, .int .i64 a0_6, .int .i64 a0_7, .int .i64 a0_8, .int .i64 a0_9, .int .i64 a0_10, .int .i64 a0_11, .int .i64 a0_12, .int .i64 a0_13], .agg #[.int .i64 a1_0, .string a1_1, .string a1_2, .string a1_3, .string a1_4, .string a1_5, .int .i64 a1_6, .string a1_7, .string a1_8, .string a1_9, .string a1_10, .string a1_11]] w fun e w' => e = .returned (.bool r) ∧ Below w.heap.size w w' := by
 have HG := ak hG
 clear hG
 have hu63 := Tryd.underlying63
 have hu64 := Tryd.underlying64
 have hu52 := Tryd.underlying52
 have hu50 := Tryd.underlying50
 have HB := ak (Below.refl w.heap.size w)
 have H : ((isoglosslaw12_awake.f k).bind fun t662 => ((isoglossref12_Made.f k a0_0 a0_1 a0_2 a0_3 a0_4 a0_5 a0_6).bind fun bt663 => ((isoglossref12_Made.f k a0_7 a0_8 a0_9 a0_10 a0_11 a0_12 a0_13).bind fun bt670 => ((alias_Compare.f k bt663.1 bt663.2.1 bt663.2.2.1 bt663.2.2.2.1 bt663.2.2.2.2.1 bt663.2.2.2.2.2 bt670.1 bt670.2.1 bt670.2.2.1 bt670.2.2.2.1 bt670.2.2.2.2.1 bt670.2.2.2.2.2).bind fun t677 => ((alias_Encode.f k bt663.1 bt663.2.1 bt663.2.2.1 bt663.2.2.2.1 bt663.2.2.2.2.1 bt663.2.2.2.2.2).bind fun bt678 => ((alias_Encode.f k bt670.1 bt670.2.1 bt670.2.2.1 bt670.2.2.2.1 bt670.2.2.2.2.1 bt670.2.2.2.2.2).bind fun bt680 => (if bt678.2 = true then (if bt680.2 = true then (if 0 ≤ 17 then (if 17 ≤ (bt678.1.size : Int) then (if 17 ≤ (bt680.1.size : Int) then (if ((decide (t677 < 0)) != (Op.bytesLess ((bt678.1.extract 0 17).toList) ((bt680.1.extract 0 17).toList))) = true then (isoglosslaw12_AliasOrders.j0 k t662 t677 true a1_0 a1_1 a1_2 a1_3 a1_4 a1_5 a1_6 a1_7 a1_8 a1_9 a1_10 a1_11 bt663.1 bt663.2.1 bt663.2.2.1 bt663.2.2.2.1 bt663.2.2.2.2.1 bt663.2.2.2.2.2 bt670.1 bt670.2.1 bt670.2.2.1 bt670.2.2.2.1 bt670.2.2.2.2.1 bt670.2.2.2.2.2) else (isoglosslaw12_AliasOrders.j0 k t662 t677 ((t677 == 0) != ((bt678.1.extract 0 17).toList == (bt680.1.extract 0 17).toList)) a1_0 a1_1 a1_2 a1_3 a1_4 a1_5 a1_6 a1_7 a1_8 a1_9 a1_10 a1_11 bt663.1 bt663.2.1 bt663.2.2.1 bt663.2.2.2.1 bt663.2.2.2.2.1 bt663.2.2.2.2.2 bt670.1 bt670.2.1 bt670.2.2.1 bt670.2.2.2.1 bt670.2.2.2.2.1 bt670.2.2.2.2.2)) else (none)) else (none)) else (none)) else (isoglosslaw12_AliasOrders.j0 k t662 t677 false a1_0 a1_1 a1_2 a1_3 a1_4 a1_5 a1_6 a1_7 a1_8 a1_9 a1_10 a1_11 bt663.1 bt663.2.1 bt663.2.2.1 bt663.2.2.2.1 bt663.2.2.2.2.1 bt663.2.2.2.2.2 bt670.1 bt670.2.1 bt670.2.2.1 bt670.2.2.2.1 bt670.2.2.2.2.1 bt670.2.2.2.2.2)) else (isoglosslaw12_AliasOrders.j0 k t662 t677 false a1_0 a1_1 a1_2 a1_3 a1_4 a1_5 a1_6 a1_7 a1_8 a1_9 a1_10 a1_11 bt663.1 bt663.2.1 bt663.2.2.1 bt663.2.2.2.1 bt663.2.2.2.2.1 bt663.2.2.2.2.2 bt670.1 bt670.2.1 bt670.2.2.1 bt670.2.2.2.1 bt670.2.2.2.2.1 bt670.2.2.2.2.2)))))))) = some r := h
 clear h
 replace H := Option.bind_eq_some_iff.mp H
 obtain ⟨t662, A30, H⟩ := H
 have A3 := ak A30
 clear A30
 replace H := Option.bind_eq_some_iff.mp H
 obtain ⟨⟨t663, t664, t665, t666, t667, t668⟩, A40, H⟩ := H
 replace H : ((isoglossref12_Made.f k a0_7 a0_8 a0_9 a0_10 a0_11 a0_12 a0_13).bind fun bt670 => ((alias_Compare.f k t663 t664 t665 t666 t667 t668 bt670.1 bt670.2.1 bt670.2.2.1 bt670.2.2.2.1 bt670.2.2.2.2.1 bt670.2.2.2.2.2).bind fun t677 => ((alias_Encode.f k t663 t664 t665 t666 t667 t668).bind fun bt678 => ((alias_Encode.f k bt670.1 bt670.2.1 bt670.2.2.1 bt670.2.2.2.1 bt670.2.2.2.2.1 bt670.2.2.2.2.2).bind fun bt680 => (if bt678.2 = true then (if bt680.2 = true then (if 0 ≤ 17 then (if 17 ≤ (bt678.1.size : Int) then (if 17 ≤ (bt680.1.size : Int) then (if ((decide (t677 < 0)) != (Op.bytesLess ((bt678.1.extract 0 17).toList) ((bt680.1.extract 0 17).toList))) = true then (isoglosslaw12_AliasOrders.j0 k t662 t677 true a1_0 a1_1 a1_2 a1_3 a1_4 a1_5 a1_6 a1_7 a1_8 a1_9 a1_10 a1_11 t663 t664 t665 t666 t667 t668 bt670.1 bt670.2.1 bt670.2.2.1 bt670.2.2.2.1 bt670.2.2.2.2.1 bt670.2.2.2.2.2) else (isoglosslaw12_AliasOrders.j0 k t662 t677 ((t677 == 0) != ((bt678.1.extract 0 17).toList == (bt680.1.extract 0 17).toList)) a1_0 a1_1 a1_2 a1_3 a1_4 a1_5 a1_6 a1_7 a1_8 a1_9 a1_10 a1_11 t663 t664 t665 t666 t667 t668 bt670.1 bt670.2.1 bt670.2.2.1 bt670.2.2.2.1 bt670.2.2.2.2.1 bt670.2.2.2.2.2)) else (none)) else (none)) else (none)) else (isoglosslaw12_AliasOrders.j0 k t662 t677 false a1_0 a1_1 a1_2 a1_3 a1_4 a1_5 a1_6 a1_7 a1_8 a1_9 a1_10 a1_11 t663 t664 t665 t666 t667 t668 bt670.1 bt670.2.1 bt670.2.2.1 bt670.2.2.2.1 bt670.2.2.2.2.1 bt670.2.2.2.2.2)) else (isoglosslaw12_AliasOrders.j0 k t662 t677 false a1_0 a1_1 a1_2 a1_3 a1_4 a1_5 a1_6 a1_7 a1_8 a1_9 a1_10 a1_11 t663 t664 t665 t666 t667 t668 bt670.1 bt670.2.1 bt670.2.2.1 bt670.2.2.2.1 bt670.2.2.2.2.1 bt670.2.2.2.2.2)))))) = some r := H
 have A4 := ak A40
 clear A40
 replace H := Option.bind_eq_some_iff.mp H
 obtain ⟨⟨t670, t671, t672, t673, t674, t675⟩, A50, H⟩ := H
 replace H : ((alias_Compare.f k t663 t664 t665 t666 t667 t668 t670 t671 t672 t673 t674 t675).bind fun t677 => ((alias_Encode.f k t663 t664 t665 t666 t667 t668).bind fun bt678 => ((alias_Encode.f k t670 t671 t672 t673 t674 t675).bind fun bt680 => (if bt678.2 = true then (if bt680.2 = true then (if 0 ≤ 17 then (if 17 ≤ (bt678.1.size : Int) then (if 17 ≤ (bt680.1.size : Int) then (if ((decide (t677 < 0)) != (Op.bytesLess ((bt678.1.extract 0 17).toList) ((bt680.1.extract 0 17).toList))) = true then (isoglosslaw12_AliasOrders.j0 k t662 t677 true a1_0 a1_1 a1_2 a1_3 a1_4 a1_5 a1_6 a1_7 a1_8 a1_9 a1_10 a1_11 t663 t664 t665 t666 t667 t668 t670 t671 t672 t673 t674 t675) else (isoglosslaw12_AliasOrders.j0 k t662 t677 ((t677 == 0) != ((bt678.1.extract 0 17).toList == (bt680.1.extract 0 17).toList)) a1_0 a1_1 a1_2 a1_3 a1_4 a1_5 a1_6 a1_7 a1_8 a1_9 a1_10 a1_11 t663 t664 t665 t666 t667 t668 t670 t671 t672 t673 t674 t675)) else (none)) else (none)) else (none)) else (isoglosslaw12_AliasOrders.j0 k t662 t677 false a1_0 a1_1 a1_2 a1_3 a1_4 a1_5 a1_6 a1_7 a1_8 a1_9 a1_10 a1_11 t663 t664 t665 t666 t667 t668 t670 t671 t672 t673 t674 t675)) else (isoglosslaw12_AliasOrders.j0 k t662 t677 false a1_0 a1_1 a1_2 a1_3 a1_4 a1_5 a1_6 a1_7 a1_8 a1_9 a1_10 a1_11 t663 t664 t665 t666 t667 t668 t670 t671 t672 t673 t674 t675))))) = some r := H
 have A5 := ak A50
 clear A50
 replace H := Option.bind_eq_some_iff.mp H
 obtain ⟨t677, A60, H⟩ := H
 have A6 := ak A60
 clear A60
 replace H := Option.bind_eq_some_iff.mp H
 obtain ⟨⟨t678, t679⟩, A70, H⟩ := H
 replace H : ((alias_Encode.f k t670 t671 t672 t673 t674 t675).bind fun bt680 => (if t679 = true then (if bt680.2 = true then (if 0 ≤ 17 then (if 17 ≤ (t678.size : Int) then (if 17 ≤ (bt680.1.size : Int) then (if ((decide (t677 < 0)) != (Op.bytesLess ((t678.extract 0 17).toList) ((bt680.1.extract 0 17).toList))) = true then (isoglosslaw12_AliasOrders.j0 k t662 t677 true a1_0 a1_1 a1_2 a1_3 a1_4 a1_5 a1_6 a1_7 a1_8 a1_9 a1_10 a1_11 t663 t664 t665 t666 t667 t668 t670 t671 t672 t673 t674 t675) else (isoglosslaw12_AliasOrders.j0 k t662 t677 ((t677 == 0) != ((t678.extract 0 17).toList == (bt680.1.extract 0 17).toList)) a1_0 a1_1 a1_2 a1_3 a1_4 a1_5 a1_6 a1_7 a1_8 a1_9 a1_10 a1_11 t663 t664 t665 t666 t667 t668 t670 t671 t672 t673 t674 t675)) else (none)) else (none)) else (none)) else (isoglosslaw12_AliasOrders.j0 k t662 t677 false a1_0 a1_1 a1_2 a1_3 a1_4 a1_5 a1_6 a1_7 a1_8 a1_9 a1_10 a1_11 t663 t664 t665 t666 t667 t668 t670 t671 t672 t673 t674 t675)) else (isoglosslaw12_AliasOrders.j0 k t662 t677 false a1_0 a1_1 a1_2 a1_3 a1_4 a1_5 a1_6 a1_7 a1_8 a1_9 a1_10 a1_11 t663 t664 t665 t666 t667 t668 t670 t671 t672 t673 t674 t675))) = some r := H
 have A7 := ak A70
 clear A70
 replace H := Option.bind_eq_some_iff.mp H
 obtain ⟨⟨t680, t681⟩, A80, H⟩ := H
 replace H : (if t679 = true then (if t681 = true then (if 0 ≤ 17 then (if 17 ≤ (t678.size : Int) then (if 17 ≤ (t680.size : Int) then (if ((decide (t677 < 0)) != (Op.bytesLess ((t678.extract 0 17).toList) ((t680.extract 0 17).toList))) = true then (isoglosslaw12_AliasOrders.j0 k t662 t677 true a1_0 a1_1 a1_2 a1_3 a1_4 a1_5 a1_6 a1_7 a1_8 a1_9 a1_10 a1_11 t663 t664 t665 t666 t667 t668 t670 t671 t672 t673 t674 t675) else (isoglosslaw12_AliasOrders.j0 k t662 t677 ((t677 == 0) != ((t678.extract 0 17).toList == (t680.extract 0 17).toList)) a1_0 a1_1 a1_2 a1_3 a1_4 a1_5 a1_6 a1_7 a1_8 a1_9 a1_10 a1_11 t663 t664 t665 t666 t667 t668 t670 t671 t672 t673 t674 t675)) else (none)) else (none)) else (none)) else (isoglosslaw12_AliasOrders.j0 k t662 t677 false a1_0 a1_1 a1_2 a1_3 a1_4 a1_5 a1_6 a1_7 a1_8 a1_9 a1_10 a1_11 t663 t664 t665 t666 t667 t668 t670 t671 t672 t673 t674 t675)) else (isoglosslaw12_AliasOrders.j0 k t662 t677 false a1_0 a1_1 a1_2 a1_3 a1_4 a1_5 a1_6 a1_7 a1_8 a1_9 a1_10 a1_11 t663 t664 t665 t666 t667 t668 t670 t671 t672 t673 t674 t675)) = some r := H
 have A8 := ak A80
 clear A80
 have HC9 := ak H
 clear H
 go_enter Tryd.func11, Tryd.ntmps11
 go_upto_region 7 with (first | ((with_reducible refine gate_dst (N := 2) rfl ?_); refine box_event ?hg (N := 2) ?hd (cs := #[.int .i64 a0_0, .int .i64 a0_1, .int .i64 a0_2, .int .i64 a0_3, .int .i64 a0_4, .int .i64 a0_5, .int .i64 a0_6, .int .i64 a0_7, .int .i64 a0_8, .int .i64 a0_9, .int .i64 a0_10, .int .i64 a0_11, .int .i64 a0_12, .int .i64 a0_13]) (t := 63) ?hr ?_; (case hd => rfl); (case hg => rfl); (case hr => first | (go_simp; done) | (go_simp; rfl)); intro gb660 hg w10 hbox hb; have n0_ := ak (below_step bq hb); have n1_ := ak (hbox); have n2_ := ak ((by rw [hg]; exact (below_size bq) : w.heap.size ≤ gb660)); have n3_ := ak ((by rw [hg]; exact (below_size bq) : w.heap.size ≤ gb660)); clear HB; have HB := n0_; have BK660 := n1_; have GW660 := n2_; have GE660 := n3_; clear n0_ n1_ n2_ n3_; clear hb hbox hg) | ((with_reducible refine gate_dst (N := 3) rfl ?_); refine box_event ?hg (N := 3) ?hd (cs := #[.int .i64 a1_0, .string a1_1, .string a1_2, .string a1_3, .string a1_4, .string a1_5, .int .i64 a1_6, .string a1_7, .string a1_8, .string a1_9, .string a1_10, .string a1_11]) (t := 64) ?hr ?_; (case hd => rfl); (case hg => rfl); (case hr => first | (go_simp; done) | (go_simp; rfl)); intro gb661 hg w11 hbox hb; have n0_ := ak (blk_below (g := gb660) (bx BK660.out) hb); have n1_ := ak (below_step bq hb); have n2_ := ak (hbox); have n3_ := ak ((by rw [hg]; exact (below_size bq) : w.heap.size ≤ gb661)); have n4_ := ak ((by rw [hg]; exact (below_size bq) : w.heap.size ≤ gb661)); have n5_ := ak ((by rw [hg]; exact Nat.ne_of_lt (blk_lt (g := gb660) (bx BK660.out)) : gb660 ≠ gb661)); have n6_ := ak ((by rw [hg]; exact Nat.ne_of_gt (blk_lt (g := gb660) (bx BK660.out)) : gb661 ≠ gb660)); clear BK660; clear HB; have BK660 := n0_; have HB := n1_; have BK661 := n2_; have GW661 := n3_; have GE661 := n4_; have NB660_661 := n5_; have NB661_660 := n6_; clear n0_ n1_ n2_ n3_ n4_ n5_ n6_; clear hb hbox hg) | ((with_reducible refine gate_callee (f := 30) rfl ?_); refine goesL_ (some 15) rfl rfl Tryd.func30 (by kernel_rfl) rfl #[] rfl mq ?_; (with_reducible refine (isoglosslaw12_awake.calls k  t662 _ A3.out HG.out.on).mono ?_); rintro e w12 ⟨rfl, hb⟩; refine ⟨_, rfl, ?_⟩; have n0_ := ak (blk_below (g := gb660) (bx BK660.out) hb); have n1_ := ak (blk_below (g := gb661) (bx BK661.out) hb); have n2_ := ak (below_step bq hb); clear BK660; clear BK661; clear HB; have BK660 := n0_; have BK661 := n1_; have HB := n2_; clear n0_ n1_ n2_; (try clear hb); (try clear hb2); (try clear hk); (try clear hi); have hnb13 := NB660_661.out; have hnc13 := NB661_660.out; obtain ⟨hcz14_0, hcz14_1, hcz14_2, hcz14_3, hcz14_4, hcz14_5, hcz14_6, hcz14_7, hcz14_8, hcz14_9, hcz14_10, hcz14_11, hcz14_12, hcz14_13⟩ := cz14 BK660.out; obtain ⟨hfz14_0, hfz14_1, hfz14_2, hfz14_3, hfz14_4, hfz14_5, hfz14_6, hfz14_7, hfz14_8, hfz14_9, hfz14_10, hfz14_11, hfz14_12, hfz14_13⟩ := fz14 BK660.out; (try clear A3)) | ((with_reducible refine gate_callee (f := 34) rfl ?_); refine goesL_ (some 18) rfl rfl Tryd.func34 (by kernel_rfl) rfl #[.agg #[.int .i64 a0_0, .int .i64 a0_1, .int .i64 a0_2, .int .i64 a0_3, .int .i64 a0_4, .int .i64 a0_5, .int .i64 a0_6]] rfl mq ?_; (with_reducible refine (isoglossref12_Made.calls k a0_0 a0_1 a0_2 a0_3 a0_4 a0_5 a0_6 t663 t664 t665 t666 t667 t668 _ A4.out).mono ?_); rintro e w15 ⟨rfl, hb⟩; refine ⟨_, rfl, ?_⟩; have n0_ := ak (blk_below (g := gb660) (bx BK660.out) hb); have n1_ := ak (blk_below (g := gb661) (bx BK661.out) hb); have n2_ := ak (below_step bq hb); clear BK660; clear BK661; clear HB; have BK660 := n0_; have BK661 := n1_; have HB := n2_; clear n0_ n1_ n2_; (try clear hb); (try clear hb2); (try clear hk); (try clear hi); (try clear A4)) | ((with_reducible refine gate_dst (N := 6) rfl ?_); refine box_event ?hg (N := 6) ?hd (cs := #[.int .i64 0, .string ⟨#[]⟩, .string ⟨#[]⟩, .string ⟨#[]⟩, .string ⟨#[]⟩, .string ⟨#[]⟩]) (t := 50) ?hr ?_; (case hd => rfl); (case hg => rfl); (case hr => first | (go_simp; done) | (go_simp; rfl)); intro gb669 hg w16 hbox hb; have n0_ := ak (blk_below (g := gb660) (bx BK660.out) hb); have n1_ := ak (blk_below (g := gb661) (bx BK661.out) hb); have n2_ := ak (below_step bq hb); have n3_ := ak (hbox); have n4_ := ak ((by rw [hg]; exact (below_size bq) : w.heap.size ≤ gb669)); have n5_ := ak ((by rw [hg]; exact (below_size bq) : w.heap.size ≤ gb669)); have n6_ := ak ((by rw [hg]; exact Nat.ne_of_lt (blk_lt (g := gb660) (bx BK660.out)) : gb660 ≠ gb669)); have n7_ := ak ((by rw [hg]; exact Nat.ne_of_gt (blk_lt (g := gb660) (bx BK660.out)) : gb669 ≠ gb660)); have n8_ := ak ((by rw [hg]; exact Nat.ne_of_lt (blk_lt (g := gb661) (bx BK661.out)) : gb661 ≠ gb669)); have n9_ := ak ((by rw [hg]; exact Nat.ne_of_gt (blk_lt (g := gb661) (bx BK661.out)) : gb669 ≠ gb661)); clear BK660; clear BK661; clear HB; have BK660 := n0_; have BK661 := n1_; have HB := n2_; have BK669 := n3_; have GW669 := n4_; have GE669 := n5_; have NB660_669 := n6_; have NB669_660 := n7_; have NB661_669 := n8_; have NB669_661 := n9_; clear n0_ n1_ n2_ n3_ n4_ n5_ n6_ n7_ n8_ n9_; clear hb hbox hg; have hnb17 := NB669_660.out; have hnc17 := NB660_669.out; have hnb18 := NB669_661.out; have hnc18 := NB661_669.out; obtain ⟨hcz19_0, hcz19_1, hcz19_2, hcz19_3, hcz19_4, hcz19_5⟩ := cz6 BK669.out; obtain ⟨hfz19_0, hfz19_1, hfz19_2, hfz19_3, hfz19_4, hfz19_5⟩ := fz6 BK669.out; obtain ⟨hcz20_0, hcz20_1, hcz20_2, hcz20_3, hcz20_4, hcz20_5, hcz20_6, hcz20_7, hcz20_8, hcz20_9, hcz20_10, hcz20_11, hcz20_12, hcz20_13⟩ := cz14 BK660.out; obtain ⟨hfz20_0, hfz20_1, hfz20_2, hfz20_3, hfz20_4, hfz20_5, hfz20_6, hfz20_7, hfz20_8, hfz20_9, hfz20_10, hfz20_11, hfz20_12, hfz20_13⟩ := fz14 BK660.out) | ((with_reducible refine gate_callee (f := 34) rfl ?_); refine goesL_ (some 21) rfl rfl Tryd.func34 (by kernel_rfl) rfl #[.agg #[.int .i64 a0_7, .int .i64 a0_8, .int .i64 a0_9, .int .i64 a0_10, .int .i64 a0_11, .int .i64 a0_12, .int .i64 a0_13]] rfl mq ?_; (with_reducible refine (isoglossref12_Made.calls k a0_7 a0_8 a0_9 a0_10 a0_11 a0_12 a0_13 t670 t671 t672 t673 t674 t675 _ A5.out).mono ?_); rintro e w21 ⟨rfl, hb⟩; refine ⟨_, rfl, ?_⟩; have n0_ := ak (blk_below (g := gb660) (o := .cells #[.int .i64 a0_0, .int .i64 a0_1, .int .i64 a0_2, .int .i64 a0_3, .int .i64 a0_4, .int .i64 a0_5, .int .i64 a0_6, .int .i64 a0_7, .int .i64 a0_8, .int .i64 a0_9, .int .i64 a0_10, .int .i64 a0_11, .int .i64 a0_12, .int .i64 a0_13] 63 (0, 0)) (bx (blk_far (bx (blk_far (bx (blk_far (bx (blk_far (bx (blk_far (bx (blk_far (bx BK660.out) NB660_669.out _)) NB660_669.out _)) NB660_669.out _)) NB660_669.out _)) NB660_669.out _)) NB660_669.out _)) hb); have n1_ := ak (blk_below (g := gb661) (o := .cells #[.int .i64 a1_0, .string a1_1, .string a1_2, .string a1_3, .string a1_4, .string a1_5, .int .i64 a1_6, .string a1_7, .string a1_8, .string a1_9, .string a1_10, .string a1_11] 64 (0, 0)) (bx (blk_far (bx (blk_far (bx (blk_far (bx (blk_far (bx (blk_far (bx (blk_far (bx BK661.out) NB661_669.out _)) NB661_669.out _)) NB661_669.out _)) NB661_669.out _)) NB661_669.out _)) NB661_669.out _)) hb); have n2_ := ak (blk_below (g := gb669) (o := .cells #[.int .i64 t663, .string t664, .string t665, .string t666, .string t667, .string t668] 50 (0, 0)) (bx (blk_put (cs := #[.int .i64 t663, .string t664, .string t665, .string t666, .string t667, .string ⟨#[]⟩]) (bx (blk_put (cs := #[.int .i64 t663, .string t664, .string t665, .string t666, .string ⟨#[]⟩, .string ⟨#[]⟩]) (bx (blk_put (cs := #[.int .i64 t663, .string t664, .string t665, .string ⟨#[]⟩, .string ⟨#[]⟩, .string ⟨#[]⟩]) (bx (blk_put (cs := #[.int .i64 t663, .string t664, .string ⟨#[]⟩, .string ⟨#[]⟩, .string ⟨#[]⟩, .string ⟨#[]⟩]) (bx (blk_put (cs := #[.int .i64 t663, .string ⟨#[]⟩, .string ⟨#[]⟩, .string ⟨#[]⟩, .string ⟨#[]⟩, .string ⟨#[]⟩]) (bx (blk_put (cs := #[.int .i64 0, .string ⟨#[]⟩, .string ⟨#[]⟩, .string ⟨#[]⟩, .string ⟨#[]⟩, .string ⟨#[]⟩]) (bx BK669.out) 0 _ rfl)) 1 _ rfl)) 2 _ rfl)) 3 _ rfl)) 4 _ rfl)) 5 _ rfl)) hb); have n3_ := ak (below_step bq hb); clear BK660; clear BK661; clear BK669; clear HB; have BK660 := n0_; have BK661 := n1_; have BK669 := n2_; have HB := n3_; clear n0_ n1_ n2_ n3_; (try clear hb); (try clear hb2); (try clear hk); (try clear hi); (try clear A5)) | ((with_reducible refine gate_dst (N := 7) rfl ?_); refine box_event ?hg (N := 7) ?hd (cs := #[.int .i64 0, .string ⟨#[]⟩, .string ⟨#[]⟩, .string ⟨#[]⟩, .string ⟨#[]⟩, .string ⟨#[]⟩]) (t := 50) ?hr ?_; (case hd => rfl); (case hg => rfl); (case hr => first | (go_simp; done) | (go_simp; rfl)); intro gb676 hg w22 hbox hb; have n0_ := ak (blk_below (g := gb660) (bx BK660.out) hb); have n1_ := ak (blk_below (g := gb661) (bx BK661.out) hb); have n2_ := ak (blk_below (g := gb669) (bx BK669.out) hb); have n3_ := ak (below_step bq hb); have n4_ := ak (hbox); have n5_ := ak ((by rw [hg]; exact (below_size bq) : w.heap.size ≤ gb676)); have n6_ := ak ((by rw [hg]; exact (below_size bq) : w.heap.size ≤ gb676)); have n7_ := ak ((by rw [hg]; exact Nat.ne_of_lt (blk_lt (g := gb660) (bx BK660.out)) : gb660 ≠ gb676)); have n8_ := ak ((by rw [hg]; exact Nat.ne_of_gt (blk_lt (g := gb660) (bx BK660.out)) : gb676 ≠ gb660)); have n9_ := ak ((by rw [hg]; exact Nat.ne_of_lt (blk_lt (g := gb661) (bx BK661.out)) : gb661 ≠ gb676)); have n10_ := ak ((by rw [hg]; exact Nat.ne_of_gt (blk_lt (g := gb661) (bx BK661.out)) : gb676 ≠ gb661)); have n11_ := ak ((by rw [hg]; exact Nat.ne_of_lt (blk_lt (g := gb669) (bx BK669.out)) : gb669 ≠ gb676)); have n12_ := ak ((by rw [hg]; exact Nat.ne_of_gt (blk_lt (g := gb669) (bx BK669.out)) : gb676 ≠ gb669)); clear BK660; clear BK661; clear BK669; clear HB; have BK660 := n0_; have BK661 := n1_; have BK669 := n2_; have HB := n3_; have BK676 := n4_; have GW676 := n5_; have GE676 := n6_; have NB660_676 := n7_; have NB676_660 := n8_; have NB661_676 := n9_; have NB676_661 := n10_; have NB669_676 := n11_; have NB676_669 := n12_; clear n0_ n1_ n2_ n3_ n4_ n5_ n6_ n7_ n8_ n9_ n10_ n11_ n12_; clear hb hbox hg; have hnb23 := NB676_660.out; have hnc23 := NB660_676.out; have hnb24 := NB676_661.out; have hnc24 := NB661_676.out; have hnb25 := NB676_669.out; have hnc25 := NB669_676.out; obtain ⟨hcz26_0, hcz26_1, hcz26_2, hcz26_3, hcz26_4, hcz26_5⟩ := cz6 BK676.out; obtain ⟨hfz26_0, hfz26_1, hfz26_2, hfz26_3, hfz26_4, hfz26_5⟩ := fz6 BK676.out; obtain ⟨hcz27_0, hcz27_1, hcz27_2, hcz27_3, hcz27_4, hcz27_5⟩ := cz6 BK669.out; obtain ⟨hfz27_0, hfz27_1, hfz27_2, hfz27_3, hfz27_4, hfz27_5⟩ := fz6 BK669.out) | ((with_reducible refine gate_callee (f := 40) rfl ?_); refine goesL_ (some 24) rfl rfl Tryd.func40 (by kernel_rfl) rfl #[.agg #[.int .i64 t663, .string t664, .string t665, .string t666, .string t667, .string t668], .agg #[.int .i64 t670, .string t671, .string t672, .string t673, .string t674, .string t675]] rfl mq ?_; (with_reducible refine (alias_Compare.calls k t663 t664 t665 t666 t667 t668 t670 t671 t672 t673 t674 t675 t677 _ A6.out).mono ?_); rintro e w28 ⟨rfl, hb⟩; refine ⟨_, rfl, ?_⟩; have n0_ := ak (blk_below (g := gb660) (o := .cells #[.int .i64 a0_0, .int .i64 a0_1, .int .i64 a0_2, .int .i64 a0_3, .int .i64 a0_4, .int .i64 a0_5, .int .i64 a0_6, .int .i64 a0_7, .int .i64 a0_8, .int .i64 a0_9, .int .i64 a0_10, .int .i64 a0_11, .int .i64 a0_12, .int .i64 a0_13] 63 (0, 0)) (bx (blk_far (bx (blk_far (bx (blk_far (bx (blk_far (bx (blk_far (bx (blk_far (bx BK660.out) NB660_676.out _)) NB660_676.out _)) NB660_676.out _)) NB660_676.out _)) NB660_676.out _)) NB660_676.out _)) hb); have n1_ := ak (blk_below (g := gb661) (o := .cells #[.int .i64 a1_0, .string a1_1, .string a1_2, .string a1_3, .string a1_4, .string a1_5, .int .i64 a1_6, .string a1_7, .string a1_8, .string a1_9, .string a1_10, .string a1_11] 64 (0, 0)) (bx (blk_far (bx (blk_far (bx (blk_far (bx (blk_far (bx (blk_far (bx (blk_far (bx BK661.out) NB661_676.out _)) NB661_676.out _)) NB661_676.out _)) NB661_676.out _)) NB661_676.out _)) NB661_676.out _)) hb); have n2_ := ak (blk_below (g := gb669) (o := .cells #[.int .i64 t663, .string t664, .string t665, .string t666, .string t667, .string t668] 50 (0, 0)) (bx (blk_far (bx (blk_far (bx (blk_far (bx (blk_far (bx (blk_far (bx (blk_far (bx BK669.out) NB669_676.out _)) NB669_676.out _)) NB669_676.out _)) NB669_676.out _)) NB669_676.out _)) NB669_676.out _)) hb); have n3_ := ak (blk_below (g := gb676) (o := .cells #[.int .i64 t670, .string t671, .string t672, .string t673, .string t674, .string t675] 50 (0, 0)) (bx (blk_put (cs := #[.int .i64 t670, .string t671, .string t672, .string t673, .string t674, .string ⟨#[]⟩]) (bx (blk_put (cs := #[.int .i64 t670, .string t671, .string t672, .string t673, .string ⟨#[]⟩, .string ⟨#[]⟩]) (bx (blk_put (cs := #[.int .i64 t670, .string t671, .string t672, .string ⟨#[]⟩, .string ⟨#[]⟩, .string ⟨#[]⟩]) (bx (blk_put (cs := #[.int .i64 t670, .string t671, .string ⟨#[]⟩, .string ⟨#[]⟩, .string ⟨#[]⟩, .string ⟨#[]⟩]) (bx (blk_put (cs := #[.int .i64 t670, .string ⟨#[]⟩, .string ⟨#[]⟩, .string ⟨#[]⟩, .string ⟨#[]⟩, .string ⟨#[]⟩]) (bx (blk_put (cs := #[.int .i64 0, .string ⟨#[]⟩, .string ⟨#[]⟩, .string ⟨#[]⟩, .string ⟨#[]⟩, .string ⟨#[]⟩]) (bx BK676.out) 0 _ rfl)) 1 _ rfl)) 2 _ rfl)) 3 _ rfl)) 4 _ rfl)) 5 _ rfl)) hb); have n4_ := ak (below_step bq hb); clear BK660; clear BK661; clear BK669; clear BK676; clear HB; have BK660 := n0_; have BK661 := n1_; have BK669 := n2_; have BK676 := n3_; have HB := n4_; clear n0_ n1_ n2_ n3_ n4_; (try clear hb); (try clear hb2); (try clear hk); (try clear hi); obtain ⟨hcz29_0, hcz29_1, hcz29_2, hcz29_3, hcz29_4, hcz29_5⟩ := cz6 BK669.out; obtain ⟨hfz29_0, hfz29_1, hfz29_2, hfz29_3, hfz29_4, hfz29_5⟩ := fz6 BK669.out; (try clear A6)) | ((with_reducible refine gate_callee (f := 36) rfl ?_); refine goesL_ (some 27) rfl rfl Tryd.func36 (by kernel_rfl) rfl #[.agg #[.int .i64 t663, .string t664, .string t665, .string t666, .string t667, .string t668]] rfl mq ?_; (with_reducible refine (alias_Encode.calls k t663 t664 t665 t666 t667 t668 t678 t679 _ A7.out HG.out.on).mono ?_); rintro e w30 ⟨rfl, hb⟩; refine ⟨_, rfl, ?_⟩; have n0_ := ak (blk_below (g := gb660) (bx BK660.out) hb); have n1_ := ak (blk_below (g := gb661) (bx BK661.out) hb); have n2_ := ak (blk_below (g := gb669) (bx BK669.out) hb); have n3_ := ak (blk_below (g := gb676) (bx BK676.out) hb); have n4_ := ak (below_step bq hb); clear BK660; clear BK661; clear BK669; clear BK676; clear HB; have BK660 := n0_; have BK661 := n1_; have BK669 := n2_; have BK676 := n3_; have HB := n4_; clear n0_ n1_ n2_ n3_ n4_; (try clear hb); (try clear hb2); (try clear hk); (try clear hi); obtain ⟨hcz31_0, hcz31_1, hcz31_2, hcz31_3, hcz31_4, hcz31_5⟩ := cz6 BK676.out; obtain ⟨hfz31_0, hfz31_1, hfz31_2, hfz31_3, hfz31_4, hfz31_5⟩ := fz6 BK676.out; (try clear A7)) | ((with_reducible refine gate_callee (f := 36) rfl ?_); refine goesL_ (some 32) rfl rfl Tryd.func36 (by kernel_rfl) rfl #[.agg #[.int .i64 t670, .string t671, .string t672, .string t673, .string t674, .string t675]] rfl mq ?_; (with_reducible refine (alias_Encode.calls k t670 t671 t672 t673 t674 t675 t680 t681 _ A8.out HG.out.on).mono ?_); rintro e w32 ⟨rfl, hb⟩; refine ⟨_, rfl, ?_⟩; have n0_ := ak (blk_below (g := gb660) (bx BK660.out) hb); have n1_ := ak (blk_below (g := gb661) (bx BK661.out) hb); have n2_ := ak (blk_below (g := gb669) (bx BK669.out) hb); have n3_ := ak (blk_below (g := gb676) (bx BK676.out) hb); have n4_ := ak (below_step bq hb); clear BK660; clear BK661; clear BK669; clear BK676; clear HB; have BK660 := n0_; have BK661 := n1_; have BK669 := n2_; have BK676 := n3_; have HB := n4_; clear n0_ n1_ n2_ n3_ n4_; (try clear hb); (try clear hb2); (try clear hk); (try clear hi); (try clear A8)))
 (try simp only [Act.put, pA, pB, pC])
 go_cut [58] (fun v58 wc => ∃ (kq : Nat) (x58_8 : Bool), v58 = .bool x58_8 ∧ Aside0 (isoglosslaw12_AliasOrders.j0 kq t662 t677 x58_8 a1_0 a1_1 a1_2 a1_3 a1_4 a1_5 a1_6 a1_7 a1_8 a1_9 a1_10 a1_11 t663 t664 t665 t666 t667 t668 t670 t671 t672 t673 t674 t675 = some r) ∧ Aside0 (kq ≤ k) ∧ Aside0 (wc.heap[gb660]? = some (.cells #[.int .i64 a0_0, .int .i64 a0_1, .int .i64 a0_2, .int .i64 a0_3, .int .i64 a0_4, .int .i64 a0_5, .int .i64 a0_6, .int .i64 a0_7, .int .i64 a0_8, .int .i64 a0_9, .int .i64 a0_10, .int .i64 a0_11, .int .i64 a0_12, .int .i64 a0_13] 63 (0, 0))) ∧ Aside0 (wc.heap[gb661]? = some (.cells #[.int .i64 a1_0, .string a1_1, .string a1_2, .string a1_3, .string a1_4, .string a1_5, .int .i64 a1_6, .string a1_7, .string a1_8, .string a1_9, .string a1_10, .string a1_11] 64 (0, 0))) ∧ Aside0 (wc.heap[gb669]? = some (.cells #[.int .i64 t663, .string t664, .string t665, .string t666, .string t667, .string t668] 50 (0, 0))) ∧ Aside0 (wc.heap[gb676]? = some (.cells #[.int .i64 t670, .string t671, .string t672, .string t673, .string t674, .string t675] 50 (0, 0))) ∧ Aside0 (Below w.heap.size w wc))
 case first =>
  have H := HC9.out
  clear HC9
  by_cases c33 : t679 = true
  ·
   subst c33
   have H1 : (if t681 = true then (if 0 ≤ 17 then (if 17 ≤ (t678.size : Int) then (if 17 ≤ (t680.size : Int) then (if ((decide (t677 < 0)) != (Op.bytesLess ((t678.extract 0 17).toList) ((t680.extract 0 17).toList))) = true then (isoglosslaw12_AliasOrders.j0 k t662 t677 true a1_0 a1_1 a1_2 a1_3 a1_4 a1_5 a1_6 a1_7 a1_8 a1_9 a1_10 a1_11 t663 t664 t665 t666 t667 t668 t670 t671 t672 t673 t674 t675) else (isoglosslaw12_AliasOrders.j0 k t662 t677 ((t677 == 0) != ((t678.extract 0 17).toList == (t680.extract 0 17).toList)) a1_0 a1_1 a1_2 a1_3 a1_4 a1_5 a1_6 a1_7 a1_8 a1_9 a1_10 a1_11 t663 t664 t665 t666 t667 t668 t670 t671 t672 t673 t674 t675)) else (none)) else (none)) else (none)) else (isoglosslaw12_AliasOrders.j0 k t662 t677 false a1_0 a1_1 a1_2 a1_3 a1_4 a1_5 a1_6 a1_7 a1_8 a1_9 a1_10 a1_11 t663 t664 t665 t666 t667 t668 t670 t671 t672 t673 t674 t675)) = some r := by rw [if_pos rfl] at H; exact H
   clear H
   have H := H1
   clear H1
   by_cases c34 : t681 = true
   ·
    subst c34
    have H1 : (if 0 ≤ 17 then (if 17 ≤ (t678.size : Int) then (if 17 ≤ (t680.size : Int) then (if ((decide (t677 < 0)) != (Op.bytesLess ((t678.extract 0 17).toList) ((t680.extract 0 17).toList))) = true then (isoglosslaw12_AliasOrders.j0 k t662 t677 true a1_0 a1_1 a1_2 a1_3 a1_4 a1_5 a1_6 a1_7 a1_8 a1_9 a1_10 a1_11 t663 t664 t665 t666 t667 t668 t670 t671 t672 t673 t674 t675) else (isoglosslaw12_AliasOrders.j0 k t662 t677 ((t677 == 0) != ((t678.extract 0 17).toList == (t680.extract 0 17).toList)) a1_0 a1_1 a1_2 a1_3 a1_4 a1_5 a1_6 a1_7 a1_8 a1_9 a1_10 a1_11 t663 t664 t665 t666 t667 t668 t670 t671 t672 t673 t674 t675)) else (none)) else (none)) else (none)) = some r := by rw [if_pos rfl] at H; exact H
    clear H
    have H := H1
    clear H1
    by_cases c35 : 0 ≤ 17
    ·
     rw [if_pos c35] at H
     have c35b0 := eq_true c35
     have c35b1 : decide (0 ≤ 17) = true := decide_eq_true c35
     clear c35
     by_cases c36 : 17 ≤ (t678.size : Int)
     ·
      rw [if_pos c36] at H
      have c36b0 := eq_true c36
      have c36b1 : decide (17 ≤ (t678.size : Int)) = true := decide_eq_true c36
      clear c36
      have c37b0 := eq_true (of_decide_eq_true (by first | (with_reducible assumption) | assumption) : 0 ≤ 17)
      by_cases c38 : 17 ≤ (t680.size : Int)
      ·
       rw [if_pos c38] at H
       have c38b0 := eq_true c38
       have c38b1 : decide (17 ≤ (t680.size : Int)) = true := decide_eq_true c38
       clear c38
       by_cases c39 : ((decide (t677 < 0)) != (Op.bytesLess ((t678.extract 0 17).toList) ((t680.extract 0 17).toList))) = true
       ·
        rw [if_pos c39] at H
        have c39b0 : ((decide (t677 < 0)) != (Op.bytesLess ((t678.extract 0 17).toList) ((t680.extract 0 17).toList))) = true := c39
        (try (have c39b1 : decide ((decide (t677 < 0)) = (Op.bytesLess ((t678.extract 0 17).toList) ((t680.extract 0 17).toList))) = false := by simpa using c39))
        (try (have c39b2 : ((decide (t677 < 0)) == (Op.bytesLess ((t678.extract 0 17).toList) ((t680.extract 0 17).toList))) = false := by simpa using c39))
        (try (have c39b3 : ¬ ((decide (t677 < 0)) = (Op.bytesLess ((t678.extract 0 17).toList) ((t680.extract 0 17).toList))) := by simpa using c39))
        clear c39
        (first | rw [c39b0] | (simp only [i64_w, i32_w]; rw [c39b0]) | rw [c39b2] | skip)
        have H' := ak H
        clear H
        try go_wp2
        have n0_ := ak (blk_drew BK660.out)
        have n1_ := ak (blk_drew BK661.out)
        have n2_ := ak (blk_drew BK669.out)
        have n3_ := ak (blk_drew BK676.out)
        have n4_ := ak (below_drew1 HB.out)
        clear BK660
        clear BK661
        clear BK669
        clear BK676
        clear HB
        have BK660 := n0_
        have BK661 := n1_
        have BK669 := n2_
        have BK676 := n3_
        have HB := n4_
        clear n0_ n1_ n2_ n3_ n4_
        refine start_ (n := 24) (S := fun w' => True) (ds := []) #[false, false, false, false, false, false, false, false, false, false, false, false, false, false, false, false, false, false, false, false, false, false, false, false] (by kernel_rfl) rfl rfl trivial (fun hHeld => ?_); refine with_tabW isoglosslaw12_AliasOrders.tab7 isoglosslaw12_AliasOrders.bits7 (fun HT_ HW_ => ?_)
        generalize w32.drew = w40 at BK660 BK661 BK669 BK676 HB hHeld ⊢
        refine pu 0 (some 35) (M 24 1) ?_
        refine pu 1 (some 36) (M 24 3) ?_
        refine pu 2 (some 37) (M 24 7) ?_
        refine pu 3 (some 38) (M 24 15) ?_
        refine pu 4 (some 39) (M 24 31) ?_
        refine pu 5 (some 40) (M 24 63) ?_
        refine pu 6 (some 41) (M 24 127) ?_
        refine pu 7 (some 42) (M 24 255) ?_
        refine pu 8 (some 43) (M 24 511) ?_
        refine pu 9 (some 44) (M 24 1023) ?_
        refine pu 10 (some 45) (M 24 2047) ?_
        refine pu 11 (some 46) (M 24 4095) ?_
        refine pu 12 (some 47) (M 24 8191) ?_
        refine pu 13 (some 48) (M 24 16383) ?_
        refine pn 14 (some 49) (M 24 32767) ?_
        refine pn 15 (some 50) (M 24 65535) ?_
        refine pn 16 (some 51) (M 24 131071) ?_
        refine pn 17 (some 52) (M 24 262143) ?_
        refine pn 18 (some 53) (M 24 524287) ?_
        refine pn 19 (some 54) (M 24 1048575) ?_
        refine pn 20 (some 55) (M 24 2097151) ?_
        refine pn 21 (some 56) (M 24 4194303) ?_
        refine pu 22 (some 57) (M 24 8388607) ?_
        refine pu 23 (some 58) (M 24 16777215) ?_
        refine done_ (done_of HT_.out (by kernel_rfl)) ?_
        try go_wp2
        go_meet
        case rel => exact ⟨_, (true), (by first | rfl | (simp; done) | (simp [*]; done)), H', ⟨by first | omega | exact Nat.le_refl _⟩, ⟨(bx BK660.out)⟩, ⟨(bx BK661.out)⟩, ⟨(bx BK669.out)⟩, ⟨(bx BK676.out)⟩, ⟨bq⟩⟩
       ·
        rw [if_neg c39] at H
        have c39b0 : ((decide (t677 < 0)) != (Op.bytesLess ((t678.extract 0 17).toList) ((t680.extract 0 17).toList))) = false := by simpa using c39
        (try (have c39b1 : decide ((decide (t677 < 0)) = (Op.bytesLess ((t678.extract 0 17).toList) ((t680.extract 0 17).toList))) = true := by simpa using c39))
        (try (have c39b2 : ((decide (t677 < 0)) == (Op.bytesLess ((t678.extract 0 17).toList) ((t680.extract 0 17).toList))) = true := by simpa using c39))
        clear c39
        (first | rw [c39b0] | (simp only [i64_w, i32_w]; rw [c39b0]) | rw [c39b2] | skip)
        have c41b0 := eq_true (of_decide_eq_true (by first | (with_reducible assumption) | assumption) : 0 ≤ 17)
        have c42b0 := eq_true (of_decide_eq_true (by first | (with_reducible assumption) | assumption) : 17 ≤ (t678.size : Int))
        have c43b0 := eq_true (of_decide_eq_true (by first | (with_reducible assumption) | assumption) : 0 ≤ 17)
        have c44b0 := eq_true (of_decide_eq_true (by first | (with_reducible assumption) | assumption) : 17 ≤ (t680.size : Int))
        have H' := ak H
        clear H
        try go_wp2
        have n0_ := ak (blk_drew BK660.out)
        have n1_ := ak (blk_drew BK661.out)
        have n2_ := ak (blk_drew BK669.out)
        have n3_ := ak (blk_drew BK676.out)
        have n4_ := ak (below_drew1 HB.out)
        clear BK660
        clear BK661
        clear BK669
        clear BK676
        clear HB
        have BK660 := n0_
        have BK661 := n1_
        have BK669 := n2_
        have BK676 := n3_
        have HB := n4_
        clear n0_ n1_ n2_ n3_ n4_
        refine start_ (n := 24) (S := fun w' => True) (ds := []) #[false, false, false, false, false, false, false, false, false, false, false, false, false, false, false, false, false, false, false, false, false, false, false, false] (by kernel_rfl) rfl rfl trivial (fun hHeld => ?_); refine with_tabW isoglosslaw12_AliasOrders.tab7 isoglosslaw12_AliasOrders.bits7 (fun HT_ HW_ => ?_)
        generalize w32.drew = w45 at BK660 BK661 BK669 BK676 HB hHeld ⊢
        refine pu 0 (some 35) (M 24 1) ?_
        refine pu 1 (some 36) (M 24 3) ?_
        refine pu 2 (some 37) (M 24 7) ?_
        refine pu 3 (some 38) (M 24 15) ?_
        refine pu 4 (some 39) (M 24 31) ?_
        refine pu 5 (some 40) (M 24 63) ?_
        refine pu 6 (some 41) (M 24 127) ?_
        refine pu 7 (some 42) (M 24 255) ?_
        refine pu 8 (some 43) (M 24 511) ?_
        refine pu 9 (some 44) (M 24 1023) ?_
        refine pu 10 (some 45) (M 24 2047) ?_
        refine pu 11 (some 46) (M 24 4095) ?_
        refine pu 12 (some 47) (M 24 8191) ?_
        refine pu 13 (some 48) (M 24 16383) ?_
        refine pu 14 (some 49) (M 24 32767) ?_
        refine pu 15 (some 50) (M 24 65535) ?_
        refine pu 16 (some 51) (M 24 131071) ?_
        refine pu 17 (some 52) (M 24 262143) ?_
        refine pu 18 (some 53) (M 24 524287) ?_
        refine pu 19 (some 54) (M 24 1048575) ?_
        refine pu 20 (some 55) (M 24 2097151) ?_
        refine pu 21 (some 56) (M 24 4194303) ?_
        refine pu 22 (some 57) (M 24 8388607) ?_
        refine pu 23 (some 58) (M 24 16777215) ?_
        refine done_ (done_of HT_.out (by kernel_rfl)) ?_
        try go_wp2
        go_meet
        case rel => exact ⟨_, (((t677 == 0) != ((t678.extract 0 17).toList == (t680.extract 0 17).toList))), (by first | rfl | (simp; done) | (simp [*]; done)), H', ⟨by first | omega | exact Nat.le_refl _⟩, ⟨(bx BK660.out)⟩, ⟨(bx BK661.out)⟩, ⟨(bx BK669.out)⟩, ⟨(bx BK676.out)⟩, ⟨bq⟩⟩
      ·
       rw [if_neg c38] at H
       exact absurd H (by simp)
     ·
      rw [if_neg c36] at H
      exact absurd H (by simp)
    ·
     rw [if_neg c35] at H
     exact absurd H (by simp)
   ·
    replace c34 := Bool.eq_false_iff.mpr c34
    subst c34
    have H1 : (isoglosslaw12_AliasOrders.j0 k t662 t677 false a1_0 a1_1 a1_2 a1_3 a1_4 a1_5 a1_6 a1_7 a1_8 a1_9 a1_10 a1_11 t663 t664 t665 t666 t667 t668 t670 t671 t672 t673 t674 t675) = some r := by rw [if_neg (show ¬ (false = true) by decide)] at H; exact H
    clear H
    have H := H1
    clear H1
    have H' := ak H
    clear H
    try go_wp2
    have n0_ := ak (blk_drew BK660.out)
    have n1_ := ak (blk_drew BK661.out)
    have n2_ := ak (blk_drew BK669.out)
    have n3_ := ak (blk_drew BK676.out)
    have n4_ := ak (below_drew1 HB.out)
    clear BK660
    clear BK661
    clear BK669
    clear BK676
    clear HB
    have BK660 := n0_
    have BK661 := n1_
    have BK669 := n2_
    have BK676 := n3_
    have HB := n4_
    clear n0_ n1_ n2_ n3_ n4_
    refine start_ (n := 24) (S := fun w' => True) (ds := []) #[false, false, false, false, false, false, false, false, false, false, false, false, false, false, false, false, false, false, false, false, false, false, false, false] (by kernel_rfl) rfl rfl trivial (fun hHeld => ?_); refine with_tabW isoglosslaw12_AliasOrders.tab7 isoglosslaw12_AliasOrders.bits7 (fun HT_ HW_ => ?_)
    generalize w32.drew = w46 at BK660 BK661 BK669 BK676 HB hHeld ⊢
    refine pu 0 (some 35) (M 24 1) ?_
    refine pu 1 (some 36) (M 24 3) ?_
    refine pu 2 (some 37) (M 24 7) ?_
    refine pu 3 (some 38) (M 24 15) ?_
    refine pu 4 (some 39) (M 24 31) ?_
    refine pn 5 (some 40) (M 24 63) ?_
    refine pn 6 (some 41) (M 24 127) ?_
    refine pn 7 (some 42) (M 24 255) ?_
    refine pn 8 (some 43) (M 24 511) ?_
    refine pn 9 (some 44) (M 24 1023) ?_
    refine pn 10 (some 45) (M 24 2047) ?_
    refine pn 11 (some 46) (M 24 4095) ?_
    refine pn 12 (some 47) (M 24 8191) ?_
    refine pn 13 (some 48) (M 24 16383) ?_
    refine pn 14 (some 49) (M 24 32767) ?_
    refine pn 15 (some 50) (M 24 65535) ?_
    refine pn 16 (some 51) (M 24 131071) ?_
    refine pn 17 (some 52) (M 24 262143) ?_
    refine pn 18 (some 53) (M 24 524287) ?_
    refine pn 19 (some 54) (M 24 1048575) ?_
    refine pn 20 (some 55) (M 24 2097151) ?_
    refine pn 21 (some 56) (M 24 4194303) ?_
    refine pn 22 (some 57) (M 24 8388607) ?_
    refine pu 23 (some 58) (M 24 16777215) ?_
    refine done_ (done_of HT_.out (by kernel_rfl)) ?_
    try go_wp2
    go_meet
    case rel => exact ⟨_, (false), (by first | rfl | (simp; done) | (simp [*]; done)), H', ⟨by first | omega | exact Nat.le_refl _⟩, ⟨(bx BK660.out)⟩, ⟨(bx BK661.out)⟩, ⟨(bx BK669.out)⟩, ⟨(bx BK676.out)⟩, ⟨bq⟩⟩
  ·
   replace c33 := Bool.eq_false_iff.mpr c33
   subst c33
   have H1 : (isoglosslaw12_AliasOrders.j0 k t662 t677 false a1_0 a1_1 a1_2 a1_3 a1_4 a1_5 a1_6 a1_7 a1_8 a1_9 a1_10 a1_11 t663 t664 t665 t666 t667 t668 t670 t671 t672 t673 t674 t675) = some r := by rw [if_neg (show ¬ (false = true) by decide)] at H; exact H
   clear H
   have H := H1
   clear H1
   have H' := ak H
   clear H
   try go_wp2
   have n0_ := ak (blk_drew BK660.out)
   have n1_ := ak (blk_drew BK661.out)
   have n2_ := ak (blk_drew BK669.out)
   have n3_ := ak (blk_drew BK676.out)
   have n4_ := ak (below_drew1 HB.out)
   clear BK660
   clear BK661
   clear BK669
   clear BK676
   clear HB
   have BK660 := n0_
   have BK661 := n1_
   have BK669 := n2_
   have BK676 := n3_
   have HB := n4_
   clear n0_ n1_ n2_ n3_ n4_
   refine start_ (n := 24) (S := fun w' => True) (ds := []) #[false, false, false, false, false, false, false, false, false, false, false, false, false, false, false, false, false, false, false, false, false, false, false, false] (by kernel_rfl) rfl rfl trivial (fun hHeld => ?_); refine with_tabW isoglosslaw12_AliasOrders.tab7 isoglosslaw12_AliasOrders.bits7 (fun HT_ HW_ => ?_)
   generalize w32.drew = w47 at BK660 BK661 BK669 BK676 HB hHeld ⊢
   refine pu 0 (some 35) (M 24 1) ?_
   refine pu 1 (some 36) (M 24 3) ?_
   refine pn 2 (some 37) (M 24 7) ?_
   refine pu 3 (some 38) (M 24 15) ?_
   refine pu 4 (some 39) (M 24 31) ?_
   refine pn 5 (some 40) (M 24 63) ?_
   refine pn 6 (some 41) (M 24 127) ?_
   refine pn 7 (some 42) (M 24 255) ?_
   refine pn 8 (some 43) (M 24 511) ?_
   refine pn 9 (some 44) (M 24 1023) ?_
   refine pn 10 (some 45) (M 24 2047) ?_
   refine pn 11 (some 46) (M 24 4095) ?_
   refine pn 12 (some 47) (M 24 8191) ?_
   refine pn 13 (some 48) (M 24 16383) ?_
   refine pn 14 (some 49) (M 24 32767) ?_
   refine pn 15 (some 50) (M 24 65535) ?_
   refine pn 16 (some 51) (M 24 131071) ?_
   refine pn 17 (some 52) (M 24 262143) ?_
   refine pn 18 (some 53) (M 24 524287) ?_
   refine pn 19 (some 54) (M 24 1048575) ?_
   refine pn 20 (some 55) (M 24 2097151) ?_
   refine pn 21 (some 56) (M 24 4194303) ?_
   refine pn 22 (some 57) (M 24 8388607) ?_
   refine pu 23 (some 58) (M 24 16777215) ?_
   refine done_ (done_of HT_.out (by kernel_rfl)) ?_
   try go_wp2
   go_meet
   case rel => exact ⟨_, (false), (by first | rfl | (simp; done) | (simp [*]; done)), H', ⟨by first | omega | exact Nat.le_refl _⟩, ⟨(bx BK660.out)⟩, ⟨(bx BK661.out)⟩, ⟨(bx BK669.out)⟩, ⟨(bx BK676.out)⟩, ⟨bq⟩⟩
 case rest =>
  clear HC9
  try clear p2
  try clear c3
  try clear c4
  try clear c33
  try clear c34
  try clear c35
  try clear c36
  try clear c38
  try clear c39
  try clear c39b0
  try clear c39b1
  try clear c39b2
  try clear c41
  try clear c41b0
  try clear c42
  try clear c42b0
  try clear c43
  try clear c43b0
  try clear c44
  try clear c44b0
  obtain ⟨kq, x58_8, rfl, HA, HJ8, BK660, BK661, BK669, BK676, HB⟩ := hcut
  cases kq with
  | zero => exact absurd HA.out (by simp [isoglosslaw12_AliasOrders.j0])
  | succ kj8 =>
   have H := HA.out
   clear HA
   simp only [isoglosslaw12_AliasOrders.j0] at H
   by_cases c48 : x58_8 = true
   ·
    subst c48
    have H1 : (some false) = some r := by rw [if_pos rfl] at H; exact H
    clear H
    have H := H1
    clear H1
    obtain rfl := Option.some.inj H
    go_wp2
    go_ret
    exact ⟨by first | rfl | (simp [errW_none, errW_some] <;> rfl) | (simp [*, errW_none, errW_some] <;> rfl), bq⟩
   ·
    replace c48 := Bool.eq_false_iff.mpr c48
    subst c48
    have H1 : ((isoglosslaw12_few.f a1_0 a1_1 a1_2 a1_3 a1_4 a1_5).bind fun bt682 => ((isoglosslaw12_few.f a1_6 a1_7 a1_8 a1_9 a1_10 a1_11).bind fun bt689 => (if t662 = true then ((isoglossref12_Compare.f t663 t664 t665 t666 t667 t668 t670 t671 t672 t673 t674 t675).bind fun t696 => (if t677 = t696 then ((alias_Compare.f kj8 t670 t671 t672 t673 t674 t675 t663 t664 t665 t666 t667 t668).bind fun t697 => (if t697 = (wrap64 (-t677)) then ((alias_Compare.f kj8 bt682.1 bt682.2.1 bt682.2.2.1 bt682.2.2.2.1 bt682.2.2.2.2.1 bt682.2.2.2.2.2 bt689.1 bt689.2.1 bt689.2.2.1 bt689.2.2.2.1 bt689.2.2.2.2.1 bt689.2.2.2.2.2).bind fun t698 => ((isoglossref12_Compare.f bt682.1 bt682.2.1 bt682.2.2.1 bt682.2.2.2.1 bt682.2.2.2.2.1 bt682.2.2.2.2.2 bt689.1 bt689.2.1 bt689.2.2.1 bt689.2.2.2.1 bt689.2.2.2.2.1 bt689.2.2.2.2.2).bind fun t699 => (if t698 = t699 then ((alias_Compare.f kj8 bt682.1 bt682.2.1 bt682.2.2.1 bt682.2.2.2.1 bt682.2.2.2.2.1 bt682.2.2.2.2.2 bt682.1 bt682.2.1 bt682.2.2.1 bt682.2.2.2.1 bt682.2.2.2.2.1 bt682.2.2.2.2.2).bind fun t700 => (some (t700 == 0))) else (some false)))) else (some false))) else (some false))) else (some false)))) = some r := by rw [if_neg (show ¬ (false = true) by decide)] at H; exact H
    clear H
    have H := H1
    clear H1
    replace H := Option.bind_eq_some_iff.mp H
    obtain ⟨⟨t682, t683, t684, t685, t686, t687⟩, A490, H⟩ := H
    replace H : ((isoglosslaw12_few.f a1_6 a1_7 a1_8 a1_9 a1_10 a1_11).bind fun bt689 => (if t662 = true then ((isoglossref12_Compare.f t663 t664 t665 t666 t667 t668 t670 t671 t672 t673 t674 t675).bind fun t696 => (if t677 = t696 then ((alias_Compare.f kj8 t670 t671 t672 t673 t674 t675 t663 t664 t665 t666 t667 t668).bind fun t697 => (if t697 = (wrap64 (-t677)) then ((alias_Compare.f kj8 t682 t683 t684 t685 t686 t687 bt689.1 bt689.2.1 bt689.2.2.1 bt689.2.2.2.1 bt689.2.2.2.2.1 bt689.2.2.2.2.2).bind fun t698 => ((isoglossref12_Compare.f t682 t683 t684 t685 t686 t687 bt689.1 bt689.2.1 bt689.2.2.1 bt689.2.2.2.1 bt689.2.2.2.2.1 bt689.2.2.2.2.2).bind fun t699 => (if t698 = t699 then ((alias_Compare.f kj8 t682 t683 t684 t685 t686 t687 t682 t683 t684 t685 t686 t687).bind fun t700 => (some (t700 == 0))) else (some false)))) else (some false))) else (some false))) else (some false))) = some r := H
    have A49 := ak A490
    clear A490
    replace H := Option.bind_eq_some_iff.mp H
    obtain ⟨⟨t689, t690, t691, t692, t693, t694⟩, A500, H⟩ := H
    replace H : (if t662 = true then ((isoglossref12_Compare.f t663 t664 t665 t666 t667 t668 t670 t671 t672 t673 t674 t675).bind fun t696 => (if t677 = t696 then ((alias_Compare.f kj8 t670 t671 t672 t673 t674 t675 t663 t664 t665 t666 t667 t668).bind fun t697 => (if t697 = (wrap64 (-t677)) then ((alias_Compare.f kj8 t682 t683 t684 t685 t686 t687 t689 t690 t691 t692 t693 t694).bind fun t698 => ((isoglossref12_Compare.f t682 t683 t684 t685 t686 t687 t689 t690 t691 t692 t693 t694).bind fun t699 => (if t698 = t699 then ((alias_Compare.f kj8 t682 t683 t684 t685 t686 t687 t682 t683 t684 t685 t686 t687).bind fun t700 => (some (t700 == 0))) else (some false)))) else (some false))) else (some false))) else (some false)) = some r := H
    have A50 := ak A500
    clear A500
    by_cases c51 : t662 = true
    ·
     subst c51
     have H1 : ((isoglossref12_Compare.f t663 t664 t665 t666 t667 t668 t670 t671 t672 t673 t674 t675).bind fun t696 => (if t677 = t696 then ((alias_Compare.f kj8 t670 t671 t672 t673 t674 t675 t663 t664 t665 t666 t667 t668).bind fun t697 => (if t697 = (wrap64 (-t677)) then ((alias_Compare.f kj8 t682 t683 t684 t685 t686 t687 t689 t690 t691 t692 t693 t694).bind fun t698 => ((isoglossref12_Compare.f t682 t683 t684 t685 t686 t687 t689 t690 t691 t692 t693 t694).bind fun t699 => (if t698 = t699 then ((alias_Compare.f kj8 t682 t683 t684 t685 t686 t687 t682 t683 t684 t685 t686 t687).bind fun t700 => (some (t700 == 0))) else (some false)))) else (some false))) else (some false))) = some r := by rw [if_pos rfl] at H; exact H
     clear H
     have H := H1
     clear H1
     replace H := Option.bind_eq_some_iff.mp H
     obtain ⟨t696, A520, H⟩ := H
     have A52 := ak A520
     clear A520
     by_cases c53 : t677 = t696
     ·
      rw [if_pos c53] at H
      have c53b0 : (t677 == t696) = true := beq_iff_eq.mpr c53
      have c53b1 : (t677 != t696) = false := bne_eq_false_iff_eq.mpr c53
      clear c53
      replace H := Option.bind_eq_some_iff.mp H
      obtain ⟨t697, A540, H⟩ := H
      have A54 := ak A540
      clear A540
      by_cases c55 : t697 = (wrap64 (-t677))
      ·
       rw [if_pos c55] at H
       have c55b0 : (t697 == (wrap64 (-t677))) = true := beq_iff_eq.mpr c55
       have c55b1 : (t697 != (wrap64 (-t677))) = false := bne_eq_false_iff_eq.mpr c55
       clear c55
       replace H := Option.bind_eq_some_iff.mp H
       obtain ⟨t698, A560, H⟩ := H
       have A56 := ak A560
       clear A560
       replace H := Option.bind_eq_some_iff.mp H
       obtain ⟨t699, A570, H⟩ := H
       have A57 := ak A570
       clear A570
       by_cases c58 : t698 = t699
       ·
        rw [if_pos c58] at H
        have c58b0 : (t698 == t699) = true := beq_iff_eq.mpr c58
        have c58b1 : (t698 != t699) = false := bne_eq_false_iff_eq.mpr c58
        clear c58
        replace H := Option.bind_eq_some_iff.mp H
        obtain ⟨t700, A590, H⟩ := H
        have A59 := ak A590
        clear A590
        obtain rfl := Option.some.inj H
        have hnb60 := NB661_660.out
        have hnc60 := NB660_661.out
        have hnb61 := NB661_669.out
        have hnc61 := NB669_661.out
        have hnb62 := NB661_676.out
        have hnc62 := NB676_661.out
        obtain ⟨hcz63_0, hcz63_1, hcz63_2, hcz63_3, hcz63_4, hcz63_5, hcz63_6, hcz63_7, hcz63_8, hcz63_9, hcz63_10, hcz63_11⟩ := cz12 BK661.out
        obtain ⟨hfz63_0, hfz63_1, hfz63_2, hfz63_3, hfz63_4, hfz63_5, hfz63_6, hfz63_7, hfz63_8, hfz63_9, hfz63_10, hfz63_11⟩ := fz12 BK661.out
        try go_wp2_with (first | ((with_reducible refine gate_callee (f := 31) rfl ?_); refine goesL_ (some 61) rfl rfl Tryd.func31 (by kernel_rfl) rfl #[.agg #[.int .i64 a1_0, .string a1_1, .string a1_2, .string a1_3, .string a1_4, .string a1_5]] rfl mq ?_; (with_reducible refine (isoglosslaw12_few.calls a1_0 a1_1 a1_2 a1_3 a1_4 a1_5 t682 t683 t684 t685 t686 t687 _ A49.out).mono ?_); rintro e w64 ⟨rfl, hb⟩; refine ⟨_, rfl, ?_⟩; have n0_ := ak (blk_below (g := gb660) (bx BK660.out) hb); have n1_ := ak (blk_below (g := gb661) (bx BK661.out) hb); have n2_ := ak (blk_below (g := gb669) (bx BK669.out) hb); have n3_ := ak (blk_below (g := gb676) (bx BK676.out) hb); have n4_ := ak (below_step bq hb); clear BK660; clear BK661; clear BK669; clear BK676; clear HB; have BK660 := n0_; have BK661 := n1_; have BK669 := n2_; have BK676 := n3_; have HB := n4_; clear n0_ n1_ n2_ n3_ n4_; (try clear hb); (try clear hb2); (try clear hk); (try clear hi); (try clear A49)) | ((with_reducible refine gate_dst (N := 13) rfl ?_); refine box_event ?hg (N := 13) ?hd (cs := #[.int .i64 0, .string ⟨#[]⟩, .string ⟨#[]⟩, .string ⟨#[]⟩, .string ⟨#[]⟩, .string ⟨#[]⟩]) (t := 50) ?hr ?_; (case hd => rfl); (case hg => rfl); (case hr => first | (go_simp; done) | (go_simp; rfl)); intro gb688 hg w65 hbox hb; have n0_ := ak (blk_below (g := gb660) (bx BK660.out) hb); have n1_ := ak (blk_below (g := gb661) (bx BK661.out) hb); have n2_ := ak (blk_below (g := gb669) (bx BK669.out) hb); have n3_ := ak (blk_below (g := gb676) (bx BK676.out) hb); have n4_ := ak (below_step bq hb); have n5_ := ak (hbox); have n6_ := ak ((by rw [hg]; exact (below_size bq) : w.heap.size ≤ gb688)); have n7_ := ak ((by rw [hg]; exact (below_size bq) : w.heap.size ≤ gb688)); have n8_ := ak ((by rw [hg]; exact Nat.ne_of_lt (blk_lt (g := gb660) (bx BK660.out)) : gb660 ≠ gb688)); have n9_ := ak ((by rw [hg]; exact Nat.ne_of_gt (blk_lt (g := gb660) (bx BK660.out)) : gb688 ≠ gb660)); have n10_ := ak ((by rw [hg]; exact Nat.ne_of_lt (blk_lt (g := gb661) (bx BK661.out)) : gb661 ≠ gb688)); have n11_ := ak ((by rw [hg]; exact Nat.ne_of_gt (blk_lt (g := gb661) (bx BK661.out)) : gb688 ≠ gb661)); have n12_ := ak ((by rw [hg]; exact Nat.ne_of_lt (blk_lt (g := gb669) (bx BK669.out)) : gb669 ≠ gb688)); have n13_ := ak ((by rw [hg]; exact Nat.ne_of_gt (blk_lt (g := gb669) (bx BK669.out)) : gb688 ≠ gb669)); have n14_ := ak ((by rw [hg]; exact Nat.ne_of_lt (blk_lt (g := gb676) (bx BK676.out)) : gb676 ≠ gb688)); have n15_ := ak ((by rw [hg]; exact Nat.ne_of_gt (blk_lt (g := gb676) (bx BK676.out)) : gb688 ≠ gb676)); clear BK660; clear BK661; clear BK669; clear BK676; clear HB; have BK660 := n0_; have BK661 := n1_; have BK669 := n2_; have BK676 := n3_; have HB := n4_; have BK688 := n5_; have GW688 := n6_; have GE688 := n7_; have NB660_688 := n8_; have NB688_660 := n9_; have NB661_688 := n10_; have NB688_661 := n11_; have NB669_688 := n12_; have NB688_669 := n13_; have NB676_688 := n14_; have NB688_676 := n15_; clear n0_ n1_ n2_ n3_ n4_ n5_ n6_ n7_ n8_ n9_ n10_ n11_ n12_ n13_ n14_ n15_; clear hb hbox hg; have hnb66 := NB688_660.out; have hnc66 := NB660_688.out; have hnb67 := NB688_661.out; have hnc67 := NB661_688.out; have hnb68 := NB688_669.out; have hnc68 := NB669_688.out; have hnb69 := NB688_676.out; have hnc69 := NB676_688.out; obtain ⟨hcz70_0, hcz70_1, hcz70_2, hcz70_3, hcz70_4, hcz70_5⟩ := cz6 BK688.out; obtain ⟨hfz70_0, hfz70_1, hfz70_2, hfz70_3, hfz70_4, hfz70_5⟩ := fz6 BK688.out; obtain ⟨hcz71_0, hcz71_1, hcz71_2, hcz71_3, hcz71_4, hcz71_5, hcz71_6, hcz71_7, hcz71_8, hcz71_9, hcz71_10, hcz71_11⟩ := cz12 BK661.out; obtain ⟨hfz71_0, hfz71_1, hfz71_2, hfz71_3, hfz71_4, hfz71_5, hfz71_6, hfz71_7, hfz71_8, hfz71_9, hfz71_10, hfz71_11⟩ := fz12 BK661.out) | ((with_reducible refine gate_callee (f := 31) rfl ?_); refine goesL_ (some 64) rfl rfl Tryd.func31 (by kernel_rfl) rfl #[.agg #[.int .i64 a1_6, .string a1_7, .string a1_8, .string a1_9, .string a1_10, .string a1_11]] rfl mq ?_; (with_reducible refine (isoglosslaw12_few.calls a1_6 a1_7 a1_8 a1_9 a1_10 a1_11 t689 t690 t691 t692 t693 t694 _ A50.out).mono ?_); rintro e w72 ⟨rfl, hb⟩; refine ⟨_, rfl, ?_⟩; have n0_ := ak (blk_below (g := gb660) (o := .cells #[.int .i64 a0_0, .int .i64 a0_1, .int .i64 a0_2, .int .i64 a0_3, .int .i64 a0_4, .int .i64 a0_5, .int .i64 a0_6, .int .i64 a0_7, .int .i64 a0_8, .int .i64 a0_9, .int .i64 a0_10, .int .i64 a0_11, .int .i64 a0_12, .int .i64 a0_13] 63 (0, 0)) (bx (blk_far (bx (blk_far (bx (blk_far (bx (blk_far (bx (blk_far (bx (blk_far (bx BK660.out) NB660_688.out _)) NB660_688.out _)) NB660_688.out _)) NB660_688.out _)) NB660_688.out _)) NB660_688.out _)) hb); have n1_ := ak (blk_below (g := gb661) (o := .cells #[.int .i64 a1_0, .string a1_1, .string a1_2, .string a1_3, .string a1_4, .string a1_5, .int .i64 a1_6, .string a1_7, .string a1_8, .string a1_9, .string a1_10, .string a1_11] 64 (0, 0)) (bx (blk_far (bx (blk_far (bx (blk_far (bx (blk_far (bx (blk_far (bx (blk_far (bx BK661.out) NB661_688.out _)) NB661_688.out _)) NB661_688.out _)) NB661_688.out _)) NB661_688.out _)) NB661_688.out _)) hb); have n2_ := ak (blk_below (g := gb669) (o := .cells #[.int .i64 t663, .string t664, .string t665, .string t666, .string t667, .string t668] 50 (0, 0)) (bx (blk_far (bx (blk_far (bx (blk_far (bx (blk_far (bx (blk_far (bx (blk_far (bx BK669.out) NB669_688.out _)) NB669_688.out _)) NB669_688.out _)) NB669_688.out _)) NB669_688.out _)) NB669_688.out _)) hb); have n3_ := ak (blk_below (g := gb676) (o := .cells #[.int .i64 t670, .string t671, .string t672, .string t673, .string t674, .string t675] 50 (0, 0)) (bx (blk_far (bx (blk_far (bx (blk_far (bx (blk_far (bx (blk_far (bx (blk_far (bx BK676.out) NB676_688.out _)) NB676_688.out _)) NB676_688.out _)) NB676_688.out _)) NB676_688.out _)) NB676_688.out _)) hb); have n4_ := ak (blk_below (g := gb688) (o := .cells #[.int .i64 t682, .string t683, .string t684, .string t685, .string t686, .string t687] 50 (0, 0)) (bx (blk_put (cs := #[.int .i64 t682, .string t683, .string t684, .string t685, .string t686, .string ⟨#[]⟩]) (bx (blk_put (cs := #[.int .i64 t682, .string t683, .string t684, .string t685, .string ⟨#[]⟩, .string ⟨#[]⟩]) (bx (blk_put (cs := #[.int .i64 t682, .string t683, .string t684, .string ⟨#[]⟩, .string ⟨#[]⟩, .string ⟨#[]⟩]) (bx (blk_put (cs := #[.int .i64 t682, .string t683, .string ⟨#[]⟩, .string ⟨#[]⟩, .string ⟨#[]⟩, .string ⟨#[]⟩]) (bx (blk_put (cs := #[.int .i64 t682, .string ⟨#[]⟩, .string ⟨#[]⟩, .string ⟨#[]⟩, .string ⟨#[]⟩, .string ⟨#[]⟩]) (bx (blk_put (cs := #[.int .i64 0, .string ⟨#[]⟩, .string ⟨#[]⟩, .string ⟨#[]⟩, .string ⟨#[]⟩, .string ⟨#[]⟩]) (bx BK688.out) 0 _ rfl)) 1 _ rfl)) 2 _ rfl)) 3 _ rfl)) 4 _ rfl)) 5 _ rfl)) hb); have n5_ := ak (below_step bq hb); clear BK660; clear BK661; clear BK669; clear BK676; clear BK688; clear HB; have BK660 := n0_; have BK661 := n1_; have BK669 := n2_; have BK676 := n3_; have BK688 := n4_; have HB := n5_; clear n0_ n1_ n2_ n3_ n4_ n5_; (try clear hb); (try clear hb2); (try clear hk); (try clear hi); (try clear A50)) | ((with_reducible refine gate_dst (N := 14) rfl ?_); refine box_event ?hg (N := 14) ?hd (cs := #[.int .i64 0, .string ⟨#[]⟩, .string ⟨#[]⟩, .string ⟨#[]⟩, .string ⟨#[]⟩, .string ⟨#[]⟩]) (t := 50) ?hr ?_; (case hd => rfl); (case hg => rfl); (case hr => first | (go_simp; done) | (go_simp; rfl)); intro gb695 hg w73 hbox hb; have n0_ := ak (blk_below (g := gb660) (bx BK660.out) hb); have n1_ := ak (blk_below (g := gb661) (bx BK661.out) hb); have n2_ := ak (blk_below (g := gb669) (bx BK669.out) hb); have n3_ := ak (blk_below (g := gb676) (bx BK676.out) hb); have n4_ := ak (blk_below (g := gb688) (bx BK688.out) hb); have n5_ := ak (below_step bq hb); have n6_ := ak (hbox); have n7_ := ak ((by rw [hg]; exact (below_size bq) : w.heap.size ≤ gb695)); have n8_ := ak ((by rw [hg]; exact (below_size bq) : w.heap.size ≤ gb695)); have n9_ := ak ((by rw [hg]; exact Nat.ne_of_lt (blk_lt (g := gb660) (bx BK660.out)) : gb660 ≠ gb695)); have n10_ := ak ((by rw [hg]; exact Nat.ne_of_gt (blk_lt (g := gb660) (bx BK660.out)) : gb695 ≠ gb660)); have n11_ := ak ((by rw [hg]; exact Nat.ne_of_lt (blk_lt (g := gb661) (bx BK661.out)) : gb661 ≠ gb695)); have n12_ := ak ((by rw [hg]; exact Nat.ne_of_gt (blk_lt (g := gb661) (bx BK661.out)) : gb695 ≠ gb661)); have n13_ := ak ((by rw [hg]; exact Nat.ne_of_lt (blk_lt (g := gb669) (bx BK669.out)) : gb669 ≠ gb695)); have n14_ := ak ((by rw [hg]; exact Nat.ne_of_gt (blk_lt (g := gb669) (bx BK669.out)) : gb695 ≠ gb669)); have n15_ := ak ((by rw [hg]; exact Nat.ne_of_lt (blk_lt (g := gb676) (bx BK676.out)) : gb676 ≠ gb695)); have n16_ := ak ((by rw [hg]; exact Nat.ne_of_gt (blk_lt (g := gb676) (bx BK676.out)) : gb695 ≠ gb676)); have n17_ := ak ((by rw [hg]; exact Nat.ne_of_lt (blk_lt (g := gb688) (bx BK688.out)) : gb688 ≠ gb695)); have n18_ := ak ((by rw [hg]; exact Nat.ne_of_gt (blk_lt (g := gb688) (bx BK688.out)) : gb695 ≠ gb688)); clear BK660; clear BK661; clear BK669; clear BK676; clear BK688; clear HB; have BK660 := n0_; have BK661 := n1_; have BK669 := n2_; have BK676 := n3_; have BK688 := n4_; have HB := n5_; have BK695 := n6_; have GW695 := n7_; have GE695 := n8_; have NB660_695 := n9_; have NB695_660 := n10_; have NB661_695 := n11_; have NB695_661 := n12_; have NB669_695 := n13_; have NB695_669 := n14_; have NB676_695 := n15_; have NB695_676 := n16_; have NB688_695 := n17_; have NB695_688 := n18_; clear n0_ n1_ n2_ n3_ n4_ n5_ n6_ n7_ n8_ n9_ n10_ n11_ n12_ n13_ n14_ n15_ n16_ n17_ n18_; clear hb hbox hg; have hnb74 := NB695_660.out; have hnc74 := NB660_695.out; have hnb75 := NB695_661.out; have hnc75 := NB661_695.out; have hnb76 := NB695_669.out; have hnc76 := NB669_695.out; have hnb77 := NB695_676.out; have hnc77 := NB676_695.out; have hnb78 := NB695_688.out; have hnc78 := NB688_695.out; obtain ⟨hcz79_0, hcz79_1, hcz79_2, hcz79_3, hcz79_4, hcz79_5⟩ := cz6 BK695.out; obtain ⟨hfz79_0, hfz79_1, hfz79_2, hfz79_3, hfz79_4, hfz79_5⟩ := fz6 BK695.out))
        have n0_ : Aside0 (((((((w73.setCell ⟨gb695, 0, none⟩ (.int .i64 t689)).setCell ⟨gb695, 1, none⟩ (.string t690)).setCell ⟨gb695, 2, none⟩ (.string t691)).setCell ⟨gb695, 3, none⟩ (.string t692)).setCell ⟨gb695, 4, none⟩ (.string t693)).setCell ⟨gb695, 5, none⟩ (.string t694)).heap[gb660]? = some (.cells #[.int .i64 a0_0, .int .i64 a0_1, .int .i64 a0_2, .int .i64 a0_3, .int .i64 a0_4, .int .i64 a0_5, .int .i64 a0_6, .int .i64 a0_7, .int .i64 a0_8, .int .i64 a0_9, .int .i64 a0_10, .int .i64 a0_11, .int .i64 a0_12, .int .i64 a0_13] 63 (0, 0))) := ⟨(bx (blk_far (bx (blk_far (bx (blk_far (bx (blk_far (bx (blk_far (bx (blk_far (bx BK660.out) NB660_695.out _)) NB660_695.out _)) NB660_695.out _)) NB660_695.out _)) NB660_695.out _)) NB660_695.out _))⟩
        have n1_ : Aside0 (((((((w73.setCell ⟨gb695, 0, none⟩ (.int .i64 t689)).setCell ⟨gb695, 1, none⟩ (.string t690)).setCell ⟨gb695, 2, none⟩ (.string t691)).setCell ⟨gb695, 3, none⟩ (.string t692)).setCell ⟨gb695, 4, none⟩ (.string t693)).setCell ⟨gb695, 5, none⟩ (.string t694)).heap[gb661]? = some (.cells #[.int .i64 a1_0, .string a1_1, .string a1_2, .string a1_3, .string a1_4, .string a1_5, .int .i64 a1_6, .string a1_7, .string a1_8, .string a1_9, .string a1_10, .string a1_11] 64 (0, 0))) := ⟨(bx (blk_far (bx (blk_far (bx (blk_far (bx (blk_far (bx (blk_far (bx (blk_far (bx BK661.out) NB661_695.out _)) NB661_695.out _)) NB661_695.out _)) NB661_695.out _)) NB661_695.out _)) NB661_695.out _))⟩
        have n2_ : Aside0 (((((((w73.setCell ⟨gb695, 0, none⟩ (.int .i64 t689)).setCell ⟨gb695, 1, none⟩ (.string t690)).setCell ⟨gb695, 2, none⟩ (.string t691)).setCell ⟨gb695, 3, none⟩ (.string t692)).setCell ⟨gb695, 4, none⟩ (.string t693)).setCell ⟨gb695, 5, none⟩ (.string t694)).heap[gb669]? = some (.cells #[.int .i64 t663, .string t664, .string t665, .string t666, .string t667, .string t668] 50 (0, 0))) := ⟨(bx (blk_far (bx (blk_far (bx (blk_far (bx (blk_far (bx (blk_far (bx (blk_far (bx BK669.out) NB669_695.out _)) NB669_695.out _)) NB669_695.out _)) NB669_695.out _)) NB669_695.out _)) NB669_695.out _))⟩
        have n3_ : Aside0 (((((((w73.setCell ⟨gb695, 0, none⟩ (.int .i64 t689)).setCell ⟨gb695, 1, none⟩ (.string t690)).setCell ⟨gb695, 2, none⟩ (.string t691)).setCell ⟨gb695, 3, none⟩ (.string t692)).setCell ⟨gb695, 4, none⟩ (.string t693)).setCell ⟨gb695, 5, none⟩ (.string t694)).heap[gb676]? = some (.cells #[.int .i64 t670, .string t671, .string t672, .string t673, .string t674, .string t675] 50 (0, 0))) := ⟨(bx (blk_far (bx (blk_far (bx (blk_far (bx (blk_far (bx (blk_far (bx (blk_far (bx BK676.out) NB676_695.out _)) NB676_695.out _)) NB676_695.out _)) NB676_695.out _)) NB676_695.out _)) NB676_695.out _))⟩
        have n4_ : Aside0 (((((((w73.setCell ⟨gb695, 0, none⟩ (.int .i64 t689)).setCell ⟨gb695, 1, none⟩ (.string t690)).setCell ⟨gb695, 2, none⟩ (.string t691)).setCell ⟨gb695, 3, none⟩ (.string t692)).setCell ⟨gb695, 4, none⟩ (.string t693)).setCell ⟨gb695, 5, none⟩ (.string t694)).heap[gb688]? = some (.cells #[.int .i64 t682, .string t683, .string t684, .string t685, .string t686, .string t687] 50 (0, 0))) := ⟨(bx (blk_far (bx (blk_far (bx (blk_far (bx (blk_far (bx (blk_far (bx (blk_far (bx BK688.out) NB688_695.out _)) NB688_695.out _)) NB688_695.out _)) NB688_695.out _)) NB688_695.out _)) NB688_695.out _))⟩
        have n5_ : Aside0 (((((((w73.setCell ⟨gb695, 0, none⟩ (.int .i64 t689)).setCell ⟨gb695, 1, none⟩ (.string t690)).setCell ⟨gb695, 2, none⟩ (.string t691)).setCell ⟨gb695, 3, none⟩ (.string t692)).setCell ⟨gb695, 4, none⟩ (.string t693)).setCell ⟨gb695, 5, none⟩ (.string t694)).heap[gb695]? = some (.cells #[.int .i64 t689, .string t690, .string t691, .string t692, .string t693, .string t694] 50 (0, 0))) := ⟨(bx (blk_put (cs := #[.int .i64 t689, .string t690, .string t691, .string t692, .string t693, .string ⟨#[]⟩]) (bx (blk_put (cs := #[.int .i64 t689, .string t690, .string t691, .string t692, .string ⟨#[]⟩, .string ⟨#[]⟩]) (bx (blk_put (cs := #[.int .i64 t689, .string t690, .string t691, .string ⟨#[]⟩, .string ⟨#[]⟩, .string ⟨#[]⟩]) (bx (blk_put (cs := #[.int .i64 t689, .string t690, .string ⟨#[]⟩, .string ⟨#[]⟩, .string ⟨#[]⟩, .string ⟨#[]⟩]) (bx (blk_put (cs := #[.int .i64 t689, .string ⟨#[]⟩, .string ⟨#[]⟩, .string ⟨#[]⟩, .string ⟨#[]⟩, .string ⟨#[]⟩]) (bx (blk_put (cs := #[.int .i64 0, .string ⟨#[]⟩, .string ⟨#[]⟩, .string ⟨#[]⟩, .string ⟨#[]⟩, .string ⟨#[]⟩]) (bx BK695.out) 0 _ rfl)) 1 _ rfl)) 2 _ rfl)) 3 _ rfl)) 4 _ rfl)) 5 _ rfl))⟩
        have n6_ : Aside0 (Below w.heap.size w ((((((w73.setCell ⟨gb695, 0, none⟩ (.int .i64 t689)).setCell ⟨gb695, 1, none⟩ (.string t690)).setCell ⟨gb695, 2, none⟩ (.string t691)).setCell ⟨gb695, 3, none⟩ (.string t692)).setCell ⟨gb695, 4, none⟩ (.string t693)).setCell ⟨gb695, 5, none⟩ (.string t694))) := ⟨bq⟩
        (try clear BK660)
        (try clear BK661)
        (try clear BK669)
        (try clear BK676)
        (try clear BK688)
        (try clear BK695)
        (try clear HB)
        generalize ((((((w73.setCell ⟨gb695, 0, none⟩ (.int .i64 t689)).setCell ⟨gb695, 1, none⟩ (.string t690)).setCell ⟨gb695, 2, none⟩ (.string t691)).setCell ⟨gb695, 3, none⟩ (.string t692)).setCell ⟨gb695, 4, none⟩ (.string t693)).setCell ⟨gb695, 5, none⟩ (.string t694)) = w80 at n0_ n1_ n2_ n3_ n4_ n5_ n6_ ⊢
        have BK660 := n0_
        have BK661 := n1_
        have BK669 := n2_
        have BK676 := n3_
        have BK688 := n4_
        have BK695 := n5_
        have HB := n6_
        clear n0_ n1_ n2_ n3_ n4_ n5_ n6_
        have n0_ := ak (blk_drew BK660.out)
        have n1_ := ak (blk_drew BK661.out)
        have n2_ := ak (blk_drew BK669.out)
        have n3_ := ak (blk_drew BK676.out)
        have n4_ := ak (blk_drew BK688.out)
        have n5_ := ak (blk_drew BK695.out)
        have n6_ := ak (below_drew1 HB.out)
        clear BK660
        clear BK661
        clear BK669
        clear BK676
        clear BK688
        clear BK695
        clear HB
        have BK660 := n0_
        have BK661 := n1_
        have BK669 := n2_
        have BK676 := n3_
        have BK688 := n4_
        have BK695 := n5_
        have HB := n6_
        clear n0_ n1_ n2_ n3_ n4_ n5_ n6_
        refine start_ (n := 32) (S := fun w' => w'.cell? ⟨gb669, 0, none⟩ = some (.int .i64 t663) ∧ w'.cell? ⟨gb669, 1, none⟩ = some (.string t664) ∧ w'.cell? ⟨gb669, 2, none⟩ = some (.string t665) ∧ w'.cell? ⟨gb669, 3, none⟩ = some (.string t666) ∧ w'.cell? ⟨gb669, 4, none⟩ = some (.string t667) ∧ w'.cell? ⟨gb669, 5, none⟩ = some (.string t668) ∧ w'.cell? ⟨gb676, 0, none⟩ = some (.int .i64 t670) ∧ w'.cell? ⟨gb676, 1, none⟩ = some (.string t671) ∧ w'.cell? ⟨gb676, 2, none⟩ = some (.string t672) ∧ w'.cell? ⟨gb676, 3, none⟩ = some (.string t673) ∧ w'.cell? ⟨gb676, 4, none⟩ = some (.string t674) ∧ w'.cell? ⟨gb676, 5, none⟩ = some (.string t675) ∧ w'.cell? ⟨gb688, 0, none⟩ = some (.int .i64 t682) ∧ w'.cell? ⟨gb688, 1, none⟩ = some (.string t683) ∧ w'.cell? ⟨gb688, 2, none⟩ = some (.string t684) ∧ w'.cell? ⟨gb688, 3, none⟩ = some (.string t685) ∧ w'.cell? ⟨gb688, 4, none⟩ = some (.string t686) ∧ w'.cell? ⟨gb688, 5, none⟩ = some (.string t687) ∧ w'.cell? ⟨gb695, 0, none⟩ = some (.int .i64 t689) ∧ w'.cell? ⟨gb695, 1, none⟩ = some (.string t690) ∧ w'.cell? ⟨gb695, 2, none⟩ = some (.string t691) ∧ w'.cell? ⟨gb695, 3, none⟩ = some (.string t692) ∧ w'.cell? ⟨gb695, 4, none⟩ = some (.string t693) ∧ w'.cell? ⟨gb695, 5, none⟩ = some (.string t694)) (ds := []) #[false, false, false, false, false, false, false, false, false, false, false, false, false, false, false, false, false, false, false, false, false, false, false, false, false, false, false, false, false, false, false, false] (by kernel_rfl) rfl rfl ⟨(blk_cell BK669.out 0).trans rfl, (blk_cell BK669.out 1).trans rfl, (blk_cell BK669.out 2).trans rfl, (blk_cell BK669.out 3).trans rfl, (blk_cell BK669.out 4).trans rfl, (blk_cell BK669.out 5).trans rfl, (blk_cell BK676.out 0).trans rfl, (blk_cell BK676.out 1).trans rfl, (blk_cell BK676.out 2).trans rfl, (blk_cell BK676.out 3).trans rfl, (blk_cell BK676.out 4).trans rfl, (blk_cell BK676.out 5).trans rfl, (blk_cell BK688.out 0).trans rfl, (blk_cell BK688.out 1).trans rfl, (blk_cell BK688.out 2).trans rfl, (blk_cell BK688.out 3).trans rfl, (blk_cell BK688.out 4).trans rfl, (blk_cell BK688.out 5).trans rfl, (blk_cell BK695.out 0).trans rfl, (blk_cell BK695.out 1).trans rfl, (blk_cell BK695.out 2).trans rfl, (blk_cell BK695.out 3).trans rfl, (blk_cell BK695.out 4).trans rfl, (blk_cell BK695.out 5).trans rfl⟩ (fun hHeld => ?_); refine with_tabW isoglosslaw12_AliasOrders.tab11 isoglosslaw12_AliasOrders.bits11 (fun HT_ HW_ => ?_)
        generalize w80.drew = w81 at BK660 BK661 BK669 BK676 BK688 BK695 HB hHeld ⊢
        refine pu 0 (some 65) (M 32 1) ?_
        refine pu 1 (some 66) (M 32 3) ?_
        refine pu 2 (some 67) (M 32 7) ?_
        refine take_ (i := 3) (N := some 68) (v := ?_) (a' := ?_) (M 32 15) rfl rfl (take_ofW HT_.out HW_.out (by kernel_rfl)) (fun _ _ _ h => h) (Or.inl ⟨by rfl, ?_⟩) hHeld ?_ ?_
        rotate_left
        ·
         rintro w' ⟨s0, s1, s2, s3, s4, s5, s6, s7, s8, s9, s10, s11, s12, s13, s14, s15, s16, s17, s18, s19, s20, s21, s22, s23⟩
         go_simp
         with_reducible rfl
        rotate_left
        ·
         simp only [Act.put, pA, pB, pC, i64_w, i32_w]
         rfl
        refine take_ (i := 4) (N := some 69) (v := ?_) (a' := ?_) (M 32 31) rfl rfl (take_ofW HT_.out HW_.out (by kernel_rfl)) (fun _ _ _ h => h) (Or.inl ⟨by rfl, ?_⟩) hHeld ?_ ?_
        rotate_left
        ·
         rintro w' ⟨s0, s1, s2, s3, s4, s5, s6, s7, s8, s9, s10, s11, s12, s13, s14, s15, s16, s17, s18, s19, s20, s21, s22, s23⟩
         go_simp
         with_reducible rfl
        rotate_left
        ·
         simp only [Act.put, pA, pB, pC, i64_w, i32_w]
         rfl
        refine one_ (i := 5) (N := some 70) (M 32 63) rfl rfl (one_of HT_.out (by kernel_rfl)) (by decide) (fun K hK => ?_)
        refine goes_ Tryd.func41 (by kernel_rfl) rfl #[.agg #[.int .i64 t663, .string t664, .string t665, .string t666, .string t667, .string t668], .agg #[.int .i64 t670, .string t671, .string t672, .string t673, .string t674, .string t675]] (by rfl) rfl rfl mq ?_
        with_reducible refine (isoglossref12_Compare.calls t663 t664 t665 t666 t667 t668 t670 t671 t672 t673 t674 t675 t696 _ A52.out).mono ?_
        rintro e w82 ⟨rfl, hb⟩
        refine ⟨_, rfl, ?_⟩
        have n0_ := ak (blk_below (g := gb660) (bx BK660.out) hb)
        have n1_ := ak (blk_below (g := gb661) (bx BK661.out) hb)
        have n2_ := ak (blk_below (g := gb669) (bx BK669.out) hb)
        have n3_ := ak (blk_below (g := gb676) (bx BK676.out) hb)
        have n4_ := ak (blk_below (g := gb688) (bx BK688.out) hb)
        have n5_ := ak (blk_below (g := gb695) (bx BK695.out) hb)
        have n6_ := ak (below_step bq hb)
        clear BK660
        clear BK661
        clear BK669
        clear BK676
        clear BK688
        clear BK695
        clear HB
        have BK660 := n0_
        have BK661 := n1_
        have BK669 := n2_
        have BK676 := n3_
        have BK688 := n4_
        have BK695 := n5_
        have HB := n6_
        clear n0_ n1_ n2_ n3_ n4_ n5_ n6_
        (try clear hb)
        (try clear hb2)
        (try clear hk)
        (try clear hi)
        refine hK.out _ _ ⟨(blk_cell BK669.out 0).trans rfl, (blk_cell BK669.out 1).trans rfl, (blk_cell BK669.out 2).trans rfl, (blk_cell BK669.out 3).trans rfl, (blk_cell BK669.out 4).trans rfl, (blk_cell BK669.out 5).trans rfl, (blk_cell BK676.out 0).trans rfl, (blk_cell BK676.out 1).trans rfl, (blk_cell BK676.out 2).trans rfl, (blk_cell BK676.out 3).trans rfl, (blk_cell BK676.out 4).trans rfl, (blk_cell BK676.out 5).trans rfl, (blk_cell BK688.out 0).trans rfl, (blk_cell BK688.out 1).trans rfl, (blk_cell BK688.out 2).trans rfl, (blk_cell BK688.out 3).trans rfl, (blk_cell BK688.out 4).trans rfl, (blk_cell BK688.out 5).trans rfl, (blk_cell BK695.out 0).trans rfl, (blk_cell BK695.out 1).trans rfl, (blk_cell BK695.out 2).trans rfl, (blk_cell BK695.out 3).trans rfl, (blk_cell BK695.out 4).trans rfl, (blk_cell BK695.out 5).trans rfl⟩ (fun hHeld => ?_)
        clear hK K
        refine norm_ (a' := ?_) ?_ ?_
        rotate_left
        ·
         show Act.put _ (some 70) _ = _
         simp only [Act.put, pA, pB, pC, i64_w, i32_w]
         rfl
        refine pu 6 (some 71) (M 32 127) ?_
        refine pu 7 (some 72) (M 32 255) ?_
        refine pu 8 (some 73) (M 32 511) ?_
        refine pu 12 (some 77) (M 32 4607) ?_
        refine pu 13 (some 78) (M 32 12799) ?_
        refine take_ (i := 9) (N := some 74) (v := ?_) (a' := ?_) (M 32 13311) rfl rfl (take_ofW HT_.out HW_.out (by kernel_rfl)) (fun _ _ _ h => h) (Or.inl ⟨by rfl, ?_⟩) hHeld ?_ ?_
        rotate_left
        ·
         rintro w' ⟨s0, s1, s2, s3, s4, s5, s6, s7, s8, s9, s10, s11, s12, s13, s14, s15, s16, s17, s18, s19, s20, s21, s22, s23⟩
         go_simp
         with_reducible rfl
        rotate_left
        ·
         simp only [Act.put, pA, pB, pC, i64_w, i32_w]
         rfl
        refine take_ (i := 10) (N := some 75) (v := ?_) (a' := ?_) (M 32 14335) rfl rfl (take_ofW HT_.out HW_.out (by kernel_rfl)) (fun _ _ _ h => h) (Or.inl ⟨by rfl, ?_⟩) hHeld ?_ ?_
        rotate_left
        ·
         rintro w' ⟨s0, s1, s2, s3, s4, s5, s6, s7, s8, s9, s10, s11, s12, s13, s14, s15, s16, s17, s18, s19, s20, s21, s22, s23⟩
         go_simp
         with_reducible rfl
        rotate_left
        ·
         simp only [Act.put, pA, pB, pC, i64_w, i32_w]
         rfl
        refine one_ (i := 11) (N := some 76) (M 32 16383) rfl rfl (one_of HT_.out (by kernel_rfl)) (by decide) (fun K hK => ?_)
        refine goes_ Tryd.func40 (by kernel_rfl) rfl #[.agg #[.int .i64 t670, .string t671, .string t672, .string t673, .string t674, .string t675], .agg #[.int .i64 t663, .string t664, .string t665, .string t666, .string t667, .string t668]] (by rfl) rfl rfl mq ?_
        with_reducible refine (alias_Compare.calls kj8 t670 t671 t672 t673 t674 t675 t663 t664 t665 t666 t667 t668 t697 _ A54.out).mono ?_
        rintro e w83 ⟨rfl, hb⟩
        refine ⟨_, rfl, ?_⟩
        have n0_ := ak (blk_below (g := gb660) (bx BK660.out) hb)
        have n1_ := ak (blk_below (g := gb661) (bx BK661.out) hb)
        have n2_ := ak (blk_below (g := gb669) (bx BK669.out) hb)
        have n3_ := ak (blk_below (g := gb676) (bx BK676.out) hb)
        have n4_ := ak (blk_below (g := gb688) (bx BK688.out) hb)
        have n5_ := ak (blk_below (g := gb695) (bx BK695.out) hb)
        have n6_ := ak (below_step bq hb)
        clear BK660
        clear BK661
        clear BK669
        clear BK676
        clear BK688
        clear BK695
        clear HB
        have BK660 := n0_
        have BK661 := n1_
        have BK669 := n2_
        have BK676 := n3_
        have BK688 := n4_
        have BK695 := n5_
        have HB := n6_
        clear n0_ n1_ n2_ n3_ n4_ n5_ n6_
        (try clear hb)
        (try clear hb2)
        (try clear hk)
        (try clear hi)
        refine hK.out _ _ ⟨(blk_cell BK669.out 0).trans rfl, (blk_cell BK669.out 1).trans rfl, (blk_cell BK669.out 2).trans rfl, (blk_cell BK669.out 3).trans rfl, (blk_cell BK669.out 4).trans rfl, (blk_cell BK669.out 5).trans rfl, (blk_cell BK676.out 0).trans rfl, (blk_cell BK676.out 1).trans rfl, (blk_cell BK676.out 2).trans rfl, (blk_cell BK676.out 3).trans rfl, (blk_cell BK676.out 4).trans rfl, (blk_cell BK676.out 5).trans rfl, (blk_cell BK688.out 0).trans rfl, (blk_cell BK688.out 1).trans rfl, (blk_cell BK688.out 2).trans rfl, (blk_cell BK688.out 3).trans rfl, (blk_cell BK688.out 4).trans rfl, (blk_cell BK688.out 5).trans rfl, (blk_cell BK695.out 0).trans rfl, (blk_cell BK695.out 1).trans rfl, (blk_cell BK695.out 2).trans rfl, (blk_cell BK695.out 3).trans rfl, (blk_cell BK695.out 4).trans rfl, (blk_cell BK695.out 5).trans rfl⟩ (fun hHeld => ?_)
        clear hK K
        refine norm_ (a' := ?_) ?_ ?_
        rotate_left
        ·
         show Act.put _ (some 76) _ = _
         simp only [Act.put, pA, pB, pC, i64_w, i32_w]
         rfl
        refine pu 14 (some 79) (M 32 32767) ?_
        refine pu 15 (some 80) (M 32 65535) ?_
        refine pu 16 (some 81) (M 32 131071) ?_
        refine take_ (i := 17) (N := some 82) (v := ?_) (a' := ?_) (M 32 262143) rfl rfl (take_ofW HT_.out HW_.out (by kernel_rfl)) (fun _ _ _ h => h) (Or.inl ⟨by rfl, ?_⟩) hHeld ?_ ?_
        rotate_left
        ·
         rintro w' ⟨s0, s1, s2, s3, s4, s5, s6, s7, s8, s9, s10, s11, s12, s13, s14, s15, s16, s17, s18, s19, s20, s21, s22, s23⟩
         go_simp
         with_reducible rfl
        rotate_left
        ·
         simp only [Act.put, pA, pB, pC, i64_w, i32_w]
         rfl
        refine take_ (i := 18) (N := some 83) (v := ?_) (a' := ?_) (M 32 524287) rfl rfl (take_ofW HT_.out HW_.out (by kernel_rfl)) (fun _ _ _ h => h) (Or.inl ⟨by rfl, ?_⟩) hHeld ?_ ?_
        rotate_left
        ·
         rintro w' ⟨s0, s1, s2, s3, s4, s5, s6, s7, s8, s9, s10, s11, s12, s13, s14, s15, s16, s17, s18, s19, s20, s21, s22, s23⟩
         go_simp
         with_reducible rfl
        rotate_left
        ·
         simp only [Act.put, pA, pB, pC, i64_w, i32_w]
         rfl
        refine take_ (i := 20) (N := some 85) (v := ?_) (a' := ?_) (M 32 1572863) rfl rfl (take_ofW HT_.out HW_.out (by kernel_rfl)) (fun _ _ _ h => h) (Or.inl ⟨by rfl, ?_⟩) hHeld ?_ ?_
        rotate_left
        ·
         rintro w' ⟨s0, s1, s2, s3, s4, s5, s6, s7, s8, s9, s10, s11, s12, s13, s14, s15, s16, s17, s18, s19, s20, s21, s22, s23⟩
         go_simp
         with_reducible rfl
        rotate_left
        ·
         simp only [Act.put, pA, pB, pC, i64_w, i32_w]
         rfl
        refine take_ (i := 21) (N := some 86) (v := ?_) (a' := ?_) (M 32 3670015) rfl rfl (take_ofW HT_.out HW_.out (by kernel_rfl)) (fun _ _ _ h => h) (Or.inl ⟨by rfl, ?_⟩) hHeld ?_ ?_
        rotate_left
        ·
         rintro w' ⟨s0, s1, s2, s3, s4, s5, s6, s7, s8, s9, s10, s11, s12, s13, s14, s15, s16, s17, s18, s19, s20, s21, s22, s23⟩
         go_simp
         with_reducible rfl
        rotate_left
        ·
         simp only [Act.put, pA, pB, pC, i64_w, i32_w]
         rfl
        refine one_ (i := 19) (N := some 84) (M 32 4194303) rfl rfl (one_of HT_.out (by kernel_rfl)) (by decide) (fun K hK => ?_)
        refine goes_ Tryd.func40 (by kernel_rfl) rfl #[.agg #[.int .i64 t682, .string t683, .string t684, .string t685, .string t686, .string t687], .agg #[.int .i64 t689, .string t690, .string t691, .string t692, .string t693, .string t694]] (by rfl) rfl rfl mq ?_
        with_reducible refine (alias_Compare.calls kj8 t682 t683 t684 t685 t686 t687 t689 t690 t691 t692 t693 t694 t698 _ A56.out).mono ?_
        rintro e w84 ⟨rfl, hb⟩
        refine ⟨_, rfl, ?_⟩
        have n0_ := ak (blk_below (g := gb660) (bx BK660.out) hb)
        have n1_ := ak (blk_below (g := gb661) (bx BK661.out) hb)
        have n2_ := ak (blk_below (g := gb669) (bx BK669.out) hb)
        have n3_ := ak (blk_below (g := gb676) (bx BK676.out) hb)
        have n4_ := ak (blk_below (g := gb688) (bx BK688.out) hb)
        have n5_ := ak (blk_below (g := gb695) (bx BK695.out) hb)
        have n6_ := ak (below_step bq hb)
        clear BK660
        clear BK661
        clear BK669
        clear BK676
        clear BK688
        clear BK695
        clear HB
        have BK660 := n0_
        have BK661 := n1_
        have BK669 := n2_
        have BK676 := n3_
        have BK688 := n4_
        have BK695 := n5_
        have HB := n6_
        clear n0_ n1_ n2_ n3_ n4_ n5_ n6_
        (try clear hb)
        (try clear hb2)
        (try clear hk)
        (try clear hi)
        refine hK.out _ _ ⟨(blk_cell BK669.out 0).trans rfl, (blk_cell BK669.out 1).trans rfl, (blk_cell BK669.out 2).trans rfl, (blk_cell BK669.out 3).trans rfl, (blk_cell BK669.out 4).trans rfl, (blk_cell BK669.out 5).trans rfl, (blk_cell BK676.out 0).trans rfl, (blk_cell BK676.out 1).trans rfl, (blk_cell BK676.out 2).trans rfl, (blk_cell BK676.out 3).trans rfl, (blk_cell BK676.out 4).trans rfl, (blk_cell BK676.out 5).trans rfl, (blk_cell BK688.out 0).trans rfl, (blk_cell BK688.out 1).trans rfl, (blk_cell BK688.out 2).trans rfl, (blk_cell BK688.out 3).trans rfl, (blk_cell BK688.out 4).trans rfl, (blk_cell BK688.out 5).trans rfl, (blk_cell BK695.out 0).trans rfl, (blk_cell BK695.out 1).trans rfl, (blk_cell BK695.out 2).trans rfl, (blk_cell BK695.out 3).trans rfl, (blk_cell BK695.out 4).trans rfl, (blk_cell BK695.out 5).trans rfl⟩ (fun hHeld => ?_)
        clear hK K
        refine norm_ (a' := ?_) ?_ ?_
        rotate_left
        ·
         show Act.put _ (some 84) _ = _
         simp only [Act.put, pA, pB, pC, i64_w, i32_w]
         rfl
        refine one_ (i := 22) (N := some 87) (M 32 8388607) rfl rfl (one_of HT_.out (by kernel_rfl)) (by decide) (fun K hK => ?_)
        refine goes_ Tryd.func41 (by kernel_rfl) rfl #[.agg #[.int .i64 t682, .string t683, .string t684, .string t685, .string t686, .string t687], .agg #[.int .i64 t689, .string t690, .string t691, .string t692, .string t693, .string t694]] (by rfl) rfl rfl mq ?_
        with_reducible refine (isoglossref12_Compare.calls t682 t683 t684 t685 t686 t687 t689 t690 t691 t692 t693 t694 t699 _ A57.out).mono ?_
        rintro e w85 ⟨rfl, hb⟩
        refine ⟨_, rfl, ?_⟩
        have n0_ := ak (blk_below (g := gb660) (bx BK660.out) hb)
        have n1_ := ak (blk_below (g := gb661) (bx BK661.out) hb)
        have n2_ := ak (blk_below (g := gb669) (bx BK669.out) hb)
        have n3_ := ak (blk_below (g := gb676) (bx BK676.out) hb)
        have n4_ := ak (blk_below (g := gb688) (bx BK688.out) hb)
        have n5_ := ak (blk_below (g := gb695) (bx BK695.out) hb)
        have n6_ := ak (below_step bq hb)
        clear BK660
        clear BK661
        clear BK669
        clear BK676
        clear BK688
        clear BK695
        clear HB
        have BK660 := n0_
        have BK661 := n1_
        have BK669 := n2_
        have BK676 := n3_
        have BK688 := n4_
        have BK695 := n5_
        have HB := n6_
        clear n0_ n1_ n2_ n3_ n4_ n5_ n6_
        (try clear hb)
        (try clear hb2)
        (try clear hk)
        (try clear hi)
        refine hK.out _ _ ⟨(blk_cell BK669.out 0).trans rfl, (blk_cell BK669.out 1).trans rfl, (blk_cell BK669.out 2).trans rfl, (blk_cell BK669.out 3).trans rfl, (blk_cell BK669.out 4).trans rfl, (blk_cell BK669.out 5).trans rfl, (blk_cell BK676.out 0).trans rfl, (blk_cell BK676.out 1).trans rfl, (blk_cell BK676.out 2).trans rfl, (blk_cell BK676.out 3).trans rfl, (blk_cell BK676.out 4).trans rfl, (blk_cell BK676.out 5).trans rfl, (blk_cell BK688.out 0).trans rfl, (blk_cell BK688.out 1).trans rfl, (blk_cell BK688.out 2).trans rfl, (blk_cell BK688.out 3).trans rfl, (blk_cell BK688.out 4).trans rfl, (blk_cell BK688.out 5).trans rfl, (blk_cell BK695.out 0).trans rfl, (blk_cell BK695.out 1).trans rfl, (blk_cell BK695.out 2).trans rfl, (blk_cell BK695.out 3).trans rfl, (blk_cell BK695.out 4).trans rfl, (blk_cell BK695.out 5).trans rfl⟩ (fun hHeld => ?_)
        clear hK K
        refine norm_ (a' := ?_) ?_ ?_
        rotate_left
        ·
         show Act.put _ (some 87) _ = _
         simp only [Act.put, pA, pB, pC, i64_w, i32_w]
         rfl
        refine pu 23 (some 88) (M 32 16777215) ?_
        refine pu 24 (some 89) (M 32 33554431) ?_
        refine pu 25 (some 90) (M 32 67108863) ?_
        refine take_ (i := 26) (N := some 91) (v := ?_) (a' := ?_) (M 32 134217727) rfl rfl (take_ofW HT_.out HW_.out (by kernel_rfl)) (fun _ _ _ h => h) (Or.inl ⟨by rfl, ?_⟩) hHeld ?_ ?_
        rotate_left
        ·
         rintro w' ⟨s0, s1, s2, s3, s4, s5, s6, s7, s8, s9, s10, s11, s12, s13, s14, s15, s16, s17, s18, s19, s20, s21, s22, s23⟩
         go_simp
         with_reducible rfl
        rotate_left
        ·
         simp only [Act.put, pA, pB, pC, i64_w, i32_w]
         rfl
        refine take_ (i := 27) (N := some 92) (v := ?_) (a' := ?_) (M 32 268435455) rfl rfl (take_ofW HT_.out HW_.out (by kernel_rfl)) (fun _ _ _ h => h) (Or.inl ⟨by rfl, ?_⟩) hHeld ?_ ?_
        rotate_left
        ·
         rintro w' ⟨s0, s1, s2, s3, s4, s5, s6, s7, s8, s9, s10, s11, s12, s13, s14, s15, s16, s17, s18, s19, s20, s21, s22, s23⟩
         go_simp
         with_reducible rfl
        rotate_left
        ·
         simp only [Act.put, pA, pB, pC, i64_w, i32_w]
         rfl
        refine one_ (i := 28) (N := some 93) (M 32 536870911) rfl rfl (one_of HT_.out (by kernel_rfl)) (by decide) (fun K hK => ?_)
        refine goes_ Tryd.func40 (by kernel_rfl) rfl #[.agg #[.int .i64 t682, .string t683, .string t684, .string t685, .string t686, .string t687], .agg #[.int .i64 t682, .string t683, .string t684, .string t685, .string t686, .string t687]] (by rfl) rfl rfl mq ?_
        with_reducible refine (alias_Compare.calls kj8 t682 t683 t684 t685 t686 t687 t682 t683 t684 t685 t686 t687 t700 _ A59.out).mono ?_
        rintro e w86 ⟨rfl, hb⟩
        refine ⟨_, rfl, ?_⟩
        have n0_ := ak (blk_below (g := gb660) (bx BK660.out) hb)
        have n1_ := ak (blk_below (g := gb661) (bx BK661.out) hb)
        have n2_ := ak (blk_below (g := gb669) (bx BK669.out) hb)
        have n3_ := ak (blk_below (g := gb676) (bx BK676.out) hb)
        have n4_ := ak (blk_below (g := gb688) (bx BK688.out) hb)
        have n5_ := ak (blk_below (g := gb695) (bx BK695.out) hb)
        have n6_ := ak (below_step bq hb)
        clear BK660
        clear BK661
        clear BK669
        clear BK676
        clear BK688
        clear BK695
        clear HB
        have BK660 := n0_
        have BK661 := n1_
        have BK669 := n2_
        have BK676 := n3_
        have BK688 := n4_
        have BK695 := n5_
        have HB := n6_
        clear n0_ n1_ n2_ n3_ n4_ n5_ n6_
        (try clear hb)
        (try clear hb2)
        (try clear hk)
        (try clear hi)
        refine hK.out _ _ ⟨(blk_cell BK669.out 0).trans rfl, (blk_cell BK669.out 1).trans rfl, (blk_cell BK669.out 2).trans rfl, (blk_cell BK669.out 3).trans rfl, (blk_cell BK669.out 4).trans rfl, (blk_cell BK669.out 5).trans rfl, (blk_cell BK676.out 0).trans rfl, (blk_cell BK676.out 1).trans rfl, (blk_cell BK676.out 2).trans rfl, (blk_cell BK676.out 3).trans rfl, (blk_cell BK676.out 4).trans rfl, (blk_cell BK676.out 5).trans rfl, (blk_cell BK688.out 0).trans rfl, (blk_cell BK688.out 1).trans rfl, (blk_cell BK688.out 2).trans rfl, (blk_cell BK688.out 3).trans rfl, (blk_cell BK688.out 4).trans rfl, (blk_cell BK688.out 5).trans rfl, (blk_cell BK695.out 0).trans rfl, (blk_cell BK695.out 1).trans rfl, (blk_cell BK695.out 2).trans rfl, (blk_cell BK695.out 3).trans rfl, (blk_cell BK695.out 4).trans rfl, (blk_cell BK695.out 5).trans rfl⟩ (fun hHeld => ?_)
        clear hK K
        refine norm_ (a' := ?_) ?_ ?_
        rotate_left
        ·
         show Act.put _ (some 93) _ = _
         simp only [Act.put, pA, pB, pC, i64_w, i32_w]
         rfl
        refine pu 29 (some 94) (M 32 1073741823) ?_
        refine pu 30 (some 95) (M 32 2147483647) ?_
        refine pu 31 (some 4) (M 32 4294967295) ?_
        refine done_ (done_of HT_.out (by kernel_rfl)) ?_
        try go_wp2
        go_ret
        exact ⟨by first | rfl | (simp [errW_none, errW_some] <;> rfl) | (simp [*, errW_none, errW_some] <;> rfl), bq⟩
       ·
        rw [if_neg c58] at H
        have c58b0 : (t698 == t699) = false := beq_eq_false_iff_ne.mpr c58
        have c58b1 : (t698 != t699) = true := bne_iff_ne.mpr c58
        obtain rfl := Option.some.inj H
        have hnb87 := NB661_660.out
        have hnc87 := NB660_661.out
        have hnb88 := NB661_669.out
        have hnc88 := NB669_661.out
        have hnb89 := NB661_676.out
        have hnc89 := NB676_661.out
        obtain ⟨hcz90_0, hcz90_1, hcz90_2, hcz90_3, hcz90_4, hcz90_5, hcz90_6, hcz90_7, hcz90_8, hcz90_9, hcz90_10, hcz90_11⟩ := cz12 BK661.out
        obtain ⟨hfz90_0, hfz90_1, hfz90_2, hfz90_3, hfz90_4, hfz90_5, hfz90_6, hfz90_7, hfz90_8, hfz90_9, hfz90_10, hfz90_11⟩ := fz12 BK661.out
        try go_wp2_with (first | ((with_reducible refine gate_callee (f := 31) rfl ?_); refine goesL_ (some 61) rfl rfl Tryd.func31 (by kernel_rfl) rfl #[.agg #[.int .i64 a1_0, .string a1_1, .string a1_2, .string a1_3, .string a1_4, .string a1_5]] rfl mq ?_; (with_reducible refine (isoglosslaw12_few.calls a1_0 a1_1 a1_2 a1_3 a1_4 a1_5 t682 t683 t684 t685 t686 t687 _ A49.out).mono ?_); rintro e w91 ⟨rfl, hb⟩; refine ⟨_, rfl, ?_⟩; have n0_ := ak (blk_below (g := gb660) (bx BK660.out) hb); have n1_ := ak (blk_below (g := gb661) (bx BK661.out) hb); have n2_ := ak (blk_below (g := gb669) (bx BK669.out) hb); have n3_ := ak (blk_below (g := gb676) (bx BK676.out) hb); have n4_ := ak (below_step bq hb); clear BK660; clear BK661; clear BK669; clear BK676; clear HB; have BK660 := n0_; have BK661 := n1_; have BK669 := n2_; have BK676 := n3_; have HB := n4_; clear n0_ n1_ n2_ n3_ n4_; (try clear hb); (try clear hb2); (try clear hk); (try clear hi); (try clear A49)) | ((with_reducible refine gate_dst (N := 13) rfl ?_); refine box_event ?hg (N := 13) ?hd (cs := #[.int .i64 0, .string ⟨#[]⟩, .string ⟨#[]⟩, .string ⟨#[]⟩, .string ⟨#[]⟩, .string ⟨#[]⟩]) (t := 50) ?hr ?_; (case hd => rfl); (case hg => rfl); (case hr => first | (go_simp; done) | (go_simp; rfl)); intro gb688 hg w92 hbox hb; have n0_ := ak (blk_below (g := gb660) (bx BK660.out) hb); have n1_ := ak (blk_below (g := gb661) (bx BK661.out) hb); have n2_ := ak (blk_below (g := gb669) (bx BK669.out) hb); have n3_ := ak (blk_below (g := gb676) (bx BK676.out) hb); have n4_ := ak (below_step bq hb); have n5_ := ak (hbox); have n6_ := ak ((by rw [hg]; exact (below_size bq) : w.heap.size ≤ gb688)); have n7_ := ak ((by rw [hg]; exact (below_size bq) : w.heap.size ≤ gb688)); have n8_ := ak ((by rw [hg]; exact Nat.ne_of_lt (blk_lt (g := gb660) (bx BK660.out)) : gb660 ≠ gb688)); have n9_ := ak ((by rw [hg]; exact Nat.ne_of_gt (blk_lt (g := gb660) (bx BK660.out)) : gb688 ≠ gb660)); have n10_ := ak ((by rw [hg]; exact Nat.ne_of_lt (blk_lt (g := gb661) (bx BK661.out)) : gb661 ≠ gb688)); have n11_ := ak ((by rw [hg]; exact Nat.ne_of_gt (blk_lt (g := gb661) (bx BK661.out)) : gb688 ≠ gb661)); have n12_ := ak ((by rw [hg]; exact Nat.ne_of_lt (blk_lt (g := gb669) (bx BK669.out)) : gb669 ≠ gb688)); have n13_ := ak ((by rw [hg]; exact Nat.ne_of_gt (blk_lt (g := gb669) (bx BK669.out)) : gb688 ≠ gb669)); have n14_ := ak ((by rw [hg]; exact Nat.ne_of_lt (blk_lt (g := gb676) (bx BK676.out)) : gb676 ≠ gb688)); have n15_ := ak ((by rw [hg]; exact Nat.ne_of_gt (blk_lt (g := gb676) (bx BK676.out)) : gb688 ≠ gb676)); clear BK660; clear BK661; clear BK669; clear BK676; clear HB; have BK660 := n0_; have BK661 := n1_; have BK669 := n2_; have BK676 := n3_; have HB := n4_; have BK688 := n5_; have GW688 := n6_; have GE688 := n7_; have NB660_688 := n8_; have NB688_660 := n9_; have NB661_688 := n10_; have NB688_661 := n11_; have NB669_688 := n12_; have NB688_669 := n13_; have NB676_688 := n14_; have NB688_676 := n15_; clear n0_ n1_ n2_ n3_ n4_ n5_ n6_ n7_ n8_ n9_ n10_ n11_ n12_ n13_ n14_ n15_; clear hb hbox hg; have hnb93 := NB688_660.out; have hnc93 := NB660_688.out; have hnb94 := NB688_661.out; have hnc94 := NB661_688.out; have hnb95 := NB688_669.out; have hnc95 := NB669_688.out; have hnb96 := NB688_676.out; have hnc96 := NB676_688.out; obtain ⟨hcz97_0, hcz97_1, hcz97_2, hcz97_3, hcz97_4, hcz97_5⟩ := cz6 BK688.out; obtain ⟨hfz97_0, hfz97_1, hfz97_2, hfz97_3, hfz97_4, hfz97_5⟩ := fz6 BK688.out; obtain ⟨hcz98_0, hcz98_1, hcz98_2, hcz98_3, hcz98_4, hcz98_5, hcz98_6, hcz98_7, hcz98_8, hcz98_9, hcz98_10, hcz98_11⟩ := cz12 BK661.out; obtain ⟨hfz98_0, hfz98_1, hfz98_2, hfz98_3, hfz98_4, hfz98_5, hfz98_6, hfz98_7, hfz98_8, hfz98_9, hfz98_10, hfz98_11⟩ := fz12 BK661.out) | ((with_reducible refine gate_callee (f := 31) rfl ?_); refine goesL_ (some 64) rfl rfl Tryd.func31 (by kernel_rfl) rfl #[.agg #[.int .i64 a1_6, .string a1_7, .string a1_8, .string a1_9, .string a1_10, .string a1_11]] rfl mq ?_; (with_reducible refine (isoglosslaw12_few.calls a1_6 a1_7 a1_8 a1_9 a1_10 a1_11 t689 t690 t691 t692 t693 t694 _ A50.out).mono ?_); rintro e w99 ⟨rfl, hb⟩; refine ⟨_, rfl, ?_⟩; have n0_ := ak (blk_below (g := gb660) (o := .cells #[.int .i64 a0_0, .int .i64 a0_1, .int .i64 a0_2, .int .i64 a0_3, .int .i64 a0_4, .int .i64 a0_5, .int .i64 a0_6, .int .i64 a0_7, .int .i64 a0_8, .int .i64 a0_9, .int .i64 a0_10, .int .i64 a0_11, .int .i64 a0_12, .int .i64 a0_13] 63 (0, 0)) (bx (blk_far (bx (blk_far (bx (blk_far (bx (blk_far (bx (blk_far (bx (blk_far (bx BK660.out) NB660_688.out _)) NB660_688.out _)) NB660_688.out _)) NB660_688.out _)) NB660_688.out _)) NB660_688.out _)) hb); have n1_ := ak (blk_below (g := gb661) (o := .cells #[.int .i64 a1_0, .string a1_1, .string a1_2, .string a1_3, .string a1_4, .string a1_5, .int .i64 a1_6, .string a1_7, .string a1_8, .string a1_9, .string a1_10, .string a1_11] 64 (0, 0)) (bx (blk_far (bx (blk_far (bx (blk_far (bx (blk_far (bx (blk_far (bx (blk_far (bx BK661.out) NB661_688.out _)) NB661_688.out _)) NB661_688.out _)) NB661_688.out _)) NB661_688.out _)) NB661_688.out _)) hb); have n2_ := ak (blk_below (g := gb669) (o := .cells #[.int .i64 t663, .string t664, .string t665, .string t666, .string t667, .string t668] 50 (0, 0)) (bx (blk_far (bx (blk_far (bx (blk_far (bx (blk_far (bx (blk_far (bx (blk_far (bx BK669.out) NB669_688.out _)) NB669_688.out _)) NB669_688.out _)) NB669_688.out _)) NB669_688.out _)) NB669_688.out _)) hb); have n3_ := ak (blk_below (g := gb676) (o := .cells #[.int .i64 t670, .string t671, .string t672, .string t673, .string t674, .string t675] 50 (0, 0)) (bx (blk_far (bx (blk_far (bx (blk_far (bx (blk_far (bx (blk_far (bx (blk_far (bx BK676.out) NB676_688.out _)) NB676_688.out _)) NB676_688.out _)) NB676_688.out _)) NB676_688.out _)) NB676_688.out _)) hb); have n4_ := ak (blk_below (g := gb688) (o := .cells #[.int .i64 t682, .string t683, .string t684, .string t685, .string t686, .string t687] 50 (0, 0)) (bx (blk_put (cs := #[.int .i64 t682, .string t683, .string t684, .string t685, .string t686, .string ⟨#[]⟩]) (bx (blk_put (cs := #[.int .i64 t682, .string t683, .string t684, .string t685, .string ⟨#[]⟩, .string ⟨#[]⟩]) (bx (blk_put (cs := #[.int .i64 t682, .string t683, .string t684, .string ⟨#[]⟩, .string ⟨#[]⟩, .string ⟨#[]⟩]) (bx (blk_put (cs := #[.int .i64 t682, .string t683, .string ⟨#[]⟩, .string ⟨#[]⟩, .string ⟨#[]⟩, .string ⟨#[]⟩]) (bx (blk_put (cs := #[.int .i64 t682, .string ⟨#[]⟩, .string ⟨#[]⟩, .string ⟨#[]⟩, .string ⟨#[]⟩, .string ⟨#[]⟩]) (bx (blk_put (cs := #[.int .i64 0, .string ⟨#[]⟩, .string ⟨#[]⟩, .string ⟨#[]⟩, .string ⟨#[]⟩, .string ⟨#[]⟩]) (bx BK688.out) 0 _ rfl)) 1 _ rfl)) 2 _ rfl)) 3 _ rfl)) 4 _ rfl)) 5 _ rfl)) hb); have n5_ := ak (below_step bq hb); clear BK660; clear BK661; clear BK669; clear BK676; clear BK688; clear HB; have BK660 := n0_; have BK661 := n1_; have BK669 := n2_; have BK676 := n3_; have BK688 := n4_; have HB := n5_; clear n0_ n1_ n2_ n3_ n4_ n5_; (try clear hb); (try clear hb2); (try clear hk); (try clear hi); (try clear A50)) | ((with_reducible refine gate_dst (N := 14) rfl ?_); refine box_event ?hg (N := 14) ?hd (cs := #[.int .i64 0, .string ⟨#[]⟩, .string ⟨#[]⟩, .string ⟨#[]⟩, .string ⟨#[]⟩, .string ⟨#[]⟩]) (t := 50) ?hr ?_; (case hd => rfl); (case hg => rfl); (case hr => first | (go_simp; done) | (go_simp; rfl)); intro gb695 hg w100 hbox hb; have n0_ := ak (blk_below (g := gb660) (bx BK660.out) hb); have n1_ := ak (blk_below (g := gb661) (bx BK661.out) hb); have n2_ := ak (blk_below (g := gb669) (bx BK669.out) hb); have n3_ := ak (blk_below (g := gb676) (bx BK676.out) hb); have n4_ := ak (blk_below (g := gb688) (bx BK688.out) hb); have n5_ := ak (below_step bq hb); have n6_ := ak (hbox); have n7_ := ak ((by rw [hg]; exact (below_size bq) : w.heap.size ≤ gb695)); have n8_ := ak ((by rw [hg]; exact (below_size bq) : w.heap.size ≤ gb695)); have n9_ := ak ((by rw [hg]; exact Nat.ne_of_lt (blk_lt (g := gb660) (bx BK660.out)) : gb660 ≠ gb695)); have n10_ := ak ((by rw [hg]; exact Nat.ne_of_gt (blk_lt (g := gb660) (bx BK660.out)) : gb695 ≠ gb660)); have n11_ := ak ((by rw [hg]; exact Nat.ne_of_lt (blk_lt (g := gb661) (bx BK661.out)) : gb661 ≠ gb695)); have n12_ := ak ((by rw [hg]; exact Nat.ne_of_gt (blk_lt (g := gb661) (bx BK661.out)) : gb695 ≠ gb661)); have n13_ := ak ((by rw [hg]; exact Nat.ne_of_lt (blk_lt (g := gb669) (bx BK669.out)) : gb669 ≠ gb695)); have n14_ := ak ((by rw [hg]; exact Nat.ne_of_gt (blk_lt (g := gb669) (bx BK669.out)) : gb695 ≠ gb669)); have n15_ := ak ((by rw [hg]; exact Nat.ne_of_lt (blk_lt (g := gb676) (bx BK676.out)) : gb676 ≠ gb695)); have n16_ := ak ((by rw [hg]; exact Nat.ne_of_gt (blk_lt (g := gb676) (bx BK676.out)) : gb695 ≠ gb676)); have n17_ := ak ((by rw [hg]; exact Nat.ne_of_lt (blk_lt (g := gb688) (bx BK688.out)) : gb688 ≠ gb695)); have n18_ := ak ((by rw [hg]; exact Nat.ne_of_gt (blk_lt (g := gb688) (bx BK688.out)) : gb695 ≠ gb688)); clear BK660; clear BK661; clear BK669; clear BK676; clear BK688; clear HB; have BK660 := n0_; have BK661 := n1_; have BK669 := n2_; have BK676 := n3_; have BK688 := n4_; have HB := n5_; have BK695 := n6_; have GW695 := n7_; have GE695 := n8_; have NB660_695 := n9_; have NB695_660 := n10_; have NB661_695 := n11_; have NB695_661 := n12_; have NB669_695 := n13_; have NB695_669 := n14_; have NB676_695 := n15_; have NB695_676 := n16_; have NB688_695 := n17_; have NB695_688 := n18_; clear n0_ n1_ n2_ n3_ n4_ n5_ n6_ n7_ n8_ n9_ n10_ n11_ n12_ n13_ n14_ n15_ n16_ n17_ n18_; clear hb hbox hg; have hnb101 := NB695_660.out; have hnc101 := NB660_695.out; have hnb102 := NB695_661.out; have hnc102 := NB661_695.out; have hnb103 := NB695_669.out; have hnc103 := NB669_695.out; have hnb104 := NB695_676.out; have hnc104 := NB676_695.out; have hnb105 := NB695_688.out; have hnc105 := NB688_695.out; obtain ⟨hcz106_0, hcz106_1, hcz106_2, hcz106_3, hcz106_4, hcz106_5⟩ := cz6 BK695.out; obtain ⟨hfz106_0, hfz106_1, hfz106_2, hfz106_3, hfz106_4, hfz106_5⟩ := fz6 BK695.out))
        have n0_ : Aside0 (((((((w100.setCell ⟨gb695, 0, none⟩ (.int .i64 t689)).setCell ⟨gb695, 1, none⟩ (.string t690)).setCell ⟨gb695, 2, none⟩ (.string t691)).setCell ⟨gb695, 3, none⟩ (.string t692)).setCell ⟨gb695, 4, none⟩ (.string t693)).setCell ⟨gb695, 5, none⟩ (.string t694)).heap[gb660]? = some (.cells #[.int .i64 a0_0, .int .i64 a0_1, .int .i64 a0_2, .int .i64 a0_3, .int .i64 a0_4, .int .i64 a0_5, .int .i64 a0_6, .int .i64 a0_7, .int .i64 a0_8, .int .i64 a0_9, .int .i64 a0_10, .int .i64 a0_11, .int .i64 a0_12, .int .i64 a0_13] 63 (0, 0))) := ⟨(bx (blk_far (bx (blk_far (bx (blk_far (bx (blk_far (bx (blk_far (bx (blk_far (bx BK660.out) NB660_695.out _)) NB660_695.out _)) NB660_695.out _)) NB660_695.out _)) NB660_695.out _)) NB660_695.out _))⟩
        have n1_ : Aside0 (((((((w100.setCell ⟨gb695, 0, none⟩ (.int .i64 t689)).setCell ⟨gb695, 1, none⟩ (.string t690)).setCell ⟨gb695, 2, none⟩ (.string t691)).setCell ⟨gb695, 3, none⟩ (.string t692)).setCell ⟨gb695, 4, none⟩ (.string t693)).setCell ⟨gb695, 5, none⟩ (.string t694)).heap[gb661]? = some (.cells #[.int .i64 a1_0, .string a1_1, .string a1_2, .string a1_3, .string a1_4, .string a1_5, .int .i64 a1_6, .string a1_7, .string a1_8, .string a1_9, .string a1_10, .string a1_11] 64 (0, 0))) := ⟨(bx (blk_far (bx (blk_far (bx (blk_far (bx (blk_far (bx (blk_far (bx (blk_far (bx BK661.out) NB661_695.out _)) NB661_695.out _)) NB661_695.out _)) NB661_695.out _)) NB661_695.out _)) NB661_695.out _))⟩
        have n2_ : Aside0 (((((((w100.setCell ⟨gb695, 0, none⟩ (.int .i64 t689)).setCell ⟨gb695, 1, none⟩ (.string t690)).setCell ⟨gb695, 2, none⟩ (.string t691)).setCell ⟨gb695, 3, none⟩ (.string t692)).setCell ⟨gb695, 4, none⟩ (.string t693)).setCell ⟨gb695, 5, none⟩ (.string t694)).heap[gb669]? = some (.cells #[.int .i64 t663, .string t664, .string t665, .string t666, .string t667, .string t668] 50 (0, 0))) := ⟨(bx (blk_far (bx (blk_far (bx (blk_far (bx (blk_far (bx (blk_far (bx (blk_far (bx BK669.out) NB669_695.out _)) NB669_695.out _)) NB669_695.out _)) NB669_695.out _)) NB669_695.out _)) NB669_695.out _))⟩
        have n3_ : Aside0 (((((((w100.setCell ⟨gb695, 0, none⟩ (.int .i64 t689)).setCell ⟨gb695, 1, none⟩ (.string t690)).setCell ⟨gb695, 2, none⟩ (.string t691)).setCell ⟨gb695, 3, none⟩ (.string t692)).setCell ⟨gb695, 4, none⟩ (.string t693)).setCell ⟨gb695, 5, none⟩ (.string t694)).heap[gb676]? = some (.cells #[.int .i64 t670, .string t671, .string t672, .string t673, .string t674, .string t675] 50 (0, 0))) := ⟨(bx (blk_far (bx (blk_far (bx (blk_far (bx (blk_far (bx (blk_far (bx (blk_far (bx BK676.out) NB676_695.out _)) NB676_695.out _)) NB676_695.out _)) NB676_695.out _)) NB676_695.out _)) NB676_695.out _))⟩
        have n4_ : Aside0 (((((((w100.setCell ⟨gb695, 0, none⟩ (.int .i64 t689)).setCell ⟨gb695, 1, none⟩ (.string t690)).setCell ⟨gb695, 2, none⟩ (.string t691)).setCell ⟨gb695, 3, none⟩ (.string t692)).setCell ⟨gb695, 4, none⟩ (.string t693)).setCell ⟨gb695, 5, none⟩ (.string t694)).heap[gb688]? = some (.cells #[.int .i64 t682, .string t683, .string t684, .string t685, .string t686, .string t687] 50 (0, 0))) := ⟨(bx (blk_far (bx (blk_far (bx (blk_far (bx (blk_far (bx (blk_far (bx (blk_far (bx BK688.out) NB688_695.out _)) NB688_695.out _)) NB688_695.out _)) NB688_695.out _)) NB688_695.out _)) NB688_695.out _))⟩
        have n5_ : Aside0 (((((((w100.setCell ⟨gb695, 0, none⟩ (.int .i64 t689)).setCell ⟨gb695, 1, none⟩ (.string t690)).setCell ⟨gb695, 2, none⟩ (.string t691)).setCell ⟨gb695, 3, none⟩ (.string t692)).setCell ⟨gb695, 4, none⟩ (.string t693)).setCell ⟨gb695, 5, none⟩ (.string t694)).heap[gb695]? = some (.cells #[.int .i64 t689, .string t690, .string t691, .string t692, .string t693, .string t694] 50 (0, 0))) := ⟨(bx (blk_put (cs := #[.int .i64 t689, .string t690, .string t691, .string t692, .string t693, .string ⟨#[]⟩]) (bx (blk_put (cs := #[.int .i64 t689, .string t690, .string t691, .string t692, .string ⟨#[]⟩, .string ⟨#[]⟩]) (bx (blk_put (cs := #[.int .i64 t689, .string t690, .string t691, .string ⟨#[]⟩, .string ⟨#[]⟩, .string ⟨#[]⟩]) (bx (blk_put (cs := #[.int .i64 t689, .string t690, .string ⟨#[]⟩, .string ⟨#[]⟩, .string ⟨#[]⟩, .string ⟨#[]⟩]) (bx (blk_put (cs := #[.int .i64 t689, .string ⟨#[]⟩, .string ⟨#[]⟩, .string ⟨#[]⟩, .string ⟨#[]⟩, .string ⟨#[]⟩]) (bx (blk_put (cs := #[.int .i64 0, .string ⟨#[]⟩, .string ⟨#[]⟩, .string ⟨#[]⟩, .string ⟨#[]⟩, .string ⟨#[]⟩]) (bx BK695.out) 0 _ rfl)) 1 _ rfl)) 2 _ rfl)) 3 _ rfl)) 4 _ rfl)) 5 _ rfl))⟩
        have n6_ : Aside0 (Below w.heap.size w ((((((w100.setCell ⟨gb695, 0, none⟩ (.int .i64 t689)).setCell ⟨gb695, 1, none⟩ (.string t690)).setCell ⟨gb695, 2, none⟩ (.string t691)).setCell ⟨gb695, 3, none⟩ (.string t692)).setCell ⟨gb695, 4, none⟩ (.string t693)).setCell ⟨gb695, 5, none⟩ (.string t694))) := ⟨bq⟩
        (try clear BK660)
        (try clear BK661)
        (try clear BK669)
        (try clear BK676)
        (try clear BK688)
        (try clear BK695)
        (try clear HB)
        generalize ((((((w100.setCell ⟨gb695, 0, none⟩ (.int .i64 t689)).setCell ⟨gb695, 1, none⟩ (.string t690)).setCell ⟨gb695, 2, none⟩ (.string t691)).setCell ⟨gb695, 3, none⟩ (.string t692)).setCell ⟨gb695, 4, none⟩ (.string t693)).setCell ⟨gb695, 5, none⟩ (.string t694)) = w107 at n0_ n1_ n2_ n3_ n4_ n5_ n6_ ⊢
        have BK660 := n0_
        have BK661 := n1_
        have BK669 := n2_
        have BK676 := n3_
        have BK688 := n4_
        have BK695 := n5_
        have HB := n6_
        clear n0_ n1_ n2_ n3_ n4_ n5_ n6_
        have n0_ := ak (blk_drew BK660.out)
        have n1_ := ak (blk_drew BK661.out)
        have n2_ := ak (blk_drew BK669.out)
        have n3_ := ak (blk_drew BK676.out)
        have n4_ := ak (blk_drew BK688.out)
        have n5_ := ak (blk_drew BK695.out)
        have n6_ := ak (below_drew1 HB.out)
        clear BK660
        clear BK661
        clear BK669
        clear BK676
        clear BK688
        clear BK695
        clear HB
        have BK660 := n0_
        have BK661 := n1_
        have BK669 := n2_
        have BK676 := n3_
        have BK688 := n4_
        have BK695 := n5_
        have HB := n6_
        clear n0_ n1_ n2_ n3_ n4_ n5_ n6_
        refine start_ (n := 32) (S := fun w' => w'.cell? ⟨gb669, 0, none⟩ = some (.int .i64 t663) ∧ w'.cell? ⟨gb669, 1, none⟩ = some (.string t664) ∧ w'.cell? ⟨gb669, 2, none⟩ = some (.string t665) ∧ w'.cell? ⟨gb669, 3, none⟩ = some (.string t666) ∧ w'.cell? ⟨gb669, 4, none⟩ = some (.string t667) ∧ w'.cell? ⟨gb669, 5, none⟩ = some (.string t668) ∧ w'.cell? ⟨gb676, 0, none⟩ = some (.int .i64 t670) ∧ w'.cell? ⟨gb676, 1, none⟩ = some (.string t671) ∧ w'.cell? ⟨gb676, 2, none⟩ = some (.string t672) ∧ w'.cell? ⟨gb676, 3, none⟩ = some (.string t673) ∧ w'.cell? ⟨gb676, 4, none⟩ = some (.string t674) ∧ w'.cell? ⟨gb676, 5, none⟩ = some (.string t675) ∧ w'.cell? ⟨gb688, 0, none⟩ = some (.int .i64 t682) ∧ w'.cell? ⟨gb688, 1, none⟩ = some (.string t683) ∧ w'.cell? ⟨gb688, 2, none⟩ = some (.string t684) ∧ w'.cell? ⟨gb688, 3, none⟩ = some (.string t685) ∧ w'.cell? ⟨gb688, 4, none⟩ = some (.string t686) ∧ w'.cell? ⟨gb688, 5, none⟩ = some (.string t687) ∧ w'.cell? ⟨gb695, 0, none⟩ = some (.int .i64 t689) ∧ w'.cell? ⟨gb695, 1, none⟩ = some (.string t690) ∧ w'.cell? ⟨gb695, 2, none⟩ = some (.string t691) ∧ w'.cell? ⟨gb695, 3, none⟩ = some (.string t692) ∧ w'.cell? ⟨gb695, 4, none⟩ = some (.string t693) ∧ w'.cell? ⟨gb695, 5, none⟩ = some (.string t694)) (ds := []) #[false, false, false, false, false, false, false, false, false, false, false, false, false, false, false, false, false, false, false, false, false, false, false, false, false, false, false, false, false, false, false, false] (by kernel_rfl) rfl rfl ⟨(blk_cell BK669.out 0).trans rfl, (blk_cell BK669.out 1).trans rfl, (blk_cell BK669.out 2).trans rfl, (blk_cell BK669.out 3).trans rfl, (blk_cell BK669.out 4).trans rfl, (blk_cell BK669.out 5).trans rfl, (blk_cell BK676.out 0).trans rfl, (blk_cell BK676.out 1).trans rfl, (blk_cell BK676.out 2).trans rfl, (blk_cell BK676.out 3).trans rfl, (blk_cell BK676.out 4).trans rfl, (blk_cell BK676.out 5).trans rfl, (blk_cell BK688.out 0).trans rfl, (blk_cell BK688.out 1).trans rfl, (blk_cell BK688.out 2).trans rfl, (blk_cell BK688.out 3).trans rfl, (blk_cell BK688.out 4).trans rfl, (blk_cell BK688.out 5).trans rfl, (blk_cell BK695.out 0).trans rfl, (blk_cell BK695.out 1).trans rfl, (blk_cell BK695.out 2).trans rfl, (blk_cell BK695.out 3).trans rfl, (blk_cell BK695.out 4).trans rfl, (blk_cell BK695.out 5).trans rfl⟩ (fun hHeld => ?_); refine with_tabW isoglosslaw12_AliasOrders.tab11 isoglosslaw12_AliasOrders.bits11 (fun HT_ HW_ => ?_)
        generalize w107.drew = w108 at BK660 BK661 BK669 BK676 BK688 BK695 HB hHeld ⊢
        refine pu 0 (some 65) (M 32 1) ?_
        refine pu 1 (some 66) (M 32 3) ?_
        refine pu 2 (some 67) (M 32 7) ?_
        refine take_ (i := 3) (N := some 68) (v := ?_) (a' := ?_) (M 32 15) rfl rfl (take_ofW HT_.out HW_.out (by kernel_rfl)) (fun _ _ _ h => h) (Or.inl ⟨by rfl, ?_⟩) hHeld ?_ ?_
        rotate_left
        ·
         rintro w' ⟨s0, s1, s2, s3, s4, s5, s6, s7, s8, s9, s10, s11, s12, s13, s14, s15, s16, s17, s18, s19, s20, s21, s22, s23⟩
         go_simp
         with_reducible rfl
        rotate_left
        ·
         simp only [Act.put, pA, pB, pC, i64_w, i32_w]
         rfl
        refine take_ (i := 4) (N := some 69) (v := ?_) (a' := ?_) (M 32 31) rfl rfl (take_ofW HT_.out HW_.out (by kernel_rfl)) (fun _ _ _ h => h) (Or.inl ⟨by rfl, ?_⟩) hHeld ?_ ?_
        rotate_left
        ·
         rintro w' ⟨s0, s1, s2, s3, s4, s5, s6, s7, s8, s9, s10, s11, s12, s13, s14, s15, s16, s17, s18, s19, s20, s21, s22, s23⟩
         go_simp
         with_reducible rfl
        rotate_left
        ·
         simp only [Act.put, pA, pB, pC, i64_w, i32_w]
         rfl
        refine one_ (i := 5) (N := some 70) (M 32 63) rfl rfl (one_of HT_.out (by kernel_rfl)) (by decide) (fun K hK => ?_)
        refine goes_ Tryd.func41 (by kernel_rfl) rfl #[.agg #[.int .i64 t663, .string t664, .string t665, .string t666, .string t667, .string t668], .agg #[.int .i64 t670, .string t671, .string t672, .string t673, .string t674, .string t675]] (by rfl) rfl rfl mq ?_
        with_reducible refine (isoglossref12_Compare.calls t663 t664 t665 t666 t667 t668 t670 t671 t672 t673 t674 t675 t696 _ A52.out).mono ?_
        rintro e w109 ⟨rfl, hb⟩
        refine ⟨_, rfl, ?_⟩
        have n0_ := ak (blk_below (g := gb660) (bx BK660.out) hb)
        have n1_ := ak (blk_below (g := gb661) (bx BK661.out) hb)
        have n2_ := ak (blk_below (g := gb669) (bx BK669.out) hb)
        have n3_ := ak (blk_below (g := gb676) (bx BK676.out) hb)
        have n4_ := ak (blk_below (g := gb688) (bx BK688.out) hb)
        have n5_ := ak (blk_below (g := gb695) (bx BK695.out) hb)
        have n6_ := ak (below_step bq hb)
        clear BK660
        clear BK661
        clear BK669
        clear BK676
        clear BK688
        clear BK695
        clear HB
        have BK660 := n0_
        have BK661 := n1_
        have BK669 := n2_
        have BK676 := n3_
        have BK688 := n4_
        have BK695 := n5_
        have HB := n6_
        clear n0_ n1_ n2_ n3_ n4_ n5_ n6_
        (try clear hb)
        (try clear hb2)
        (try clear hk)
        (try clear hi)
        refine hK.out _ _ ⟨(blk_cell BK669.out 0).trans rfl, (blk_cell BK669.out 1).trans rfl, (blk_cell BK669.out 2).trans rfl, (blk_cell BK669.out 3).trans rfl, (blk_cell BK669.out 4).trans rfl, (blk_cell BK669.out 5).trans rfl, (blk_cell BK676.out 0).trans rfl, (blk_cell BK676.out 1).trans rfl, (blk_cell BK676.out 2).trans rfl, (blk_cell BK676.out 3).trans rfl, (blk_cell BK676.out 4).trans rfl, (blk_cell BK676.out 5).trans rfl, (blk_cell BK688.out 0).trans rfl, (blk_cell BK688.out 1).trans rfl, (blk_cell BK688.out 2).trans rfl, (blk_cell BK688.out 3).trans rfl, (blk_cell BK688.out 4).trans rfl, (blk_cell BK688.out 5).trans rfl, (blk_cell BK695.out 0).trans rfl, (blk_cell BK695.out 1).trans rfl, (blk_cell BK695.out 2).trans rfl, (blk_cell BK695.out 3).trans rfl, (blk_cell BK695.out 4).trans rfl, (blk_cell BK695.out 5).trans rfl⟩ (fun hHeld => ?_)
        clear hK K
        refine norm_ (a' := ?_) ?_ ?_
        rotate_left
        ·
         show Act.put _ (some 70) _ = _
         simp only [Act.put, pA, pB, pC, i64_w, i32_w]
         rfl
        refine pu 6 (some 71) (M 32 127) ?_
        refine pu 7 (some 72) (M 32 255) ?_
        refine pu 8 (some 73) (M 32 511) ?_
        refine pu 12 (some 77) (M 32 4607) ?_
        refine pu 13 (some 78) (M 32 12799) ?_
        refine take_ (i := 9) (N := some 74) (v := ?_) (a' := ?_) (M 32 13311) rfl rfl (take_ofW HT_.out HW_.out (by kernel_rfl)) (fun _ _ _ h => h) (Or.inl ⟨by rfl, ?_⟩) hHeld ?_ ?_
        rotate_left
        ·
         rintro w' ⟨s0, s1, s2, s3, s4, s5, s6, s7, s8, s9, s10, s11, s12, s13, s14, s15, s16, s17, s18, s19, s20, s21, s22, s23⟩
         go_simp
         with_reducible rfl
        rotate_left
        ·
         simp only [Act.put, pA, pB, pC, i64_w, i32_w]
         rfl
        refine take_ (i := 10) (N := some 75) (v := ?_) (a' := ?_) (M 32 14335) rfl rfl (take_ofW HT_.out HW_.out (by kernel_rfl)) (fun _ _ _ h => h) (Or.inl ⟨by rfl, ?_⟩) hHeld ?_ ?_
        rotate_left
        ·
         rintro w' ⟨s0, s1, s2, s3, s4, s5, s6, s7, s8, s9, s10, s11, s12, s13, s14, s15, s16, s17, s18, s19, s20, s21, s22, s23⟩
         go_simp
         with_reducible rfl
        rotate_left
        ·
         simp only [Act.put, pA, pB, pC, i64_w, i32_w]
         rfl
        refine one_ (i := 11) (N := some 76) (M 32 16383) rfl rfl (one_of HT_.out (by kernel_rfl)) (by decide) (fun K hK => ?_)
        refine goes_ Tryd.func40 (by kernel_rfl) rfl #[.agg #[.int .i64 t670, .string t671, .string t672, .string t673, .string t674, .string t675], .agg #[.int .i64 t663, .string t664, .string t665, .string t666, .string t667, .string t668]] (by rfl) rfl rfl mq ?_
        with_reducible refine (alias_Compare.calls kj8 t670 t671 t672 t673 t674 t675 t663 t664 t665 t666 t667 t668 t697 _ A54.out).mono ?_
        rintro e w110 ⟨rfl, hb⟩
        refine ⟨_, rfl, ?_⟩
        have n0_ := ak (blk_below (g := gb660) (bx BK660.out) hb)
        have n1_ := ak (blk_below (g := gb661) (bx BK661.out) hb)
        have n2_ := ak (blk_below (g := gb669) (bx BK669.out) hb)
        have n3_ := ak (blk_below (g := gb676) (bx BK676.out) hb)
        have n4_ := ak (blk_below (g := gb688) (bx BK688.out) hb)
        have n5_ := ak (blk_below (g := gb695) (bx BK695.out) hb)
        have n6_ := ak (below_step bq hb)
        clear BK660
        clear BK661
        clear BK669
        clear BK676
        clear BK688
        clear BK695
        clear HB
        have BK660 := n0_
        have BK661 := n1_
        have BK669 := n2_
        have BK676 := n3_
        have BK688 := n4_
        have BK695 := n5_
        have HB := n6_
        clear n0_ n1_ n2_ n3_ n4_ n5_ n6_
        (try clear hb)
        (try clear hb2)
        (try clear hk)
        (try clear hi)
        refine hK.out _ _ ⟨(blk_cell BK669.out 0).trans rfl, (blk_cell BK669.out 1).trans rfl, (blk_cell BK669.out 2).trans rfl, (blk_cell BK669.out 3).trans rfl, (blk_cell BK669.out 4).trans rfl, (blk_cell BK669.out 5).trans rfl, (blk_cell BK676.out 0).trans rfl, (blk_cell BK676.out 1).trans rfl, (blk_cell BK676.out 2).trans rfl, (blk_cell BK676.out 3).trans rfl, (blk_cell BK676.out 4).trans rfl, (blk_cell BK676.out 5).trans rfl, (blk_cell BK688.out 0).trans rfl, (blk_cell BK688.out 1).trans rfl, (blk_cell BK688.out 2).trans rfl, (blk_cell BK688.out 3).trans rfl, (blk_cell BK688.out 4).trans rfl, (blk_cell BK688.out 5).trans rfl, (blk_cell BK695.out 0).trans rfl, (blk_cell BK695.out 1).trans rfl, (blk_cell BK695.out 2).trans rfl, (blk_cell BK695.out 3).trans rfl, (blk_cell BK695.out 4).trans rfl, (blk_cell BK695.out 5).trans rfl⟩ (fun hHeld => ?_)
        clear hK K
        refine norm_ (a' := ?_) ?_ ?_
        rotate_left
        ·
         show Act.put _ (some 76) _ = _
         simp only [Act.put, pA, pB, pC, i64_w, i32_w]
         rfl
        refine pu 14 (some 79) (M 32 32767) ?_
        refine pu 15 (some 80) (M 32 65535) ?_
        refine pu 16 (some 81) (M 32 131071) ?_
        refine take_ (i := 17) (N := some 82) (v := ?_) (a' := ?_) (M 32 262143) rfl rfl (take_ofW HT_.out HW_.out (by kernel_rfl)) (fun _ _ _ h => h) (Or.inl ⟨by rfl, ?_⟩) hHeld ?_ ?_
        rotate_left
        ·
         rintro w' ⟨s0, s1, s2, s3, s4, s5, s6, s7, s8, s9, s10, s11, s12, s13, s14, s15, s16, s17, s18, s19, s20, s21, s22, s23⟩
         go_simp
         with_reducible rfl
        rotate_left
        ·
         simp only [Act.put, pA, pB, pC, i64_w, i32_w]
         rfl
        refine take_ (i := 18) (N := some 83) (v := ?_) (a' := ?_) (M 32 524287) rfl rfl (take_ofW HT_.out HW_.out (by kernel_rfl)) (fun _ _ _ h => h) (Or.inl ⟨by rfl, ?_⟩) hHeld ?_ ?_
        rotate_left
        ·
         rintro w' ⟨s0, s1, s2, s3, s4, s5, s6, s7, s8, s9, s10, s11, s12, s13, s14, s15, s16, s17, s18, s19, s20, s21, s22, s23⟩
         go_simp
         with_reducible rfl
        rotate_left
        ·
         simp only [Act.put, pA, pB, pC, i64_w, i32_w]
         rfl
        refine take_ (i := 20) (N := some 85) (v := ?_) (a' := ?_) (M 32 1572863) rfl rfl (take_ofW HT_.out HW_.out (by kernel_rfl)) (fun _ _ _ h => h) (Or.inl ⟨by rfl, ?_⟩) hHeld ?_ ?_
        rotate_left
        ·
         rintro w' ⟨s0, s1, s2, s3, s4, s5, s6, s7, s8, s9, s10, s11, s12, s13, s14, s15, s16, s17, s18, s19, s20, s21, s22, s23⟩
         go_simp
         with_reducible rfl
        rotate_left
        ·
         simp only [Act.put, pA, pB, pC, i64_w, i32_w]
         rfl
        refine take_ (i := 21) (N := some 86) (v := ?_) (a' := ?_) (M 32 3670015) rfl rfl (take_ofW HT_.out HW_.out (by kernel_rfl)) (fun _ _ _ h => h) (Or.inl ⟨by rfl, ?_⟩) hHeld ?_ ?_
        rotate_left
        ·
         rintro w' ⟨s0, s1, s2, s3, s4, s5, s6, s7, s8, s9, s10, s11, s12, s13, s14, s15, s16, s17, s18, s19, s20, s21, s22, s23⟩
         go_simp
         with_reducible rfl
        rotate_left
        ·
         simp only [Act.put, pA, pB, pC, i64_w, i32_w]
         rfl
        refine one_ (i := 19) (N := some 84) (M 32 4194303) rfl rfl (one_of HT_.out (by kernel_rfl)) (by decide) (fun K hK => ?_)
        refine goes_ Tryd.func40 (by kernel_rfl) rfl #[.agg #[.int .i64 t682, .string t683, .string t684, .string t685, .string t686, .string t687], .agg #[.int .i64 t689, .string t690, .string t691, .string t692, .string t693, .string t694]] (by rfl) rfl rfl mq ?_
        with_reducible refine (alias_Compare.calls kj8 t682 t683 t684 t685 t686 t687 t689 t690 t691 t692 t693 t694 t698 _ A56.out).mono ?_
        rintro e w111 ⟨rfl, hb⟩
        refine ⟨_, rfl, ?_⟩
        have n0_ := ak (blk_below (g := gb660) (bx BK660.out) hb)
        have n1_ := ak (blk_below (g := gb661) (bx BK661.out) hb)
        have n2_ := ak (blk_below (g := gb669) (bx BK669.out) hb)
        have n3_ := ak (blk_below (g := gb676) (bx BK676.out) hb)
        have n4_ := ak (blk_below (g := gb688) (bx BK688.out) hb)
        have n5_ := ak (blk_below (g := gb695) (bx BK695.out) hb)
        have n6_ := ak (below_step bq hb)
        clear BK660
        clear BK661
        clear BK669
        clear BK676
        clear BK688
        clear BK695
        clear HB
        have BK660 := n0_
        have BK661 := n1_
        have BK669 := n2_
        have BK676 := n3_
        have BK688 := n4_
        have BK695 := n5_
        have HB := n6_
        clear n0_ n1_ n2_ n3_ n4_ n5_ n6_
        (try clear hb)
        (try clear hb2)
        (try clear hk)
        (try clear hi)
        refine hK.out _ _ ⟨(blk_cell BK669.out 0).trans rfl, (blk_cell BK669.out 1).trans rfl, (blk_cell BK669.out 2).trans rfl, (blk_cell BK669.out 3).trans rfl, (blk_cell BK669.out 4).trans rfl, (blk_cell BK669.out 5).trans rfl, (blk_cell BK676.out 0).trans rfl, (blk_cell BK676.out 1).trans rfl, (blk_cell BK676.out 2).trans rfl, (blk_cell BK676.out 3).trans rfl, (blk_cell BK676.out 4).trans rfl, (blk_cell BK676.out 5).trans rfl, (blk_cell BK688.out 0).trans rfl, (blk_cell BK688.out 1).trans rfl, (blk_cell BK688.out 2).trans rfl, (blk_cell BK688.out 3).trans rfl, (blk_cell BK688.out 4).trans rfl, (blk_cell BK688.out 5).trans rfl, (blk_cell BK695.out 0).trans rfl, (blk_cell BK695.out 1).trans rfl, (blk_cell BK695.out 2).trans rfl, (blk_cell BK695.out 3).trans rfl, (blk_cell BK695.out 4).trans rfl, (blk_cell BK695.out 5).trans rfl⟩ (fun hHeld => ?_)
        clear hK K
        refine norm_ (a' := ?_) ?_ ?_
        rotate_left
        ·
         show Act.put _ (some 84) _ = _
         simp only [Act.put, pA, pB, pC, i64_w, i32_w]
         rfl
        refine one_ (i := 22) (N := some 87) (M 32 8388607) rfl rfl (one_of HT_.out (by kernel_rfl)) (by decide) (fun K hK => ?_)
        refine goes_ Tryd.func41 (by kernel_rfl) rfl #[.agg #[.int .i64 t682, .string t683, .string t684, .string t685, .string t686, .string t687], .agg #[.int .i64 t689, .string t690, .string t691, .string t692, .string t693, .string t694]] (by rfl) rfl rfl mq ?_
        with_reducible refine (isoglossref12_Compare.calls t682 t683 t684 t685 t686 t687 t689 t690 t691 t692 t693 t694 t699 _ A57.out).mono ?_
        rintro e w112 ⟨rfl, hb⟩
        refine ⟨_, rfl, ?_⟩
        have n0_ := ak (blk_below (g := gb660) (bx BK660.out) hb)
        have n1_ := ak (blk_below (g := gb661) (bx BK661.out) hb)
        have n2_ := ak (blk_below (g := gb669) (bx BK669.out) hb)
        have n3_ := ak (blk_below (g := gb676) (bx BK676.out) hb)
        have n4_ := ak (blk_below (g := gb688) (bx BK688.out) hb)
        have n5_ := ak (blk_below (g := gb695) (bx BK695.out) hb)
        have n6_ := ak (below_step bq hb)
        clear BK660
        clear BK661
        clear BK669
        clear BK676
        clear BK688
        clear BK695
        clear HB
        have BK660 := n0_
        have BK661 := n1_
        have BK669 := n2_
        have BK676 := n3_
        have BK688 := n4_
        have BK695 := n5_
        have HB := n6_
        clear n0_ n1_ n2_ n3_ n4_ n5_ n6_
        (try clear hb)
        (try clear hb2)
        (try clear hk)
        (try clear hi)
        refine hK.out _ _ ⟨(blk_cell BK669.out 0).trans rfl, (blk_cell BK669.out 1).trans rfl, (blk_cell BK669.out 2).trans rfl, (blk_cell BK669.out 3).trans rfl, (blk_cell BK669.out 4).trans rfl, (blk_cell BK669.out 5).trans rfl, (blk_cell BK676.out 0).trans rfl, (blk_cell BK676.out 1).trans rfl, (blk_cell BK676.out 2).trans rfl, (blk_cell BK676.out 3).trans rfl, (blk_cell BK676.out 4).trans rfl, (blk_cell BK676.out 5).trans rfl, (blk_cell BK688.out 0).trans rfl, (blk_cell BK688.out 1).trans rfl, (blk_cell BK688.out 2).trans rfl, (blk_cell BK688.out 3).trans rfl, (blk_cell BK688.out 4).trans rfl, (blk_cell BK688.out 5).trans rfl, (blk_cell BK695.out 0).trans rfl, (blk_cell BK695.out 1).trans rfl, (blk_cell BK695.out 2).trans rfl, (blk_cell BK695.out 3).trans rfl, (blk_cell BK695.out 4).trans rfl, (blk_cell BK695.out 5).trans rfl⟩ (fun hHeld => ?_)
        clear hK K
        refine norm_ (a' := ?_) ?_ ?_
        rotate_left
        ·
         show Act.put _ (some 87) _ = _
         simp only [Act.put, pA, pB, pC, i64_w, i32_w]
         rfl
        refine pu 23 (some 88) (M 32 16777215) ?_
        refine pu 24 (some 89) (M 32 33554431) ?_
        refine pu 25 (some 90) (M 32 67108863) ?_
        refine pn 26 (some 91) (M 32 134217727) ?_
        refine pn 27 (some 92) (M 32 268435455) ?_
        refine pn 28 (some 93) (M 32 536870911) ?_
        refine pn 29 (some 94) (M 32 1073741823) ?_
        refine pu 30 (some 95) (M 32 2147483647) ?_
        refine pu 31 (some 4) (M 32 4294967295) ?_
        refine done_ (done_of HT_.out (by kernel_rfl)) ?_
        try go_wp2
        go_ret
        exact ⟨by first | rfl | (simp [errW_none, errW_some] <;> rfl) | (simp [*, errW_none, errW_some] <;> rfl), bq⟩
      ·
       rw [if_neg c55] at H
       have c55b0 : (t697 == (wrap64 (-t677))) = false := beq_eq_false_iff_ne.mpr c55
       have c55b1 : (t697 != (wrap64 (-t677))) = true := bne_iff_ne.mpr c55
       obtain rfl := Option.some.inj H
       have hnb113 := NB661_660.out
       have hnc113 := NB660_661.out
       have hnb114 := NB661_669.out
       have hnc114 := NB669_661.out
       have hnb115 := NB661_676.out
       have hnc115 := NB676_661.out
       obtain ⟨hcz116_0, hcz116_1, hcz116_2, hcz116_3, hcz116_4, hcz116_5, hcz116_6, hcz116_7, hcz116_8, hcz116_9, hcz116_10, hcz116_11⟩ := cz12 BK661.out
       obtain ⟨hfz116_0, hfz116_1, hfz116_2, hfz116_3, hfz116_4, hfz116_5, hfz116_6, hfz116_7, hfz116_8, hfz116_9, hfz116_10, hfz116_11⟩ := fz12 BK661.out
       try go_wp2_with (first | ((with_reducible refine gate_callee (f := 31) rfl ?_); refine goesL_ (some 61) rfl rfl Tryd.func31 (by kernel_rfl) rfl #[.agg #[.int .i64 a1_0, .string a1_1, .string a1_2, .string a1_3, .string a1_4, .string a1_5]] rfl mq ?_; (with_reducible refine (isoglosslaw12_few.calls a1_0 a1_1 a1_2 a1_3 a1_4 a1_5 t682 t683 t684 t685 t686 t687 _ A49.out).mono ?_); rintro e w117 ⟨rfl, hb⟩; refine ⟨_, rfl, ?_⟩; have n0_ := ak (blk_below (g := gb660) (bx BK660.out) hb); have n1_ := ak (blk_below (g := gb661) (bx BK661.out) hb); have n2_ := ak (blk_below (g := gb669) (bx BK669.out) hb); have n3_ := ak (blk_below (g := gb676) (bx BK676.out) hb); have n4_ := ak (below_step bq hb); clear BK660; clear BK661; clear BK669; clear BK676; clear HB; have BK660 := n0_; have BK661 := n1_; have BK669 := n2_; have BK676 := n3_; have HB := n4_; clear n0_ n1_ n2_ n3_ n4_; (try clear hb); (try clear hb2); (try clear hk); (try clear hi); (try clear A49)) | ((with_reducible refine gate_dst (N := 13) rfl ?_); refine box_event ?hg (N := 13) ?hd (cs := #[.int .i64 0, .string ⟨#[]⟩, .string ⟨#[]⟩, .string ⟨#[]⟩, .string ⟨#[]⟩, .string ⟨#[]⟩]) (t := 50) ?hr ?_; (case hd => rfl); (case hg => rfl); (case hr => first | (go_simp; done) | (go_simp; rfl)); intro gb688 hg w118 hbox hb; have n0_ := ak (blk_below (g := gb660) (bx BK660.out) hb); have n1_ := ak (blk_below (g := gb661) (bx BK661.out) hb); have n2_ := ak (blk_below (g := gb669) (bx BK669.out) hb); have n3_ := ak (blk_below (g := gb676) (bx BK676.out) hb); have n4_ := ak (below_step bq hb); have n5_ := ak (hbox); have n6_ := ak ((by rw [hg]; exact (below_size bq) : w.heap.size ≤ gb688)); have n7_ := ak ((by rw [hg]; exact (below_size bq) : w.heap.size ≤ gb688)); have n8_ := ak ((by rw [hg]; exact Nat.ne_of_lt (blk_lt (g := gb660) (bx BK660.out)) : gb660 ≠ gb688)); have n9_ := ak ((by rw [hg]; exact Nat.ne_of_gt (blk_lt (g := gb660) (bx BK660.out)) : gb688 ≠ gb660)); have n10_ := ak ((by rw [hg]; exact Nat.ne_of_lt (blk_lt (g := gb661) (bx BK661.out)) : gb661 ≠ gb688)); have n11_ := ak ((by rw [hg]; exact Nat.ne_of_gt (blk_lt (g := gb661) (bx BK661.out)) : gb688 ≠ gb661)); have n12_ := ak ((by rw [hg]; exact Nat.ne_of_lt (blk_lt (g := gb669) (bx BK669.out)) : gb669 ≠ gb688)); have n13_ := ak ((by rw [hg]; exact Nat.ne_of_gt (blk_lt (g := gb669) (bx BK669.out)) : gb688 ≠ gb669)); have n14_ := ak ((by rw [hg]; exact Nat.ne_of_lt (blk_lt (g := gb676) (bx BK676.out)) : gb676 ≠ gb688)); have n15_ := ak ((by rw [hg]; exact Nat.ne_of_gt (blk_lt (g := gb676) (bx BK676.out)) : gb688 ≠ gb676)); clear BK660; clear BK661; clear BK669; clear BK676; clear HB; have BK660 := n0_; have BK661 := n1_; have BK669 := n2_; have BK676 := n3_; have HB := n4_; have BK688 := n5_; have GW688 := n6_; have GE688 := n7_; have NB660_688 := n8_; have NB688_660 := n9_; have NB661_688 := n10_; have NB688_661 := n11_; have NB669_688 := n12_; have NB688_669 := n13_; have NB676_688 := n14_; have NB688_676 := n15_; clear n0_ n1_ n2_ n3_ n4_ n5_ n6_ n7_ n8_ n9_ n10_ n11_ n12_ n13_ n14_ n15_; clear hb hbox hg; have hnb119 := NB688_660.out; have hnc119 := NB660_688.out; have hnb120 := NB688_661.out; have hnc120 := NB661_688.out; have hnb121 := NB688_669.out; have hnc121 := NB669_688.out; have hnb122 := NB688_676.out; have hnc122 := NB676_688.out; obtain ⟨hcz123_0, hcz123_1, hcz123_2, hcz123_3, hcz123_4, hcz123_5⟩ := cz6 BK688.out; obtain ⟨hfz123_0, hfz123_1, hfz123_2, hfz123_3, hfz123_4, hfz123_5⟩ := fz6 BK688.out; obtain ⟨hcz124_0, hcz124_1, hcz124_2, hcz124_3, hcz124_4, hcz124_5, hcz124_6, hcz124_7, hcz124_8, hcz124_9, hcz124_10, hcz124_11⟩ := cz12 BK661.out; obtain ⟨hfz124_0, hfz124_1, hfz124_2, hfz124_3, hfz124_4, hfz124_5, hfz124_6, hfz124_7, hfz124_8, hfz124_9, hfz124_10, hfz124_11⟩ := fz12 BK661.out) | ((with_reducible refine gate_callee (f := 31) rfl ?_); refine goesL_ (some 64) rfl rfl Tryd.func31 (by kernel_rfl) rfl #[.agg #[.int .i64 a1_6, .string a1_7, .string a1_8, .string a1_9, .string a1_10, .string a1_11]] rfl mq ?_; (with_reducible refine (isoglosslaw12_few.calls a1_6 a1_7 a1_8 a1_9 a1_10 a1_11 t689 t690 t691 t692 t693 t694 _ A50.out).mono ?_); rintro e w125 ⟨rfl, hb⟩; refine ⟨_, rfl, ?_⟩; have n0_ := ak (blk_below (g := gb660) (o := .cells #[.int .i64 a0_0, .int .i64 a0_1, .int .i64 a0_2, .int .i64 a0_3, .int .i64 a0_4, .int .i64 a0_5, .int .i64 a0_6, .int .i64 a0_7, .int .i64 a0_8, .int .i64 a0_9, .int .i64 a0_10, .int .i64 a0_11, .int .i64 a0_12, .int .i64 a0_13] 63 (0, 0)) (bx (blk_far (bx (blk_far (bx (blk_far (bx (blk_far (bx (blk_far (bx (blk_far (bx BK660.out) NB660_688.out _)) NB660_688.out _)) NB660_688.out _)) NB660_688.out _)) NB660_688.out _)) NB660_688.out _)) hb); have n1_ := ak (blk_below (g := gb661) (o := .cells #[.int .i64 a1_0, .string a1_1, .string a1_2, .string a1_3, .string a1_4, .string a1_5, .int .i64 a1_6, .string a1_7, .string a1_8, .string a1_9, .string a1_10, .string a1_11] 64 (0, 0)) (bx (blk_far (bx (blk_far (bx (blk_far (bx (blk_far (bx (blk_far (bx (blk_far (bx BK661.out) NB661_688.out _)) NB661_688.out _)) NB661_688.out _)) NB661_688.out _)) NB661_688.out _)) NB661_688.out _)) hb); have n2_ := ak (blk_below (g := gb669) (o := .cells #[.int .i64 t663, .string t664, .string t665, .string t666, .string t667, .string t668] 50 (0, 0)) (bx (blk_far (bx (blk_far (bx (blk_far (bx (blk_far (bx (blk_far (bx (blk_far (bx BK669.out) NB669_688.out _)) NB669_688.out _)) NB669_688.out _)) NB669_688.out _)) NB669_688.out _)) NB669_688.out _)) hb); have n3_ := ak (blk_below (g := gb676) (o := .cells #[.int .i64 t670, .string t671, .string t672, .string t673, .string t674, .string t675] 50 (0, 0)) (bx (blk_far (bx (blk_far (bx (blk_far (bx (blk_far (bx (blk_far (bx (blk_far (bx BK676.out) NB676_688.out _)) NB676_688.out _)) NB676_688.out _)) NB676_688.out _)) NB676_688.out _)) NB676_688.out _)) hb); have n4_ := ak (blk_below (g := gb688) (o := .cells #[.int .i64 t682, .string t683, .string t684, .string t685, .string t686, .string t687] 50 (0, 0)) (bx (blk_put (cs := #[.int .i64 t682, .string t683, .string t684, .string t685, .string t686, .string ⟨#[]⟩]) (bx (blk_put (cs := #[.int .i64 t682, .string t683, .string t684, .string t685, .string ⟨#[]⟩, .string ⟨#[]⟩]) (bx (blk_put (cs := #[.int .i64 t682, .string t683, .string t684, .string ⟨#[]⟩, .string ⟨#[]⟩, .string ⟨#[]⟩]) (bx (blk_put (cs := #[.int .i64 t682, .string t683, .string ⟨#[]⟩, .string ⟨#[]⟩, .string ⟨#[]⟩, .string ⟨#[]⟩]) (bx (blk_put (cs := #[.int .i64 t682, .string ⟨#[]⟩, .string ⟨#[]⟩, .string ⟨#[]⟩, .string ⟨#[]⟩, .string ⟨#[]⟩]) (bx (blk_put (cs := #[.int .i64 0, .string ⟨#[]⟩, .string ⟨#[]⟩, .string ⟨#[]⟩, .string ⟨#[]⟩, .string ⟨#[]⟩]) (bx BK688.out) 0 _ rfl)) 1 _ rfl)) 2 _ rfl)) 3 _ rfl)) 4 _ rfl)) 5 _ rfl)) hb); have n5_ := ak (below_step bq hb); clear BK660; clear BK661; clear BK669; clear BK676; clear BK688; clear HB; have BK660 := n0_; have BK661 := n1_; have BK669 := n2_; have BK676 := n3_; have BK688 := n4_; have HB := n5_; clear n0_ n1_ n2_ n3_ n4_ n5_; (try clear hb); (try clear hb2); (try clear hk); (try clear hi); (try clear A50)) | ((with_reducible refine gate_dst (N := 14) rfl ?_); refine box_event ?hg (N := 14) ?hd (cs := #[.int .i64 0, .string ⟨#[]⟩, .string ⟨#[]⟩, .string ⟨#[]⟩, .string ⟨#[]⟩, .string ⟨#[]⟩]) (t := 50) ?hr ?_; (case hd => rfl); (case hg => rfl); (case hr => first | (go_simp; done) | (go_simp; rfl)); intro gb695 hg w126 hbox hb; have n0_ := ak (blk_below (g := gb660) (bx BK660.out) hb); have n1_ := ak (blk_below (g := gb661) (bx BK661.out) hb); have n2_ := ak (blk_below (g := gb669) (bx BK669.out) hb); have n3_ := ak (blk_below (g := gb676) (bx BK676.out) hb); have n4_ := ak (blk_below (g := gb688) (bx BK688.out) hb); have n5_ := ak (below_step bq hb); have n6_ := ak (hbox); have n7_ := ak ((by rw [hg]; exact (below_size bq) : w.heap.size ≤ gb695)); have n8_ := ak ((by rw [hg]; exact (below_size bq) : w.heap.size ≤ gb695)); have n9_ := ak ((by rw [hg]; exact Nat.ne_of_lt (blk_lt (g := gb660) (bx BK660.out)) : gb660 ≠ gb695)); have n10_ := ak ((by rw [hg]; exact Nat.ne_of_gt (blk_lt (g := gb660) (bx BK660.out)) : gb695 ≠ gb660)); have n11_ := ak ((by rw [hg]; exact Nat.ne_of_lt (blk_lt (g := gb661) (bx BK661.out)) : gb661 ≠ gb695)); have n12_ := ak ((by rw [hg]; exact Nat.ne_of_gt (blk_lt (g := gb661) (bx BK661.out)) : gb695 ≠ gb661)); have n13_ := ak ((by rw [hg]; exact Nat.ne_of_lt (blk_lt (g := gb669) (bx BK669.out)) : gb669 ≠ gb695)); have n14_ := ak ((by rw [hg]; exact Nat.ne_of_gt (blk_lt (g := gb669) (bx BK669.out)) : gb695 ≠ gb669)); have n15_ := ak ((by rw [hg]; exact Nat.ne_of_lt (blk_lt (g := gb676) (bx BK676.out)) : gb676 ≠ gb695)); have n16_ := ak ((by rw [hg]; exact Nat.ne_of_gt (blk_lt (g := gb676) (bx BK676.out)) : gb695 ≠ gb676)); have n17_ := ak ((by rw [hg]; exact Nat.ne_of_lt (blk_lt (g := gb688) (bx BK688.out)) : gb688 ≠ gb695)); have n18_ := ak ((by rw [hg]; exact Nat.ne_of_gt (blk_lt (g := gb688) (bx BK688.out)) : gb695 ≠ gb688)); clear BK660; clear BK661; clear BK669; clear BK676; clear BK688; clear HB; have BK660 := n0_; have BK661 := n1_; have BK669 := n2_; have BK676 := n3_; have BK688 := n4_; have HB := n5_; have BK695 := n6_; have GW695 := n7_; have GE695 := n8_; have NB660_695 := n9_; have NB695_660 := n10_; have NB661_695 := n11_; have NB695_661 := n12_; have NB669_695 := n13_; have NB695_669 := n14_; have NB676_695 := n15_; have NB695_676 := n16_; have NB688_695 := n17_; have NB695_688 := n18_; clear n0_ n1_ n2_ n3_ n4_ n5_ n6_ n7_ n8_ n9_ n10_ n11_ n12_ n13_ n14_ n15_ n16_ n17_ n18_; clear hb hbox hg; have hnb127 := NB695_660.out; have hnc127 := NB660_695.out; have hnb128 := NB695_661.out; have hnc128 := NB661_695.out; have hnb129 := NB695_669.out; have hnc129 := NB669_695.out; have hnb130 := NB695_676.out; have hnc130 := NB676_695.out; have hnb131 := NB695_688.out; have hnc131 := NB688_695.out; obtain ⟨hcz132_0, hcz132_1, hcz132_2, hcz132_3, hcz132_4, hcz132_5⟩ := cz6 BK695.out; obtain ⟨hfz132_0, hfz132_1, hfz132_2, hfz132_3, hfz132_4, hfz132_5⟩ := fz6 BK695.out))
       have n0_ : Aside0 (((((((w126.setCell ⟨gb695, 0, none⟩ (.int .i64 t689)).setCell ⟨gb695, 1, none⟩ (.string t690)).setCell ⟨gb695, 2, none⟩ (.string t691)).setCell ⟨gb695, 3, none⟩ (.string t692)).setCell ⟨gb695, 4, none⟩ (.string t693)).setCell ⟨gb695, 5, none⟩ (.string t694)).heap[gb660]? = some (.cells #[.int .i64 a0_0, .int .i64 a0_1, .int .i64 a0_2, .int .i64 a0_3, .int .i64 a0_4, .int .i64 a0_5, .int .i64 a0_6, .int .i64 a0_7, .int .i64 a0_8, .int .i64 a0_9, .int .i64 a0_10, .int .i64 a0_11, .int .i64 a0_12, .int .i64 a0_13] 63 (0, 0))) := ⟨(bx (blk_far (bx (blk_far (bx (blk_far (bx (blk_far (bx (blk_far (bx (blk_far (bx BK660.out) NB660_695.out _)) NB660_695.out _)) NB660_695.out _)) NB660_695.out _)) NB660_695.out _)) NB660_695.out _))⟩
       have n1_ : Aside0 (((((((w126.setCell ⟨gb695, 0, none⟩ (.int .i64 t689)).setCell ⟨gb695, 1, none⟩ (.string t690)).setCell ⟨gb695, 2, none⟩ (.string t691)).setCell ⟨gb695, 3, none⟩ (.string t692)).setCell ⟨gb695, 4, none⟩ (.string t693)).setCell ⟨gb695, 5, none⟩ (.string t694)).heap[gb661]? = some (.cells #[.int .i64 a1_0, .string a1_1, .string a1_2, .string a1_3, .string a1_4, .string a1_5, .int .i64 a1_6, .string a1_7, .string a1_8, .string a1_9, .string a1_10, .string a1_11] 64 (0, 0))) := ⟨(bx (blk_far (bx (blk_far (bx (blk_far (bx (blk_far (bx (blk_far (bx (blk_far (bx BK661.out) NB661_695.out _)) NB661_695.out _)) NB661_695.out _)) NB661_695.out _)) NB661_695.out _)) NB661_695.out _))⟩
       have n2_ : Aside0 (((((((w126.setCell ⟨gb695, 0, none⟩ (.int .i64 t689)).setCell ⟨gb695, 1, none⟩ (.string t690)).setCell ⟨gb695, 2, none⟩ (.string t691)).setCell ⟨gb695, 3, none⟩ (.string t692)).setCell ⟨gb695, 4, none⟩ (.string t693)).setCell ⟨gb695, 5, none⟩ (.string t694)).heap[gb669]? = some (.cells #[.int .i64 t663, .string t664, .string t665, .string t666, .string t667, .string t668] 50 (0, 0))) := ⟨(bx (blk_far (bx (blk_far (bx (blk_far (bx (blk_far (bx (blk_far (bx (blk_far (bx BK669.out) NB669_695.out _)) NB669_695.out _)) NB669_695.out _)) NB669_695.out _)) NB669_695.out _)) NB669_695.out _))⟩
       have n3_ : Aside0 (((((((w126.setCell ⟨gb695, 0, none⟩ (.int .i64 t689)).setCell ⟨gb695, 1, none⟩ (.string t690)).setCell ⟨gb695, 2, none⟩ (.string t691)).setCell ⟨gb695, 3, none⟩ (.string t692)).setCell ⟨gb695, 4, none⟩ (.string t693)).setCell ⟨gb695, 5, none⟩ (.string t694)).heap[gb676]? = some (.cells #[.int .i64 t670, .string t671, .string t672, .string t673, .string t674, .string t675] 50 (0, 0))) := ⟨(bx (blk_far (bx (blk_far (bx (blk_far (bx (blk_far (bx (blk_far (bx (blk_far (bx BK676.out) NB676_695.out _)) NB676_695.out _)) NB676_695.out _)) NB676_695.out _)) NB676_695.out _)) NB676_695.out _))⟩
       have n4_ : Aside0 (((((((w126.setCell ⟨gb695, 0, none⟩ (.int .i64 t689)).setCell ⟨gb695, 1, none⟩ (.string t690)).setCell ⟨gb695, 2, none⟩ (.string t691)).setCell ⟨gb695, 3, none⟩ (.string t692)).setCell ⟨gb695, 4, none⟩ (.string t693)).setCell ⟨gb695, 5, none⟩ (.string t694)).heap[gb688]? = some (.cells #[.int .i64 t682, .string t683, .string t684, .string t685, .string t686, .string t687] 50 (0, 0))) := ⟨(bx (blk_far (bx (blk_far (bx (blk_far (bx (blk_far (bx (blk_far (bx (blk_far (bx BK688.out) NB688_695.out _)) NB688_695.out _)) NB688_695.out _)) NB688_695.out _)) NB688_695.out _)) NB688_695.out _))⟩
       have n5_ : Aside0 (((((((w126.setCell ⟨gb695, 0, none⟩ (.int .i64 t689)).setCell ⟨gb695, 1, none⟩ (.string t690)).setCell ⟨gb695, 2, none⟩ (.string t691)).setCell ⟨gb695, 3, none⟩ (.string t692)).setCell ⟨gb695, 4, none⟩ (.string t693)).setCell ⟨gb695, 5, none⟩ (.string t694)).heap[gb695]? = some (.cells #[.int .i64 t689, .string t690, .string t691, .string t692, .string t693, .string t694] 50 (0, 0))) := ⟨(bx (blk_put (cs := #[.int .i64 t689, .string t690, .string t691, .string t692, .string t693, .string ⟨#[]⟩]) (bx (blk_put (cs := #[.int .i64 t689, .string t690, .string t691, .string t692, .string ⟨#[]⟩, .string ⟨#[]⟩]) (bx (blk_put (cs := #[.int .i64 t689, .string t690, .string t691, .string ⟨#[]⟩, .string ⟨#[]⟩, .string ⟨#[]⟩]) (bx (blk_put (cs := #[.int .i64 t689, .string t690, .string ⟨#[]⟩, .string ⟨#[]⟩, .string ⟨#[]⟩, .string ⟨#[]⟩]) (bx (blk_put (cs := #[.int .i64 t689, .string ⟨#[]⟩, .string ⟨#[]⟩, .string ⟨#[]⟩, .string ⟨#[]⟩, .string ⟨#[]⟩]) (bx (blk_put (cs := #[.int .i64 0, .string ⟨#[]⟩, .string ⟨#[]⟩, .string ⟨#[]⟩, .string ⟨#[]⟩, .string ⟨#[]⟩]) (bx BK695.out) 0 _ rfl)) 1 _ rfl)) 2 _ rfl)) 3 _ rfl)) 4 _ rfl)) 5 _ rfl))⟩
       have n6_ : Aside0 (Below w.heap.size w ((((((w126.setCell ⟨gb695, 0, none⟩ (.int .i64 t689)).setCell ⟨gb695, 1, none⟩ (.string t690)).setCell ⟨gb695, 2, none⟩ (.string t691)).setCell ⟨gb695, 3, none⟩ (.string t692)).setCell ⟨gb695, 4, none⟩ (.string t693)).setCell ⟨gb695, 5, none⟩ (.string t694))) := ⟨bq⟩
       (try clear BK660)
       (try clear BK661)
       (try clear BK669)
       (try clear BK676)
       (try clear BK688)
       (try clear BK695)
       (try clear HB)
       generalize ((((((w126.setCell ⟨gb695, 0, none⟩ (.int .i64 t689)).setCell ⟨gb695, 1, none⟩ (.string t690)).setCell ⟨gb695, 2, none⟩ (.string t691)).setCell ⟨gb695, 3, none⟩ (.string t692)).setCell ⟨gb695, 4, none⟩ (.string t693)).setCell ⟨gb695, 5, none⟩ (.string t694)) = w133 at n0_ n1_ n2_ n3_ n4_ n5_ n6_ ⊢
       have BK660 := n0_
       have BK661 := n1_
       have BK669 := n2_
       have BK676 := n3_
       have BK688 := n4_
       have BK695 := n5_
       have HB := n6_
       clear n0_ n1_ n2_ n3_ n4_ n5_ n6_
       have n0_ := ak (blk_drew BK660.out)
       have n1_ := ak (blk_drew BK661.out)
       have n2_ := ak (blk_drew BK669.out)
       have n3_ := ak (blk_drew BK676.out)
       have n4_ := ak (blk_drew BK688.out)
       have n5_ := ak (blk_drew BK695.out)
       have n6_ := ak (below_drew1 HB.out)
       clear BK660
       clear BK661
       clear BK669
       clear BK676
       clear BK688
       clear BK695
       clear HB
       have BK660 := n0_
       have BK661 := n1_
       have BK669 := n2_
       have BK676 := n3_
       have BK688 := n4_
       have BK695 := n5_
       have HB := n6_
       clear n0_ n1_ n2_ n3_ n4_ n5_ n6_
       refine start_ (n := 32) (S := fun w' => w'.cell? ⟨gb669, 0, none⟩ = some (.int .i64 t663) ∧ w'.cell? ⟨gb669, 1, none⟩ = some (.string t664) ∧ w'.cell? ⟨gb669, 2, none⟩ = some (.string t665) ∧ w'.cell? ⟨gb669, 3, none⟩ = some (.string t666) ∧ w'.cell? ⟨gb669, 4, none⟩ = some (.string t667) ∧ w'.cell? ⟨gb669, 5, none⟩ = some (.string t668) ∧ w'.cell? ⟨gb676, 0, none⟩ = some (.int .i64 t670) ∧ w'.cell? ⟨gb676, 1, none⟩ = some (.string t671) ∧ w'.cell? ⟨gb676, 2, none⟩ = some (.string t672) ∧ w'.cell? ⟨gb676, 3, none⟩ = some (.string t673) ∧ w'.cell? ⟨gb676, 4, none⟩ = some (.string t674) ∧ w'.cell? ⟨gb676, 5, none⟩ = some (.string t675)) (ds := []) #[false, false, false, false, false, false, false, false, false, false, false, false, false, false, false, false, false, false, false, false, false, false, false, false, false, false, false, false, false, false, false, false] (by kernel_rfl) rfl rfl ⟨(blk_cell BK669.out 0).trans rfl, (blk_cell BK669.out 1).trans rfl, (blk_cell BK669.out 2).trans rfl, (blk_cell BK669.out 3).trans rfl, (blk_cell BK669.out 4).trans rfl, (blk_cell BK669.out 5).trans rfl, (blk_cell BK676.out 0).trans rfl, (blk_cell BK676.out 1).trans rfl, (blk_cell BK676.out 2).trans rfl, (blk_cell BK676.out 3).trans rfl, (blk_cell BK676.out 4).trans rfl, (blk_cell BK676.out 5).trans rfl⟩ (fun hHeld => ?_); refine with_tabW isoglosslaw12_AliasOrders.tab11 isoglosslaw12_AliasOrders.bits11 (fun HT_ HW_ => ?_)
       generalize w133.drew = w134 at BK660 BK661 BK669 BK676 BK688 BK695 HB hHeld ⊢
       refine pu 0 (some 65) (M 32 1) ?_
       refine pu 1 (some 66) (M 32 3) ?_
       refine pu 2 (some 67) (M 32 7) ?_
       refine take_ (i := 3) (N := some 68) (v := ?_) (a' := ?_) (M 32 15) rfl rfl (take_ofW HT_.out HW_.out (by kernel_rfl)) (fun _ _ _ h => h) (Or.inl ⟨by rfl, ?_⟩) hHeld ?_ ?_
       rotate_left
       ·
        rintro w' ⟨s0, s1, s2, s3, s4, s5, s6, s7, s8, s9, s10, s11⟩
        go_simp
        with_reducible rfl
       rotate_left
       ·
        simp only [Act.put, pA, pB, pC, i64_w, i32_w]
        rfl
       refine take_ (i := 4) (N := some 69) (v := ?_) (a' := ?_) (M 32 31) rfl rfl (take_ofW HT_.out HW_.out (by kernel_rfl)) (fun _ _ _ h => h) (Or.inl ⟨by rfl, ?_⟩) hHeld ?_ ?_
       rotate_left
       ·
        rintro w' ⟨s0, s1, s2, s3, s4, s5, s6, s7, s8, s9, s10, s11⟩
        go_simp
        with_reducible rfl
       rotate_left
       ·
        simp only [Act.put, pA, pB, pC, i64_w, i32_w]
        rfl
       refine one_ (i := 5) (N := some 70) (M 32 63) rfl rfl (one_of HT_.out (by kernel_rfl)) (by decide) (fun K hK => ?_)
       refine goes_ Tryd.func41 (by kernel_rfl) rfl #[.agg #[.int .i64 t663, .string t664, .string t665, .string t666, .string t667, .string t668], .agg #[.int .i64 t670, .string t671, .string t672, .string t673, .string t674, .string t675]] (by rfl) rfl rfl mq ?_
       with_reducible refine (isoglossref12_Compare.calls t663 t664 t665 t666 t667 t668 t670 t671 t672 t673 t674 t675 t696 _ A52.out).mono ?_
       rintro e w135 ⟨rfl, hb⟩
       refine ⟨_, rfl, ?_⟩
       have n0_ := ak (blk_below (g := gb660) (bx BK660.out) hb)
       have n1_ := ak (blk_below (g := gb661) (bx BK661.out) hb)
       have n2_ := ak (blk_below (g := gb669) (bx BK669.out) hb)
       have n3_ := ak (blk_below (g := gb676) (bx BK676.out) hb)
       have n4_ := ak (blk_below (g := gb688) (bx BK688.out) hb)
       have n5_ := ak (blk_below (g := gb695) (bx BK695.out) hb)
       have n6_ := ak (below_step bq hb)
       clear BK660
       clear BK661
       clear BK669
       clear BK676
       clear BK688
       clear BK695
       clear HB
       have BK660 := n0_
       have BK661 := n1_
       have BK669 := n2_
       have BK676 := n3_
       have BK688 := n4_
       have BK695 := n5_
       have HB := n6_
       clear n0_ n1_ n2_ n3_ n4_ n5_ n6_
       (try clear hb)
       (try clear hb2)
       (try clear hk)
       (try clear hi)
       refine hK.out _ _ ⟨(blk_cell BK669.out 0).trans rfl, (blk_cell BK669.out 1).trans rfl, (blk_cell BK669.out 2).trans rfl, (blk_cell BK669.out 3).trans rfl, (blk_cell BK669.out 4).trans rfl, (blk_cell BK669.out 5).trans rfl, (blk_cell BK676.out 0).trans rfl, (blk_cell BK676.out 1).trans rfl, (blk_cell BK676.out 2).trans rfl, (blk_cell BK676.out 3).trans rfl, (blk_cell BK676.out 4).trans rfl, (blk_cell BK676.out 5).trans rfl⟩ (fun hHeld => ?_)
       clear hK K
       refine norm_ (a' := ?_) ?_ ?_
       rotate_left
       ·
        show Act.put _ (some 70) _ = _
        simp only [Act.put, pA, pB, pC, i64_w, i32_w]
        rfl
       refine pu 6 (some 71) (M 32 127) ?_
       refine pu 7 (some 72) (M 32 255) ?_
       refine pu 8 (some 73) (M 32 511) ?_
       refine pu 12 (some 77) (M 32 4607) ?_
       refine pu 13 (some 78) (M 32 12799) ?_
       refine take_ (i := 9) (N := some 74) (v := ?_) (a' := ?_) (M 32 13311) rfl rfl (take_ofW HT_.out HW_.out (by kernel_rfl)) (fun _ _ _ h => h) (Or.inl ⟨by rfl, ?_⟩) hHeld ?_ ?_
       rotate_left
       ·
        rintro w' ⟨s0, s1, s2, s3, s4, s5, s6, s7, s8, s9, s10, s11⟩
        go_simp
        with_reducible rfl
       rotate_left
       ·
        simp only [Act.put, pA, pB, pC, i64_w, i32_w]
        rfl
       refine take_ (i := 10) (N := some 75) (v := ?_) (a' := ?_) (M 32 14335) rfl rfl (take_ofW HT_.out HW_.out (by kernel_rfl)) (fun _ _ _ h => h) (Or.inl ⟨by rfl, ?_⟩) hHeld ?_ ?_
       rotate_left
       ·
        rintro w' ⟨s0, s1, s2, s3, s4, s5, s6, s7, s8, s9, s10, s11⟩
        go_simp
        with_reducible rfl
       rotate_left
       ·
        simp only [Act.put, pA, pB, pC, i64_w, i32_w]
        rfl
       refine one_ (i := 11) (N := some 76) (M 32 16383) rfl rfl (one_of HT_.out (by kernel_rfl)) (by decide) (fun K hK => ?_)
       refine goes_ Tryd.func40 (by kernel_rfl) rfl #[.agg #[.int .i64 t670, .string t671, .string t672, .string t673, .string t674, .string t675], .agg #[.int .i64 t663, .string t664, .string t665, .string t666, .string t667, .string t668]] (by rfl) rfl rfl mq ?_
       with_reducible refine (alias_Compare.calls kj8 t670 t671 t672 t673 t674 t675 t663 t664 t665 t666 t667 t668 t697 _ A54.out).mono ?_
       rintro e w136 ⟨rfl, hb⟩
       refine ⟨_, rfl, ?_⟩
       have n0_ := ak (blk_below (g := gb660) (bx BK660.out) hb)
       have n1_ := ak (blk_below (g := gb661) (bx BK661.out) hb)
       have n2_ := ak (blk_below (g := gb669) (bx BK669.out) hb)
       have n3_ := ak (blk_below (g := gb676) (bx BK676.out) hb)
       have n4_ := ak (blk_below (g := gb688) (bx BK688.out) hb)
       have n5_ := ak (blk_below (g := gb695) (bx BK695.out) hb)
       have n6_ := ak (below_step bq hb)
       clear BK660
       clear BK661
       clear BK669
       clear BK676
       clear BK688
       clear BK695
       clear HB
       have BK660 := n0_
       have BK661 := n1_
       have BK669 := n2_
       have BK676 := n3_
       have BK688 := n4_
       have BK695 := n5_
       have HB := n6_
       clear n0_ n1_ n2_ n3_ n4_ n5_ n6_
       (try clear hb)
       (try clear hb2)
       (try clear hk)
       (try clear hi)
       refine hK.out _ _ ⟨(blk_cell BK669.out 0).trans rfl, (blk_cell BK669.out 1).trans rfl, (blk_cell BK669.out 2).trans rfl, (blk_cell BK669.out 3).trans rfl, (blk_cell BK669.out 4).trans rfl, (blk_cell BK669.out 5).trans rfl, (blk_cell BK676.out 0).trans rfl, (blk_cell BK676.out 1).trans rfl, (blk_cell BK676.out 2).trans rfl, (blk_cell BK676.out 3).trans rfl, (blk_cell BK676.out 4).trans rfl, (blk_cell BK676.out 5).trans rfl⟩ (fun hHeld => ?_)
       clear hK K
       refine norm_ (a' := ?_) ?_ ?_
       rotate_left
       ·
        show Act.put _ (some 76) _ = _
        simp only [Act.put, pA, pB, pC, i64_w, i32_w]
        rfl
       refine pu 14 (some 79) (M 32 32767) ?_
       refine pu 15 (some 80) (M 32 65535) ?_
       refine pu 16 (some 81) (M 32 131071) ?_
       refine pn 17 (some 82) (M 32 262143) ?_
       refine pn 18 (some 83) (M 32 524287) ?_
       refine pn 19 (some 84) (M 32 1048575) ?_
       refine pn 20 (some 85) (M 32 2097151) ?_
       refine pn 21 (some 86) (M 32 4194303) ?_
       refine pn 22 (some 87) (M 32 8388607) ?_
       refine pn 23 (some 88) (M 32 16777215) ?_
       refine pu 24 (some 89) (M 32 33554431) ?_
       refine pu 25 (some 90) (M 32 67108863) ?_
       refine pn 26 (some 91) (M 32 134217727) ?_
       refine pn 27 (some 92) (M 32 268435455) ?_
       refine pn 28 (some 93) (M 32 536870911) ?_
       refine pn 29 (some 94) (M 32 1073741823) ?_
       refine pu 30 (some 95) (M 32 2147483647) ?_
       refine pu 31 (some 4) (M 32 4294967295) ?_
       refine done_ (done_of HT_.out (by kernel_rfl)) ?_
       try go_wp2
       go_ret
       exact ⟨by first | rfl | (simp [errW_none, errW_some] <;> rfl) | (simp [*, errW_none, errW_some] <;> rfl), bq⟩
     ·
      rw [if_neg c53] at H
      have c53b0 : (t677 == t696) = false := beq_eq_false_iff_ne.mpr c53
      have c53b1 : (t677 != t696) = true := bne_iff_ne.mpr c53
      obtain rfl := Option.some.inj H
      have hnb137 := NB661_660.out
      have hnc137 := NB660_661.out
      have hnb138 := NB661_669.out
      have hnc138 := NB669_661.out
      have hnb139 := NB661_676.out
      have hnc139 := NB676_661.out
      obtain ⟨hcz140_0, hcz140_1, hcz140_2, hcz140_3, hcz140_4, hcz140_5, hcz140_6, hcz140_7, hcz140_8, hcz140_9, hcz140_10, hcz140_11⟩ := cz12 BK661.out
      obtain ⟨hfz140_0, hfz140_1, hfz140_2, hfz140_3, hfz140_4, hfz140_5, hfz140_6, hfz140_7, hfz140_8, hfz140_9, hfz140_10, hfz140_11⟩ := fz12 BK661.out
      try go_wp2_with (first | ((with_reducible refine gate_callee (f := 31) rfl ?_); refine goesL_ (some 61) rfl rfl Tryd.func31 (by kernel_rfl) rfl #[.agg #[.int .i64 a1_0, .string a1_1, .string a1_2, .string a1_3, .string a1_4, .string a1_5]] rfl mq ?_; (with_reducible refine (isoglosslaw12_few.calls a1_0 a1_1 a1_2 a1_3 a1_4 a1_5 t682 t683 t684 t685 t686 t687 _ A49.out).mono ?_); rintro e w141 ⟨rfl, hb⟩; refine ⟨_, rfl, ?_⟩; have n0_ := ak (blk_below (g := gb660) (bx BK660.out) hb); have n1_ := ak (blk_below (g := gb661) (bx BK661.out) hb); have n2_ := ak (blk_below (g := gb669) (bx BK669.out) hb); have n3_ := ak (blk_below (g := gb676) (bx BK676.out) hb); have n4_ := ak (below_step bq hb); clear BK660; clear BK661; clear BK669; clear BK676; clear HB; have BK660 := n0_; have BK661 := n1_; have BK669 := n2_; have BK676 := n3_; have HB := n4_; clear n0_ n1_ n2_ n3_ n4_; (try clear hb); (try clear hb2); (try clear hk); (try clear hi); (try clear A49)) | ((with_reducible refine gate_dst (N := 13) rfl ?_); refine box_event ?hg (N := 13) ?hd (cs := #[.int .i64 0, .string ⟨#[]⟩, .string ⟨#[]⟩, .string ⟨#[]⟩, .string ⟨#[]⟩, .string ⟨#[]⟩]) (t := 50) ?hr ?_; (case hd => rfl); (case hg => rfl); (case hr => first | (go_simp; done) | (go_simp; rfl)); intro gb688 hg w142 hbox hb; have n0_ := ak (blk_below (g := gb660) (bx BK660.out) hb); have n1_ := ak (blk_below (g := gb661) (bx BK661.out) hb); have n2_ := ak (blk_below (g := gb669) (bx BK669.out) hb); have n3_ := ak (blk_below (g := gb676) (bx BK676.out) hb); have n4_ := ak (below_step bq hb); have n5_ := ak (hbox); have n6_ := ak ((by rw [hg]; exact (below_size bq) : w.heap.size ≤ gb688)); have n7_ := ak ((by rw [hg]; exact (below_size bq) : w.heap.size ≤ gb688)); have n8_ := ak ((by rw [hg]; exact Nat.ne_of_lt (blk_lt (g := gb660) (bx BK660.out)) : gb660 ≠ gb688)); have n9_ := ak ((by rw [hg]; exact Nat.ne_of_gt (blk_lt (g := gb660) (bx BK660.out)) : gb688 ≠ gb660)); have n10_ := ak ((by rw [hg]; exact Nat.ne_of_lt (blk_lt (g := gb661) (bx BK661.out)) : gb661 ≠ gb688)); have n11_ := ak ((by rw [hg]; exact Nat.ne_of_gt (blk_lt (g := gb661) (bx BK661.out)) : gb688 ≠ gb661)); have n12_ := ak ((by rw [hg]; exact Nat.ne_of_lt (blk_lt (g := gb669) (bx BK669.out)) : gb669 ≠ gb688)); have n13_ := ak ((by rw [hg]; exact Nat.ne_of_gt (blk_lt (g := gb669) (bx BK669.out)) : gb688 ≠ gb669)); have n14_ := ak ((by rw [hg]; exact Nat.ne_of_lt (blk_lt (g := gb676) (bx BK676.out)) : gb676 ≠ gb688)); have n15_ := ak ((by rw [hg]; exact Nat.ne_of_gt (blk_lt (g := gb676) (bx BK676.out)) : gb688 ≠ gb676)); clear BK660; clear BK661; clear BK669; clear BK676; clear HB; have BK660 := n0_; have BK661 := n1_; have BK669 := n2_; have BK676 := n3_; have HB := n4_; have BK688 := n5_; have GW688 := n6_; have GE688 := n7_; have NB660_688 := n8_; have NB688_660 := n9_; have NB661_688 := n10_; have NB688_661 := n11_; have NB669_688 := n12_; have NB688_669 := n13_; have NB676_688 := n14_; have NB688_676 := n15_; clear n0_ n1_ n2_ n3_ n4_ n5_ n6_ n7_ n8_ n9_ n10_ n11_ n12_ n13_ n14_ n15_; clear hb hbox hg; have hnb143 := NB688_660.out; have hnc143 := NB660_688.out; have hnb144 := NB688_661.out; have hnc144 := NB661_688.out; have hnb145 := NB688_669.out; have hnc145 := NB669_688.out; have hnb146 := NB688_676.out; have hnc146 := NB676_688.out; obtain ⟨hcz147_0, hcz147_1, hcz147_2, hcz147_3, hcz147_4, hcz147_5⟩ := cz6 BK688.out; obtain ⟨hfz147_0, hfz147_1, hfz147_2, hfz147_3, hfz147_4, hfz147_5⟩ := fz6 BK688.out; obtain ⟨hcz148_0, hcz148_1, hcz148_2, hcz148_3, hcz148_4, hcz148_5, hcz148_6, hcz148_7, hcz148_8, hcz148_9, hcz148_10, hcz148_11⟩ := cz12 BK661.out; obtain ⟨hfz148_0, hfz148_1, hfz148_2, hfz148_3, hfz148_4, hfz148_5, hfz148_6, hfz148_7, hfz148_8, hfz148_9, hfz148_10, hfz148_11⟩ := fz12 BK661.out) | ((with_reducible refine gate_callee (f := 31) rfl ?_); refine goesL_ (some 64) rfl rfl Tryd.func31 (by kernel_rfl) rfl #[.agg #[.int .i64 a1_6, .string a1_7, .string a1_8, .string a1_9, .string a1_10, .string a1_11]] rfl mq ?_; (with_reducible refine (isoglosslaw12_few.calls a1_6 a1_7 a1_8 a1_9 a1_10 a1_11 t689 t690 t691 t692 t693 t694 _ A50.out).mono ?_); rintro e w149 ⟨rfl, hb⟩; refine ⟨_, rfl, ?_⟩; have n0_ := ak (blk_below (g := gb660) (o := .cells #[.int .i64 a0_0, .int .i64 a0_1, .int .i64 a0_2, .int .i64 a0_3, .int .i64 a0_4, .int .i64 a0_5, .int .i64 a0_6, .int .i64 a0_7, .int .i64 a0_8, .int .i64 a0_9, .int .i64 a0_10, .int .i64 a0_11, .int .i64 a0_12, .int .i64 a0_13] 63 (0, 0)) (bx (blk_far (bx (blk_far (bx (blk_far (bx (blk_far (bx (blk_far (bx (blk_far (bx BK660.out) NB660_688.out _)) NB660_688.out _)) NB660_688.out _)) NB660_688.out _)) NB660_688.out _)) NB660_688.out _)) hb); have n1_ := ak (blk_below (g := gb661) (o := .cells #[.int .i64 a1_0, .string a1_1, .string a1_2, .string a1_3, .string a1_4, .string a1_5, .int .i64 a1_6, .string a1_7, .string a1_8, .string a1_9, .string a1_10, .string a1_11] 64 (0, 0)) (bx (blk_far (bx (blk_far (bx (blk_far (bx (blk_far (bx (blk_far (bx (blk_far (bx BK661.out) NB661_688.out _)) NB661_688.out _)) NB661_688.out _)) NB661_688.out _)) NB661_688.out _)) NB661_688.out _)) hb); have n2_ := ak (blk_below (g := gb669) (o := .cells #[.int .i64 t663, .string t664, .string t665, .string t666, .string t667, .string t668] 50 (0, 0)) (bx (blk_far (bx (blk_far (bx (blk_far (bx (blk_far (bx (blk_far (bx (blk_far (bx BK669.out) NB669_688.out _)) NB669_688.out _)) NB669_688.out _)) NB669_688.out _)) NB669_688.out _)) NB669_688.out _)) hb); have n3_ := ak (blk_below (g := gb676) (o := .cells #[.int .i64 t670, .string t671, .string t672, .string t673, .string t674, .string t675] 50 (0, 0)) (bx (blk_far (bx (blk_far (bx (blk_far (bx (blk_far (bx (blk_far (bx (blk_far (bx BK676.out) NB676_688.out _)) NB676_688.out _)) NB676_688.out _)) NB676_688.out _)) NB676_688.out _)) NB676_688.out _)) hb); have n4_ := ak (blk_below (g := gb688) (o := .cells #[.int .i64 t682, .string t683, .string t684, .string t685, .string t686, .string t687] 50 (0, 0)) (bx (blk_put (cs := #[.int .i64 t682, .string t683, .string t684, .string t685, .string t686, .string ⟨#[]⟩]) (bx (blk_put (cs := #[.int .i64 t682, .string t683, .string t684, .string t685, .string ⟨#[]⟩, .string ⟨#[]⟩]) (bx (blk_put (cs := #[.int .i64 t682, .string t683, .string t684, .string ⟨#[]⟩, .string ⟨#[]⟩, .string ⟨#[]⟩]) (bx (blk_put (cs := #[.int .i64 t682, .string t683, .string ⟨#[]⟩, .string ⟨#[]⟩, .string ⟨#[]⟩, .string ⟨#[]⟩]) (bx (blk_put (cs := #[.int .i64 t682, .string ⟨#[]⟩, .string ⟨#[]⟩, .string ⟨#[]⟩, .string ⟨#[]⟩, .string ⟨#[]⟩]) (bx (blk_put (cs := #[.int .i64 0, .string ⟨#[]⟩, .string ⟨#[]⟩, .string ⟨#[]⟩, .string ⟨#[]⟩, .string ⟨#[]⟩]) (bx BK688.out) 0 _ rfl)) 1 _ rfl)) 2 _ rfl)) 3 _ rfl)) 4 _ rfl)) 5 _ rfl)) hb); have n5_ := ak (below_step bq hb); clear BK660; clear BK661; clear BK669; clear BK676; clear BK688; clear HB; have BK660 := n0_; have BK661 := n1_; have BK669 := n2_; have BK676 := n3_; have BK688 := n4_; have HB := n5_; clear n0_ n1_ n2_ n3_ n4_ n5_; (try clear hb); (try clear hb2); (try clear hk); (try clear hi); (try clear A50)) | ((with_reducible refine gate_dst (N := 14) rfl ?_); refine box_event ?hg (N := 14) ?hd (cs := #[.int .i64 0, .string ⟨#[]⟩, .string ⟨#[]⟩, .string ⟨#[]⟩, .string ⟨#[]⟩, .string ⟨#[]⟩]) (t := 50) ?hr ?_; (case hd => rfl); (case hg => rfl); (case hr => first | (go_simp; done) | (go_simp; rfl)); intro gb695 hg w150 hbox hb; have n0_ := ak (blk_below (g := gb660) (bx BK660.out) hb); have n1_ := ak (blk_below (g := gb661) (bx BK661.out) hb); have n2_ := ak (blk_below (g := gb669) (bx BK669.out) hb); have n3_ := ak (blk_below (g := gb676) (bx BK676.out) hb); have n4_ := ak (blk_below (g := gb688) (bx BK688.out) hb); have n5_ := ak (below_step bq hb); have n6_ := ak (hbox); have n7_ := ak ((by rw [hg]; exact (below_size bq) : w.heap.size ≤ gb695)); have n8_ := ak ((by rw [hg]; exact (below_size bq) : w.heap.size ≤ gb695)); have n9_ := ak ((by rw [hg]; exact Nat.ne_of_lt (blk_lt (g := gb660) (bx BK660.out)) : gb660 ≠ gb695)); have n10_ := ak ((by rw [hg]; exact Nat.ne_of_gt (blk_lt (g := gb660) (bx BK660.out)) : gb695 ≠ gb660)); have n11_ := ak ((by rw [hg]; exact Nat.ne_of_lt (blk_lt (g := gb661) (bx BK661.out)) : gb661 ≠ gb695)); have n12_ := ak ((by rw [hg]; exact Nat.ne_of_gt (blk_lt (g := gb661) (bx BK661.out)) : gb695 ≠ gb661)); have n13_ := ak ((by rw [hg]; exact Nat.ne_of_lt (blk_lt (g := gb669) (bx BK669.out)) : gb669 ≠ gb695)); have n14_ := ak ((by rw [hg]; exact Nat.ne_of_gt (blk_lt (g := gb669) (bx BK669.out)) : gb695 ≠ gb669)); have n15_ := ak ((by rw [hg]; exact Nat.ne_of_lt (blk_lt (g := gb676) (bx BK676.out)) : gb676 ≠ gb695)); have n16_ := ak ((by rw [hg]; exact Nat.ne_of_gt (blk_lt (g := gb676) (bx BK676.out)) : gb695 ≠ gb676)); have n17_ := ak ((by rw [hg]; exact Nat.ne_of_lt (blk_lt (g := gb688) (bx BK688.out)) : gb688 ≠ gb695)); have n18_ := ak ((by rw [hg]; exact Nat.ne_of_gt (blk_lt (g := gb688) (bx BK688.out)) : gb695 ≠ gb688)); clear BK660; clear BK661; clear BK669; clear BK676; clear BK688; clear HB; have BK660 := n0_; have BK661 := n1_; have BK669 := n2_; have BK676 := n3_; have BK688 := n4_; have HB := n5_; have BK695 := n6_; have GW695 := n7_; have GE695 := n8_; have NB660_695 := n9_; have NB695_660 := n10_; have NB661_695 := n11_; have NB695_661 := n12_; have NB669_695 := n13_; have NB695_669 := n14_; have NB676_695 := n15_; have NB695_676 := n16_; have NB688_695 := n17_; have NB695_688 := n18_; clear n0_ n1_ n2_ n3_ n4_ n5_ n6_ n7_ n8_ n9_ n10_ n11_ n12_ n13_ n14_ n15_ n16_ n17_ n18_; clear hb hbox hg; have hnb151 := NB695_660.out; have hnc151 := NB660_695.out; have hnb152 := NB695_661.out; have hnc152 := NB661_695.out; have hnb153 := NB695_669.out; have hnc153 := NB669_695.out; have hnb154 := NB695_676.out; have hnc154 := NB676_695.out; have hnb155 := NB695_688.out; have hnc155 := NB688_695.out; obtain ⟨hcz156_0, hcz156_1, hcz156_2, hcz156_3, hcz156_4, hcz156_5⟩ := cz6 BK695.out; obtain ⟨hfz156_0, hfz156_1, hfz156_2, hfz156_3, hfz156_4, hfz156_5⟩ := fz6 BK695.out))
      have n0_ : Aside0 (((((((w150.setCell ⟨gb695, 0, none⟩ (.int .i64 t689)).setCell ⟨gb695, 1, none⟩ (.string t690)).setCell ⟨gb695, 2, none⟩ (.string t691)).setCell ⟨gb695, 3, none⟩ (.string t692)).setCell ⟨gb695, 4, none⟩ (.string t693)).setCell ⟨gb695, 5, none⟩ (.string t694)).heap[gb660]? = some (.cells #[.int .i64 a0_0, .int .i64 a0_1, .int .i64 a0_2, .int .i64 a0_3, .int .i64 a0_4, .int .i64 a0_5, .int .i64 a0_6, .int .i64 a0_7, .int .i64 a0_8, .int .i64 a0_9, .int .i64 a0_10, .int .i64 a0_11, .int .i64 a0_12, .int .i64 a0_13] 63 (0, 0))) := ⟨(bx (blk_far (bx (blk_far (bx (blk_far (bx (blk_far (bx (blk_far (bx (blk_far (bx BK660.out) NB660_695.out _)) NB660_695.out _)) NB660_695.out _)) NB660_695.out _)) NB660_695.out _)) NB660_695.out _))⟩
      have n1_ : Aside0 (((((((w150.setCell ⟨gb695, 0, none⟩ (.int .i64 t689)).setCell ⟨gb695, 1, none⟩ (.string t690)).setCell ⟨gb695, 2, none⟩ (.string t691)).setCell ⟨gb695, 3, none⟩ (.string t692)).setCell ⟨gb695, 4, none⟩ (.string t693)).setCell ⟨gb695, 5, none⟩ (.string t694)).heap[gb661]? = some (.cells #[.int .i64 a1_0, .string a1_1, .string a1_2, .string a1_3, .string a1_4, .string a1_5, .int .i64 a1_6, .string a1_7, .string a1_8, .string a1_9, .string a1_10, .string a1_11] 64 (0, 0))) := ⟨(bx (blk_far (bx (blk_far (bx (blk_far (bx (blk_far (bx (blk_far (bx (blk_far (bx BK661.out) NB661_695.out _)) NB661_695.out _)) NB661_695.out _)) NB661_695.out _)) NB661_695.out _)) NB661_695.out _))⟩
      have n2_ : Aside0 (((((((w150.setCell ⟨gb695, 0, none⟩ (.int .i64 t689)).setCell ⟨gb695, 1, none⟩ (.string t690)).setCell ⟨gb695, 2, none⟩ (.string t691)).setCell ⟨gb695, 3, none⟩ (.string t692)).setCell ⟨gb695, 4, none⟩ (.string t693)).setCell ⟨gb695, 5, none⟩ (.string t694)).heap[gb669]? = some (.cells #[.int .i64 t663, .string t664, .string t665, .string t666, .string t667, .string t668] 50 (0, 0))) := ⟨(bx (blk_far (bx (blk_far (bx (blk_far (bx (blk_far (bx (blk_far (bx (blk_far (bx BK669.out) NB669_695.out _)) NB669_695.out _)) NB669_695.out _)) NB669_695.out _)) NB669_695.out _)) NB669_695.out _))⟩
      have n3_ : Aside0 (((((((w150.setCell ⟨gb695, 0, none⟩ (.int .i64 t689)).setCell ⟨gb695, 1, none⟩ (.string t690)).setCell ⟨gb695, 2, none⟩ (.string t691)).setCell ⟨gb695, 3, none⟩ (.string t692)).setCell ⟨gb695, 4, none⟩ (.string t693)).setCell ⟨gb695, 5, none⟩ (.string t694)).heap[gb676]? = some (.cells #[.int .i64 t670, .string t671, .string t672, .string t673, .string t674, .string t675] 50 (0, 0))) := ⟨(bx (blk_far (bx (blk_far (bx (blk_far (bx (blk_far (bx (blk_far (bx (blk_far (bx BK676.out) NB676_695.out _)) NB676_695.out _)) NB676_695.out _)) NB676_695.out _)) NB676_695.out _)) NB676_695.out _))⟩
      have n4_ : Aside0 (((((((w150.setCell ⟨gb695, 0, none⟩ (.int .i64 t689)).setCell ⟨gb695, 1, none⟩ (.string t690)).setCell ⟨gb695, 2, none⟩ (.string t691)).setCell ⟨gb695, 3, none⟩ (.string t692)).setCell ⟨gb695, 4, none⟩ (.string t693)).setCell ⟨gb695, 5, none⟩ (.string t694)).heap[gb688]? = some (.cells #[.int .i64 t682, .string t683, .string t684, .string t685, .string t686, .string t687] 50 (0, 0))) := ⟨(bx (blk_far (bx (blk_far (bx (blk_far (bx (blk_far (bx (blk_far (bx (blk_far (bx BK688.out) NB688_695.out _)) NB688_695.out _)) NB688_695.out _)) NB688_695.out _)) NB688_695.out _)) NB688_695.out _))⟩
      have n5_ : Aside0 (((((((w150.setCell ⟨gb695, 0, none⟩ (.int .i64 t689)).setCell ⟨gb695, 1, none⟩ (.string t690)).setCell ⟨gb695, 2, none⟩ (.string t691)).setCell ⟨gb695, 3, none⟩ (.string t692)).setCell ⟨gb695, 4, none⟩ (.string t693)).setCell ⟨gb695, 5, none⟩ (.string t694)).heap[gb695]? = some (.cells #[.int .i64 t689, .string t690, .string t691, .string t692, .string t693, .string t694] 50 (0, 0))) := ⟨(bx (blk_put (cs := #[.int .i64 t689, .string t690, .string t691, .string t692, .string t693, .string ⟨#[]⟩]) (bx (blk_put (cs := #[.int .i64 t689, .string t690, .string t691, .string t692, .string ⟨#[]⟩, .string ⟨#[]⟩]) (bx (blk_put (cs := #[.int .i64 t689, .string t690, .string t691, .string ⟨#[]⟩, .string ⟨#[]⟩, .string ⟨#[]⟩]) (bx (blk_put (cs := #[.int .i64 t689, .string t690, .string ⟨#[]⟩, .string ⟨#[]⟩, .string ⟨#[]⟩, .string ⟨#[]⟩]) (bx (blk_put (cs := #[.int .i64 t689, .string ⟨#[]⟩, .string ⟨#[]⟩, .string ⟨#[]⟩, .string ⟨#[]⟩, .string ⟨#[]⟩]) (bx (blk_put (cs := #[.int .i64 0, .string ⟨#[]⟩, .string ⟨#[]⟩, .string ⟨#[]⟩, .string ⟨#[]⟩, .string ⟨#[]⟩]) (bx BK695.out) 0 _ rfl)) 1 _ rfl)) 2 _ rfl)) 3 _ rfl)) 4 _ rfl)) 5 _ rfl))⟩
      have n6_ : Aside0 (Below w.heap.size w ((((((w150.setCell ⟨gb695, 0, none⟩ (.int .i64 t689)).setCell ⟨gb695, 1, none⟩ (.string t690)).setCell ⟨gb695, 2, none⟩ (.string t691)).setCell ⟨gb695, 3, none⟩ (.string t692)).setCell ⟨gb695, 4, none⟩ (.string t693)).setCell ⟨gb695, 5, none⟩ (.string t694))) := ⟨bq⟩
      (try clear BK660)
      (try clear BK661)
      (try clear BK669)
      (try clear BK676)
      (try clear BK688)
      (try clear BK695)
      (try clear HB)
      generalize ((((((w150.setCell ⟨gb695, 0, none⟩ (.int .i64 t689)).setCell ⟨gb695, 1, none⟩ (.string t690)).setCell ⟨gb695, 2, none⟩ (.string t691)).setCell ⟨gb695, 3, none⟩ (.string t692)).setCell ⟨gb695, 4, none⟩ (.string t693)).setCell ⟨gb695, 5, none⟩ (.string t694)) = w157 at n0_ n1_ n2_ n3_ n4_ n5_ n6_ ⊢
      have BK660 := n0_
      have BK661 := n1_
      have BK669 := n2_
      have BK676 := n3_
      have BK688 := n4_
      have BK695 := n5_
      have HB := n6_
      clear n0_ n1_ n2_ n3_ n4_ n5_ n6_
      have n0_ := ak (blk_drew BK660.out)
      have n1_ := ak (blk_drew BK661.out)
      have n2_ := ak (blk_drew BK669.out)
      have n3_ := ak (blk_drew BK676.out)
      have n4_ := ak (blk_drew BK688.out)
      have n5_ := ak (blk_drew BK695.out)
      have n6_ := ak (below_drew1 HB.out)
      clear BK660
      clear BK661
      clear BK669
      clear BK676
      clear BK688
      clear BK695
      clear HB
      have BK660 := n0_
      have BK661 := n1_
      have BK669 := n2_
      have BK676 := n3_
      have BK688 := n4_
      have BK695 := n5_
      have HB := n6_
      clear n0_ n1_ n2_ n3_ n4_ n5_ n6_
      refine start_ (n := 32) (S := fun w' => w'.cell? ⟨gb669, 0, none⟩ = some (.int .i64 t663) ∧ w'.cell? ⟨gb669, 1, none⟩ = some (.string t664) ∧ w'.cell? ⟨gb669, 2, none⟩ = some (.string t665) ∧ w'.cell? ⟨gb669, 3, none⟩ = some (.string t666) ∧ w'.cell? ⟨gb669, 4, none⟩ = some (.string t667) ∧ w'.cell? ⟨gb669, 5, none⟩ = some (.string t668) ∧ w'.cell? ⟨gb676, 0, none⟩ = some (.int .i64 t670) ∧ w'.cell? ⟨gb676, 1, none⟩ = some (.string t671) ∧ w'.cell? ⟨gb676, 2, none⟩ = some (.string t672) ∧ w'.cell? ⟨gb676, 3, none⟩ = some (.string t673) ∧ w'.cell? ⟨gb676, 4, none⟩ = some (.string t674) ∧ w'.cell? ⟨gb676, 5, none⟩ = some (.string t675)) (ds := []) #[false, false, false, false, false, false, false, false, false, false, false, false, false, false, false, false, false, false, false, false, false, false, false, false, false, false, false, false, false, false, false, false] (by kernel_rfl) rfl rfl ⟨(blk_cell BK669.out 0).trans rfl, (blk_cell BK669.out 1).trans rfl, (blk_cell BK669.out 2).trans rfl, (blk_cell BK669.out 3).trans rfl, (blk_cell BK669.out 4).trans rfl, (blk_cell BK669.out 5).trans rfl, (blk_cell BK676.out 0).trans rfl, (blk_cell BK676.out 1).trans rfl, (blk_cell BK676.out 2).trans rfl, (blk_cell BK676.out 3).trans rfl, (blk_cell BK676.out 4).trans rfl, (blk_cell BK676.out 5).trans rfl⟩ (fun hHeld => ?_); refine with_tabW isoglosslaw12_AliasOrders.tab11 isoglosslaw12_AliasOrders.bits11 (fun HT_ HW_ => ?_)
      generalize w157.drew = w158 at BK660 BK661 BK669 BK676 BK688 BK695 HB hHeld ⊢
      refine pu 0 (some 65) (M 32 1) ?_
      refine pu 1 (some 66) (M 32 3) ?_
      refine pu 2 (some 67) (M 32 7) ?_
      refine take_ (i := 3) (N := some 68) (v := ?_) (a' := ?_) (M 32 15) rfl rfl (take_ofW HT_.out HW_.out (by kernel_rfl)) (fun _ _ _ h => h) (Or.inl ⟨by rfl, ?_⟩) hHeld ?_ ?_
      rotate_left
      ·
       rintro w' ⟨s0, s1, s2, s3, s4, s5, s6, s7, s8, s9, s10, s11⟩
       go_simp
       with_reducible rfl
      rotate_left
      ·
       simp only [Act.put, pA, pB, pC, i64_w, i32_w]
       rfl
      refine take_ (i := 4) (N := some 69) (v := ?_) (a' := ?_) (M 32 31) rfl rfl (take_ofW HT_.out HW_.out (by kernel_rfl)) (fun _ _ _ h => h) (Or.inl ⟨by rfl, ?_⟩) hHeld ?_ ?_
      rotate_left
      ·
       rintro w' ⟨s0, s1, s2, s3, s4, s5, s6, s7, s8, s9, s10, s11⟩
       go_simp
       with_reducible rfl
      rotate_left
      ·
       simp only [Act.put, pA, pB, pC, i64_w, i32_w]
       rfl
      refine one_ (i := 5) (N := some 70) (M 32 63) rfl rfl (one_of HT_.out (by kernel_rfl)) (by decide) (fun K hK => ?_)
      refine goes_ Tryd.func41 (by kernel_rfl) rfl #[.agg #[.int .i64 t663, .string t664, .string t665, .string t666, .string t667, .string t668], .agg #[.int .i64 t670, .string t671, .string t672, .string t673, .string t674, .string t675]] (by rfl) rfl rfl mq ?_
      with_reducible refine (isoglossref12_Compare.calls t663 t664 t665 t666 t667 t668 t670 t671 t672 t673 t674 t675 t696 _ A52.out).mono ?_
      rintro e w159 ⟨rfl, hb⟩
      refine ⟨_, rfl, ?_⟩
      have n0_ := ak (blk_below (g := gb660) (bx BK660.out) hb)
      have n1_ := ak (blk_below (g := gb661) (bx BK661.out) hb)
      have n2_ := ak (blk_below (g := gb669) (bx BK669.out) hb)
      have n3_ := ak (blk_below (g := gb676) (bx BK676.out) hb)
      have n4_ := ak (blk_below (g := gb688) (bx BK688.out) hb)
      have n5_ := ak (blk_below (g := gb695) (bx BK695.out) hb)
      have n6_ := ak (below_step bq hb)
      clear BK660
      clear BK661
      clear BK669
      clear BK676
      clear BK688
      clear BK695
      clear HB
      have BK660 := n0_
      have BK661 := n1_
      have BK669 := n2_
      have BK676 := n3_
      have BK688 := n4_
      have BK695 := n5_
      have HB := n6_
      clear n0_ n1_ n2_ n3_ n4_ n5_ n6_
      (try clear hb)
      (try clear hb2)
      (try clear hk)
      (try clear hi)
      refine hK.out _ _ ⟨(blk_cell BK669.out 0).trans rfl, (blk_cell BK669.out 1).trans rfl, (blk_cell BK669.out 2).trans rfl, (blk_cell BK669.out 3).trans rfl, (blk_cell BK669.out 4).trans rfl, (blk_cell BK669.out 5).trans rfl, (blk_cell BK676.out 0).trans rfl, (blk_cell BK676.out 1).trans rfl, (blk_cell BK676.out 2).trans rfl, (blk_cell BK676.out 3).trans rfl, (blk_cell BK676.out 4).trans rfl, (blk_cell BK676.out 5).trans rfl⟩ (fun hHeld => ?_)
      clear hK K
      refine norm_ (a' := ?_) ?_ ?_
      rotate_left
      ·
       show Act.put _ (some 70) _ = _
       simp only [Act.put, pA, pB, pC, i64_w, i32_w]
       rfl
      refine pu 6 (some 71) (M 32 127) ?_
      refine pu 7 (some 72) (M 32 255) ?_
      refine pu 8 (some 73) (M 32 511) ?_
      refine pn 9 (some 74) (M 32 1023) ?_
      refine pn 10 (some 75) (M 32 2047) ?_
      refine pn 11 (some 76) (M 32 4095) ?_
      refine pn 12 (some 77) (M 32 8191) ?_
      refine pn 13 (some 78) (M 32 16383) ?_
      refine pn 14 (some 79) (M 32 32767) ?_
      refine pu 15 (some 80) (M 32 65535) ?_
      refine pu 16 (some 81) (M 32 131071) ?_
      refine pn 17 (some 82) (M 32 262143) ?_
      refine pn 18 (some 83) (M 32 524287) ?_
      refine pn 19 (some 84) (M 32 1048575) ?_
      refine pn 20 (some 85) (M 32 2097151) ?_
      refine pn 21 (some 86) (M 32 4194303) ?_
      refine pn 22 (some 87) (M 32 8388607) ?_
      refine pn 23 (some 88) (M 32 16777215) ?_
      refine pu 24 (some 89) (M 32 33554431) ?_
      refine pu 25 (some 90) (M 32 67108863) ?_
      refine pn 26 (some 91) (M 32 134217727) ?_
      refine pn 27 (some 92) (M 32 268435455) ?_
      refine pn 28 (some 93) (M 32 536870911) ?_
      refine pn 29 (some 94) (M 32 1073741823) ?_
      refine pu 30 (some 95) (M 32 2147483647) ?_
      refine pu 31 (some 4) (M 32 4294967295) ?_
      refine done_ (done_of HT_.out (by kernel_rfl)) ?_
      try go_wp2
      go_ret
      exact ⟨by first | rfl | (simp [errW_none, errW_some] <;> rfl) | (simp [*, errW_none, errW_some] <;> rfl), bq⟩
    ·
     replace c51 := Bool.eq_false_iff.mpr c51
     subst c51
     have H1 : (some false) = some r := by rw [if_neg (show ¬ (false = true) by decide)] at H; exact H
     clear H
     have H := H1
     clear H1
     obtain rfl := Option.some.inj H
     have hnb160 := NB661_660.out
     have hnc160 := NB660_661.out
     have hnb161 := NB661_669.out
     have hnc161 := NB669_661.out
     have hnb162 := NB661_676.out
     have hnc162 := NB676_661.out
     obtain ⟨hcz163_0, hcz163_1, hcz163_2, hcz163_3, hcz163_4, hcz163_5, hcz163_6, hcz163_7, hcz163_8, hcz163_9, hcz163_10, hcz163_11⟩ := cz12 BK661.out
     obtain ⟨hfz163_0, hfz163_1, hfz163_2, hfz163_3, hfz163_4, hfz163_5, hfz163_6, hfz163_7, hfz163_8, hfz163_9, hfz163_10, hfz163_11⟩ := fz12 BK661.out
     try go_wp2_with (first | ((with_reducible refine gate_callee (f := 31) rfl ?_); refine goesL_ (some 61) rfl rfl Tryd.func31 (by kernel_rfl) rfl #[.agg #[.int .i64 a1_0, .string a1_1, .string a1_2, .string a1_3, .string a1_4, .string a1_5]] rfl mq ?_; (with_reducible refine (isoglosslaw12_few.calls a1_0 a1_1 a1_2 a1_3 a1_4 a1_5 t682 t683 t684 t685 t686 t687 _ A49.out).mono ?_); rintro e w164 ⟨rfl, hb⟩; refine ⟨_, rfl, ?_⟩; have n0_ := ak (blk_below (g := gb660) (bx BK660.out) hb); have n1_ := ak (blk_below (g := gb661) (bx BK661.out) hb); have n2_ := ak (blk_below (g := gb669) (bx BK669.out) hb); have n3_ := ak (blk_below (g := gb676) (bx BK676.out) hb); have n4_ := ak (below_step bq hb); clear BK660; clear BK661; clear BK669; clear BK676; clear HB; have BK660 := n0_; have BK661 := n1_; have BK669 := n2_; have BK676 := n3_; have HB := n4_; clear n0_ n1_ n2_ n3_ n4_; (try clear hb); (try clear hb2); (try clear hk); (try clear hi); (try clear A49)) | ((with_reducible refine gate_dst (N := 13) rfl ?_); refine box_event ?hg (N := 13) ?hd (cs := #[.int .i64 0, .string ⟨#[]⟩, .string ⟨#[]⟩, .string ⟨#[]⟩, .string ⟨#[]⟩, .string ⟨#[]⟩]) (t := 50) ?hr ?_; (case hd => rfl); (case hg => rfl); (case hr => first | (go_simp; done) | (go_simp; rfl)); intro gb688 hg w165 hbox hb; have n0_ := ak (blk_below (g := gb660) (bx BK660.out) hb); have n1_ := ak (blk_below (g := gb661) (bx BK661.out) hb); have n2_ := ak (blk_below (g := gb669) (bx BK669.out) hb); have n3_ := ak (blk_below (g := gb676) (bx BK676.out) hb); have n4_ := ak (below_step bq hb); have n5_ := ak (hbox); have n6_ := ak ((by rw [hg]; exact (below_size bq) : w.heap.size ≤ gb688)); have n7_ := ak ((by rw [hg]; exact (below_size bq) : w.heap.size ≤ gb688)); have n8_ := ak ((by rw [hg]; exact Nat.ne_of_lt (blk_lt (g := gb660) (bx BK660.out)) : gb660 ≠ gb688)); have n9_ := ak ((by rw [hg]; exact Nat.ne_of_gt (blk_lt (g := gb660) (bx BK660.out)) : gb688 ≠ gb660)); have n10_ := ak ((by rw [hg]; exact Nat.ne_of_lt (blk_lt (g := gb661) (bx BK661.out)) : gb661 ≠ gb688)); have n11_ := ak ((by rw [hg]; exact Nat.ne_of_gt (blk_lt (g := gb661) (bx BK661.out)) : gb688 ≠ gb661)); have n12_ := ak ((by rw [hg]; exact Nat.ne_of_lt (blk_lt (g := gb669) (bx BK669.out)) : gb669 ≠ gb688)); have n13_ := ak ((by rw [hg]; exact Nat.ne_of_gt (blk_lt (g := gb669) (bx BK669.out)) : gb688 ≠ gb669)); have n14_ := ak ((by rw [hg]; exact Nat.ne_of_lt (blk_lt (g := gb676) (bx BK676.out)) : gb676 ≠ gb688)); have n15_ := ak ((by rw [hg]; exact Nat.ne_of_gt (blk_lt (g := gb676) (bx BK676.out)) : gb688 ≠ gb676)); clear BK660; clear BK661; clear BK669; clear BK676; clear HB; have BK660 := n0_; have BK661 := n1_; have BK669 := n2_; have BK676 := n3_; have HB := n4_; have BK688 := n5_; have GW688 := n6_; have GE688 := n7_; have NB660_688 := n8_; have NB688_660 := n9_; have NB661_688 := n10_; have NB688_661 := n11_; have NB669_688 := n12_; have NB688_669 := n13_; have NB676_688 := n14_; have NB688_676 := n15_; clear n0_ n1_ n2_ n3_ n4_ n5_ n6_ n7_ n8_ n9_ n10_ n11_ n12_ n13_ n14_ n15_; clear hb hbox hg; have hnb166 := NB688_660.out; have hnc166 := NB660_688.out; have hnb167 := NB688_661.out; have hnc167 := NB661_688.out; have hnb168 := NB688_669.out; have hnc168 := NB669_688.out; have hnb169 := NB688_676.out; have hnc169 := NB676_688.out; obtain ⟨hcz170_0, hcz170_1, hcz170_2, hcz170_3, hcz170_4, hcz170_5⟩ := cz6 BK688.out; obtain ⟨hfz170_0, hfz170_1, hfz170_2, hfz170_3, hfz170_4, hfz170_5⟩ := fz6 BK688.out; obtain ⟨hcz171_0, hcz171_1, hcz171_2, hcz171_3, hcz171_4, hcz171_5, hcz171_6, hcz171_7, hcz171_8, hcz171_9, hcz171_10, hcz171_11⟩ := cz12 BK661.out; obtain ⟨hfz171_0, hfz171_1, hfz171_2, hfz171_3, hfz171_4, hfz171_5, hfz171_6, hfz171_7, hfz171_8, hfz171_9, hfz171_10, hfz171_11⟩ := fz12 BK661.out) | ((with_reducible refine gate_callee (f := 31) rfl ?_); refine goesL_ (some 64) rfl rfl Tryd.func31 (by kernel_rfl) rfl #[.agg #[.int .i64 a1_6, .string a1_7, .string a1_8, .string a1_9, .string a1_10, .string a1_11]] rfl mq ?_; (with_reducible refine (isoglosslaw12_few.calls a1_6 a1_7 a1_8 a1_9 a1_10 a1_11 t689 t690 t691 t692 t693 t694 _ A50.out).mono ?_); rintro e w172 ⟨rfl, hb⟩; refine ⟨_, rfl, ?_⟩; have n0_ := ak (blk_below (g := gb660) (o := .cells #[.int .i64 a0_0, .int .i64 a0_1, .int .i64 a0_2, .int .i64 a0_3, .int .i64 a0_4, .int .i64 a0_5, .int .i64 a0_6, .int .i64 a0_7, .int .i64 a0_8, .int .i64 a0_9, .int .i64 a0_10, .int .i64 a0_11, .int .i64 a0_12, .int .i64 a0_13] 63 (0, 0)) (bx (blk_far (bx (blk_far (bx (blk_far (bx (blk_far (bx (blk_far (bx (blk_far (bx BK660.out) NB660_688.out _)) NB660_688.out _)) NB660_688.out _)) NB660_688.out _)) NB660_688.out _)) NB660_688.out _)) hb); have n1_ := ak (blk_below (g := gb661) (o := .cells #[.int .i64 a1_0, .string a1_1, .string a1_2, .string a1_3, .string a1_4, .string a1_5, .int .i64 a1_6, .string a1_7, .string a1_8, .string a1_9, .string a1_10, .string a1_11] 64 (0, 0)) (bx (blk_far (bx (blk_far (bx (blk_far (bx (blk_far (bx (blk_far (bx (blk_far (bx BK661.out) NB661_688.out _)) NB661_688.out _)) NB661_688.out _)) NB661_688.out _)) NB661_688.out _)) NB661_688.out _)) hb); have n2_ := ak (blk_below (g := gb669) (o := .cells #[.int .i64 t663, .string t664, .string t665, .string t666, .string t667, .string t668] 50 (0, 0)) (bx (blk_far (bx (blk_far (bx (blk_far (bx (blk_far (bx (blk_far (bx (blk_far (bx BK669.out) NB669_688.out _)) NB669_688.out _)) NB669_688.out _)) NB669_688.out _)) NB669_688.out _)) NB669_688.out _)) hb); have n3_ := ak (blk_below (g := gb676) (o := .cells #[.int .i64 t670, .string t671, .string t672, .string t673, .string t674, .string t675] 50 (0, 0)) (bx (blk_far (bx (blk_far (bx (blk_far (bx (blk_far (bx (blk_far (bx (blk_far (bx BK676.out) NB676_688.out _)) NB676_688.out _)) NB676_688.out _)) NB676_688.out _)) NB676_688.out _)) NB676_688.out _)) hb); have n4_ := ak (blk_below (g := gb688) (o := .cells #[.int .i64 t682, .string t683, .string t684, .string t685, .string t686, .string t687] 50 (0, 0)) (bx (blk_put (cs := #[.int .i64 t682, .string t683, .string t684, .string t685, .string t686, .string ⟨#[]⟩]) (bx (blk_put (cs := #[.int .i64 t682, .string t683, .string t684, .string t685, .string ⟨#[]⟩, .string ⟨#[]⟩]) (bx (blk_put (cs := #[.int .i64 t682, .string t683, .string t684, .string ⟨#[]⟩, .string ⟨#[]⟩, .string ⟨#[]⟩]) (bx (blk_put (cs := #[.int .i64 t682, .string t683, .string ⟨#[]⟩, .string ⟨#[]⟩, .string ⟨#[]⟩, .string ⟨#[]⟩]) (bx (blk_put (cs := #[.int .i64 t682, .string ⟨#[]⟩, .string ⟨#[]⟩, .string ⟨#[]⟩, .string ⟨#[]⟩, .string ⟨#[]⟩]) (bx (blk_put (cs := #[.int .i64 0, .string ⟨#[]⟩, .string ⟨#[]⟩, .string ⟨#[]⟩, .string ⟨#[]⟩, .string ⟨#[]⟩]) (bx BK688.out) 0 _ rfl)) 1 _ rfl)) 2 _ rfl)) 3 _ rfl)) 4 _ rfl)) 5 _ rfl)) hb); have n5_ := ak (below_step bq hb); clear BK660; clear BK661; clear BK669; clear BK676; clear BK688; clear HB; have BK660 := n0_; have BK661 := n1_; have BK669 := n2_; have BK676 := n3_; have BK688 := n4_; have HB := n5_; clear n0_ n1_ n2_ n3_ n4_ n5_; (try clear hb); (try clear hb2); (try clear hk); (try clear hi); (try clear A50)) | ((with_reducible refine gate_dst (N := 14) rfl ?_); refine box_event ?hg (N := 14) ?hd (cs := #[.int .i64 0, .string ⟨#[]⟩, .string ⟨#[]⟩, .string ⟨#[]⟩, .string ⟨#[]⟩, .string ⟨#[]⟩]) (t := 50) ?hr ?_; (case hd => rfl); (case hg => rfl); (case hr => first | (go_simp; done) | (go_simp; rfl)); intro gb695 hg w173 hbox hb; have n0_ := ak (blk_below (g := gb660) (bx BK660.out) hb); have n1_ := ak (blk_below (g := gb661) (bx BK661.out) hb); have n2_ := ak (blk_below (g := gb669) (bx BK669.out) hb); have n3_ := ak (blk_below (g := gb676) (bx BK676.out) hb); have n4_ := ak (blk_below (g := gb688) (bx BK688.out) hb); have n5_ := ak (below_step bq hb); have n6_ := ak (hbox); have n7_ := ak ((by rw [hg]; exact (below_size bq) : w.heap.size ≤ gb695)); have n8_ := ak ((by rw [hg]; exact (below_size bq) : w.heap.size ≤ gb695)); have n9_ := ak ((by rw [hg]; exact Nat.ne_of_lt (blk_lt (g := gb660) (bx BK660.out)) : gb660 ≠ gb695)); have n10_ := ak ((by rw [hg]; exact Nat.ne_of_gt (blk_lt (g := gb660) (bx BK660.out)) : gb695 ≠ gb660)); have n11_ := ak ((by rw [hg]; exact Nat.ne_of_lt (blk_lt (g := gb661) (bx BK661.out)) : gb661 ≠ gb695)); have n12_ := ak ((by rw [hg]; exact Nat.ne_of_gt (blk_lt (g := gb661) (bx BK661.out)) : gb695 ≠ gb661)); have n13_ := ak ((by rw [hg]; exact Nat.ne_of_lt (blk_lt (g := gb669) (bx BK669.out)) : gb669 ≠ gb695)); have n14_ := ak ((by rw [hg]; exact Nat.ne_of_gt (blk_lt (g := gb669) (bx BK669.out)) : gb695 ≠ gb669)); have n15_ := ak ((by rw [hg]; exact Nat.ne_of_lt (blk_lt (g := gb676) (bx BK676.out)) : gb676 ≠ gb695)); have n16_ := ak ((by rw [hg]; exact Nat.ne_of_gt (blk_lt (g := gb676) (bx BK676.out)) : gb695 ≠ gb676)); have n17_ := ak ((by rw [hg]; exact Nat.ne_of_lt (blk_lt (g := gb688) (bx BK688.out)) : gb688 ≠ gb695)); have n18_ := ak ((by rw [hg]; exact Nat.ne_of_gt (blk_lt (g := gb688) (bx BK688.out)) : gb695 ≠ gb688)); clear BK660; clear BK661; clear BK669; clear BK676; clear BK688; clear HB; have BK660 := n0_; have BK661 := n1_; have BK669 := n2_; have BK676 := n3_; have BK688 := n4_; have HB := n5_; have BK695 := n6_; have GW695 := n7_; have GE695 := n8_; have NB660_695 := n9_; have NB695_660 := n10_; have NB661_695 := n11_; have NB695_661 := n12_; have NB669_695 := n13_; have NB695_669 := n14_; have NB676_695 := n15_; have NB695_676 := n16_; have NB688_695 := n17_; have NB695_688 := n18_; clear n0_ n1_ n2_ n3_ n4_ n5_ n6_ n7_ n8_ n9_ n10_ n11_ n12_ n13_ n14_ n15_ n16_ n17_ n18_; clear hb hbox hg; have hnb174 := NB695_660.out; have hnc174 := NB660_695.out; have hnb175 := NB695_661.out; have hnc175 := NB661_695.out; have hnb176 := NB695_669.out; have hnc176 := NB669_695.out; have hnb177 := NB695_676.out; have hnc177 := NB676_695.out; have hnb178 := NB695_688.out; have hnc178 := NB688_695.out; obtain ⟨hcz179_0, hcz179_1, hcz179_2, hcz179_3, hcz179_4, hcz179_5⟩ := cz6 BK695.out; obtain ⟨hfz179_0, hfz179_1, hfz179_2, hfz179_3, hfz179_4, hfz179_5⟩ := fz6 BK695.out))
     have n0_ : Aside0 (((((((w173.setCell ⟨gb695, 0, none⟩ (.int .i64 t689)).setCell ⟨gb695, 1, none⟩ (.string t690)).setCell ⟨gb695, 2, none⟩ (.string t691)).setCell ⟨gb695, 3, none⟩ (.string t692)).setCell ⟨gb695, 4, none⟩ (.string t693)).setCell ⟨gb695, 5, none⟩ (.string t694)).heap[gb660]? = some (.cells #[.int .i64 a0_0, .int .i64 a0_1, .int .i64 a0_2, .int .i64 a0_3, .int .i64 a0_4, .int .i64 a0_5, .int .i64 a0_6, .int .i64 a0_7, .int .i64 a0_8, .int .i64 a0_9, .int .i64 a0_10, .int .i64 a0_11, .int .i64 a0_12, .int .i64 a0_13] 63 (0, 0))) := ⟨(bx (blk_far (bx (blk_far (bx (blk_far (bx (blk_far (bx (blk_far (bx (blk_far (bx BK660.out) NB660_695.out _)) NB660_695.out _)) NB660_695.out _)) NB660_695.out _)) NB660_695.out _)) NB660_695.out _))⟩
     have n1_ : Aside0 (((((((w173.setCell ⟨gb695, 0, none⟩ (.int .i64 t689)).setCell ⟨gb695, 1, none⟩ (.string t690)).setCell ⟨gb695, 2, none⟩ (.string t691)).setCell ⟨gb695, 3, none⟩ (.string t692)).setCell ⟨gb695, 4, none⟩ (.string t693)).setCell ⟨gb695, 5, none⟩ (.string t694)).heap[gb661]? = some (.cells #[.int .i64 a1_0, .string a1_1, .string a1_2, .string a1_3, .string a1_4, .string a1_5, .int .i64 a1_6, .string a1_7, .string a1_8, .string a1_9, .string a1_10, .string a1_11] 64 (0, 0))) := ⟨(bx (blk_far (bx (blk_far (bx (blk_far (bx (blk_far (bx (blk_far (bx (blk_far (bx BK661.out) NB661_695.out _)) NB661_695.out _)) NB661_695.out _)) NB661_695.out _)) NB661_695.out _)) NB661_695.out _))⟩
     have n2_ : Aside0 (((((((w173.setCell ⟨gb695, 0, none⟩ (.int .i64 t689)).setCell ⟨gb695, 1, none⟩ (.string t690)).setCell ⟨gb695, 2, none⟩ (.string t691)).setCell ⟨gb695, 3, none⟩ (.string t692)).setCell ⟨gb695, 4, none⟩ (.string t693)).setCell ⟨gb695, 5, none⟩ (.string t694)).heap[gb669]? = some (.cells #[.int .i64 t663, .string t664, .string t665, .string t666, .string t667, .string t668] 50 (0, 0))) := ⟨(bx (blk_far (bx (blk_far (bx (blk_far (bx (blk_far (bx (blk_far (bx (blk_far (bx BK669.out) NB669_695.out _)) NB669_695.out _)) NB669_695.out _)) NB669_695.out _)) NB669_695.out _)) NB669_695.out _))⟩
     have n3_ : Aside0 (((((((w173.setCell ⟨gb695, 0, none⟩ (.int .i64 t689)).setCell ⟨gb695, 1, none⟩ (.string t690)).setCell ⟨gb695, 2, none⟩ (.string t691)).setCell ⟨gb695, 3, none⟩ (.string t692)).setCell ⟨gb695, 4, none⟩ (.string t693)).setCell ⟨gb695, 5, none⟩ (.string t694)).heap[gb676]? = some (.cells #[.int .i64 t670, .string t671, .string t672, .string t673, .string t674, .string t675] 50 (0, 0))) := ⟨(bx (blk_far (bx (blk_far (bx (blk_far (bx (blk_far (bx (blk_far (bx (blk_far (bx BK676.out) NB676_695.out _)) NB676_695.out _)) NB676_695.out _)) NB676_695.out _)) NB676_695.out _)) NB676_695.out _))⟩
     have n4_ : Aside0 (((((((w173.setCell ⟨gb695, 0, none⟩ (.int .i64 t689)).setCell ⟨gb695, 1, none⟩ (.string t690)).setCell ⟨gb695, 2, none⟩ (.string t691)).setCell ⟨gb695, 3, none⟩ (.string t692)).setCell ⟨gb695, 4, none⟩ (.string t693)).setCell ⟨gb695, 5, none⟩ (.string t694)).heap[gb688]? = some (.cells #[.int .i64 t682, .string t683, .string t684, .string t685, .string t686, .string t687] 50 (0, 0))) := ⟨(bx (blk_far (bx (blk_far (bx (blk_far (bx (blk_far (bx (blk_far (bx (blk_far (bx BK688.out) NB688_695.out _)) NB688_695.out _)) NB688_695.out _)) NB688_695.out _)) NB688_695.out _)) NB688_695.out _))⟩
     have n5_ : Aside0 (((((((w173.setCell ⟨gb695, 0, none⟩ (.int .i64 t689)).setCell ⟨gb695, 1, none⟩ (.string t690)).setCell ⟨gb695, 2, none⟩ (.string t691)).setCell ⟨gb695, 3, none⟩ (.string t692)).setCell ⟨gb695, 4, none⟩ (.string t693)).setCell ⟨gb695, 5, none⟩ (.string t694)).heap[gb695]? = some (.cells #[.int .i64 t689, .string t690, .string t691, .string t692, .string t693, .string t694] 50 (0, 0))) := ⟨(bx (blk_put (cs := #[.int .i64 t689, .string t690, .string t691, .string t692, .string t693, .string ⟨#[]⟩]) (bx (blk_put (cs := #[.int .i64 t689, .string t690, .string t691, .string t692, .string ⟨#[]⟩, .string ⟨#[]⟩]) (bx (blk_put (cs := #[.int .i64 t689, .string t690, .string t691, .string ⟨#[]⟩, .string ⟨#[]⟩, .string ⟨#[]⟩]) (bx (blk_put (cs := #[.int .i64 t689, .string t690, .string ⟨#[]⟩, .string ⟨#[]⟩, .string ⟨#[]⟩, .string ⟨#[]⟩]) (bx (blk_put (cs := #[.int .i64 t689, .string ⟨#[]⟩, .string ⟨#[]⟩, .string ⟨#[]⟩, .string ⟨#[]⟩, .string ⟨#[]⟩]) (bx (blk_put (cs := #[.int .i64 0, .string ⟨#[]⟩, .string ⟨#[]⟩, .string ⟨#[]⟩, .string ⟨#[]⟩, .string ⟨#[]⟩]) (bx BK695.out) 0 _ rfl)) 1 _ rfl)) 2 _ rfl)) 3 _ rfl)) 4 _ rfl)) 5 _ rfl))⟩
     have n6_ : Aside0 (Below w.heap.size w ((((((w173.setCell ⟨gb695, 0, none⟩ (.int .i64 t689)).setCell ⟨gb695, 1, none⟩ (.string t690)).setCell ⟨gb695, 2, none⟩ (.string t691)).setCell ⟨gb695, 3, none⟩ (.string t692)).setCell ⟨gb695, 4, none⟩ (.string t693)).setCell ⟨gb695, 5, none⟩ (.string t694))) := ⟨bq⟩
     (try clear BK660)
     (try clear BK661)
     (try clear BK669)
     (try clear BK676)
     (try clear BK688)
     (try clear BK695)
     (try clear HB)
     generalize ((((((w173.setCell ⟨gb695, 0, none⟩ (.int .i64 t689)).setCell ⟨gb695, 1, none⟩ (.string t690)).setCell ⟨gb695, 2, none⟩ (.string t691)).setCell ⟨gb695, 3, none⟩ (.string t692)).setCell ⟨gb695, 4, none⟩ (.string t693)).setCell ⟨gb695, 5, none⟩ (.string t694)) = w180 at n0_ n1_ n2_ n3_ n4_ n5_ n6_ ⊢
     have BK660 := n0_
     have BK661 := n1_
     have BK669 := n2_
     have BK676 := n3_
     have BK688 := n4_
     have BK695 := n5_
     have HB := n6_
     clear n0_ n1_ n2_ n3_ n4_ n5_ n6_
     have n0_ := ak (blk_drew BK660.out)
     have n1_ := ak (blk_drew BK661.out)
     have n2_ := ak (blk_drew BK669.out)
     have n3_ := ak (blk_drew BK676.out)
     have n4_ := ak (blk_drew BK688.out)
     have n5_ := ak (blk_drew BK695.out)
     have n6_ := ak (below_drew1 HB.out)
     clear BK660
     clear BK661
     clear BK669
     clear BK676
     clear BK688
     clear BK695
     clear HB
     have BK660 := n0_
     have BK661 := n1_
     have BK669 := n2_
     have BK676 := n3_
     have BK688 := n4_
     have BK695 := n5_
     have HB := n6_
     clear n0_ n1_ n2_ n3_ n4_ n5_ n6_
     refine start_ (n := 32) (S := fun w' => True) (ds := []) #[false, false, false, false, false, false, false, false, false, false, false, false, false, false, false, false, false, false, false, false, false, false, false, false, false, false, false, false, false, false, false, false] (by kernel_rfl) rfl rfl trivial (fun hHeld => ?_); refine with_tabW isoglosslaw12_AliasOrders.tab11 isoglosslaw12_AliasOrders.bits11 (fun HT_ HW_ => ?_)
     generalize w180.drew = w181 at BK660 BK661 BK669 BK676 BK688 BK695 HB hHeld ⊢
     refine pu 0 (some 65) (M 32 1) ?_
     refine pu 1 (some 66) (M 32 3) ?_
     refine pn 2 (some 67) (M 32 7) ?_
     refine pn 3 (some 68) (M 32 15) ?_
     refine pn 4 (some 69) (M 32 31) ?_
     refine pn 5 (some 70) (M 32 63) ?_
     refine pn 6 (some 71) (M 32 127) ?_
     refine pu 7 (some 72) (M 32 255) ?_
     refine pu 8 (some 73) (M 32 511) ?_
     refine pn 9 (some 74) (M 32 1023) ?_
     refine pn 10 (some 75) (M 32 2047) ?_
     refine pn 11 (some 76) (M 32 4095) ?_
     refine pn 12 (some 77) (M 32 8191) ?_
     refine pn 13 (some 78) (M 32 16383) ?_
     refine pn 14 (some 79) (M 32 32767) ?_
     refine pu 15 (some 80) (M 32 65535) ?_
     refine pu 16 (some 81) (M 32 131071) ?_
     refine pn 17 (some 82) (M 32 262143) ?_
     refine pn 18 (some 83) (M 32 524287) ?_
     refine pn 19 (some 84) (M 32 1048575) ?_
     refine pn 20 (some 85) (M 32 2097151) ?_
     refine pn 21 (some 86) (M 32 4194303) ?_
     refine pn 22 (some 87) (M 32 8388607) ?_
     refine pn 23 (some 88) (M 32 16777215) ?_
     refine pu 24 (some 89) (M 32 33554431) ?_
     refine pu 25 (some 90) (M 32 67108863) ?_
     refine pn 26 (some 91) (M 32 134217727) ?_
     refine pn 27 (some 92) (M 32 268435455) ?_
     refine pn 28 (some 93) (M 32 536870911) ?_
     refine pn 29 (some 94) (M 32 1073741823) ?_
     refine pu 30 (some 95) (M 32 2147483647) ?_
     refine pu 31 (some 4) (M 32 4294967295) ?_
     refine done_ (done_of HT_.out (by kernel_rfl)) ?_
     try go_wp2
     go_ret
     exact ⟨by first | rfl | (simp [errW_none, errW_some] <;> rfl) | (simp [*, errW_none, errW_some] <;> rfl), bq⟩

def isoglosslaw12_AliasOrders.Pure : Prop := ∀ (a0_0 : Int) (a0_1 : Int) (a0_2 : Int) (a0_3 : Int) (a0_4 : Int) (a0_5 : Int) (a0_6 : Int) (a0_7 : Int) (a0_8 : Int) (a0_9 : Int) (a0_10 : Int) (a0_11 : Int) (a0_12 : Int) (a0_13 : Int) (a1_0 : Int) (a1_1 : ByteArray) (a1_2 : ByteArray) (a1_3 : ByteArray) (a1_4 : ByteArray) (a1_5 : ByteArray) (a1_6 : Int) (a1_7 : ByteArray) (a1_8 : ByteArray) (a1_9 : ByteArray) (a1_10 : ByteArray) (a1_11 : ByteArray), (Lit.int .i64 a0_0).wf = true → (Lit.int .i64 a0_1).wf = true → (Lit.int .i64 a0_2).wf = true → (Lit.int .i64 a0_3).wf = true → (Lit.int .i64 a0_4).wf = true → (Lit.int .i64 a0_5).wf = true → (Lit.int .i64 a0_6).wf = true → (Lit.int .i64 a0_7).wf = true → (Lit.int .i64 a0_8).wf = true → (Lit.int .i64 a0_9).wf = true → (Lit.int .i64 a0_10).wf = true → (Lit.int .i64 a0_11).wf = true → (Lit.int .i64 a0_12).wf = true → (Lit.int .i64 a0_13).wf = true → (Lit.int .i64 a1_0).wf = true → a1_1.size ≤ maxLen → a1_2.size ≤ maxLen → a1_3.size ≤ maxLen → a1_4.size ≤ maxLen → a1_5.size ≤ maxLen → (Lit.int .i64 a1_6).wf = true → a1_7.size ≤ maxLen → a1_8.size ≤ maxLen → a1_9.size ≤ maxLen → a1_10.size ≤ maxLen → a1_11.size ≤ maxLen → ∃ k, isoglosslaw12_AliasOrders.f k a0_0 a0_1 a0_2 a0_3 a0_4 a0_5 a0_6 a0_7 a0_8 a0_9 a0_10 a0_11 a0_12 a0_13 a1_0 a1_1 a1_2 a1_3 a1_4 a1_5 a1_6 a1_7 a1_8 a1_9 a1_10 a1_11 = some true
theorem isoglosslaw12_AliasOrders.walk (P : isoglosslaw12_AliasOrders.Pure) (a0_0 : Int) (a0_1 : Int) (a0_2 : Int) (a0_3 : Int) (a0_4 : Int) (a0_5 : Int) (a0_6 : Int) (a0_7 : Int) (a0_8 : Int) (a0_9 : Int) (a0_10 : Int) (a0_11 : Int) (a0_12 : Int) (a0_13 : Int) (a1_0 : Int) (a1_1 : ByteArray) (a1_2 : ByteArray) (a1_3 : ByteArray) (a1_4 : ByteArray) (a1_5 : ByteArray) (a1_6 : Int) (a1_7 : ByteArray) (a1_8 : ByteArray) (a1_9 : ByteArray) (a1_10 : ByteArray) (a1_11 : ByteArray) (w : World) (w0_0 : (Lit.int .i64 a0_0).wf = true) (w0_1 : (Lit.int .i64 a0_1).wf = true) (w0_2 : (Lit.int .i64 a0_2).wf = true) (w0_3 : (Lit.int .i64 a0_3).wf = true) (w0_4 : (Lit.int .i64 a0_4).wf = true) (w0_5 : (Lit.int .i64 a0_5).wf = true) (w0_6 : (Lit.int .i64 a0_6).wf = true) (w0_7 : (Lit.int .i64 a0_7).wf = true) (w0_8 : (Lit.int .i64 a0_8).wf = true) (w0_9 : (Lit.int .i64 a0_9).wf = true) (w0_10 : (Lit.int .i64 a0_10).wf = true) (w0_11 : (Lit.int .i64 a0_11).wf = true) (w0_12 : (Lit.int .i64 a0_12).wf = true) (w0_13 : (Lit.int .i64 a0_13).wf = true) (w1_0 : (Lit.int .i64 a1_0).wf = true) (w1_1 : a1_1.size ≤ maxLen) (w1_2 : a1_2.size ≤ maxLen) (w1_3 : a1_3.size ≤ maxLen) (w1_4 : a1_4.size ≤ maxLen) (w1_5 : a1_5.size ≤ maxLen) (w1_6 : (Lit.int .i64 a1_6).wf = true) (w1_7 : a1_7.size ≤ maxLen) (w1_8 : a1_8.size ≤ maxLen) (w1_9 : a1_9.size ≤ maxLen) (w1_10 : a1_10.size ≤ maxLen) (w1_11 : a1_11.size ≤ maxLen) (hG : GrandW.G w) :
  Calls Tryd.prog 11 #[.agg #[.int .i64 a0_0, .int .i64 a0_1, .int .i64 a0_2, .int .i64 a0_3, .int .i64 a0_4, .int .i64 a0_5, .int .i64 a0_6, .int .i64 a0_7, .int .i64 a0_8, .int .i64 a0_9, .int .i64 a0_10, .int .i64 a0_11, .int .i64 a0_12, .int .i64 a0_13], .agg #[.int .i64 a1_0, .string a1_1, .string a1_2, .string a1_3, .string a1_4, .string a1_5, .int .i64 a1_6, .string a1_7, .string a1_8, .string a1_9, .string a1_10, .string a1_11]] w fun e w' => e = .returned (.bool true) ∧ Below w.heap.size w w' := by
 obtain ⟨k, h⟩ := P a0_0 a0_1 a0_2 a0_3 a0_4 a0_5 a0_6 a0_7 a0_8 a0_9 a0_10 a0_11 a0_12 a0_13 a1_0 a1_1 a1_2 a1_3 a1_4 a1_5 a1_6 a1_7 a1_8 a1_9 a1_10 a1_11 w0_0 w0_1 w0_2 w0_3 w0_4 w0_5 w0_6 w0_7 w0_8 w0_9 w0_10 w0_11 w0_12 w0_13 w1_0 w1_1 w1_2 w1_3 w1_4 w1_5 w1_6 w1_7 w1_8 w1_9 w1_10 w1_11
 refine (isoglosslaw12_AliasOrders.calls k a0_0 a0_1 a0_2 a0_3 a0_4 a0_5 a0_6 a0_7 a0_8 a0_9 a0_10 a0_11 a0_12 a0_13 a1_0 a1_1 a1_2 a1_3 a1_4 a1_5 a1_6 a1_7 a1_8 a1_9 a1_10 a1_11 true w h hG).mono ?_
 rintro e w' ⟨rfl, hd⟩
 exact ⟨rfl, hd⟩

end Go.Proofs.YtmbfnbnlajchmaaDoor.P
