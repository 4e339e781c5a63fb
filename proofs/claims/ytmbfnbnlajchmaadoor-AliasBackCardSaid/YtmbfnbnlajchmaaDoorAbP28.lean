/- Made by a program of this seat's own (myprint.py, round the kit's print): what the functions compute, and that they do. -/
import Derived.Test.YtmbfnbnlajchmaaDoorAbP0
import Derived.Test.YtmbfnbnlajchmaaDoorAbP1
import Derived.Test.YtmbfnbnlajchmaaDoorAbP10
import Derived.Test.YtmbfnbnlajchmaaDoorAbP11
import Derived.Test.YtmbfnbnlajchmaaDoorAbP13
import Derived.Test.YtmbfnbnlajchmaaDoorAbP17
import Derived.Test.YtmbfnbnlajchmaaDoorAbP24
import Derived.Test.YtmbfnbnlajchmaaDoorAbTight
namespace Go.Proofs.YtmbfnbnlajchmaaDoor.P
open Go.RowKit Go.Proofs.YtmbfnbnlajchmaaDoorW.PrintWords Go.Proofs.YtmbfnbnlajchmaaDoorW.PrintLast Go.Proofs.YtmbfnbnlajchmaaDoorW.PrintMore
attribute [local go_sem] StrOrd.binOp_gtr StrOrd.binOp_leq max2_int min2_int max_two min_two max_three min_three max_four min_four   -- for this text's walks alone
set_option linter.unusedVariables false
set_option linter.unusedSimpArgs false

attribute [local go_sem high] eqA50
def isoglosslaw12_AliasBack.j0 : Nat → Bool → Bool → Int → Int → Int → ByteArray → ByteArray → ByteArray → ByteArray → ByteArray → Option (Bool)
 | 0, _, _, _, _, _, _, _, _, _, _ => none
 | k + 1, x5, x40, x756000, x756001, x764000, x764001, x764002, x764003, x764004, x764005 => if x40 = true then (some false) else ((isoglossref12_Row.f k x764000 x764001 x764002 x764003 x764004 x764005).bind fun t774 => ((isoglosslaw12_rest.f x756000 (t774.size : Int)).bind fun t775 => (if 0 ≤ t775 then (if t775 ≤ (t774.size : Int) then ((some (([(x756001) % 256] : List Int) : List Int)).bind fun y776 => (if (t774.extract 0 (t775 : Int).toNat).size + (strOfNums y776).size ≤ 9223372036854775807 then (if 0 ≤ (wrap64 (t775 + 1)) then (if (wrap64 (t775 + 1)) ≤ (t774.size : Int) then (if ((t774.extract 0 (t775 : Int).toNat) ++ (strOfNums y776)).size + (t774.extract ((wrap64 (t775 + 1)) : Int).toNat t774.size).size ≤ 9223372036854775807 then ((alias_Decode.f k (((t774.extract 0 (t775 : Int).toNat) ++ (strOfNums y776)) ++ (t774.extract ((wrap64 (t775 + 1)) : Int).toNat t774.size))).bind fun bt779 => ((alias_Encode.f k bt779.1 bt779.2.1 bt779.2.2.1 bt779.2.2.2.1 bt779.2.2.2.2.1 bt779.2.2.2.2.2.1).bind fun bt787 => (if x5 = true then (if (bt779.2.2.2.2.2.2 == bt787.2) = true then (if bt779.2.2.2.2.2.2 = true then (if bt787.1.toList = (((t774.extract 0 (t775 : Int).toNat) ++ (strOfNums y776)) ++ (t774.extract ((wrap64 (t775 + 1)) : Int).toNat t774.size)).toList then ((alias_Right.f k bt779.1 bt779.2.1 bt779.2.2.1 bt779.2.2.2.1 bt779.2.2.2.2.1 bt779.2.2.2.2.2.1).bind fun t789 => (some t789)) else (some false)) else (some true)) else (some false)) else (some false)))) else (none)) else (none)) else (none)) else (none))) else (none)) else (none))))
def isoglosslaw12_AliasBack.f (k : Nat) (a0_0 : Int) (a0_1 : Int) (a0_2 : Int) (a0_3 : Int) (a0_4 : Int) (a0_5 : Int) (a0_6 : Int) (a1_0 : Int) (a1_1 : Int) : Option (Bool) := (isoglosslaw12_awake.f k).bind fun t756 => ((isoglossref12_Made.f k a0_0 a0_1 a0_2 a0_3 a0_4 a0_5 a0_6).bind fun bt757 => ((alias_Encode.f k bt757.1 bt757.2.1 bt757.2.2.1 bt757.2.2.2.1 bt757.2.2.2.2.1 bt757.2.2.2.2.2).bind fun bt764 => ((alias_Decode.f k bt764.1).bind fun bt766 => (if (bt764.2 != bt766.2.2.2.2.2.2) = true then (isoglosslaw12_AliasBack.j0 k t756 true a1_0 a1_1 bt757.1 bt757.2.1 bt757.2.2.1 bt757.2.2.2.1 bt757.2.2.2.2.1 bt757.2.2.2.2.2) else (if bt764.2 = true then (isoglosslaw12_AliasBack.j0 k t756 (!(bt757.1 == bt766.1) || (!(bt757.2.1.toList == bt766.2.1.toList) || (!(bt757.2.2.1.toList == bt766.2.2.1.toList) || (!(bt757.2.2.2.1.toList == bt766.2.2.2.1.toList) || (!(bt757.2.2.2.2.1.toList == bt766.2.2.2.2.1.toList) || (!(bt757.2.2.2.2.2.toList == bt766.2.2.2.2.2.1.toList))))))) a1_0 a1_1 bt757.1 bt757.2.1 bt757.2.2.1 bt757.2.2.2.1 bt757.2.2.2.2.1 bt757.2.2.2.2.2) else (isoglosslaw12_AliasBack.j0 k t756 false a1_0 a1_1 bt757.1 bt757.2.1 bt757.2.2.1 bt757.2.2.2.1 bt757.2.2.2.2.1 bt757.2.2.2.2.2))))))
def isoglosslaw12_AliasBack.T9 : Bool × List (List Nat × List Nat) := (true, [([], []), ([], []), ([0, 1], [0, 1]), ([], []), ([3], [3]), ([4], [4]), ([5], [5]), ([6], [6]), ([2, 7], [2, 7]), ([], []), ([], []), ([10], [10]), ([9, 11], [9, 11]), ([8, 12], [8, 12]), ([13, 0, 1, 2, 3, 4, 5, 6, 7, 8, 9, 10, 11, 12, 13], [0, 9, 13])])
def isoglosslaw12_AliasBack.B9 : List Nat := [0, 0, 3, 0, 8, 24, 56, 120, 255, 0, 0, 1024, 3584, 8191, 16383]
theorem isoglosslaw12_AliasBack.tab9 : rtab .any (opsOf Tryd.f13 9) = isoglosslaw12_AliasBack.T9 := by kernel_rfl
theorem isoglosslaw12_AliasBack.bits9 : waitsOk isoglosslaw12_AliasBack.T9.2 isoglosslaw12_AliasBack.B9 = true := by kernel_rfl
set_option maxHeartbeats 8000000 in
set_option maxRecDepth 100000 in
theorem isoglosslaw12_AliasBack.calls (k : Nat) (a0_0 : Int) (a0_1 : Int) (a0_2 : Int) (a0_3 : Int) (a0_4 : Int) (a0_5 : Int) (a0_6 : Int) (a1_0 : Int) (a1_1 : Int) (r : Bool) (w : World) (h : isoglosslaw12_AliasBack.f k a0_0 a0_1 a0_2 a0_3 a0_4 a0_5 a0_6 a1_0 a1_1 = some r) (hG : GrandW.G w) :
  Calls Tryd.prog 13 #[.agg #[.int .i64 a0_0, .int .i64 a0_1, .int .i64 a0_2, .int .i64 a0_3, .int .i64 a0_4, .int .i64 a0_5, .int .i64 a0_6], .agg #[.int .i64 a1_0, .int .i64 a1_1]] w fun e w' => e = .returned (.bool r) ∧ Below w.heap.size w w' := by
 have HG := ak hG
 clear hG
 have hu52 := Tryd.underlying52
 have hu67 := Tryd.underlying67
 have hu50 := Tryd.underlying50
 have HB := ak (Below.refl w.heap.size w)
 have H : ((isoglosslaw12_awake.f k).bind fun t756 => ((isoglossref12_Made.f k a0_0 a0_1 a0_2 a0_3 a0_4 a0_5 a0_6).bind fun bt757 => ((alias_Encode.f k bt757.1 bt757.2.1 bt757.2.2.1 bt757.2.2.2.1 bt757.2.2.2.2.1 bt757.2.2.2.2.2).bind fun bt764 => ((alias_Decode.f k bt764.1).bind fun bt766 => (if (bt764.2 != bt766.2.2.2.2.2.2) = true then (isoglosslaw12_AliasBack.j0 k t756 true a1_0 a1_1 bt757.1 bt757.2.1 bt757.2.2.1 bt757.2.2.2.1 bt757.2.2.2.2.1 bt757.2.2.2.2.2) else (if bt764.2 = true then (isoglosslaw12_AliasBack.j0 k t756 (!(bt757.1 == bt766.1) || (!(bt757.2.1.toList == bt766.2.1.toList) || (!(bt757.2.2.1.toList == bt766.2.2.1.toList) || (!(bt757.2.2.2.1.toList == bt766.2.2.2.1.toList) || (!(bt757.2.2.2.2.1.toList == bt766.2.2.2.2.1.toList) || (!(bt757.2.2.2.2.2.toList == bt766.2.2.2.2.2.1.toList))))))) a1_0 a1_1 bt757.1 bt757.2.1 bt757.2.2.1 bt757.2.2.2.1 bt757.2.2.2.2.1 bt757.2.2.2.2.2) else (isoglosslaw12_AliasBack.j0 k t756 false a1_0 a1_1 bt757.1 bt757.2.1 bt757.2.2.1 bt757.2.2.2.1 bt757.2.2.2.2.1 bt757.2.2.2.2.2))))))) = some r := h
 clear h
 replace H := Option.bind_eq_some_iff.mp H
 obtain ⟨t756, A30, H⟩ := H
 have A3 := ak A30
 clear A30
 replace H := Option.bind_eq_some_iff.mp H
 obtain ⟨⟨t757, t758, t759, t760, t761, t762⟩, A40, H⟩ := H
 replace H : ((alias_Encode.f k t757 t758 t759 t760 t761 t762).bind fun bt764 => ((alias_Decode.f k bt764.1).bind fun bt766 => (if (bt764.2 != bt766.2.2.2.2.2.2) = true then (isoglosslaw12_AliasBack.j0 k t756 true a1_0 a1_1 t757 t758 t759 t760 t761 t762) else (if bt764.2 = true then (isoglosslaw12_AliasBack.j0 k t756 (!(t757 == bt766.1) || (!(t758.toList == bt766.2.1.toList) || (!(t759.toList == bt766.2.2.1.toList) || (!(t760.toList == bt766.2.2.2.1.toList) || (!(t761.toList == bt766.2.2.2.2.1.toList) || (!(t762.toList == bt766.2.2.2.2.2.1.toList))))))) a1_0 a1_1 t757 t758 t759 t760 t761 t762) else (isoglosslaw12_AliasBack.j0 k t756 false a1_0 a1_1 t757 t758 t759 t760 t761 t762))))) = some r := H
 have A4 := ak A40
 clear A40
 replace H := Option.bind_eq_some_iff.mp H
 obtain ⟨⟨t764, t765⟩, A50, H⟩ := H
 replace H : ((alias_Decode.f k t764).bind fun bt766 => (if (t765 != bt766.2.2.2.2.2.2) = true then (isoglosslaw12_AliasBack.j0 k t756 true a1_0 a1_1 t757 t758 t759 t760 t761 t762) else (if t765 = true then (isoglosslaw12_AliasBack.j0 k t756 (!(t757 == bt766.1) || (!(t758.toList == bt766.2.1.toList) || (!(t759.toList == bt766.2.2.1.toList) || (!(t760.toList == bt766.2.2.2.1.toList) || (!(t761.toList == bt766.2.2.2.2.1.toList) || (!(t762.toList == bt766.2.2.2.2.2.1.toList))))))) a1_0 a1_1 t757 t758 t759 t760 t761 t762) else (isoglosslaw12_AliasBack.j0 k t756 false a1_0 a1_1 t757 t758 t759 t760 t761 t762)))) = some r := H
 have A5 := ak A50
 clear A50
 replace H := Option.bind_eq_some_iff.mp H
 obtain ⟨⟨t766, t767, t768, t769, t770, t771, t772⟩, A60, H⟩ := H
 replace H : (if (t765 != t772) = true then (isoglosslaw12_AliasBack.j0 k t756 true a1_0 a1_1 t757 t758 t759 t760 t761 t762) else (if t765 = true then (isoglosslaw12_AliasBack.j0 k t756 (!(t757 == t766) || (!(t758.toList == t767.toList) || (!(t759.toList == t768.toList) || (!(t760.toList == t769.toList) || (!(t761.toList == t770.toList) || (!(t762.toList == t771.toList))))))) a1_0 a1_1 t757 t758 t759 t760 t761 t762) else (isoglosslaw12_AliasBack.j0 k t756 false a1_0 a1_1 t757 t758 t759 t760 t761 t762))) = some r := H
 have A6 := ak A60
 clear A60
 have HC7 := ak H
 clear H
 go_enter Tryd.func13, Tryd.ntmps13
 go_upto_region 5 with (first | ((with_reducible refine gate_dst (N := 2) rfl ?_); refine box_event ?hg (N := 2) ?hd (cs := #[.int .i64 a0_0, .int .i64 a0_1, .int .i64 a0_2, .int .i64 a0_3, .int .i64 a0_4, .int .i64 a0_5, .int .i64 a0_6]) (t := 52) ?hr ?_; (case hd => rfl); (case hg => rfl); (case hr => first | (go_simp; done) | (go_simp; rfl)); intro gb754 hg w8 hbox hb; have n0_ := ak (below_step bq hb); have n1_ := ak (hbox); have n2_ := ak ((by rw [hg]; exact (below_size bq) : w.heap.size ≤ gb754)); have n3_ := ak ((by rw [hg]; exact (below_size bq) : w.heap.size ≤ gb754)); clear HB; have HB := n0_; have BK754 := n1_; have GW754 := n2_; have GE754 := n3_; clear n0_ n1_ n2_ n3_; clear hb hbox hg) | ((with_reducible refine gate_dst (N := 3) rfl ?_); refine box_event ?hg (N := 3) ?hd (cs := #[.int .i64 a1_0, .int .i64 a1_1]) (t := 67) ?hr ?_; (case hd => rfl); (case hg => rfl); (case hr => first | (go_simp; done) | (go_simp; rfl)); intro gb755 hg w9 hbox hb; have n0_ := ak (blk_below (g := gb754) (bx BK754.out) hb); have n1_ := ak (below_step bq hb); have n2_ := ak (hbox); have n3_ := ak ((by rw [hg]; exact (below_size bq) : w.heap.size ≤ gb755)); have n4_ := ak ((by rw [hg]; exact (below_size bq) : w.heap.size ≤ gb755)); have n5_ := ak ((by rw [hg]; exact Nat.ne_of_lt (blk_lt (g := gb754) (bx BK754.out)) : gb754 ≠ gb755)); have n6_ := ak ((by rw [hg]; exact Nat.ne_of_gt (blk_lt (g := gb754) (bx BK754.out)) : gb755 ≠ gb754)); clear BK754; clear HB; have BK754 := n0_; have HB := n1_; have BK755 := n2_; have GW755 := n3_; have GE755 := n4_; have NB754_755 := n5_; have NB755_754 := n6_; clear n0_ n1_ n2_ n3_ n4_ n5_ n6_; clear hb hbox hg) | ((with_reducible refine gate_callee (f := 30) rfl ?_); refine goesL_ (some 17) rfl rfl Tryd.func30 (by kernel_rfl) rfl #[] rfl mq ?_; (with_reducible refine (isoglosslaw12_awake.calls k  t756 _ A3.out HG.out.on).mono ?_); rintro e w10 ⟨rfl, hb⟩; refine ⟨_, rfl, ?_⟩; have n0_ := ak (blk_below (g := gb754) (bx BK754.out) hb); have n1_ := ak (blk_below (g := gb755) (bx BK755.out) hb); have n2_ := ak (below_step bq hb); clear BK754; clear BK755; clear HB; have BK754 := n0_; have BK755 := n1_; have HB := n2_; clear n0_ n1_ n2_; (try clear hb); (try clear hb2); (try clear hk); (try clear hi); have hnb11 := NB754_755.out; have hnc11 := NB755_754.out; obtain ⟨hcz12_0, hcz12_1, hcz12_2, hcz12_3, hcz12_4, hcz12_5, hcz12_6⟩ := cz7 BK754.out; obtain ⟨hfz12_0, hfz12_1, hfz12_2, hfz12_3, hfz12_4, hfz12_5, hfz12_6⟩ := fz7 BK754.out; (try clear A3)) | ((with_reducible refine gate_callee (f := 34) rfl ?_); refine goesL_ (some 19) rfl rfl Tryd.func34 (by kernel_rfl) rfl #[.agg #[.int .i64 a0_0, .int .i64 a0_1, .int .i64 a0_2, .int .i64 a0_3, .int .i64 a0_4, .int .i64 a0_5, .int .i64 a0_6]] rfl mq ?_; (with_reducible refine (isoglossref12_Made.calls k a0_0 a0_1 a0_2 a0_3 a0_4 a0_5 a0_6 t757 t758 t759 t760 t761 t762 _ A4.out).mono ?_); rintro e w13 ⟨rfl, hb⟩; refine ⟨_, rfl, ?_⟩; have n0_ := ak (blk_below (g := gb754) (bx BK754.out) hb); have n1_ := ak (blk_below (g := gb755) (bx BK755.out) hb); have n2_ := ak (below_step bq hb); clear BK754; clear BK755; clear HB; have BK754 := n0_; have BK755 := n1_; have HB := n2_; clear n0_ n1_ n2_; (try clear hb); (try clear hb2); (try clear hk); (try clear hi); (try clear A4)) | ((with_reducible refine gate_dst (N := 6) rfl ?_); refine box_event ?hg (N := 6) ?hd (cs := #[.int .i64 0, .string ⟨#[]⟩, .string ⟨#[]⟩, .string ⟨#[]⟩, .string ⟨#[]⟩, .string ⟨#[]⟩]) (t := 50) ?hr ?_; (case hd => rfl); (case hg => rfl); (case hr => first | (go_simp; done) | (go_simp; rfl)); intro gb763 hg w14 hbox hb; have n0_ := ak (blk_below (g := gb754) (bx BK754.out) hb); have n1_ := ak (blk_below (g := gb755) (bx BK755.out) hb); have n2_ := ak (below_step bq hb); have n3_ := ak (hbox); have n4_ := ak ((by rw [hg]; exact (below_size bq) : w.heap.size ≤ gb763)); have n5_ := ak ((by rw [hg]; exact (below_size bq) : w.heap.size ≤ gb763)); have n6_ := ak ((by rw [hg]; exact Nat.ne_of_lt (blk_lt (g := gb754) (bx BK754.out)) : gb754 ≠ gb763)); have n7_ := ak ((by rw [hg]; exact Nat.ne_of_gt (blk_lt (g := gb754) (bx BK754.out)) : gb763 ≠ gb754)); have n8_ := ak ((by rw [hg]; exact Nat.ne_of_lt (blk_lt (g := gb755) (bx BK755.out)) : gb755 ≠ gb763)); have n9_ := ak ((by rw [hg]; exact Nat.ne_of_gt (blk_lt (g := gb755) (bx BK755.out)) : gb763 ≠ gb755)); clear BK754; clear BK755; clear HB; have BK754 := n0_; have BK755 := n1_; have HB := n2_; have BK763 := n3_; have GW763 := n4_; have GE763 := n5_; have NB754_763 := n6_; have NB763_754 := n7_; have NB755_763 := n8_; have NB763_755 := n9_; clear n0_ n1_ n2_ n3_ n4_ n5_ n6_ n7_ n8_ n9_; clear hb hbox hg; have hnb15 := NB763_754.out; have hnc15 := NB754_763.out; have hnb16 := NB763_755.out; have hnc16 := NB755_763.out; obtain ⟨hcz17_0, hcz17_1, hcz17_2, hcz17_3, hcz17_4, hcz17_5⟩ := cz6 BK763.out; obtain ⟨hfz17_0, hfz17_1, hfz17_2, hfz17_3, hfz17_4, hfz17_5⟩ := fz6 BK763.out) | ((with_reducible refine gate_callee (f := 36) rfl ?_); refine goesL_ (some 22) rfl rfl Tryd.func36 (by kernel_rfl) rfl #[.agg #[.int .i64 t757, .string t758, .string t759, .string t760, .string t761, .string t762]] rfl mq ?_; (with_reducible refine (alias_Encode.calls k t757 t758 t759 t760 t761 t762 t764 t765 _ A5.out HG.out.on).mono ?_); rintro e w18 ⟨rfl, hb⟩; refine ⟨_, rfl, ?_⟩; have n0_ := ak (blk_below (g := gb754) (o := .cells #[.int .i64 a0_0, .int .i64 a0_1, .int .i64 a0_2, .int .i64 a0_3, .int .i64 a0_4, .int .i64 a0_5, .int .i64 a0_6] 52 (0, 0)) (bx (blk_far (bx (blk_far (bx (blk_far (bx (blk_far (bx (blk_far (bx (blk_far (bx BK754.out) NB754_763.out _)) NB754_763.out _)) NB754_763.out _)) NB754_763.out _)) NB754_763.out _)) NB754_763.out _)) hb); have n1_ := ak (blk_below (g := gb755) (o := .cells #[.int .i64 a1_0, .int .i64 a1_1] 67 (0, 0)) (bx (blk_far (bx (blk_far (bx (blk_far (bx (blk_far (bx (blk_far (bx (blk_far (bx BK755.out) NB755_763.out _)) NB755_763.out _)) NB755_763.out _)) NB755_763.out _)) NB755_763.out _)) NB755_763.out _)) hb); have n2_ := ak (blk_below (g := gb763) (o := .cells #[.int .i64 t757, .string t758, .string t759, .string t760, .string t761, .string t762] 50 (0, 0)) (bx (blk_put (cs := #[.int .i64 t757, .string t758, .string t759, .string t760, .string t761, .string ⟨#[]⟩]) (bx (blk_put (cs := #[.int .i64 t757, .string t758, .string t759, .string t760, .string ⟨#[]⟩, .string ⟨#[]⟩]) (bx (blk_put (cs := #[.int .i64 t757, .string t758, .string t759, .string ⟨#[]⟩, .string ⟨#[]⟩, .string ⟨#[]⟩]) (bx (blk_put (cs := #[.int .i64 t757, .string t758, .string ⟨#[]⟩, .string ⟨#[]⟩, .string ⟨#[]⟩, .string ⟨#[]⟩]) (bx (blk_put (cs := #[.int .i64 t757, .string ⟨#[]⟩, .string ⟨#[]⟩, .string ⟨#[]⟩, .string ⟨#[]⟩, .string ⟨#[]⟩]) (bx (blk_put (cs := #[.int .i64 0, .string ⟨#[]⟩, .string ⟨#[]⟩, .string ⟨#[]⟩, .string ⟨#[]⟩, .string ⟨#[]⟩]) (bx BK763.out) 0 _ rfl)) 1 _ rfl)) 2 _ rfl)) 3 _ rfl)) 4 _ rfl)) 5 _ rfl)) hb); have n3_ := ak (below_step bq hb); clear BK754; clear BK755; clear BK763; clear HB; have BK754 := n0_; have BK755 := n1_; have BK763 := n2_; have HB := n3_; clear n0_ n1_ n2_ n3_; (try clear hb); (try clear hb2); (try clear hk); (try clear hi); (try clear A5)) | ((with_reducible refine gate_callee (f := 44) rfl ?_); refine goesL_ (some 27) rfl rfl Tryd.func44 (by kernel_rfl) rfl #[.string t764] rfl mq ?_; (with_reducible refine (alias_Decode.calls k t764 t766 t767 t768 t769 t770 t771 t772 _ A6.out HG.out.on).mono ?_); rintro e w19 ⟨rfl, hb⟩; refine ⟨_, rfl, ?_⟩; have n0_ := ak (blk_below (g := gb754) (bx BK754.out) hb); have n1_ := ak (blk_below (g := gb755) (bx BK755.out) hb); have n2_ := ak (blk_below (g := gb763) (bx BK763.out) hb); have n3_ := ak (below_step bq hb); clear BK754; clear BK755; clear BK763; clear HB; have BK754 := n0_; have BK755 := n1_; have BK763 := n2_; have HB := n3_; clear n0_ n1_ n2_ n3_; (try clear hb); (try clear hb2); (try clear hk); (try clear hi); (try clear A6)) | ((with_reducible refine gate_dst (N := 9) rfl ?_); refine box_event ?hg (N := 9) ?hd (cs := #[.int .i64 0, .string ⟨#[]⟩, .string ⟨#[]⟩, .string ⟨#[]⟩, .string ⟨#[]⟩, .string ⟨#[]⟩]) (t := 50) ?hr ?_; (case hd => rfl); (case hg => rfl); (case hr => first | (go_simp; done) | (go_simp; rfl)); intro gb773 hg w20 hbox hb; have n0_ := ak (blk_below (g := gb754) (bx BK754.out) hb); have n1_ := ak (blk_below (g := gb755) (bx BK755.out) hb); have n2_ := ak (blk_below (g := gb763) (bx BK763.out) hb); have n3_ := ak (below_step bq hb); have n4_ := ak (hbox); have n5_ := ak ((by rw [hg]; exact (below_size bq) : w.heap.size ≤ gb773)); have n6_ := ak ((by rw [hg]; exact (below_size bq) : w.heap.size ≤ gb773)); have n7_ := ak ((by rw [hg]; exact Nat.ne_of_lt (blk_lt (g := gb754) (bx BK754.out)) : gb754 ≠ gb773)); have n8_ := ak ((by rw [hg]; exact Nat.ne_of_gt (blk_lt (g := gb754) (bx BK754.out)) : gb773 ≠ gb754)); have n9_ := ak ((by rw [hg]; exact Nat.ne_of_lt (blk_lt (g := gb755) (bx BK755.out)) : gb755 ≠ gb773)); have n10_ := ak ((by rw [hg]; exact Nat.ne_of_gt (blk_lt (g := gb755) (bx BK755.out)) : gb773 ≠ gb755)); have n11_ := ak ((by rw [hg]; exact Nat.ne_of_lt (blk_lt (g := gb763) (bx BK763.out)) : gb763 ≠ gb773)); have n12_ := ak ((by rw [hg]; exact Nat.ne_of_gt (blk_lt (g := gb763) (bx BK763.out)) : gb773 ≠ gb763)); clear BK754; clear BK755; clear BK763; clear HB; have BK754 := n0_; have BK755 := n1_; have BK763 := n2_; have HB := n3_; have BK773 := n4_; have GW773 := n5_; have GE773 := n6_; have NB754_773 := n7_; have NB773_754 := n8_; have NB755_773 := n9_; have NB773_755 := n10_; have NB763_773 := n11_; have NB773_763 := n12_; clear n0_ n1_ n2_ n3_ n4_ n5_ n6_ n7_ n8_ n9_ n10_ n11_ n12_; clear hb hbox hg; have hnb21 := NB773_754.out; have hnc21 := NB754_773.out; have hnb22 := NB773_755.out; have hnc22 := NB755_773.out; have hnb23 := NB773_763.out; have hnc23 := NB763_773.out; obtain ⟨hcz24_0, hcz24_1, hcz24_2, hcz24_3, hcz24_4, hcz24_5⟩ := cz6 BK773.out; obtain ⟨hfz24_0, hfz24_1, hfz24_2, hfz24_3, hfz24_4, hfz24_5⟩ := fz6 BK773.out))
 (try simp only [Act.put, pA, pB, pC])
 go_cut [40] (fun v40 wc => ∃ (kq : Nat) (x40_6 : Bool), v40 = .bool x40_6 ∧ Aside0 (isoglosslaw12_AliasBack.j0 kq t756 x40_6 a1_0 a1_1 t757 t758 t759 t760 t761 t762 = some r) ∧ Aside0 (kq ≤ k) ∧ Aside0 (wc.heap[gb754]? = some (.cells #[.int .i64 a0_0, .int .i64 a0_1, .int .i64 a0_2, .int .i64 a0_3, .int .i64 a0_4, .int .i64 a0_5, .int .i64 a0_6] 52 (0, 0))) ∧ Aside0 (wc.heap[gb755]? = some (.cells #[.int .i64 a1_0, .int .i64 a1_1] 67 (0, 0))) ∧ Aside0 (wc.heap[gb763]? = some (.cells #[.int .i64 t757, .string t758, .string t759, .string t760, .string t761, .string t762] 50 (0, 0))) ∧ Aside0 (wc.heap[gb773]? = some (.cells #[.int .i64 t766, .string t767, .string t768, .string t769, .string t770, .string t771] 50 (0, 0))) ∧ Aside0 (Below w.heap.size w wc))
 case first =>
  have H := HC7.out
  clear HC7
  by_cases c25 : (t765 != t772) = true
  ·
   rw [if_pos c25] at H
   have c25b0 : (t765 != t772) = true := c25
   (try (have c25b1 : decide (t765 = t772) = false := by simpa using c25))
   (try (have c25b2 : (t765 == t772) = false := by simpa using c25))
   (try (have c25b3 : ¬ (t765 = t772) := by simpa using c25))
   clear c25
   (first | rw [c25b0] | (simp only [i64_w, i32_w]; rw [c25b0]) | rw [c25b2] | skip)
   have H' := ak H
   clear H
   go_wp2
   go_meet
   case rel => exact ⟨_, (true), (by first | rfl | (simp; done) | (simp [*]; done)), H', ⟨by first | omega | exact Nat.le_refl _⟩, ⟨(bx (blk_far (bx (blk_far (bx (blk_far (bx (blk_far (bx (blk_far (bx (blk_far (bx BK754.out) NB754_773.out _)) NB754_773.out _)) NB754_773.out _)) NB754_773.out _)) NB754_773.out _)) NB754_773.out _))⟩, ⟨(bx (blk_far (bx (blk_far (bx (blk_far (bx (blk_far (bx (blk_far (bx (blk_far (bx BK755.out) NB755_773.out _)) NB755_773.out _)) NB755_773.out _)) NB755_773.out _)) NB755_773.out _)) NB755_773.out _))⟩, ⟨(bx (blk_far (bx (blk_far (bx (blk_far (bx (blk_far (bx (blk_far (bx (blk_far (bx BK763.out) NB763_773.out _)) NB763_773.out _)) NB763_773.out _)) NB763_773.out _)) NB763_773.out _)) NB763_773.out _))⟩, ⟨(bx (blk_put (cs := #[.int .i64 t766, .string t767, .string t768, .string t769, .string t770, .string ⟨#[]⟩]) (bx (blk_put (cs := #[.int .i64 t766, .string t767, .string t768, .string t769, .string ⟨#[]⟩, .string ⟨#[]⟩]) (bx (blk_put (cs := #[.int .i64 t766, .string t767, .string t768, .string ⟨#[]⟩, .string ⟨#[]⟩, .string ⟨#[]⟩]) (bx (blk_put (cs := #[.int .i64 t766, .string t767, .string ⟨#[]⟩, .string ⟨#[]⟩, .string ⟨#[]⟩, .string ⟨#[]⟩]) (bx (blk_put (cs := #[.int .i64 t766, .string ⟨#[]⟩, .string ⟨#[]⟩, .string ⟨#[]⟩, .string ⟨#[]⟩, .string ⟨#[]⟩]) (bx (blk_put (cs := #[.int .i64 0, .string ⟨#[]⟩, .string ⟨#[]⟩, .string ⟨#[]⟩, .string ⟨#[]⟩, .string ⟨#[]⟩]) (bx BK773.out) 0 _ rfl)) 1 _ rfl)) 2 _ rfl)) 3 _ rfl)) 4 _ rfl)) 5 _ rfl))⟩, ⟨bq⟩⟩
  ·
   rw [if_neg c25] at H
   have c25b0 : (t765 != t772) = false := by simpa using c25
   (try (have c25b1 : decide (t765 = t772) = true := by simpa using c25))
   (try (have c25b2 : (t765 == t772) = true := by simpa using c25))
   clear c25
   (first | rw [c25b0] | (simp only [i64_w, i32_w]; rw [c25b0]) | rw [c25b2] | skip)
   by_cases c26 : t765 = true
   ·
    subst c26
    have H1 : (isoglosslaw12_AliasBack.j0 k t756 (!(t757 == t766) || (!(t758.toList == t767.toList) || (!(t759.toList == t768.toList) || (!(t760.toList == t769.toList) || (!(t761.toList == t770.toList) || (!(t762.toList == t771.toList))))))) a1_0 a1_1 t757 t758 t759 t760 t761 t762) = some r := by rw [if_pos rfl] at H; exact H
    clear H
    have H := H1
    clear H1
    have H' := ak H
    clear H
    have hnb27 := NB763_754.out
    have hnc27 := NB754_763.out
    have hnb28 := NB763_755.out
    have hnc28 := NB755_763.out
    have hnb29 := NB763_773.out
    have hnc29 := NB773_763.out
    obtain ⟨hcz30_0, hcz30_1, hcz30_2, hcz30_3, hcz30_4, hcz30_5⟩ := cz6 BK763.out
    obtain ⟨hfz30_0, hfz30_1, hfz30_2, hfz30_3, hfz30_4, hfz30_5⟩ := fz6 BK763.out
    have hnb31 := NB773_754.out
    have hnc31 := NB754_773.out
    have hnb32 := NB773_755.out
    have hnc32 := NB755_773.out
    obtain ⟨hcz33_0, hcz33_1, hcz33_2, hcz33_3, hcz33_4, hcz33_5⟩ := cz6 BK773.out
    obtain ⟨hfz33_0, hfz33_1, hfz33_2, hfz33_3, hfz33_4, hfz33_5⟩ := fz6 BK773.out
    go_wp2
    go_meet
    case rel => exact ⟨_, ((!(t757 == t766) || (!(t758.toList == t767.toList) || (!(t759.toList == t768.toList) || (!(t760.toList == t769.toList) || (!(t761.toList == t770.toList) || (!(t762.toList == t771.toList)))))))), (by first | rfl | (simp; done) | (simp [*]; done)), H', ⟨by first | omega | exact Nat.le_refl _⟩, ⟨(bx (blk_far (bx (blk_far (bx (blk_far (bx (blk_far (bx (blk_far (bx (blk_far (bx BK754.out) NB754_773.out _)) NB754_773.out _)) NB754_773.out _)) NB754_773.out _)) NB754_773.out _)) NB754_773.out _))⟩, ⟨(bx (blk_far (bx (blk_far (bx (blk_far (bx (blk_far (bx (blk_far (bx (blk_far (bx BK755.out) NB755_773.out _)) NB755_773.out _)) NB755_773.out _)) NB755_773.out _)) NB755_773.out _)) NB755_773.out _))⟩, ⟨(bx (blk_far (bx (blk_far (bx (blk_far (bx (blk_far (bx (blk_far (bx (blk_far (bx BK763.out) NB763_773.out _)) NB763_773.out _)) NB763_773.out _)) NB763_773.out _)) NB763_773.out _)) NB763_773.out _))⟩, ⟨(bx (blk_put (cs := #[.int .i64 t766, .string t767, .string t768, .string t769, .string t770, .string ⟨#[]⟩]) (bx (blk_put (cs := #[.int .i64 t766, .string t767, .string t768, .string t769, .string ⟨#[]⟩, .string ⟨#[]⟩]) (bx (blk_put (cs := #[.int .i64 t766, .string t767, .string t768, .string ⟨#[]⟩, .string ⟨#[]⟩, .string ⟨#[]⟩]) (bx (blk_put (cs := #[.int .i64 t766, .string t767, .string ⟨#[]⟩, .string ⟨#[]⟩, .string ⟨#[]⟩, .string ⟨#[]⟩]) (bx (blk_put (cs := #[.int .i64 t766, .string ⟨#[]⟩, .string ⟨#[]⟩, .string ⟨#[]⟩, .string ⟨#[]⟩, .string ⟨#[]⟩]) (bx (blk_put (cs := #[.int .i64 0, .string ⟨#[]⟩, .string ⟨#[]⟩, .string ⟨#[]⟩, .string ⟨#[]⟩, .string ⟨#[]⟩]) (bx BK773.out) 0 _ rfl)) 1 _ rfl)) 2 _ rfl)) 3 _ rfl)) 4 _ rfl)) 5 _ rfl))⟩, ⟨bq⟩⟩
   ·
    replace c26 := Bool.eq_false_iff.mpr c26
    subst c26
    have H1 : (isoglosslaw12_AliasBack.j0 k t756 false a1_0 a1_1 t757 t758 t759 t760 t761 t762) = some r := by rw [if_neg (show ¬ (false = true) by decide)] at H; exact H
    clear H
    have H := H1
    clear H1
    have H' := ak H
    clear H
    go_wp2
    go_meet
    case rel => exact ⟨_, (false), (by first | rfl | (simp; done) | (simp [*]; done)), H', ⟨by first | omega | exact Nat.le_refl _⟩, ⟨(bx (blk_far (bx (blk_far (bx (blk_far (bx (blk_far (bx (blk_far (bx (blk_far (bx BK754.out) NB754_773.out _)) NB754_773.out _)) NB754_773.out _)) NB754_773.out _)) NB754_773.out _)) NB754_773.out _))⟩, ⟨(bx (blk_far (bx (blk_far (bx (blk_far (bx (blk_far (bx (blk_far (bx (blk_far (bx BK755.out) NB755_773.out _)) NB755_773.out _)) NB755_773.out _)) NB755_773.out _)) NB755_773.out _)) NB755_773.out _))⟩, ⟨(bx (blk_far (bx (blk_far (bx (blk_far (bx (blk_far (bx (blk_far (bx (blk_far (bx BK763.out) NB763_773.out _)) NB763_773.out _)) NB763_773.out _)) NB763_773.out _)) NB763_773.out _)) NB763_773.out _))⟩, ⟨(bx (blk_put (cs := #[.int .i64 t766, .string t767, .string t768, .string t769, .string t770, .string ⟨#[]⟩]) (bx (blk_put (cs := #[.int .i64 t766, .string t767, .string t768, .string t769, .string ⟨#[]⟩, .string ⟨#[]⟩]) (bx (blk_put (cs := #[.int .i64 t766, .string t767, .string t768, .string ⟨#[]⟩, .string ⟨#[]⟩, .string ⟨#[]⟩]) (bx (blk_put (cs := #[.int .i64 t766, .string t767, .string ⟨#[]⟩, .string ⟨#[]⟩, .string ⟨#[]⟩, .string ⟨#[]⟩]) (bx (blk_put (cs := #[.int .i64 t766, .string ⟨#[]⟩, .string ⟨#[]⟩, .string ⟨#[]⟩, .string ⟨#[]⟩, .string ⟨#[]⟩]) (bx (blk_put (cs := #[.int .i64 0, .string ⟨#[]⟩, .string ⟨#[]⟩, .string ⟨#[]⟩, .string ⟨#[]⟩, .string ⟨#[]⟩]) (bx BK773.out) 0 _ rfl)) 1 _ rfl)) 2 _ rfl)) 3 _ rfl)) 4 _ rfl)) 5 _ rfl))⟩, ⟨bq⟩⟩
 case rest =>
  clear HC7
  try clear c1
  try clear c2
  try clear p2
  try clear c3
  try clear c4
  try clear c11
  try clear c13
  try clear c15
  try clear c16
  try clear c21
  try clear c22
  try clear c23
  try clear c25
  try clear c25b0
  try clear c25b1
  try clear c25b2
  try clear c26
  try clear c27
  try clear c28
  try clear c29
  try clear c30
  try clear c31
  try clear c32
  try clear hcz12_0
  try clear hcz12_1
  try clear hcz12_2
  try clear hcz12_3
  try clear hcz12_4
  try clear hcz12_5
  try clear hcz12_6
  try clear hcz17_0
  try clear hcz17_1
  try clear hcz17_2
  try clear hcz17_3
  try clear hcz17_4
  try clear hcz17_5
  try clear hcz24_0
  try clear hcz24_1
  try clear hcz24_2
  try clear hcz24_3
  try clear hcz24_4
  try clear hcz24_5
  try clear hcz30_0
  try clear hcz30_1
  try clear hcz30_2
  try clear hcz30_3
  try clear hcz30_4
  try clear hcz30_5
  try clear hcz33_0
  try clear hcz33_1
  try clear hcz33_2
  try clear hcz33_3
  try clear hcz33_4
  try clear hcz33_5
  try clear hfz12_0
  try clear hfz12_1
  try clear hfz12_2
  try clear hfz12_3
  try clear hfz12_4
  try clear hfz12_5
  try clear hfz12_6
  try clear hfz17_0
  try clear hfz17_1
  try clear hfz17_2
  try clear hfz17_3
  try clear hfz17_4
  try clear hfz17_5
  try clear hfz24_0
  try clear hfz24_1
  try clear hfz24_2
  try clear hfz24_3
  try clear hfz24_4
  try clear hfz24_5
  try clear hfz30_0
  try clear hfz30_1
  try clear hfz30_2
  try clear hfz30_3
  try clear hfz30_4
  try clear hfz30_5
  try clear hfz33_0
  try clear hfz33_1
  try clear hfz33_2
  try clear hfz33_3
  try clear hfz33_4
  try clear hfz33_5
  obtain ⟨kq, x40_6, rfl, HA, HJ6, BK754, BK755, BK763, BK773, HB⟩ := hcut
  cases kq with
  | zero => exact absurd HA.out (by simp [isoglosslaw12_AliasBack.j0])
  | succ kj6 =>
   have H := HA.out
   clear HA
   simp only [isoglosslaw12_AliasBack.j0] at H
   by_cases c34 : x40_6 = true
   ·
    subst c34
    have H1 : (some false) = some r := by rw [if_pos rfl] at H; exact H
    clear H
    have H := H1
    clear H1
    obtain rfl := Option.some.inj H
    go_wp2
    go_ret
    exact ⟨by first | rfl | (simp [errW_none, errW_some] <;> rfl) | (simp [*, errW_none, errW_some] <;> rfl), bq⟩
   ·
    replace c34 := Bool.eq_false_iff.mpr c34
    subst c34
    have H1 : ((isoglossref12_Row.f kj6 t757 t758 t759 t760 t761 t762).bind fun t774 => ((isoglosslaw12_rest.f a1_0 (t774.size : Int)).bind fun t775 => (if 0 ≤ t775 then (if t775 ≤ (t774.size : Int) then ((some (([(a1_1) % 256] : List Int) : List Int)).bind fun y776 => (if (t774.extract 0 (t775 : Int).toNat).size + (strOfNums y776).size ≤ 9223372036854775807 then (if 0 ≤ (wrap64 (t775 + 1)) then (if (wrap64 (t775 + 1)) ≤ (t774.size : Int) then (if ((t774.extract 0 (t775 : Int).toNat) ++ (strOfNums y776)).size + (t774.extract ((wrap64 (t775 + 1)) : Int).toNat t774.size).size ≤ 9223372036854775807 then ((alias_Decode.f kj6 (((t774.extract 0 (t775 : Int).toNat) ++ (strOfNums y776)) ++ (t774.extract ((wrap64 (t775 + 1)) : Int).toNat t774.size))).bind fun bt779 => ((alias_Encode.f kj6 bt779.1 bt779.2.1 bt779.2.2.1 bt779.2.2.2.1 bt779.2.2.2.2.1 bt779.2.2.2.2.2.1).bind fun bt787 => (if t756 = true then (if (bt779.2.2.2.2.2.2 == bt787.2) = true then (if bt779.2.2.2.2.2.2 = true then (if bt787.1.toList = (((t774.extract 0 (t775 : Int).toNat) ++ (strOfNums y776)) ++ (t774.extract ((wrap64 (t775 + 1)) : Int).toNat t774.size)).toList then ((alias_Right.f kj6 bt779.1 bt779.2.1 bt779.2.2.1 bt779.2.2.2.1 bt779.2.2.2.2.1 bt779.2.2.2.2.2.1).bind fun t789 => (some t789)) else (some false)) else (some true)) else (some false)) else (some false)))) else (none)) else (none)) else (none)) else (none))) else (none)) else (none)))) = some r := by rw [if_neg (show ¬ (false = true) by decide)] at H; exact H
    clear H
    have H := H1
    clear H1
    replace H := Option.bind_eq_some_iff.mp H
    obtain ⟨t774, A350, H⟩ := H
    have A35 := ak A350
    clear A350
    replace H := Option.bind_eq_some_iff.mp H
    obtain ⟨t775, A360, H⟩ := H
    have A36 := ak A360
    clear A360
    by_cases c37 : 0 ≤ t775
    ·
     rw [if_pos c37] at H
     have c37b0 := eq_true c37
     have c37b1 : decide (0 ≤ t775) = true := decide_eq_true c37
     clear c37
     by_cases c38 : t775 ≤ (t774.size : Int)
     ·
      rw [if_pos c38] at H
      have c38b0 := eq_true c38
      have c38b1 : decide (t775 ≤ (t774.size : Int)) = true := decide_eq_true c38
      clear c38
      obtain ⟨y776, hy776⟩ : ∃ y_ : List Int, y_ = (([(a1_1) % 256] : List Int)) := ⟨_, rfl⟩
      replace H : (if (t774.extract 0 (t775 : Int).toNat).size + (strOfNums y776).size ≤ 9223372036854775807 then (if 0 ≤ (wrap64 (t775 + 1)) then (if (wrap64 (t775 + 1)) ≤ (t774.size : Int) then (if ((t774.extract 0 (t775 : Int).toNat) ++ (strOfNums y776)).size + (t774.extract ((wrap64 (t775 + 1)) : Int).toNat t774.size).size ≤ 9223372036854775807 then ((alias_Decode.f kj6 (((t774.extract 0 (t775 : Int).toNat) ++ (strOfNums y776)) ++ (t774.extract ((wrap64 (t775 + 1)) : Int).toNat t774.size))).bind fun bt779 => ((alias_Encode.f kj6 bt779.1 bt779.2.1 bt779.2.2.1 bt779.2.2.2.1 bt779.2.2.2.2.1 bt779.2.2.2.2.2.1).bind fun bt787 => (if t756 = true then (if (bt779.2.2.2.2.2.2 == bt787.2) = true then (if bt779.2.2.2.2.2.2 = true then (if bt787.1.toList = (((t774.extract 0 (t775 : Int).toNat) ++ (strOfNums y776)) ++ (t774.extract ((wrap64 (t775 + 1)) : Int).toNat t774.size)).toList then ((alias_Right.f kj6 bt779.1 bt779.2.1 bt779.2.2.1 bt779.2.2.2.1 bt779.2.2.2.2.1 bt779.2.2.2.2.2.1).bind fun t789 => (some t789)) else (some false)) else (some true)) else (some false)) else (some false)))) else (none)) else (none)) else (none)) else (none)) = some r := by first | (rw [hy776]; with_reducible exact H) | (have H2_ := (Option.bind_some _ _).symm.trans H; rw [hy776]; with_reducible exact H2_) | (have H2_ := (Option.bind_some _ _).symm.trans H; with_reducible exact H2_) | with_reducible exact H | (rw [hy776]; exact H) | exact H
      have Ny776 := ak hy776
      clear hy776
      by_cases c39 : (t774.extract 0 (t775 : Int).toNat).size + (strOfNums y776).size ≤ 9223372036854775807
      ·
       rw [if_pos c39] at H
       have c39b0 := eq_true c39
       have c39b1 : decide ((t774.extract 0 (t775 : Int).toNat).size + (strOfNums y776).size ≤ 9223372036854775807) = true := decide_eq_true c39
       try have c39b2 : (9223372036854775807 < (t774.extract 0 (t775 : Int).toNat).size + (strOfNums y776).size) = False := eq_false (Nat.not_lt.2 c39)
       try have c39b5 : (9223372036854775807 < (t775 : Int).toNat + (strOfNums y776).size) = False := eq_false (by have z1 := of_eq_true (by assumption : (0 ≤ t775) = True); have z2 := of_eq_true (by assumption : (t775 ≤ (t774.size : Int)) = True); have z3 := c39; rw [ByteArray.size_extract] at z3; omega)
       obtain ⟨ji40, hji40⟩ : ∃ j_ : Int, (wrap64 (t775 + 1)) = j_ := ⟨_, rfl⟩
       replace H : (if 0 ≤ (ji40) then (if (ji40) ≤ (t774.size : Int) then (if ((t774.extract 0 (t775 : Int).toNat) ++ (strOfNums y776)).size + (t774.extract ((ji40) : Int).toNat t774.size).size ≤ 9223372036854775807 then ((alias_Decode.f kj6 (((t774.extract 0 (t775 : Int).toNat) ++ (strOfNums y776)) ++ (t774.extract ((ji40) : Int).toNat t774.size))).bind fun bt779 => ((alias_Encode.f kj6 bt779.1 bt779.2.1 bt779.2.2.1 bt779.2.2.2.1 bt779.2.2.2.2.1 bt779.2.2.2.2.2.1).bind fun bt787 => (if t756 = true then (if (bt779.2.2.2.2.2.2 == bt787.2) = true then (if bt779.2.2.2.2.2.2 = true then (if bt787.1.toList = (((t774.extract 0 (t775 : Int).toNat) ++ (strOfNums y776)) ++ (t774.extract ((ji40) : Int).toNat t774.size)).toList then ((alias_Right.f kj6 bt779.1 bt779.2.1 bt779.2.2.1 bt779.2.2.2.1 bt779.2.2.2.2.1 bt779.2.2.2.2.2.1).bind fun t789 => (some t789)) else (some false)) else (some true)) else (some false)) else (some false)))) else (none)) else (none)) else (none)) = some r := by first | (rw [hji40] at H; exact H) | (simp only [hji40] at H ⊢; exact H)
       (try rw [hji40] at A35)
       (try rw [hji40] at A36)
       have hji40w : (IntKind.i64.wrap (t775 + 1)) = ji40 := (i64_w _).trans hji40
       by_cases c41 : 0 ≤ (ji40)
       ·
        rw [if_pos c41] at H
        have c41b0 := eq_true c41
        have c41b1 : decide (0 ≤ (ji40)) = true := decide_eq_true c41
        clear c41
        by_cases c42 : (ji40) ≤ (t774.size : Int)
        ·
         rw [if_pos c42] at H
         have c42b0 := eq_true c42
         have c42b1 : decide ((ji40) ≤ (t774.size : Int)) = true := decide_eq_true c42
         clear c42
         by_cases c43 : ((t774.extract 0 (t775 : Int).toNat) ++ (strOfNums y776)).size + (t774.extract ((ji40) : Int).toNat t774.size).size ≤ 9223372036854775807
         ·
          rw [if_pos c43] at H
          have c43b0 := eq_true c43
          have c43b1 : decide (((t774.extract 0 (t775 : Int).toNat) ++ (strOfNums y776)).size + (t774.extract ((ji40) : Int).toNat t774.size).size ≤ 9223372036854775807) = true := decide_eq_true c43
          try have c43b2 : (9223372036854775807 < ((t774.extract 0 (t775 : Int).toNat) ++ (strOfNums y776)).size + (t774.extract ((ji40) : Int).toNat t774.size).size) = False := eq_false (Nat.not_lt.2 c43)
          try have c43b5 : (9223372036854775807 < (t775 : Int).toNat + (strOfNums y776).size + (t774.size - (ji40 : Int).toNat)) = False := eq_false (by have z1 := of_eq_true (by assumption : (0 ≤ t775) = True); have z2 := of_eq_true (by assumption : (t775 ≤ (t774.size : Int)) = True); have z3 := c43; rw [ByteArray.size_append, ByteArray.size_extract, ByteArray.size_extract] at z3; omega)
          replace H := Option.bind_eq_some_iff.mp H
          obtain ⟨⟨t779, t780, t781, t782, t783, t784, t785⟩, A440, H⟩ := H
          replace H : ((alias_Encode.f kj6 t779 t780 t781 t782 t783 t784).bind fun bt787 => (if t756 = true then (if (t785 == bt787.2) = true then (if t785 = true then (if bt787.1.toList = (((t774.extract 0 (t775 : Int).toNat) ++ (strOfNums y776)) ++ (t774.extract ((ji40) : Int).toNat t774.size)).toList then ((alias_Right.f kj6 t779 t780 t781 t782 t783 t784).bind fun t789 => (some t789)) else (some false)) else (some true)) else (some false)) else (some false))) = some r := H
          have A44 := ak A440
          clear A440
          replace H := Option.bind_eq_some_iff.mp H
          obtain ⟨⟨t787, t788⟩, A450, H⟩ := H
          replace H : (if t756 = true then (if (t785 == t788) = true then (if t785 = true then (if t787.toList = (((t774.extract 0 (t775 : Int).toNat) ++ (strOfNums y776)) ++ (t774.extract ((ji40) : Int).toNat t774.size)).toList then ((alias_Right.f kj6 t779 t780 t781 t782 t783 t784).bind fun t789 => (some t789)) else (some false)) else (some true)) else (some false)) else (some false)) = some r := H
          have A45 := ak A450
          clear A450
          by_cases c46 : t756 = true
          ·
           subst c46
           have H1 : (if (t785 == t788) = true then (if t785 = true then (if t787.toList = (((t774.extract 0 (t775 : Int).toNat) ++ (strOfNums y776)) ++ (t774.extract ((ji40) : Int).toNat t774.size)).toList then ((alias_Right.f kj6 t779 t780 t781 t782 t783 t784).bind fun t789 => (some t789)) else (some false)) else (some true)) else (some false)) = some r := by rw [if_pos rfl] at H; exact H
           clear H
           have H := H1
           clear H1
           by_cases c47 : (t785 == t788) = true
           ·
            rw [if_pos c47] at H
            have c47b0 : (t785 == t788) = true := c47
            (try (have c47b1 : decide (t785 = t788) = true := by simpa using c47))
            (try (have c47b2 : (t785 == t788) = true := by simpa using c47))
            clear c47
            by_cases c48 : t785 = true
            ·
             subst c48
             have H1 : (if t787.toList = (((t774.extract 0 (t775 : Int).toNat) ++ (strOfNums y776)) ++ (t774.extract ((ji40) : Int).toNat t774.size)).toList then ((alias_Right.f kj6 t779 t780 t781 t782 t783 t784).bind fun t789 => (some t789)) else (some false)) = some r := by rw [if_pos rfl] at H; exact H
             clear H
             have H := H1
             clear H1
             by_cases c49 : t787.toList = (((t774.extract 0 (t775 : Int).toNat) ++ (strOfNums y776)) ++ (t774.extract ((ji40) : Int).toNat t774.size)).toList
             ·
              rw [if_pos c49] at H
              have c49b0 : (t787.toList == (((t774.extract 0 (t775 : Int).toNat) ++ (strOfNums y776)) ++ (t774.extract ((ji40) : Int).toNat t774.size)).toList) = true := beq_iff_eq.mpr c49
              have c49b1 : (t787.toList != (((t774.extract 0 (t775 : Int).toNat) ++ (strOfNums y776)) ++ (t774.extract ((ji40) : Int).toNat t774.size)).toList) = false := bne_eq_false_iff_eq.mpr c49
              clear c49
              replace H := Option.bind_eq_some_iff.mp H
              obtain ⟨t789, A500, H⟩ := H
              have A50 := ak A500
              clear A500
              obtain rfl := Option.some.inj H
              have hnb51 := NB763_754.out
              have hnc51 := NB754_763.out
              have hnb52 := NB763_755.out
              have hnc52 := NB755_763.out
              have hnb53 := NB763_773.out
              have hnc53 := NB773_763.out
              obtain ⟨hcz54_0, hcz54_1, hcz54_2, hcz54_3, hcz54_4, hcz54_5⟩ := cz6 BK763.out
              obtain ⟨hfz54_0, hfz54_1, hfz54_2, hfz54_3, hfz54_4, hfz54_5⟩ := fz6 BK763.out
              try go_wp2_with (first | ((with_reducible refine gate_callee (f := 42) rfl ?_); refine goesL_ (some 42) rfl rfl Tryd.func42 (by kernel_rfl) rfl #[.agg #[.int .i64 t757, .string t758, .string t759, .string t760, .string t761, .string t762]] rfl mq ?_; (with_reducible refine (isoglossref12_Row.calls kj6 t757 t758 t759 t760 t761 t762 t774 _ A35.out).mono ?_); rintro e w55 ⟨rfl, hb⟩; refine ⟨_, rfl, ?_⟩; have n0_ := ak (blk_below (g := gb754) (bx BK754.out) hb); have n1_ := ak (blk_below (g := gb755) (bx BK755.out) hb); have n2_ := ak (blk_below (g := gb763) (bx BK763.out) hb); have n3_ := ak (blk_below (g := gb773) (bx BK773.out) hb); have n4_ := ak (below_step bq hb); clear BK754; clear BK755; clear BK763; clear BK773; clear HB; have BK754 := n0_; have BK755 := n1_; have BK763 := n2_; have BK773 := n3_; have HB := n4_; clear n0_ n1_ n2_ n3_ n4_; (try clear hb); (try clear hb2); (try clear hk); (try clear hi); have hnb56 := NB755_754.out; have hnc56 := NB754_755.out; have hnb57 := NB755_773.out; have hnc57 := NB773_755.out; obtain ⟨hcz58_0, hcz58_1⟩ := cz2 BK755.out; obtain ⟨hfz58_0, hfz58_1⟩ := fz2 BK755.out; (try clear A35)) | ((with_reducible refine gate_callee (f := 32) rfl ?_); refine goesL_ (some 47) rfl rfl Tryd.func32 (by kernel_rfl) rfl #[.int .i64 a1_0, .int .i64 (t774.size : Int)] rfl mq ?_; (with_reducible refine (isoglosslaw12_rest.calls a1_0 (t774.size : Int) t775 _ A36.out).mono ?_); rintro e w' ⟨rfl, ⟨nd, rfl⟩⟩; refine ⟨_, rfl, ?_⟩; (try (rw [drewN_self w55]; generalize hq_ : World.drewN w55 _ = w55; have n0_ : Aside0 (w55.heap[gb754]? = some (.cells #[.int .i64 a0_0, .int .i64 a0_1, .int .i64 a0_2, .int .i64 a0_3, .int .i64 a0_4, .int .i64 a0_5, .int .i64 a0_6] 52 (0, 0))) := ⟨by rw [← hq_]; exact (bx BK754.out)⟩; have n1_ : Aside0 (w55.heap[gb755]? = some (.cells #[.int .i64 a1_0, .int .i64 a1_1] 67 (0, 0))) := ⟨by rw [← hq_]; exact (bx BK755.out)⟩; have n2_ : Aside0 (w55.heap[gb763]? = some (.cells #[.int .i64 t757, .string t758, .string t759, .string t760, .string t761, .string t762] 50 (0, 0))) := ⟨by rw [← hq_]; exact (bx BK763.out)⟩; have n3_ : Aside0 (w55.heap[gb773]? = some (.cells #[.int .i64 t766, .string t767, .string t768, .string t769, .string t770, .string t771] 50 (0, 0))) := ⟨by rw [← hq_]; exact (bx BK773.out)⟩; have n4_ : Aside0 (Below w.heap.size w w55) := ⟨by rw [← hq_]; exact bq⟩; clear BK754 BK755 BK763 BK773 HB hq_; have BK754 := n0_; have BK755 := n1_; have BK763 := n2_; have BK773 := n3_; have HB := n4_; clear n0_ n1_ n2_ n3_ n4_)); (try clear A36)))
              have n0_ := ak (blk_drew BK754.out)
              have n1_ := ak (blk_drew BK755.out)
              have n2_ := ak (blk_drew BK763.out)
              have n3_ := ak (blk_drew BK773.out)
              have n4_ := ak (below_drew1 HB.out)
              clear BK754
              clear BK755
              clear BK763
              clear BK773
              clear HB
              have BK754 := n0_
              have BK755 := n1_
              have BK763 := n2_
              have BK773 := n3_
              have HB := n4_
              clear n0_ n1_ n2_ n3_ n4_
              refine start_ (n := 15) (S := fun w' => w'.cell? ⟨gb755, 0, none⟩ = some (.int .i64 a1_0) ∧ w'.cell? ⟨gb755, 1, none⟩ = some (.int .i64 a1_1)) (ds := []) #[false, false, false, false, false, false, false, false, false, false, false, false, false, false, false] (by kernel_rfl) rfl rfl ⟨(blk_cell BK755.out 0).trans rfl, (blk_cell BK755.out 1).trans rfl⟩ (fun hHeld => ?_); refine with_tabW isoglosslaw12_AliasBack.tab9 isoglosslaw12_AliasBack.bits9 (fun HT_ HW_ => ?_)
              generalize w55.drew = w59 at BK754 BK755 BK763 BK773 HB hHeld ⊢
              refine pu 0 (some 48) (M 15 1) ?_
              refine pu 1 (some 49) (M 15 3) ?_
              refine pu 2 (some 50) (M 15 7) ?_
              refine pu 3 (some 51) (M 15 15) ?_
              refine pu 9 (some 57) (M 15 527) ?_
              refine pu 10 (some 58) (M 15 1551) ?_
              refine pu 11 (some 59) (M 15 3599) ?_
              refine pu 12 (some 60) (M 15 7695) ?_
              refine take_ (i := 4) (N := some 52) (v := ?_) (a' := ?_) (M 15 7711) rfl rfl (take_ofW HT_.out HW_.out (by kernel_rfl)) (fun _ _ _ h => h) (Or.inl ⟨by rfl, ?_⟩) hHeld ?_ ?_
              rotate_left
              ·
               rintro w' ⟨s0, s1⟩
               go_simp
               with_reducible rfl
              rotate_left
              ·
               simp only [Act.put, pA, pB, pC, i64_w, i32_w]
               rfl
              refine pu 5 (some 53) (M 15 7743) ?_
              refine one_ (i := 6) (N := some 54) (M 15 7807) rfl rfl (one_of HT_.out (by kernel_rfl)) (by decide) (fun K hK => ?_)
              refine Kd.R_lit_step (Kd.int .u8) _ 5 ?hg (N := 54) ?hd (xs := ([(a1_1) % 256] : List Int)) (inner := [.int .u8 ((a1_1) % 256)]) (ok := fun _ => True) (okp := fun _ => True) ?hr ?hp (fun _ hk => hk) trivial (Below.refl _ _) (Nat.le_refl _) (by simp) ?_; (case hd => rfl); (case hg => rfl); (case hr => first | (go_simp; done) | (go_simp; rfl)); (case hp => exact (Reps.one (show Kd.M (Kd.int .u8) _ _ _ ((a1_1) % 256) [.int .u8 ((a1_1) % 256)] from rfl) (Reps.none _ _)))
              intro v777 w60 ho61 hb hg_ hnew_
              clear hg_ hnew_
              (first | rw [← Ny776.out] at ho61 | (simp only [Int.reduceToNat] at ho61; rw [← Ny776.out] at ho61))
              have n0_ := ak (Kd.R_lower ho61 (below_size bq))
              have n1_ := ak (blk_below (g := gb754) (bx BK754.out) hb)
              have n2_ := ak (blk_below (g := gb755) (bx BK755.out) hb)
              have n3_ := ak (blk_below (g := gb763) (bx BK763.out) hb)
              have n4_ := ak (blk_below (g := gb773) (bx BK773.out) hb)
              have n5_ := ak (below_step bq hb)
              clear BK754
              clear BK755
              clear BK763
              clear BK773
              clear HB
              have HO778 := n0_
              have BK754 := n1_
              have BK755 := n2_
              have BK763 := n3_
              have BK773 := n4_
              have HB := n5_
              clear n0_ n1_ n2_ n3_ n4_ n5_
              clear hb ho61
              refine hK.out _ _ ⟨(blk_cell BK755.out 0).trans rfl, (blk_cell BK755.out 1).trans rfl⟩ (fun hHeld => ?_)
              clear hK K
              refine norm_ (a' := ?_) ?_ ?_
              rotate_left
              ·
               show Act.put _ (some 54) _ = _
               simp only [Act.put, pA, pB, pC, i64_w, i32_w]
               rfl
              refine one_ (i := 7) (N := some 55) (M 15 7935) rfl rfl (one_of HT_.out (by kernel_rfl)) (by decide) (fun K hK => ?_)
              have hcv62 := own_string (P := Tryd.prog) Tryd.underlying28 Tryd.underlying5 Tryd.underlying9 (Kd.own_of_R HO778.out)
              refine value_ (w1 := ?_) (v := ?_) (by rfl) rfl ?_ ?_
              rotate_left 2
              ·
               go_simp
               constructor
               ·
                rfl
               ·
                rfl
              clear hcv62
              refine hK.out _ _ ⟨(blk_cell BK755.out 0).trans rfl, (blk_cell BK755.out 1).trans rfl⟩ (fun hHeld => ?_)
              clear hK K
              refine norm_ (a' := ?_) ?_ ?_
              rotate_left
              ·
               show Act.put _ (some 55) _ = _
               simp only [Act.put, pA, pB, pC, i64_w, i32_w]
               rfl
              refine pu 8 (some 56) (M 15 8191) ?_
              refine pu 13 (some 61) (M 15 16383) ?_
              refine pu 14 (some 11) (M 15 32767) ?_
              refine done_ (done_of HT_.out (by kernel_rfl)) ?_
              try go_wp2_with (first | ((with_reducible refine gate_callee (f := 44) rfl ?_); refine goesL_ (some 64) rfl rfl Tryd.func44 (by kernel_rfl) rfl #[.string (((t774.extract 0 (t775 : Int).toNat) ++ (strOfNums y776)) ++ (t774.extract ((ji40) : Int).toNat t774.size))] rfl (by (try simp only [List.map_toArray, List.map_cons, List.map_nil]); first | done | (simp only [hji40]; rfl) | rfl | (simp only [List.length_drop, List.length_take]; rfl)) ?_; (with_reducible refine (alias_Decode.calls kj6 (((t774.extract 0 (t775 : Int).toNat) ++ (strOfNums y776)) ++ (t774.extract ((ji40) : Int).toNat t774.size)) t779 t780 t781 t782 t783 t784 true _ A44.out HG.out.on).mono ?_); rintro e w63 ⟨rfl, hb⟩; refine ⟨_, rfl, ?_⟩; have n0_ := ak (Kd.R_below (rx HO778.out) hb); have n1_ := ak (blk_below (g := gb754) (bx BK754.out) hb); have n2_ := ak (blk_below (g := gb755) (bx BK755.out) hb); have n3_ := ak (blk_below (g := gb763) (bx BK763.out) hb); have n4_ := ak (blk_below (g := gb773) (bx BK773.out) hb); have n5_ := ak (below_step bq hb); clear HO778; clear BK754; clear BK755; clear BK763; clear BK773; clear HB; have HO778 := n0_; have BK754 := n1_; have BK755 := n2_; have BK763 := n3_; have BK773 := n4_; have HB := n5_; clear n0_ n1_ n2_ n3_ n4_ n5_; (try clear hb); (try clear hb2); (try clear hk); (try clear hi); (try clear A44)) | ((with_reducible refine gate_dst (N := 13) rfl ?_); refine box_event ?hg (N := 13) ?hd (cs := #[.int .i64 0, .string ⟨#[]⟩, .string ⟨#[]⟩, .string ⟨#[]⟩, .string ⟨#[]⟩, .string ⟨#[]⟩]) (t := 50) ?hr ?_; (case hd => rfl); (case hg => rfl); (case hr => first | (go_simp; done) | (go_simp; rfl)); intro gb786 hg w64 hbox hb; have n0_ := ak (Kd.R_below (rx HO778.out) hb); have n1_ := ak (blk_below (g := gb754) (bx BK754.out) hb); have n2_ := ak (blk_below (g := gb755) (bx BK755.out) hb); have n3_ := ak (blk_below (g := gb763) (bx BK763.out) hb); have n4_ := ak (blk_below (g := gb773) (bx BK773.out) hb); have n5_ := ak (below_step bq hb); have n6_ := ak (hbox); have n7_ := ak ((by rw [hg]; exact (below_size bq) : w.heap.size ≤ gb786)); have n8_ := ak ((by rw [hg]; exact (below_size bq) : w.heap.size ≤ gb786)); have n9_ := ak ((by rw [hg]; exact Nat.ne_of_lt (blk_lt (g := gb754) (bx BK754.out)) : gb754 ≠ gb786)); have n10_ := ak ((by rw [hg]; exact Nat.ne_of_gt (blk_lt (g := gb754) (bx BK754.out)) : gb786 ≠ gb754)); have n11_ := ak ((by rw [hg]; exact Nat.ne_of_lt (blk_lt (g := gb755) (bx BK755.out)) : gb755 ≠ gb786)); have n12_ := ak ((by rw [hg]; exact Nat.ne_of_gt (blk_lt (g := gb755) (bx BK755.out)) : gb786 ≠ gb755)); have n13_ := ak ((by rw [hg]; exact Nat.ne_of_lt (blk_lt (g := gb763) (bx BK763.out)) : gb763 ≠ gb786)); have n14_ := ak ((by rw [hg]; exact Nat.ne_of_gt (blk_lt (g := gb763) (bx BK763.out)) : gb786 ≠ gb763)); have n15_ := ak ((by rw [hg]; exact Nat.ne_of_lt (blk_lt (g := gb773) (bx BK773.out)) : gb773 ≠ gb786)); have n16_ := ak ((by rw [hg]; exact Nat.ne_of_gt (blk_lt (g := gb773) (bx BK773.out)) : gb786 ≠ gb773)); clear HO778; clear BK754; clear BK755; clear BK763; clear BK773; clear HB; have HO778 := n0_; have BK754 := n1_; have BK755 := n2_; have BK763 := n3_; have BK773 := n4_; have HB := n5_; have BK786 := n6_; have GW786 := n7_; have GE786 := n8_; have NB754_786 := n9_; have NB786_754 := n10_; have NB755_786 := n11_; have NB786_755 := n12_; have NB763_786 := n13_; have NB786_763 := n14_; have NB773_786 := n15_; have NB786_773 := n16_; clear n0_ n1_ n2_ n3_ n4_ n5_ n6_ n7_ n8_ n9_ n10_ n11_ n12_ n13_ n14_ n15_ n16_; clear hb hbox hg; have hnb65 := NB786_754.out; have hnc65 := NB754_786.out; have hnb66 := NB786_755.out; have hnc66 := NB755_786.out; have hnb67 := NB786_763.out; have hnc67 := NB763_786.out; have hnb68 := NB786_773.out; have hnc68 := NB773_786.out; obtain ⟨hcz69_0, hcz69_1, hcz69_2, hcz69_3, hcz69_4, hcz69_5⟩ := cz6 BK786.out; obtain ⟨hfz69_0, hfz69_1, hfz69_2, hfz69_3, hfz69_4, hfz69_5⟩ := fz6 BK786.out) | ((with_reducible refine gate_callee (f := 36) rfl ?_); refine goesL_ (some 69) rfl rfl Tryd.func36 (by kernel_rfl) rfl #[.agg #[.int .i64 t779, .string t780, .string t781, .string t782, .string t783, .string t784]] rfl mq ?_; (with_reducible refine (alias_Encode.calls kj6 t779 t780 t781 t782 t783 t784 t787 t788 _ A45.out HG.out.on).mono ?_); rintro e w70 ⟨rfl, hb⟩; refine ⟨_, rfl, ?_⟩; have n0_ := ak (Kd.R_below (rx ((Kd.R_mono (Kd.R_far (p := ⟨gb786, 5, none⟩) (Kd.R_far (p := ⟨gb786, 4, none⟩) (Kd.R_far (p := ⟨gb786, 3, none⟩) (Kd.R_far (p := ⟨gb786, 2, none⟩) (Kd.R_far (p := ⟨gb786, 1, none⟩) (Kd.R_far (p := ⟨gb786, 0, none⟩) (Kd.R_types HO778.out BK786.out (by decide)) (fun _ hk => hk.2) (.int .i64 t779)) (fun _ hk => hk.2) (.string t780)) (fun _ hk => hk.2) (.string t781)) (fun _ hk => hk.2) (.string t782)) (fun _ hk => hk.2) (.string t783)) (fun _ hk => hk.2) (.string t784)) (fun _ h_ => h_.1)))) hb); have n1_ := ak (blk_below (g := gb754) (o := .cells #[.int .i64 a0_0, .int .i64 a0_1, .int .i64 a0_2, .int .i64 a0_3, .int .i64 a0_4, .int .i64 a0_5, .int .i64 a0_6] 52 (0, 0)) (bx (blk_far (bx (blk_far (bx (blk_far (bx (blk_far (bx (blk_far (bx (blk_far (bx BK754.out) NB754_786.out _)) NB754_786.out _)) NB754_786.out _)) NB754_786.out _)) NB754_786.out _)) NB754_786.out _)) hb); have n2_ := ak (blk_below (g := gb755) (o := .cells #[.int .i64 a1_0, .int .i64 a1_1] 67 (0, 0)) (bx (blk_far (bx (blk_far (bx (blk_far (bx (blk_far (bx (blk_far (bx (blk_far (bx BK755.out) NB755_786.out _)) NB755_786.out _)) NB755_786.out _)) NB755_786.out _)) NB755_786.out _)) NB755_786.out _)) hb); have n3_ := ak (blk_below (g := gb763) (o := .cells #[.int .i64 t757, .string t758, .string t759, .string t760, .string t761, .string t762] 50 (0, 0)) (bx (blk_far (bx (blk_far (bx (blk_far (bx (blk_far (bx (blk_far (bx (blk_far (bx BK763.out) NB763_786.out _)) NB763_786.out _)) NB763_786.out _)) NB763_786.out _)) NB763_786.out _)) NB763_786.out _)) hb); have n4_ := ak (blk_below (g := gb773) (o := .cells #[.int .i64 t766, .string t767, .string t768, .string t769, .string t770, .string t771] 50 (0, 0)) (bx (blk_far (bx (blk_far (bx (blk_far (bx (blk_far (bx (blk_far (bx (blk_far (bx BK773.out) NB773_786.out _)) NB773_786.out _)) NB773_786.out _)) NB773_786.out _)) NB773_786.out _)) NB773_786.out _)) hb); have n5_ := ak (blk_below (g := gb786) (o := .cells #[.int .i64 t779, .string t780, .string t781, .string t782, .string t783, .string t784] 50 (0, 0)) (bx (blk_put (cs := #[.int .i64 t779, .string t780, .string t781, .string t782, .string t783, .string ⟨#[]⟩]) (bx (blk_put (cs := #[.int .i64 t779, .string t780, .string t781, .string t782, .string ⟨#[]⟩, .string ⟨#[]⟩]) (bx (blk_put (cs := #[.int .i64 t779, .string t780, .string t781, .string ⟨#[]⟩, .string ⟨#[]⟩, .string ⟨#[]⟩]) (bx (blk_put (cs := #[.int .i64 t779, .string t780, .string ⟨#[]⟩, .string ⟨#[]⟩, .string ⟨#[]⟩, .string ⟨#[]⟩]) (bx (blk_put (cs := #[.int .i64 t779, .string ⟨#[]⟩, .string ⟨#[]⟩, .string ⟨#[]⟩, .string ⟨#[]⟩, .string ⟨#[]⟩]) (bx (blk_put (cs := #[.int .i64 0, .string ⟨#[]⟩, .string ⟨#[]⟩, .string ⟨#[]⟩, .string ⟨#[]⟩, .string ⟨#[]⟩]) (bx BK786.out) 0 _ rfl)) 1 _ rfl)) 2 _ rfl)) 3 _ rfl)) 4 _ rfl)) 5 _ rfl)) hb); have n6_ := ak (below_step bq hb); clear HO778; clear BK754; clear BK755; clear BK763; clear BK773; clear BK786; clear HB; have HO778 := n0_; have BK754 := n1_; have BK755 := n2_; have BK763 := n3_; have BK773 := n4_; have BK786 := n5_; have HB := n6_; clear n0_ n1_ n2_ n3_ n4_ n5_ n6_; (try clear hb); (try clear hb2); (try clear hk); (try clear hi); obtain ⟨hcz71_0, hcz71_1, hcz71_2, hcz71_3, hcz71_4, hcz71_5⟩ := cz6 BK786.out; obtain ⟨hfz71_0, hfz71_1, hfz71_2, hfz71_3, hfz71_4, hfz71_5⟩ := fz6 BK786.out; (try clear A45)) | (go_at_call 35; (with_reducible refine (alias_Right.calls kj6 t779 t780 t781 t782 t783 t784 t789 _ A50.out HG.out.on).mono ?_); rintro e w72 ⟨rfl, hb⟩; have n0_ := ak (Kd.R_below (rx HO778.out) hb); have n1_ := ak (blk_below (g := gb754) (bx BK754.out) hb); have n2_ := ak (blk_below (g := gb755) (bx BK755.out) hb); have n3_ := ak (blk_below (g := gb763) (bx BK763.out) hb); have n4_ := ak (blk_below (g := gb773) (bx BK773.out) hb); have n5_ := ak (blk_below (g := gb786) (bx BK786.out) hb); have n6_ := ak (below_step bq hb); clear HO778; clear BK754; clear BK755; clear BK763; clear BK773; clear BK786; clear HB; have HO778 := n0_; have BK754 := n1_; have BK755 := n2_; have BK763 := n3_; have BK773 := n4_; have BK786 := n5_; have HB := n6_; clear n0_ n1_ n2_ n3_ n4_ n5_ n6_; (try clear hb); (try clear hb2); (try clear hk); (try clear hi); (try clear A50)))
              go_ret
              exact ⟨by first | rfl | (simp [errW_none, errW_some] <;> rfl) | (simp only [← hji40]; first | rfl | (simp [errW_none, errW_some] <;> rfl)) | (simp [*, errW_none, errW_some] <;> rfl), bq⟩
             ·
              rw [if_neg c49] at H
              have c49b0 : (t787.toList == (((t774.extract 0 (t775 : Int).toNat) ++ (strOfNums y776)) ++ (t774.extract ((ji40) : Int).toNat t774.size)).toList) = false := beq_eq_false_iff_ne.mpr c49
              have c49b1 : (t787.toList != (((t774.extract 0 (t775 : Int).toNat) ++ (strOfNums y776)) ++ (t774.extract ((ji40) : Int).toNat t774.size)).toList) = true := bne_iff_ne.mpr c49
              obtain rfl := Option.some.inj H
              have hnb73 := NB763_754.out
              have hnc73 := NB754_763.out
              have hnb74 := NB763_755.out
              have hnc74 := NB755_763.out
              have hnb75 := NB763_773.out
              have hnc75 := NB773_763.out
              obtain ⟨hcz76_0, hcz76_1, hcz76_2, hcz76_3, hcz76_4, hcz76_5⟩ := cz6 BK763.out
              obtain ⟨hfz76_0, hfz76_1, hfz76_2, hfz76_3, hfz76_4, hfz76_5⟩ := fz6 BK763.out
              try go_wp2_with (first | ((with_reducible refine gate_callee (f := 42) rfl ?_); refine goesL_ (some 42) rfl rfl Tryd.func42 (by kernel_rfl) rfl #[.agg #[.int .i64 t757, .string t758, .string t759, .string t760, .string t761, .string t762]] rfl mq ?_; (with_reducible refine (isoglossref12_Row.calls kj6 t757 t758 t759 t760 t761 t762 t774 _ A35.out).mono ?_); rintro e w77 ⟨rfl, hb⟩; refine ⟨_, rfl, ?_⟩; have n0_ := ak (blk_below (g := gb754) (bx BK754.out) hb); have n1_ := ak (blk_below (g := gb755) (bx BK755.out) hb); have n2_ := ak (blk_below (g := gb763) (bx BK763.out) hb); have n3_ := ak (blk_below (g := gb773) (bx BK773.out) hb); have n4_ := ak (below_step bq hb); clear BK754; clear BK755; clear BK763; clear BK773; clear HB; have BK754 := n0_; have BK755 := n1_; have BK763 := n2_; have BK773 := n3_; have HB := n4_; clear n0_ n1_ n2_ n3_ n4_; (try clear hb); (try clear hb2); (try clear hk); (try clear hi); have hnb78 := NB755_754.out; have hnc78 := NB754_755.out; have hnb79 := NB755_773.out; have hnc79 := NB773_755.out; obtain ⟨hcz80_0, hcz80_1⟩ := cz2 BK755.out; obtain ⟨hfz80_0, hfz80_1⟩ := fz2 BK755.out; (try clear A35)) | ((with_reducible refine gate_callee (f := 32) rfl ?_); refine goesL_ (some 47) rfl rfl Tryd.func32 (by kernel_rfl) rfl #[.int .i64 a1_0, .int .i64 (t774.size : Int)] rfl mq ?_; (with_reducible refine (isoglosslaw12_rest.calls a1_0 (t774.size : Int) t775 _ A36.out).mono ?_); rintro e w' ⟨rfl, ⟨nd, rfl⟩⟩; refine ⟨_, rfl, ?_⟩; (try (rw [drewN_self w77]; generalize hq_ : World.drewN w77 _ = w77; have n0_ : Aside0 (w77.heap[gb754]? = some (.cells #[.int .i64 a0_0, .int .i64 a0_1, .int .i64 a0_2, .int .i64 a0_3, .int .i64 a0_4, .int .i64 a0_5, .int .i64 a0_6] 52 (0, 0))) := ⟨by rw [← hq_]; exact (bx BK754.out)⟩; have n1_ : Aside0 (w77.heap[gb755]? = some (.cells #[.int .i64 a1_0, .int .i64 a1_1] 67 (0, 0))) := ⟨by rw [← hq_]; exact (bx BK755.out)⟩; have n2_ : Aside0 (w77.heap[gb763]? = some (.cells #[.int .i64 t757, .string t758, .string t759, .string t760, .string t761, .string t762] 50 (0, 0))) := ⟨by rw [← hq_]; exact (bx BK763.out)⟩; have n3_ : Aside0 (w77.heap[gb773]? = some (.cells #[.int .i64 t766, .string t767, .string t768, .string t769, .string t770, .string t771] 50 (0, 0))) := ⟨by rw [← hq_]; exact (bx BK773.out)⟩; have n4_ : Aside0 (Below w.heap.size w w77) := ⟨by rw [← hq_]; exact bq⟩; clear BK754 BK755 BK763 BK773 HB hq_; have BK754 := n0_; have BK755 := n1_; have BK763 := n2_; have BK773 := n3_; have HB := n4_; clear n0_ n1_ n2_ n3_ n4_)); (try clear A36)))
              have n0_ := ak (blk_drew BK754.out)
              have n1_ := ak (blk_drew BK755.out)
              have n2_ := ak (blk_drew BK763.out)
              have n3_ := ak (blk_drew BK773.out)
              have n4_ := ak (below_drew1 HB.out)
              clear BK754
              clear BK755
              clear BK763
              clear BK773
              clear HB
              have BK754 := n0_
              have BK755 := n1_
              have BK763 := n2_
              have BK773 := n3_
              have HB := n4_
              clear n0_ n1_ n2_ n3_ n4_
              refine start_ (n := 15) (S := fun w' => w'.cell? ⟨gb755, 0, none⟩ = some (.int .i64 a1_0) ∧ w'.cell? ⟨gb755, 1, none⟩ = some (.int .i64 a1_1)) (ds := []) #[false, false, false, false, false, false, false, false, false, false, false, false, false, false, false] (by kernel_rfl) rfl rfl ⟨(blk_cell BK755.out 0).trans rfl, (blk_cell BK755.out 1).trans rfl⟩ (fun hHeld => ?_); refine with_tabW isoglosslaw12_AliasBack.tab9 isoglosslaw12_AliasBack.bits9 (fun HT_ HW_ => ?_)
              generalize w77.drew = w81 at BK754 BK755 BK763 BK773 HB hHeld ⊢
              refine pu 0 (some 48) (M 15 1) ?_
              refine pu 1 (some 49) (M 15 3) ?_
              refine pu 2 (some 50) (M 15 7) ?_
              refine pu 3 (some 51) (M 15 15) ?_
              refine pu 9 (some 57) (M 15 527) ?_
              refine pu 10 (some 58) (M 15 1551) ?_
              refine pu 11 (some 59) (M 15 3599) ?_
              refine pu 12 (some 60) (M 15 7695) ?_
              refine take_ (i := 4) (N := some 52) (v := ?_) (a' := ?_) (M 15 7711) rfl rfl (take_ofW HT_.out HW_.out (by kernel_rfl)) (fun _ _ _ h => h) (Or.inl ⟨by rfl, ?_⟩) hHeld ?_ ?_
              rotate_left
              ·
               rintro w' ⟨s0, s1⟩
               go_simp
               with_reducible rfl
              rotate_left
              ·
               simp only [Act.put, pA, pB, pC, i64_w, i32_w]
               rfl
              refine pu 5 (some 53) (M 15 7743) ?_
              refine one_ (i := 6) (N := some 54) (M 15 7807) rfl rfl (one_of HT_.out (by kernel_rfl)) (by decide) (fun K hK => ?_)
              refine Kd.R_lit_step (Kd.int .u8) _ 5 ?hg (N := 54) ?hd (xs := ([(a1_1) % 256] : List Int)) (inner := [.int .u8 ((a1_1) % 256)]) (ok := fun _ => True) (okp := fun _ => True) ?hr ?hp (fun _ hk => hk) trivial (Below.refl _ _) (Nat.le_refl _) (by simp) ?_; (case hd => rfl); (case hg => rfl); (case hr => first | (go_simp; done) | (go_simp; rfl)); (case hp => exact (Reps.one (show Kd.M (Kd.int .u8) _ _ _ ((a1_1) % 256) [.int .u8 ((a1_1) % 256)] from rfl) (Reps.none _ _)))
              intro v777 w82 ho83 hb hg_ hnew_
              clear hg_ hnew_
              (first | rw [← Ny776.out] at ho83 | (simp only [Int.reduceToNat] at ho83; rw [← Ny776.out] at ho83))
              have n0_ := ak (Kd.R_lower ho83 (below_size bq))
              have n1_ := ak (blk_below (g := gb754) (bx BK754.out) hb)
              have n2_ := ak (blk_below (g := gb755) (bx BK755.out) hb)
              have n3_ := ak (blk_below (g := gb763) (bx BK763.out) hb)
              have n4_ := ak (blk_below (g := gb773) (bx BK773.out) hb)
              have n5_ := ak (below_step bq hb)
              clear BK754
              clear BK755
              clear BK763
              clear BK773
              clear HB
              have HO778 := n0_
              have BK754 := n1_
              have BK755 := n2_
              have BK763 := n3_
              have BK773 := n4_
              have HB := n5_
              clear n0_ n1_ n2_ n3_ n4_ n5_
              clear hb ho83
              refine hK.out _ _ ⟨(blk_cell BK755.out 0).trans rfl, (blk_cell BK755.out 1).trans rfl⟩ (fun hHeld => ?_)
              clear hK K
              refine norm_ (a' := ?_) ?_ ?_
              rotate_left
              ·
               show Act.put _ (some 54) _ = _
               simp only [Act.put, pA, pB, pC, i64_w, i32_w]
               rfl
              refine one_ (i := 7) (N := some 55) (M 15 7935) rfl rfl (one_of HT_.out (by kernel_rfl)) (by decide) (fun K hK => ?_)
              have hcv84 := own_string (P := Tryd.prog) Tryd.underlying28 Tryd.underlying5 Tryd.underlying9 (Kd.own_of_R HO778.out)
              refine value_ (w1 := ?_) (v := ?_) (by rfl) rfl ?_ ?_
              rotate_left 2
              ·
               go_simp
               constructor
               ·
                rfl
               ·
                rfl
              clear hcv84
              refine hK.out _ _ ⟨(blk_cell BK755.out 0).trans rfl, (blk_cell BK755.out 1).trans rfl⟩ (fun hHeld => ?_)
              clear hK K
              refine norm_ (a' := ?_) ?_ ?_
              rotate_left
              ·
               show Act.put _ (some 55) _ = _
               simp only [Act.put, pA, pB, pC, i64_w, i32_w]
               rfl
              refine pu 8 (some 56) (M 15 8191) ?_
              refine pu 13 (some 61) (M 15 16383) ?_
              refine pu 14 (some 11) (M 15 32767) ?_
              refine done_ (done_of HT_.out (by kernel_rfl)) ?_
              try go_wp2_with (first | ((with_reducible refine gate_callee (f := 44) rfl ?_); refine goesL_ (some 64) rfl rfl Tryd.func44 (by kernel_rfl) rfl #[.string (((t774.extract 0 (t775 : Int).toNat) ++ (strOfNums y776)) ++ (t774.extract ((ji40) : Int).toNat t774.size))] rfl (by (try simp only [List.map_toArray, List.map_cons, List.map_nil]); first | done | (simp only [hji40]; rfl) | rfl | (simp only [List.length_drop, List.length_take]; rfl)) ?_; (with_reducible refine (alias_Decode.calls kj6 (((t774.extract 0 (t775 : Int).toNat) ++ (strOfNums y776)) ++ (t774.extract ((ji40) : Int).toNat t774.size)) t779 t780 t781 t782 t783 t784 true _ A44.out HG.out.on).mono ?_); rintro e w85 ⟨rfl, hb⟩; refine ⟨_, rfl, ?_⟩; have n0_ := ak (Kd.R_below (rx HO778.out) hb); have n1_ := ak (blk_below (g := gb754) (bx BK754.out) hb); have n2_ := ak (blk_below (g := gb755) (bx BK755.out) hb); have n3_ := ak (blk_below (g := gb763) (bx BK763.out) hb); have n4_ := ak (blk_below (g := gb773) (bx BK773.out) hb); have n5_ := ak (below_step bq hb); clear HO778; clear BK754; clear BK755; clear BK763; clear BK773; clear HB; have HO778 := n0_; have BK754 := n1_; have BK755 := n2_; have BK763 := n3_; have BK773 := n4_; have HB := n5_; clear n0_ n1_ n2_ n3_ n4_ n5_; (try clear hb); (try clear hb2); (try clear hk); (try clear hi); (try clear A44)) | ((with_reducible refine gate_dst (N := 13) rfl ?_); refine box_event ?hg (N := 13) ?hd (cs := #[.int .i64 0, .string ⟨#[]⟩, .string ⟨#[]⟩, .string ⟨#[]⟩, .string ⟨#[]⟩, .string ⟨#[]⟩]) (t := 50) ?hr ?_; (case hd => rfl); (case hg => rfl); (case hr => first | (go_simp; done) | (go_simp; rfl)); intro gb786 hg w86 hbox hb; have n0_ := ak (Kd.R_below (rx HO778.out) hb); have n1_ := ak (blk_below (g := gb754) (bx BK754.out) hb); have n2_ := ak (blk_below (g := gb755) (bx BK755.out) hb); have n3_ := ak (blk_below (g := gb763) (bx BK763.out) hb); have n4_ := ak (blk_below (g := gb773) (bx BK773.out) hb); have n5_ := ak (below_step bq hb); have n6_ := ak (hbox); have n7_ := ak ((by rw [hg]; exact (below_size bq) : w.heap.size ≤ gb786)); have n8_ := ak ((by rw [hg]; exact (below_size bq) : w.heap.size ≤ gb786)); have n9_ := ak ((by rw [hg]; exact Nat.ne_of_lt (blk_lt (g := gb754) (bx BK754.out)) : gb754 ≠ gb786)); have n10_ := ak ((by rw [hg]; exact Nat.ne_of_gt (blk_lt (g := gb754) (bx BK754.out)) : gb786 ≠ gb754)); have n11_ := ak ((by rw [hg]; exact Nat.ne_of_lt (blk_lt (g := gb755) (bx BK755.out)) : gb755 ≠ gb786)); have n12_ := ak ((by rw [hg]; exact Nat.ne_of_gt (blk_lt (g := gb755) (bx BK755.out)) : gb786 ≠ gb755)); have n13_ := ak ((by rw [hg]; exact Nat.ne_of_lt (blk_lt (g := gb763) (bx BK763.out)) : gb763 ≠ gb786)); have n14_ := ak ((by rw [hg]; exact Nat.ne_of_gt (blk_lt (g := gb763) (bx BK763.out)) : gb786 ≠ gb763)); have n15_ := ak ((by rw [hg]; exact Nat.ne_of_lt (blk_lt (g := gb773) (bx BK773.out)) : gb773 ≠ gb786)); have n16_ := ak ((by rw [hg]; exact Nat.ne_of_gt (blk_lt (g := gb773) (bx BK773.out)) : gb786 ≠ gb773)); clear HO778; clear BK754; clear BK755; clear BK763; clear BK773; clear HB; have HO778 := n0_; have BK754 := n1_; have BK755 := n2_; have BK763 := n3_; have BK773 := n4_; have HB := n5_; have BK786 := n6_; have GW786 := n7_; have GE786 := n8_; have NB754_786 := n9_; have NB786_754 := n10_; have NB755_786 := n11_; have NB786_755 := n12_; have NB763_786 := n13_; have NB786_763 := n14_; have NB773_786 := n15_; have NB786_773 := n16_; clear n0_ n1_ n2_ n3_ n4_ n5_ n6_ n7_ n8_ n9_ n10_ n11_ n12_ n13_ n14_ n15_ n16_; clear hb hbox hg; have hnb87 := NB786_754.out; have hnc87 := NB754_786.out; have hnb88 := NB786_755.out; have hnc88 := NB755_786.out; have hnb89 := NB786_763.out; have hnc89 := NB763_786.out; have hnb90 := NB786_773.out; have hnc90 := NB773_786.out; obtain ⟨hcz91_0, hcz91_1, hcz91_2, hcz91_3, hcz91_4, hcz91_5⟩ := cz6 BK786.out; obtain ⟨hfz91_0, hfz91_1, hfz91_2, hfz91_3, hfz91_4, hfz91_5⟩ := fz6 BK786.out) | ((with_reducible refine gate_callee (f := 36) rfl ?_); refine goesL_ (some 69) rfl rfl Tryd.func36 (by kernel_rfl) rfl #[.agg #[.int .i64 t779, .string t780, .string t781, .string t782, .string t783, .string t784]] rfl mq ?_; (with_reducible refine (alias_Encode.calls kj6 t779 t780 t781 t782 t783 t784 t787 t788 _ A45.out HG.out.on).mono ?_); rintro e w92 ⟨rfl, hb⟩; refine ⟨_, rfl, ?_⟩; have n0_ := ak (Kd.R_below (rx ((Kd.R_mono (Kd.R_far (p := ⟨gb786, 5, none⟩) (Kd.R_far (p := ⟨gb786, 4, none⟩) (Kd.R_far (p := ⟨gb786, 3, none⟩) (Kd.R_far (p := ⟨gb786, 2, none⟩) (Kd.R_far (p := ⟨gb786, 1, none⟩) (Kd.R_far (p := ⟨gb786, 0, none⟩) (Kd.R_types HO778.out BK786.out (by decide)) (fun _ hk => hk.2) (.int .i64 t779)) (fun _ hk => hk.2) (.string t780)) (fun _ hk => hk.2) (.string t781)) (fun _ hk => hk.2) (.string t782)) (fun _ hk => hk.2) (.string t783)) (fun _ hk => hk.2) (.string t784)) (fun _ h_ => h_.1)))) hb); have n1_ := ak (blk_below (g := gb754) (o := .cells #[.int .i64 a0_0, .int .i64 a0_1, .int .i64 a0_2, .int .i64 a0_3, .int .i64 a0_4, .int .i64 a0_5, .int .i64 a0_6] 52 (0, 0)) (bx (blk_far (bx (blk_far (bx (blk_far (bx (blk_far (bx (blk_far (bx (blk_far (bx BK754.out) NB754_786.out _)) NB754_786.out _)) NB754_786.out _)) NB754_786.out _)) NB754_786.out _)) NB754_786.out _)) hb); have n2_ := ak (blk_below (g := gb755) (o := .cells #[.int .i64 a1_0, .int .i64 a1_1] 67 (0, 0)) (bx (blk_far (bx (blk_far (bx (blk_far (bx (blk_far (bx (blk_far (bx (blk_far (bx BK755.out) NB755_786.out _)) NB755_786.out _)) NB755_786.out _)) NB755_786.out _)) NB755_786.out _)) NB755_786.out _)) hb); have n3_ := ak (blk_below (g := gb763) (o := .cells #[.int .i64 t757, .string t758, .string t759, .string t760, .string t761, .string t762] 50 (0, 0)) (bx (blk_far (bx (blk_far (bx (blk_far (bx (blk_far (bx (blk_far (bx (blk_far (bx BK763.out) NB763_786.out _)) NB763_786.out _)) NB763_786.out _)) NB763_786.out _)) NB763_786.out _)) NB763_786.out _)) hb); have n4_ := ak (blk_below (g := gb773) (o := .cells #[.int .i64 t766, .string t767, .string t768, .string t769, .string t770, .string t771] 50 (0, 0)) (bx (blk_far (bx (blk_far (bx (blk_far (bx (blk_far (bx (blk_far (bx (blk_far (bx BK773.out) NB773_786.out _)) NB773_786.out _)) NB773_786.out _)) NB773_786.out _)) NB773_786.out _)) NB773_786.out _)) hb); have n5_ := ak (blk_below (g := gb786) (o := .cells #[.int .i64 t779, .string t780, .string t781, .string t782, .string t783, .string t784] 50 (0, 0)) (bx (blk_put (cs := #[.int .i64 t779, .string t780, .string t781, .string t782, .string t783, .string ⟨#[]⟩]) (bx (blk_put (cs := #[.int .i64 t779, .string t780, .string t781, .string t782, .string ⟨#[]⟩, .string ⟨#[]⟩]) (bx (blk_put (cs := #[.int .i64 t779, .string t780, .string t781, .string ⟨#[]⟩, .string ⟨#[]⟩, .string ⟨#[]⟩]) (bx (blk_put (cs := #[.int .i64 t779, .string t780, .string ⟨#[]⟩, .string ⟨#[]⟩, .string ⟨#[]⟩, .string ⟨#[]⟩]) (bx (blk_put (cs := #[.int .i64 t779, .string ⟨#[]⟩, .string ⟨#[]⟩, .string ⟨#[]⟩, .string ⟨#[]⟩, .string ⟨#[]⟩]) (bx (blk_put (cs := #[.int .i64 0, .string ⟨#[]⟩, .string ⟨#[]⟩, .string ⟨#[]⟩, .string ⟨#[]⟩, .string ⟨#[]⟩]) (bx BK786.out) 0 _ rfl)) 1 _ rfl)) 2 _ rfl)) 3 _ rfl)) 4 _ rfl)) 5 _ rfl)) hb); have n6_ := ak (below_step bq hb); clear HO778; clear BK754; clear BK755; clear BK763; clear BK773; clear BK786; clear HB; have HO778 := n0_; have BK754 := n1_; have BK755 := n2_; have BK763 := n3_; have BK773 := n4_; have BK786 := n5_; have HB := n6_; clear n0_ n1_ n2_ n3_ n4_ n5_ n6_; (try clear hb); (try clear hb2); (try clear hk); (try clear hi); (try clear A45)))
              go_ret
              exact ⟨by first | rfl | (simp [errW_none, errW_some] <;> rfl) | (simp only [← hji40]; first | rfl | (simp [errW_none, errW_some] <;> rfl)) | (simp [*, errW_none, errW_some] <;> rfl), bq⟩
            ·
             replace c48 := Bool.eq_false_iff.mpr c48
             subst c48
             have H1 : (some true) = some r := by rw [if_neg (show ¬ (false = true) by decide)] at H; exact H
             clear H
             have H := H1
             clear H1
             obtain rfl := Option.some.inj H
             have hnb93 := NB763_754.out
             have hnc93 := NB754_763.out
             have hnb94 := NB763_755.out
             have hnc94 := NB755_763.out
             have hnb95 := NB763_773.out
             have hnc95 := NB773_763.out
             obtain ⟨hcz96_0, hcz96_1, hcz96_2, hcz96_3, hcz96_4, hcz96_5⟩ := cz6 BK763.out
             obtain ⟨hfz96_0, hfz96_1, hfz96_2, hfz96_3, hfz96_4, hfz96_5⟩ := fz6 BK763.out
             try go_wp2_with (first | ((with_reducible refine gate_callee (f := 42) rfl ?_); refine goesL_ (some 42) rfl rfl Tryd.func42 (by kernel_rfl) rfl #[.agg #[.int .i64 t757, .string t758, .string t759, .string t760, .string t761, .string t762]] rfl mq ?_; (with_reducible refine (isoglossref12_Row.calls kj6 t757 t758 t759 t760 t761 t762 t774 _ A35.out).mono ?_); rintro e w97 ⟨rfl, hb⟩; refine ⟨_, rfl, ?_⟩; have n0_ := ak (blk_below (g := gb754) (bx BK754.out) hb); have n1_ := ak (blk_below (g := gb755) (bx BK755.out) hb); have n2_ := ak (blk_below (g := gb763) (bx BK763.out) hb); have n3_ := ak (blk_below (g := gb773) (bx BK773.out) hb); have n4_ := ak (below_step bq hb); clear BK754; clear BK755; clear BK763; clear BK773; clear HB; have BK754 := n0_; have BK755 := n1_; have BK763 := n2_; have BK773 := n3_; have HB := n4_; clear n0_ n1_ n2_ n3_ n4_; (try clear hb); (try clear hb2); (try clear hk); (try clear hi); have hnb98 := NB755_754.out; have hnc98 := NB754_755.out; have hnb99 := NB755_773.out; have hnc99 := NB773_755.out; obtain ⟨hcz100_0, hcz100_1⟩ := cz2 BK755.out; obtain ⟨hfz100_0, hfz100_1⟩ := fz2 BK755.out; (try clear A35)) | ((with_reducible refine gate_callee (f := 32) rfl ?_); refine goesL_ (some 47) rfl rfl Tryd.func32 (by kernel_rfl) rfl #[.int .i64 a1_0, .int .i64 (t774.size : Int)] rfl mq ?_; (with_reducible refine (isoglosslaw12_rest.calls a1_0 (t774.size : Int) t775 _ A36.out).mono ?_); rintro e w' ⟨rfl, ⟨nd, rfl⟩⟩; refine ⟨_, rfl, ?_⟩; (try (rw [drewN_self w97]; generalize hq_ : World.drewN w97 _ = w97; have n0_ : Aside0 (w97.heap[gb754]? = some (.cells #[.int .i64 a0_0, .int .i64 a0_1, .int .i64 a0_2, .int .i64 a0_3, .int .i64 a0_4, .int .i64 a0_5, .int .i64 a0_6] 52 (0, 0))) := ⟨by rw [← hq_]; exact (bx BK754.out)⟩; have n1_ : Aside0 (w97.heap[gb755]? = some (.cells #[.int .i64 a1_0, .int .i64 a1_1] 67 (0, 0))) := ⟨by rw [← hq_]; exact (bx BK755.out)⟩; have n2_ : Aside0 (w97.heap[gb763]? = some (.cells #[.int .i64 t757, .string t758, .string t759, .string t760, .string t761, .string t762] 50 (0, 0))) := ⟨by rw [← hq_]; exact (bx BK763.out)⟩; have n3_ : Aside0 (w97.heap[gb773]? = some (.cells #[.int .i64 t766, .string t767, .string t768, .string t769, .string t770, .string t771] 50 (0, 0))) := ⟨by rw [← hq_]; exact (bx BK773.out)⟩; have n4_ : Aside0 (Below w.heap.size w w97) := ⟨by rw [← hq_]; exact bq⟩; clear BK754 BK755 BK763 BK773 HB hq_; have BK754 := n0_; have BK755 := n1_; have BK763 := n2_; have BK773 := n3_; have HB := n4_; clear n0_ n1_ n2_ n3_ n4_)); (try clear A36)))
             have n0_ := ak (blk_drew BK754.out)
             have n1_ := ak (blk_drew BK755.out)
             have n2_ := ak (blk_drew BK763.out)
             have n3_ := ak (blk_drew BK773.out)
             have n4_ := ak (below_drew1 HB.out)
             clear BK754
             clear BK755
             clear BK763
             clear BK773
             clear HB
             have BK754 := n0_
             have BK755 := n1_
             have BK763 := n2_
             have BK773 := n3_
             have HB := n4_
             clear n0_ n1_ n2_ n3_ n4_
             refine start_ (n := 15) (S := fun w' => w'.cell? ⟨gb755, 0, none⟩ = some (.int .i64 a1_0) ∧ w'.cell? ⟨gb755, 1, none⟩ = some (.int .i64 a1_1)) (ds := []) #[false, false, false, false, false, false, false, false, false, false, false, false, false, false, false] (by kernel_rfl) rfl rfl ⟨(blk_cell BK755.out 0).trans rfl, (blk_cell BK755.out 1).trans rfl⟩ (fun hHeld => ?_); refine with_tabW isoglosslaw12_AliasBack.tab9 isoglosslaw12_AliasBack.bits9 (fun HT_ HW_ => ?_)
             generalize w97.drew = w101 at BK754 BK755 BK763 BK773 HB hHeld ⊢
             refine pu 0 (some 48) (M 15 1) ?_
             refine pu 1 (some 49) (M 15 3) ?_
             refine pu 2 (some 50) (M 15 7) ?_
             refine pu 3 (some 51) (M 15 15) ?_
             refine pu 9 (some 57) (M 15 527) ?_
             refine pu 10 (some 58) (M 15 1551) ?_
             refine pu 11 (some 59) (M 15 3599) ?_
             refine pu 12 (some 60) (M 15 7695) ?_
             refine take_ (i := 4) (N := some 52) (v := ?_) (a' := ?_) (M 15 7711) rfl rfl (take_ofW HT_.out HW_.out (by kernel_rfl)) (fun _ _ _ h => h) (Or.inl ⟨by rfl, ?_⟩) hHeld ?_ ?_
             rotate_left
             ·
              rintro w' ⟨s0, s1⟩
              go_simp
              with_reducible rfl
             rotate_left
             ·
              simp only [Act.put, pA, pB, pC, i64_w, i32_w]
              rfl
             refine pu 5 (some 53) (M 15 7743) ?_
             refine one_ (i := 6) (N := some 54) (M 15 7807) rfl rfl (one_of HT_.out (by kernel_rfl)) (by decide) (fun K hK => ?_)
             refine Kd.R_lit_step (Kd.int .u8) _ 5 ?hg (N := 54) ?hd (xs := ([(a1_1) % 256] : List Int)) (inner := [.int .u8 ((a1_1) % 256)]) (ok := fun _ => True) (okp := fun _ => True) ?hr ?hp (fun _ hk => hk) trivial (Below.refl _ _) (Nat.le_refl _) (by simp) ?_; (case hd => rfl); (case hg => rfl); (case hr => first | (go_simp; done) | (go_simp; rfl)); (case hp => exact (Reps.one (show Kd.M (Kd.int .u8) _ _ _ ((a1_1) % 256) [.int .u8 ((a1_1) % 256)] from rfl) (Reps.none _ _)))
             intro v777 w102 ho103 hb hg_ hnew_
             clear hg_ hnew_
             (first | rw [← Ny776.out] at ho103 | (simp only [Int.reduceToNat] at ho103; rw [← Ny776.out] at ho103))
             have n0_ := ak (Kd.R_lower ho103 (below_size bq))
             have n1_ := ak (blk_below (g := gb754) (bx BK754.out) hb)
             have n2_ := ak (blk_below (g := gb755) (bx BK755.out) hb)
             have n3_ := ak (blk_below (g := gb763) (bx BK763.out) hb)
             have n4_ := ak (blk_below (g := gb773) (bx BK773.out) hb)
             have n5_ := ak (below_step bq hb)
             clear BK754
             clear BK755
             clear BK763
             clear BK773
             clear HB
             have HO778 := n0_
             have BK754 := n1_
             have BK755 := n2_
             have BK763 := n3_
             have BK773 := n4_
             have HB := n5_
             clear n0_ n1_ n2_ n3_ n4_ n5_
             clear hb ho103
             refine hK.out _ _ ⟨(blk_cell BK755.out 0).trans rfl, (blk_cell BK755.out 1).trans rfl⟩ (fun hHeld => ?_)
             clear hK K
             refine norm_ (a' := ?_) ?_ ?_
             rotate_left
             ·
              show Act.put _ (some 54) _ = _
              simp only [Act.put, pA, pB, pC, i64_w, i32_w]
              rfl
             refine one_ (i := 7) (N := some 55) (M 15 7935) rfl rfl (one_of HT_.out (by kernel_rfl)) (by decide) (fun K hK => ?_)
             have hcv104 := own_string (P := Tryd.prog) Tryd.underlying28 Tryd.underlying5 Tryd.underlying9 (Kd.own_of_R HO778.out)
             refine value_ (w1 := ?_) (v := ?_) (by rfl) rfl ?_ ?_
             rotate_left 2
             ·
              go_simp
              constructor
              ·
               rfl
              ·
               rfl
             clear hcv104
             refine hK.out _ _ ⟨(blk_cell BK755.out 0).trans rfl, (blk_cell BK755.out 1).trans rfl⟩ (fun hHeld => ?_)
             clear hK K
             refine norm_ (a' := ?_) ?_ ?_
             rotate_left
             ·
              show Act.put _ (some 55) _ = _
              simp only [Act.put, pA, pB, pC, i64_w, i32_w]
              rfl
             refine pu 8 (some 56) (M 15 8191) ?_
             refine pu 13 (some 61) (M 15 16383) ?_
             refine pu 14 (some 11) (M 15 32767) ?_
             refine done_ (done_of HT_.out (by kernel_rfl)) ?_
             try go_wp2_with (first | ((with_reducible refine gate_callee (f := 44) rfl ?_); refine goesL_ (some 64) rfl rfl Tryd.func44 (by kernel_rfl) rfl #[.string (((t774.extract 0 (t775 : Int).toNat) ++ (strOfNums y776)) ++ (t774.extract ((ji40) : Int).toNat t774.size))] rfl (by (try simp only [List.map_toArray, List.map_cons, List.map_nil]); first | done | (simp only [hji40]; rfl) | rfl | (simp only [List.length_drop, List.length_take]; rfl)) ?_; (with_reducible refine (alias_Decode.calls kj6 (((t774.extract 0 (t775 : Int).toNat) ++ (strOfNums y776)) ++ (t774.extract ((ji40) : Int).toNat t774.size)) t779 t780 t781 t782 t783 t784 false _ A44.out HG.out.on).mono ?_); rintro e w105 ⟨rfl, hb⟩; refine ⟨_, rfl, ?_⟩; have n0_ := ak (Kd.R_below (rx HO778.out) hb); have n1_ := ak (blk_below (g := gb754) (bx BK754.out) hb); have n2_ := ak (blk_below (g := gb755) (bx BK755.out) hb); have n3_ := ak (blk_below (g := gb763) (bx BK763.out) hb); have n4_ := ak (blk_below (g := gb773) (bx BK773.out) hb); have n5_ := ak (below_step bq hb); clear HO778; clear BK754; clear BK755; clear BK763; clear BK773; clear HB; have HO778 := n0_; have BK754 := n1_; have BK755 := n2_; have BK763 := n3_; have BK773 := n4_; have HB := n5_; clear n0_ n1_ n2_ n3_ n4_ n5_; (try clear hb); (try clear hb2); (try clear hk); (try clear hi); (try clear A44)) | ((with_reducible refine gate_dst (N := 13) rfl ?_); refine box_event ?hg (N := 13) ?hd (cs := #[.int .i64 0, .string ⟨#[]⟩, .string ⟨#[]⟩, .string ⟨#[]⟩, .string ⟨#[]⟩, .string ⟨#[]⟩]) (t := 50) ?hr ?_; (case hd => rfl); (case hg => rfl); (case hr => first | (go_simp; done) | (go_simp; rfl)); intro gb786 hg w106 hbox hb; have n0_ := ak (Kd.R_below (rx HO778.out) hb); have n1_ := ak (blk_below (g := gb754) (bx BK754.out) hb); have n2_ := ak (blk_below (g := gb755) (bx BK755.out) hb); have n3_ := ak (blk_below (g := gb763) (bx BK763.out) hb); have n4_ := ak (blk_below (g := gb773) (bx BK773.out) hb); have n5_ := ak (below_step bq hb); have n6_ := ak (hbox); have n7_ := ak ((by rw [hg]; exact (below_size bq) : w.heap.size ≤ gb786)); have n8_ := ak ((by rw [hg]; exact (below_size bq) : w.heap.size ≤ gb786)); have n9_ := ak ((by rw [hg]; exact Nat.ne_of_lt (blk_lt (g := gb754) (bx BK754.out)) : gb754 ≠ gb786)); have n10_ := ak ((by rw [hg]; exact Nat.ne_of_gt (blk_lt (g := gb754) (bx BK754.out)) : gb786 ≠ gb754)); have n11_ := ak ((by rw [hg]; exact Nat.ne_of_lt (blk_lt (g := gb755) (bx BK755.out)) : gb755 ≠ gb786)); have n12_ := ak ((by rw [hg]; exact Nat.ne_of_gt (blk_lt (g := gb755) (bx BK755.out)) : gb786 ≠ gb755)); have n13_ := ak ((by rw [hg]; exact Nat.ne_of_lt (blk_lt (g := gb763) (bx BK763.out)) : gb763 ≠ gb786)); have n14_ := ak ((by rw [hg]; exact Nat.ne_of_gt (blk_lt (g := gb763) (bx BK763.out)) : gb786 ≠ gb763)); have n15_ := ak ((by rw [hg]; exact Nat.ne_of_lt (blk_lt (g := gb773) (bx BK773.out)) : gb773 ≠ gb786)); have n16_ := ak ((by rw [hg]; exact Nat.ne_of_gt (blk_lt (g := gb773) (bx BK773.out)) : gb786 ≠ gb773)); clear HO778; clear BK754; clear BK755; clear BK763; clear BK773; clear HB; have HO778 := n0_; have BK754 := n1_; have BK755 := n2_; have BK763 := n3_; have BK773 := n4_; have HB := n5_; have BK786 := n6_; have GW786 := n7_; have GE786 := n8_; have NB754_786 := n9_; have NB786_754 := n10_; have NB755_786 := n11_; have NB786_755 := n12_; have NB763_786 := n13_; have NB786_763 := n14_; have NB773_786 := n15_; have NB786_773 := n16_; clear n0_ n1_ n2_ n3_ n4_ n5_ n6_ n7_ n8_ n9_ n10_ n11_ n12_ n13_ n14_ n15_ n16_; clear hb hbox hg; have hnb107 := NB786_754.out; have hnc107 := NB754_786.out; have hnb108 := NB786_755.out; have hnc108 := NB755_786.out; have hnb109 := NB786_763.out; have hnc109 := NB763_786.out; have hnb110 := NB786_773.out; have hnc110 := NB773_786.out; obtain ⟨hcz111_0, hcz111_1, hcz111_2, hcz111_3, hcz111_4, hcz111_5⟩ := cz6 BK786.out; obtain ⟨hfz111_0, hfz111_1, hfz111_2, hfz111_3, hfz111_4, hfz111_5⟩ := fz6 BK786.out) | ((with_reducible refine gate_callee (f := 36) rfl ?_); refine goesL_ (some 69) rfl rfl Tryd.func36 (by kernel_rfl) rfl #[.agg #[.int .i64 t779, .string t780, .string t781, .string t782, .string t783, .string t784]] rfl mq ?_; (with_reducible refine (alias_Encode.calls kj6 t779 t780 t781 t782 t783 t784 t787 t788 _ A45.out HG.out.on).mono ?_); rintro e w112 ⟨rfl, hb⟩; refine ⟨_, rfl, ?_⟩; have n0_ := ak (Kd.R_below (rx ((Kd.R_mono (Kd.R_far (p := ⟨gb786, 5, none⟩) (Kd.R_far (p := ⟨gb786, 4, none⟩) (Kd.R_far (p := ⟨gb786, 3, none⟩) (Kd.R_far (p := ⟨gb786, 2, none⟩) (Kd.R_far (p := ⟨gb786, 1, none⟩) (Kd.R_far (p := ⟨gb786, 0, none⟩) (Kd.R_types HO778.out BK786.out (by decide)) (fun _ hk => hk.2) (.int .i64 t779)) (fun _ hk => hk.2) (.string t780)) (fun _ hk => hk.2) (.string t781)) (fun _ hk => hk.2) (.string t782)) (fun _ hk => hk.2) (.string t783)) (fun _ hk => hk.2) (.string t784)) (fun _ h_ => h_.1)))) hb); have n1_ := ak (blk_below (g := gb754) (o := .cells #[.int .i64 a0_0, .int .i64 a0_1, .int .i64 a0_2, .int .i64 a0_3, .int .i64 a0_4, .int .i64 a0_5, .int .i64 a0_6] 52 (0, 0)) (bx (blk_far (bx (blk_far (bx (blk_far (bx (blk_far (bx (blk_far (bx (blk_far (bx BK754.out) NB754_786.out _)) NB754_786.out _)) NB754_786.out _)) NB754_786.out _)) NB754_786.out _)) NB754_786.out _)) hb); have n2_ := ak (blk_below (g := gb755) (o := .cells #[.int .i64 a1_0, .int .i64 a1_1] 67 (0, 0)) (bx (blk_far (bx (blk_far (bx (blk_far (bx (blk_far (bx (blk_far (bx (blk_far (bx BK755.out) NB755_786.out _)) NB755_786.out _)) NB755_786.out _)) NB755_786.out _)) NB755_786.out _)) NB755_786.out _)) hb); have n3_ := ak (blk_below (g := gb763) (o := .cells #[.int .i64 t757, .string t758, .string t759, .string t760, .string t761, .string t762] 50 (0, 0)) (bx (blk_far (bx (blk_far (bx (blk_far (bx (blk_far (bx (blk_far (bx (blk_far (bx BK763.out) NB763_786.out _)) NB763_786.out _)) NB763_786.out _)) NB763_786.out _)) NB763_786.out _)) NB763_786.out _)) hb); have n4_ := ak (blk_below (g := gb773) (o := .cells #[.int .i64 t766, .string t767, .string t768, .string t769, .string t770, .string t771] 50 (0, 0)) (bx (blk_far (bx (blk_far (bx (blk_far (bx (blk_far (bx (blk_far (bx (blk_far (bx BK773.out) NB773_786.out _)) NB773_786.out _)) NB773_786.out _)) NB773_786.out _)) NB773_786.out _)) NB773_786.out _)) hb); have n5_ := ak (blk_below (g := gb786) (o := .cells #[.int .i64 t779, .string t780, .string t781, .string t782, .string t783, .string t784] 50 (0, 0)) (bx (blk_put (cs := #[.int .i64 t779, .string t780, .string t781, .string t782, .string t783, .string ⟨#[]⟩]) (bx (blk_put (cs := #[.int .i64 t779, .string t780, .string t781, .string t782, .string ⟨#[]⟩, .string ⟨#[]⟩]) (bx (blk_put (cs := #[.int .i64 t779, .string t780, .string t781, .string ⟨#[]⟩, .string ⟨#[]⟩, .string ⟨#[]⟩]) (bx (blk_put (cs := #[.int .i64 t779, .string t780, .string ⟨#[]⟩, .string ⟨#[]⟩, .string ⟨#[]⟩, .string ⟨#[]⟩]) (bx (blk_put (cs := #[.int .i64 t779, .string ⟨#[]⟩, .string ⟨#[]⟩, .string ⟨#[]⟩, .string ⟨#[]⟩, .string ⟨#[]⟩]) (bx (blk_put (cs := #[.int .i64 0, .string ⟨#[]⟩, .string ⟨#[]⟩, .string ⟨#[]⟩, .string ⟨#[]⟩, .string ⟨#[]⟩]) (bx BK786.out) 0 _ rfl)) 1 _ rfl)) 2 _ rfl)) 3 _ rfl)) 4 _ rfl)) 5 _ rfl)) hb); have n6_ := ak (below_step bq hb); clear HO778; clear BK754; clear BK755; clear BK763; clear BK773; clear BK786; clear HB; have HO778 := n0_; have BK754 := n1_; have BK755 := n2_; have BK763 := n3_; have BK773 := n4_; have BK786 := n5_; have HB := n6_; clear n0_ n1_ n2_ n3_ n4_ n5_ n6_; (try clear hb); (try clear hb2); (try clear hk); (try clear hi); (try clear A45)))
             go_ret
             exact ⟨by first | rfl | (simp [errW_none, errW_some] <;> rfl) | (simp only [← hji40]; first | rfl | (simp [errW_none, errW_some] <;> rfl)) | (simp [*, errW_none, errW_some] <;> rfl), bq⟩
           ·
            rw [if_neg c47] at H
            have c47b0 : (t785 == t788) = false := by simpa using c47
            (try (have c47b1 : decide (t785 = t788) = false := by simpa using c47))
            (try (have c47b2 : (t785 == t788) = false := by simpa using c47))
            (try (have c47b3 : ¬ (t785 = t788) := by simpa using c47))
            clear c47
            obtain rfl := Option.some.inj H
            have hnb113 := NB763_754.out
            have hnc113 := NB754_763.out
            have hnb114 := NB763_755.out
            have hnc114 := NB755_763.out
            have hnb115 := NB763_773.out
            have hnc115 := NB773_763.out
            obtain ⟨hcz116_0, hcz116_1, hcz116_2, hcz116_3, hcz116_4, hcz116_5⟩ := cz6 BK763.out
            obtain ⟨hfz116_0, hfz116_1, hfz116_2, hfz116_3, hfz116_4, hfz116_5⟩ := fz6 BK763.out
            try go_wp2_with (first | ((with_reducible refine gate_callee (f := 42) rfl ?_); refine goesL_ (some 42) rfl rfl Tryd.func42 (by kernel_rfl) rfl #[.agg #[.int .i64 t757, .string t758, .string t759, .string t760, .string t761, .string t762]] rfl mq ?_; (with_reducible refine (isoglossref12_Row.calls kj6 t757 t758 t759 t760 t761 t762 t774 _ A35.out).mono ?_); rintro e w117 ⟨rfl, hb⟩; refine ⟨_, rfl, ?_⟩; have n0_ := ak (blk_below (g := gb754) (bx BK754.out) hb); have n1_ := ak (blk_below (g := gb755) (bx BK755.out) hb); have n2_ := ak (blk_below (g := gb763) (bx BK763.out) hb); have n3_ := ak (blk_below (g := gb773) (bx BK773.out) hb); have n4_ := ak (below_step bq hb); clear BK754; clear BK755; clear BK763; clear BK773; clear HB; have BK754 := n0_; have BK755 := n1_; have BK763 := n2_; have BK773 := n3_; have HB := n4_; clear n0_ n1_ n2_ n3_ n4_; (try clear hb); (try clear hb2); (try clear hk); (try clear hi); have hnb118 := NB755_754.out; have hnc118 := NB754_755.out; have hnb119 := NB755_773.out; have hnc119 := NB773_755.out; obtain ⟨hcz120_0, hcz120_1⟩ := cz2 BK755.out; obtain ⟨hfz120_0, hfz120_1⟩ := fz2 BK755.out; (try clear A35)) | ((with_reducible refine gate_callee (f := 32) rfl ?_); refine goesL_ (some 47) rfl rfl Tryd.func32 (by kernel_rfl) rfl #[.int .i64 a1_0, .int .i64 (t774.size : Int)] rfl mq ?_; (with_reducible refine (isoglosslaw12_rest.calls a1_0 (t774.size : Int) t775 _ A36.out).mono ?_); rintro e w' ⟨rfl, ⟨nd, rfl⟩⟩; refine ⟨_, rfl, ?_⟩; (try (rw [drewN_self w117]; generalize hq_ : World.drewN w117 _ = w117; have n0_ : Aside0 (w117.heap[gb754]? = some (.cells #[.int .i64 a0_0, .int .i64 a0_1, .int .i64 a0_2, .int .i64 a0_3, .int .i64 a0_4, .int .i64 a0_5, .int .i64 a0_6] 52 (0, 0))) := ⟨by rw [← hq_]; exact (bx BK754.out)⟩; have n1_ : Aside0 (w117.heap[gb755]? = some (.cells #[.int .i64 a1_0, .int .i64 a1_1] 67 (0, 0))) := ⟨by rw [← hq_]; exact (bx BK755.out)⟩; have n2_ : Aside0 (w117.heap[gb763]? = some (.cells #[.int .i64 t757, .string t758, .string t759, .string t760, .string t761, .string t762] 50 (0, 0))) := ⟨by rw [← hq_]; exact (bx BK763.out)⟩; have n3_ : Aside0 (w117.heap[gb773]? = some (.cells #[.int .i64 t766, .string t767, .string t768, .string t769, .string t770, .string t771] 50 (0, 0))) := ⟨by rw [← hq_]; exact (bx BK773.out)⟩; have n4_ : Aside0 (Below w.heap.size w w117) := ⟨by rw [← hq_]; exact bq⟩; clear BK754 BK755 BK763 BK773 HB hq_; have BK754 := n0_; have BK755 := n1_; have BK763 := n2_; have BK773 := n3_; have HB := n4_; clear n0_ n1_ n2_ n3_ n4_)); (try clear A36)))
            have n0_ := ak (blk_drew BK754.out)
            have n1_ := ak (blk_drew BK755.out)
            have n2_ := ak (blk_drew BK763.out)
            have n3_ := ak (blk_drew BK773.out)
            have n4_ := ak (below_drew1 HB.out)
            clear BK754
            clear BK755
            clear BK763
            clear BK773
            clear HB
            have BK754 := n0_
            have BK755 := n1_
            have BK763 := n2_
            have BK773 := n3_
            have HB := n4_
            clear n0_ n1_ n2_ n3_ n4_
            refine start_ (n := 15) (S := fun w' => w'.cell? ⟨gb755, 0, none⟩ = some (.int .i64 a1_0) ∧ w'.cell? ⟨gb755, 1, none⟩ = some (.int .i64 a1_1)) (ds := []) #[false, false, false, false, false, false, false, false, false, false, false, false, false, false, false] (by kernel_rfl) rfl rfl ⟨(blk_cell BK755.out 0).trans rfl, (blk_cell BK755.out 1).trans rfl⟩ (fun hHeld => ?_); refine with_tabW isoglosslaw12_AliasBack.tab9 isoglosslaw12_AliasBack.bits9 (fun HT_ HW_ => ?_)
            generalize w117.drew = w121 at BK754 BK755 BK763 BK773 HB hHeld ⊢
            refine pu 0 (some 48) (M 15 1) ?_
            refine pu 1 (some 49) (M 15 3) ?_
            refine pu 2 (some 50) (M 15 7) ?_
            refine pu 3 (some 51) (M 15 15) ?_
            refine pu 9 (some 57) (M 15 527) ?_
            refine pu 10 (some 58) (M 15 1551) ?_
            refine pu 11 (some 59) (M 15 3599) ?_
            refine pu 12 (some 60) (M 15 7695) ?_
            refine take_ (i := 4) (N := some 52) (v := ?_) (a' := ?_) (M 15 7711) rfl rfl (take_ofW HT_.out HW_.out (by kernel_rfl)) (fun _ _ _ h => h) (Or.inl ⟨by rfl, ?_⟩) hHeld ?_ ?_
            rotate_left
            ·
             rintro w' ⟨s0, s1⟩
             go_simp
             with_reducible rfl
            rotate_left
            ·
             simp only [Act.put, pA, pB, pC, i64_w, i32_w]
             rfl
            refine pu 5 (some 53) (M 15 7743) ?_
            refine one_ (i := 6) (N := some 54) (M 15 7807) rfl rfl (one_of HT_.out (by kernel_rfl)) (by decide) (fun K hK => ?_)
            refine Kd.R_lit_step (Kd.int .u8) _ 5 ?hg (N := 54) ?hd (xs := ([(a1_1) % 256] : List Int)) (inner := [.int .u8 ((a1_1) % 256)]) (ok := fun _ => True) (okp := fun _ => True) ?hr ?hp (fun _ hk => hk) trivial (Below.refl _ _) (Nat.le_refl _) (by simp) ?_; (case hd => rfl); (case hg => rfl); (case hr => first | (go_simp; done) | (go_simp; rfl)); (case hp => exact (Reps.one (show Kd.M (Kd.int .u8) _ _ _ ((a1_1) % 256) [.int .u8 ((a1_1) % 256)] from rfl) (Reps.none _ _)))
            intro v777 w122 ho123 hb hg_ hnew_
            clear hg_ hnew_
            (first | rw [← Ny776.out] at ho123 | (simp only [Int.reduceToNat] at ho123; rw [← Ny776.out] at ho123))
            have n0_ := ak (Kd.R_lower ho123 (below_size bq))
            have n1_ := ak (blk_below (g := gb754) (bx BK754.out) hb)
            have n2_ := ak (blk_below (g := gb755) (bx BK755.out) hb)
            have n3_ := ak (blk_below (g := gb763) (bx BK763.out) hb)
            have n4_ := ak (blk_below (g := gb773) (bx BK773.out) hb)
            have n5_ := ak (below_step bq hb)
            clear BK754
            clear BK755
            clear BK763
            clear BK773
            clear HB
            have HO778 := n0_
            have BK754 := n1_
            have BK755 := n2_
            have BK763 := n3_
            have BK773 := n4_
            have HB := n5_
            clear n0_ n1_ n2_ n3_ n4_ n5_
            clear hb ho123
            refine hK.out _ _ ⟨(blk_cell BK755.out 0).trans rfl, (blk_cell BK755.out 1).trans rfl⟩ (fun hHeld => ?_)
            clear hK K
            refine norm_ (a' := ?_) ?_ ?_
            rotate_left
            ·
             show Act.put _ (some 54) _ = _
             simp only [Act.put, pA, pB, pC, i64_w, i32_w]
             rfl
            refine one_ (i := 7) (N := some 55) (M 15 7935) rfl rfl (one_of HT_.out (by kernel_rfl)) (by decide) (fun K hK => ?_)
            have hcv124 := own_string (P := Tryd.prog) Tryd.underlying28 Tryd.underlying5 Tryd.underlying9 (Kd.own_of_R HO778.out)
            refine value_ (w1 := ?_) (v := ?_) (by rfl) rfl ?_ ?_
            rotate_left 2
            ·
             go_simp
             constructor
             ·
              rfl
             ·
              rfl
            clear hcv124
            refine hK.out _ _ ⟨(blk_cell BK755.out 0).trans rfl, (blk_cell BK755.out 1).trans rfl⟩ (fun hHeld => ?_)
            clear hK K
            refine norm_ (a' := ?_) ?_ ?_
            rotate_left
            ·
             show Act.put _ (some 55) _ = _
             simp only [Act.put, pA, pB, pC, i64_w, i32_w]
             rfl
            refine pu 8 (some 56) (M 15 8191) ?_
            refine pu 13 (some 61) (M 15 16383) ?_
            refine pu 14 (some 11) (M 15 32767) ?_
            refine done_ (done_of HT_.out (by kernel_rfl)) ?_
            try go_wp2_with (first | ((with_reducible refine gate_callee (f := 44) rfl ?_); refine goesL_ (some 64) rfl rfl Tryd.func44 (by kernel_rfl) rfl #[.string (((t774.extract 0 (t775 : Int).toNat) ++ (strOfNums y776)) ++ (t774.extract ((ji40) : Int).toNat t774.size))] rfl (by (try simp only [List.map_toArray, List.map_cons, List.map_nil]); first | done | (simp only [hji40]; rfl) | rfl | (simp only [List.length_drop, List.length_take]; rfl)) ?_; (with_reducible refine (alias_Decode.calls kj6 (((t774.extract 0 (t775 : Int).toNat) ++ (strOfNums y776)) ++ (t774.extract ((ji40) : Int).toNat t774.size)) t779 t780 t781 t782 t783 t784 t785 _ A44.out HG.out.on).mono ?_); rintro e w125 ⟨rfl, hb⟩; refine ⟨_, rfl, ?_⟩; have n0_ := ak (Kd.R_below (rx HO778.out) hb); have n1_ := ak (blk_below (g := gb754) (bx BK754.out) hb); have n2_ := ak (blk_below (g := gb755) (bx BK755.out) hb); have n3_ := ak (blk_below (g := gb763) (bx BK763.out) hb); have n4_ := ak (blk_below (g := gb773) (bx BK773.out) hb); have n5_ := ak (below_step bq hb); clear HO778; clear BK754; clear BK755; clear BK763; clear BK773; clear HB; have HO778 := n0_; have BK754 := n1_; have BK755 := n2_; have BK763 := n3_; have BK773 := n4_; have HB := n5_; clear n0_ n1_ n2_ n3_ n4_ n5_; (try clear hb); (try clear hb2); (try clear hk); (try clear hi); (try clear A44)) | ((with_reducible refine gate_dst (N := 13) rfl ?_); refine box_event ?hg (N := 13) ?hd (cs := #[.int .i64 0, .string ⟨#[]⟩, .string ⟨#[]⟩, .string ⟨#[]⟩, .string ⟨#[]⟩, .string ⟨#[]⟩]) (t := 50) ?hr ?_; (case hd => rfl); (case hg => rfl); (case hr => first | (go_simp; done) | (go_simp; rfl)); intro gb786 hg w126 hbox hb; have n0_ := ak (Kd.R_below (rx HO778.out) hb); have n1_ := ak (blk_below (g := gb754) (bx BK754.out) hb); have n2_ := ak (blk_below (g := gb755) (bx BK755.out) hb); have n3_ := ak (blk_below (g := gb763) (bx BK763.out) hb); have n4_ := ak (blk_below (g := gb773) (bx BK773.out) hb); have n5_ := ak (below_step bq hb); have n6_ := ak (hbox); have n7_ := ak ((by rw [hg]; exact (below_size bq) : w.heap.size ≤ gb786)); have n8_ := ak ((by rw [hg]; exact (below_size bq) : w.heap.size ≤ gb786)); have n9_ := ak ((by rw [hg]; exact Nat.ne_of_lt (blk_lt (g := gb754) (bx BK754.out)) : gb754 ≠ gb786)); have n10_ := ak ((by rw [hg]; exact Nat.ne_of_gt (blk_lt (g := gb754) (bx BK754.out)) : gb786 ≠ gb754)); have n11_ := ak ((by rw [hg]; exact Nat.ne_of_lt (blk_lt (g := gb755) (bx BK755.out)) : gb755 ≠ gb786)); have n12_ := ak ((by rw [hg]; exact Nat.ne_of_gt (blk_lt (g := gb755) (bx BK755.out)) : gb786 ≠ gb755)); have n13_ := ak ((by rw [hg]; exact Nat.ne_of_lt (blk_lt (g := gb763) (bx BK763.out)) : gb763 ≠ gb786)); have n14_ := ak ((by rw [hg]; exact Nat.ne_of_gt (blk_lt (g := gb763) (bx BK763.out)) : gb786 ≠ gb763)); have n15_ := ak ((by rw [hg]; exact Nat.ne_of_lt (blk_lt (g := gb773) (bx BK773.out)) : gb773 ≠ gb786)); have n16_ := ak ((by rw [hg]; exact Nat.ne_of_gt (blk_lt (g := gb773) (bx BK773.out)) : gb786 ≠ gb773)); clear HO778; clear BK754; clear BK755; clear BK763; clear BK773; clear HB; have HO778 := n0_; have BK754 := n1_; have BK755 := n2_; have BK763 := n3_; have BK773 := n4_; have HB := n5_; have BK786 := n6_; have GW786 := n7_; have GE786 := n8_; have NB754_786 := n9_; have NB786_754 := n10_; have NB755_786 := n11_; have NB786_755 := n12_; have NB763_786 := n13_; have NB786_763 := n14_; have NB773_786 := n15_; have NB786_773 := n16_; clear n0_ n1_ n2_ n3_ n4_ n5_ n6_ n7_ n8_ n9_ n10_ n11_ n12_ n13_ n14_ n15_ n16_; clear hb hbox hg; have hnb127 := NB786_754.out; have hnc127 := NB754_786.out; have hnb128 := NB786_755.out; have hnc128 := NB755_786.out; have hnb129 := NB786_763.out; have hnc129 := NB763_786.out; have hnb130 := NB786_773.out; have hnc130 := NB773_786.out; obtain ⟨hcz131_0, hcz131_1, hcz131_2, hcz131_3, hcz131_4, hcz131_5⟩ := cz6 BK786.out; obtain ⟨hfz131_0, hfz131_1, hfz131_2, hfz131_3, hfz131_4, hfz131_5⟩ := fz6 BK786.out) | ((with_reducible refine gate_callee (f := 36) rfl ?_); refine goesL_ (some 69) rfl rfl Tryd.func36 (by kernel_rfl) rfl #[.agg #[.int .i64 t779, .string t780, .string t781, .string t782, .string t783, .string t784]] rfl mq ?_; (with_reducible refine (alias_Encode.calls kj6 t779 t780 t781 t782 t783 t784 t787 t788 _ A45.out HG.out.on).mono ?_); rintro e w132 ⟨rfl, hb⟩; refine ⟨_, rfl, ?_⟩; have n0_ := ak (Kd.R_below (rx ((Kd.R_mono (Kd.R_far (p := ⟨gb786, 5, none⟩) (Kd.R_far (p := ⟨gb786, 4, none⟩) (Kd.R_far (p := ⟨gb786, 3, none⟩) (Kd.R_far (p := ⟨gb786, 2, none⟩) (Kd.R_far (p := ⟨gb786, 1, none⟩) (Kd.R_far (p := ⟨gb786, 0, none⟩) (Kd.R_types HO778.out BK786.out (by decide)) (fun _ hk => hk.2) (.int .i64 t779)) (fun _ hk => hk.2) (.string t780)) (fun _ hk => hk.2) (.string t781)) (fun _ hk => hk.2) (.string t782)) (fun _ hk => hk.2) (.string t783)) (fun _ hk => hk.2) (.string t784)) (fun _ h_ => h_.1)))) hb); have n1_ := ak (blk_below (g := gb754) (o := .cells #[.int .i64 a0_0, .int .i64 a0_1, .int .i64 a0_2, .int .i64 a0_3, .int .i64 a0_4, .int .i64 a0_5, .int .i64 a0_6] 52 (0, 0)) (bx (blk_far (bx (blk_far (bx (blk_far (bx (blk_far (bx (blk_far (bx (blk_far (bx BK754.out) NB754_786.out _)) NB754_786.out _)) NB754_786.out _)) NB754_786.out _)) NB754_786.out _)) NB754_786.out _)) hb); have n2_ := ak (blk_below (g := gb755) (o := .cells #[.int .i64 a1_0, .int .i64 a1_1] 67 (0, 0)) (bx (blk_far (bx (blk_far (bx (blk_far (bx (blk_far (bx (blk_far (bx (blk_far (bx BK755.out) NB755_786.out _)) NB755_786.out _)) NB755_786.out _)) NB755_786.out _)) NB755_786.out _)) NB755_786.out _)) hb); have n3_ := ak (blk_below (g := gb763) (o := .cells #[.int .i64 t757, .string t758, .string t759, .string t760, .string t761, .string t762] 50 (0, 0)) (bx (blk_far (bx (blk_far (bx (blk_far (bx (blk_far (bx (blk_far (bx (blk_far (bx BK763.out) NB763_786.out _)) NB763_786.out _)) NB763_786.out _)) NB763_786.out _)) NB763_786.out _)) NB763_786.out _)) hb); have n4_ := ak (blk_below (g := gb773) (o := .cells #[.int .i64 t766, .string t767, .string t768, .string t769, .string t770, .string t771] 50 (0, 0)) (bx (blk_far (bx (blk_far (bx (blk_far (bx (blk_far (bx (blk_far (bx (blk_far (bx BK773.out) NB773_786.out _)) NB773_786.out _)) NB773_786.out _)) NB773_786.out _)) NB773_786.out _)) NB773_786.out _)) hb); have n5_ := ak (blk_below (g := gb786) (o := .cells #[.int .i64 t779, .string t780, .string t781, .string t782, .string t783, .string t784] 50 (0, 0)) (bx (blk_put (cs := #[.int .i64 t779, .string t780, .string t781, .string t782, .string t783, .string ⟨#[]⟩]) (bx (blk_put (cs := #[.int .i64 t779, .string t780, .string t781, .string t782, .string ⟨#[]⟩, .string ⟨#[]⟩]) (bx (blk_put (cs := #[.int .i64 t779, .string t780, .string t781, .string ⟨#[]⟩, .string ⟨#[]⟩, .string ⟨#[]⟩]) (bx (blk_put (cs := #[.int .i64 t779, .string t780, .string ⟨#[]⟩, .string ⟨#[]⟩, .string ⟨#[]⟩, .string ⟨#[]⟩]) (bx (blk_put (cs := #[.int .i64 t779, .string ⟨#[]⟩, .string ⟨#[]⟩, .string ⟨#[]⟩, .string ⟨#[]⟩, .string ⟨#[]⟩]) (bx (blk_put (cs := #[.int .i64 0, .string ⟨#[]⟩, .string ⟨#[]⟩, .string ⟨#[]⟩, .string ⟨#[]⟩, .string ⟨#[]⟩]) (bx BK786.out) 0 _ rfl)) 1 _ rfl)) 2 _ rfl)) 3 _ rfl)) 4 _ rfl)) 5 _ rfl)) hb); have n6_ := ak (below_step bq hb); clear HO778; clear BK754; clear BK755; clear BK763; clear BK773; clear BK786; clear HB; have HO778 := n0_; have BK754 := n1_; have BK755 := n2_; have BK763 := n3_; have BK773 := n4_; have BK786 := n5_; have HB := n6_; clear n0_ n1_ n2_ n3_ n4_ n5_ n6_; (try clear hb); (try clear hb2); (try clear hk); (try clear hi); (try clear A45)))
            go_ret
            exact ⟨by first | rfl | (simp [errW_none, errW_some] <;> rfl) | (simp only [← hji40]; first | rfl | (simp [errW_none, errW_some] <;> rfl)) | (simp [*, errW_none, errW_some] <;> rfl), bq⟩
          ·
           replace c46 := Bool.eq_false_iff.mpr c46
           subst c46
           have H1 : (some false) = some r := by rw [if_neg (show ¬ (false = true) by decide)] at H; exact H
           clear H
           have H := H1
           clear H1
           obtain rfl := Option.some.inj H
           have hnb133 := NB763_754.out
           have hnc133 := NB754_763.out
           have hnb134 := NB763_755.out
           have hnc134 := NB755_763.out
           have hnb135 := NB763_773.out
           have hnc135 := NB773_763.out
           obtain ⟨hcz136_0, hcz136_1, hcz136_2, hcz136_3, hcz136_4, hcz136_5⟩ := cz6 BK763.out
           obtain ⟨hfz136_0, hfz136_1, hfz136_2, hfz136_3, hfz136_4, hfz136_5⟩ := fz6 BK763.out
           try go_wp2_with (first | ((with_reducible refine gate_callee (f := 42) rfl ?_); refine goesL_ (some 42) rfl rfl Tryd.func42 (by kernel_rfl) rfl #[.agg #[.int .i64 t757, .string t758, .string t759, .string t760, .string t761, .string t762]] rfl mq ?_; (with_reducible refine (isoglossref12_Row.calls kj6 t757 t758 t759 t760 t761 t762 t774 _ A35.out).mono ?_); rintro e w137 ⟨rfl, hb⟩; refine ⟨_, rfl, ?_⟩; have n0_ := ak (blk_below (g := gb754) (bx BK754.out) hb); have n1_ := ak (blk_below (g := gb755) (bx BK755.out) hb); have n2_ := ak (blk_below (g := gb763) (bx BK763.out) hb); have n3_ := ak (blk_below (g := gb773) (bx BK773.out) hb); have n4_ := ak (below_step bq hb); clear BK754; clear BK755; clear BK763; clear BK773; clear HB; have BK754 := n0_; have BK755 := n1_; have BK763 := n2_; have BK773 := n3_; have HB := n4_; clear n0_ n1_ n2_ n3_ n4_; (try clear hb); (try clear hb2); (try clear hk); (try clear hi); have hnb138 := NB755_754.out; have hnc138 := NB754_755.out; have hnb139 := NB755_773.out; have hnc139 := NB773_755.out; obtain ⟨hcz140_0, hcz140_1⟩ := cz2 BK755.out; obtain ⟨hfz140_0, hfz140_1⟩ := fz2 BK755.out; (try clear A35)) | ((with_reducible refine gate_callee (f := 32) rfl ?_); refine goesL_ (some 47) rfl rfl Tryd.func32 (by kernel_rfl) rfl #[.int .i64 a1_0, .int .i64 (t774.size : Int)] rfl mq ?_; (with_reducible refine (isoglosslaw12_rest.calls a1_0 (t774.size : Int) t775 _ A36.out).mono ?_); rintro e w' ⟨rfl, ⟨nd, rfl⟩⟩; refine ⟨_, rfl, ?_⟩; (try (rw [drewN_self w137]; generalize hq_ : World.drewN w137 _ = w137; have n0_ : Aside0 (w137.heap[gb754]? = some (.cells #[.int .i64 a0_0, .int .i64 a0_1, .int .i64 a0_2, .int .i64 a0_3, .int .i64 a0_4, .int .i64 a0_5, .int .i64 a0_6] 52 (0, 0))) := ⟨by rw [← hq_]; exact (bx BK754.out)⟩; have n1_ : Aside0 (w137.heap[gb755]? = some (.cells #[.int .i64 a1_0, .int .i64 a1_1] 67 (0, 0))) := ⟨by rw [← hq_]; exact (bx BK755.out)⟩; have n2_ : Aside0 (w137.heap[gb763]? = some (.cells #[.int .i64 t757, .string t758, .string t759, .string t760, .string t761, .string t762] 50 (0, 0))) := ⟨by rw [← hq_]; exact (bx BK763.out)⟩; have n3_ : Aside0 (w137.heap[gb773]? = some (.cells #[.int .i64 t766, .string t767, .string t768, .string t769, .string t770, .string t771] 50 (0, 0))) := ⟨by rw [← hq_]; exact (bx BK773.out)⟩; have n4_ : Aside0 (Below w.heap.size w w137) := ⟨by rw [← hq_]; exact bq⟩; clear BK754 BK755 BK763 BK773 HB hq_; have BK754 := n0_; have BK755 := n1_; have BK763 := n2_; have BK773 := n3_; have HB := n4_; clear n0_ n1_ n2_ n3_ n4_)); (try clear A36)))
           have n0_ := ak (blk_drew BK754.out)
           have n1_ := ak (blk_drew BK755.out)
           have n2_ := ak (blk_drew BK763.out)
           have n3_ := ak (blk_drew BK773.out)
           have n4_ := ak (below_drew1 HB.out)
           clear BK754
           clear BK755
           clear BK763
           clear BK773
           clear HB
           have BK754 := n0_
           have BK755 := n1_
           have BK763 := n2_
           have BK773 := n3_
           have HB := n4_
           clear n0_ n1_ n2_ n3_ n4_
           refine start_ (n := 15) (S := fun w' => w'.cell? ⟨gb755, 0, none⟩ = some (.int .i64 a1_0) ∧ w'.cell? ⟨gb755, 1, none⟩ = some (.int .i64 a1_1)) (ds := []) #[false, false, false, false, false, false, false, false, false, false, false, false, false, false, false] (by kernel_rfl) rfl rfl ⟨(blk_cell BK755.out 0).trans rfl, (blk_cell BK755.out 1).trans rfl⟩ (fun hHeld => ?_); refine with_tabW isoglosslaw12_AliasBack.tab9 isoglosslaw12_AliasBack.bits9 (fun HT_ HW_ => ?_)
           generalize w137.drew = w141 at BK754 BK755 BK763 BK773 HB hHeld ⊢
           refine pu 0 (some 48) (M 15 1) ?_
           refine pu 1 (some 49) (M 15 3) ?_
           refine pu 2 (some 50) (M 15 7) ?_
           refine pu 3 (some 51) (M 15 15) ?_
           refine pu 9 (some 57) (M 15 527) ?_
           refine pu 10 (some 58) (M 15 1551) ?_
           refine pu 11 (some 59) (M 15 3599) ?_
           refine pu 12 (some 60) (M 15 7695) ?_
           refine take_ (i := 4) (N := some 52) (v := ?_) (a' := ?_) (M 15 7711) rfl rfl (take_ofW HT_.out HW_.out (by kernel_rfl)) (fun _ _ _ h => h) (Or.inl ⟨by rfl, ?_⟩) hHeld ?_ ?_
           rotate_left
           ·
            rintro w' ⟨s0, s1⟩
            go_simp
            with_reducible rfl
           rotate_left
           ·
            simp only [Act.put, pA, pB, pC, i64_w, i32_w]
            rfl
           refine pu 5 (some 53) (M 15 7743) ?_
           refine one_ (i := 6) (N := some 54) (M 15 7807) rfl rfl (one_of HT_.out (by kernel_rfl)) (by decide) (fun K hK => ?_)
           refine Kd.R_lit_step (Kd.int .u8) _ 5 ?hg (N := 54) ?hd (xs := ([(a1_1) % 256] : List Int)) (inner := [.int .u8 ((a1_1) % 256)]) (ok := fun _ => True) (okp := fun _ => True) ?hr ?hp (fun _ hk => hk) trivial (Below.refl _ _) (Nat.le_refl _) (by simp) ?_; (case hd => rfl); (case hg => rfl); (case hr => first | (go_simp; done) | (go_simp; rfl)); (case hp => exact (Reps.one (show Kd.M (Kd.int .u8) _ _ _ ((a1_1) % 256) [.int .u8 ((a1_1) % 256)] from rfl) (Reps.none _ _)))
           intro v777 w142 ho143 hb hg_ hnew_
           clear hg_ hnew_
           (first | rw [← Ny776.out] at ho143 | (simp only [Int.reduceToNat] at ho143; rw [← Ny776.out] at ho143))
           have n0_ := ak (Kd.R_lower ho143 (below_size bq))
           have n1_ := ak (blk_below (g := gb754) (bx BK754.out) hb)
           have n2_ := ak (blk_below (g := gb755) (bx BK755.out) hb)
           have n3_ := ak (blk_below (g := gb763) (bx BK763.out) hb)
           have n4_ := ak (blk_below (g := gb773) (bx BK773.out) hb)
           have n5_ := ak (below_step bq hb)
           clear BK754
           clear BK755
           clear BK763
           clear BK773
           clear HB
           have HO778 := n0_
           have BK754 := n1_
           have BK755 := n2_
           have BK763 := n3_
           have BK773 := n4_
           have HB := n5_
           clear n0_ n1_ n2_ n3_ n4_ n5_
           clear hb ho143
           refine hK.out _ _ ⟨(blk_cell BK755.out 0).trans rfl, (blk_cell BK755.out 1).trans rfl⟩ (fun hHeld => ?_)
           clear hK K
           refine norm_ (a' := ?_) ?_ ?_
           rotate_left
           ·
            show Act.put _ (some 54) _ = _
            simp only [Act.put, pA, pB, pC, i64_w, i32_w]
            rfl
           refine one_ (i := 7) (N := some 55) (M 15 7935) rfl rfl (one_of HT_.out (by kernel_rfl)) (by decide) (fun K hK => ?_)
           have hcv144 := own_string (P := Tryd.prog) Tryd.underlying28 Tryd.underlying5 Tryd.underlying9 (Kd.own_of_R HO778.out)
           refine value_ (w1 := ?_) (v := ?_) (by rfl) rfl ?_ ?_
           rotate_left 2
           ·
            go_simp
            constructor
            ·
             rfl
            ·
             rfl
           clear hcv144
           refine hK.out _ _ ⟨(blk_cell BK755.out 0).trans rfl, (blk_cell BK755.out 1).trans rfl⟩ (fun hHeld => ?_)
           clear hK K
           refine norm_ (a' := ?_) ?_ ?_
           rotate_left
           ·
            show Act.put _ (some 55) _ = _
            simp only [Act.put, pA, pB, pC, i64_w, i32_w]
            rfl
           refine pu 8 (some 56) (M 15 8191) ?_
           refine pu 13 (some 61) (M 15 16383) ?_
           refine pu 14 (some 11) (M 15 32767) ?_
           refine done_ (done_of HT_.out (by kernel_rfl)) ?_
           try go_wp2_with (first | ((with_reducible refine gate_callee (f := 44) rfl ?_); refine goesL_ (some 64) rfl rfl Tryd.func44 (by kernel_rfl) rfl #[.string (((t774.extract 0 (t775 : Int).toNat) ++ (strOfNums y776)) ++ (t774.extract ((ji40) : Int).toNat t774.size))] rfl (by (try simp only [List.map_toArray, List.map_cons, List.map_nil]); first | done | (simp only [hji40]; rfl) | rfl | (simp only [List.length_drop, List.length_take]; rfl)) ?_; (with_reducible refine (alias_Decode.calls kj6 (((t774.extract 0 (t775 : Int).toNat) ++ (strOfNums y776)) ++ (t774.extract ((ji40) : Int).toNat t774.size)) t779 t780 t781 t782 t783 t784 t785 _ A44.out HG.out.on).mono ?_); rintro e w145 ⟨rfl, hb⟩; refine ⟨_, rfl, ?_⟩; have n0_ := ak (Kd.R_below (rx HO778.out) hb); have n1_ := ak (blk_below (g := gb754) (bx BK754.out) hb); have n2_ := ak (blk_below (g := gb755) (bx BK755.out) hb); have n3_ := ak (blk_below (g := gb763) (bx BK763.out) hb); have n4_ := ak (blk_below (g := gb773) (bx BK773.out) hb); have n5_ := ak (below_step bq hb); clear HO778; clear BK754; clear BK755; clear BK763; clear BK773; clear HB; have HO778 := n0_; have BK754 := n1_; have BK755 := n2_; have BK763 := n3_; have BK773 := n4_; have HB := n5_; clear n0_ n1_ n2_ n3_ n4_ n5_; (try clear hb); (try clear hb2); (try clear hk); (try clear hi); (try clear A44)) | ((with_reducible refine gate_dst (N := 13) rfl ?_); refine box_event ?hg (N := 13) ?hd (cs := #[.int .i64 0, .string ⟨#[]⟩, .string ⟨#[]⟩, .string ⟨#[]⟩, .string ⟨#[]⟩, .string ⟨#[]⟩]) (t := 50) ?hr ?_; (case hd => rfl); (case hg => rfl); (case hr => first | (go_simp; done) | (go_simp; rfl)); intro gb786 hg w146 hbox hb; have n0_ := ak (Kd.R_below (rx HO778.out) hb); have n1_ := ak (blk_below (g := gb754) (bx BK754.out) hb); have n2_ := ak (blk_below (g := gb755) (bx BK755.out) hb); have n3_ := ak (blk_below (g := gb763) (bx BK763.out) hb); have n4_ := ak (blk_below (g := gb773) (bx BK773.out) hb); have n5_ := ak (below_step bq hb); have n6_ := ak (hbox); have n7_ := ak ((by rw [hg]; exact (below_size bq) : w.heap.size ≤ gb786)); have n8_ := ak ((by rw [hg]; exact (below_size bq) : w.heap.size ≤ gb786)); have n9_ := ak ((by rw [hg]; exact Nat.ne_of_lt (blk_lt (g := gb754) (bx BK754.out)) : gb754 ≠ gb786)); have n10_ := ak ((by rw [hg]; exact Nat.ne_of_gt (blk_lt (g := gb754) (bx BK754.out)) : gb786 ≠ gb754)); have n11_ := ak ((by rw [hg]; exact Nat.ne_of_lt (blk_lt (g := gb755) (bx BK755.out)) : gb755 ≠ gb786)); have n12_ := ak ((by rw [hg]; exact Nat.ne_of_gt (blk_lt (g := gb755) (bx BK755.out)) : gb786 ≠ gb755)); have n13_ := ak ((by rw [hg]; exact Nat.ne_of_lt (blk_lt (g := gb763) (bx BK763.out)) : gb763 ≠ gb786)); have n14_ := ak ((by rw [hg]; exact Nat.ne_of_gt (blk_lt (g := gb763) (bx BK763.out)) : gb786 ≠ gb763)); have n15_ := ak ((by rw [hg]; exact Nat.ne_of_lt (blk_lt (g := gb773) (bx BK773.out)) : gb773 ≠ gb786)); have n16_ := ak ((by rw [hg]; exact Nat.ne_of_gt (blk_lt (g := gb773) (bx BK773.out)) : gb786 ≠ gb773)); clear HO778; clear BK754; clear BK755; clear BK763; clear BK773; clear HB; have HO778 := n0_; have BK754 := n1_; have BK755 := n2_; have BK763 := n3_; have BK773 := n4_; have HB := n5_; have BK786 := n6_; have GW786 := n7_; have GE786 := n8_; have NB754_786 := n9_; have NB786_754 := n10_; have NB755_786 := n11_; have NB786_755 := n12_; have NB763_786 := n13_; have NB786_763 := n14_; have NB773_786 := n15_; have NB786_773 := n16_; clear n0_ n1_ n2_ n3_ n4_ n5_ n6_ n7_ n8_ n9_ n10_ n11_ n12_ n13_ n14_ n15_ n16_; clear hb hbox hg; have hnb147 := NB786_754.out; have hnc147 := NB754_786.out; have hnb148 := NB786_755.out; have hnc148 := NB755_786.out; have hnb149 := NB786_763.out; have hnc149 := NB763_786.out; have hnb150 := NB786_773.out; have hnc150 := NB773_786.out; obtain ⟨hcz151_0, hcz151_1, hcz151_2, hcz151_3, hcz151_4, hcz151_5⟩ := cz6 BK786.out; obtain ⟨hfz151_0, hfz151_1, hfz151_2, hfz151_3, hfz151_4, hfz151_5⟩ := fz6 BK786.out) | ((with_reducible refine gate_callee (f := 36) rfl ?_); refine goesL_ (some 69) rfl rfl Tryd.func36 (by kernel_rfl) rfl #[.agg #[.int .i64 t779, .string t780, .string t781, .string t782, .string t783, .string t784]] rfl mq ?_; (with_reducible refine (alias_Encode.calls kj6 t779 t780 t781 t782 t783 t784 t787 t788 _ A45.out HG.out.on).mono ?_); rintro e w152 ⟨rfl, hb⟩; refine ⟨_, rfl, ?_⟩; have n0_ := ak (Kd.R_below (rx ((Kd.R_mono (Kd.R_far (p := ⟨gb786, 5, none⟩) (Kd.R_far (p := ⟨gb786, 4, none⟩) (Kd.R_far (p := ⟨gb786, 3, none⟩) (Kd.R_far (p := ⟨gb786, 2, none⟩) (Kd.R_far (p := ⟨gb786, 1, none⟩) (Kd.R_far (p := ⟨gb786, 0, none⟩) (Kd.R_types HO778.out BK786.out (by decide)) (fun _ hk => hk.2) (.int .i64 t779)) (fun _ hk => hk.2) (.string t780)) (fun _ hk => hk.2) (.string t781)) (fun _ hk => hk.2) (.string t782)) (fun _ hk => hk.2) (.string t783)) (fun _ hk => hk.2) (.string t784)) (fun _ h_ => h_.1)))) hb); have n1_ := ak (blk_below (g := gb754) (o := .cells #[.int .i64 a0_0, .int .i64 a0_1, .int .i64 a0_2, .int .i64 a0_3, .int .i64 a0_4, .int .i64 a0_5, .int .i64 a0_6] 52 (0, 0)) (bx (blk_far (bx (blk_far (bx (blk_far (bx (blk_far (bx (blk_far (bx (blk_far (bx BK754.out) NB754_786.out _)) NB754_786.out _)) NB754_786.out _)) NB754_786.out _)) NB754_786.out _)) NB754_786.out _)) hb); have n2_ := ak (blk_below (g := gb755) (o := .cells #[.int .i64 a1_0, .int .i64 a1_1] 67 (0, 0)) (bx (blk_far (bx (blk_far (bx (blk_far (bx (blk_far (bx (blk_far (bx (blk_far (bx BK755.out) NB755_786.out _)) NB755_786.out _)) NB755_786.out _)) NB755_786.out _)) NB755_786.out _)) NB755_786.out _)) hb); have n3_ := ak (blk_below (g := gb763) (o := .cells #[.int .i64 t757, .string t758, .string t759, .string t760, .string t761, .string t762] 50 (0, 0)) (bx (blk_far (bx (blk_far (bx (blk_far (bx (blk_far (bx (blk_far (bx (blk_far (bx BK763.out) NB763_786.out _)) NB763_786.out _)) NB763_786.out _)) NB763_786.out _)) NB763_786.out _)) NB763_786.out _)) hb); have n4_ := ak (blk_below (g := gb773) (o := .cells #[.int .i64 t766, .string t767, .string t768, .string t769, .string t770, .string t771] 50 (0, 0)) (bx (blk_far (bx (blk_far (bx (blk_far (bx (blk_far (bx (blk_far (bx (blk_far (bx BK773.out) NB773_786.out _)) NB773_786.out _)) NB773_786.out _)) NB773_786.out _)) NB773_786.out _)) NB773_786.out _)) hb); have n5_ := ak (blk_below (g := gb786) (o := .cells #[.int .i64 t779, .string t780, .string t781, .string t782, .string t783, .string t784] 50 (0, 0)) (bx (blk_put (cs := #[.int .i64 t779, .string t780, .string t781, .string t782, .string t783, .string ⟨#[]⟩]) (bx (blk_put (cs := #[.int .i64 t779, .string t780, .string t781, .string t782, .string ⟨#[]⟩, .string ⟨#[]⟩]) (bx (blk_put (cs := #[.int .i64 t779, .string t780, .string t781, .string ⟨#[]⟩, .string ⟨#[]⟩, .string ⟨#[]⟩]) (bx (blk_put (cs := #[.int .i64 t779, .string t780, .string ⟨#[]⟩, .string ⟨#[]⟩, .string ⟨#[]⟩, .string ⟨#[]⟩]) (bx (blk_put (cs := #[.int .i64 t779, .string ⟨#[]⟩, .string ⟨#[]⟩, .string ⟨#[]⟩, .string ⟨#[]⟩, .string ⟨#[]⟩]) (bx (blk_put (cs := #[.int .i64 0, .string ⟨#[]⟩, .string ⟨#[]⟩, .string ⟨#[]⟩, .string ⟨#[]⟩, .string ⟨#[]⟩]) (bx BK786.out) 0 _ rfl)) 1 _ rfl)) 2 _ rfl)) 3 _ rfl)) 4 _ rfl)) 5 _ rfl)) hb); have n6_ := ak (below_step bq hb); clear HO778; clear BK754; clear BK755; clear BK763; clear BK773; clear BK786; clear HB; have HO778 := n0_; have BK754 := n1_; have BK755 := n2_; have BK763 := n3_; have BK773 := n4_; have BK786 := n5_; have HB := n6_; clear n0_ n1_ n2_ n3_ n4_ n5_ n6_; (try clear hb); (try clear hb2); (try clear hk); (try clear hi); (try clear A45)))
           go_ret
           exact ⟨by first | rfl | (simp [errW_none, errW_some] <;> rfl) | (simp only [← hji40]; first | rfl | (simp [errW_none, errW_some] <;> rfl)) | (simp [*, errW_none, errW_some] <;> rfl), bq⟩
         ·
          rw [if_neg c43] at H
          exact absurd H (by simp)
        ·
         rw [if_neg c42] at H
         exact absurd H (by simp)
       ·
        rw [if_neg c41] at H
        exact absurd H (by simp)
      ·
       rw [if_neg c39] at H
       exact absurd H (by simp)
     ·
      rw [if_neg c38] at H
      exact absurd H (by simp)
    ·
     rw [if_neg c37] at H
     exact absurd H (by simp)

def isoglosslaw12_AliasBack.Pure : Prop := ∀ (a0_0 : Int) (a0_1 : Int) (a0_2 : Int) (a0_3 : Int) (a0_4 : Int) (a0_5 : Int) (a0_6 : Int) (a1_0 : Int) (a1_1 : Int), (Lit.int .i64 a0_0).wf = true → (Lit.int .i64 a0_1).wf = true → (Lit.int .i64 a0_2).wf = true → (Lit.int .i64 a0_3).wf = true → (Lit.int .i64 a0_4).wf = true → (Lit.int .i64 a0_5).wf = true → (Lit.int .i64 a0_6).wf = true → (Lit.int .i64 a1_0).wf = true → (Lit.int .i64 a1_1).wf = true → ∃ k, isoglosslaw12_AliasBack.f k a0_0 a0_1 a0_2 a0_3 a0_4 a0_5 a0_6 a1_0 a1_1 = some true
theorem isoglosslaw12_AliasBack.walk (P : isoglosslaw12_AliasBack.Pure) (a0_0 : Int) (a0_1 : Int) (a0_2 : Int) (a0_3 : Int) (a0_4 : Int) (a0_5 : Int) (a0_6 : Int) (a1_0 : Int) (a1_1 : Int) (w : World) (w0_0 : (Lit.int .i64 a0_0).wf = true) (w0_1 : (Lit.int .i64 a0_1).wf = true) (w0_2 : (Lit.int .i64 a0_2).wf = true) (w0_3 : (Lit.int .i64 a0_3).wf = true) (w0_4 : (Lit.int .i64 a0_4).wf = true) (w0_5 : (Lit.int .i64 a0_5).wf = true) (w0_6 : (Lit.int .i64 a0_6).wf = true) (w1_0 : (Lit.int .i64 a1_0).wf = true) (w1_1 : (Lit.int .i64 a1_1).wf = true) (hG : GrandW.G w) :
  Calls Tryd.prog 13 #[.agg #[.int .i64 a0_0, .int .i64 a0_1, .int .i64 a0_2, .int .i64 a0_3, .int .i64 a0_4, .int .i64 a0_5, .int .i64 a0_6], .agg #[.int .i64 a1_0, .int .i64 a1_1]] w fun e w' => e = .returned (.bool true) ∧ Below w.heap.size w w' := by
 obtain ⟨k, h⟩ := P a0_0 a0_1 a0_2 a0_3 a0_4 a0_5 a0_6 a1_0 a1_1 w0_0 w0_1 w0_2 w0_3 w0_4 w0_5 w0_6 w1_0 w1_1
 refine (isoglosslaw12_AliasBack.calls k a0_0 a0_1 a0_2 a0_3 a0_4 a0_5 a0_6 a1_0 a1_1 true w h hG).mono ?_
 rintro e w' ⟨rfl, hd⟩
 exact ⟨rfl, hd⟩

end Go.Proofs.YtmbfnbnlajchmaaDoor.P
