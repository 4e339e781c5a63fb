/- Made by a program of this seat's own (myprint.py, round the kit's print): what the functions compute, and that they do. -/
import Derived.Test.YtmbfnbnlajchmaaDoorAkP0
import Derived.Test.YtmbfnbnlajchmaaDoorAkP11
import Derived.Test.YtmbfnbnlajchmaaDoorAkP17
import Derived.Test.YtmbfnbnlajchmaaDoorAkP19
import Derived.Test.YtmbfnbnlajchmaaDoorAkP20
import Derived.Test.YtmbfnbnlajchmaaDoorAkTight
namespace Go.Proofs.YtmbfnbnlajchmaaDoor.P
open Go.RowKit Go.Proofs.YtmbfnbnlajchmaaDoorW.PrintWords Go.Proofs.YtmbfnbnlajchmaaDoorW.PrintLast Go.Proofs.YtmbfnbnlajchmaaDoorW.PrintMore
attribute [local go_sem] StrOrd.binOp_gtr StrOrd.binOp_leq max2_int min2_int max_two min_two max_three min_three max_four min_four   -- for this text's walks alone
set_option linter.unusedVariables false
set_option linter.unusedSimpArgs false

def isoglosslaw12_AliasKeys.j0 : Nat → Int → Bool → Bool → ByteArray → ByteArray → Int → ByteArray → ByteArray → ByteArray → ByteArray → ByteArray → Option (Bool)
 | 0, _, _, _, _, _, _, _, _, _, _, _ => none
 | k + 1, x0, x7, x46, x620000, x620001, x629000, x629001, x629002, x629003, x629004, x629005 => if x46 = true then (some false) else (if x7 = true then ((isoglosslaw12_short.f x620000).bind fun t633 => ((isoglosslaw12_short.f x620001).bind fun t634 => ((isoglosslaw12_keys.f k x0 t633 t634).bind fun t635 => (if t635 = true then ((isoglosslaw12_rest.f x0 9).bind fun t636 => ((isoglosslaw12_short.f x620000).bind fun t637 => ((isoglosslaw12_short.f x620001).bind fun t638 => ((isoglosslaw12_keys.f k t636 t637 t638).bind fun t639 => (if t639 = true then ((isoglosslaw12_rest.f x0 9).bind fun t640 => ((isoglosslaw12_keys.f k t640 x629001 x629002).bind fun t641 => (some t641))) else (some false)))))) else (some false))))) else (some false))
def isoglosslaw12_AliasKeys.f (k : Nat) (a0 : Int) (a1_0 : ByteArray) (a1_1 : ByteArray) (a2_0 : Int) (a2_1 : Int) (a2_2 : Int) (a2_3 : Int) (a2_4 : Int) (a2_5 : Int) (a2_6 : Int) : Option (Bool) := (isoglosslaw12_awake.f k).bind fun t621 => ((isoglossref12_Made.f k a2_0 a2_1 a2_2 a2_3 a2_4 a2_5 a2_6).bind fun bt622 => ((alias_Encode.f k bt622.1 bt622.2.1 bt622.2.2.1 bt622.2.2.2.1 bt622.2.2.2.2.1 bt622.2.2.2.2.2).bind fun bt629 => ((alias_Key.f k bt622.1 bt622.2.1 bt622.2.2.1).bind fun bt631 => (if bt629.2 = true then (if bt631.2 = true then (if (bt631.1.size : Int) = 17 then (if 0 ≤ 17 then (if 17 ≤ (bt629.1.size : Int) then (isoglosslaw12_AliasKeys.j0 k a0 t621 ((bt629.1.extract 0 17).toList != bt631.1.toList) a1_0 a1_1 bt622.1 bt622.2.1 bt622.2.2.1 bt622.2.2.2.1 bt622.2.2.2.2.1 bt622.2.2.2.2.2) else (none)) else (none)) else (isoglosslaw12_AliasKeys.j0 k a0 t621 true a1_0 a1_1 bt622.1 bt622.2.1 bt622.2.2.1 bt622.2.2.2.1 bt622.2.2.2.2.1 bt622.2.2.2.2.2)) else (isoglosslaw12_AliasKeys.j0 k a0 t621 true a1_0 a1_1 bt622.1 bt622.2.1 bt622.2.2.1 bt622.2.2.2.1 bt622.2.2.2.2.1 bt622.2.2.2.2.2)) else (isoglosslaw12_AliasKeys.j0 k a0 t621 false a1_0 a1_1 bt622.1 bt622.2.1 bt622.2.2.1 bt622.2.2.2.1 bt622.2.2.2.2.1 bt622.2.2.2.2.2)))))
def isoglosslaw12_AliasKeys.T7 : Bool × List (List Nat × List Nat) := (true, [([], []), ([0], [0]), ([1], [1]), ([1], [1]), ([3, 1], [1, 3]), ([4, 1, 1], [1, 4]), ([1], [1]), ([6, 1], [1, 6]), ([7, 5, 1], [1, 7]), ([2, 5, 8, 8, 1], [1, 2, 5, 8]), ([1, 9], [1, 9]), ([10, 9], [10]), ([11], [11]), ([12, 11, 11], [11, 12]), ([11], [11]), ([14, 11], [11, 14]), ([15, 13, 11], [11, 15]), ([11], [11]), ([17, 11], [11, 17]), ([18, 16, 11], [11, 18]), ([13, 16, 19, 19, 11], [11, 13, 16, 19]), ([11, 20], [11, 20]), ([21, 20], [21]), ([22], [22]), ([23, 22, 22], [22, 23]), ([22], [22]), ([25, 22], [22, 25]), ([22], [22]), ([27, 22], [22, 27]), ([24, 26, 28, 24, 22], [22, 24, 26, 28]), ([22, 29], [22, 29]), ([30, 29, 0, 1, 2, 3, 4, 5, 6, 7, 8, 9, 10, 11, 12, 13, 14, 15, 16, 17, 18, 19, 20, 21, 22, 23, 24, 25, 26, 27, 28, 29, 30], [30])])
def isoglosslaw12_AliasKeys.B7 : List Nat := [0, 1, 3, 3, 11, 27, 3, 67, 251, 511, 1023, 2047, 4095, 8191, 4095, 20479, 65535, 4095, 135167, 524287, 1048575, 2097151, 4194303, 8388607, 16777215, 8388607, 41943039, 8388607, 142606335, 536870911, 1073741823, 2147483647]
theorem isoglosslaw12_AliasKeys.tab7 : rtab .any (opsOf Tryd.f10 7) = isoglosslaw12_AliasKeys.T7 := by kernel_rfl
theorem isoglosslaw12_AliasKeys.bits7 : waitsOk isoglosslaw12_AliasKeys.T7.2 isoglosslaw12_AliasKeys.B7 = true := by kernel_rfl
set_option maxHeartbeats 8000000 in
set_option maxRecDepth 100000 in
theorem isoglosslaw12_AliasKeys.calls (k : Nat) (a0 : Int) (a1_0 : ByteArray) (a1_1 : ByteArray) (a2_0 : Int) (a2_1 : Int) (a2_2 : Int) (a2_3 : Int) (a2_4 : Int) (a2_5 : Int) (a2_6 : Int) (r : Bool) (w : World) (h : isoglosslaw12_AliasKeys.f k a0 a1_0 a1_1 a2_0 a2_1 a2_2 a2_3 a2_4 a2_5 a2_6 = some r) (hG : GrandW.G w) :
  Calls Tryd.prog 10 #[.int .i64 a0, .agg #[.string a1_0, .string a1_1], .agg #[.int .i64 a2_0, .int .i64 a2_1, .int .i64 a2_2, .int .i64 a2_3, .int .i64 a2_4, .int .i64 a2_5, .int .i64 a2_6]] w fun e w' => e = .returned (.bool r) ∧ Below w.heap.size w w' := by
 have HG := ak hG
 clear hG
 have hu58 := Tryd.underlying58
 have hu52 := Tryd.underlying52
 have hu50 := Tryd.underlying50
 have HB := ak (Below.refl w.heap.size w)
 have H : ((isoglosslaw12_awake.f k).bind fun t621 => ((isoglossref12_Made.f k a2_0 a2_1 a2_2 a2_3 a2_4 a2_5 a2_6).bind fun bt622 => ((alias_Encode.f k bt622.1 bt622.2.1 bt622.2.2.1 bt622.2.2.2.1 bt622.2.2.2.2.1 bt622.2.2.2.2.2).bind fun bt629 => ((alias_Key.f k bt622.1 bt622.2.1 bt622.2.2.1).bind fun bt631 => (if bt629.2 = true then (if bt631.2 = true then (if (bt631.1.size : Int) = 17 then (if 0 ≤ 17 then (if 17 ≤ (bt629.1.size : Int) then (isoglosslaw12_AliasKeys.j0 k a0 t621 ((bt629.1.extract 0 17).toList != bt631.1.toList) a1_0 a1_1 bt622.1 bt622.2.1 bt622.2.2.1 bt622.2.2.2.1 bt622.2.2.2.2.1 bt622.2.2.2.2.2) else (none)) else (none)) else (isoglosslaw12_AliasKeys.j0 k a0 t621 true a1_0 a1_1 bt622.1 bt622.2.1 bt622.2.2.1 bt622.2.2.2.1 bt622.2.2.2.2.1 bt622.2.2.2.2.2)) else (isoglosslaw12_AliasKeys.j0 k a0 t621 true a1_0 a1_1 bt622.1 bt622.2.1 bt622.2.2.1 bt622.2.2.2.1 bt622.2.2.2.2.1 bt622.2.2.2.2.2)) else (isoglosslaw12_AliasKeys.j0 k a0 t621 false a1_0 a1_1 bt622.1 bt622.2.1 bt622.2.2.1 bt622.2.2.2.1 bt622.2.2.2.2.1 bt622.2.2.2.2.2)))))) = some r := h
 clear h
 replace H := Option.bind_eq_some_iff.mp H
 obtain ⟨t621, A40, H⟩ := H
 have A4 := ak A40
 clear A40
 replace H := Option.bind_eq_some_iff.mp H
 obtain ⟨⟨t622, t623, t624, t625, t626, t627⟩, A50, H⟩ := H
 replace H : ((alias_Encode.f k t622 t623 t624 t625 t626 t627).bind fun bt629 => ((alias_Key.f k t622 t623 t624).bind fun bt631 => (if bt629.2 = true then (if bt631.2 = true then (if (bt631.1.size : Int) = 17 then (if 0 ≤ 17 then (if 17 ≤ (bt629.1.size : Int) then (isoglosslaw12_AliasKeys.j0 k a0 t621 ((bt629.1.extract 0 17).toList != bt631.1.toList) a1_0 a1_1 t622 t623 t624 t625 t626 t627) else (none)) else (none)) else (isoglosslaw12_AliasKeys.j0 k a0 t621 true a1_0 a1_1 t622 t623 t624 t625 t626 t627)) else (isoglosslaw12_AliasKeys.j0 k a0 t621 true a1_0 a1_1 t622 t623 t624 t625 t626 t627)) else (isoglosslaw12_AliasKeys.j0 k a0 t621 false a1_0 a1_1 t622 t623 t624 t625 t626 t627)))) = some r := H
 have A5 := ak A50
 clear A50
 replace H := Option.bind_eq_some_iff.mp H
 obtain ⟨⟨t629, t630⟩, A60, H⟩ := H
 replace H : ((alias_Key.f k t622 t623 t624).bind fun bt631 => (if t630 = true then (if bt631.2 = true then (if (bt631.1.size : Int) = 17 then (if 0 ≤ 17 then (if 17 ≤ (t629.size : Int) then (isoglosslaw12_AliasKeys.j0 k a0 t621 ((t629.extract 0 17).toList != bt631.1.toList) a1_0 a1_1 t622 t623 t624 t625 t626 t627) else (none)) else (none)) else (isoglosslaw12_AliasKeys.j0 k a0 t621 true a1_0 a1_1 t622 t623 t624 t625 t626 t627)) else (isoglosslaw12_AliasKeys.j0 k a0 t621 true a1_0 a1_1 t622 t623 t624 t625 t626 t627)) else (isoglosslaw12_AliasKeys.j0 k a0 t621 false a1_0 a1_1 t622 t623 t624 t625 t626 t627))) = some r := H
 have A6 := ak A60
 clear A60
 replace H := Option.bind_eq_some_iff.mp H
 obtain ⟨⟨t631, t632⟩, A70, H⟩ := H
 replace H : (if t630 = true then (if t632 = true then (if (t631.size : Int) = 17 then (if 0 ≤ 17 then (if 17 ≤ (t629.size : Int) then (isoglosslaw12_AliasKeys.j0 k a0 t621 ((t629.extract 0 17).toList != t631.toList) a1_0 a1_1 t622 t623 t624 t625 t626 t627) else (none)) else (none)) else (isoglosslaw12_AliasKeys.j0 k a0 t621 true a1_0 a1_1 t622 t623 t624 t625 t626 t627)) else (isoglosslaw12_AliasKeys.j0 k a0 t621 true a1_0 a1_1 t622 t623 t624 t625 t626 t627)) else (isoglosslaw12_AliasKeys.j0 k a0 t621 false a1_0 a1_1 t622 t623 t624 t625 t626 t627)) = some r := H
 have A7 := ak A70
 clear A70
 have HC8 := ak H
 clear H
 go_enter Tryd.func10, Tryd.ntmps10
 go_upto_region 5 with (first | ((with_reducible refine gate_dst (N := 4) rfl ?_); (try (refine gate_guard (by rfl) ?_; dsimp only)); refine box_event ?hg (N := 4) ?hd (cs := #[.string a1_0, .string a1_1]) (t := 58) ?hr ?_; (case hd => rfl); (case hg => rfl); (case hr => first | (go_simp; done) | (go_simp; rfl)); intro gb619 hg w9 hbox hb; have n0_ := ak (below_step bq hb); have n1_ := ak (hbox); have n2_ := ak ((by rw [hg]; exact (below_size bq) : w.heap.size ≤ gb619)); have n3_ := ak ((by rw [hg]; exact (below_size bq) : w.heap.size ≤ gb619)); clear HB; have HB := n0_; have BK619 := n1_; have GW619 := n2_; have GE619 := n3_; clear n0_ n1_ n2_ n3_; clear hb hbox hg) | ((with_reducible refine gate_dst (N := 5) rfl ?_); (try (refine gate_guard (by rfl) ?_; dsimp only)); refine box_event ?hg (N := 5) ?hd (cs := #[.int .i64 a2_0, .int .i64 a2_1, .int .i64 a2_2, .int .i64 a2_3, .int .i64 a2_4, .int .i64 a2_5, .int .i64 a2_6]) (t := 52) ?hr ?_; (case hd => rfl); (case hg => rfl); (case hr => first | (go_simp; done) | (go_simp; rfl)); intro gb620 hg w10 hbox hb; have n0_ := ak (blk_below (g := gb619) (bx BK619.out) hb); have n1_ := ak (below_step bq hb); have n2_ := ak (hbox); have n3_ := ak ((by rw [hg]; exact (below_size bq) : w.heap.size ≤ gb620)); have n4_ := ak ((by rw [hg]; exact (below_size bq) : w.heap.size ≤ gb620)); have n5_ := ak ((by rw [hg]; exact Nat.ne_of_lt (blk_lt (g := gb619) (bx BK619.out)) : gb619 ≠ gb620)); have n6_ := ak ((by rw [hg]; exact Nat.ne_of_gt (blk_lt (g := gb619) (bx BK619.out)) : gb620 ≠ gb619)); clear BK619; clear HB; have BK619 := n0_; have HB := n1_; have BK620 := n2_; have GW620 := n3_; have GE620 := n4_; have NB619_620 := n5_; have NB620_619 := n6_; clear n0_ n1_ n2_ n3_ n4_ n5_ n6_; clear hb hbox hg) | ((with_reducible refine gate_callee (f := 30) rfl ?_); refine goesL_ (some 13) rfl rfl Tryd.func30 (by kernel_rfl) rfl #[] rfl mq ?_; (with_reducible refine (isoglosslaw12_awake.calls k  t621 _ A4.out HG.out.on).mono ?_); rintro e w11 ⟨rfl, hb⟩; refine ⟨_, rfl, ?_⟩; have n0_ := ak (blk_below (g := gb619) (bx BK619.out) hb); have n1_ := ak (blk_below (g := gb620) (bx BK620.out) hb); have n2_ := ak (below_step bq hb); clear BK619; clear BK620; clear HB; have BK619 := n0_; have BK620 := n1_; have HB := n2_; clear n0_ n1_ n2_; (try clear hb); (try clear hb2); (try clear hk); (try clear hi); have hnb12 := NB620_619.out; have hnc12 := NB619_620.out; obtain ⟨hcz13_0, hcz13_1, hcz13_2, hcz13_3, hcz13_4, hcz13_5, hcz13_6⟩ := cz7 BK620.out; obtain ⟨hfz13_0, hfz13_1, hfz13_2, hfz13_3, hfz13_4, hfz13_5, hfz13_6⟩ := fz7 BK620.out; (try clear A4)) | ((with_reducible refine gate_callee (f := 34) rfl ?_); refine goesL_ (some 15) rfl rfl Tryd.func34 (by kernel_rfl) rfl #[.agg #[.int .i64 a2_0, .int .i64 a2_1, .int .i64 a2_2, .int .i64 a2_3, .int .i64 a2_4, .int .i64 a2_5, .int .i64 a2_6]] rfl mq ?_; (with_reducible refine (isoglossref12_Made.calls k a2_0 a2_1 a2_2 a2_3 a2_4 a2_5 a2_6 t622 t623 t624 t625 t626 t627 _ A5.out).mono ?_); rintro e w14 ⟨rfl, hb⟩; refine ⟨_, rfl, ?_⟩; have n0_ := ak (blk_below (g := gb619) (bx BK619.out) hb); have n1_ := ak (blk_below (g := gb620) (bx BK620.out) hb); have n2_ := ak (below_step bq hb); clear BK619; clear BK620; clear HB; have BK619 := n0_; have BK620 := n1_; have HB := n2_; clear n0_ n1_ n2_; (try clear hb); (try clear hb2); (try clear hk); (try clear hi); (try clear A5)) | ((with_reducible refine gate_dst (N := 8) rfl ?_); (try (refine gate_guard (by rfl) ?_; dsimp only)); refine box_event ?hg (N := 8) ?hd (cs := #[.int .i64 0, .string ⟨#[]⟩, .string ⟨#[]⟩, .string ⟨#[]⟩, .string ⟨#[]⟩, .string ⟨#[]⟩]) (t := 50) ?hr ?_; (case hd => rfl); (case hg => rfl); (case hr => first | (go_simp; done) | (go_simp; rfl)); intro gb628 hg w15 hbox hb; have n0_ := ak (blk_below (g := gb619) (bx BK619.out) hb); have n1_ := ak (blk_below (g := gb620) (bx BK620.out) hb); have n2_ := ak (below_step bq hb); have n3_ := ak (hbox); have n4_ := ak ((by rw [hg]; exact (below_size bq) : w.heap.size ≤ gb628)); have n5_ := ak ((by rw [hg]; exact (below_size bq) : w.heap.size ≤ gb628)); have n6_ := ak ((by rw [hg]; exact Nat.ne_of_lt (blk_lt (g := gb619) (bx BK619.out)) : gb619 ≠ gb628)); have n7_ := ak ((by rw [hg]; exact Nat.ne_of_gt (blk_lt (g := gb619) (bx BK619.out)) : gb628 ≠ gb619)); have n8_ := ak ((by rw [hg]; exact Nat.ne_of_lt (blk_lt (g := gb620) (bx BK620.out)) : gb620 ≠ gb628)); have n9_ := ak ((by rw [hg]; exact Nat.ne_of_gt (blk_lt (g := gb620) (bx BK620.out)) : gb628 ≠ gb620)); clear BK619; clear BK620; clear HB; have BK619 := n0_; have BK620 := n1_; have HB := n2_; have BK628 := n3_; have GW628 := n4_; have GE628 := n5_; have NB619_628 := n6_; have NB628_619 := n7_; have NB620_628 := n8_; have NB628_620 := n9_; clear n0_ n1_ n2_ n3_ n4_ n5_ n6_ n7_ n8_ n9_; clear hb hbox hg; have hnb16 := NB628_619.out; have hnc16 := NB619_628.out; have hnb17 := NB628_620.out; have hnc17 := NB620_628.out; obtain ⟨hcz18_0, hcz18_1, hcz18_2, hcz18_3, hcz18_4, hcz18_5⟩ := cz6 BK628.out; obtain ⟨hfz18_0, hfz18_1, hfz18_2, hfz18_3, hfz18_4, hfz18_5⟩ := fz6 BK628.out) | ((with_reducible refine gate_callee (f := 36) rfl ?_); refine goesL_ (some 18) rfl rfl Tryd.func36 (by kernel_rfl) rfl #[.agg #[.int .i64 t622, .string t623, .string t624, .string t625, .string t626, .string t627]] rfl mq ?_; (with_reducible refine (alias_Encode.calls k t622 t623 t624 t625 t626 t627 t629 t630 _ A6.out HG.out.on).mono ?_); rintro e w19 ⟨rfl, hb⟩; refine ⟨_, rfl, ?_⟩; have n0_ := ak (blk_below (g := gb619) (o := .cells #[.string a1_0, .string a1_1] 58 (0, 0)) (bx (blk_far (bx (blk_far (bx (blk_far (bx (blk_far (bx (blk_far (bx (blk_far (bx BK619.out) NB619_628.out _)) NB619_628.out _)) NB619_628.out _)) NB619_628.out _)) NB619_628.out _)) NB619_628.out _)) hb); have n1_ := ak (blk_below (g := gb620) (o := .cells #[.int .i64 a2_0, .int .i64 a2_1, .int .i64 a2_2, .int .i64 a2_3, .int .i64 a2_4, .int .i64 a2_5, .int .i64 a2_6] 52 (0, 0)) (bx (blk_far (bx (blk_far (bx (blk_far (bx (blk_far (bx (blk_far (bx (blk_far (bx BK620.out) NB620_628.out _)) NB620_628.out _)) NB620_628.out _)) NB620_628.out _)) NB620_628.out _)) NB620_628.out _)) hb); have n2_ := ak (blk_below (g := gb628) (o := .cells #[.int .i64 t622, .string t623, .string t624, .string t625, .string t626, .string t627] 50 (0, 0)) (bx (blk_put (cs := #[.int .i64 t622, .string t623, .string t624, .string t625, .string t626, .string ⟨#[]⟩]) (bx (blk_put (cs := #[.int .i64 t622, .string t623, .string t624, .string t625, .string ⟨#[]⟩, .string ⟨#[]⟩]) (bx (blk_put (cs := #[.int .i64 t622, .string t623, .string t624, .string ⟨#[]⟩, .string ⟨#[]⟩, .string ⟨#[]⟩]) (bx (blk_put (cs := #[.int .i64 t622, .string t623, .string ⟨#[]⟩, .string ⟨#[]⟩, .string ⟨#[]⟩, .string ⟨#[]⟩]) (bx (blk_put (cs := #[.int .i64 t622, .string ⟨#[]⟩, .string ⟨#[]⟩, .string ⟨#[]⟩, .string ⟨#[]⟩, .string ⟨#[]⟩]) (bx (blk_put (cs := #[.int .i64 0, .string ⟨#[]⟩, .string ⟨#[]⟩, .string ⟨#[]⟩, .string ⟨#[]⟩, .string ⟨#[]⟩]) (bx BK628.out) 0 _ rfl)) 1 _ rfl)) 2 _ rfl)) 3 _ rfl)) 4 _ rfl)) 5 _ rfl)) hb); have n3_ := ak (below_step bq hb); clear BK619; clear BK620; clear BK628; clear HB; have BK619 := n0_; have BK620 := n1_; have BK628 := n2_; have HB := n3_; clear n0_ n1_ n2_ n3_; (try clear hb); (try clear hb2); (try clear hk); (try clear hi); obtain ⟨hcz20_0, hcz20_1, hcz20_2, hcz20_3, hcz20_4, hcz20_5⟩ := cz6 BK628.out; obtain ⟨hfz20_0, hfz20_1, hfz20_2, hfz20_3, hfz20_4, hfz20_5⟩ := fz6 BK628.out; (try clear A6)) | ((with_reducible refine gate_callee (f := 37) rfl ?_); refine goesL_ (some 28) rfl rfl Tryd.func37 (by kernel_rfl) rfl #[.int .i64 t622, .string t623, .string t624] rfl mq ?_; (with_reducible refine (alias_Key.calls k t622 t623 t624 t631 t632 _ A7.out HG.out.on).mono ?_); rintro e w21 ⟨rfl, hb⟩; refine ⟨_, rfl, ?_⟩; have n0_ := ak (blk_below (g := gb619) (bx BK619.out) hb); have n1_ := ak (blk_below (g := gb620) (bx BK620.out) hb); have n2_ := ak (blk_below (g := gb628) (bx BK628.out) hb); have n3_ := ak (below_step bq hb); clear BK619; clear BK620; clear BK628; clear HB; have BK619 := n0_; have BK620 := n1_; have BK628 := n2_; have HB := n3_; clear n0_ n1_ n2_ n3_; (try clear hb); (try clear hb2); (try clear hk); (try clear hi); (try clear A7)))
 (try simp only [Act.put, pA, pB, pC])
 go_cut [46] (fun v46 wc => ∃ (kq : Nat) (x46_7 : Bool), v46 = .bool x46_7 ∧ Aside0 (isoglosslaw12_AliasKeys.j0 kq a0 t621 x46_7 a1_0 a1_1 t622 t623 t624 t625 t626 t627 = some r) ∧ Aside0 (kq ≤ k) ∧ Aside0 (wc.heap[gb619]? = some (.cells #[.string a1_0, .string a1_1] 58 (0, 0))) ∧ Aside0 (wc.heap[gb620]? = some (.cells #[.int .i64 a2_0, .int .i64 a2_1, .int .i64 a2_2, .int .i64 a2_3, .int .i64 a2_4, .int .i64 a2_5, .int .i64 a2_6] 52 (0, 0))) ∧ Aside0 (wc.heap[gb628]? = some (.cells #[.int .i64 t622, .string t623, .string t624, .string t625, .string t626, .string t627] 50 (0, 0))) ∧ Aside0 (Below w.heap.size w wc))
 case first =>
  have H := HC8.out
  clear HC8
  by_cases c22 : t630 = true
  ·
   subst c22
   have H1 : (if t632 = true then (if (t631.size : Int) = 17 then (if 0 ≤ 17 then (if 17 ≤ (t629.size : Int) then (isoglosslaw12_AliasKeys.j0 k a0 t621 ((t629.extract 0 17).toList != t631.toList) a1_0 a1_1 t622 t623 t624 t625 t626 t627) else (none)) else (none)) else (isoglosslaw12_AliasKeys.j0 k a0 t621 true a1_0 a1_1 t622 t623 t624 t625 t626 t627)) else (isoglosslaw12_AliasKeys.j0 k a0 t621 true a1_0 a1_1 t622 t623 t624 t625 t626 t627)) = some r := by rw [if_pos rfl] at H; exact H
   clear H
   have H := H1
   clear H1
   by_cases c23 : t632 = true
   ·
    subst c23
    have H1 : (if (t631.size : Int) = 17 then (if 0 ≤ 17 then (if 17 ≤ (t629.size : Int) then (isoglosslaw12_AliasKeys.j0 k a0 t621 ((t629.extract 0 17).toList != t631.toList) a1_0 a1_1 t622 t623 t624 t625 t626 t627) else (none)) else (none)) else (isoglosslaw12_AliasKeys.j0 k a0 t621 true a1_0 a1_1 t622 t623 t624 t625 t626 t627)) = some r := by rw [if_pos rfl] at H; exact H
    clear H
    have H := H1
    clear H1
    by_cases c24 : (t631.size : Int) = 17
    ·
     rw [if_pos c24] at H
     have c24b0 : ((t631.size : Int) == 17) = true := beq_iff_eq.mpr c24
     have c24b1 : ((t631.size : Int) != 17) = false := bne_eq_false_iff_eq.mpr c24
     clear c24
     (first | rw [c24b0] | (simp only [i64_w, i32_w]; rw [c24b0]) | rw [c24b2] | skip)
     by_cases c25 : 0 ≤ 17
     ·
      rw [if_pos c25] at H
      have c25b0 := eq_true c25
      have c25b1 : decide (0 ≤ 17) = true := decide_eq_true c25
      clear c25
      by_cases c26 : 17 ≤ (t629.size : Int)
      ·
       rw [if_pos c26] at H
       have c26b0 := eq_true c26
       have c26b1 : decide (17 ≤ (t629.size : Int)) = true := decide_eq_true c26
       clear c26
       have H' := ak H
       clear H
       go_wp2
       go_meet
       case rel => exact ⟨_, (((t629.extract 0 17).toList != t631.toList)), (by first | rfl | (simp; done) | (simp [*]; done)), H', ⟨by first | omega | exact Nat.le_refl _⟩, ⟨(bx BK619.out)⟩, ⟨(bx BK620.out)⟩, ⟨(bx BK628.out)⟩, ⟨bq⟩⟩
      ·
       rw [if_neg c26] at H
       exact absurd H (by simp)
     ·
      rw [if_neg c25] at H
      exact absurd H (by simp)
    ·
     rw [if_neg c24] at H
     have c24b0 : ((t631.size : Int) == 17) = false := beq_eq_false_iff_ne.mpr c24
     have c24b1 : ((t631.size : Int) != 17) = true := bne_iff_ne.mpr c24
     (first | rw [c24b0] | (simp only [i64_w, i32_w]; rw [c24b0]) | rw [c24b2] | skip)
     have H' := ak H
     clear H
     go_wp2
     go_meet
     case rel => exact ⟨_, (true), (by first | rfl | (simp; done) | (simp [*]; done)), H', ⟨by first | omega | exact Nat.le_refl _⟩, ⟨(bx BK619.out)⟩, ⟨(bx BK620.out)⟩, ⟨(bx BK628.out)⟩, ⟨bq⟩⟩
   ·
    replace c23 := Bool.eq_false_iff.mpr c23
    subst c23
    have H1 : (isoglosslaw12_AliasKeys.j0 k a0 t621 true a1_0 a1_1 t622 t623 t624 t625 t626 t627) = some r := by rw [if_neg (show ¬ (false = true) by decide)] at H; exact H
    clear H
    have H := H1
    clear H1
    have H' := ak H
    clear H
    go_wp2
    go_meet
    case rel => exact ⟨_, (true), (by first | rfl | (simp; done) | (simp [*]; done)), H', ⟨by first | omega | exact Nat.le_refl _⟩, ⟨(bx BK619.out)⟩, ⟨(bx BK620.out)⟩, ⟨(bx BK628.out)⟩, ⟨bq⟩⟩
  ·
   replace c22 := Bool.eq_false_iff.mpr c22
   subst c22
   have H1 : (isoglosslaw12_AliasKeys.j0 k a0 t621 false a1_0 a1_1 t622 t623 t624 t625 t626 t627) = some r := by rw [if_neg (show ¬ (false = true) by decide)] at H; exact H
   clear H
   have H := H1
   clear H1
   have H' := ak H
   clear H
   go_wp2
   go_meet
   case rel => exact ⟨_, (false), (by first | rfl | (simp; done) | (simp [*]; done)), H', ⟨by first | omega | exact Nat.le_refl _⟩, ⟨(bx BK619.out)⟩, ⟨(bx BK620.out)⟩, ⟨(bx BK628.out)⟩, ⟨bq⟩⟩
 case rest =>
  clear HC8
  try clear c1
  try clear c2
  try clear p2
  try clear c3
  try clear c10
  try clear c12
  try clear c16
  try clear c17
  try clear c22
  try clear c23
  try clear c24
  try clear c24b0
  try clear c24b1
  try clear c25
  try clear c25b0
  try clear c25b1
  try clear c26
  try clear c26b0
  try clear c26b1
  try clear hcz13_0
  try clear hcz13_1
  try clear hcz13_2
  try clear hcz13_3
  try clear hcz13_4
  try clear hcz13_5
  try clear hcz13_6
  try clear hcz18_0
  try clear hcz18_1
  try clear hcz18_2
  try clear hcz18_3
  try clear hcz18_4
  try clear hcz18_5
  try clear hcz20_0
  try clear hcz20_1
  try clear hcz20_2
  try clear hcz20_3
  try clear hcz20_4
  try clear hcz20_5
  try clear hfz13_0
  try clear hfz13_1
  try clear hfz13_2
  try clear hfz13_3
  try clear hfz13_4
  try clear hfz13_5
  try clear hfz13_6
  try clear hfz18_0
  try clear hfz18_1
  try clear hfz18_2
  try clear hfz18_3
  try clear hfz18_4
  try clear hfz18_5
  try clear hfz20_0
  try clear hfz20_1
  try clear hfz20_2
  try clear hfz20_3
  try clear hfz20_4
  try clear hfz20_5
  obtain ⟨kq, x46_7, rfl, HA, HJ7, BK619, BK620, BK628, HB⟩ := hcut
  cases kq with
  | zero => exact absurd HA.out (by simp [isoglosslaw12_AliasKeys.j0])
  | succ kj7 =>
   have H := HA.out
   clear HA
   simp only [isoglosslaw12_AliasKeys.j0] at H
   by_cases c27 : x46_7 = true
   ·
    subst c27
    have H1 : (some false) = some r := by rw [if_pos rfl] at H; exact H
    clear H
    have H := H1
    clear H1
    obtain rfl := Option.some.inj H
    go_wp2
    go_ret
    exact ⟨by first | rfl | (simp [errW_none, errW_some] <;> rfl) | (simp [*, errW_none, errW_some] <;> rfl), bq⟩
   ·
    replace c27 := Bool.eq_false_iff.mpr c27
    subst c27
    have H1 : (if t621 = true then ((isoglosslaw12_short.f a1_0).bind fun t633 => ((isoglosslaw12_short.f a1_1).bind fun t634 => ((isoglosslaw12_keys.f kj7 a0 t633 t634).bind fun t635 => (if t635 = true then ((isoglosslaw12_rest.f a0 9).bind fun t636 => ((isoglosslaw12_short.f a1_0).bind fun t637 => ((isoglosslaw12_short.f a1_1).bind fun t638 => ((isoglosslaw12_keys.f kj7 t636 t637 t638).bind fun t639 => (if t639 = true then ((isoglosslaw12_rest.f a0 9).bind fun t640 => ((isoglosslaw12_keys.f kj7 t640 t623 t624).bind fun t641 => (some t641))) else (some false)))))) else (some false))))) else (some false)) = some r := by rw [if_neg (show ¬ (false = true) by decide)] at H; exact H
    clear H
    have H := H1
    clear H1
    by_cases c28 : t621 = true
    ·
     subst c28
     have H1 : ((isoglosslaw12_short.f a1_0).bind fun t633 => ((isoglosslaw12_short.f a1_1).bind fun t634 => ((isoglosslaw12_keys.f kj7 a0 t633 t634).bind fun t635 => (if t635 = true then ((isoglosslaw12_rest.f a0 9).bind fun t636 => ((isoglosslaw12_short.f a1_0).bind fun t637 => ((isoglosslaw12_short.f a1_1).bind fun t638 => ((isoglosslaw12_keys.f kj7 t636 t637 t638).bind fun t639 => (if t639 = true then ((isoglosslaw12_rest.f a0 9).bind fun t640 => ((isoglosslaw12_keys.f kj7 t640 t623 t624).bind fun t641 => (some t641))) else (some false)))))) else (some false))))) = some r := by rw [if_pos rfl] at H; exact H
     clear H
     have H := H1
     clear H1
     replace H := Option.bind_eq_some_iff.mp H
     obtain ⟨t633, A290, H⟩ := H
     have A29 := ak A290
     clear A290
     replace H := Option.bind_eq_some_iff.mp H
     obtain ⟨t634, A300, H⟩ := H
     have A30 := ak A300
     clear A300
     replace H := Option.bind_eq_some_iff.mp H
     obtain ⟨t635, A310, H⟩ := H
     have A31 := ak A310
     clear A310
     by_cases c32 : t635 = true
     ·
      subst c32
      have H1 : ((isoglosslaw12_rest.f a0 9).bind fun t636 => ((isoglosslaw12_short.f a1_0).bind fun t637 => ((isoglosslaw12_short.f a1_1).bind fun t638 => ((isoglosslaw12_keys.f kj7 t636 t637 t638).bind fun t639 => (if t639 = true then ((isoglosslaw12_rest.f a0 9).bind fun t640 => ((isoglosslaw12_keys.f kj7 t640 t623 t624).bind fun t641 => (some t641))) else (some false)))))) = some r := by rw [if_pos rfl] at H; exact H
      clear H
      have H := H1
      clear H1
      replace H := Option.bind_eq_some_iff.mp H
      obtain ⟨t636, A330, H⟩ := H
      have A33 := ak A330
      clear A330
      replace H := Option.bind_eq_some_iff.mp H
      obtain ⟨t637, A340, H⟩ := H
      have A34 := ak A340
      clear A340
      replace H := Option.bind_eq_some_iff.mp H
      obtain ⟨t638, A350, H⟩ := H
      have A35 := ak A350
      clear A350
      replace H := Option.bind_eq_some_iff.mp H
      obtain ⟨t639, A360, H⟩ := H
      have A36 := ak A360
      clear A360
      by_cases c37 : t639 = true
      ·
       subst c37
       have H1 : ((isoglosslaw12_rest.f a0 9).bind fun t640 => ((isoglosslaw12_keys.f kj7 t640 t623 t624).bind fun t641 => (some t641))) = some r := by rw [if_pos rfl] at H; exact H
       clear H
       have H := H1
       clear H1
       replace H := Option.bind_eq_some_iff.mp H
       obtain ⟨t640, A380, H⟩ := H
       have A38 := ak A380
       clear A380
       replace H := Option.bind_eq_some_iff.mp H
       obtain ⟨t641, A390, H⟩ := H
       have A39 := ak A390
       clear A390
       obtain rfl := Option.some.inj H
       try go_wp2
       have n0_ := ak (blk_drew BK619.out)
       have n1_ := ak (blk_drew BK620.out)
       have n2_ := ak (blk_drew BK628.out)
       have n3_ := ak (below_drew1 HB.out)
       clear BK619
       clear BK620
       clear BK628
       clear HB
       have BK619 := n0_
       have BK620 := n1_
       have BK628 := n2_
       have HB := n3_
       clear n0_ n1_ n2_ n3_
       refine start_ (n := 32) (S := fun w' => w'.cell? ⟨gb619, 0, none⟩ = some (.string a1_0) ∧ w'.cell? ⟨gb619, 1, none⟩ = some (.string a1_1) ∧ w'.cell? ⟨gb628, 0, none⟩ = some (.int .i64 t622) ∧ w'.cell? ⟨gb628, 1, none⟩ = some (.string t623) ∧ w'.cell? ⟨gb628, 2, none⟩ = some (.string t624) ∧ w'.cell? ⟨gb628, 3, none⟩ = some (.string t625) ∧ w'.cell? ⟨gb628, 4, none⟩ = some (.string t626) ∧ w'.cell? ⟨gb628, 5, none⟩ = some (.string t627)) (ds := []) #[false, false, false, false, false, false, false, false, false, false, false, false, false, false, false, false, false, false, false, false, false, false, false, false, false, false, false, false, false, false, false, false] (by kernel_rfl) rfl rfl ⟨(blk_cell BK619.out 0).trans rfl, (blk_cell BK619.out 1).trans rfl, (blk_cell BK628.out 0).trans rfl, (blk_cell BK628.out 1).trans rfl, (blk_cell BK628.out 2).trans rfl, (blk_cell BK628.out 3).trans rfl, (blk_cell BK628.out 4).trans rfl, (blk_cell BK628.out 5).trans rfl⟩ (fun hHeld => ?_); refine with_tabW isoglosslaw12_AliasKeys.tab7 isoglosslaw12_AliasKeys.bits7 (fun HT_ HW_ => ?_)
       generalize wc.drew = w40 at BK619 BK620 BK628 HB hHeld ⊢
       refine pu 0 (some 47) (M 32 1) ?_
       refine pu 1 (some 48) (M 32 3) ?_
       refine pu 2 (some 49) (M 32 7) ?_
       refine pu 3 (some 50) (M 32 15) ?_
       refine pu 6 (some 53) (M 32 79) ?_
       refine take_ (i := 4) (N := some 51) (v := ?_) (a' := ?_) (M 32 95) rfl rfl (take_ofW HT_.out HW_.out (by kernel_rfl)) (fun _ _ _ h => h) (Or.inl ⟨by rfl, ?_⟩) hHeld ?_ ?_
       rotate_left
       ·
        rintro w' ⟨s0, s1, s2, s3, s4, s5, s6, s7⟩
        go_simp
        with_reducible rfl
       rotate_left
       ·
        simp only [Act.put, pA, pB, pC, i64_w, i32_w]
        rfl
       refine take_ (i := 7) (N := some 54) (v := ?_) (a' := ?_) (M 32 223) rfl rfl (take_ofW HT_.out HW_.out (by kernel_rfl)) (fun _ _ _ h => h) (Or.inl ⟨by rfl, ?_⟩) hHeld ?_ ?_
       rotate_left
       ·
        rintro w' ⟨s0, s1, s2, s3, s4, s5, s6, s7⟩
        go_simp
        with_reducible rfl
       rotate_left
       ·
        simp only [Act.put, pA, pB, pC, i64_w, i32_w]
        rfl
       refine one_ (i := 5) (N := some 52) (M 32 255) rfl rfl (one_of HT_.out (by kernel_rfl)) (by decide) (fun K hK => ?_)
       refine goes_ Tryd.func39 (by kernel_rfl) rfl #[.string a1_0] (by rfl) rfl rfl mq ?_
       with_reducible refine (isoglosslaw12_short.calls a1_0 t633 _ A29.out).mono ?_
       rintro e w' ⟨rfl, ⟨nd, rfl⟩⟩
       refine ⟨_, rfl, ?_⟩
       refine hK.out _ _ ⟨(blk_cell BK619.out 0).trans rfl, (blk_cell BK619.out 1).trans rfl, (blk_cell BK628.out 0).trans rfl, (blk_cell BK628.out 1).trans rfl, (blk_cell BK628.out 2).trans rfl, (blk_cell BK628.out 3).trans rfl, (blk_cell BK628.out 4).trans rfl, (blk_cell BK628.out 5).trans rfl⟩ (fun hHeld => ?_)
       clear hK K
       refine norm_ (a' := ?_) ?_ ?_
       rotate_left
       ·
        show Act.put _ (some 52) _ = _
        simp only [Act.put, pA, pB, pC, i64_w, i32_w]
        rfl
       refine one_ (i := 8) (N := some 55) (M 32 511) rfl rfl (one_of HT_.out (by kernel_rfl)) (by decide) (fun K hK => ?_)
       refine goes_ Tryd.func39 (by kernel_rfl) rfl #[.string a1_1] (by rfl) rfl rfl mq ?_
       with_reducible refine (isoglosslaw12_short.calls a1_1 t634 _ A30.out).mono ?_
       rintro e w' ⟨rfl, ⟨nd, rfl⟩⟩
       refine ⟨_, rfl, ?_⟩
       refine hK.out _ _ ⟨(blk_cell BK619.out 0).trans rfl, (blk_cell BK619.out 1).trans rfl, (blk_cell BK628.out 0).trans rfl, (blk_cell BK628.out 1).trans rfl, (blk_cell BK628.out 2).trans rfl, (blk_cell BK628.out 3).trans rfl, (blk_cell BK628.out 4).trans rfl, (blk_cell BK628.out 5).trans rfl⟩ (fun hHeld => ?_)
       clear hK K
       refine norm_ (a' := ?_) ?_ ?_
       rotate_left
       ·
        show Act.put _ (some 55) _ = _
        simp only [Act.put, pA, pB, pC, i64_w, i32_w]
        rfl
       refine one_ (i := 9) (N := some 56) (M 32 1023) rfl rfl (one_of HT_.out (by kernel_rfl)) (by decide) (fun K hK => ?_)
       refine goes_ Tryd.func38 (by kernel_rfl) rfl #[.int .i64 a0, .string t633, .string t634] (by rfl) rfl rfl mq ?_
       with_reducible refine (isoglosslaw12_keys.calls kj7 a0 t633 t634 true _ A31.out HG.out.on).mono ?_
       rintro e w41 ⟨rfl, hb⟩
       refine ⟨_, rfl, ?_⟩
       have n0_ := ak (blk_below (g := gb619) (bx BK619.out) hb)
       have n1_ := ak (blk_below (g := gb620) (bx BK620.out) hb)
       have n2_ := ak (blk_below (g := gb628) (bx BK628.out) hb)
       have n3_ := ak (below_step bq hb)
       clear BK619
       clear BK620
       clear BK628
       clear HB
       have BK619 := n0_
       have BK620 := n1_
       have BK628 := n2_
       have HB := n3_
       clear n0_ n1_ n2_ n3_
       (try clear hb)
       (try clear hb2)
       (try clear hk)
       (try clear hi)
       refine hK.out _ _ ⟨(blk_cell BK619.out 0).trans rfl, (blk_cell BK619.out 1).trans rfl, (blk_cell BK628.out 0).trans rfl, (blk_cell BK628.out 1).trans rfl, (blk_cell BK628.out 2).trans rfl, (blk_cell BK628.out 3).trans rfl, (blk_cell BK628.out 4).trans rfl, (blk_cell BK628.out 5).trans rfl⟩ (fun hHeld => ?_)
       clear hK K
       refine norm_ (a' := ?_) ?_ ?_
       rotate_left
       ·
        show Act.put _ (some 56) _ = _
        simp only [Act.put, pA, pB, pC, i64_w, i32_w]
        rfl
       refine pu 10 (some 57) (M 32 2047) ?_
       refine pu 11 (some 58) (M 32 4095) ?_
       refine pu 12 (some 59) (M 32 8191) ?_
       refine pu 14 (some 61) (M 32 24575) ?_
       refine pu 17 (some 64) (M 32 155647) ?_
       refine take_ (i := 15) (N := some 62) (v := ?_) (a' := ?_) (M 32 188415) rfl rfl (take_ofW HT_.out HW_.out (by kernel_rfl)) (fun _ _ _ h => h) (Or.inl ⟨by rfl, ?_⟩) hHeld ?_ ?_
       rotate_left
       ·
        rintro w' ⟨s0, s1, s2, s3, s4, s5, s6, s7⟩
        go_simp
        with_reducible rfl
       rotate_left
       ·
        simp only [Act.put, pA, pB, pC, i64_w, i32_w]
        rfl
       refine take_ (i := 18) (N := some 65) (v := ?_) (a' := ?_) (M 32 450559) rfl rfl (take_ofW HT_.out HW_.out (by kernel_rfl)) (fun _ _ _ h => h) (Or.inl ⟨by rfl, ?_⟩) hHeld ?_ ?_
       rotate_left
       ·
        rintro w' ⟨s0, s1, s2, s3, s4, s5, s6, s7⟩
        go_simp
        with_reducible rfl
       rotate_left
       ·
        simp only [Act.put, pA, pB, pC, i64_w, i32_w]
        rfl
       refine one_ (i := 13) (N := some 60) (M 32 458751) rfl rfl (one_of HT_.out (by kernel_rfl)) (by decide) (fun K hK => ?_)
       refine goes_ Tryd.func32 (by kernel_rfl) rfl #[.int .i64 a0, .int .i64 9] (by rfl) rfl rfl mq ?_
       with_reducible refine (isoglosslaw12_rest.calls a0 9 t636 _ A33.out).mono ?_
       rintro e w' ⟨rfl, ⟨nd, rfl⟩⟩
       refine ⟨_, rfl, ?_⟩
       refine hK.out _ _ ⟨(blk_cell BK619.out 0).trans rfl, (blk_cell BK619.out 1).trans rfl, (blk_cell BK628.out 0).trans rfl, (blk_cell BK628.out 1).trans rfl, (blk_cell BK628.out 2).trans rfl, (blk_cell BK628.out 3).trans rfl, (blk_cell BK628.out 4).trans rfl, (blk_cell BK628.out 5).trans rfl⟩ (fun hHeld => ?_)
       clear hK K
       refine norm_ (a' := ?_) ?_ ?_
       rotate_left
       ·
        show Act.put _ (some 60) _ = _
        simp only [Act.put, pA, pB, pC, i64_w, i32_w]
        rfl
       refine one_ (i := 16) (N := some 63) (M 32 524287) rfl rfl (one_of HT_.out (by kernel_rfl)) (by decide) (fun K hK => ?_)
       refine goes_ Tryd.func39 (by kernel_rfl) rfl #[.string a1_0] (by rfl) rfl rfl mq ?_
       with_reducible refine (isoglosslaw12_short.calls a1_0 t637 _ A34.out).mono ?_
       rintro e w' ⟨rfl, ⟨nd, rfl⟩⟩
       refine ⟨_, rfl, ?_⟩
       refine hK.out _ _ ⟨(blk_cell BK619.out 0).trans rfl, (blk_cell BK619.out 1).trans rfl, (blk_cell BK628.out 0).trans rfl, (blk_cell BK628.out 1).trans rfl, (blk_cell BK628.out 2).trans rfl, (blk_cell BK628.out 3).trans rfl, (blk_cell BK628.out 4).trans rfl, (blk_cell BK628.out 5).trans rfl⟩ (fun hHeld => ?_)
       clear hK K
       refine norm_ (a' := ?_) ?_ ?_
       rotate_left
       ·
        show Act.put _ (some 63) _ = _
        simp only [Act.put, pA, pB, pC, i64_w, i32_w]
        rfl
       refine one_ (i := 19) (N := some 66) (M 32 1048575) rfl rfl (one_of HT_.out (by kernel_rfl)) (by decide) (fun K hK => ?_)
       refine goes_ Tryd.func39 (by kernel_rfl) rfl #[.string a1_1] (by rfl) rfl rfl mq ?_
       with_reducible refine (isoglosslaw12_short.calls a1_1 t638 _ A35.out).mono ?_
       rintro e w' ⟨rfl, ⟨nd, rfl⟩⟩
       refine ⟨_, rfl, ?_⟩
       refine hK.out _ _ ⟨(blk_cell BK619.out 0).trans rfl, (blk_cell BK619.out 1).trans rfl, (blk_cell BK628.out 0).trans rfl, (blk_cell BK628.out 1).trans rfl, (blk_cell BK628.out 2).trans rfl, (blk_cell BK628.out 3).trans rfl, (blk_cell BK628.out 4).trans rfl, (blk_cell BK628.out 5).trans rfl⟩ (fun hHeld => ?_)
       clear hK K
       refine norm_ (a' := ?_) ?_ ?_
       rotate_left
       ·
        show Act.put _ (some 66) _ = _
        simp only [Act.put, pA, pB, pC, i64_w, i32_w]
        rfl
       refine one_ (i := 20) (N := some 67) (M 32 2097151) rfl rfl (one_of HT_.out (by kernel_rfl)) (by decide) (fun K hK => ?_)
       refine goes_ Tryd.func38 (by kernel_rfl) rfl #[.int .i64 t636, .string t637, .string t638] (by rfl) rfl rfl mq ?_
       with_reducible refine (isoglosslaw12_keys.calls kj7 t636 t637 t638 true _ A36.out HG.out.on).mono ?_
       rintro e w42 ⟨rfl, hb⟩
       refine ⟨_, rfl, ?_⟩
       have n0_ := ak (blk_below (g := gb619) (bx BK619.out) hb)
       have n1_ := ak (blk_below (g := gb620) (bx BK620.out) hb)
       have n2_ := ak (blk_below (g := gb628) (bx BK628.out) hb)
       have n3_ := ak (below_step bq hb)
       clear BK619
       clear BK620
       clear BK628
       clear HB
       have BK619 := n0_
       have BK620 := n1_
       have BK628 := n2_
       have HB := n3_
       clear n0_ n1_ n2_ n3_
       (try clear hb)
       (try clear hb2)
       (try clear hk)
       (try clear hi)
       refine hK.out _ _ ⟨(blk_cell BK619.out 0).trans rfl, (blk_cell BK619.out 1).trans rfl, (blk_cell BK628.out 0).trans rfl, (blk_cell BK628.out 1).trans rfl, (blk_cell BK628.out 2).trans rfl, (blk_cell BK628.out 3).trans rfl, (blk_cell BK628.out 4).trans rfl, (blk_cell BK628.out 5).trans rfl⟩ (fun hHeld => ?_)
       clear hK K
       refine norm_ (a' := ?_) ?_ ?_
       rotate_left
       ·
        show Act.put _ (some 67) _ = _
        simp only [Act.put, pA, pB, pC, i64_w, i32_w]
        rfl
       refine pu 21 (some 68) (M 32 4194303) ?_
       refine pu 22 (some 69) (M 32 8388607) ?_
       refine pu 23 (some 70) (M 32 16777215) ?_
       refine pu 25 (some 72) (M 32 50331647) ?_
       refine pu 27 (some 74) (M 32 184549375) ?_
       refine take_ (i := 26) (N := some 73) (v := ?_) (a' := ?_) (M 32 251658239) rfl rfl (take_ofW HT_.out HW_.out (by kernel_rfl)) (fun _ _ _ h => h) (Or.inl ⟨by rfl, ?_⟩) hHeld ?_ ?_
       rotate_left
       ·
        rintro w' ⟨s0, s1, s2, s3, s4, s5, s6, s7⟩
        go_simp
        with_reducible rfl
       rotate_left
       ·
        simp only [Act.put, pA, pB, pC, i64_w, i32_w]
        rfl
       refine take_ (i := 28) (N := some 75) (v := ?_) (a' := ?_) (M 32 520093695) rfl rfl (take_ofW HT_.out HW_.out (by kernel_rfl)) (fun _ _ _ h => h) (Or.inl ⟨by rfl, ?_⟩) hHeld ?_ ?_
       rotate_left
       ·
        rintro w' ⟨s0, s1, s2, s3, s4, s5, s6, s7⟩
        go_simp
        with_reducible rfl
       rotate_left
       ·
        simp only [Act.put, pA, pB, pC, i64_w, i32_w]
        rfl
       refine one_ (i := 24) (N := some 71) (M 32 536870911) rfl rfl (one_of HT_.out (by kernel_rfl)) (by decide) (fun K hK => ?_)
       refine goes_ Tryd.func32 (by kernel_rfl) rfl #[.int .i64 a0, .int .i64 9] (by rfl) rfl rfl mq ?_
       with_reducible refine (isoglosslaw12_rest.calls a0 9 t640 _ A38.out).mono ?_
       rintro e w' ⟨rfl, ⟨nd, rfl⟩⟩
       refine ⟨_, rfl, ?_⟩
       refine hK.out _ _ ⟨(blk_cell BK619.out 0).trans rfl, (blk_cell BK619.out 1).trans rfl, (blk_cell BK628.out 0).trans rfl, (blk_cell BK628.out 1).trans rfl, (blk_cell BK628.out 2).trans rfl, (blk_cell BK628.out 3).trans rfl, (blk_cell BK628.out 4).trans rfl, (blk_cell BK628.out 5).trans rfl⟩ (fun hHeld => ?_)
       clear hK K
       refine norm_ (a' := ?_) ?_ ?_
       rotate_left
       ·
        show Act.put _ (some 71) _ = _
        simp only [Act.put, pA, pB, pC, i64_w, i32_w]
        rfl
       refine one_ (i := 29) (N := some 76) (M 32 1073741823) rfl rfl (one_of HT_.out (by kernel_rfl)) (by decide) (fun K hK => ?_)
       refine goes_ Tryd.func38 (by kernel_rfl) rfl #[.int .i64 t640, .string t623, .string t624] (by rfl) rfl rfl mq ?_
       with_reducible refine (isoglosslaw12_keys.calls kj7 t640 t623 t624 t641 _ A39.out HG.out.on).mono ?_
       rintro e w43 ⟨rfl, hb⟩
       refine ⟨_, rfl, ?_⟩
       have n0_ := ak (blk_below (g := gb619) (bx BK619.out) hb)
       have n1_ := ak (blk_below (g := gb620) (bx BK620.out) hb)
       have n2_ := ak (blk_below (g := gb628) (bx BK628.out) hb)
       have n3_ := ak (below_step bq hb)
       clear BK619
       clear BK620
       clear BK628
       clear HB
       have BK619 := n0_
       have BK620 := n1_
       have BK628 := n2_
       have HB := n3_
       clear n0_ n1_ n2_ n3_
       (try clear hb)
       (try clear hb2)
       (try clear hk)
       (try clear hi)
       refine hK.out _ _ ⟨(blk_cell BK619.out 0).trans rfl, (blk_cell BK619.out 1).trans rfl, (blk_cell BK628.out 0).trans rfl, (blk_cell BK628.out 1).trans rfl, (blk_cell BK628.out 2).trans rfl, (blk_cell BK628.out 3).trans rfl, (blk_cell BK628.out 4).trans rfl, (blk_cell BK628.out 5).trans rfl⟩ (fun hHeld => ?_)
       clear hK K
       refine norm_ (a' := ?_) ?_ ?_
       rotate_left
       ·
        show Act.put _ (some 76) _ = _
        simp only [Act.put, pA, pB, pC, i64_w, i32_w]
        rfl
       refine pu 30 (some 77) (M 32 2147483647) ?_
       refine pu 31 (some 6) (M 32 4294967295) ?_
       refine done_ (done_of HT_.out (by kernel_rfl)) ?_
       try go_wp2
       go_ret
       exact ⟨by first | rfl | (simp [errW_none, errW_some] <;> rfl) | (simp [*, errW_none, errW_some] <;> rfl), bq⟩
      ·
       replace c37 := Bool.eq_false_iff.mpr c37
       subst c37
       have H1 : (some false) = some r := by rw [if_neg (show ¬ (false = true) by decide)] at H; exact H
       clear H
       have H := H1
       clear H1
       obtain rfl := Option.some.inj H
       try go_wp2
       have n0_ := ak (blk_drew BK619.out)
       have n1_ := ak (blk_drew BK620.out)
       have n2_ := ak (blk_drew BK628.out)
       have n3_ := ak (below_drew1 HB.out)
       clear BK619
       clear BK620
       clear BK628
       clear HB
       have BK619 := n0_
       have BK620 := n1_
       have BK628 := n2_
       have HB := n3_
       clear n0_ n1_ n2_ n3_
       refine start_ (n := 32) (S := fun w' => w'.cell? ⟨gb619, 0, none⟩ = some (.string a1_0) ∧ w'.cell? ⟨gb619, 1, none⟩ = some (.string a1_1)) (ds := []) #[false, false, false, false, false, false, false, false, false, false, false, false, false, false, false, false, false, false, false, false, false, false, false, false, false, false, false, false, false, false, false, false] (by kernel_rfl) rfl rfl ⟨(blk_cell BK619.out 0).trans rfl, (blk_cell BK619.out 1).trans rfl⟩ (fun hHeld => ?_); refine with_tabW isoglosslaw12_AliasKeys.tab7 isoglosslaw12_AliasKeys.bits7 (fun HT_ HW_ => ?_)
       generalize wc.drew = w44 at BK619 BK620 BK628 HB hHeld ⊢
       refine pu 0 (some 47) (M 32 1) ?_
       refine pu 1 (some 48) (M 32 3) ?_
       refine pu 2 (some 49) (M 32 7) ?_
       refine pu 3 (some 50) (M 32 15) ?_
       refine pu 6 (some 53) (M 32 79) ?_
       refine take_ (i := 4) (N := some 51) (v := ?_) (a' := ?_) (M 32 95) rfl rfl (take_ofW HT_.out HW_.out (by kernel_rfl)) (fun _ _ _ h => h) (Or.inl ⟨by rfl, ?_⟩) hHeld ?_ ?_
       rotate_left
       ·
        rintro w' ⟨s0, s1⟩
        go_simp
        with_reducible rfl
       rotate_left
       ·
        simp only [Act.put, pA, pB, pC, i64_w, i32_w]
        rfl
       refine take_ (i := 7) (N := some 54) (v := ?_) (a' := ?_) (M 32 223) rfl rfl (take_ofW HT_.out HW_.out (by kernel_rfl)) (fun _ _ _ h => h) (Or.inl ⟨by rfl, ?_⟩) hHeld ?_ ?_
       rotate_left
       ·
        rintro w' ⟨s0, s1⟩
        go_simp
        with_reducible rfl
       rotate_left
       ·
        simp only [Act.put, pA, pB, pC, i64_w, i32_w]
        rfl
       refine one_ (i := 5) (N := some 52) (M 32 255) rfl rfl (one_of HT_.out (by kernel_rfl)) (by decide) (fun K hK => ?_)
       refine goes_ Tryd.func39 (by kernel_rfl) rfl #[.string a1_0] (by rfl) rfl rfl mq ?_
       with_reducible refine (isoglosslaw12_short.calls a1_0 t633 _ A29.out).mono ?_
       rintro e w' ⟨rfl, ⟨nd, rfl⟩⟩
       refine ⟨_, rfl, ?_⟩
       refine hK.out _ _ ⟨(blk_cell BK619.out 0).trans rfl, (blk_cell BK619.out 1).trans rfl⟩ (fun hHeld => ?_)
       clear hK K
       refine norm_ (a' := ?_) ?_ ?_
       rotate_left
       ·
        show Act.put _ (some 52) _ = _
        simp only [Act.put, pA, pB, pC, i64_w, i32_w]
        rfl
       refine one_ (i := 8) (N := some 55) (M 32 511) rfl rfl (one_of HT_.out (by kernel_rfl)) (by decide) (fun K hK => ?_)
       refine goes_ Tryd.func39 (by kernel_rfl) rfl #[.string a1_1] (by rfl) rfl rfl mq ?_
       with_reducible refine (isoglosslaw12_short.calls a1_1 t634 _ A30.out).mono ?_
       rintro e w' ⟨rfl, ⟨nd, rfl⟩⟩
       refine ⟨_, rfl, ?_⟩
       refine hK.out _ _ ⟨(blk_cell BK619.out 0).trans rfl, (blk_cell BK619.out 1).trans rfl⟩ (fun hHeld => ?_)
       clear hK K
       refine norm_ (a' := ?_) ?_ ?_
       rotate_left
       ·
        show Act.put _ (some 55) _ = _
        simp only [Act.put, pA, pB, pC, i64_w, i32_w]
        rfl
       refine one_ (i := 9) (N := some 56) (M 32 1023) rfl rfl (one_of HT_.out (by kernel_rfl)) (by decide) (fun K hK => ?_)
       refine goes_ Tryd.func38 (by kernel_rfl) rfl #[.int .i64 a0, .string t633, .string t634] (by rfl) rfl rfl mq ?_
       with_reducible refine (isoglosslaw12_keys.calls kj7 a0 t633 t634 true _ A31.out HG.out.on).mono ?_
       rintro e w45 ⟨rfl, hb⟩
       refine ⟨_, rfl, ?_⟩
       have n0_ := ak (blk_below (g := gb619) (bx BK619.out) hb)
       have n1_ := ak (blk_below (g := gb620) (bx BK620.out) hb)
       have n2_ := ak (blk_below (g := gb628) (bx BK628.out) hb)
       have n3_ := ak (below_step bq hb)
       clear BK619
       clear BK620
       clear BK628
       clear HB
       have BK619 := n0_
       have BK620 := n1_
       have BK628 := n2_
       have HB := n3_
       clear n0_ n1_ n2_ n3_
       (try clear hb)
       (try clear hb2)
       (try clear hk)
       (try clear hi)
       refine hK.out _ _ ⟨(blk_cell BK619.out 0).trans rfl, (blk_cell BK619.out 1).trans rfl⟩ (fun hHeld => ?_)
       clear hK K
       refine norm_ (a' := ?_) ?_ ?_
       rotate_left
       ·
        show Act.put _ (some 56) _ = _
        simp only [Act.put, pA, pB, pC, i64_w, i32_w]
        rfl
       refine pu 10 (some 57) (M 32 2047) ?_
       refine pu 11 (some 58) (M 32 4095) ?_
       refine pu 12 (some 59) (M 32 8191) ?_
       refine pu 14 (some 61) (M 32 24575) ?_
       refine pu 17 (some 64) (M 32 155647) ?_
       refine take_ (i := 15) (N := some 62) (v := ?_) (a' := ?_) (M 32 188415) rfl rfl (take_ofW HT_.out HW_.out (by kernel_rfl)) (fun _ _ _ h => h) (Or.inl ⟨by rfl, ?_⟩) hHeld ?_ ?_
       rotate_left
       ·
        rintro w' ⟨s0, s1⟩
        go_simp
        with_reducible rfl
       rotate_left
       ·
        simp only [Act.put, pA, pB, pC, i64_w, i32_w]
        rfl
       refine take_ (i := 18) (N := some 65) (v := ?_) (a' := ?_) (M 32 450559) rfl rfl (take_ofW HT_.out HW_.out (by kernel_rfl)) (fun _ _ _ h => h) (Or.inl ⟨by rfl, ?_⟩) hHeld ?_ ?_
       rotate_left
       ·
        rintro w' ⟨s0, s1⟩
        go_simp
        with_reducible rfl
       rotate_left
       ·
        simp only [Act.put, pA, pB, pC, i64_w, i32_w]
        rfl
       refine one_ (i := 13) (N := some 60) (M 32 458751) rfl rfl (one_of HT_.out (by kernel_rfl)) (by decide) (fun K hK => ?_)
       refine goes_ Tryd.func32 (by kernel_rfl) rfl #[.int .i64 a0, .int .i64 9] (by rfl) rfl rfl mq ?_
       with_reducible refine (isoglosslaw12_rest.calls a0 9 t636 _ A33.out).mono ?_
       rintro e w' ⟨rfl, ⟨nd, rfl⟩⟩
       refine ⟨_, rfl, ?_⟩
       refine hK.out _ _ ⟨(blk_cell BK619.out 0).trans rfl, (blk_cell BK619.out 1).trans rfl⟩ (fun hHeld => ?_)
       clear hK K
       refine norm_ (a' := ?_) ?_ ?_
       rotate_left
       ·
        show Act.put _ (some 60) _ = _
        simp only [Act.put, pA, pB, pC, i64_w, i32_w]
        rfl
       refine one_ (i := 16) (N := some 63) (M 32 524287) rfl rfl (one_of HT_.out (by kernel_rfl)) (by decide) (fun K hK => ?_)
       refine goes_ Tryd.func39 (by kernel_rfl) rfl #[.string a1_0] (by rfl) rfl rfl mq ?_
       with_reducible refine (isoglosslaw12_short.calls a1_0 t637 _ A34.out).mono ?_
       rintro e w' ⟨rfl, ⟨nd, rfl⟩⟩
       refine ⟨_, rfl, ?_⟩
       refine hK.out _ _ ⟨(blk_cell BK619.out 0).trans rfl, (blk_cell BK619.out 1).trans rfl⟩ (fun hHeld => ?_)
       clear hK K
       refine norm_ (a' := ?_) ?_ ?_
       rotate_left
       ·
        show Act.put _ (some 63) _ = _
        simp only [Act.put, pA, pB, pC, i64_w, i32_w]
        rfl
       refine one_ (i := 19) (N := some 66) (M 32 1048575) rfl rfl (one_of HT_.out (by kernel_rfl)) (by decide) (fun K hK => ?_)
       refine goes_ Tryd.func39 (by kernel_rfl) rfl #[.string a1_1] (by rfl) rfl rfl mq ?_
       with_reducible refine (isoglosslaw12_short.calls a1_1 t638 _ A35.out).mono ?_
       rintro e w' ⟨rfl, ⟨nd, rfl⟩⟩
       refine ⟨_, rfl, ?_⟩
       refine hK.out _ _ ⟨(blk_cell BK619.out 0).trans rfl, (blk_cell BK619.out 1).trans rfl⟩ (fun hHeld => ?_)
       clear hK K
       refine norm_ (a' := ?_) ?_ ?_
       rotate_left
       ·
        show Act.put _ (some 66) _ = _
        simp only [Act.put, pA, pB, pC, i64_w, i32_w]
        rfl
       refine one_ (i := 20) (N := some 67) (M 32 2097151) rfl rfl (one_of HT_.out (by kernel_rfl)) (by decide) (fun K hK => ?_)
       refine goes_ Tryd.func38 (by kernel_rfl) rfl #[.int .i64 t636, .string t637, .string t638] (by rfl) rfl rfl mq ?_
       with_reducible refine (isoglosslaw12_keys.calls kj7 t636 t637 t638 false _ A36.out HG.out.on).mono ?_
       rintro e w46 ⟨rfl, hb⟩
       refine ⟨_, rfl, ?_⟩
       have n0_ := ak (blk_below (g := gb619) (bx BK619.out) hb)
       have n1_ := ak (blk_below (g := gb620) (bx BK620.out) hb)
       have n2_ := ak (blk_below (g := gb628) (bx BK628.out) hb)
       have n3_ := ak (below_step bq hb)
       clear BK619
       clear BK620
       clear BK628
       clear HB
       have BK619 := n0_
       have BK620 := n1_
       have BK628 := n2_
       have HB := n3_
       clear n0_ n1_ n2_ n3_
       (try clear hb)
       (try clear hb2)
       (try clear hk)
       (try clear hi)
       refine hK.out _ _ ⟨(blk_cell BK619.out 0).trans rfl, (blk_cell BK619.out 1).trans rfl⟩ (fun hHeld => ?_)
       clear hK K
       refine norm_ (a' := ?_) ?_ ?_
       rotate_left
       ·
        show Act.put _ (some 67) _ = _
        simp only [Act.put, pA, pB, pC, i64_w, i32_w]
        rfl
       refine pu 21 (some 68) (M 32 4194303) ?_
       refine pu 22 (some 69) (M 32 8388607) ?_
       refine pn 23 (some 70) (M 32 16777215) ?_
       refine pn 24 (some 71) (M 32 33554431) ?_
       refine pn 25 (some 72) (M 32 67108863) ?_
       refine pn 26 (some 73) (M 32 134217727) ?_
       refine pn 27 (some 74) (M 32 268435455) ?_
       refine pn 28 (some 75) (M 32 536870911) ?_
       refine pn 29 (some 76) (M 32 1073741823) ?_
       refine pu 30 (some 77) (M 32 2147483647) ?_
       refine pu 31 (some 6) (M 32 4294967295) ?_
       refine done_ (done_of HT_.out (by kernel_rfl)) ?_
       try go_wp2
       go_ret
       exact ⟨by first | rfl | (simp [errW_none, errW_some] <;> rfl) | (simp [*, errW_none, errW_some] <;> rfl), bq⟩
     ·
      replace c32 := Bool.eq_false_iff.mpr c32
      subst c32
      have H1 : (some false) = some r := by rw [if_neg (show ¬ (false = true) by decide)] at H; exact H
      clear H
      have H := H1
      clear H1
      obtain rfl := Option.some.inj H
      try go_wp2
      have n0_ := ak (blk_drew BK619.out)
      have n1_ := ak (blk_drew BK620.out)
      have n2_ := ak (blk_drew BK628.out)
      have n3_ := ak (below_drew1 HB.out)
      clear BK619
      clear BK620
      clear BK628
      clear HB
      have BK619 := n0_
      have BK620 := n1_
      have BK628 := n2_
      have HB := n3_
      clear n0_ n1_ n2_ n3_
      refine start_ (n := 32) (S := fun w' => w'.cell? ⟨gb619, 0, none⟩ = some (.string a1_0) ∧ w'.cell? ⟨gb619, 1, none⟩ = some (.string a1_1)) (ds := []) #[false, false, false, false, false, false, false, false, false, false, false, false, false, false, false, false, false, false, false, false, false, false, false, false, false, false, false, false, false, false, false, false] (by kernel_rfl) rfl rfl ⟨(blk_cell BK619.out 0).trans rfl, (blk_cell BK619.out 1).trans rfl⟩ (fun hHeld => ?_); refine with_tabW isoglosslaw12_AliasKeys.tab7 isoglosslaw12_AliasKeys.bits7 (fun HT_ HW_ => ?_)
      generalize wc.drew = w47 at BK619 BK620 BK628 HB hHeld ⊢
      refine pu 0 (some 47) (M 32 1) ?_
      refine pu 1 (some 48) (M 32 3) ?_
      refine pu 2 (some 49) (M 32 7) ?_
      refine pu 3 (some 50) (M 32 15) ?_
      refine pu 6 (some 53) (M 32 79) ?_
      refine take_ (i := 4) (N := some 51) (v := ?_) (a' := ?_) (M 32 95) rfl rfl (take_ofW HT_.out HW_.out (by kernel_rfl)) (fun _ _ _ h => h) (Or.inl ⟨by rfl, ?_⟩) hHeld ?_ ?_
      rotate_left
      ·
       rintro w' ⟨s0, s1⟩
       go_simp
       with_reducible rfl
      rotate_left
      ·
       simp only [Act.put, pA, pB, pC, i64_w, i32_w]
       rfl
      refine take_ (i := 7) (N := some 54) (v := ?_) (a' := ?_) (M 32 223) rfl rfl (take_ofW HT_.out HW_.out (by kernel_rfl)) (fun _ _ _ h => h) (Or.inl ⟨by rfl, ?_⟩) hHeld ?_ ?_
      rotate_left
      ·
       rintro w' ⟨s0, s1⟩
       go_simp
       with_reducible rfl
      rotate_left
      ·
       simp only [Act.put, pA, pB, pC, i64_w, i32_w]
       rfl
      refine one_ (i := 5) (N := some 52) (M 32 255) rfl rfl (one_of HT_.out (by kernel_rfl)) (by decide) (fun K hK => ?_)
      refine goes_ Tryd.func39 (by kernel_rfl) rfl #[.string a1_0] (by rfl) rfl rfl mq ?_
      with_reducible refine (isoglosslaw12_short.calls a1_0 t633 _ A29.out).mono ?_
      rintro e w' ⟨rfl, ⟨nd, rfl⟩⟩
      refine ⟨_, rfl, ?_⟩
      refine hK.out _ _ ⟨(blk_cell BK619.out 0).trans rfl, (blk_cell BK619.out 1).trans rfl⟩ (fun hHeld => ?_)
      clear hK K
      refine norm_ (a' := ?_) ?_ ?_
      rotate_left
      ·
       show Act.put _ (some 52) _ = _
       simp only [Act.put, pA, pB, pC, i64_w, i32_w]
       rfl
      refine one_ (i := 8) (N := some 55) (M 32 511) rfl rfl (one_of HT_.out (by kernel_rfl)) (by decide) (fun K hK => ?_)
      refine goes_ Tryd.func39 (by kernel_rfl) rfl #[.string a1_1] (by rfl) rfl rfl mq ?_
      with_reducible refine (isoglosslaw12_short.calls a1_1 t634 _ A30.out).mono ?_
      rintro e w' ⟨rfl, ⟨nd, rfl⟩⟩
      refine ⟨_, rfl, ?_⟩
      refine hK.out _ _ ⟨(blk_cell BK619.out 0).trans rfl, (blk_cell BK619.out 1).trans rfl⟩ (fun hHeld => ?_)
      clear hK K
      refine norm_ (a' := ?_) ?_ ?_
      rotate_left
      ·
       show Act.put _ (some 55) _ = _
       simp only [Act.put, pA, pB, pC, i64_w, i32_w]
       rfl
      refine one_ (i := 9) (N := some 56) (M 32 1023) rfl rfl (one_of HT_.out (by kernel_rfl)) (by decide) (fun K hK => ?_)
      refine goes_ Tryd.func38 (by kernel_rfl) rfl #[.int .i64 a0, .string t633, .string t634] (by rfl) rfl rfl mq ?_
      with_reducible refine (isoglosslaw12_keys.calls kj7 a0 t633 t634 false _ A31.out HG.out.on).mono ?_
      rintro e w48 ⟨rfl, hb⟩
      refine ⟨_, rfl, ?_⟩
      have n0_ := ak (blk_below (g := gb619) (bx BK619.out) hb)
      have n1_ := ak (blk_below (g := gb620) (bx BK620.out) hb)
      have n2_ := ak (blk_below (g := gb628) (bx BK628.out) hb)
      have n3_ := ak (below_step bq hb)
      clear BK619
      clear BK620
      clear BK628
      clear HB
      have BK619 := n0_
      have BK620 := n1_
      have BK628 := n2_
      have HB := n3_
      clear n0_ n1_ n2_ n3_
      (try clear hb)
      (try clear hb2)
      (try clear hk)
      (try clear hi)
      refine hK.out _ _ ⟨(blk_cell BK619.out 0).trans rfl, (blk_cell BK619.out 1).trans rfl⟩ (fun hHeld => ?_)
      clear hK K
      refine norm_ (a' := ?_) ?_ ?_
      rotate_left
      ·
       show Act.put _ (some 56) _ = _
       simp only [Act.put, pA, pB, pC, i64_w, i32_w]
       rfl
      refine pu 10 (some 57) (M 32 2047) ?_
      refine pu 11 (some 58) (M 32 4095) ?_
      refine pn 12 (some 59) (M 32 8191) ?_
      refine pn 13 (some 60) (M 32 16383) ?_
      refine pn 14 (some 61) (M 32 32767) ?_
      refine pn 15 (some 62) (M 32 65535) ?_
      refine pn 16 (some 63) (M 32 131071) ?_
      refine pn 17 (some 64) (M 32 262143) ?_
      refine pn 18 (some 65) (M 32 524287) ?_
      refine pn 19 (some 66) (M 32 1048575) ?_
      refine pn 20 (some 67) (M 32 2097151) ?_
      refine pu 21 (some 68) (M 32 4194303) ?_
      refine pu 22 (some 69) (M 32 8388607) ?_
      refine pn 23 (some 70) (M 32 16777215) ?_
      refine pn 24 (some 71) (M 32 33554431) ?_
      refine pn 25 (some 72) (M 32 67108863) ?_
      refine pn 26 (some 73) (M 32 134217727) ?_
      refine pn 27 (some 74) (M 32 268435455) ?_
      refine pn 28 (some 75) (M 32 536870911) ?_
      refine pn 29 (some 76) (M 32 1073741823) ?_
      refine pu 30 (some 77) (M 32 2147483647) ?_
      refine pu 31 (some 6) (M 32 4294967295) ?_
      refine done_ (done_of HT_.out (by kernel_rfl)) ?_
      try go_wp2
      go_ret
      exact ⟨by first | rfl | (simp [errW_none, errW_some] <;> rfl) | (simp [*, errW_none, errW_some] <;> rfl), bq⟩
    ·
     replace c28 := Bool.eq_false_iff.mpr c28
     subst c28
     have H1 : (some false) = some r := by rw [if_neg (show ¬ (false = true) by decide)] at H; exact H
     clear H
     have H := H1
     clear H1
     obtain rfl := Option.some.inj H
     try go_wp2
     have n0_ := ak (blk_drew BK619.out)
     have n1_ := ak (blk_drew BK620.out)
     have n2_ := ak (blk_drew BK628.out)
     have n3_ := ak (below_drew1 HB.out)
     clear BK619
     clear BK620
     clear BK628
     clear HB
     have BK619 := n0_
     have BK620 := n1_
     have BK628 := n2_
     have HB := n3_
     clear n0_ n1_ n2_ n3_
     refine start_ (n := 32) (S := fun w' => True) (ds := []) #[false, false, false, false, false, false, false, false, false, false, false, false, false, false, false, false, false, false, false, false, false, false, false, false, false, false, false, false, false, false, false, false] (by kernel_rfl) rfl rfl trivial (fun hHeld => ?_); refine with_tabW isoglosslaw12_AliasKeys.tab7 isoglosslaw12_AliasKeys.bits7 (fun HT_ HW_ => ?_)
     generalize wc.drew = w49 at BK619 BK620 BK628 HB hHeld ⊢
     refine pu 0 (some 47) (M 32 1) ?_
     refine pu 1 (some 48) (M 32 3) ?_
     refine pn 2 (some 49) (M 32 7) ?_
     refine pn 3 (some 50) (M 32 15) ?_
     refine pn 4 (some 51) (M 32 31) ?_
     refine pn 5 (some 52) (M 32 63) ?_
     refine pn 6 (some 53) (M 32 127) ?_
     refine pn 7 (some 54) (M 32 255) ?_
     refine pn 8 (some 55) (M 32 511) ?_
     refine pn 9 (some 56) (M 32 1023) ?_
     refine pu 10 (some 57) (M 32 2047) ?_
     refine pu 11 (some 58) (M 32 4095) ?_
     refine pn 12 (some 59) (M 32 8191) ?_
     refine pn 13 (some 60) (M 32 16383) ?_
     refine pn 14 (some 61) (M 32 32767) ?_
     refine pn 15 (some 62) (M 32 65535) ?_
     refine pn 16 (some 63) (M 32 131071) ?_
     refine pn 17 (some 64) (M 32 262143) ?_
     refine pn 18 (some 65) (M 32 524287) ?_
     refine pn 19 (some 66) (M 32 1048575) ?_
     refine pn 20 (some 67) (M 32 2097151) ?_
     refine pu 21 (some 68) (M 32 4194303) ?_
     refine pu 22 (some 69) (M 32 8388607) ?_
     refine pn 23 (some 70) (M 32 16777215) ?_
     refine pn 24 (some 71) (M 32 33554431) ?_
     refine pn 25 (some 72) (M 32 67108863) ?_
     refine pn 26 (some 73) (M 32 134217727) ?_
     refine pn 27 (some 74) (M 32 268435455) ?_
     refine pn 28 (some 75) (M 32 536870911) ?_
     refine pn 29 (some 76) (M 32 1073741823) ?_
     refine pu 30 (some 77) (M 32 2147483647) ?_
     refine pu 31 (some 6) (M 32 4294967295) ?_
     refine done_ (done_of HT_.out (by kernel_rfl)) ?_
     try go_wp2
     go_ret
     exact ⟨by first | rfl | (simp [errW_none, errW_some] <;> rfl) | (simp [*, errW_none, errW_some] <;> rfl), bq⟩

def isoglosslaw12_AliasKeys.Pure : Prop := ∀ (a0 : Int) (a1_0 : ByteArray) (a1_1 : ByteArray) (a2_0 : Int) (a2_1 : Int) (a2_2 : Int) (a2_3 : Int) (a2_4 : Int) (a2_5 : Int) (a2_6 : Int), (Lit.int .i64 a0).wf = true → a1_0.size ≤ maxLen → a1_1.size ≤ maxLen → (Lit.int .i64 a2_0).wf = true → (Lit.int .i64 a2_1).wf = true → (Lit.int .i64 a2_2).wf = true → (Lit.int .i64 a2_3).wf = true → (Lit.int .i64 a2_4).wf = true → (Lit.int .i64 a2_5).wf = true → (Lit.int .i64 a2_6).wf = true → ∃ k, isoglosslaw12_AliasKeys.f k a0 a1_0 a1_1 a2_0 a2_1 a2_2 a2_3 a2_4 a2_5 a2_6 = some true
theorem isoglosslaw12_AliasKeys.walk (P : isoglosslaw12_AliasKeys.Pure) (a0 : Int) (a1_0 : ByteArray) (a1_1 : ByteArray) (a2_0 : Int) (a2_1 : Int) (a2_2 : Int) (a2_3 : Int) (a2_4 : Int) (a2_5 : Int) (a2_6 : Int) (w : World) (w0 : (Lit.int .i64 a0).wf = true) (w1_0 : a1_0.size ≤ maxLen) (w1_1 : a1_1.size ≤ maxLen) (w2_0 : (Lit.int .i64 a2_0).wf = true) (w2_1 : (Lit.int .i64 a2_1).wf = true) (w2_2 : (Lit.int .i64 a2_2).wf = true) (w2_3 : (Lit.int .i64 a2_3).wf = true) (w2_4 : (Lit.int .i64 a2_4).wf = true) (w2_5 : (Lit.int .i64 a2_5).wf = true) (w2_6 : (Lit.int .i64 a2_6).wf = true) (hG : GrandW.G w) :
  Calls Tryd.prog 10 #[.int .i64 a0, .agg #[.string a1_0, .string a1_1], .agg #[.int .i64 a2_0, .int .i64 a2_1, .int .i64 a2_2, .int .i64 a2_3, .int .i64 a2_4, .int .i64 a2_5, .int .i64 a2_6]] w fun e w' => e = .returned (.bool true) ∧ Below w.heap.size w w' := by
 obtain ⟨k, h⟩ := P a0 a1_0 a1_1 a2_0 a2_1 a2_2 a2_3 a2_4 a2_5 a2_6 w0 w1_0 w1_1 w2_0 w2_1 w2_2 w2_3 w2_4 w2_5 w2_6
 refine (isoglosslaw12_AliasKeys.calls k a0 a1_0 a1_1 a2_0 a2_1 a2_2 a2_3 a2_4 a2_5 a2_6 true w h hG).mono ?_
 rintro e w' ⟨rfl, hd⟩
 exact ⟨rfl, hd⟩

end Go.Proofs.YtmbfnbnlajchmaaDoor.P
