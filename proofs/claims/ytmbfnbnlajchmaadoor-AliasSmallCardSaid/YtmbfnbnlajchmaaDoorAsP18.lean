/- Made by a program of this seat's own (myprint.py, round the kit's print): what the functions compute, and that they do. -/
import Derived.Test.YtmbfnbnlajchmaaDoorAsP0
import Derived.Test.YtmbfnbnlajchmaaDoorAsP1
import Derived.Test.YtmbfnbnlajchmaaDoorAsP5
import Derived.Test.YtmbfnbnlajchmaaDoorAsP10
import Derived.Test.YtmbfnbnlajchmaaDoorAsP11
import Derived.Test.YtmbfnbnlajchmaaDoorAsP16
import Derived.Test.YtmbfnbnlajchmaaDoorAsP17
import Derived.Test.YtmbfnbnlajchmaaDoorAsTight
namespace Go.Proofs.YtmbfnbnlajchmaaDoor.P
open Go.RowKit Go.Proofs.YtmbfnbnlajchmaaDoorW.PrintWords Go.Proofs.YtmbfnbnlajchmaaDoorW.PrintLast Go.Proofs.YtmbfnbnlajchmaaDoorW.PrintMore
attribute [local go_sem] StrOrd.binOp_gtr StrOrd.binOp_leq max2_int min2_int max_two min_two max_three min_three max_four min_four   -- for this text's walks alone
set_option linter.unusedVariables false
set_option linter.unusedSimpArgs false

attribute [local go_sem high] eqA50
def isoglosslaw12_AliasSmall.j0 : Nat → Bool → Int → ByteArray → ByteArray → ByteArray → ByteArray → ByteArray → Int → ByteArray → ByteArray → ByteArray → ByteArray → ByteArray → Option (Bool)
 | 0, _, _, _, _, _, _, _, _, _, _, _, _, _ => none
 | k + 1, x5, x587000, x587001, x587002, x587003, x587004, x587005, x588000, x588001, x588002, x588003, x588004, x588005 => if x5 = true then ((alias_Right.f k x587000 x587001 x587002 x587003 x587004 x587005).bind fun t594 => (if t594 = true then ((alias_Right.f k x588000 x588001 x588002 x588003 x588004 x588005).bind fun t595 => (some (t595 == (x587000 == x588000 && (x587001.toList == x588001.toList && (x587002.toList == x588002.toList && (x587003.toList == x588003.toList && (x587004.toList == x588004.toList && (x587005.toList == x588005.toList))))))))) else (some false))) else (some false)
def isoglosslaw12_AliasSmall.f (k : Nat) (a0_0 : Int) (a0_1 : Int) (a0_2 : Int) (a0_3 : Int) (a0_4 : Int) (a0_5 : Int) (a0_6 : Int) (a1 : Int) : Option (Bool) := (isoglosslaw12_awake.f k).bind fun t579 => ((isoglossref12_Made.f k a0_0 a0_1 a0_2 a0_3 a0_4 a0_5 0).bind fun bt580 => ((isoglosslaw12_rest.f a1 5).bind fun t588 => (if t588 = 0 then ((isoglossref02_Upper.f k bt580.2.1).bind fun t589 => (isoglosslaw12_AliasSmall.j0 k t579 bt580.1 bt580.2.1 bt580.2.2.1 bt580.2.2.2.1 bt580.2.2.2.2.1 bt580.2.2.2.2.2 bt580.1 t589 bt580.2.2.1 bt580.2.2.2.1 bt580.2.2.2.2.1 bt580.2.2.2.2.2)) else (if t588 = 1 then ((isoglossref02_Upper.f k bt580.2.2.1).bind fun t590 => (isoglosslaw12_AliasSmall.j0 k t579 bt580.1 bt580.2.1 bt580.2.2.1 bt580.2.2.2.1 bt580.2.2.2.2.1 bt580.2.2.2.2.2 bt580.1 bt580.2.1 t590 bt580.2.2.2.1 bt580.2.2.2.2.1 bt580.2.2.2.2.2)) else (if t588 = 2 then ((isoglossref02_Upper.f k bt580.2.2.2.1).bind fun t591 => (isoglosslaw12_AliasSmall.j0 k t579 bt580.1 bt580.2.1 bt580.2.2.1 bt580.2.2.2.1 bt580.2.2.2.2.1 bt580.2.2.2.2.2 bt580.1 bt580.2.1 bt580.2.2.1 t591 bt580.2.2.2.2.1 bt580.2.2.2.2.2)) else (if t588 = 3 then ((isoglossref02_Upper.f k bt580.2.2.2.2.1).bind fun t592 => (isoglosslaw12_AliasSmall.j0 k t579 bt580.1 bt580.2.1 bt580.2.2.1 bt580.2.2.2.1 bt580.2.2.2.2.1 bt580.2.2.2.2.2 bt580.1 bt580.2.1 bt580.2.2.1 bt580.2.2.2.1 t592 bt580.2.2.2.2.2)) else ((isoglossref02_Upper.f k bt580.2.2.2.2.2).bind fun t593 => (isoglosslaw12_AliasSmall.j0 k t579 bt580.1 bt580.2.1 bt580.2.2.1 bt580.2.2.2.1 bt580.2.2.2.2.1 bt580.2.2.2.2.2 bt580.1 bt580.2.1 bt580.2.2.1 bt580.2.2.2.1 bt580.2.2.2.2.1 t593))))))))
def isoglosslaw12_AliasSmall.T15 : Bool × List (List Nat × List Nat) := (true, [([], []), ([0], [0]), ([1], [1]), ([2, 1, 1], [1, 2]), ([1, 3], [1, 3]), ([4, 3], [4]), ([5], [5]), ([6, 5, 5], [5, 6]), ([5], [5]), ([5], [5]), ([8, 9, 5], [5, 8, 9]), ([7, 10, 5], [5, 7, 10]), ([5, 11], [5, 11]), ([12, 7, 0, 1, 2, 3, 4, 5, 6, 7, 8, 9, 10, 11, 12], [12])])
def isoglosslaw12_AliasSmall.B15 : List Nat := [0, 1, 3, 7, 15, 31, 63, 127, 63, 63, 831, 2047, 4095, 8191]
theorem isoglosslaw12_AliasSmall.tab15 : rtab .any (opsOf Tryd.f9 15) = isoglosslaw12_AliasSmall.T15 := by kernel_rfl
theorem isoglosslaw12_AliasSmall.bits15 : waitsOk isoglosslaw12_AliasSmall.T15.2 isoglosslaw12_AliasSmall.B15 = true := by kernel_rfl
set_option maxHeartbeats 8000000 in
set_option maxRecDepth 100000 in
theorem isoglosslaw12_AliasSmall.calls (k : Nat) (a0_0 : Int) (a0_1 : Int) (a0_2 : Int) (a0_3 : Int) (a0_4 : Int) (a0_5 : Int) (a0_6 : Int) (a1 : Int) (r : Bool) (w : World) (h : isoglosslaw12_AliasSmall.f k a0_0 a0_1 a0_2 a0_3 a0_4 a0_5 a0_6 a1 = some r) (hG : GrandW.G w) :
  Calls Tryd.prog 9 #[.agg #[.int .i64 a0_0, .int .i64 a0_1, .int .i64 a0_2, .int .i64 a0_3, .int .i64 a0_4, .int .i64 a0_5, .int .i64 a0_6], .int .i64 a1] w fun e w' => e = .returned (.bool r) ∧ Below w.heap.size w w' := by
 have HG := ak hG
 clear hG
 have hu52 := Tryd.underlying52
 have hu50 := Tryd.underlying50
 have HB := ak (Below.refl w.heap.size w)
 have H : ((isoglosslaw12_awake.f k).bind fun t579 => ((isoglossref12_Made.f k a0_0 a0_1 a0_2 a0_3 a0_4 a0_5 0).bind fun bt580 => ((isoglosslaw12_rest.f a1 5).bind fun t588 => (if t588 = 0 then ((isoglossref02_Upper.f k bt580.2.1).bind fun t589 => (isoglosslaw12_AliasSmall.j0 k t579 bt580.1 bt580.2.1 bt580.2.2.1 bt580.2.2.2.1 bt580.2.2.2.2.1 bt580.2.2.2.2.2 bt580.1 t589 bt580.2.2.1 bt580.2.2.2.1 bt580.2.2.2.2.1 bt580.2.2.2.2.2)) else (if t588 = 1 then ((isoglossref02_Upper.f k bt580.2.2.1).bind fun t590 => (isoglosslaw12_AliasSmall.j0 k t579 bt580.1 bt580.2.1 bt580.2.2.1 bt580.2.2.2.1 bt580.2.2.2.2.1 bt580.2.2.2.2.2 bt580.1 bt580.2.1 t590 bt580.2.2.2.1 bt580.2.2.2.2.1 bt580.2.2.2.2.2)) else (if t588 = 2 then ((isoglossref02_Upper.f k bt580.2.2.2.1).bind fun t591 => (isoglosslaw12_AliasSmall.j0 k t579 bt580.1 bt580.2.1 bt580.2.2.1 bt580.2.2.2.1 bt580.2.2.2.2.1 bt580.2.2.2.2.2 bt580.1 bt580.2.1 bt580.2.2.1 t591 bt580.2.2.2.2.1 bt580.2.2.2.2.2)) else (if t588 = 3 then ((isoglossref02_Upper.f k bt580.2.2.2.2.1).bind fun t592 => (isoglosslaw12_AliasSmall.j0 k t579 bt580.1 bt580.2.1 bt580.2.2.1 bt580.2.2.2.1 bt580.2.2.2.2.1 bt580.2.2.2.2.2 bt580.1 bt580.2.1 bt580.2.2.1 bt580.2.2.2.1 t592 bt580.2.2.2.2.2)) else ((isoglossref02_Upper.f k bt580.2.2.2.2.2).bind fun t593 => (isoglosslaw12_AliasSmall.j0 k t579 bt580.1 bt580.2.1 bt580.2.2.1 bt580.2.2.2.1 bt580.2.2.2.2.1 bt580.2.2.2.2.2 bt580.1 bt580.2.1 bt580.2.2.1 bt580.2.2.2.1 bt580.2.2.2.2.1 t593))))))))) = some r := h
 clear h
 replace H := Option.bind_eq_some_iff.mp H
 obtain ⟨t579, A30, H⟩ := H
 have A3 := ak A30
 clear A30
 replace H := Option.bind_eq_some_iff.mp H
 obtain ⟨⟨t580, t581, t582, t583, t584, t585⟩, A40, H⟩ := H
 replace H : ((isoglosslaw12_rest.f a1 5).bind fun t588 => (if t588 = 0 then ((isoglossref02_Upper.f k t581).bind fun t589 => (isoglosslaw12_AliasSmall.j0 k t579 t580 t581 t582 t583 t584 t585 t580 t589 t582 t583 t584 t585)) else (if t588 = 1 then ((isoglossref02_Upper.f k t582).bind fun t590 => (isoglosslaw12_AliasSmall.j0 k t579 t580 t581 t582 t583 t584 t585 t580 t581 t590 t583 t584 t585)) else (if t588 = 2 then ((isoglossref02_Upper.f k t583).bind fun t591 => (isoglosslaw12_AliasSmall.j0 k t579 t580 t581 t582 t583 t584 t585 t580 t581 t582 t591 t584 t585)) else (if t588 = 3 then ((isoglossref02_Upper.f k t584).bind fun t592 => (isoglosslaw12_AliasSmall.j0 k t579 t580 t581 t582 t583 t584 t585 t580 t581 t582 t583 t592 t585)) else ((isoglossref02_Upper.f k t585).bind fun t593 => (isoglosslaw12_AliasSmall.j0 k t579 t580 t581 t582 t583 t584 t585 t580 t581 t582 t583 t584 t593))))))) = some r := H
 have A4 := ak A40
 clear A40
 replace H := Option.bind_eq_some_iff.mp H
 obtain ⟨t588, A50, H⟩ := H
 have A5 := ak A50
 clear A50
 have HC6 := ak H
 clear H
 go_enter Tryd.func9, Tryd.ntmps9
 go_upto_block 0 with (first | ((with_reducible refine gate_dst (N := 2) rfl ?_); refine box_event ?hg (N := 2) ?hd (cs := #[.int .i64 a0_0, .int .i64 a0_1, .int .i64 a0_2, .int .i64 a0_3, .int .i64 a0_4, .int .i64 a0_5, .int .i64 a0_6]) (t := 52) ?hr ?_; (case hd => rfl); (case hg => rfl); (case hr => first | (go_simp; done) | (go_simp; rfl)); intro gb578 hg w7 hbox hb; have n0_ := ak (below_step bq hb); have n1_ := ak (hbox); have n2_ := ak ((by rw [hg]; exact (below_size bq) : w.heap.size ≤ gb578)); have n3_ := ak ((by rw [hg]; exact (below_size bq) : w.heap.size ≤ gb578)); clear HB; have HB := n0_; have BK578 := n1_; have GW578 := n2_; have GE578 := n3_; clear n0_ n1_ n2_ n3_; clear hb hbox hg) | ((with_reducible refine gate_callee (f := 30) rfl ?_); refine goesL_ (some 8) rfl rfl Tryd.func30 (by kernel_rfl) rfl #[] rfl mq ?_; (with_reducible refine (isoglosslaw12_awake.calls k  t579 _ A3.out HG.out.on).mono ?_); rintro e w8 ⟨rfl, hb⟩; refine ⟨_, rfl, ?_⟩; have n0_ := ak (blk_below (g := gb578) (bx BK578.out) hb); have n1_ := ak (below_step bq hb); clear BK578; clear HB; have BK578 := n0_; have HB := n1_; clear n0_ n1_; (try clear hb); (try clear hb2); (try clear hk); (try clear hi); obtain ⟨hcz9_0, hcz9_1, hcz9_2, hcz9_3, hcz9_4, hcz9_5, hcz9_6⟩ := cz7 BK578.out; obtain ⟨hfz9_0, hfz9_1, hfz9_2, hfz9_3, hfz9_4, hfz9_5, hfz9_6⟩ := fz7 BK578.out; (try clear A3)) | ((with_reducible refine gate_callee (f := 34) rfl ?_); refine goesL_ (some 11) rfl rfl Tryd.func34 (by kernel_rfl) rfl #[.agg #[.int .i64 a0_0, .int .i64 a0_1, .int .i64 a0_2, .int .i64 a0_3, .int .i64 a0_4, .int .i64 a0_5, .int .i64 0]] rfl mq ?_; (with_reducible refine (isoglossref12_Made.calls k a0_0 a0_1 a0_2 a0_3 a0_4 a0_5 0 t580 t581 t582 t583 t584 t585 _ A4.out).mono ?_); rintro e w10 ⟨rfl, hb⟩; refine ⟨_, rfl, ?_⟩; have n0_ := ak (blk_below (g := gb578) (o := .cells #[.int .i64 a0_0, .int .i64 a0_1, .int .i64 a0_2, .int .i64 a0_3, .int .i64 a0_4, .int .i64 a0_5, .int .i64 0] 52 (0, 0)) (bx (blk_put (cs := #[.int .i64 a0_0, .int .i64 a0_1, .int .i64 a0_2, .int .i64 a0_3, .int .i64 a0_4, .int .i64 a0_5, .int .i64 a0_6]) (bx BK578.out) 6 _ rfl)) hb); have n1_ := ak (below_step bq hb); clear BK578; clear HB; have BK578 := n0_; have HB := n1_; clear n0_ n1_; (try clear hb); (try clear hb2); (try clear hk); (try clear hi); (try clear A4)) | ((with_reducible refine gate_dst (N := 6) rfl ?_); refine box_event ?hg (N := 6) ?hd (cs := #[.int .i64 0, .string ⟨#[]⟩, .string ⟨#[]⟩, .string ⟨#[]⟩, .string ⟨#[]⟩, .string ⟨#[]⟩]) (t := 50) ?hr ?_; (case hd => rfl); (case hg => rfl); (case hr => first | (go_simp; done) | (go_simp; rfl)); intro gb586 hg w11 hbox hb; have n0_ := ak (blk_below (g := gb578) (bx BK578.out) hb); have n1_ := ak (below_step bq hb); have n2_ := ak (hbox); have n3_ := ak ((by rw [hg]; exact (below_size bq) : w.heap.size ≤ gb586)); have n4_ := ak ((by rw [hg]; exact (below_size bq) : w.heap.size ≤ gb586)); have n5_ := ak ((by rw [hg]; exact Nat.ne_of_lt (blk_lt (g := gb578) (bx BK578.out)) : gb578 ≠ gb586)); have n6_ := ak ((by rw [hg]; exact Nat.ne_of_gt (blk_lt (g := gb578) (bx BK578.out)) : gb586 ≠ gb578)); clear BK578; clear HB; have BK578 := n0_; have HB := n1_; have BK586 := n2_; have GW586 := n3_; have GE586 := n4_; have NB578_586 := n5_; have NB586_578 := n6_; clear n0_ n1_ n2_ n3_ n4_ n5_ n6_; clear hb hbox hg; have hnb12 := NB586_578.out; have hnc12 := NB578_586.out; obtain ⟨hcz13_0, hcz13_1, hcz13_2, hcz13_3, hcz13_4, hcz13_5⟩ := cz6 BK586.out; obtain ⟨hfz13_0, hfz13_1, hfz13_2, hfz13_3, hfz13_4, hfz13_5⟩ := fz6 BK586.out) | ((with_reducible refine gate_dst (N := 7) rfl ?_); refine box_event ?hg (N := 7) ?hd (cs := #[.int .i64 0, .string ⟨#[]⟩, .string ⟨#[]⟩, .string ⟨#[]⟩, .string ⟨#[]⟩, .string ⟨#[]⟩]) (t := 50) ?hr ?_; (case hd => rfl); (case hg => rfl); (case hr => first | (go_simp; done) | (go_simp; rfl)); intro gb587 hg w14 hbox hb; have n0_ := ak (blk_below (g := gb578) (o := .cells #[.int .i64 a0_0, .int .i64 a0_1, .int .i64 a0_2, .int .i64 a0_3, .int .i64 a0_4, .int .i64 a0_5, .int .i64 0] 52 (0, 0)) (bx (blk_far (bx (blk_far (bx (blk_far (bx (blk_far (bx (blk_far (bx (blk_far (bx BK578.out) NB578_586.out _)) NB578_586.out _)) NB578_586.out _)) NB578_586.out _)) NB578_586.out _)) NB578_586.out _)) hb); have n1_ := ak (blk_below (g := gb586) (o := .cells #[.int .i64 t580, .string t581, .string t582, .string t583, .string t584, .string t585] 50 (0, 0)) (bx (blk_put (cs := #[.int .i64 t580, .string t581, .string t582, .string t583, .string t584, .string ⟨#[]⟩]) (bx (blk_put (cs := #[.int .i64 t580, .string t581, .string t582, .string t583, .string ⟨#[]⟩, .string ⟨#[]⟩]) (bx (blk_put (cs := #[.int .i64 t580, .string t581, .string t582, .string ⟨#[]⟩, .string ⟨#[]⟩, .string ⟨#[]⟩]) (bx (blk_put (cs := #[.int .i64 t580, .string t581, .string ⟨#[]⟩, .string ⟨#[]⟩, .string ⟨#[]⟩, .string ⟨#[]⟩]) (bx (blk_put (cs := #[.int .i64 t580, .string ⟨#[]⟩, .string ⟨#[]⟩, .string ⟨#[]⟩, .string ⟨#[]⟩, .string ⟨#[]⟩]) (bx (blk_put (cs := #[.int .i64 0, .string ⟨#[]⟩, .string ⟨#[]⟩, .string ⟨#[]⟩, .string ⟨#[]⟩, .string ⟨#[]⟩]) (bx BK586.out) 0 _ rfl)) 1 _ rfl)) 2 _ rfl)) 3 _ rfl)) 4 _ rfl)) 5 _ rfl)) hb); have n2_ := ak (below_step bq hb); have n3_ := ak (hbox); have n4_ := ak ((by rw [hg]; exact (below_size bq) : w.heap.size ≤ gb587)); have n5_ := ak ((by rw [hg]; exact (below_size bq) : w.heap.size ≤ gb587)); have n6_ := ak ((by rw [hg]; exact Nat.ne_of_lt (blk_lt (g := gb578) (o := .cells #[.int .i64 a0_0, .int .i64 a0_1, .int .i64 a0_2, .int .i64 a0_3, .int .i64 a0_4, .int .i64 a0_5, .int .i64 0] 52 (0, 0)) (bx (blk_far (bx (blk_far (bx (blk_far (bx (blk_far (bx (blk_far (bx (blk_far (bx BK578.out) NB578_586.out _)) NB578_586.out _)) NB578_586.out _)) NB578_586.out _)) NB578_586.out _)) NB578_586.out _))) : gb578 ≠ gb587)); have n7_ := ak ((by rw [hg]; exact Nat.ne_of_gt (blk_lt (g := gb578) (o := .cells #[.int .i64 a0_0, .int .i64 a0_1, .int .i64 a0_2, .int .i64 a0_3, .int .i64 a0_4, .int .i64 a0_5, .int .i64 0] 52 (0, 0)) (bx (blk_far (bx (blk_far (bx (blk_far (bx (blk_far (bx (blk_far (bx (blk_far (bx BK578.out) NB578_586.out _)) NB578_586.out _)) NB578_586.out _)) NB578_586.out _)) NB578_586.out _)) NB578_586.out _))) : gb587 ≠ gb578)); have n8_ := ak ((by rw [hg]; exact Nat.ne_of_lt (blk_lt (g := gb586) (o := .cells #[.int .i64 t580, .string t581, .string t582, .string t583, .string t584, .string t585] 50 (0, 0)) (bx (blk_put (cs := #[.int .i64 t580, .string t581, .string t582, .string t583, .string t584, .string ⟨#[]⟩]) (bx (blk_put (cs := #[.int .i64 t580, .string t581, .string t582, .string t583, .string ⟨#[]⟩, .string ⟨#[]⟩]) (bx (blk_put (cs := #[.int .i64 t580, .string t581, .string t582, .string ⟨#[]⟩, .string ⟨#[]⟩, .string ⟨#[]⟩]) (bx (blk_put (cs := #[.int .i64 t580, .string t581, .string ⟨#[]⟩, .string ⟨#[]⟩, .string ⟨#[]⟩, .string ⟨#[]⟩]) (bx (blk_put (cs := #[.int .i64 t580, .string ⟨#[]⟩, .string ⟨#[]⟩, .string ⟨#[]⟩, .string ⟨#[]⟩, .string ⟨#[]⟩]) (bx (blk_put (cs := #[.int .i64 0, .string ⟨#[]⟩, .string ⟨#[]⟩, .string ⟨#[]⟩, .string ⟨#[]⟩, .string ⟨#[]⟩]) (bx BK586.out) 0 _ rfl)) 1 _ rfl)) 2 _ rfl)) 3 _ rfl)) 4 _ rfl)) 5 _ rfl))) : gb586 ≠ gb587)); have n9_ := ak ((by rw [hg]; exact Nat.ne_of_gt (blk_lt (g := gb586) (o := .cells #[.int .i64 t580, .string t581, .string t582, .string t583, .string t584, .string t585] 50 (0, 0)) (bx (blk_put (cs := #[.int .i64 t580, .string t581, .string t582, .string t583, .string t584, .string ⟨#[]⟩]) (bx (blk_put (cs := #[.int .i64 t580, .string t581, .string t582, .string t583, .string ⟨#[]⟩, .string ⟨#[]⟩]) (bx (blk_put (cs := #[.int .i64 t580, .string t581, .string t582, .string ⟨#[]⟩, .string ⟨#[]⟩, .string ⟨#[]⟩]) (bx (blk_put (cs := #[.int .i64 t580, .string t581, .string ⟨#[]⟩, .string ⟨#[]⟩, .string ⟨#[]⟩, .string ⟨#[]⟩]) (bx (blk_put (cs := #[.int .i64 t580, .string ⟨#[]⟩, .string ⟨#[]⟩, .string ⟨#[]⟩, .string ⟨#[]⟩, .string ⟨#[]⟩]) (bx (blk_put (cs := #[.int .i64 0, .string ⟨#[]⟩, .string ⟨#[]⟩, .string ⟨#[]⟩, .string ⟨#[]⟩, .string ⟨#[]⟩]) (bx BK586.out) 0 _ rfl)) 1 _ rfl)) 2 _ rfl)) 3 _ rfl)) 4 _ rfl)) 5 _ rfl))) : gb587 ≠ gb586)); clear BK578; clear BK586; clear HB; have BK578 := n0_; have BK586 := n1_; have HB := n2_; have BK587 := n3_; have GW587 := n4_; have GE587 := n5_; have NB578_587 := n6_; have NB587_578 := n7_; have NB586_587 := n8_; have NB587_586 := n9_; clear n0_ n1_ n2_ n3_ n4_ n5_ n6_ n7_ n8_ n9_; clear hb hbox hg; have hnb15 := NB587_578.out; have hnc15 := NB578_587.out; have hnb16 := NB587_586.out; have hnc16 := NB586_587.out; obtain ⟨hcz17_0, hcz17_1, hcz17_2, hcz17_3, hcz17_4, hcz17_5⟩ := cz6 BK587.out; obtain ⟨hfz17_0, hfz17_1, hfz17_2, hfz17_3, hfz17_4, hfz17_5⟩ := fz6 BK587.out) | ((with_reducible refine gate_callee (f := 32) rfl ?_); refine goesL_ (some 14) rfl rfl Tryd.func32 (by kernel_rfl) rfl #[.int .i64 a1, .int .i64 5] rfl mq ?_; (with_reducible refine (isoglosslaw12_rest.calls a1 5 t588 _ A5.out).mono ?_); rintro e w' ⟨rfl, ⟨nd, rfl⟩⟩; refine ⟨_, rfl, ?_⟩; (try clear A5)))
 (try simp only [Act.put, pA, pB, pC])
 go_cut [] (fun wc => ∃ (kq : Nat) (x588001_5 : ByteArray) (x588002_5 : ByteArray) (x588003_5 : ByteArray) (x588004_5 : ByteArray) (x588005_5 : ByteArray), Aside0 (isoglosslaw12_AliasSmall.j0 kq t579 t580 t581 t582 t583 t584 t585 t580 x588001_5 x588002_5 x588003_5 x588004_5 x588005_5 = some r) ∧ Aside0 (kq ≤ k) ∧ Aside0 (wc.heap[gb578]? = some (.cells #[.int .i64 a0_0, .int .i64 a0_1, .int .i64 a0_2, .int .i64 a0_3, .int .i64 a0_4, .int .i64 a0_5, .int .i64 0] 52 (0, 0))) ∧ Aside0 (wc.heap[gb586]? = some (.cells #[.int .i64 t580, .string t581, .string t582, .string t583, .string t584, .string t585] 50 (0, 0))) ∧ Aside0 (wc.heap[gb587]? = some (.cells #[.int .i64 t580, .string x588001_5, .string x588002_5, .string x588003_5, .string x588004_5, .string x588005_5] 50 (0, 0))) ∧ Aside0 (Below w.heap.size w wc))
 case first =>
  have H := HC6.out
  clear HC6
  by_cases c18 : t588 = 0
  ·
   rw [if_pos c18] at H
   have c18b0 : (t588 == 0) = true := beq_iff_eq.mpr c18
   have c18b1 : (t588 != 0) = false := bne_eq_false_iff_eq.mpr c18
   (try (have c18b2 : (t588 : Int).toNat = 0 := by rw [c18]; rfl))
   try have c18b3 : (0 ≤ t588) = True := eq_true (by omega)
   try have c18b4_2 : (t588 < 2) = True := eq_true (by omega)
   try have c18b4_3 : (t588 < 3) = True := eq_true (by omega)
   try have c18b4_5 : (t588 < 5) = True := eq_true (by omega)
   clear c18
   (first | rw [c18b0] | (simp only [i64_w, i32_w]; rw [c18b0]) | rw [c18b2] | skip)
   replace H := Option.bind_eq_some_iff.mp H
   obtain ⟨t589, A190, H⟩ := H
   have A19 := ak A190
   clear A190
   have H' := ak H
   clear H
   have hnb20 := NB586_578.out
   have hnc20 := NB578_586.out
   have hnb21 := NB586_587.out
   have hnc21 := NB587_586.out
   obtain ⟨hcz22_0, hcz22_1, hcz22_2, hcz22_3, hcz22_4, hcz22_5⟩ := cz6 BK586.out
   obtain ⟨hfz22_0, hfz22_1, hfz22_2, hfz22_3, hfz22_4, hfz22_5⟩ := fz6 BK586.out
   go_wp2_with (first | ((with_reducible refine gate_callee (f := 18) rfl ?_); refine goesL_ (some 23) rfl rfl Tryd.func18 (by kernel_rfl) rfl #[.string t581] rfl mq ?_; (with_reducible refine (isoglossref02_Upper.calls k t581 t589 _ A19.out).mono ?_); rintro e w23 ⟨rfl, hb⟩; refine ⟨_, rfl, ?_⟩; have n0_ := ak (blk_below (g := gb578) (o := .cells #[.int .i64 a0_0, .int .i64 a0_1, .int .i64 a0_2, .int .i64 a0_3, .int .i64 a0_4, .int .i64 a0_5, .int .i64 0] 52 (0, 0)) (bx (blk_far (bx (blk_far (bx (blk_far (bx (blk_far (bx (blk_far (bx (blk_far (bx BK578.out) NB578_587.out _)) NB578_587.out _)) NB578_587.out _)) NB578_587.out _)) NB578_587.out _)) NB578_587.out _)) hb); have n1_ := ak (blk_below (g := gb586) (o := .cells #[.int .i64 t580, .string t581, .string t582, .string t583, .string t584, .string t585] 50 (0, 0)) (bx (blk_far (bx (blk_far (bx (blk_far (bx (blk_far (bx (blk_far (bx (blk_far (bx BK586.out) NB586_587.out _)) NB586_587.out _)) NB586_587.out _)) NB586_587.out _)) NB586_587.out _)) NB586_587.out _)) hb); have n2_ := ak (blk_below (g := gb587) (o := .cells #[.int .i64 t580, .string t581, .string t582, .string t583, .string t584, .string t585] 50 (0, 0)) (bx (blk_put (cs := #[.int .i64 t580, .string t581, .string t582, .string t583, .string t584, .string ⟨#[]⟩]) (bx (blk_put (cs := #[.int .i64 t580, .string t581, .string t582, .string t583, .string ⟨#[]⟩, .string ⟨#[]⟩]) (bx (blk_put (cs := #[.int .i64 t580, .string t581, .string t582, .string ⟨#[]⟩, .string ⟨#[]⟩, .string ⟨#[]⟩]) (bx (blk_put (cs := #[.int .i64 t580, .string t581, .string ⟨#[]⟩, .string ⟨#[]⟩, .string ⟨#[]⟩, .string ⟨#[]⟩]) (bx (blk_put (cs := #[.int .i64 t580, .string ⟨#[]⟩, .string ⟨#[]⟩, .string ⟨#[]⟩, .string ⟨#[]⟩, .string ⟨#[]⟩]) (bx (blk_put (cs := #[.int .i64 0, .string ⟨#[]⟩, .string ⟨#[]⟩, .string ⟨#[]⟩, .string ⟨#[]⟩, .string ⟨#[]⟩]) (bx BK587.out) 0 _ rfl)) 1 _ rfl)) 2 _ rfl)) 3 _ rfl)) 4 _ rfl)) 5 _ rfl)) hb); have n3_ := ak (below_step bq hb); clear BK578; clear BK586; clear BK587; clear HB; have BK578 := n0_; have BK586 := n1_; have BK587 := n2_; have HB := n3_; clear n0_ n1_ n2_ n3_; (try clear hb); (try clear hb2); (try clear hk); (try clear hi); have hnb24 := NB587_578.out; have hnc24 := NB578_587.out; obtain ⟨hcz25_0, hcz25_1, hcz25_2, hcz25_3, hcz25_4, hcz25_5⟩ := cz6 BK587.out; obtain ⟨hfz25_0, hfz25_1, hfz25_2, hfz25_3, hfz25_4, hfz25_5⟩ := fz6 BK587.out; (try clear A19)))
   go_meet
   case rel => exact ⟨_, (t589), (t582), (t583), (t584), (t585), H', ⟨by first | omega | exact Nat.le_refl _⟩, ⟨(bx (blk_far (bx BK578.out) NB578_587.out _))⟩, ⟨(bx (blk_far (bx BK586.out) NB586_587.out _))⟩, ⟨(bx (blk_put (cs := #[.int .i64 t580, .string t581, .string t582, .string t583, .string t584, .string t585]) (bx BK587.out) 1 _ rfl))⟩, ⟨bq⟩⟩
  ·
   rw [if_neg c18] at H
   have c18b0 : (t588 == 0) = false := beq_eq_false_iff_ne.mpr c18
   have c18b1 : (t588 != 0) = true := bne_iff_ne.mpr c18
   (first | rw [c18b0] | (simp only [i64_w, i32_w]; rw [c18b0]) | rw [c18b2] | skip)
   by_cases c26 : t588 = 1
   ·
    rw [if_pos c26] at H
    have c26b0 : (t588 == 1) = true := beq_iff_eq.mpr c26
    have c26b1 : (t588 != 1) = false := bne_eq_false_iff_eq.mpr c26
    (try (have c26b2 : (t588 : Int).toNat = 1 := by rw [c26]; rfl))
    try have c26b3 : (0 ≤ t588) = True := eq_true (by omega)
    try have c26b4_2 : (t588 < 2) = True := eq_true (by omega)
    try have c26b4_3 : (t588 < 3) = True := eq_true (by omega)
    try have c26b4_5 : (t588 < 5) = True := eq_true (by omega)
    clear c26
    replace H := Option.bind_eq_some_iff.mp H
    obtain ⟨t590, A270, H⟩ := H
    have A27 := ak A270
    clear A270
    have H' := ak H
    clear H
    have hnb28 := NB586_578.out
    have hnc28 := NB578_586.out
    have hnb29 := NB586_587.out
    have hnc29 := NB587_586.out
    obtain ⟨hcz30_0, hcz30_1, hcz30_2, hcz30_3, hcz30_4, hcz30_5⟩ := cz6 BK586.out
    obtain ⟨hfz30_0, hfz30_1, hfz30_2, hfz30_3, hfz30_4, hfz30_5⟩ := fz6 BK586.out
    go_wp2_with (first | ((with_reducible refine gate_callee (f := 18) rfl ?_); refine goesL_ (some 29) rfl rfl Tryd.func18 (by kernel_rfl) rfl #[.string t582] rfl mq ?_; (with_reducible refine (isoglossref02_Upper.calls k t582 t590 _ A27.out).mono ?_); rintro e w31 ⟨rfl, hb⟩; refine ⟨_, rfl, ?_⟩; have n0_ := ak (blk_below (g := gb578) (o := .cells #[.int .i64 a0_0, .int .i64 a0_1, .int .i64 a0_2, .int .i64 a0_3, .int .i64 a0_4, .int .i64 a0_5, .int .i64 0] 52 (0, 0)) (bx (blk_far (bx (blk_far (bx (blk_far (bx (blk_far (bx (blk_far (bx (blk_far (bx BK578.out) NB578_587.out _)) NB578_587.out _)) NB578_587.out _)) NB578_587.out _)) NB578_587.out _)) NB578_587.out _)) hb); have n1_ := ak (blk_below (g := gb586) (o := .cells #[.int .i64 t580, .string t581, .string t582, .string t583, .string t584, .string t585] 50 (0, 0)) (bx (blk_far (bx (blk_far (bx (blk_far (bx (blk_far (bx (blk_far (bx (blk_far (bx BK586.out) NB586_587.out _)) NB586_587.out _)) NB586_587.out _)) NB586_587.out _)) NB586_587.out _)) NB586_587.out _)) hb); have n2_ := ak (blk_below (g := gb587) (o := .cells #[.int .i64 t580, .string t581, .string t582, .string t583, .string t584, .string t585] 50 (0, 0)) (bx (blk_put (cs := #[.int .i64 t580, .string t581, .string t582, .string t583, .string t584, .string ⟨#[]⟩]) (bx (blk_put (cs := #[.int .i64 t580, .string t581, .string t582, .string t583, .string ⟨#[]⟩, .string ⟨#[]⟩]) (bx (blk_put (cs := #[.int .i64 t580, .string t581, .string t582, .string ⟨#[]⟩, .string ⟨#[]⟩, .string ⟨#[]⟩]) (bx (blk_put (cs := #[.int .i64 t580, .string t581, .string ⟨#[]⟩, .string ⟨#[]⟩, .string ⟨#[]⟩, .string ⟨#[]⟩]) (bx (blk_put (cs := #[.int .i64 t580, .string ⟨#[]⟩, .string ⟨#[]⟩, .string ⟨#[]⟩, .string ⟨#[]⟩, .string ⟨#[]⟩]) (bx (blk_put (cs := #[.int .i64 0, .string ⟨#[]⟩, .string ⟨#[]⟩, .string ⟨#[]⟩, .string ⟨#[]⟩, .string ⟨#[]⟩]) (bx BK587.out) 0 _ rfl)) 1 _ rfl)) 2 _ rfl)) 3 _ rfl)) 4 _ rfl)) 5 _ rfl)) hb); have n3_ := ak (below_step bq hb); clear BK578; clear BK586; clear BK587; clear HB; have BK578 := n0_; have BK586 := n1_; have BK587 := n2_; have HB := n3_; clear n0_ n1_ n2_ n3_; (try clear hb); (try clear hb2); (try clear hk); (try clear hi); have hnb32 := NB587_578.out; have hnc32 := NB578_587.out; obtain ⟨hcz33_0, hcz33_1, hcz33_2, hcz33_3, hcz33_4, hcz33_5⟩ := cz6 BK587.out; obtain ⟨hfz33_0, hfz33_1, hfz33_2, hfz33_3, hfz33_4, hfz33_5⟩ := fz6 BK587.out; (try clear A27)))
    go_meet
    case rel => exact ⟨_, (t581), (t590), (t583), (t584), (t585), H', ⟨by first | omega | exact Nat.le_refl _⟩, ⟨(bx (blk_far (bx BK578.out) NB578_587.out _))⟩, ⟨(bx (blk_far (bx BK586.out) NB586_587.out _))⟩, ⟨(bx (blk_put (cs := #[.int .i64 t580, .string t581, .string t582, .string t583, .string t584, .string t585]) (bx BK587.out) 2 _ rfl))⟩, ⟨bq⟩⟩
   ·
    rw [if_neg c26] at H
    have c26b0 : (t588 == 1) = false := beq_eq_false_iff_ne.mpr c26
    have c26b1 : (t588 != 1) = true := bne_iff_ne.mpr c26
    by_cases c34 : t588 = 2
    ·
     rw [if_pos c34] at H
     have c34b0 : (t588 == 2) = true := beq_iff_eq.mpr c34
     have c34b1 : (t588 != 2) = false := bne_eq_false_iff_eq.mpr c34
     (try (have c34b2 : (t588 : Int).toNat = 2 := by rw [c34]; rfl))
     try have c34b3 : (0 ≤ t588) = True := eq_true (by omega)
     try have c34b4_3 : (t588 < 3) = True := eq_true (by omega)
     try have c34b4_5 : (t588 < 5) = True := eq_true (by omega)
     clear c34
     replace H := Option.bind_eq_some_iff.mp H
     obtain ⟨t591, A350, H⟩ := H
     have A35 := ak A350
     clear A350
     have H' := ak H
     clear H
     have hnb36 := NB586_578.out
     have hnc36 := NB578_586.out
     have hnb37 := NB586_587.out
     have hnc37 := NB587_586.out
     obtain ⟨hcz38_0, hcz38_1, hcz38_2, hcz38_3, hcz38_4, hcz38_5⟩ := cz6 BK586.out
     obtain ⟨hfz38_0, hfz38_1, hfz38_2, hfz38_3, hfz38_4, hfz38_5⟩ := fz6 BK586.out
     go_wp2_with (first | ((with_reducible refine gate_callee (f := 18) rfl ?_); refine goesL_ (some 35) rfl rfl Tryd.func18 (by kernel_rfl) rfl #[.string t583] rfl mq ?_; (with_reducible refine (isoglossref02_Upper.calls k t583 t591 _ A35.out).mono ?_); rintro e w39 ⟨rfl, hb⟩; refine ⟨_, rfl, ?_⟩; have n0_ := ak (blk_below (g := gb578) (o := .cells #[.int .i64 a0_0, .int .i64 a0_1, .int .i64 a0_2, .int .i64 a0_3, .int .i64 a0_4, .int .i64 a0_5, .int .i64 0] 52 (0, 0)) (bx (blk_far (bx (blk_far (bx (blk_far (bx (blk_far (bx (blk_far (bx (blk_far (bx BK578.out) NB578_587.out _)) NB578_587.out _)) NB578_587.out _)) NB578_587.out _)) NB578_587.out _)) NB578_587.out _)) hb); have n1_ := ak (blk_below (g := gb586) (o := .cells #[.int .i64 t580, .string t581, .string t582, .string t583, .string t584, .string t585] 50 (0, 0)) (bx (blk_far (bx (blk_far (bx (blk_far (bx (blk_far (bx (blk_far (bx (blk_far (bx BK586.out) NB586_587.out _)) NB586_587.out _)) NB586_587.out _)) NB586_587.out _)) NB586_587.out _)) NB586_587.out _)) hb); have n2_ := ak (blk_below (g := gb587) (o := .cells #[.int .i64 t580, .string t581, .string t582, .string t583, .string t584, .string t585] 50 (0, 0)) (bx (blk_put (cs := #[.int .i64 t580, .string t581, .string t582, .string t583, .string t584, .string ⟨#[]⟩]) (bx (blk_put (cs := #[.int .i64 t580, .string t581, .string t582, .string t583, .string ⟨#[]⟩, .string ⟨#[]⟩]) (bx (blk_put (cs := #[.int .i64 t580, .string t581, .string t582, .string ⟨#[]⟩, .string ⟨#[]⟩, .string ⟨#[]⟩]) (bx (blk_put (cs := #[.int .i64 t580, .string t581, .string ⟨#[]⟩, .string ⟨#[]⟩, .string ⟨#[]⟩, .string ⟨#[]⟩]) (bx (blk_put (cs := #[.int .i64 t580, .string ⟨#[]⟩, .string ⟨#[]⟩, .string ⟨#[]⟩, .string ⟨#[]⟩, .string ⟨#[]⟩]) (bx (blk_put (cs := #[.int .i64 0, .string ⟨#[]⟩, .string ⟨#[]⟩, .string ⟨#[]⟩, .string ⟨#[]⟩, .string ⟨#[]⟩]) (bx BK587.out) 0 _ rfl)) 1 _ rfl)) 2 _ rfl)) 3 _ rfl)) 4 _ rfl)) 5 _ rfl)) hb); have n3_ := ak (below_step bq hb); clear BK578; clear BK586; clear BK587; clear HB; have BK578 := n0_; have BK586 := n1_; have BK587 := n2_; have HB := n3_; clear n0_ n1_ n2_ n3_; (try clear hb); (try clear hb2); (try clear hk); (try clear hi); have hnb40 := NB587_578.out; have hnc40 := NB578_587.out; obtain ⟨hcz41_0, hcz41_1, hcz41_2, hcz41_3, hcz41_4, hcz41_5⟩ := cz6 BK587.out; obtain ⟨hfz41_0, hfz41_1, hfz41_2, hfz41_3, hfz41_4, hfz41_5⟩ := fz6 BK587.out; (try clear A35)))
     go_meet
     case rel => exact ⟨_, (t581), (t582), (t591), (t584), (t585), H', ⟨by first | omega | exact Nat.le_refl _⟩, ⟨(bx (blk_far (bx BK578.out) NB578_587.out _))⟩, ⟨(bx (blk_far (bx BK586.out) NB586_587.out _))⟩, ⟨(bx (blk_put (cs := #[.int .i64 t580, .string t581, .string t582, .string t583, .string t584, .string t585]) (bx BK587.out) 3 _ rfl))⟩, ⟨bq⟩⟩
    ·
     rw [if_neg c34] at H
     have c34b0 : (t588 == 2) = false := beq_eq_false_iff_ne.mpr c34
     have c34b1 : (t588 != 2) = true := bne_iff_ne.mpr c34
     by_cases c42 : t588 = 3
     ·
      rw [if_pos c42] at H
      have c42b0 : (t588 == 3) = true := beq_iff_eq.mpr c42
      have c42b1 : (t588 != 3) = false := bne_eq_false_iff_eq.mpr c42
      (try (have c42b2 : (t588 : Int).toNat = 3 := by rw [c42]; rfl))
      try have c42b3 : (0 ≤ t588) = True := eq_true (by omega)
      try have c42b4_5 : (t588 < 5) = True := eq_true (by omega)
      clear c42
      replace H := Option.bind_eq_some_iff.mp H
      obtain ⟨t592, A430, H⟩ := H
      have A43 := ak A430
      clear A430
      have H' := ak H
      clear H
      have hnb44 := NB586_578.out
      have hnc44 := NB578_586.out
      have hnb45 := NB586_587.out
      have hnc45 := NB587_586.out
      obtain ⟨hcz46_0, hcz46_1, hcz46_2, hcz46_3, hcz46_4, hcz46_5⟩ := cz6 BK586.out
      obtain ⟨hfz46_0, hfz46_1, hfz46_2, hfz46_3, hfz46_4, hfz46_5⟩ := fz6 BK586.out
      go_wp2_with (first | ((with_reducible refine gate_callee (f := 18) rfl ?_); refine goesL_ (some 41) rfl rfl Tryd.func18 (by kernel_rfl) rfl #[.string t584] rfl mq ?_; (with_reducible refine (isoglossref02_Upper.calls k t584 t592 _ A43.out).mono ?_); rintro e w47 ⟨rfl, hb⟩; refine ⟨_, rfl, ?_⟩; have n0_ := ak (blk_below (g := gb578) (o := .cells #[.int .i64 a0_0, .int .i64 a0_1, .int .i64 a0_2, .int .i64 a0_3, .int .i64 a0_4, .int .i64 a0_5, .int .i64 0] 52 (0, 0)) (bx (blk_far (bx (blk_far (bx (blk_far (bx (blk_far (bx (blk_far (bx (blk_far (bx BK578.out) NB578_587.out _)) NB578_587.out _)) NB578_587.out _)) NB578_587.out _)) NB578_587.out _)) NB578_587.out _)) hb); have n1_ := ak (blk_below (g := gb586) (o := .cells #[.int .i64 t580, .string t581, .string t582, .string t583, .string t584, .string t585] 50 (0, 0)) (bx (blk_far (bx (blk_far (bx (blk_far (bx (blk_far (bx (blk_far (bx (blk_far (bx BK586.out) NB586_587.out _)) NB586_587.out _)) NB586_587.out _)) NB586_587.out _)) NB586_587.out _)) NB586_587.out _)) hb); have n2_ := ak (blk_below (g := gb587) (o := .cells #[.int .i64 t580, .string t581, .string t582, .string t583, .string t584, .string t585] 50 (0, 0)) (bx (blk_put (cs := #[.int .i64 t580, .string t581, .string t582, .string t583, .string t584, .string ⟨#[]⟩]) (bx (blk_put (cs := #[.int .i64 t580, .string t581, .string t582, .string t583, .string ⟨#[]⟩, .string ⟨#[]⟩]) (bx (blk_put (cs := #[.int .i64 t580, .string t581, .string t582, .string ⟨#[]⟩, .string ⟨#[]⟩, .string ⟨#[]⟩]) (bx (blk_put (cs := #[.int .i64 t580, .string t581, .string ⟨#[]⟩, .string ⟨#[]⟩, .string ⟨#[]⟩, .string ⟨#[]⟩]) (bx (blk_put (cs := #[.int .i64 t580, .string ⟨#[]⟩, .string ⟨#[]⟩, .string ⟨#[]⟩, .string ⟨#[]⟩, .string ⟨#[]⟩]) (bx (blk_put (cs := #[.int .i64 0, .string ⟨#[]⟩, .string ⟨#[]⟩, .string ⟨#[]⟩, .string ⟨#[]⟩, .string ⟨#[]⟩]) (bx BK587.out) 0 _ rfl)) 1 _ rfl)) 2 _ rfl)) 3 _ rfl)) 4 _ rfl)) 5 _ rfl)) hb); have n3_ := ak (below_step bq hb); clear BK578; clear BK586; clear BK587; clear HB; have BK578 := n0_; have BK586 := n1_; have BK587 := n2_; have HB := n3_; clear n0_ n1_ n2_ n3_; (try clear hb); (try clear hb2); (try clear hk); (try clear hi); have hnb48 := NB587_578.out; have hnc48 := NB578_587.out; obtain ⟨hcz49_0, hcz49_1, hcz49_2, hcz49_3, hcz49_4, hcz49_5⟩ := cz6 BK587.out; obtain ⟨hfz49_0, hfz49_1, hfz49_2, hfz49_3, hfz49_4, hfz49_5⟩ := fz6 BK587.out; (try clear A43)))
      go_meet
      case rel => exact ⟨_, (t581), (t582), (t583), (t592), (t585), H', ⟨by first | omega | exact Nat.le_refl _⟩, ⟨(bx (blk_far (bx BK578.out) NB578_587.out _))⟩, ⟨(bx (blk_far (bx BK586.out) NB586_587.out _))⟩, ⟨(bx (blk_put (cs := #[.int .i64 t580, .string t581, .string t582, .string t583, .string t584, .string t585]) (bx BK587.out) 4 _ rfl))⟩, ⟨bq⟩⟩
     ·
      rw [if_neg c42] at H
      have c42b0 : (t588 == 3) = false := beq_eq_false_iff_ne.mpr c42
      have c42b1 : (t588 != 3) = true := bne_iff_ne.mpr c42
      replace H := Option.bind_eq_some_iff.mp H
      obtain ⟨t593, A500, H⟩ := H
      have A50 := ak A500
      clear A500
      have H' := ak H
      clear H
      have hnb51 := NB586_578.out
      have hnc51 := NB578_586.out
      have hnb52 := NB586_587.out
      have hnc52 := NB587_586.out
      obtain ⟨hcz53_0, hcz53_1, hcz53_2, hcz53_3, hcz53_4, hcz53_5⟩ := cz6 BK586.out
      obtain ⟨hfz53_0, hfz53_1, hfz53_2, hfz53_3, hfz53_4, hfz53_5⟩ := fz6 BK586.out
      go_wp2_with (first | ((with_reducible refine gate_callee (f := 18) rfl ?_); refine goesL_ (some 17) rfl rfl Tryd.func18 (by kernel_rfl) rfl #[.string t585] rfl mq ?_; (with_reducible refine (isoglossref02_Upper.calls k t585 t593 _ A50.out).mono ?_); rintro e w54 ⟨rfl, hb⟩; refine ⟨_, rfl, ?_⟩; have n0_ := ak (blk_below (g := gb578) (o := .cells #[.int .i64 a0_0, .int .i64 a0_1, .int .i64 a0_2, .int .i64 a0_3, .int .i64 a0_4, .int .i64 a0_5, .int .i64 0] 52 (0, 0)) (bx (blk_far (bx (blk_far (bx (blk_far (bx (blk_far (bx (blk_far (bx (blk_far (bx BK578.out) NB578_587.out _)) NB578_587.out _)) NB578_587.out _)) NB578_587.out _)) NB578_587.out _)) NB578_587.out _)) hb); have n1_ := ak (blk_below (g := gb586) (o := .cells #[.int .i64 t580, .string t581, .string t582, .string t583, .string t584, .string t585] 50 (0, 0)) (bx (blk_far (bx (blk_far (bx (blk_far (bx (blk_far (bx (blk_far (bx (blk_far (bx BK586.out) NB586_587.out _)) NB586_587.out _)) NB586_587.out _)) NB586_587.out _)) NB586_587.out _)) NB586_587.out _)) hb); have n2_ := ak (blk_below (g := gb587) (o := .cells #[.int .i64 t580, .string t581, .string t582, .string t583, .string t584, .string t585] 50 (0, 0)) (bx (blk_put (cs := #[.int .i64 t580, .string t581, .string t582, .string t583, .string t584, .string ⟨#[]⟩]) (bx (blk_put (cs := #[.int .i64 t580, .string t581, .string t582, .string t583, .string ⟨#[]⟩, .string ⟨#[]⟩]) (bx (blk_put (cs := #[.int .i64 t580, .string t581, .string t582, .string ⟨#[]⟩, .string ⟨#[]⟩, .string ⟨#[]⟩]) (bx (blk_put (cs := #[.int .i64 t580, .string t581, .string ⟨#[]⟩, .string ⟨#[]⟩, .string ⟨#[]⟩, .string ⟨#[]⟩]) (bx (blk_put (cs := #[.int .i64 t580, .string ⟨#[]⟩, .string ⟨#[]⟩, .string ⟨#[]⟩, .string ⟨#[]⟩, .string ⟨#[]⟩]) (bx (blk_put (cs := #[.int .i64 0, .string ⟨#[]⟩, .string ⟨#[]⟩, .string ⟨#[]⟩, .string ⟨#[]⟩, .string ⟨#[]⟩]) (bx BK587.out) 0 _ rfl)) 1 _ rfl)) 2 _ rfl)) 3 _ rfl)) 4 _ rfl)) 5 _ rfl)) hb); have n3_ := ak (below_step bq hb); clear BK578; clear BK586; clear BK587; clear HB; have BK578 := n0_; have BK586 := n1_; have BK587 := n2_; have HB := n3_; clear n0_ n1_ n2_ n3_; (try clear hb); (try clear hb2); (try clear hk); (try clear hi); have hnb55 := NB587_578.out; have hnc55 := NB578_587.out; obtain ⟨hcz56_0, hcz56_1, hcz56_2, hcz56_3, hcz56_4, hcz56_5⟩ := cz6 BK587.out; obtain ⟨hfz56_0, hfz56_1, hfz56_2, hfz56_3, hfz56_4, hfz56_5⟩ := fz6 BK587.out; (try clear A50)))
      go_meet
      case rel => exact ⟨_, (t581), (t582), (t583), (t584), (t593), H', ⟨by first | omega | exact Nat.le_refl _⟩, ⟨(bx (blk_far (bx BK578.out) NB578_587.out _))⟩, ⟨(bx (blk_far (bx BK586.out) NB586_587.out _))⟩, ⟨(bx (blk_put (cs := #[.int .i64 t580, .string t581, .string t582, .string t583, .string t584, .string t585]) (bx BK587.out) 5 _ rfl))⟩, ⟨bq⟩⟩
 case rest =>
  clear HC6
  try clear c1
  try clear c2
  try clear p2
  try clear c3
  try clear c4
  try clear c5
  try clear c9
  try clear c12
  try clear c15
  try clear c16
  try clear c18
  try clear c18b0
  try clear c18b1
  try clear c18b2
  try clear c20
  try clear c21
  try clear c24
  try clear c26
  try clear c26b0
  try clear c26b1
  try clear c26b2
  try clear c28
  try clear c29
  try clear c30
  try clear c32
  try clear c34
  try clear c34b0
  try clear c34b1
  try clear c34b2
  try clear c36
  try clear c37
  try clear c40
  try clear c42
  try clear c42b0
  try clear c42b1
  try clear c42b2
  try clear c44
  try clear c45
  try clear c48
  try clear c51
  try clear c52
  try clear c55
  try clear hcz13_0
  try clear hcz13_1
  try clear hcz13_2
  try clear hcz13_3
  try clear hcz13_4
  try clear hcz13_5
  try clear hcz17_0
  try clear hcz17_1
  try clear hcz17_2
  try clear hcz17_3
  try clear hcz17_4
  try clear hcz17_5
  try clear hcz22_0
  try clear hcz22_1
  try clear hcz22_2
  try clear hcz22_3
  try clear hcz22_4
  try clear hcz22_5
  try clear hcz25_0
  try clear hcz25_1
  try clear hcz25_2
  try clear hcz25_3
  try clear hcz25_4
  try clear hcz25_5
  try clear hcz30_0
  try clear hcz30_1
  try clear hcz30_2
  try clear hcz30_3
  try clear hcz30_4
  try clear hcz30_5
  try clear hcz33_0
  try clear hcz33_1
  try clear hcz33_2
  try clear hcz33_3
  try clear hcz33_4
  try clear hcz33_5
  try clear hcz38_0
  try clear hcz38_1
  try clear hcz38_2
  try clear hcz38_3
  try clear hcz38_4
  try clear hcz38_5
  try clear hcz41_0
  try clear hcz41_1
  try clear hcz41_2
  try clear hcz41_3
  try clear hcz41_4
  try clear hcz41_5
  try clear hcz46_0
  try clear hcz46_1
  try clear hcz46_2
  try clear hcz46_3
  try clear hcz46_4
  try clear hcz46_5
  try clear hcz49_0
  try clear hcz49_1
  try clear hcz49_2
  try clear hcz49_3
  try clear hcz49_4
  try clear hcz49_5
  try clear hcz53_0
  try clear hcz53_1
  try clear hcz53_2
  try clear hcz53_3
  try clear hcz53_4
  try clear hcz53_5
  try clear hcz56_0
  try clear hcz56_1
  try clear hcz56_2
  try clear hcz56_3
  try clear hcz56_4
  try clear hcz56_5
  try clear hcz9_0
  try clear hcz9_1
  try clear hcz9_2
  try clear hcz9_3
  try clear hcz9_4
  try clear hcz9_5
  try clear hcz9_6
  try clear hfz13_0
  try clear hfz13_1
  try clear hfz13_2
  try clear hfz13_3
  try clear hfz13_4
  try clear hfz13_5
  try clear hfz17_0
  try clear hfz17_1
  try clear hfz17_2
  try clear hfz17_3
  try clear hfz17_4
  try clear hfz17_5
  try clear hfz22_0
  try clear hfz22_1
  try clear hfz22_2
  try clear hfz22_3
  try clear hfz22_4
  try clear hfz22_5
  try clear hfz25_0
  try clear hfz25_1
  try clear hfz25_2
  try clear hfz25_3
  try clear hfz25_4
  try clear hfz25_5
  try clear hfz30_0
  try clear hfz30_1
  try clear hfz30_2
  try clear hfz30_3
  try clear hfz30_4
  try clear hfz30_5
  try clear hfz33_0
  try clear hfz33_1
  try clear hfz33_2
  try clear hfz33_3
  try clear hfz33_4
  try clear hfz33_5
  try clear hfz38_0
  try clear hfz38_1
  try clear hfz38_2
  try clear hfz38_3
  try clear hfz38_4
  try clear hfz38_5
  try clear hfz41_0
  try clear hfz41_1
  try clear hfz41_2
  try clear hfz41_3
  try clear hfz41_4
  try clear hfz41_5
  try clear hfz46_0
  try clear hfz46_1
  try clear hfz46_2
  try clear hfz46_3
  try clear hfz46_4
  try clear hfz46_5
  try clear hfz49_0
  try clear hfz49_1
  try clear hfz49_2
  try clear hfz49_3
  try clear hfz49_4
  try clear hfz49_5
  try clear hfz53_0
  try clear hfz53_1
  try clear hfz53_2
  try clear hfz53_3
  try clear hfz53_4
  try clear hfz53_5
  try clear hfz56_0
  try clear hfz56_1
  try clear hfz56_2
  try clear hfz56_3
  try clear hfz56_4
  try clear hfz56_5
  try clear hfz9_0
  try clear hfz9_1
  try clear hfz9_2
  try clear hfz9_3
  try clear hfz9_4
  try clear hfz9_5
  try clear hfz9_6
  obtain ⟨kq, x588001_5, x588002_5, x588003_5, x588004_5, x588005_5, HA, HJ5, BK578, BK586, BK587, HB⟩ := hcut
  cases kq with
  | zero => exact absurd HA.out (by simp [isoglosslaw12_AliasSmall.j0])
  | succ kj5 =>
   have H := HA.out
   clear HA
   simp only [isoglosslaw12_AliasSmall.j0] at H
   by_cases c57 : t579 = true
   ·
    subst c57
    have H1 : ((alias_Right.f kj5 t580 t581 t582 t583 t584 t585).bind fun t594 => (if t594 = true then ((alias_Right.f kj5 t580 x588001_5 x588002_5 x588003_5 x588004_5 x588005_5).bind fun t595 => (some (t595 == (t580 == t580 && (t581.toList == x588001_5.toList && (t582.toList == x588002_5.toList && (t583.toList == x588003_5.toList && (t584.toList == x588004_5.toList && (t585.toList == x588005_5.toList))))))))) else (some false))) = some r := by rw [if_pos rfl] at H; exact H
    clear H
    have H := H1
    clear H1
    replace H := Option.bind_eq_some_iff.mp H
    obtain ⟨t594, A580, H⟩ := H
    have A58 := ak A580
    clear A580
    by_cases c59 : t594 = true
    ·
     subst c59
     have H1 : ((alias_Right.f kj5 t580 x588001_5 x588002_5 x588003_5 x588004_5 x588005_5).bind fun t595 => (some (t595 == (t580 == t580 && (t581.toList == x588001_5.toList && (t582.toList == x588002_5.toList && (t583.toList == x588003_5.toList && (t584.toList == x588004_5.toList && (t585.toList == x588005_5.toList))))))))) = some r := by rw [if_pos rfl] at H; exact H
     clear H
     have H := H1
     clear H1
     replace H := Option.bind_eq_some_iff.mp H
     obtain ⟨t595, A600, H⟩ := H
     have A60 := ak A600
     clear A600
     obtain rfl := Option.some.inj H
     try go_wp2
     have n0_ := ak (blk_drew BK578.out)
     have n1_ := ak (blk_drew BK586.out)
     have n2_ := ak (blk_drew BK587.out)
     have n3_ := ak (below_drew1 HB.out)
     clear BK578
     clear BK586
     clear BK587
     clear HB
     have BK578 := n0_
     have BK586 := n1_
     have BK587 := n2_
     have HB := n3_
     clear n0_ n1_ n2_ n3_
     refine start_ (n := 14) (S := fun w' => w'.cell? ⟨gb586, 0, none⟩ = some (.int .i64 t580) ∧ w'.cell? ⟨gb586, 1, none⟩ = some (.string t581) ∧ w'.cell? ⟨gb586, 2, none⟩ = some (.string t582) ∧ w'.cell? ⟨gb586, 3, none⟩ = some (.string t583) ∧ w'.cell? ⟨gb586, 4, none⟩ = some (.string t584) ∧ w'.cell? ⟨gb586, 5, none⟩ = some (.string t585) ∧ w'.cell? ⟨gb587, 0, none⟩ = some (.int .i64 t580) ∧ w'.cell? ⟨gb587, 1, none⟩ = some (.string x588001_5) ∧ w'.cell? ⟨gb587, 2, none⟩ = some (.string x588002_5) ∧ w'.cell? ⟨gb587, 3, none⟩ = some (.string x588003_5) ∧ w'.cell? ⟨gb587, 4, none⟩ = some (.string x588004_5) ∧ w'.cell? ⟨gb587, 5, none⟩ = some (.string x588005_5)) (ds := []) #[false, false, false, false, false, false, false, false, false, false, false, false, false, false] (by kernel_rfl) rfl rfl ⟨(blk_cell BK586.out 0).trans rfl, (blk_cell BK586.out 1).trans rfl, (blk_cell BK586.out 2).trans rfl, (blk_cell BK586.out 3).trans rfl, (blk_cell BK586.out 4).trans rfl, (blk_cell BK586.out 5).trans rfl, (blk_cell BK587.out 0).trans rfl, (blk_cell BK587.out 1).trans rfl, (blk_cell BK587.out 2).trans rfl, (blk_cell BK587.out 3).trans rfl, (blk_cell BK587.out 4).trans rfl, (blk_cell BK587.out 5).trans rfl⟩ (fun hHeld => ?_); refine with_tabW isoglosslaw12_AliasSmall.tab15 isoglosslaw12_AliasSmall.bits15 (fun HT_ HW_ => ?_)
     generalize wc.drew = w61 at BK578 BK586 BK587 HB hHeld ⊢
     refine pu 0 (some 43) (M 14 1) ?_
     refine pu 1 (some 44) (M 14 3) ?_
     refine take_ (i := 2) (N := some 45) (v := ?_) (a' := ?_) (M 14 7) rfl rfl (take_ofW HT_.out HW_.out (by kernel_rfl)) (fun _ _ _ h => h) (Or.inl ⟨by rfl, ?_⟩) hHeld ?_ ?_
     rotate_left
     ·
      rintro w' ⟨s0, s1, s2, s3, s4, s5, s6, s7, s8, s9, s10, s11⟩
      go_simp
      with_reducible rfl
     rotate_left
     ·
      simp only [Act.put, pA, pB, pC, i64_w, i32_w]
      rfl
     refine one_ (i := 3) (N := some 46) (M 14 15) rfl rfl (one_of HT_.out (by kernel_rfl)) (by decide) (fun K hK => ?_)
     refine goes_ Tryd.func35 (by kernel_rfl) rfl #[.agg #[.int .i64 t580, .string t581, .string t582, .string t583, .string t584, .string t585]] (by rfl) rfl rfl mq ?_
     with_reducible refine (alias_Right.calls kj5 t580 t581 t582 t583 t584 t585 true _ A58.out HG.out.on).mono ?_
     rintro e w62 ⟨rfl, hb⟩
     refine ⟨_, rfl, ?_⟩
     have n0_ := ak (blk_below (g := gb578) (bx BK578.out) hb)
     have n1_ := ak (blk_below (g := gb586) (bx BK586.out) hb)
     have n2_ := ak (blk_below (g := gb587) (bx BK587.out) hb)
     have n3_ := ak (below_step bq hb)
     clear BK578
     clear BK586
     clear BK587
     clear HB
     have BK578 := n0_
     have BK586 := n1_
     have BK587 := n2_
     have HB := n3_
     clear n0_ n1_ n2_ n3_
     (try clear hb)
     (try clear hb2)
     (try clear hk)
     (try clear hi)
     refine hK.out _ _ ⟨(blk_cell BK586.out 0).trans rfl, (blk_cell BK586.out 1).trans rfl, (blk_cell BK586.out 2).trans rfl, (blk_cell BK586.out 3).trans rfl, (blk_cell BK586.out 4).trans rfl, (blk_cell BK586.out 5).trans rfl, (blk_cell BK587.out 0).trans rfl, (blk_cell BK587.out 1).trans rfl, (blk_cell BK587.out 2).trans rfl, (blk_cell BK587.out 3).trans rfl, (blk_cell BK587.out 4).trans rfl, (blk_cell BK587.out 5).trans rfl⟩ (fun hHeld => ?_)
     clear hK K
     refine norm_ (a' := ?_) ?_ ?_
     rotate_left
     ·
      show Act.put _ (some 46) _ = _
      simp only [Act.put, pA, pB, pC, i64_w, i32_w]
      rfl
     refine pu 4 (some 47) (M 14 31) ?_
     refine pu 5 (some 48) (M 14 63) ?_
     refine take_ (i := 6) (N := some 49) (v := ?_) (a' := ?_) (M 14 127) rfl rfl (take_ofW HT_.out HW_.out (by kernel_rfl)) (fun _ _ _ h => h) (Or.inl ⟨by rfl, ?_⟩) hHeld ?_ ?_
     rotate_left
     ·
      rintro w' ⟨s0, s1, s2, s3, s4, s5, s6, s7, s8, s9, s10, s11⟩
      go_simp
      with_reducible rfl
     rotate_left
     ·
      simp only [Act.put, pA, pB, pC, i64_w, i32_w]
      rfl
     refine take_ (i := 8) (N := some 51) (v := ?_) (a' := ?_) (M 14 383) rfl rfl (take_ofW HT_.out HW_.out (by kernel_rfl)) (fun _ _ _ h => h) (Or.inl ⟨by rfl, ?_⟩) hHeld ?_ ?_
     rotate_left
     ·
      rintro w' ⟨s0, s1, s2, s3, s4, s5, s6, s7, s8, s9, s10, s11⟩
      go_simp
      with_reducible rfl
     rotate_left
     ·
      simp only [Act.put, pA, pB, pC, i64_w, i32_w]
      rfl
     refine take_ (i := 9) (N := some 52) (v := ?_) (a' := ?_) (M 14 895) rfl rfl (take_ofW HT_.out HW_.out (by kernel_rfl)) (fun _ _ _ h => h) (Or.inl ⟨by rfl, ?_⟩) hHeld ?_ ?_
     rotate_left
     ·
      rintro w' ⟨s0, s1, s2, s3, s4, s5, s6, s7, s8, s9, s10, s11⟩
      go_simp
      with_reducible rfl
     rotate_left
     ·
      simp only [Act.put, pA, pB, pC, i64_w, i32_w]
      rfl
     refine pu 10 (some 53) (M 14 1919) ?_
     refine one_ (i := 7) (N := some 50) (M 14 2047) rfl rfl (one_of HT_.out (by kernel_rfl)) (by decide) (fun K hK => ?_)
     refine goes_ Tryd.func35 (by kernel_rfl) rfl #[.agg #[.int .i64 t580, .string x588001_5, .string x588002_5, .string x588003_5, .string x588004_5, .string x588005_5]] (by rfl) rfl rfl mq ?_
     with_reducible refine (alias_Right.calls kj5 t580 x588001_5 x588002_5 x588003_5 x588004_5 x588005_5 t595 _ A60.out HG.out.on).mono ?_
     rintro e w63 ⟨rfl, hb⟩
     refine ⟨_, rfl, ?_⟩
     have n0_ := ak (blk_below (g := gb578) (bx BK578.out) hb)
     have n1_ := ak (blk_below (g := gb586) (bx BK586.out) hb)
     have n2_ := ak (blk_below (g := gb587) (bx BK587.out) hb)
     have n3_ := ak (below_step bq hb)
     clear BK578
     clear BK586
     clear BK587
     clear HB
     have BK578 := n0_
     have BK586 := n1_
     have BK587 := n2_
     have HB := n3_
     clear n0_ n1_ n2_ n3_
     (try clear hb)
     (try clear hb2)
     (try clear hk)
     (try clear hi)
     refine hK.out _ _ ⟨(blk_cell BK586.out 0).trans rfl, (blk_cell BK586.out 1).trans rfl, (blk_cell BK586.out 2).trans rfl, (blk_cell BK586.out 3).trans rfl, (blk_cell BK586.out 4).trans rfl, (blk_cell BK586.out 5).trans rfl, (blk_cell BK587.out 0).trans rfl, (blk_cell BK587.out 1).trans rfl, (blk_cell BK587.out 2).trans rfl, (blk_cell BK587.out 3).trans rfl, (blk_cell BK587.out 4).trans rfl, (blk_cell BK587.out 5).trans rfl⟩ (fun hHeld => ?_)
     clear hK K
     refine norm_ (a' := ?_) ?_ ?_
     rotate_left
     ·
      show Act.put _ (some 50) _ = _
      simp only [Act.put, pA, pB, pC, i64_w, i32_w]
      rfl
     refine pu 11 (some 54) (M 14 4095) ?_
     refine pu 12 (some 55) (M 14 8191) ?_
     refine pu 13 (some 4) (M 14 16383) ?_
     refine done_ (done_of HT_.out (by kernel_rfl)) ?_
     try go_wp2
     go_ret
     exact ⟨by first | rfl | (simp [errW_none, errW_some] <;> rfl) | (simp [*, errW_none, errW_some] <;> rfl), bq⟩
    ·
     replace c59 := Bool.eq_false_iff.mpr c59
     subst c59
     have H1 : (some false) = some r := by rw [if_neg (show ¬ (false = true) by decide)] at H; exact H
     clear H
     have H := H1
     clear H1
     obtain rfl := Option.some.inj H
     try go_wp2
     have n0_ := ak (blk_drew BK578.out)
     have n1_ := ak (blk_drew BK586.out)
     have n2_ := ak (blk_drew BK587.out)
     have n3_ := ak (below_drew1 HB.out)
     clear BK578
     clear BK586
     clear BK587
     clear HB
     have BK578 := n0_
     have BK586 := n1_
     have BK587 := n2_
     have HB := n3_
     clear n0_ n1_ n2_ n3_
     refine start_ (n := 14) (S := fun w' => w'.cell? ⟨gb586, 0, none⟩ = some (.int .i64 t580) ∧ w'.cell? ⟨gb586, 1, none⟩ = some (.string t581) ∧ w'.cell? ⟨gb586, 2, none⟩ = some (.string t582) ∧ w'.cell? ⟨gb586, 3, none⟩ = some (.string t583) ∧ w'.cell? ⟨gb586, 4, none⟩ = some (.string t584) ∧ w'.cell? ⟨gb586, 5, none⟩ = some (.string t585)) (ds := []) #[false, false, false, false, false, false, false, false, false, false, false, false, false, false] (by kernel_rfl) rfl rfl ⟨(blk_cell BK586.out 0).trans rfl, (blk_cell BK586.out 1).trans rfl, (blk_cell BK586.out 2).trans rfl, (blk_cell BK586.out 3).trans rfl, (blk_cell BK586.out 4).trans rfl, (blk_cell BK586.out 5).trans rfl⟩ (fun hHeld => ?_); refine with_tabW isoglosslaw12_AliasSmall.tab15 isoglosslaw12_AliasSmall.bits15 (fun HT_ HW_ => ?_)
     generalize wc.drew = w64 at BK578 BK586 BK587 HB hHeld ⊢
     refine pu 0 (some 43) (M 14 1) ?_
     refine pu 1 (some 44) (M 14 3) ?_
     refine take_ (i := 2) (N := some 45) (v := ?_) (a' := ?_) (M 14 7) rfl rfl (take_ofW HT_.out HW_.out (by kernel_rfl)) (fun _ _ _ h => h) (Or.inl ⟨by rfl, ?_⟩) hHeld ?_ ?_
     rotate_left
     ·
      rintro w' ⟨s0, s1, s2, s3, s4, s5⟩
      go_simp
      with_reducible rfl
     rotate_left
     ·
      simp only [Act.put, pA, pB, pC, i64_w, i32_w]
      rfl
     refine one_ (i := 3) (N := some 46) (M 14 15) rfl rfl (one_of HT_.out (by kernel_rfl)) (by decide) (fun K hK => ?_)
     refine goes_ Tryd.func35 (by kernel_rfl) rfl #[.agg #[.int .i64 t580, .string t581, .string t582, .string t583, .string t584, .string t585]] (by rfl) rfl rfl mq ?_
     with_reducible refine (alias_Right.calls kj5 t580 t581 t582 t583 t584 t585 false _ A58.out HG.out.on).mono ?_
     rintro e w65 ⟨rfl, hb⟩
     refine ⟨_, rfl, ?_⟩
     have n0_ := ak (blk_below (g := gb578) (bx BK578.out) hb)
     have n1_ := ak (blk_below (g := gb586) (bx BK586.out) hb)
     have n2_ := ak (blk_below (g := gb587) (bx BK587.out) hb)
     have n3_ := ak (below_step bq hb)
     clear BK578
     clear BK586
     clear BK587
     clear HB
     have BK578 := n0_
     have BK586 := n1_
     have BK587 := n2_
     have HB := n3_
     clear n0_ n1_ n2_ n3_
     (try clear hb)
     (try clear hb2)
     (try clear hk)
     (try clear hi)
     refine hK.out _ _ ⟨(blk_cell BK586.out 0).trans rfl, (blk_cell BK586.out 1).trans rfl, (blk_cell BK586.out 2).trans rfl, (blk_cell BK586.out 3).trans rfl, (blk_cell BK586.out 4).trans rfl, (blk_cell BK586.out 5).trans rfl⟩ (fun hHeld => ?_)
     clear hK K
     refine norm_ (a' := ?_) ?_ ?_
     rotate_left
     ·
      show Act.put _ (some 46) _ = _
      simp only [Act.put, pA, pB, pC, i64_w, i32_w]
      rfl
     refine pu 4 (some 47) (M 14 31) ?_
     refine pu 5 (some 48) (M 14 63) ?_
     refine pn 6 (some 49) (M 14 127) ?_
     refine pn 7 (some 50) (M 14 255) ?_
     refine pn 8 (some 51) (M 14 511) ?_
     refine pn 9 (some 52) (M 14 1023) ?_
     refine pn 10 (some 53) (M 14 2047) ?_
     refine pn 11 (some 54) (M 14 4095) ?_
     refine pu 12 (some 55) (M 14 8191) ?_
     refine pu 13 (some 4) (M 14 16383) ?_
     refine done_ (done_of HT_.out (by kernel_rfl)) ?_
     try go_wp2
     go_ret
     exact ⟨by first | rfl | (simp [errW_none, errW_some] <;> rfl) | (simp [*, errW_none, errW_some] <;> rfl), bq⟩
   ·
    replace c57 := Bool.eq_false_iff.mpr c57
    subst c57
    have H1 : (some false) = some r := by rw [if_neg (show ¬ (false = true) by decide)] at H; exact H
    clear H
    have H := H1
    clear H1
    obtain rfl := Option.some.inj H
    try go_wp2
    have n0_ := ak (blk_drew BK578.out)
    have n1_ := ak (blk_drew BK586.out)
    have n2_ := ak (blk_drew BK587.out)
    have n3_ := ak (below_drew1 HB.out)
    clear BK578
    clear BK586
    clear BK587
    clear HB
    have BK578 := n0_
    have BK586 := n1_
    have BK587 := n2_
    have HB := n3_
    clear n0_ n1_ n2_ n3_
    refine start_ (n := 14) (S := fun w' => True) (ds := []) #[false, false, false, false, false, false, false, false, false, false, false, false, false, false] (by kernel_rfl) rfl rfl trivial (fun hHeld => ?_); refine with_tabW isoglosslaw12_AliasSmall.tab15 isoglosslaw12_AliasSmall.bits15 (fun HT_ HW_ => ?_)
    generalize wc.drew = w66 at BK578 BK586 BK587 HB hHeld ⊢
    refine pu 0 (some 43) (M 14 1) ?_
    refine pu 1 (some 44) (M 14 3) ?_
    refine pn 2 (some 45) (M 14 7) ?_
    refine pn 3 (some 46) (M 14 15) ?_
    refine pu 4 (some 47) (M 14 31) ?_
    refine pu 5 (some 48) (M 14 63) ?_
    refine pn 6 (some 49) (M 14 127) ?_
    refine pn 7 (some 50) (M 14 255) ?_
    refine pn 8 (some 51) (M 14 511) ?_
    refine pn 9 (some 52) (M 14 1023) ?_
    refine pn 10 (some 53) (M 14 2047) ?_
    refine pn 11 (some 54) (M 14 4095) ?_
    refine pu 12 (some 55) (M 14 8191) ?_
    refine pu 13 (some 4) (M 14 16383) ?_
    refine done_ (done_of HT_.out (by kernel_rfl)) ?_
    try go_wp2
    go_ret
    exact ⟨by first | rfl | (simp [errW_none, errW_some] <;> rfl) | (simp [*, errW_none, errW_some] <;> rfl), bq⟩

def isoglosslaw12_AliasSmall.Pure : Prop := ∀ (a0_0 : Int) (a0_1 : Int) (a0_2 : Int) (a0_3 : Int) (a0_4 : Int) (a0_5 : Int) (a0_6 : Int) (a1 : Int), (Lit.int .i64 a0_0).wf = true → (Lit.int .i64 a0_1).wf = true → (Lit.int .i64 a0_2).wf = true → (Lit.int .i64 a0_3).wf = true → (Lit.int .i64 a0_4).wf = true → (Lit.int .i64 a0_5).wf = true → (Lit.int .i64 a0_6).wf = true → (Lit.int .i64 a1).wf = true → ∃ k, isoglosslaw12_AliasSmall.f k a0_0 a0_1 a0_2 a0_3 a0_4 a0_5 a0_6 a1 = some true
theorem isoglosslaw12_AliasSmall.walk (P : isoglosslaw12_AliasSmall.Pure) (a0_0 : Int) (a0_1 : Int) (a0_2 : Int) (a0_3 : Int) (a0_4 : Int) (a0_5 : Int) (a0_6 : Int) (a1 : Int) (w : World) (w0_0 : (Lit.int .i64 a0_0).wf = true) (w0_1 : (Lit.int .i64 a0_1).wf = true) (w0_2 : (Lit.int .i64 a0_2).wf = true) (w0_3 : (Lit.int .i64 a0_3).wf = true) (w0_4 : (Lit.int .i64 a0_4).wf = true) (w0_5 : (Lit.int .i64 a0_5).wf = true) (w0_6 : (Lit.int .i64 a0_6).wf = true) (w1 : (Lit.int .i64 a1).wf = true) (hG : GrandW.G w) :
  Calls Tryd.prog 9 #[.agg #[.int .i64 a0_0, .int .i64 a0_1, .int .i64 a0_2, .int .i64 a0_3, .int .i64 a0_4, .int .i64 a0_5, .int .i64 a0_6], .int .i64 a1] w fun e w' => e = .returned (.bool true) ∧ Below w.heap.size w w' := by
 obtain ⟨k, h⟩ := P a0_0 a0_1 a0_2 a0_3 a0_4 a0_5 a0_6 a1 w0_0 w0_1 w0_2 w0_3 w0_4 w0_5 w0_6 w1
 refine (isoglosslaw12_AliasSmall.calls k a0_0 a0_1 a0_2 a0_3 a0_4 a0_5 a0_6 a1 true w h hG).mono ?_
 rintro e w' ⟨rfl, hd⟩
 exact ⟨rfl, hd⟩

end Go.Proofs.YtmbfnbnlajchmaaDoor.P
