/- Made by a program of this seat's own (myprint.py, round the kit's print): what the functions compute, and that they do. -/
import Derived.Test.YtmbfnbnlajchmaaDoorAdP0
import Derived.Test.YtmbfnbnlajchmaaDoorAdP11
import Derived.Test.YtmbfnbnlajchmaaDoorAdP13
import Derived.Test.YtmbfnbnlajchmaaDoorAdP17
import Derived.Test.YtmbfnbnlajchmaaDoorAdP26
import Derived.Test.YtmbfnbnlajchmaaDoorAdTight
namespace Go.Proofs.YtmbfnbnlajchmaaDoor.P
open Go.RowKit Go.Proofs.YtmbfnbnlajchmaaDoorW.PrintWords Go.Proofs.YtmbfnbnlajchmaaDoorW.PrintLast Go.Proofs.YtmbfnbnlajchmaaDoorW.PrintMore
attribute [local go_sem] StrOrd.binOp_gtr StrOrd.binOp_leq max2_int min2_int max_two min_two max_three min_three max_four min_four   -- for this text's walks alone
set_option linter.unusedVariables false
set_option linter.unusedSimpArgs false

def isoglosslaw12_AliasDecodes.j0 : Nat → ByteArray → Bool → Int → Int → Int → Int → Int → Int → Int → Int → Int → Option (Bool)
 | 0, _, _, _, _, _, _, _, _, _, _, _ => none
 | k + 1, x1, x7, x736000, x736001, x736002, x736003, x736004, x736005, x736006, x737000, x737001 => (isoglossref12_Made.f k x736000 x736001 x736002 x736003 x736004 x736005 x736006).bind fun bt738 => ((isoglossref12_Row.f k bt738.1 bt738.2.1 bt738.2.2.1 bt738.2.2.2.1 bt738.2.2.2.2.1 bt738.2.2.2.2.2).bind fun t744 => ((isoglosslaw12_rest.f x737000 (t744.size : Int)).bind fun t745 => (if x7 = true then ((isoglosslaw12_decodes.f k t744).bind fun t746 => (if t746 = true then (if 0 ≤ t745 then (if t745 ≤ (t744.size : Int) then ((some (([(x737001) % 256] : List Int) : List Int)).bind fun y747 => (if (t744.extract 0 (t745 : Int).toNat).size + (strOfNums y747).size ≤ 9223372036854775807 then (if 0 ≤ (wrap64 (t745 + 1)) then (if (wrap64 (t745 + 1)) ≤ (t744.size : Int) then (if ((t744.extract 0 (t745 : Int).toNat) ++ (strOfNums y747)).size + (t744.extract ((wrap64 (t745 + 1)) : Int).toNat t744.size).size ≤ 9223372036854775807 then ((isoglosslaw12_decodes.f k (((t744.extract 0 (t745 : Int).toNat) ++ (strOfNums y747)) ++ (t744.extract ((wrap64 (t745 + 1)) : Int).toNat t744.size))).bind fun t750 => (if t750 = true then ((isoglosslaw12_decodes.f k x1).bind fun t751 => (if t751 = true then (if t744.size + 1 ≤ 9223372036854775807 then ((isoglosslaw12_decodes.f k (t744 ++ (⟨#[97]⟩ : ByteArray))).bind fun t752 => (if t752 = true then (if 0 ≤ 40 then (if 40 ≤ (t744.size : Int) then ((isoglosslaw12_decodes.f k (t744.extract 0 40)).bind fun t753 => (some t753)) else (none)) else (none)) else (some false))) else (none)) else (some false))) else (some false))) else (none)) else (none)) else (none)) else (none))) else (none)) else (none)) else (some false))) else (some false))))
def isoglosslaw12_AliasDecodes.f (k : Nat) (a0_0 : Int) (a0_1 : Int) (a0_2 : Int) (a0_3 : Int) (a0_4 : Int) (a0_5 : Int) (a0_6 : Int) (a1 : ByteArray) (a2_0 : Int) (a2_1 : Int) : Option (Bool) := (isoglosslaw12_awake.f k).bind fun t737 => (if (a1.size : Int) > 50 then (if 0 ≤ 50 then (if 50 ≤ (a1.size : Int) then (isoglosslaw12_AliasDecodes.j0 k (a1.extract 0 50) t737 a0_0 a0_1 a0_2 a0_3 a0_4 a0_5 a0_6 a2_0 a2_1) else (none)) else (none)) else (isoglosslaw12_AliasDecodes.j0 k a1 t737 a0_0 a0_1 a0_2 a0_3 a0_4 a0_5 a0_6 a2_0 a2_1))
def isoglosslaw12_AliasDecodes.T6 : Bool × List (List Nat × List Nat) := (true, [([], []), ([0], [0]), ([1], [1]), ([2, 1, 1], [1, 2]), ([1, 3], [1, 3]), ([4, 3], [4]), ([5], [5]), ([5], [5]), ([6, 7, 5], [5, 6, 7]), ([5], [5]), ([9, 5], [5, 9]), ([10, 5], [5, 10]), ([11, 5], [5, 11]), ([12, 5], [5, 12]), ([8, 13, 5], [5, 8, 13]), ([5], [5]), ([5], [5]), ([16, 5], [5, 16]), ([15, 17, 5], [5, 15, 17]), ([14, 18, 5], [5, 14, 18]), ([19, 5, 5], [5, 19]), ([5, 20], [5, 20]), ([21, 20], [21]), ([22], [22]), ([23, 22, 22], [22, 23]), ([22, 24], [22, 24]), ([25, 24], [25]), ([26], [26]), ([27, 26], [26, 27]), ([28, 26, 26], [26, 28]), ([26, 29], [26, 29]), ([30, 29], [30]), ([31], [31]), ([32, 31], [31, 32]), ([33, 31, 31], [31, 33]), ([31, 34], [31, 34]), ([35, 34, 0, 1, 2, 3, 4, 5, 6, 7, 8, 9, 10, 11, 12, 13, 14, 15, 16, 17, 18, 19, 20, 21, 22, 23, 24, 25, 26, 27, 28, 29, 30, 31, 32, 33, 34, 35], [35])])
def isoglosslaw12_AliasDecodes.B6 : List Nat := [0, 1, 3, 7, 15, 31, 63, 63, 255, 63, 575, 1599, 3647, 7743, 16383, 63, 63, 65599, 229439, 524287, 1048575, 2097151, 4194303, 8388607, 16777215, 33554431, 67108863, 134217727, 268435455, 536870911, 1073741823, 2147483647, 4294967295, 8589934591, 17179869183, 34359738367, 68719476735]
theorem isoglosslaw12_AliasDecodes.tab6 : rtab .any (opsOf Tryd.f12 6) = isoglosslaw12_AliasDecodes.T6 := by kernel_rfl
theorem isoglosslaw12_AliasDecodes.bits6 : waitsOk isoglosslaw12_AliasDecodes.T6.2 isoglosslaw12_AliasDecodes.B6 = true := by kernel_rfl
set_option maxHeartbeats 8000000 in
set_option maxRecDepth 100000 in
theorem isoglosslaw12_AliasDecodes.calls (k : Nat) (a0_0 : Int) (a0_1 : Int) (a0_2 : Int) (a0_3 : Int) (a0_4 : Int) (a0_5 : Int) (a0_6 : Int) (a1 : ByteArray) (a2_0 : Int) (a2_1 : Int) (r : Bool) (w : World) (h : isoglosslaw12_AliasDecodes.f k a0_0 a0_1 a0_2 a0_3 a0_4 a0_5 a0_6 a1 a2_0 a2_1 = some r) (hG : GrandW.G w) :
  Calls Tryd.prog 12 #[.agg #[.int .i64 a0_0, .int .i64 a0_1, .int .i64 a0_2, .int .i64 a0_3, .int .i64 a0_4, .int .i64 a0_5, .int .i64 a0_6], .string a1, .agg #[.int .i64 a2_0, .int .i64 a2_1]] w fun e w' => e = .returned (.bool r) ∧ Below w.heap.size w w' := by
 have HG := ak hG
 clear hG
 have hu52 := Tryd.underlying52
 have hu67 := Tryd.underlying67
 have HB := ak (Below.refl w.heap.size w)
 have H : ((isoglosslaw12_awake.f k).bind fun t737 => (if (a1.size : Int) > 50 then (if 0 ≤ 50 then (if 50 ≤ (a1.size : Int) then (isoglosslaw12_AliasDecodes.j0 k (a1.extract 0 50) t737 a0_0 a0_1 a0_2 a0_3 a0_4 a0_5 a0_6 a2_0 a2_1) else (none)) else (none)) else (isoglosslaw12_AliasDecodes.j0 k a1 t737 a0_0 a0_1 a0_2 a0_3 a0_4 a0_5 a0_6 a2_0 a2_1))) = some r := h
 clear h
 replace H := Option.bind_eq_some_iff.mp H
 obtain ⟨t737, A40, H⟩ := H
 have A4 := ak A40
 clear A40
 have HC5 := ak H
 clear H
 go_enter Tryd.func12, Tryd.ntmps12
 go_upto_if 13 with (first | ((with_reducible refine gate_dst (N := 3) rfl ?_); (try (refine gate_guard (by rfl) ?_; dsimp only)); refine box_event ?hg (N := 3) ?hd (cs := #[.int .i64 a0_0, .int .i64 a0_1, .int .i64 a0_2, .int .i64 a0_3, .int .i64 a0_4, .int .i64 a0_5, .int .i64 a0_6]) (t := 52) ?hr ?_; (case hd => rfl); (case hg => rfl); (case hr => first | (go_simp; done) | (go_simp; rfl)); intro gb735 hg w6 hbox hb; have n0_ := ak (below_step bq hb); have n1_ := ak (hbox); have n2_ := ak ((by rw [hg]; exact (below_size bq) : w.heap.size ≤ gb735)); have n3_ := ak ((by rw [hg]; exact (below_size bq) : w.heap.size ≤ gb735)); clear HB; have HB := n0_; have BK735 := n1_; have GW735 := n2_; have GE735 := n3_; clear n0_ n1_ n2_ n3_; clear hb hbox hg) | ((with_reducible refine gate_dst (N := 5) rfl ?_); (try (refine gate_guard (by rfl) ?_; dsimp only)); refine box_event ?hg (N := 5) ?hd (cs := #[.int .i64 a2_0, .int .i64 a2_1]) (t := 67) ?hr ?_; (case hd => rfl); (case hg => rfl); (case hr => first | (go_simp; done) | (go_simp; rfl)); intro gb736 hg w7 hbox hb; have n0_ := ak (blk_below (g := gb735) (bx BK735.out) hb); have n1_ := ak (below_step bq hb); have n2_ := ak (hbox); have n3_ := ak ((by rw [hg]; exact (below_size bq) : w.heap.size ≤ gb736)); have n4_ := ak ((by rw [hg]; exact (below_size bq) : w.heap.size ≤ gb736)); have n5_ := ak ((by rw [hg]; exact Nat.ne_of_lt (blk_lt (g := gb735) (bx BK735.out)) : gb735 ≠ gb736)); have n6_ := ak ((by rw [hg]; exact Nat.ne_of_gt (blk_lt (g := gb735) (bx BK735.out)) : gb736 ≠ gb735)); clear BK735; clear HB; have BK735 := n0_; have HB := n1_; have BK736 := n2_; have GW736 := n3_; have GE736 := n4_; have NB735_736 := n5_; have NB736_735 := n6_; clear n0_ n1_ n2_ n3_ n4_ n5_ n6_; clear hb hbox hg) | ((with_reducible refine gate_callee (f := 30) rfl ?_); refine goesL_ (some 10) rfl rfl Tryd.func30 (by kernel_rfl) rfl #[] rfl mq ?_; (with_reducible refine (isoglosslaw12_awake.calls k  t737 _ A4.out HG.out.on).mono ?_); rintro e w8 ⟨rfl, hb⟩; refine ⟨_, rfl, ?_⟩; have n0_ := ak (blk_below (g := gb735) (bx BK735.out) hb); have n1_ := ak (blk_below (g := gb736) (bx BK736.out) hb); have n2_ := ak (below_step bq hb); clear BK735; clear BK736; clear HB; have BK735 := n0_; have BK736 := n1_; have HB := n2_; clear n0_ n1_ n2_; (try clear hb); (try clear hb2); (try clear hk); (try clear hi); (try clear A4)))
 (try simp only [Act.put, pA, pB, pC])
 go_cut [1] (fun v1 wc => ∃ (kq : Nat) (x1_4 : ByteArray), v1 = .string x1_4 ∧ Aside0 (isoglosslaw12_AliasDecodes.j0 kq x1_4 t737 a0_0 a0_1 a0_2 a0_3 a0_4 a0_5 a0_6 a2_0 a2_1 = some r) ∧ Aside0 (kq ≤ k) ∧ Aside0 (wc.heap[gb735]? = some (.cells #[.int .i64 a0_0, .int .i64 a0_1, .int .i64 a0_2, .int .i64 a0_3, .int .i64 a0_4, .int .i64 a0_5, .int .i64 a0_6] 52 (0, 0))) ∧ Aside0 (wc.heap[gb736]? = some (.cells #[.int .i64 a2_0, .int .i64 a2_1] 67 (0, 0))) ∧ Aside0 (Below w.heap.size w wc))
 case first =>
  have H := HC5.out
  clear HC5
  by_cases c9 : (a1.size : Int) > 50
  ·
   rw [if_pos c9] at H
   have c9b0 : decide (50 < (a1.size : Int)) = true := decide_eq_true c9
   have c9b1 : decide (50 < a1.size) = true := decide_eq_true (by omega)
   clear c9
   (first | rw [c9b0] | (simp only [i64_w, i32_w]; rw [c9b0]) | rw [c9b2] | skip)
   by_cases c10 : 0 ≤ 50
   ·
    rw [if_pos c10] at H
    have c10b0 := eq_true c10
    have c10b1 : decide (0 ≤ 50) = true := decide_eq_true c10
    clear c10
    by_cases c11 : 50 ≤ (a1.size : Int)
    ·
     rw [if_pos c11] at H
     have c11b0 := eq_true c11
     have c11b1 : decide (50 ≤ (a1.size : Int)) = true := decide_eq_true c11
     clear c11
     have H' := ak H
     clear H
     go_wp2
     go_meet
     case rel => exact ⟨_, (a1.extract 0 50), (by first | rfl | (simp; done) | (simp [*]; done)), H', ⟨by first | omega | exact Nat.le_refl _⟩, ⟨(bx BK735.out)⟩, ⟨(bx BK736.out)⟩, ⟨bq⟩⟩
    ·
     rw [if_neg c11] at H
     exact absurd H (by simp)
   ·
    rw [if_neg c10] at H
    exact absurd H (by simp)
  ·
   rw [if_neg c9] at H
   have c9b0 : decide (50 < (a1.size : Int)) = false := decide_eq_false c9
   have c9b1 : decide (50 < a1.size) = false := decide_eq_false (by omega)
   clear c9
   (first | rw [c9b0] | (simp only [i64_w, i32_w]; rw [c9b0]) | rw [c9b2] | skip)
   have H' := ak H
   clear H
   go_wp2
   go_meet
   case rel => exact ⟨_, (a1), (by first | rfl | (simp; done) | (simp [*]; done)), H', ⟨by first | omega | exact Nat.le_refl _⟩, ⟨(bx BK735.out)⟩, ⟨(bx BK736.out)⟩, ⟨bq⟩⟩
 case rest =>
  clear HC5
  try clear c1
  try clear p2
  try clear c3
  try clear c9
  try clear c9b0
  try clear c9b1
  try clear c10
  try clear c10b0
  try clear c10b1
  try clear c11
  try clear c11b0
  try clear c11b1
  obtain ⟨kq, x1_4, rfl, HA, HJ4, BK735, BK736, HB⟩ := hcut
  cases kq with
  | zero => exact absurd HA.out (by simp [isoglosslaw12_AliasDecodes.j0])
  | succ kj4 =>
   have H := HA.out
   clear HA
   simp only [isoglosslaw12_AliasDecodes.j0] at H
   replace H := Option.bind_eq_some_iff.mp H
   obtain ⟨⟨t738, t739, t740, t741, t742, t743⟩, A120, H⟩ := H
   replace H : ((isoglossref12_Row.f kj4 t738 t739 t740 t741 t742 t743).bind fun t744 => ((isoglosslaw12_rest.f a2_0 (t744.size : Int)).bind fun t745 => (if t737 = true then ((isoglosslaw12_decodes.f kj4 t744).bind fun t746 => (if t746 = true then (if 0 ≤ t745 then (if t745 ≤ (t744.size : Int) then ((some (([(a2_1) % 256] : List Int) : List Int)).bind fun y747 => (if (t744.extract 0 (t745 : Int).toNat).size + (strOfNums y747).size ≤ 9223372036854775807 then (if 0 ≤ (wrap64 (t745 + 1)) then (if (wrap64 (t745 + 1)) ≤ (t744.size : Int) then (if ((t744.extract 0 (t745 : Int).toNat) ++ (strOfNums y747)).size + (t744.extract ((wrap64 (t745 + 1)) : Int).toNat t744.size).size ≤ 9223372036854775807 then ((isoglosslaw12_decodes.f kj4 (((t744.extract 0 (t745 : Int).toNat) ++ (strOfNums y747)) ++ (t744.extract ((wrap64 (t745 + 1)) : Int).toNat t744.size))).bind fun t750 => (if t750 = true then ((isoglosslaw12_decodes.f kj4 x1_4).bind fun t751 => (if t751 = true then (if t744.size + 1 ≤ 9223372036854775807 then ((isoglosslaw12_decodes.f kj4 (t744 ++ (⟨#[97]⟩ : ByteArray))).bind fun t752 => (if t752 = true then (if 0 ≤ 40 then (if 40 ≤ (t744.size : Int) then ((isoglosslaw12_decodes.f kj4 (t744.extract 0 40)).bind fun t753 => (some t753)) else (none)) else (none)) else (some false))) else (none)) else (some false))) else (some false))) else (none)) else (none)) else (none)) else (none))) else (none)) else (none)) else (some false))) else (some false)))) = some r := H
   have A12 := ak A120
   clear A120
   replace H := Option.bind_eq_some_iff.mp H
   obtain ⟨t744, A130, H⟩ := H
   have A13 := ak A130
   clear A130
   replace H := Option.bind_eq_some_iff.mp H
   obtain ⟨t745, A140, H⟩ := H
   have A14 := ak A140
   clear A140
   by_cases c15 : t737 = true
   ·
    subst c15
    have H1 : ((isoglosslaw12_decodes.f kj4 t744).bind fun t746 => (if t746 = true then (if 0 ≤ t745 then (if t745 ≤ (t744.size : Int) then ((some (([(a2_1) % 256] : List Int) : List Int)).bind fun y747 => (if (t744.extract 0 (t745 : Int).toNat).size + (strOfNums y747).size ≤ 9223372036854775807 then (if 0 ≤ (wrap64 (t745 + 1)) then (if (wrap64 (t745 + 1)) ≤ (t744.size : Int) then (if ((t744.extract 0 (t745 : Int).toNat) ++ (strOfNums y747)).size + (t744.extract ((wrap64 (t745 + 1)) : Int).toNat t744.size).size ≤ 9223372036854775807 then ((isoglosslaw12_decodes.f kj4 (((t744.extract 0 (t745 : Int).toNat) ++ (strOfNums y747)) ++ (t744.extract ((wrap64 (t745 + 1)) : Int).toNat t744.size))).bind fun t750 => (if t750 = true then ((isoglosslaw12_decodes.f kj4 x1_4).bind fun t751 => (if t751 = true then (if t744.size + 1 ≤ 9223372036854775807 then ((isoglosslaw12_decodes.f kj4 (t744 ++ (⟨#[97]⟩ : ByteArray))).bind fun t752 => (if t752 = true then (if 0 ≤ 40 then (if 40 ≤ (t744.size : Int) then ((isoglosslaw12_decodes.f kj4 (t744.extract 0 40)).bind fun t753 => (some t753)) else (none)) else (none)) else (some false))) else (none)) else (some false))) else (some false))) else (none)) else (none)) else (none)) else (none))) else (none)) else (none)) else (some false))) = some r := by rw [if_pos rfl] at H; exact H
    clear H
    have H := H1
    clear H1
    replace H := Option.bind_eq_some_iff.mp H
    obtain ⟨t746, A160, H⟩ := H
    have A16 := ak A160
    clear A160
    by_cases c17 : t746 = true
    ·
     subst c17
     have H1 : (if 0 ≤ t745 then (if t745 ≤ (t744.size : Int) then ((some (([(a2_1) % 256] : List Int) : List Int)).bind fun y747 => (if (t744.extract 0 (t745 : Int).toNat).size + (strOfNums y747).size ≤ 9223372036854775807 then (if 0 ≤ (wrap64 (t745 + 1)) then (if (wrap64 (t745 + 1)) ≤ (t744.size : Int) then (if ((t744.extract 0 (t745 : Int).toNat) ++ (strOfNums y747)).size + (t744.extract ((wrap64 (t745 + 1)) : Int).toNat t744.size).size ≤ 9223372036854775807 then ((isoglosslaw12_decodes.f kj4 (((t744.extract 0 (t745 : Int).toNat) ++ (strOfNums y747)) ++ (t744.extract ((wrap64 (t745 + 1)) : Int).toNat t744.size))).bind fun t750 => (if t750 = true then ((isoglosslaw12_decodes.f kj4 x1_4).bind fun t751 => (if t751 = true then (if t744.size + 1 ≤ 9223372036854775807 then ((isoglosslaw12_decodes.f kj4 (t744 ++ (⟨#[97]⟩ : ByteArray))).bind fun t752 => (if t752 = true then (if 0 ≤ 40 then (if 40 ≤ (t744.size : Int) then ((isoglosslaw12_decodes.f kj4 (t744.extract 0 40)).bind fun t753 => (some t753)) else (none)) else (none)) else (some false))) else (none)) else (some false))) else (some false))) else (none)) else (none)) else (none)) else (none))) else (none)) else (none)) = some r := by rw [if_pos rfl] at H; exact H
     clear H
     have H := H1
     clear H1
     by_cases c18 : 0 ≤ t745
     ·
      rw [if_pos c18] at H
      have c18b0 := eq_true c18
      have c18b1 : decide (0 ≤ t745) = true := decide_eq_true c18
      clear c18
      by_cases c19 : t745 ≤ (t744.size : Int)
      ·
       rw [if_pos c19] at H
       have c19b0 := eq_true c19
       have c19b1 : decide (t745 ≤ (t744.size : Int)) = true := decide_eq_true c19
       clear c19
       obtain ⟨y747, hy747⟩ : ∃ y_ : List Int, y_ = (([(a2_1) % 256] : List Int)) := ⟨_, rfl⟩
       replace H : (if (t744.extract 0 (t745 : Int).toNat).size + (strOfNums y747).size ≤ 9223372036854775807 then (if 0 ≤ (wrap64 (t745 + 1)) then (if (wrap64 (t745 + 1)) ≤ (t744.size : Int) then (if ((t744.extract 0 (t745 : Int).toNat) ++ (strOfNums y747)).size + (t744.extract ((wrap64 (t745 + 1)) : Int).toNat t744.size).size ≤ 9223372036854775807 then ((isoglosslaw12_decodes.f kj4 (((t744.extract 0 (t745 : Int).toNat) ++ (strOfNums y747)) ++ (t744.extract ((wrap64 (t745 + 1)) : Int).toNat t744.size))).bind fun t750 => (if t750 = true then ((isoglosslaw12_decodes.f kj4 x1_4).bind fun t751 => (if t751 = true then (if t744.size + 1 ≤ 9223372036854775807 then ((isoglosslaw12_decodes.f kj4 (t744 ++ (⟨#[97]⟩ : ByteArray))).bind fun t752 => (if t752 = true then (if 0 ≤ 40 then (if 40 ≤ (t744.size : Int) then ((isoglosslaw12_decodes.f kj4 (t744.extract 0 40)).bind fun t753 => (some t753)) else (none)) else (none)) else (some false))) else (none)) else (some false))) else (some false))) else (none)) else (none)) else (none)) else (none)) = some r := by first | (rw [hy747]; with_reducible exact H) | (have H2_ := (Option.bind_some _ _).symm.trans H; rw [hy747]; with_reducible exact H2_) | (have H2_ := (Option.bind_some _ _).symm.trans H; with_reducible exact H2_) | with_reducible exact H | (rw [hy747]; exact H) | exact H
       have Ny747 := ak hy747
       clear hy747
       by_cases c20 : (t744.extract 0 (t745 : Int).toNat).size + (strOfNums y747).size ≤ 9223372036854775807
       ·
        rw [if_pos c20] at H
        have c20b0 := eq_true c20
        have c20b1 : decide ((t744.extract 0 (t745 : Int).toNat).size + (strOfNums y747).size ≤ 9223372036854775807) = true := decide_eq_true c20
        try have c20b2 : (9223372036854775807 < (t744.extract 0 (t745 : Int).toNat).size + (strOfNums y747).size) = False := eq_false (Nat.not_lt.2 c20)
        try have c20b5 : (9223372036854775807 < (t745 : Int).toNat + (strOfNums y747).size) = False := eq_false (by have z1 := of_eq_true (by assumption : (0 ≤ t745) = True); have z2 := of_eq_true (by assumption : (t745 ≤ (t744.size : Int)) = True); have z3 := c20; rw [ByteArray.size_extract] at z3; omega)
        obtain ⟨ji21, hji21⟩ : ∃ j_ : Int, (wrap64 (t745 + 1)) = j_ := ⟨_, rfl⟩
        replace H : (if 0 ≤ (ji21) then (if (ji21) ≤ (t744.size : Int) then (if ((t744.extract 0 (t745 : Int).toNat) ++ (strOfNums y747)).size + (t744.extract ((ji21) : Int).toNat t744.size).size ≤ 9223372036854775807 then ((isoglosslaw12_decodes.f kj4 (((t744.extract 0 (t745 : Int).toNat) ++ (strOfNums y747)) ++ (t744.extract ((ji21) : Int).toNat t744.size))).bind fun t750 => (if t750 = true then ((isoglosslaw12_decodes.f kj4 x1_4).bind fun t751 => (if t751 = true then (if t744.size + 1 ≤ 9223372036854775807 then ((isoglosslaw12_decodes.f kj4 (t744 ++ (⟨#[97]⟩ : ByteArray))).bind fun t752 => (if t752 = true then (if 0 ≤ 40 then (if 40 ≤ (t744.size : Int) then ((isoglosslaw12_decodes.f kj4 (t744.extract 0 40)).bind fun t753 => (some t753)) else (none)) else (none)) else (some false))) else (none)) else (some false))) else (some false))) else (none)) else (none)) else (none)) = some r := by first | (rw [hji21] at H; exact H) | (simp only [hji21] at H ⊢; exact H)
        (try rw [hji21] at A12)
        (try rw [hji21] at A13)
        (try rw [hji21] at A14)
        (try rw [hji21] at A16)
        have hji21w : (IntKind.i64.wrap (t745 + 1)) = ji21 := (i64_w _).trans hji21
        by_cases c22 : 0 ≤ (ji21)
        ·
         rw [if_pos c22] at H
         have c22b0 := eq_true c22
         have c22b1 : decide (0 ≤ (ji21)) = true := decide_eq_true c22
         clear c22
         by_cases c23 : (ji21) ≤ (t744.size : Int)
         ·
          rw [if_pos c23] at H
          have c23b0 := eq_true c23
          have c23b1 : decide ((ji21) ≤ (t744.size : Int)) = true := decide_eq_true c23
          clear c23
          by_cases c24 : ((t744.extract 0 (t745 : Int).toNat) ++ (strOfNums y747)).size + (t744.extract ((ji21) : Int).toNat t744.size).size ≤ 9223372036854775807
          ·
           rw [if_pos c24] at H
           have c24b0 := eq_true c24
           have c24b1 : decide (((t744.extract 0 (t745 : Int).toNat) ++ (strOfNums y747)).size + (t744.extract ((ji21) : Int).toNat t744.size).size ≤ 9223372036854775807) = true := decide_eq_true c24
           try have c24b2 : (9223372036854775807 < ((t744.extract 0 (t745 : Int).toNat) ++ (strOfNums y747)).size + (t744.extract ((ji21) : Int).toNat t744.size).size) = False := eq_false (Nat.not_lt.2 c24)
           try have c24b5 : (9223372036854775807 < (t745 : Int).toNat + (strOfNums y747).size + (t744.size - (ji21 : Int).toNat)) = False := eq_false (by have z1 := of_eq_true (by assumption : (0 ≤ t745) = True); have z2 := of_eq_true (by assumption : (t745 ≤ (t744.size : Int)) = True); have z3 := c24; rw [ByteArray.size_append, ByteArray.size_extract, ByteArray.size_extract] at z3; omega)
           replace H := Option.bind_eq_some_iff.mp H
           obtain ⟨t750, A250, H⟩ := H
           have A25 := ak A250
           clear A250
           by_cases c26 : t750 = true
           ·
            subst c26
            have H1 : ((isoglosslaw12_decodes.f kj4 x1_4).bind fun t751 => (if t751 = true then (if t744.size + 1 ≤ 9223372036854775807 then ((isoglosslaw12_decodes.f kj4 (t744 ++ (⟨#[97]⟩ : ByteArray))).bind fun t752 => (if t752 = true then (if 0 ≤ 40 then (if 40 ≤ (t744.size : Int) then ((isoglosslaw12_decodes.f kj4 (t744.extract 0 40)).bind fun t753 => (some t753)) else (none)) else (none)) else (some false))) else (none)) else (some false))) = some r := by rw [if_pos rfl] at H; exact H
            clear H
            have H := H1
            clear H1
            replace H := Option.bind_eq_some_iff.mp H
            obtain ⟨t751, A270, H⟩ := H
            have A27 := ak A270
            clear A270
            by_cases c28 : t751 = true
            ·
             subst c28
             have H1 : (if t744.size + 1 ≤ 9223372036854775807 then ((isoglosslaw12_decodes.f kj4 (t744 ++ (⟨#[97]⟩ : ByteArray))).bind fun t752 => (if t752 = true then (if 0 ≤ 40 then (if 40 ≤ (t744.size : Int) then ((isoglosslaw12_decodes.f kj4 (t744.extract 0 40)).bind fun t753 => (some t753)) else (none)) else (none)) else (some false))) else (none)) = some r := by rw [if_pos rfl] at H; exact H
             clear H
             have H := H1
             clear H1
             by_cases c29 : t744.size + 1 ≤ 9223372036854775807
             ·
              rw [if_pos c29] at H
              have c29b0 := eq_true c29
              have c29b1 : decide (t744.size + 1 ≤ 9223372036854775807) = true := decide_eq_true c29
              try have c29b2 : (9223372036854775807 < t744.size + 1) = False := eq_false (Nat.not_lt.2 c29)
              replace H := Option.bind_eq_some_iff.mp H
              obtain ⟨t752, A300, H⟩ := H
              have A30 := ak A300
              clear A300
              by_cases c31 : t752 = true
              ·
               subst c31
               have H1 : (if 0 ≤ 40 then (if 40 ≤ (t744.size : Int) then ((isoglosslaw12_decodes.f kj4 (t744.extract 0 40)).bind fun t753 => (some t753)) else (none)) else (none)) = some r := by rw [if_pos rfl] at H; exact H
               clear H
               have H := H1
               clear H1
               by_cases c32 : 0 ≤ 40
               ·
                rw [if_pos c32] at H
                have c32b0 := eq_true c32
                have c32b1 : decide (0 ≤ 40) = true := decide_eq_true c32
                clear c32
                by_cases c33 : 40 ≤ (t744.size : Int)
                ·
                 rw [if_pos c33] at H
                 have c33b0 := eq_true c33
                 have c33b1 : decide (40 ≤ (t744.size : Int)) = true := decide_eq_true c33
                 clear c33
                 replace H := Option.bind_eq_some_iff.mp H
                 obtain ⟨t753, A340, H⟩ := H
                 have A34 := ak A340
                 clear A340
                 obtain rfl := Option.some.inj H
                 have hnb35 := NB735_736.out
                 have hnc35 := NB736_735.out
                 obtain ⟨hcz36_0, hcz36_1, hcz36_2, hcz36_3, hcz36_4, hcz36_5, hcz36_6⟩ := cz7 BK735.out
                 obtain ⟨hfz36_0, hfz36_1, hfz36_2, hfz36_3, hfz36_4, hfz36_5, hfz36_6⟩ := fz7 BK735.out
                 try go_wp2_with (first | ((with_reducible refine gate_callee (f := 34) rfl ?_); refine goesL_ (some 17) rfl rfl Tryd.func34 (by kernel_rfl) rfl #[.agg #[.int .i64 a0_0, .int .i64 a0_1, .int .i64 a0_2, .int .i64 a0_3, .int .i64 a0_4, .int .i64 a0_5, .int .i64 a0_6]] rfl mq ?_; (with_reducible refine (isoglossref12_Made.calls kj4 a0_0 a0_1 a0_2 a0_3 a0_4 a0_5 a0_6 t738 t739 t740 t741 t742 t743 _ A12.out).mono ?_); rintro e w37 ⟨rfl, hb⟩; refine ⟨_, rfl, ?_⟩; have n0_ := ak (blk_below (g := gb735) (bx BK735.out) hb); have n1_ := ak (blk_below (g := gb736) (bx BK736.out) hb); have n2_ := ak (below_step bq hb); clear BK735; clear BK736; clear HB; have BK735 := n0_; have BK736 := n1_; have HB := n2_; clear n0_ n1_ n2_; (try clear hb); (try clear hb2); (try clear hk); (try clear hi); (try clear A12)) | ((with_reducible refine gate_callee (f := 42) rfl ?_); refine goesL_ (some 18) rfl rfl Tryd.func42 (by kernel_rfl) rfl #[.agg #[.int .i64 t738, .string t739, .string t740, .string t741, .string t742, .string t743]] rfl mq ?_; (with_reducible refine (isoglossref12_Row.calls kj4 t738 t739 t740 t741 t742 t743 t744 _ A13.out).mono ?_); rintro e w38 ⟨rfl, hb⟩; refine ⟨_, rfl, ?_⟩; have n0_ := ak (blk_below (g := gb735) (bx BK735.out) hb); have n1_ := ak (blk_below (g := gb736) (bx BK736.out) hb); have n2_ := ak (below_step bq hb); clear BK735; clear BK736; clear HB; have BK735 := n0_; have BK736 := n1_; have HB := n2_; clear n0_ n1_ n2_; (try clear hb); (try clear hb2); (try clear hk); (try clear hi); obtain ⟨hcz39_0, hcz39_1⟩ := cz2 BK736.out; obtain ⟨hfz39_0, hfz39_1⟩ := fz2 BK736.out; (try clear A13)) | ((with_reducible refine gate_callee (f := 32) rfl ?_); refine goesL_ (some 23) rfl rfl Tryd.func32 (by kernel_rfl) rfl #[.int .i64 a2_0, .int .i64 (t744.size : Int)] rfl mq ?_; (with_reducible refine (isoglosslaw12_rest.calls a2_0 (t744.size : Int) t745 _ A14.out).mono ?_); rintro e w' ⟨rfl, ⟨nd, rfl⟩⟩; refine ⟨_, rfl, ?_⟩; (try clear A14)))
                 (try (rw [drewN_self w38]; generalize hq_ : World.drewN w38 _ = w38; have n0_ : Aside0 (w38.heap[gb735]? = some (.cells #[.int .i64 a0_0, .int .i64 a0_1, .int .i64 a0_2, .int .i64 a0_3, .int .i64 a0_4, .int .i64 a0_5, .int .i64 a0_6] 52 (0, 0))) := ⟨by rw [← hq_]; exact (bx BK735.out)⟩; have n1_ : Aside0 (w38.heap[gb736]? = some (.cells #[.int .i64 a2_0, .int .i64 a2_1] 67 (0, 0))) := ⟨by rw [← hq_]; exact (bx BK736.out)⟩; have n2_ : Aside0 (Below w.heap.size w w38) := ⟨by rw [← hq_]; exact bq⟩; clear BK735 BK736 HB hq_; have BK735 := n0_; have BK736 := n1_; have HB := n2_; clear n0_ n1_ n2_))
                 have n0_ := ak (blk_drew BK735.out)
                 have n1_ := ak (blk_drew BK736.out)
                 have n2_ := ak (below_drew1 HB.out)
                 clear BK735
                 clear BK736
                 clear HB
                 have BK735 := n0_
                 have BK736 := n1_
                 have HB := n2_
                 clear n0_ n1_ n2_
                 refine start_ (n := 37) (S := fun w' => w'.cell? ⟨gb736, 0, none⟩ = some (.int .i64 a2_0) ∧ w'.cell? ⟨gb736, 1, none⟩ = some (.int .i64 a2_1)) (ds := []) #[false, false, false, false, false, false, false, false, false, false, false, false, false, false, false, false, false, false, false, false, false, false, false, false, false, false, false, false, false, false, false, false, false, false, false, false, false] (by kernel_rfl) rfl rfl ⟨(blk_cell BK736.out 0).trans rfl, (blk_cell BK736.out 1).trans rfl⟩ (fun hHeld => ?_); refine with_tabW isoglosslaw12_AliasDecodes.tab6 isoglosslaw12_AliasDecodes.bits6 (fun HT_ HW_ => ?_)
                 generalize w38.drew = w40 at BK735 BK736 HB hHeld ⊢
                 refine pu 0 (some 24) (M 37 1) ?_
                 refine pu 1 (some 25) (M 37 3) ?_
                 refine pu 2 (some 26) (M 37 7) ?_
                 refine one_ (i := 3) (N := some 27) (M 37 15) rfl rfl (one_of HT_.out (by kernel_rfl)) (by decide) (fun K hK => ?_)
                 refine goes_ Tryd.func43 (by kernel_rfl) rfl #[.string t744] (by rfl) rfl rfl mq ?_
                 with_reducible refine (isoglosslaw12_decodes.calls kj4 t744 true _ A16.out HG.out.on).mono ?_
                 rintro e w41 ⟨rfl, hb⟩
                 refine ⟨_, rfl, ?_⟩
                 have n0_ := ak (blk_below (g := gb735) (bx BK735.out) hb)
                 have n1_ := ak (blk_below (g := gb736) (bx BK736.out) hb)
                 have n2_ := ak (below_step bq hb)
                 clear BK735
                 clear BK736
                 clear HB
                 have BK735 := n0_
                 have BK736 := n1_
                 have HB := n2_
                 clear n0_ n1_ n2_
                 (try clear hb)
                 (try clear hb2)
                 (try clear hk)
                 (try clear hi)
                 refine hK.out _ _ ⟨(blk_cell BK736.out 0).trans rfl, (blk_cell BK736.out 1).trans rfl⟩ (fun hHeld => ?_)
                 clear hK K
                 refine norm_ (a' := ?_) ?_ ?_
                 rotate_left
                 ·
                  show Act.put _ (some 27) _ = _
                  simp only [Act.put, pA, pB, pC, i64_w, i32_w]
                  rfl
                 refine pu 4 (some 28) (M 37 31) ?_
                 refine pu 5 (some 29) (M 37 63) ?_
                 refine pu 6 (some 30) (M 37 127) ?_
                 refine pu 7 (some 31) (M 37 255) ?_
                 refine pu 8 (some 32) (M 37 511) ?_
                 refine pu 9 (some 33) (M 37 1023) ?_
                 refine pu 15 (some 39) (M 37 33791) ?_
                 refine pu 16 (some 40) (M 37 99327) ?_
                 refine pu 17 (some 41) (M 37 230399) ?_
                 refine pu 18 (some 42) (M 37 492543) ?_
                 refine take_ (i := 10) (N := some 34) (v := ?_) (a' := ?_) (M 37 493567) rfl rfl (take_ofW HT_.out HW_.out (by kernel_rfl)) (fun _ _ _ h => h) (Or.inl ⟨by rfl, ?_⟩) hHeld ?_ ?_
                 rotate_left
                 ·
                  rintro w' ⟨s0, s1⟩
                  go_simp
                  with_reducible rfl
                 rotate_left
                 ·
                  simp only [Act.put, pA, pB, pC, i64_w, i32_w]
                  rfl
                 refine pu 11 (some 35) (M 37 495615) ?_
                 refine one_ (i := 12) (N := some 36) (M 37 499711) rfl rfl (one_of HT_.out (by kernel_rfl)) (by decide) (fun K hK => ?_)
                 refine Kd.R_lit_step (Kd.int .u8) _ 5 ?hg (N := 36) ?hd (xs := ([(a2_1) % 256] : List Int)) (inner := [.int .u8 ((a2_1) % 256)]) (ok := fun _ => True) (okp := fun _ => True) ?hr ?hp (fun _ hk => hk) trivial (Below.refl _ _) (Nat.le_refl _) (by simp) ?_; (case hd => rfl); (case hg => rfl); (case hr => first | (go_simp; done) | (go_simp; rfl)); (case hp => exact (Reps.one (show Kd.M (Kd.int .u8) _ _ _ ((a2_1) % 256) [.int .u8 ((a2_1) % 256)] from rfl) (Reps.none _ _)))
                 intro v748 w42 ho43 hb hg_ hnew_
                 clear hg_ hnew_
                 (first | rw [← Ny747.out] at ho43 | (simp only [Int.reduceToNat] at ho43; rw [← Ny747.out] at ho43))
                 have n0_ := ak (Kd.R_lower ho43 (below_size bq))
                 have n1_ := ak (blk_below (g := gb735) (bx BK735.out) hb)
                 have n2_ := ak (blk_below (g := gb736) (bx BK736.out) hb)
                 have n3_ := ak (below_step bq hb)
                 clear BK735
                 clear BK736
                 clear HB
                 have HO749 := n0_
                 have BK735 := n1_
                 have BK736 := n2_
                 have HB := n3_
                 clear n0_ n1_ n2_ n3_
                 clear hb ho43
                 refine hK.out _ _ ⟨(blk_cell BK736.out 0).trans rfl, (blk_cell BK736.out 1).trans rfl⟩ (fun hHeld => ?_)
                 clear hK K
                 refine norm_ (a' := ?_) ?_ ?_
                 rotate_left
                 ·
                  show Act.put _ (some 36) _ = _
                  simp only [Act.put, pA, pB, pC, i64_w, i32_w]
                  rfl
                 refine one_ (i := 13) (N := some 37) (M 37 507903) rfl rfl (one_of HT_.out (by kernel_rfl)) (by decide) (fun K hK => ?_)
                 have hcv44 := own_string (P := Tryd.prog) Tryd.underlying28 Tryd.underlying5 Tryd.underlying9 (Kd.own_of_R HO749.out)
                 refine value_ (w1 := ?_) (v := ?_) (by rfl) rfl ?_ ?_
                 rotate_left 2
                 ·
                  go_simp
                  constructor
                  ·
                   rfl
                  ·
                   rfl
                 clear hcv44
                 refine hK.out _ _ ⟨(blk_cell BK736.out 0).trans rfl, (blk_cell BK736.out 1).trans rfl⟩ (fun hHeld => ?_)
                 clear hK K
                 refine norm_ (a' := ?_) ?_ ?_
                 rotate_left
                 ·
                  show Act.put _ (some 37) _ = _
                  simp only [Act.put, pA, pB, pC, i64_w, i32_w]
                  rfl
                 refine pu 14 (some 38) (M 37 524287) ?_
                 refine pu 19 (some 43) (M 37 1048575) ?_
                 refine one_ (i := 20) (N := some 44) (M 37 2097151) rfl rfl (one_of HT_.out (by kernel_rfl)) (by decide) (fun K hK => ?_)
                 refine goes_ Tryd.func43 (by kernel_rfl) rfl #[.string (((t744.extract 0 (t745 : Int).toNat) ++ (strOfNums y747)) ++ (t744.extract ((ji21) : Int).toNat t744.size))] (by rfl) rfl rfl (by (try simp only [List.map_toArray, List.map_cons, List.map_nil]); first | done | (simp only [hji21]; rfl) | rfl | (simp only [List.length_drop, List.length_take]; rfl)) ?_
                 with_reducible refine (isoglosslaw12_decodes.calls kj4 (((t744.extract 0 (t745 : Int).toNat) ++ (strOfNums y747)) ++ (t744.extract ((ji21) : Int).toNat t744.size)) true _ A25.out HG.out.on).mono ?_
                 rintro e w45 ⟨rfl, hb⟩
                 refine ⟨_, rfl, ?_⟩
                 have n0_ := ak (Kd.R_below (rx HO749.out) hb)
                 have n1_ := ak (blk_below (g := gb735) (bx BK735.out) hb)
                 have n2_ := ak (blk_below (g := gb736) (bx BK736.out) hb)
                 have n3_ := ak (below_step bq hb)
                 clear HO749
                 clear BK735
                 clear BK736
                 clear HB
                 have HO749 := n0_
                 have BK735 := n1_
                 have BK736 := n2_
                 have HB := n3_
                 clear n0_ n1_ n2_ n3_
                 (try clear hb)
                 (try clear hb2)
                 (try clear hk)
                 (try clear hi)
                 refine hK.out _ _ ⟨(blk_cell BK736.out 0).trans rfl, (blk_cell BK736.out 1).trans rfl⟩ (fun hHeld => ?_)
                 clear hK K
                 refine norm_ (a' := ?_) ?_ ?_
                 rotate_left
                 ·
                  show Act.put _ (some 44) _ = _
                  simp only [Act.put, pA, pB, pC, i64_w, i32_w]
                  rfl
                 refine pu 21 (some 45) (M 37 4194303) ?_
                 refine pu 22 (some 46) (M 37 8388607) ?_
                 refine pu 23 (some 47) (M 37 16777215) ?_
                 refine one_ (i := 24) (N := some 48) (M 37 33554431) rfl rfl (one_of HT_.out (by kernel_rfl)) (by decide) (fun K hK => ?_)
                 refine goes_ Tryd.func43 (by kernel_rfl) rfl #[.string x1_4] (by rfl) rfl rfl mq ?_
                 with_reducible refine (isoglosslaw12_decodes.calls kj4 x1_4 true _ A27.out HG.out.on).mono ?_
                 rintro e w46 ⟨rfl, hb⟩
                 refine ⟨_, rfl, ?_⟩
                 have n0_ := ak (Kd.R_below (rx HO749.out) hb)
                 have n1_ := ak (blk_below (g := gb735) (bx BK735.out) hb)
                 have n2_ := ak (blk_below (g := gb736) (bx BK736.out) hb)
                 have n3_ := ak (below_step bq hb)
                 clear HO749
                 clear BK735
                 clear BK736
                 clear HB
                 have HO749 := n0_
                 have BK735 := n1_
                 have BK736 := n2_
                 have HB := n3_
                 clear n0_ n1_ n2_ n3_
                 (try clear hb)
                 (try clear hb2)
                 (try clear hk)
                 (try clear hi)
                 refine hK.out _ _ ⟨(blk_cell BK736.out 0).trans rfl, (blk_cell BK736.out 1).trans rfl⟩ (fun hHeld => ?_)
                 clear hK K
                 refine norm_ (a' := ?_) ?_ ?_
                 rotate_left
                 ·
                  show Act.put _ (some 48) _ = _
                  simp only [Act.put, pA, pB, pC, i64_w, i32_w]
                  rfl
                 refine pu 25 (some 49) (M 37 67108863) ?_
                 refine pu 26 (some 50) (M 37 134217727) ?_
                 refine pu 27 (some 51) (M 37 268435455) ?_
                 refine pu 28 (some 52) (M 37 536870911) ?_
                 refine one_ (i := 29) (N := some 53) (M 37 1073741823) rfl rfl (one_of HT_.out (by kernel_rfl)) (by decide) (fun K hK => ?_)
                 refine goes_ Tryd.func43 (by kernel_rfl) rfl #[.string (t744 ++ (⟨#[97]⟩ : ByteArray))] (by rfl) rfl rfl mq ?_
                 with_reducible refine (isoglosslaw12_decodes.calls kj4 (t744 ++ (⟨#[97]⟩ : ByteArray)) true _ A30.out HG.out.on).mono ?_
                 rintro e w47 ⟨rfl, hb⟩
                 refine ⟨_, rfl, ?_⟩
                 have n0_ := ak (Kd.R_below (rx HO749.out) hb)
                 have n1_ := ak (blk_below (g := gb735) (bx BK735.out) hb)
                 have n2_ := ak (blk_below (g := gb736) (bx BK736.out) hb)
                 have n3_ := ak (below_step bq hb)
                 clear HO749
                 clear BK735
                 clear BK736
                 clear HB
                 have HO749 := n0_
                 have BK735 := n1_
                 have BK736 := n2_
                 have HB := n3_
                 clear n0_ n1_ n2_ n3_
                 (try clear hb)
                 (try clear hb2)
                 (try clear hk)
                 (try clear hi)
                 refine hK.out _ _ ⟨(blk_cell BK736.out 0).trans rfl, (blk_cell BK736.out 1).trans rfl⟩ (fun hHeld => ?_)
                 clear hK K
                 refine norm_ (a' := ?_) ?_ ?_
                 rotate_left
                 ·
                  show Act.put _ (some 53) _ = _
                  simp only [Act.put, pA, pB, pC, i64_w, i32_w]
                  rfl
                 refine pu 30 (some 54) (M 37 2147483647) ?_
                 refine pu 31 (some 55) (M 37 4294967295) ?_
                 refine pu 32 (some 56) (M 37 8589934591) ?_
                 refine pu 33 (some 57) (M 37 17179869183) ?_
                 refine one_ (i := 34) (N := some 58) (M 37 34359738367) rfl rfl (one_of HT_.out (by kernel_rfl)) (by decide) (fun K hK => ?_)
                 refine goes_ Tryd.func43 (by kernel_rfl) rfl #[.string (t744.extract 0 40)] (by rfl) rfl rfl mq ?_
                 with_reducible refine (isoglosslaw12_decodes.calls kj4 (t744.extract 0 40) t753 _ A34.out HG.out.on).mono ?_
                 rintro e w48 ⟨rfl, hb⟩
                 refine ⟨_, rfl, ?_⟩
                 have n0_ := ak (Kd.R_below (rx HO749.out) hb)
                 have n1_ := ak (blk_below (g := gb735) (bx BK735.out) hb)
                 have n2_ := ak (blk_below (g := gb736) (bx BK736.out) hb)
                 have n3_ := ak (below_step bq hb)
                 clear HO749
                 clear BK735
                 clear BK736
                 clear HB
                 have HO749 := n0_
                 have BK735 := n1_
                 have BK736 := n2_
                 have HB := n3_
                 clear n0_ n1_ n2_ n3_
                 (try clear hb)
                 (try clear hb2)
                 (try clear hk)
                 (try clear hi)
                 refine hK.out _ _ ⟨(blk_cell BK736.out 0).trans rfl, (blk_cell BK736.out 1).trans rfl⟩ (fun hHeld => ?_)
                 clear hK K
                 refine norm_ (a' := ?_) ?_ ?_
                 rotate_left
                 ·
                  show Act.put _ (some 58) _ = _
                  simp only [Act.put, pA, pB, pC, i64_w, i32_w]
                  rfl
                 refine pu 35 (some 59) (M 37 68719476735) ?_
                 refine pu 36 (some 6) (M 37 137438953471) ?_
                 refine done_ (done_of HT_.out (by kernel_rfl)) ?_
                 try go_wp2
                 go_ret
                 exact ⟨by first | rfl | (simp [errW_none, errW_some] <;> rfl) | (simp only [← hji21]; first | rfl | (simp [errW_none, errW_some] <;> rfl)) | (simp [*, errW_none, errW_some] <;> rfl), bq⟩
                ·
                 rw [if_neg c33] at H
                 exact absurd H (by simp)
               ·
                rw [if_neg c32] at H
                exact absurd H (by simp)
              ·
               replace c31 := Bool.eq_false_iff.mpr c31
               subst c31
               have H1 : (some false) = some r := by rw [if_neg (show ¬ (false = true) by decide)] at H; exact H
               clear H
               have H := H1
               clear H1
               obtain rfl := Option.some.inj H
               have hnb49 := NB735_736.out
               have hnc49 := NB736_735.out
               obtain ⟨hcz50_0, hcz50_1, hcz50_2, hcz50_3, hcz50_4, hcz50_5, hcz50_6⟩ := cz7 BK735.out
               obtain ⟨hfz50_0, hfz50_1, hfz50_2, hfz50_3, hfz50_4, hfz50_5, hfz50_6⟩ := fz7 BK735.out
               try go_wp2_with (first | ((with_reducible refine gate_callee (f := 34) rfl ?_); refine goesL_ (some 17) rfl rfl Tryd.func34 (by kernel_rfl) rfl #[.agg #[.int .i64 a0_0, .int .i64 a0_1, .int .i64 a0_2, .int .i64 a0_3, .int .i64 a0_4, .int .i64 a0_5, .int .i64 a0_6]] rfl mq ?_; (with_reducible refine (isoglossref12_Made.calls kj4 a0_0 a0_1 a0_2 a0_3 a0_4 a0_5 a0_6 t738 t739 t740 t741 t742 t743 _ A12.out).mono ?_); rintro e w51 ⟨rfl, hb⟩; refine ⟨_, rfl, ?_⟩; have n0_ := ak (blk_below (g := gb735) (bx BK735.out) hb); have n1_ := ak (blk_below (g := gb736) (bx BK736.out) hb); have n2_ := ak (below_step bq hb); clear BK735; clear BK736; clear HB; have BK735 := n0_; have BK736 := n1_; have HB := n2_; clear n0_ n1_ n2_; (try clear hb); (try clear hb2); (try clear hk); (try clear hi); (try clear A12)) | ((with_reducible refine gate_callee (f := 42) rfl ?_); refine goesL_ (some 18) rfl rfl Tryd.func42 (by kernel_rfl) rfl #[.agg #[.int .i64 t738, .string t739, .string t740, .string t741, .string t742, .string t743]] rfl mq ?_; (with_reducible refine (isoglossref12_Row.calls kj4 t738 t739 t740 t741 t742 t743 t744 _ A13.out).mono ?_); rintro e w52 ⟨rfl, hb⟩; refine ⟨_, rfl, ?_⟩; have n0_ := ak (blk_below (g := gb735) (bx BK735.out) hb); have n1_ := ak (blk_below (g := gb736) (bx BK736.out) hb); have n2_ := ak (below_step bq hb); clear BK735; clear BK736; clear HB; have BK735 := n0_; have BK736 := n1_; have HB := n2_; clear n0_ n1_ n2_; (try clear hb); (try clear hb2); (try clear hk); (try clear hi); obtain ⟨hcz53_0, hcz53_1⟩ := cz2 BK736.out; obtain ⟨hfz53_0, hfz53_1⟩ := fz2 BK736.out; (try clear A13)) | ((with_reducible refine gate_callee (f := 32) rfl ?_); refine goesL_ (some 23) rfl rfl Tryd.func32 (by kernel_rfl) rfl #[.int .i64 a2_0, .int .i64 (t744.size : Int)] rfl mq ?_; (with_reducible refine (isoglosslaw12_rest.calls a2_0 (t744.size : Int) t745 _ A14.out).mono ?_); rintro e w' ⟨rfl, ⟨nd, rfl⟩⟩; refine ⟨_, rfl, ?_⟩; (try clear A14)))
               (try (rw [drewN_self w52]; generalize hq_ : World.drewN w52 _ = w52; have n0_ : Aside0 (w52.heap[gb735]? = some (.cells #[.int .i64 a0_0, .int .i64 a0_1, .int .i64 a0_2, .int .i64 a0_3, .int .i64 a0_4, .int .i64 a0_5, .int .i64 a0_6] 52 (0, 0))) := ⟨by rw [← hq_]; exact (bx BK735.out)⟩; have n1_ : Aside0 (w52.heap[gb736]? = some (.cells #[.int .i64 a2_0, .int .i64 a2_1] 67 (0, 0))) := ⟨by rw [← hq_]; exact (bx BK736.out)⟩; have n2_ : Aside0 (Below w.heap.size w w52) := ⟨by rw [← hq_]; exact bq⟩; clear BK735 BK736 HB hq_; have BK735 := n0_; have BK736 := n1_; have HB := n2_; clear n0_ n1_ n2_))
               have n0_ := ak (blk_drew BK735.out)
               have n1_ := ak (blk_drew BK736.out)
               have n2_ := ak (below_drew1 HB.out)
               clear BK735
               clear BK736
               clear HB
               have BK735 := n0_
               have BK736 := n1_
               have HB := n2_
               clear n0_ n1_ n2_
               refine start_ (n := 37) (S := fun w' => w'.cell? ⟨gb736, 0, none⟩ = some (.int .i64 a2_0) ∧ w'.cell? ⟨gb736, 1, none⟩ = some (.int .i64 a2_1)) (ds := []) #[false, false, false, false, false, false, false, false, false, false, false, false, false, false, false, false, false, false, false, false, false, false, false, false, false, false, false, false, false, false, false, false, false, false, false, false, false] (by kernel_rfl) rfl rfl ⟨(blk_cell BK736.out 0).trans rfl, (blk_cell BK736.out 1).trans rfl⟩ (fun hHeld => ?_); refine with_tabW isoglosslaw12_AliasDecodes.tab6 isoglosslaw12_AliasDecodes.bits6 (fun HT_ HW_ => ?_)
               generalize w52.drew = w54 at BK735 BK736 HB hHeld ⊢
               refine pu 0 (some 24) (M 37 1) ?_
               refine pu 1 (some 25) (M 37 3) ?_
               refine pu 2 (some 26) (M 37 7) ?_
               refine one_ (i := 3) (N := some 27) (M 37 15) rfl rfl (one_of HT_.out (by kernel_rfl)) (by decide) (fun K hK => ?_)
               refine goes_ Tryd.func43 (by kernel_rfl) rfl #[.string t744] (by rfl) rfl rfl mq ?_
               with_reducible refine (isoglosslaw12_decodes.calls kj4 t744 true _ A16.out HG.out.on).mono ?_
               rintro e w55 ⟨rfl, hb⟩
               refine ⟨_, rfl, ?_⟩
               have n0_ := ak (blk_below (g := gb735) (bx BK735.out) hb)
               have n1_ := ak (blk_below (g := gb736) (bx BK736.out) hb)
               have n2_ := ak (below_step bq hb)
               clear BK735
               clear BK736
               clear HB
               have BK735 := n0_
               have BK736 := n1_
               have HB := n2_
               clear n0_ n1_ n2_
               (try clear hb)
               (try clear hb2)
               (try clear hk)
               (try clear hi)
               refine hK.out _ _ ⟨(blk_cell BK736.out 0).trans rfl, (blk_cell BK736.out 1).trans rfl⟩ (fun hHeld => ?_)
               clear hK K
               refine norm_ (a' := ?_) ?_ ?_
               rotate_left
               ·
                show Act.put _ (some 27) _ = _
                simp only [Act.put, pA, pB, pC, i64_w, i32_w]
                rfl
               refine pu 4 (some 28) (M 37 31) ?_
               refine pu 5 (some 29) (M 37 63) ?_
               refine pu 6 (some 30) (M 37 127) ?_
               refine pu 7 (some 31) (M 37 255) ?_
               refine pu 8 (some 32) (M 37 511) ?_
               refine pu 9 (some 33) (M 37 1023) ?_
               refine pu 15 (some 39) (M 37 33791) ?_
               refine pu 16 (some 40) (M 37 99327) ?_
               refine pu 17 (some 41) (M 37 230399) ?_
               refine pu 18 (some 42) (M 37 492543) ?_
               refine take_ (i := 10) (N := some 34) (v := ?_) (a' := ?_) (M 37 493567) rfl rfl (take_ofW HT_.out HW_.out (by kernel_rfl)) (fun _ _ _ h => h) (Or.inl ⟨by rfl, ?_⟩) hHeld ?_ ?_
               rotate_left
               ·
                rintro w' ⟨s0, s1⟩
                go_simp
                with_reducible rfl
               rotate_left
               ·
                simp only [Act.put, pA, pB, pC, i64_w, i32_w]
                rfl
               refine pu 11 (some 35) (M 37 495615) ?_
               refine one_ (i := 12) (N := some 36) (M 37 499711) rfl rfl (one_of HT_.out (by kernel_rfl)) (by decide) (fun K hK => ?_)
               refine Kd.R_lit_step (Kd.int .u8) _ 5 ?hg (N := 36) ?hd (xs := ([(a2_1) % 256] : List Int)) (inner := [.int .u8 ((a2_1) % 256)]) (ok := fun _ => True) (okp := fun _ => True) ?hr ?hp (fun _ hk => hk) trivial (Below.refl _ _) (Nat.le_refl _) (by simp) ?_; (case hd => rfl); (case hg => rfl); (case hr => first | (go_simp; done) | (go_simp; rfl)); (case hp => exact (Reps.one (show Kd.M (Kd.int .u8) _ _ _ ((a2_1) % 256) [.int .u8 ((a2_1) % 256)] from rfl) (Reps.none _ _)))
               intro v748 w56 ho57 hb hg_ hnew_
               clear hg_ hnew_
               (first | rw [← Ny747.out] at ho57 | (simp only [Int.reduceToNat] at ho57; rw [← Ny747.out] at ho57))
               have n0_ := ak (Kd.R_lower ho57 (below_size bq))
               have n1_ := ak (blk_below (g := gb735) (bx BK735.out) hb)
               have n2_ := ak (blk_below (g := gb736) (bx BK736.out) hb)
               have n3_ := ak (below_step bq hb)
               clear BK735
               clear BK736
               clear HB
               have HO749 := n0_
               have BK735 := n1_
               have BK736 := n2_
               have HB := n3_
               clear n0_ n1_ n2_ n3_
               clear hb ho57
               refine hK.out _ _ ⟨(blk_cell BK736.out 0).trans rfl, (blk_cell BK736.out 1).trans rfl⟩ (fun hHeld => ?_)
               clear hK K
               refine norm_ (a' := ?_) ?_ ?_
               rotate_left
               ·
                show Act.put _ (some 36) _ = _
                simp only [Act.put, pA, pB, pC, i64_w, i32_w]
                rfl
               refine one_ (i := 13) (N := some 37) (M 37 507903) rfl rfl (one_of HT_.out (by kernel_rfl)) (by decide) (fun K hK => ?_)
               have hcv58 := own_string (P := Tryd.prog) Tryd.underlying28 Tryd.underlying5 Tryd.underlying9 (Kd.own_of_R HO749.out)
               refine value_ (w1 := ?_) (v := ?_) (by rfl) rfl ?_ ?_
               rotate_left 2
               ·
                go_simp
                constructor
                ·
                 rfl
                ·
                 rfl
               clear hcv58
               refine hK.out _ _ ⟨(blk_cell BK736.out 0).trans rfl, (blk_cell BK736.out 1).trans rfl⟩ (fun hHeld => ?_)
               clear hK K
               refine norm_ (a' := ?_) ?_ ?_
               rotate_left
               ·
                show Act.put _ (some 37) _ = _
                simp only [Act.put, pA, pB, pC, i64_w, i32_w]
                rfl
               refine pu 14 (some 38) (M 37 524287) ?_
               refine pu 19 (some 43) (M 37 1048575) ?_
               refine one_ (i := 20) (N := some 44) (M 37 2097151) rfl rfl (one_of HT_.out (by kernel_rfl)) (by decide) (fun K hK => ?_)
               refine goes_ Tryd.func43 (by kernel_rfl) rfl #[.string (((t744.extract 0 (t745 : Int).toNat) ++ (strOfNums y747)) ++ (t744.extract ((ji21) : Int).toNat t744.size))] (by rfl) rfl rfl (by (try simp only [List.map_toArray, List.map_cons, List.map_nil]); first | done | (simp only [hji21]; rfl) | rfl | (simp only [List.length_drop, List.length_take]; rfl)) ?_
               with_reducible refine (isoglosslaw12_decodes.calls kj4 (((t744.extract 0 (t745 : Int).toNat) ++ (strOfNums y747)) ++ (t744.extract ((ji21) : Int).toNat t744.size)) true _ A25.out HG.out.on).mono ?_
               rintro e w59 ⟨rfl, hb⟩
               refine ⟨_, rfl, ?_⟩
               have n0_ := ak (Kd.R_below (rx HO749.out) hb)
               have n1_ := ak (blk_below (g := gb735) (bx BK735.out) hb)
               have n2_ := ak (blk_below (g := gb736) (bx BK736.out) hb)
               have n3_ := ak (below_step bq hb)
               clear HO749
               clear BK735
               clear BK736
               clear HB
               have HO749 := n0_
               have BK735 := n1_
               have BK736 := n2_
               have HB := n3_
               clear n0_ n1_ n2_ n3_
               (try clear hb)
               (try clear hb2)
               (try clear hk)
               (try clear hi)
               refine hK.out _ _ ⟨(blk_cell BK736.out 0).trans rfl, (blk_cell BK736.out 1).trans rfl⟩ (fun hHeld => ?_)
               clear hK K
               refine norm_ (a' := ?_) ?_ ?_
               rotate_left
               ·
                show Act.put _ (some 44) _ = _
                simp only [Act.put, pA, pB, pC, i64_w, i32_w]
                rfl
               refine pu 21 (some 45) (M 37 4194303) ?_
               refine pu 22 (some 46) (M 37 8388607) ?_
               refine pu 23 (some 47) (M 37 16777215) ?_
               refine one_ (i := 24) (N := some 48) (M 37 33554431) rfl rfl (one_of HT_.out (by kernel_rfl)) (by decide) (fun K hK => ?_)
               refine goes_ Tryd.func43 (by kernel_rfl) rfl #[.string x1_4] (by rfl) rfl rfl mq ?_
               with_reducible refine (isoglosslaw12_decodes.calls kj4 x1_4 true _ A27.out HG.out.on).mono ?_
               rintro e w60 ⟨rfl, hb⟩
               refine ⟨_, rfl, ?_⟩
               have n0_ := ak (Kd.R_below (rx HO749.out) hb)
               have n1_ := ak (blk_below (g := gb735) (bx BK735.out) hb)
               have n2_ := ak (blk_below (g := gb736) (bx BK736.out) hb)
               have n3_ := ak (below_step bq hb)
               clear HO749
               clear BK735
               clear BK736
               clear HB
               have HO749 := n0_
               have BK735 := n1_
               have BK736 := n2_
               have HB := n3_
               clear n0_ n1_ n2_ n3_
               (try clear hb)
               (try clear hb2)
               (try clear hk)
               (try clear hi)
               refine hK.out _ _ ⟨(blk_cell BK736.out 0).trans rfl, (blk_cell BK736.out 1).trans rfl⟩ (fun hHeld => ?_)
               clear hK K
               refine norm_ (a' := ?_) ?_ ?_
               rotate_left
               ·
                show Act.put _ (some 48) _ = _
                simp only [Act.put, pA, pB, pC, i64_w, i32_w]
                rfl
               refine pu 25 (some 49) (M 37 67108863) ?_
               refine pu 26 (some 50) (M 37 134217727) ?_
               refine pu 27 (some 51) (M 37 268435455) ?_
               refine pu 28 (some 52) (M 37 536870911) ?_
               refine one_ (i := 29) (N := some 53) (M 37 1073741823) rfl rfl (one_of HT_.out (by kernel_rfl)) (by decide) (fun K hK => ?_)
               refine goes_ Tryd.func43 (by kernel_rfl) rfl #[.string (t744 ++ (⟨#[97]⟩ : ByteArray))] (by rfl) rfl rfl mq ?_
               with_reducible refine (isoglosslaw12_decodes.calls kj4 (t744 ++ (⟨#[97]⟩ : ByteArray)) false _ A30.out HG.out.on).mono ?_
               rintro e w61 ⟨rfl, hb⟩
               refine ⟨_, rfl, ?_⟩
               have n0_ := ak (Kd.R_below (rx HO749.out) hb)
               have n1_ := ak (blk_below (g := gb735) (bx BK735.out) hb)
               have n2_ := ak (blk_below (g := gb736) (bx BK736.out) hb)
               have n3_ := ak (below_step bq hb)
               clear HO749
               clear BK735
               clear BK736
               clear HB
               have HO749 := n0_
               have BK735 := n1_
               have BK736 := n2_
               have HB := n3_
               clear n0_ n1_ n2_ n3_
               (try clear hb)
               (try clear hb2)
               (try clear hk)
               (try clear hi)
               refine hK.out _ _ ⟨(blk_cell BK736.out 0).trans rfl, (blk_cell BK736.out 1).trans rfl⟩ (fun hHeld => ?_)
               clear hK K
               refine norm_ (a' := ?_) ?_ ?_
               rotate_left
               ·
                show Act.put _ (some 53) _ = _
                simp only [Act.put, pA, pB, pC, i64_w, i32_w]
                rfl
               refine pu 30 (some 54) (M 37 2147483647) ?_
               refine pu 31 (some 55) (M 37 4294967295) ?_
               refine pn 32 (some 56) (M 37 8589934591) ?_
               refine pn 33 (some 57) (M 37 17179869183) ?_
               refine pn 34 (some 58) (M 37 34359738367) ?_
               refine pu 35 (some 59) (M 37 68719476735) ?_
               refine pu 36 (some 6) (M 37 137438953471) ?_
               refine done_ (done_of HT_.out (by kernel_rfl)) ?_
               try go_wp2
               go_ret
               exact ⟨by first | rfl | (simp [errW_none, errW_some] <;> rfl) | (simp only [← hji21]; first | rfl | (simp [errW_none, errW_some] <;> rfl)) | (simp [*, errW_none, errW_some] <;> rfl), bq⟩
             ·
              rw [if_neg c29] at H
              exact absurd H (by simp)
            ·
             replace c28 := Bool.eq_false_iff.mpr c28
             subst c28
             have H1 : (some false) = some r := by rw [if_neg (show ¬ (false = true) by decide)] at H; exact H
             clear H
             have H := H1
             clear H1
             obtain rfl := Option.some.inj H
             have hnb62 := NB735_736.out
             have hnc62 := NB736_735.out
             obtain ⟨hcz63_0, hcz63_1, hcz63_2, hcz63_3, hcz63_4, hcz63_5, hcz63_6⟩ := cz7 BK735.out
             obtain ⟨hfz63_0, hfz63_1, hfz63_2, hfz63_3, hfz63_4, hfz63_5, hfz63_6⟩ := fz7 BK735.out
             try go_wp2_with (first | ((with_reducible refine gate_callee (f := 34) rfl ?_); refine goesL_ (some 17) rfl rfl Tryd.func34 (by kernel_rfl) rfl #[.agg #[.int .i64 a0_0, .int .i64 a0_1, .int .i64 a0_2, .int .i64 a0_3, .int .i64 a0_4, .int .i64 a0_5, .int .i64 a0_6]] rfl mq ?_; (with_reducible refine (isoglossref12_Made.calls kj4 a0_0 a0_1 a0_2 a0_3 a0_4 a0_5 a0_6 t738 t739 t740 t741 t742 t743 _ A12.out).mono ?_); rintro e w64 ⟨rfl, hb⟩; refine ⟨_, rfl, ?_⟩; have n0_ := ak (blk_below (g := gb735) (bx BK735.out) hb); have n1_ := ak (blk_below (g := gb736) (bx BK736.out) hb); have n2_ := ak (below_step bq hb); clear BK735; clear BK736; clear HB; have BK735 := n0_; have BK736 := n1_; have HB := n2_; clear n0_ n1_ n2_; (try clear hb); (try clear hb2); (try clear hk); (try clear hi); (try clear A12)) | ((with_reducible refine gate_callee (f := 42) rfl ?_); refine goesL_ (some 18) rfl rfl Tryd.func42 (by kernel_rfl) rfl #[.agg #[.int .i64 t738, .string t739, .string t740, .string t741, .string t742, .string t743]] rfl mq ?_; (with_reducible refine (isoglossref12_Row.calls kj4 t738 t739 t740 t741 t742 t743 t744 _ A13.out).mono ?_); rintro e w65 ⟨rfl, hb⟩; refine ⟨_, rfl, ?_⟩; have n0_ := ak (blk_below (g := gb735) (bx BK735.out) hb); have n1_ := ak (blk_below (g := gb736) (bx BK736.out) hb); have n2_ := ak (below_step bq hb); clear BK735; clear BK736; clear HB; have BK735 := n0_; have BK736 := n1_; have HB := n2_; clear n0_ n1_ n2_; (try clear hb); (try clear hb2); (try clear hk); (try clear hi); obtain ⟨hcz66_0, hcz66_1⟩ := cz2 BK736.out; obtain ⟨hfz66_0, hfz66_1⟩ := fz2 BK736.out; (try clear A13)) | ((with_reducible refine gate_callee (f := 32) rfl ?_); refine goesL_ (some 23) rfl rfl Tryd.func32 (by kernel_rfl) rfl #[.int .i64 a2_0, .int .i64 (t744.size : Int)] rfl mq ?_; (with_reducible refine (isoglosslaw12_rest.calls a2_0 (t744.size : Int) t745 _ A14.out).mono ?_); rintro e w' ⟨rfl, ⟨nd, rfl⟩⟩; refine ⟨_, rfl, ?_⟩; (try clear A14)))
             (try (rw [drewN_self w65]; generalize hq_ : World.drewN w65 _ = w65; have n0_ : Aside0 (w65.heap[gb735]? = some (.cells #[.int .i64 a0_0, .int .i64 a0_1, .int .i64 a0_2, .int .i64 a0_3, .int .i64 a0_4, .int .i64 a0_5, .int .i64 a0_6] 52 (0, 0))) := ⟨by rw [← hq_]; exact (bx BK735.out)⟩; have n1_ : Aside0 (w65.heap[gb736]? = some (.cells #[.int .i64 a2_0, .int .i64 a2_1] 67 (0, 0))) := ⟨by rw [← hq_]; exact (bx BK736.out)⟩; have n2_ : Aside0 (Below w.heap.size w w65) := ⟨by rw [← hq_]; exact bq⟩; clear BK735 BK736 HB hq_; have BK735 := n0_; have BK736 := n1_; have HB := n2_; clear n0_ n1_ n2_))
             have n0_ := ak (blk_drew BK735.out)
             have n1_ := ak (blk_drew BK736.out)
             have n2_ := ak (below_drew1 HB.out)
             clear BK735
             clear BK736
             clear HB
             have BK735 := n0_
             have BK736 := n1_
             have HB := n2_
             clear n0_ n1_ n2_
             refine start_ (n := 37) (S := fun w' => w'.cell? ⟨gb736, 0, none⟩ = some (.int .i64 a2_0) ∧ w'.cell? ⟨gb736, 1, none⟩ = some (.int .i64 a2_1)) (ds := []) #[false, false, false, false, false, false, false, false, false, false, false, false, false, false, false, false, false, false, false, false, false, false, false, false, false, false, false, false, false, false, false, false, false, false, false, false, false] (by kernel_rfl) rfl rfl ⟨(blk_cell BK736.out 0).trans rfl, (blk_cell BK736.out 1).trans rfl⟩ (fun hHeld => ?_); refine with_tabW isoglosslaw12_AliasDecodes.tab6 isoglosslaw12_AliasDecodes.bits6 (fun HT_ HW_ => ?_)
             generalize w65.drew = w67 at BK735 BK736 HB hHeld ⊢
             refine pu 0 (some 24) (M 37 1) ?_
             refine pu 1 (some 25) (M 37 3) ?_
             refine pu 2 (some 26) (M 37 7) ?_
             refine one_ (i := 3) (N := some 27) (M 37 15) rfl rfl (one_of HT_.out (by kernel_rfl)) (by decide) (fun K hK => ?_)
             refine goes_ Tryd.func43 (by kernel_rfl) rfl #[.string t744] (by rfl) rfl rfl mq ?_
             with_reducible refine (isoglosslaw12_decodes.calls kj4 t744 true _ A16.out HG.out.on).mono ?_
             rintro e w68 ⟨rfl, hb⟩
             refine ⟨_, rfl, ?_⟩
             have n0_ := ak (blk_below (g := gb735) (bx BK735.out) hb)
             have n1_ := ak (blk_below (g := gb736) (bx BK736.out) hb)
             have n2_ := ak (below_step bq hb)
             clear BK735
             clear BK736
             clear HB
             have BK735 := n0_
             have BK736 := n1_
             have HB := n2_
             clear n0_ n1_ n2_
             (try clear hb)
             (try clear hb2)
             (try clear hk)
             (try clear hi)
             refine hK.out _ _ ⟨(blk_cell BK736.out 0).trans rfl, (blk_cell BK736.out 1).trans rfl⟩ (fun hHeld => ?_)
             clear hK K
             refine norm_ (a' := ?_) ?_ ?_
             rotate_left
             ·
              show Act.put _ (some 27) _ = _
              simp only [Act.put, pA, pB, pC, i64_w, i32_w]
              rfl
             refine pu 4 (some 28) (M 37 31) ?_
             refine pu 5 (some 29) (M 37 63) ?_
             refine pu 6 (some 30) (M 37 127) ?_
             refine pu 7 (some 31) (M 37 255) ?_
             refine pu 8 (some 32) (M 37 511) ?_
             refine pu 9 (some 33) (M 37 1023) ?_
             refine pu 15 (some 39) (M 37 33791) ?_
             refine pu 16 (some 40) (M 37 99327) ?_
             refine pu 17 (some 41) (M 37 230399) ?_
             refine pu 18 (some 42) (M 37 492543) ?_
             refine take_ (i := 10) (N := some 34) (v := ?_) (a' := ?_) (M 37 493567) rfl rfl (take_ofW HT_.out HW_.out (by kernel_rfl)) (fun _ _ _ h => h) (Or.inl ⟨by rfl, ?_⟩) hHeld ?_ ?_
             rotate_left
             ·
              rintro w' ⟨s0, s1⟩
              go_simp
              with_reducible rfl
             rotate_left
             ·
              simp only [Act.put, pA, pB, pC, i64_w, i32_w]
              rfl
             refine pu 11 (some 35) (M 37 495615) ?_
             refine one_ (i := 12) (N := some 36) (M 37 499711) rfl rfl (one_of HT_.out (by kernel_rfl)) (by decide) (fun K hK => ?_)
             refine Kd.R_lit_step (Kd.int .u8) _ 5 ?hg (N := 36) ?hd (xs := ([(a2_1) % 256] : List Int)) (inner := [.int .u8 ((a2_1) % 256)]) (ok := fun _ => True) (okp := fun _ => True) ?hr ?hp (fun _ hk => hk) trivial (Below.refl _ _) (Nat.le_refl _) (by simp) ?_; (case hd => rfl); (case hg => rfl); (case hr => first | (go_simp; done) | (go_simp; rfl)); (case hp => exact (Reps.one (show Kd.M (Kd.int .u8) _ _ _ ((a2_1) % 256) [.int .u8 ((a2_1) % 256)] from rfl) (Reps.none _ _)))
             intro v748 w69 ho70 hb hg_ hnew_
             clear hg_ hnew_
             (first | rw [← Ny747.out] at ho70 | (simp only [Int.reduceToNat] at ho70; rw [← Ny747.out] at ho70))
             have n0_ := ak (Kd.R_lower ho70 (below_size bq))
             have n1_ := ak (blk_below (g := gb735) (bx BK735.out) hb)
             have n2_ := ak (blk_below (g := gb736) (bx BK736.out) hb)
             have n3_ := ak (below_step bq hb)
             clear BK735
             clear BK736
             clear HB
             have HO749 := n0_
             have BK735 := n1_
             have BK736 := n2_
             have HB := n3_
             clear n0_ n1_ n2_ n3_
             clear hb ho70
             refine hK.out _ _ ⟨(blk_cell BK736.out 0).trans rfl, (blk_cell BK736.out 1).trans rfl⟩ (fun hHeld => ?_)
             clear hK K
             refine norm_ (a' := ?_) ?_ ?_
             rotate_left
             ·
              show Act.put _ (some 36) _ = _
              simp only [Act.put, pA, pB, pC, i64_w, i32_w]
              rfl
             refine one_ (i := 13) (N := some 37) (M 37 507903) rfl rfl (one_of HT_.out (by kernel_rfl)) (by decide) (fun K hK => ?_)
             have hcv71 := own_string (P := Tryd.prog) Tryd.underlying28 Tryd.underlying5 Tryd.underlying9 (Kd.own_of_R HO749.out)
             refine value_ (w1 := ?_) (v := ?_) (by rfl) rfl ?_ ?_
             rotate_left 2
             ·
              go_simp
              constructor
              ·
               rfl
              ·
               rfl
             clear hcv71
             refine hK.out _ _ ⟨(blk_cell BK736.out 0).trans rfl, (blk_cell BK736.out 1).trans rfl⟩ (fun hHeld => ?_)
             clear hK K
             refine norm_ (a' := ?_) ?_ ?_
             rotate_left
             ·
              show Act.put _ (some 37) _ = _
              simp only [Act.put, pA, pB, pC, i64_w, i32_w]
              rfl
             refine pu 14 (some 38) (M 37 524287) ?_
             refine pu 19 (some 43) (M 37 1048575) ?_
             refine one_ (i := 20) (N := some 44) (M 37 2097151) rfl rfl (one_of HT_.out (by kernel_rfl)) (by decide) (fun K hK => ?_)
             refine goes_ Tryd.func43 (by kernel_rfl) rfl #[.string (((t744.extract 0 (t745 : Int).toNat) ++ (strOfNums y747)) ++ (t744.extract ((ji21) : Int).toNat t744.size))] (by rfl) rfl rfl (by (try simp only [List.map_toArray, List.map_cons, List.map_nil]); first | done | (simp only [hji21]; rfl) | rfl | (simp only [List.length_drop, List.length_take]; rfl)) ?_
             with_reducible refine (isoglosslaw12_decodes.calls kj4 (((t744.extract 0 (t745 : Int).toNat) ++ (strOfNums y747)) ++ (t744.extract ((ji21) : Int).toNat t744.size)) true _ A25.out HG.out.on).mono ?_
             rintro e w72 ⟨rfl, hb⟩
             refine ⟨_, rfl, ?_⟩
             have n0_ := ak (Kd.R_below (rx HO749.out) hb)
             have n1_ := ak (blk_below (g := gb735) (bx BK735.out) hb)
             have n2_ := ak (blk_below (g := gb736) (bx BK736.out) hb)
             have n3_ := ak (below_step bq hb)
             clear HO749
             clear BK735
             clear BK736
             clear HB
             have HO749 := n0_
             have BK735 := n1_
             have BK736 := n2_
             have HB := n3_
             clear n0_ n1_ n2_ n3_
             (try clear hb)
             (try clear hb2)
             (try clear hk)
             (try clear hi)
             refine hK.out _ _ ⟨(blk_cell BK736.out 0).trans rfl, (blk_cell BK736.out 1).trans rfl⟩ (fun hHeld => ?_)
             clear hK K
             refine norm_ (a' := ?_) ?_ ?_
             rotate_left
             ·
              show Act.put _ (some 44) _ = _
              simp only [Act.put, pA, pB, pC, i64_w, i32_w]
              rfl
             refine pu 21 (some 45) (M 37 4194303) ?_
             refine pu 22 (some 46) (M 37 8388607) ?_
             refine pu 23 (some 47) (M 37 16777215) ?_
             refine one_ (i := 24) (N := some 48) (M 37 33554431) rfl rfl (one_of HT_.out (by kernel_rfl)) (by decide) (fun K hK => ?_)
             refine goes_ Tryd.func43 (by kernel_rfl) rfl #[.string x1_4] (by rfl) rfl rfl mq ?_
             with_reducible refine (isoglosslaw12_decodes.calls kj4 x1_4 false _ A27.out HG.out.on).mono ?_
             rintro e w73 ⟨rfl, hb⟩
             refine ⟨_, rfl, ?_⟩
             have n0_ := ak (Kd.R_below (rx HO749.out) hb)
             have n1_ := ak (blk_below (g := gb735) (bx BK735.out) hb)
             have n2_ := ak (blk_below (g := gb736) (bx BK736.out) hb)
             have n3_ := ak (below_step bq hb)
             clear HO749
             clear BK735
             clear BK736
             clear HB
             have HO749 := n0_
             have BK735 := n1_
             have BK736 := n2_
             have HB := n3_
             clear n0_ n1_ n2_ n3_
             (try clear hb)
             (try clear hb2)
             (try clear hk)
             (try clear hi)
             refine hK.out _ _ ⟨(blk_cell BK736.out 0).trans rfl, (blk_cell BK736.out 1).trans rfl⟩ (fun hHeld => ?_)
             clear hK K
             refine norm_ (a' := ?_) ?_ ?_
             rotate_left
             ·
              show Act.put _ (some 48) _ = _
              simp only [Act.put, pA, pB, pC, i64_w, i32_w]
              rfl
             refine pu 25 (some 49) (M 37 67108863) ?_
             refine pu 26 (some 50) (M 37 134217727) ?_
             refine pn 27 (some 51) (M 37 268435455) ?_
             refine pn 28 (some 52) (M 37 536870911) ?_
             refine pn 29 (some 53) (M 37 1073741823) ?_
             refine pu 30 (some 54) (M 37 2147483647) ?_
             refine pu 31 (some 55) (M 37 4294967295) ?_
             refine pn 32 (some 56) (M 37 8589934591) ?_
             refine pn 33 (some 57) (M 37 17179869183) ?_
             refine pn 34 (some 58) (M 37 34359738367) ?_
             refine pu 35 (some 59) (M 37 68719476735) ?_
             refine pu 36 (some 6) (M 37 137438953471) ?_
             refine done_ (done_of HT_.out (by kernel_rfl)) ?_
             try go_wp2
             go_ret
             exact ⟨by first | rfl | (simp [errW_none, errW_some] <;> rfl) | (simp only [← hji21]; first | rfl | (simp [errW_none, errW_some] <;> rfl)) | (simp [*, errW_none, errW_some] <;> rfl), bq⟩
           ·
            replace c26 := Bool.eq_false_iff.mpr c26
            subst c26
            have H1 : (some false) = some r := by rw [if_neg (show ¬ (false = true) by decide)] at H; exact H
            clear H
            have H := H1
            clear H1
            obtain rfl := Option.some.inj H
            have hnb74 := NB735_736.out
            have hnc74 := NB736_735.out
            obtain ⟨hcz75_0, hcz75_1, hcz75_2, hcz75_3, hcz75_4, hcz75_5, hcz75_6⟩ := cz7 BK735.out
            obtain ⟨hfz75_0, hfz75_1, hfz75_2, hfz75_3, hfz75_4, hfz75_5, hfz75_6⟩ := fz7 BK735.out
            try go_wp2_with (first | ((with_reducible refine gate_callee (f := 34) rfl ?_); refine goesL_ (some 17) rfl rfl Tryd.func34 (by kernel_rfl) rfl #[.agg #[.int .i64 a0_0, .int .i64 a0_1, .int .i64 a0_2, .int .i64 a0_3, .int .i64 a0_4, .int .i64 a0_5, .int .i64 a0_6]] rfl mq ?_; (with_reducible refine (isoglossref12_Made.calls kj4 a0_0 a0_1 a0_2 a0_3 a0_4 a0_5 a0_6 t738 t739 t740 t741 t742 t743 _ A12.out).mono ?_); rintro e w76 ⟨rfl, hb⟩; refine ⟨_, rfl, ?_⟩; have n0_ := ak (blk_below (g := gb735) (bx BK735.out) hb); have n1_ := ak (blk_below (g := gb736) (bx BK736.out) hb); have n2_ := ak (below_step bq hb); clear BK735; clear BK736; clear HB; have BK735 := n0_; have BK736 := n1_; have HB := n2_; clear n0_ n1_ n2_; (try clear hb); (try clear hb2); (try clear hk); (try clear hi); (try clear A12)) | ((with_reducible refine gate_callee (f := 42) rfl ?_); refine goesL_ (some 18) rfl rfl Tryd.func42 (by kernel_rfl) rfl #[.agg #[.int .i64 t738, .string t739, .string t740, .string t741, .string t742, .string t743]] rfl mq ?_; (with_reducible refine (isoglossref12_Row.calls kj4 t738 t739 t740 t741 t742 t743 t744 _ A13.out).mono ?_); rintro e w77 ⟨rfl, hb⟩; refine ⟨_, rfl, ?_⟩; have n0_ := ak (blk_below (g := gb735) (bx BK735.out) hb); have n1_ := ak (blk_below (g := gb736) (bx BK736.out) hb); have n2_ := ak (below_step bq hb); clear BK735; clear BK736; clear HB; have BK735 := n0_; have BK736 := n1_; have HB := n2_; clear n0_ n1_ n2_; (try clear hb); (try clear hb2); (try clear hk); (try clear hi); obtain ⟨hcz78_0, hcz78_1⟩ := cz2 BK736.out; obtain ⟨hfz78_0, hfz78_1⟩ := fz2 BK736.out; (try clear A13)) | ((with_reducible refine gate_callee (f := 32) rfl ?_); refine goesL_ (some 23) rfl rfl Tryd.func32 (by kernel_rfl) rfl #[.int .i64 a2_0, .int .i64 (t744.size : Int)] rfl mq ?_; (with_reducible refine (isoglosslaw12_rest.calls a2_0 (t744.size : Int) t745 _ A14.out).mono ?_); rintro e w' ⟨rfl, ⟨nd, rfl⟩⟩; refine ⟨_, rfl, ?_⟩; (try clear A14)))
            (try (rw [drewN_self w77]; generalize hq_ : World.drewN w77 _ = w77; have n0_ : Aside0 (w77.heap[gb735]? = some (.cells #[.int .i64 a0_0, .int .i64 a0_1, .int .i64 a0_2, .int .i64 a0_3, .int .i64 a0_4, .int .i64 a0_5, .int .i64 a0_6] 52 (0, 0))) := ⟨by rw [← hq_]; exact (bx BK735.out)⟩; have n1_ : Aside0 (w77.heap[gb736]? = some (.cells #[.int .i64 a2_0, .int .i64 a2_1] 67 (0, 0))) := ⟨by rw [← hq_]; exact (bx BK736.out)⟩; have n2_ : Aside0 (Below w.heap.size w w77) := ⟨by rw [← hq_]; exact bq⟩; clear BK735 BK736 HB hq_; have BK735 := n0_; have BK736 := n1_; have HB := n2_; clear n0_ n1_ n2_))
            have n0_ := ak (blk_drew BK735.out)
            have n1_ := ak (blk_drew BK736.out)
            have n2_ := ak (below_drew1 HB.out)
            clear BK735
            clear BK736
            clear HB
            have BK735 := n0_
            have BK736 := n1_
            have HB := n2_
            clear n0_ n1_ n2_
            refine start_ (n := 37) (S := fun w' => w'.cell? ⟨gb736, 0, none⟩ = some (.int .i64 a2_0) ∧ w'.cell? ⟨gb736, 1, none⟩ = some (.int .i64 a2_1)) (ds := []) #[false, false, false, false, false, false, false, false, false, false, false, false, false, false, false, false, false, false, false, false, false, false, false, false, false, false, false, false, false, false, false, false, false, false, false, false, false] (by kernel_rfl) rfl rfl ⟨(blk_cell BK736.out 0).trans rfl, (blk_cell BK736.out 1).trans rfl⟩ (fun hHeld => ?_); refine with_tabW isoglosslaw12_AliasDecodes.tab6 isoglosslaw12_AliasDecodes.bits6 (fun HT_ HW_ => ?_)
            generalize w77.drew = w79 at BK735 BK736 HB hHeld ⊢
            refine pu 0 (some 24) (M 37 1) ?_
            refine pu 1 (some 25) (M 37 3) ?_
            refine pu 2 (some 26) (M 37 7) ?_
            refine one_ (i := 3) (N := some 27) (M 37 15) rfl rfl (one_of HT_.out (by kernel_rfl)) (by decide) (fun K hK => ?_)
            refine goes_ Tryd.func43 (by kernel_rfl) rfl #[.string t744] (by rfl) rfl rfl mq ?_
            with_reducible refine (isoglosslaw12_decodes.calls kj4 t744 true _ A16.out HG.out.on).mono ?_
            rintro e w80 ⟨rfl, hb⟩
            refine ⟨_, rfl, ?_⟩
            have n0_ := ak (blk_below (g := gb735) (bx BK735.out) hb)
            have n1_ := ak (blk_below (g := gb736) (bx BK736.out) hb)
            have n2_ := ak (below_step bq hb)
            clear BK735
            clear BK736
            clear HB
            have BK735 := n0_
            have BK736 := n1_
            have HB := n2_
            clear n0_ n1_ n2_
            (try clear hb)
            (try clear hb2)
            (try clear hk)
            (try clear hi)
            refine hK.out _ _ ⟨(blk_cell BK736.out 0).trans rfl, (blk_cell BK736.out 1).trans rfl⟩ (fun hHeld => ?_)
            clear hK K
            refine norm_ (a' := ?_) ?_ ?_
            rotate_left
            ·
             show Act.put _ (some 27) _ = _
             simp only [Act.put, pA, pB, pC, i64_w, i32_w]
             rfl
            refine pu 4 (some 28) (M 37 31) ?_
            refine pu 5 (some 29) (M 37 63) ?_
            refine pu 6 (some 30) (M 37 127) ?_
            refine pu 7 (some 31) (M 37 255) ?_
            refine pu 8 (some 32) (M 37 511) ?_
            refine pu 9 (some 33) (M 37 1023) ?_
            refine pu 15 (some 39) (M 37 33791) ?_
            refine pu 16 (some 40) (M 37 99327) ?_
            refine pu 17 (some 41) (M 37 230399) ?_
            refine pu 18 (some 42) (M 37 492543) ?_
            refine take_ (i := 10) (N := some 34) (v := ?_) (a' := ?_) (M 37 493567) rfl rfl (take_ofW HT_.out HW_.out (by kernel_rfl)) (fun _ _ _ h => h) (Or.inl ⟨by rfl, ?_⟩) hHeld ?_ ?_
            rotate_left
            ·
             rintro w' ⟨s0, s1⟩
             go_simp
             with_reducible rfl
            rotate_left
            ·
             simp only [Act.put, pA, pB, pC, i64_w, i32_w]
             rfl
            refine pu 11 (some 35) (M 37 495615) ?_
            refine one_ (i := 12) (N := some 36) (M 37 499711) rfl rfl (one_of HT_.out (by kernel_rfl)) (by decide) (fun K hK => ?_)
            refine Kd.R_lit_step (Kd.int .u8) _ 5 ?hg (N := 36) ?hd (xs := ([(a2_1) % 256] : List Int)) (inner := [.int .u8 ((a2_1) % 256)]) (ok := fun _ => True) (okp := fun _ => True) ?hr ?hp (fun _ hk => hk) trivial (Below.refl _ _) (Nat.le_refl _) (by simp) ?_; (case hd => rfl); (case hg => rfl); (case hr => first | (go_simp; done) | (go_simp; rfl)); (case hp => exact (Reps.one (show Kd.M (Kd.int .u8) _ _ _ ((a2_1) % 256) [.int .u8 ((a2_1) % 256)] from rfl) (Reps.none _ _)))
            intro v748 w81 ho82 hb hg_ hnew_
            clear hg_ hnew_
            (first | rw [← Ny747.out] at ho82 | (simp only [Int.reduceToNat] at ho82; rw [← Ny747.out] at ho82))
            have n0_ := ak (Kd.R_lower ho82 (below_size bq))
            have n1_ := ak (blk_below (g := gb735) (bx BK735.out) hb)
            have n2_ := ak (blk_below (g := gb736) (bx BK736.out) hb)
            have n3_ := ak (below_step bq hb)
            clear BK735
            clear BK736
            clear HB
            have HO749 := n0_
            have BK735 := n1_
            have BK736 := n2_
            have HB := n3_
            clear n0_ n1_ n2_ n3_
            clear hb ho82
            refine hK.out _ _ ⟨(blk_cell BK736.out 0).trans rfl, (blk_cell BK736.out 1).trans rfl⟩ (fun hHeld => ?_)
            clear hK K
            refine norm_ (a' := ?_) ?_ ?_
            rotate_left
            ·
             show Act.put _ (some 36) _ = _
             simp only [Act.put, pA, pB, pC, i64_w, i32_w]
             rfl
            refine one_ (i := 13) (N := some 37) (M 37 507903) rfl rfl (one_of HT_.out (by kernel_rfl)) (by decide) (fun K hK => ?_)
            have hcv83 := own_string (P := Tryd.prog) Tryd.underlying28 Tryd.underlying5 Tryd.underlying9 (Kd.own_of_R HO749.out)
            refine value_ (w1 := ?_) (v := ?_) (by rfl) rfl ?_ ?_
            rotate_left 2
            ·
             go_simp
             constructor
             ·
              rfl
             ·
              rfl
            clear hcv83
            refine hK.out _ _ ⟨(blk_cell BK736.out 0).trans rfl, (blk_cell BK736.out 1).trans rfl⟩ (fun hHeld => ?_)
            clear hK K
            refine norm_ (a' := ?_) ?_ ?_
            rotate_left
            ·
             show Act.put _ (some 37) _ = _
             simp only [Act.put, pA, pB, pC, i64_w, i32_w]
             rfl
            refine pu 14 (some 38) (M 37 524287) ?_
            refine pu 19 (some 43) (M 37 1048575) ?_
            refine one_ (i := 20) (N := some 44) (M 37 2097151) rfl rfl (one_of HT_.out (by kernel_rfl)) (by decide) (fun K hK => ?_)
            refine goes_ Tryd.func43 (by kernel_rfl) rfl #[.string (((t744.extract 0 (t745 : Int).toNat) ++ (strOfNums y747)) ++ (t744.extract ((ji21) : Int).toNat t744.size))] (by rfl) rfl rfl (by (try simp only [List.map_toArray, List.map_cons, List.map_nil]); first | done | (simp only [hji21]; rfl) | rfl | (simp only [List.length_drop, List.length_take]; rfl)) ?_
            with_reducible refine (isoglosslaw12_decodes.calls kj4 (((t744.extract 0 (t745 : Int).toNat) ++ (strOfNums y747)) ++ (t744.extract ((ji21) : Int).toNat t744.size)) false _ A25.out HG.out.on).mono ?_
            rintro e w84 ⟨rfl, hb⟩
            refine ⟨_, rfl, ?_⟩
            have n0_ := ak (Kd.R_below (rx HO749.out) hb)
            have n1_ := ak (blk_below (g := gb735) (bx BK735.out) hb)
            have n2_ := ak (blk_below (g := gb736) (bx BK736.out) hb)
            have n3_ := ak (below_step bq hb)
            clear HO749
            clear BK735
            clear BK736
            clear HB
            have HO749 := n0_
            have BK735 := n1_
            have BK736 := n2_
            have HB := n3_
            clear n0_ n1_ n2_ n3_
            (try clear hb)
            (try clear hb2)
            (try clear hk)
            (try clear hi)
            refine hK.out _ _ ⟨(blk_cell BK736.out 0).trans rfl, (blk_cell BK736.out 1).trans rfl⟩ (fun hHeld => ?_)
            clear hK K
            refine norm_ (a' := ?_) ?_ ?_
            rotate_left
            ·
             show Act.put _ (some 44) _ = _
             simp only [Act.put, pA, pB, pC, i64_w, i32_w]
             rfl
            refine pu 21 (some 45) (M 37 4194303) ?_
            refine pu 22 (some 46) (M 37 8388607) ?_
            refine pn 23 (some 47) (M 37 16777215) ?_
            refine pn 24 (some 48) (M 37 33554431) ?_
            refine pu 25 (some 49) (M 37 67108863) ?_
            refine pu 26 (some 50) (M 37 134217727) ?_
            refine pn 27 (some 51) (M 37 268435455) ?_
            refine pn 28 (some 52) (M 37 536870911) ?_
            refine pn 29 (some 53) (M 37 1073741823) ?_
            refine pu 30 (some 54) (M 37 2147483647) ?_
            refine pu 31 (some 55) (M 37 4294967295) ?_
            refine pn 32 (some 56) (M 37 8589934591) ?_
            refine pn 33 (some 57) (M 37 17179869183) ?_
            refine pn 34 (some 58) (M 37 34359738367) ?_
            refine pu 35 (some 59) (M 37 68719476735) ?_
            refine pu 36 (some 6) (M 37 137438953471) ?_
            refine done_ (done_of HT_.out (by kernel_rfl)) ?_
            try go_wp2
            go_ret
            exact ⟨by first | rfl | (simp [errW_none, errW_some] <;> rfl) | (simp only [← hji21]; first | rfl | (simp [errW_none, errW_some] <;> rfl)) | (simp [*, errW_none, errW_some] <;> rfl), bq⟩
          ·
           rw [if_neg c24] at H
           exact absurd H (by simp)
         ·
          rw [if_neg c23] at H
          exact absurd H (by simp)
        ·
         rw [if_neg c22] at H
         exact absurd H (by simp)
       ·
        rw [if_neg c20] at H
        exact absurd H (by simp)
      ·
       rw [if_neg c19] at H
       exact absurd H (by simp)
     ·
      rw [if_neg c18] at H
      exact absurd H (by simp)
    ·
     replace c17 := Bool.eq_false_iff.mpr c17
     subst c17
     have H1 : (some false) = some r := by rw [if_neg (show ¬ (false = true) by decide)] at H; exact H
     clear H
     have H := H1
     clear H1
     obtain rfl := Option.some.inj H
     have hnb85 := NB735_736.out
     have hnc85 := NB736_735.out
     obtain ⟨hcz86_0, hcz86_1, hcz86_2, hcz86_3, hcz86_4, hcz86_5, hcz86_6⟩ := cz7 BK735.out
     obtain ⟨hfz86_0, hfz86_1, hfz86_2, hfz86_3, hfz86_4, hfz86_5, hfz86_6⟩ := fz7 BK735.out
     try go_wp2_with (first | ((with_reducible refine gate_callee (f := 34) rfl ?_); refine goesL_ (some 17) rfl rfl Tryd.func34 (by kernel_rfl) rfl #[.agg #[.int .i64 a0_0, .int .i64 a0_1, .int .i64 a0_2, .int .i64 a0_3, .int .i64 a0_4, .int .i64 a0_5, .int .i64 a0_6]] rfl mq ?_; (with_reducible refine (isoglossref12_Made.calls kj4 a0_0 a0_1 a0_2 a0_3 a0_4 a0_5 a0_6 t738 t739 t740 t741 t742 t743 _ A12.out).mono ?_); rintro e w87 ⟨rfl, hb⟩; refine ⟨_, rfl, ?_⟩; have n0_ := ak (blk_below (g := gb735) (bx BK735.out) hb); have n1_ := ak (blk_below (g := gb736) (bx BK736.out) hb); have n2_ := ak (below_step bq hb); clear BK735; clear BK736; clear HB; have BK735 := n0_; have BK736 := n1_; have HB := n2_; clear n0_ n1_ n2_; (try clear hb); (try clear hb2); (try clear hk); (try clear hi); (try clear A12)) | ((with_reducible refine gate_callee (f := 42) rfl ?_); refine goesL_ (some 18) rfl rfl Tryd.func42 (by kernel_rfl) rfl #[.agg #[.int .i64 t738, .string t739, .string t740, .string t741, .string t742, .string t743]] rfl mq ?_; (with_reducible refine (isoglossref12_Row.calls kj4 t738 t739 t740 t741 t742 t743 t744 _ A13.out).mono ?_); rintro e w88 ⟨rfl, hb⟩; refine ⟨_, rfl, ?_⟩; have n0_ := ak (blk_below (g := gb735) (bx BK735.out) hb); have n1_ := ak (blk_below (g := gb736) (bx BK736.out) hb); have n2_ := ak (below_step bq hb); clear BK735; clear BK736; clear HB; have BK735 := n0_; have BK736 := n1_; have HB := n2_; clear n0_ n1_ n2_; (try clear hb); (try clear hb2); (try clear hk); (try clear hi); obtain ⟨hcz89_0, hcz89_1⟩ := cz2 BK736.out; obtain ⟨hfz89_0, hfz89_1⟩ := fz2 BK736.out; (try clear A13)) | ((with_reducible refine gate_callee (f := 32) rfl ?_); refine goesL_ (some 23) rfl rfl Tryd.func32 (by kernel_rfl) rfl #[.int .i64 a2_0, .int .i64 (t744.size : Int)] rfl mq ?_; (with_reducible refine (isoglosslaw12_rest.calls a2_0 (t744.size : Int) t745 _ A14.out).mono ?_); rintro e w' ⟨rfl, ⟨nd, rfl⟩⟩; refine ⟨_, rfl, ?_⟩; (try clear A14)))
     (try (rw [drewN_self w88]; generalize hq_ : World.drewN w88 _ = w88; have n0_ : Aside0 (w88.heap[gb735]? = some (.cells #[.int .i64 a0_0, .int .i64 a0_1, .int .i64 a0_2, .int .i64 a0_3, .int .i64 a0_4, .int .i64 a0_5, .int .i64 a0_6] 52 (0, 0))) := ⟨by rw [← hq_]; exact (bx BK735.out)⟩; have n1_ : Aside0 (w88.heap[gb736]? = some (.cells #[.int .i64 a2_0, .int .i64 a2_1] 67 (0, 0))) := ⟨by rw [← hq_]; exact (bx BK736.out)⟩; have n2_ : Aside0 (Below w.heap.size w w88) := ⟨by rw [← hq_]; exact bq⟩; clear BK735 BK736 HB hq_; have BK735 := n0_; have BK736 := n1_; have HB := n2_; clear n0_ n1_ n2_))
     have n0_ := ak (blk_drew BK735.out)
     have n1_ := ak (blk_drew BK736.out)
     have n2_ := ak (below_drew1 HB.out)
     clear BK735
     clear BK736
     clear HB
     have BK735 := n0_
     have BK736 := n1_
     have HB := n2_
     clear n0_ n1_ n2_
     refine start_ (n := 37) (S := fun w' => True) (ds := []) #[false, false, false, false, false, false, false, false, false, false, false, false, false, false, false, false, false, false, false, false, false, false, false, false, false, false, false, false, false, false, false, false, false, false, false, false, false] (by kernel_rfl) rfl rfl trivial (fun hHeld => ?_); refine with_tabW isoglosslaw12_AliasDecodes.tab6 isoglosslaw12_AliasDecodes.bits6 (fun HT_ HW_ => ?_)
     generalize w88.drew = w90 at BK735 BK736 HB hHeld ⊢
     refine pu 0 (some 24) (M 37 1) ?_
     refine pu 1 (some 25) (M 37 3) ?_
     refine pu 2 (some 26) (M 37 7) ?_
     refine one_ (i := 3) (N := some 27) (M 37 15) rfl rfl (one_of HT_.out (by kernel_rfl)) (by decide) (fun K hK => ?_)
     refine goes_ Tryd.func43 (by kernel_rfl) rfl #[.string t744] (by rfl) rfl rfl mq ?_
     with_reducible refine (isoglosslaw12_decodes.calls kj4 t744 false _ A16.out HG.out.on).mono ?_
     rintro e w91 ⟨rfl, hb⟩
     refine ⟨_, rfl, ?_⟩
     have n0_ := ak (blk_below (g := gb735) (bx BK735.out) hb)
     have n1_ := ak (blk_below (g := gb736) (bx BK736.out) hb)
     have n2_ := ak (below_step bq hb)
     clear BK735
     clear BK736
     clear HB
     have BK735 := n0_
     have BK736 := n1_
     have HB := n2_
     clear n0_ n1_ n2_
     (try clear hb)
     (try clear hb2)
     (try clear hk)
     (try clear hi)
     refine hK.out _ _ trivial (fun hHeld => ?_)
     clear hK K
     refine norm_ (a' := ?_) ?_ ?_
     rotate_left
     ·
      show Act.put _ (some 27) _ = _
      simp only [Act.put, pA, pB, pC, i64_w, i32_w]
      rfl
     refine pu 4 (some 28) (M 37 31) ?_
     refine pu 5 (some 29) (M 37 63) ?_
     refine pn 6 (some 30) (M 37 127) ?_
     refine pn 7 (some 31) (M 37 255) ?_
     refine pn 8 (some 32) (M 37 511) ?_
     refine pn 9 (some 33) (M 37 1023) ?_
     refine pn 10 (some 34) (M 37 2047) ?_
     refine pn 11 (some 35) (M 37 4095) ?_
     refine pn 12 (some 36) (M 37 8191) ?_
     refine pn 13 (some 37) (M 37 16383) ?_
     refine pn 14 (some 38) (M 37 32767) ?_
     refine pn 15 (some 39) (M 37 65535) ?_
     refine pn 16 (some 40) (M 37 131071) ?_
     refine pn 17 (some 41) (M 37 262143) ?_
     refine pn 18 (some 42) (M 37 524287) ?_
     refine pn 19 (some 43) (M 37 1048575) ?_
     refine pn 20 (some 44) (M 37 2097151) ?_
     refine pu 21 (some 45) (M 37 4194303) ?_
     refine pu 22 (some 46) (M 37 8388607) ?_
     refine pn 23 (some 47) (M 37 16777215) ?_
     refine pn 24 (some 48) (M 37 33554431) ?_
     refine pu 25 (some 49) (M 37 67108863) ?_
     refine pu 26 (some 50) (M 37 134217727) ?_
     refine pn 27 (some 51) (M 37 268435455) ?_
     refine pn 28 (some 52) (M 37 536870911) ?_
     refine pn 29 (some 53) (M 37 1073741823) ?_
     refine pu 30 (some 54) (M 37 2147483647) ?_
     refine pu 31 (some 55) (M 37 4294967295) ?_
     refine pn 32 (some 56) (M 37 8589934591) ?_
     refine pn 33 (some 57) (M 37 17179869183) ?_
     refine pn 34 (some 58) (M 37 34359738367) ?_
     refine pu 35 (some 59) (M 37 68719476735) ?_
     refine pu 36 (some 6) (M 37 137438953471) ?_
     refine done_ (done_of HT_.out (by kernel_rfl)) ?_
     try go_wp2
     go_ret
     exact ⟨by first | rfl | (simp [errW_none, errW_some] <;> rfl) | (simp [*, errW_none, errW_some] <;> rfl), bq⟩
   ·
    replace c15 := Bool.eq_false_iff.mpr c15
    subst c15
    have H1 : (some false) = some r := by rw [if_neg (show ¬ (false = true) by decide)] at H; exact H
    clear H
    have H := H1
    clear H1
    obtain rfl := Option.some.inj H
    have hnb92 := NB735_736.out
    have hnc92 := NB736_735.out
    obtain ⟨hcz93_0, hcz93_1, hcz93_2, hcz93_3, hcz93_4, hcz93_5, hcz93_6⟩ := cz7 BK735.out
    obtain ⟨hfz93_0, hfz93_1, hfz93_2, hfz93_3, hfz93_4, hfz93_5, hfz93_6⟩ := fz7 BK735.out
    try go_wp2_with (first | ((with_reducible refine gate_callee (f := 34) rfl ?_); refine goesL_ (some 17) rfl rfl Tryd.func34 (by kernel_rfl) rfl #[.agg #[.int .i64 a0_0, .int .i64 a0_1, .int .i64 a0_2, .int .i64 a0_3, .int .i64 a0_4, .int .i64 a0_5, .int .i64 a0_6]] rfl mq ?_; (with_reducible refine (isoglossref12_Made.calls kj4 a0_0 a0_1 a0_2 a0_3 a0_4 a0_5 a0_6 t738 t739 t740 t741 t742 t743 _ A12.out).mono ?_); rintro e w94 ⟨rfl, hb⟩; refine ⟨_, rfl, ?_⟩; have n0_ := ak (blk_below (g := gb735) (bx BK735.out) hb); have n1_ := ak (blk_below (g := gb736) (bx BK736.out) hb); have n2_ := ak (below_step bq hb); clear BK735; clear BK736; clear HB; have BK735 := n0_; have BK736 := n1_; have HB := n2_; clear n0_ n1_ n2_; (try clear hb); (try clear hb2); (try clear hk); (try clear hi); (try clear A12)) | ((with_reducible refine gate_callee (f := 42) rfl ?_); refine goesL_ (some 18) rfl rfl Tryd.func42 (by kernel_rfl) rfl #[.agg #[.int .i64 t738, .string t739, .string t740, .string t741, .string t742, .string t743]] rfl mq ?_; (with_reducible refine (isoglossref12_Row.calls kj4 t738 t739 t740 t741 t742 t743 t744 _ A13.out).mono ?_); rintro e w95 ⟨rfl, hb⟩; refine ⟨_, rfl, ?_⟩; have n0_ := ak (blk_below (g := gb735) (bx BK735.out) hb); have n1_ := ak (blk_below (g := gb736) (bx BK736.out) hb); have n2_ := ak (below_step bq hb); clear BK735; clear BK736; clear HB; have BK735 := n0_; have BK736 := n1_; have HB := n2_; clear n0_ n1_ n2_; (try clear hb); (try clear hb2); (try clear hk); (try clear hi); obtain ⟨hcz96_0, hcz96_1⟩ := cz2 BK736.out; obtain ⟨hfz96_0, hfz96_1⟩ := fz2 BK736.out; (try clear A13)) | ((with_reducible refine gate_callee (f := 32) rfl ?_); refine goesL_ (some 23) rfl rfl Tryd.func32 (by kernel_rfl) rfl #[.int .i64 a2_0, .int .i64 (t744.size : Int)] rfl mq ?_; (with_reducible refine (isoglosslaw12_rest.calls a2_0 (t744.size : Int) t745 _ A14.out).mono ?_); rintro e w' ⟨rfl, ⟨nd, rfl⟩⟩; refine ⟨_, rfl, ?_⟩; (try clear A14)))
    (try (rw [drewN_self w95]; generalize hq_ : World.drewN w95 _ = w95; have n0_ : Aside0 (w95.heap[gb735]? = some (.cells #[.int .i64 a0_0, .int .i64 a0_1, .int .i64 a0_2, .int .i64 a0_3, .int .i64 a0_4, .int .i64 a0_5, .int .i64 a0_6] 52 (0, 0))) := ⟨by rw [← hq_]; exact (bx BK735.out)⟩; have n1_ : Aside0 (w95.heap[gb736]? = some (.cells #[.int .i64 a2_0, .int .i64 a2_1] 67 (0, 0))) := ⟨by rw [← hq_]; exact (bx BK736.out)⟩; have n2_ : Aside0 (Below w.heap.size w w95) := ⟨by rw [← hq_]; exact bq⟩; clear BK735 BK736 HB hq_; have BK735 := n0_; have BK736 := n1_; have HB := n2_; clear n0_ n1_ n2_))
    have n0_ := ak (blk_drew BK735.out)
    have n1_ := ak (blk_drew BK736.out)
    have n2_ := ak (below_drew1 HB.out)
    clear BK735
    clear BK736
    clear HB
    have BK735 := n0_
    have BK736 := n1_
    have HB := n2_
    clear n0_ n1_ n2_
    refine start_ (n := 37) (S := fun w' => True) (ds := []) #[false, false, false, false, false, false, false, false, false, false, false, false, false, false, false, false, false, false, false, false, false, false, false, false, false, false, false, false, false, false, false, false, false, false, false, false, false] (by kernel_rfl) rfl rfl trivial (fun hHeld => ?_); refine with_tabW isoglosslaw12_AliasDecodes.tab6 isoglosslaw12_AliasDecodes.bits6 (fun HT_ HW_ => ?_)
    generalize w95.drew = w97 at BK735 BK736 HB hHeld ⊢
    refine pu 0 (some 24) (M 37 1) ?_
    refine pu 1 (some 25) (M 37 3) ?_
    refine pn 2 (some 26) (M 37 7) ?_
    refine pn 3 (some 27) (M 37 15) ?_
    refine pu 4 (some 28) (M 37 31) ?_
    refine pu 5 (some 29) (M 37 63) ?_
    refine pn 6 (some 30) (M 37 127) ?_
    refine pn 7 (some 31) (M 37 255) ?_
    refine pn 8 (some 32) (M 37 511) ?_
    refine pn 9 (some 33) (M 37 1023) ?_
    refine pn 10 (some 34) (M 37 2047) ?_
    refine pn 11 (some 35) (M 37 4095) ?_
    refine pn 12 (some 36) (M 37 8191) ?_
    refine pn 13 (some 37) (M 37 16383) ?_
    refine pn 14 (some 38) (M 37 32767) ?_
    refine pn 15 (some 39) (M 37 65535) ?_
    refine pn 16 (some 40) (M 37 131071) ?_
    refine pn 17 (some 41) (M 37 262143) ?_
    refine pn 18 (some 42) (M 37 524287) ?_
    refine pn 19 (some 43) (M 37 1048575) ?_
    refine pn 20 (some 44) (M 37 2097151) ?_
    refine pu 21 (some 45) (M 37 4194303) ?_
    refine pu 22 (some 46) (M 37 8388607) ?_
    refine pn 23 (some 47) (M 37 16777215) ?_
    refine pn 24 (some 48) (M 37 33554431) ?_
    refine pu 25 (some 49) (M 37 67108863) ?_
    refine pu 26 (some 50) (M 37 134217727) ?_
    refine pn 27 (some 51) (M 37 268435455) ?_
    refine pn 28 (some 52) (M 37 536870911) ?_
    refine pn 29 (some 53) (M 37 1073741823) ?_
    refine pu 30 (some 54) (M 37 2147483647) ?_
    refine pu 31 (some 55) (M 37 4294967295) ?_
    refine pn 32 (some 56) (M 37 8589934591) ?_
    refine pn 33 (some 57) (M 37 17179869183) ?_
    refine pn 34 (some 58) (M 37 34359738367) ?_
    refine pu 35 (some 59) (M 37 68719476735) ?_
    refine pu 36 (some 6) (M 37 137438953471) ?_
    refine done_ (done_of HT_.out (by kernel_rfl)) ?_
    try go_wp2
    go_ret
    exact ⟨by first | rfl | (simp [errW_none, errW_some] <;> rfl) | (simp [*, errW_none, errW_some] <;> rfl), bq⟩

def isoglosslaw12_AliasDecodes.Pure : Prop := ∀ (a0_0 : Int) (a0_1 : Int) (a0_2 : Int) (a0_3 : Int) (a0_4 : Int) (a0_5 : Int) (a0_6 : Int) (a1 : ByteArray) (a2_0 : Int) (a2_1 : Int), (Lit.int .i64 a0_0).wf = true → (Lit.int .i64 a0_1).wf = true → (Lit.int .i64 a0_2).wf = true → (Lit.int .i64 a0_3).wf = true → (Lit.int .i64 a0_4).wf = true → (Lit.int .i64 a0_5).wf = true → (Lit.int .i64 a0_6).wf = true → a1.size ≤ 140737488351232 → (Lit.int .i64 a2_0).wf = true → (Lit.int .i64 a2_1).wf = true → ∃ k, isoglosslaw12_AliasDecodes.f k a0_0 a0_1 a0_2 a0_3 a0_4 a0_5 a0_6 a1 a2_0 a2_1 = some true
theorem isoglosslaw12_AliasDecodes.walk (P : isoglosslaw12_AliasDecodes.Pure) (a0_0 : Int) (a0_1 : Int) (a0_2 : Int) (a0_3 : Int) (a0_4 : Int) (a0_5 : Int) (a0_6 : Int) (a1 : ByteArray) (a2_0 : Int) (a2_1 : Int) (w : World) (w0_0 : (Lit.int .i64 a0_0).wf = true) (w0_1 : (Lit.int .i64 a0_1).wf = true) (w0_2 : (Lit.int .i64 a0_2).wf = true) (w0_3 : (Lit.int .i64 a0_3).wf = true) (w0_4 : (Lit.int .i64 a0_4).wf = true) (w0_5 : (Lit.int .i64 a0_5).wf = true) (w0_6 : (Lit.int .i64 a0_6).wf = true) (w1 : a1.size ≤ 140737488351232) (w2_0 : (Lit.int .i64 a2_0).wf = true) (w2_1 : (Lit.int .i64 a2_1).wf = true) (hG : GrandW.G w) :
  Calls Tryd.prog 12 #[.agg #[.int .i64 a0_0, .int .i64 a0_1, .int .i64 a0_2, .int .i64 a0_3, .int .i64 a0_4, .int .i64 a0_5, .int .i64 a0_6], .string a1, .agg #[.int .i64 a2_0, .int .i64 a2_1]] w fun e w' => e = .returned (.bool true) ∧ Below w.heap.size w w' := by
 obtain ⟨k, h⟩ := P a0_0 a0_1 a0_2 a0_3 a0_4 a0_5 a0_6 a1 a2_0 a2_1 w0_0 w0_1 w0_2 w0_3 w0_4 w0_5 w0_6 w1 w2_0 w2_1
 refine (isoglosslaw12_AliasDecodes.calls k a0_0 a0_1 a0_2 a0_3 a0_4 a0_5 a0_6 a1 a2_0 a2_1 true w h hG).mono ?_
 rintro e w' ⟨rfl, hd⟩
 exact ⟨rfl, hd⟩

end Go.Proofs.YtmbfnbnlajchmaaDoor.P
