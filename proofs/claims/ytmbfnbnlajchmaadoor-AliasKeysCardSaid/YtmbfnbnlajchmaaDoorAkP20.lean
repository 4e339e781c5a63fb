/- Made by a program of this seat's own (myprint.py, round the kit's print): what the functions compute, and that they do. -/
import Derived.Test.YtmbfnbnlajchmaaDoorAkP0
import Derived.Test.YtmbfnbnlajchmaaDoorAkP12
import Derived.Test.YtmbfnbnlajchmaaDoorAkP19
import Derived.Test.YtmbfnbnlajchmaaDoorAkTight
namespace Go.Proofs.YtmbfnbnlajchmaaDoor.P
open Go.RowKit Go.Proofs.YtmbfnbnlajchmaaDoorW.PrintWords Go.Proofs.YtmbfnbnlajchmaaDoorW.PrintLast Go.Proofs.YtmbfnbnlajchmaaDoorW.PrintMore
attribute [local go_sem] StrOrd.binOp_gtr StrOrd.binOp_leq max2_int min2_int max_two min_two max_three min_three max_four min_four   -- for this text's walks alone
set_option linter.unusedVariables false
set_option linter.unusedSimpArgs false

def isoglosslaw12_keys.j0 : Nat → Int → ByteArray → Bool → Bool → Int → Bool → Int → Bool → Option (Bool)
 | 0, _, _, _, _, _, _, _, _ => none
 | k + 1, x0, x7, x8, x11, x611000, x611001, x614000, x614001 => if x11 = true then (if x8 = true then ((some (([(x0) % 256] : List Int) : List Int)).bind fun y614 => ((isoglossref03_Put.f k x611000 8).bind fun t617 => (if (strOfNums y614).size + t617.size ≤ 9223372036854775807 then ((isoglossref03_Put.f k x614000 8).bind fun t618 => (if ((strOfNums y614) ++ t617).size + t618.size ≤ 9223372036854775807 then (some (x7.toList == (((strOfNums y614) ++ t617) ++ t618).toList)) else (none))) else (none)))) else (some false)) else (if x8 = true then (some false) else (some (x7.toList == ([] : List UInt8))))
def isoglosslaw12_keys.f (k : Nat) (a0 : Int) (a1 : ByteArray) (a2 : ByteArray) : Option (Bool) := (alias_Key.f k a0 a1 a2).bind fun bt606 => ((isoglossref03_Pack.f k a1).bind fun bt608 => ((isoglossref03_Pack.f k a2).bind fun bt611 => (if a0 ≥ 1 then (if a0 ≤ 7 then (if bt608.2 = true then (isoglosslaw12_keys.j0 k a0 bt606.1 bt606.2 bt611.2 bt608.1 bt608.2 bt611.1 bt611.2) else (isoglosslaw12_keys.j0 k a0 bt606.1 bt606.2 false bt608.1 bt608.2 bt611.1 bt611.2)) else (isoglosslaw12_keys.j0 k a0 bt606.1 bt606.2 false bt608.1 bt608.2 bt611.1 bt611.2)) else (isoglosslaw12_keys.j0 k a0 bt606.1 bt606.2 false bt608.1 bt608.2 bt611.1 bt611.2))))
def isoglosslaw12_keys.T7 : Bool × List (List Nat × List Nat) := (true, [([], []), ([0], [0]), ([1], [1]), ([1], [1]), ([3, 1], [1, 3]), ([4, 1], [1, 4]), ([5, 1], [1, 5]), ([1], [1]), ([7, 1], [1, 7]), ([8, 1, 1], [1, 8]), ([6, 9, 1], [1, 6, 9]), ([1], [1]), ([11, 1], [1, 11]), ([12, 9, 1], [1, 12]), ([10, 13, 1], [1, 10, 13]), ([2, 14, 1], [1, 2, 14]), ([1, 15], [1, 15]), ([16, 13, 0, 1, 2, 3, 4, 5, 6, 7, 8, 9, 10, 11, 12, 13, 14, 15, 16], [16])])
def isoglosslaw12_keys.B7 : List Nat := [0, 1, 3, 3, 11, 27, 59, 3, 131, 387, 1019, 3, 2051, 7043, 16379, 32767, 65535, 131071]
theorem isoglosslaw12_keys.tab7 : rtab .any (opsOf Tryd.f38 7) = isoglosslaw12_keys.T7 := by kernel_rfl
theorem isoglosslaw12_keys.bits7 : waitsOk isoglosslaw12_keys.T7.2 isoglosslaw12_keys.B7 = true := by kernel_rfl
set_option maxHeartbeats 8000000 in
set_option maxRecDepth 100000 in
theorem isoglosslaw12_keys.calls (k : Nat) (a0 : Int) (a1 : ByteArray) (a2 : ByteArray) (r : Bool) (w : World) (h : isoglosslaw12_keys.f k a0 a1 a2 = some r) (hG : GrandW.G w) :
  Calls Tryd.prog 38 #[.int .i64 a0, .string a1, .string a2] w fun e w' => e = .returned (.bool r) ∧ Below w.heap.size w w' := by
 have HG := ak hG
 clear hG
 have hu95 := Tryd.underlying95
 have HB := ak (Below.refl w.heap.size w)
 have H : ((alias_Key.f k a0 a1 a2).bind fun bt606 => ((isoglossref03_Pack.f k a1).bind fun bt608 => ((isoglossref03_Pack.f k a2).bind fun bt611 => (if a0 ≥ 1 then (if a0 ≤ 7 then (if bt608.2 = true then (isoglosslaw12_keys.j0 k a0 bt606.1 bt606.2 bt611.2 bt608.1 bt608.2 bt611.1 bt611.2) else (isoglosslaw12_keys.j0 k a0 bt606.1 bt606.2 false bt608.1 bt608.2 bt611.1 bt611.2)) else (isoglosslaw12_keys.j0 k a0 bt606.1 bt606.2 false bt608.1 bt608.2 bt611.1 bt611.2)) else (isoglosslaw12_keys.j0 k a0 bt606.1 bt606.2 false bt608.1 bt608.2 bt611.1 bt611.2))))) = some r := h
 clear h
 replace H := Option.bind_eq_some_iff.mp H
 obtain ⟨⟨t606, t607⟩, A40, H⟩ := H
 replace H : ((isoglossref03_Pack.f k a1).bind fun bt608 => ((isoglossref03_Pack.f k a2).bind fun bt611 => (if a0 ≥ 1 then (if a0 ≤ 7 then (if bt608.2 = true then (isoglosslaw12_keys.j0 k a0 t606 t607 bt611.2 bt608.1 bt608.2 bt611.1 bt611.2) else (isoglosslaw12_keys.j0 k a0 t606 t607 false bt608.1 bt608.2 bt611.1 bt611.2)) else (isoglosslaw12_keys.j0 k a0 t606 t607 false bt608.1 bt608.2 bt611.1 bt611.2)) else (isoglosslaw12_keys.j0 k a0 t606 t607 false bt608.1 bt608.2 bt611.1 bt611.2)))) = some r := H
 have A4 := ak A40
 clear A40
 replace H := Option.bind_eq_some_iff.mp H
 obtain ⟨⟨t608, t609⟩, A50, H⟩ := H
 replace H : ((isoglossref03_Pack.f k a2).bind fun bt611 => (if a0 ≥ 1 then (if a0 ≤ 7 then (if t609 = true then (isoglosslaw12_keys.j0 k a0 t606 t607 bt611.2 t608 t609 bt611.1 bt611.2) else (isoglosslaw12_keys.j0 k a0 t606 t607 false t608 t609 bt611.1 bt611.2)) else (isoglosslaw12_keys.j0 k a0 t606 t607 false t608 t609 bt611.1 bt611.2)) else (isoglosslaw12_keys.j0 k a0 t606 t607 false t608 t609 bt611.1 bt611.2))) = some r := H
 have A5 := ak A50
 clear A50
 replace H := Option.bind_eq_some_iff.mp H
 obtain ⟨⟨t611, t612⟩, A60, H⟩ := H
 replace H : (if a0 ≥ 1 then (if a0 ≤ 7 then (if t609 = true then (isoglosslaw12_keys.j0 k a0 t606 t607 t612 t608 t609 t611 t612) else (isoglosslaw12_keys.j0 k a0 t606 t607 false t608 t609 t611 t612)) else (isoglosslaw12_keys.j0 k a0 t606 t607 false t608 t609 t611 t612)) else (isoglosslaw12_keys.j0 k a0 t606 t607 false t608 t609 t611 t612)) = some r := H
 have A6 := ak A60
 clear A60
 have HC7 := ak H
 clear H
 go_enter Tryd.func38, Tryd.ntmps38
 go_upto_region 4 with (first | ((with_reducible refine gate_callee (f := 37) rfl ?_); refine goesL_ (some 16) rfl rfl Tryd.func37 (by kernel_rfl) rfl #[.int .i64 a0, .string a1, .string a2] rfl mq ?_; (with_reducible refine (alias_Key.calls k a0 a1 a2 t606 t607 _ A4.out HG.out.on).mono ?_); rintro e w8 ⟨rfl, hb⟩; refine ⟨_, rfl, ?_⟩; have n0_ := ak (below_step bq hb); clear HB; have HB := n0_; clear n0_; (try clear hb); (try clear hb2); (try clear hk); (try clear hi); (try clear A4)) | ((with_reducible refine gate_callee (f := 69) rfl ?_); refine goesL_ (some 20) rfl rfl Tryd.func69 (by kernel_rfl) rfl #[.string a1] rfl mq ?_; (with_reducible refine (isoglossref03_Pack.calls k a1 t608 t609 _ A5.out).mono ?_); rintro e w9 ⟨rfl, hb⟩; refine ⟨_, rfl, ?_⟩; have n0_ := ak (below_step bq hb); clear HB; have HB := n0_; clear n0_; (try clear hb); (try clear hb2); (try clear hk); (try clear hi); (try clear A5)) | ((with_reducible refine gate_dst (N := 9) rfl ?_); (try (refine gate_guard (by rfl) ?_; dsimp only)); refine box_event ?hg (N := 9) ?hd (cs := #[.int .u64 0, .bool false]) (t := 95) ?hr ?_; (case hd => rfl); (case hg => rfl); (case hr => first | (go_simp; done) | (go_simp; rfl)); intro gb610 hg w10 hbox hb; have n0_ := ak (below_step bq hb); have n1_ := ak (hbox); have n2_ := ak ((by rw [hg]; exact (below_size bq) : w.heap.size ≤ gb610)); have n3_ := ak ((by rw [hg]; exact (below_size bq) : w.heap.size ≤ gb610)); clear HB; have HB := n0_; have BK610 := n1_; have GW610 := n2_; have GE610 := n3_; clear n0_ n1_ n2_ n3_; clear hb hbox hg; obtain ⟨hcz11_0, hcz11_1⟩ := cz2 BK610.out; obtain ⟨hfz11_0, hfz11_1⟩ := fz2 BK610.out) | ((with_reducible refine gate_callee (f := 69) rfl ?_); refine goesL_ (some 22) rfl rfl Tryd.func69 (by kernel_rfl) rfl #[.string a2] rfl mq ?_; (with_reducible refine (isoglossref03_Pack.calls k a2 t611 t612 _ A6.out).mono ?_); rintro e w12 ⟨rfl, hb⟩; refine ⟨_, rfl, ?_⟩; have n0_ := ak (blk_below (g := gb610) (o := .cells #[.int .u64 t608, .bool t609] 95 (0, 0)) (bx (blk_put (cs := #[.int .u64 t608, .bool false]) (bx (blk_put (cs := #[.int .u64 0, .bool false]) (bx BK610.out) 0 _ rfl)) 1 _ rfl)) hb); have n1_ := ak (below_step bq hb); clear BK610; clear HB; have BK610 := n0_; have HB := n1_; clear n0_ n1_; (try clear hb); (try clear hb2); (try clear hk); (try clear hi); (try clear A6)) | ((with_reducible refine gate_dst (N := 10) rfl ?_); (try (refine gate_guard (by rfl) ?_; dsimp only)); refine box_event ?hg (N := 10) ?hd (cs := #[.int .u64 0, .bool false]) (t := 95) ?hr ?_; (case hd => rfl); (case hg => rfl); (case hr => first | (go_simp; done) | (go_simp; rfl)); intro gb613 hg w13 hbox hb; have n0_ := ak (blk_below (g := gb610) (bx BK610.out) hb); have n1_ := ak (below_step bq hb); have n2_ := ak (hbox); have n3_ := ak ((by rw [hg]; exact (below_size bq) : w.heap.size ≤ gb613)); have n4_ := ak ((by rw [hg]; exact (below_size bq) : w.heap.size ≤ gb613)); have n5_ := ak ((by rw [hg]; exact Nat.ne_of_lt (blk_lt (g := gb610) (bx BK610.out)) : gb610 ≠ gb613)); have n6_ := ak ((by rw [hg]; exact Nat.ne_of_gt (blk_lt (g := gb610) (bx BK610.out)) : gb613 ≠ gb610)); clear BK610; clear HB; have BK610 := n0_; have HB := n1_; have BK613 := n2_; have GW613 := n3_; have GE613 := n4_; have NB610_613 := n5_; have NB613_610 := n6_; clear n0_ n1_ n2_ n3_ n4_ n5_ n6_; clear hb hbox hg; have hnb14 := NB613_610.out; have hnc14 := NB610_613.out; obtain ⟨hcz15_0, hcz15_1⟩ := cz2 BK613.out; obtain ⟨hfz15_0, hfz15_1⟩ := fz2 BK613.out))
 (try simp only [Act.put, pA, pB, pC])
 go_cut [11] (fun v11 wc => ∃ (kq : Nat) (x11_6 : Bool), v11 = .bool x11_6 ∧ Aside0 (isoglosslaw12_keys.j0 kq a0 t606 t607 x11_6 t608 t609 t611 t612 = some r) ∧ Aside0 (kq ≤ k) ∧ Aside0 (wc.heap[gb610]? = some (.cells #[.int .u64 t608, .bool t609] 95 (0, 0))) ∧ Aside0 (wc.heap[gb613]? = some (.cells #[.int .u64 t611, .bool t612] 95 (0, 0))) ∧ Aside0 (Below w.heap.size w wc))
 case first =>
  have H := HC7.out
  clear HC7
  by_cases c16 : a0 ≥ 1
  ·
   rw [if_pos c16] at H
   have c16b0 : decide (1 ≤ a0) = true := decide_eq_true c16
   clear c16
   (first | rw [c16b0] | (simp only [i64_w, i32_w]; rw [c16b0]) | rw [c16b2] | skip)
   by_cases c17 : a0 ≤ 7
   ·
    rw [if_pos c17] at H
    have c17b0 : decide (a0 ≤ 7) = true := decide_eq_true c17
    clear c17
    by_cases c18 : t609 = true
    ·
     subst c18
     have H1 : (isoglosslaw12_keys.j0 k a0 t606 t607 t612 t608 true t611 t612) = some r := by rw [if_pos rfl] at H; exact H
     clear H
     have H := H1
     clear H1
     have H' := ak H
     clear H
     have hnb19 := NB610_613.out
     have hnc19 := NB613_610.out
     obtain ⟨hcz20_0, hcz20_1⟩ := cz2 BK610.out
     obtain ⟨hfz20_0, hfz20_1⟩ := fz2 BK610.out
     obtain ⟨hcz21_0, hcz21_1⟩ := cz2 BK613.out
     obtain ⟨hfz21_0, hfz21_1⟩ := fz2 BK613.out
     go_wp2
     go_meet
     case rel => exact ⟨_, (t612), (by first | rfl | (simp; done) | (simp [*]; done)), H', ⟨by first | omega | exact Nat.le_refl _⟩, ⟨(bx (blk_far (bx (blk_far (bx BK610.out) NB610_613.out _)) NB610_613.out _))⟩, ⟨(bx (blk_put (cs := #[.int .u64 t611, .bool false]) (bx (blk_put (cs := #[.int .u64 0, .bool false]) (bx BK613.out) 0 _ rfl)) 1 _ rfl))⟩, ⟨bq⟩⟩
    ·
     replace c18 := Bool.eq_false_iff.mpr c18
     subst c18
     have H1 : (isoglosslaw12_keys.j0 k a0 t606 t607 false t608 false t611 t612) = some r := by rw [if_neg (show ¬ (false = true) by decide)] at H; exact H
     clear H
     have H := H1
     clear H1
     have H' := ak H
     clear H
     have hnb22 := NB610_613.out
     have hnc22 := NB613_610.out
     obtain ⟨hcz23_0, hcz23_1⟩ := cz2 BK610.out
     obtain ⟨hfz23_0, hfz23_1⟩ := fz2 BK610.out
     go_wp2
     go_meet
     case rel => exact ⟨_, (false), (by first | rfl | (simp; done) | (simp [*]; done)), H', ⟨by first | omega | exact Nat.le_refl _⟩, ⟨(bx (blk_far (bx (blk_far (bx BK610.out) NB610_613.out _)) NB610_613.out _))⟩, ⟨(bx (blk_put (cs := #[.int .u64 t611, .bool false]) (bx (blk_put (cs := #[.int .u64 0, .bool false]) (bx BK613.out) 0 _ rfl)) 1 _ rfl))⟩, ⟨bq⟩⟩
   ·
    rw [if_neg c17] at H
    have c17b0 : decide (a0 ≤ 7) = false := decide_eq_false c17
    clear c17
    have H' := ak H
    clear H
    go_wp2
    go_meet
    case rel => exact ⟨_, (false), (by first | rfl | (simp; done) | (simp [*]; done)), H', ⟨by first | omega | exact Nat.le_refl _⟩, ⟨(bx (blk_far (bx (blk_far (bx BK610.out) NB610_613.out _)) NB610_613.out _))⟩, ⟨(bx (blk_put (cs := #[.int .u64 t611, .bool false]) (bx (blk_put (cs := #[.int .u64 0, .bool false]) (bx BK613.out) 0 _ rfl)) 1 _ rfl))⟩, ⟨bq⟩⟩
  ·
   rw [if_neg c16] at H
   have c16b0 : decide (1 ≤ a0) = false := decide_eq_false c16
   clear c16
   (first | rw [c16b0] | (simp only [i64_w, i32_w]; rw [c16b0]) | rw [c16b2] | skip)
   have H' := ak H
   clear H
   go_wp2
   go_meet
   case rel => exact ⟨_, (false), (by first | rfl | (simp; done) | (simp [*]; done)), H', ⟨by first | omega | exact Nat.le_refl _⟩, ⟨(bx (blk_far (bx (blk_far (bx BK610.out) NB610_613.out _)) NB610_613.out _))⟩, ⟨(bx (blk_put (cs := #[.int .u64 t611, .bool false]) (bx (blk_put (cs := #[.int .u64 0, .bool false]) (bx BK613.out) 0 _ rfl)) 1 _ rfl))⟩, ⟨bq⟩⟩
 case rest =>
  clear HC7
  try clear c1
  try clear c2
  try clear p2
  try clear c3
  try clear c6
  try clear c14
  try clear c16
  try clear c16b0
  try clear c17
  try clear c17b0
  try clear c18
  try clear c19
  try clear c22
  try clear hcz11_0
  try clear hcz11_1
  try clear hcz15_0
  try clear hcz15_1
  try clear hcz20_0
  try clear hcz20_1
  try clear hcz21_0
  try clear hcz21_1
  try clear hcz23_0
  try clear hcz23_1
  try clear hfz11_0
  try clear hfz11_1
  try clear hfz15_0
  try clear hfz15_1
  try clear hfz20_0
  try clear hfz20_1
  try clear hfz21_0
  try clear hfz21_1
  try clear hfz23_0
  try clear hfz23_1
  obtain ⟨kq, x11_6, rfl, HA, HJ6, BK610, BK613, HB⟩ := hcut
  cases kq with
  | zero => exact absurd HA.out (by simp [isoglosslaw12_keys.j0])
  | succ kj6 =>
   have H := HA.out
   clear HA
   simp only [isoglosslaw12_keys.j0] at H
   by_cases c24 : x11_6 = true
   ·
    subst c24
    have H1 : (if t607 = true then ((some (([(a0) % 256] : List Int) : List Int)).bind fun y614 => ((isoglossref03_Put.f kj6 t608 8).bind fun t617 => (if (strOfNums y614).size + t617.size ≤ 9223372036854775807 then ((isoglossref03_Put.f kj6 t611 8).bind fun t618 => (if ((strOfNums y614) ++ t617).size + t618.size ≤ 9223372036854775807 then (some (t606.toList == (((strOfNums y614) ++ t617) ++ t618).toList)) else (none))) else (none)))) else (some false)) = some r := by rw [if_pos rfl] at H; exact H
    clear H
    have H := H1
    clear H1
    by_cases c25 : t607 = true
    ·
     subst c25
     have H1 : ((some (([(a0) % 256] : List Int) : List Int)).bind fun y614 => ((isoglossref03_Put.f kj6 t608 8).bind fun t617 => (if (strOfNums y614).size + t617.size ≤ 9223372036854775807 then ((isoglossref03_Put.f kj6 t611 8).bind fun t618 => (if ((strOfNums y614) ++ t617).size + t618.size ≤ 9223372036854775807 then (some (t606.toList == (((strOfNums y614) ++ t617) ++ t618).toList)) else (none))) else (none)))) = some r := by rw [if_pos rfl] at H; exact H
     clear H
     have H := H1
     clear H1
     obtain ⟨y614, hy614⟩ : ∃ y_ : List Int, y_ = (([(a0) % 256] : List Int)) := ⟨_, rfl⟩
     replace H : ((isoglossref03_Put.f kj6 t608 8).bind fun t617 => (if (strOfNums y614).size + t617.size ≤ 9223372036854775807 then ((isoglossref03_Put.f kj6 t611 8).bind fun t618 => (if ((strOfNums y614) ++ t617).size + t618.size ≤ 9223372036854775807 then (some (t606.toList == (((strOfNums y614) ++ t617) ++ t618).toList)) else (none))) else (none))) = some r := by first | (rw [hy614]; with_reducible exact H) | (have H2_ := (Option.bind_some _ _).symm.trans H; rw [hy614]; with_reducible exact H2_) | (have H2_ := (Option.bind_some _ _).symm.trans H; with_reducible exact H2_) | with_reducible exact H | (rw [hy614]; exact H) | exact H
     have Ny614 := ak hy614
     clear hy614
     replace H := Option.bind_eq_some_iff.mp H
     obtain ⟨t617, A260, H⟩ := H
     have A26 := ak A260
     clear A260
     by_cases c27 : (strOfNums y614).size + t617.size ≤ 9223372036854775807
     ·
      rw [if_pos c27] at H
      have c27b0 := eq_true c27
      have c27b1 : decide ((strOfNums y614).size + t617.size ≤ 9223372036854775807) = true := decide_eq_true c27
      try have c27b2 : (9223372036854775807 < (strOfNums y614).size + t617.size) = False := eq_false (Nat.not_lt.2 c27)
      replace H := Option.bind_eq_some_iff.mp H
      obtain ⟨t618, A280, H⟩ := H
      have A28 := ak A280
      clear A280
      by_cases c29 : ((strOfNums y614) ++ t617).size + t618.size ≤ 9223372036854775807
      ·
       rw [if_pos c29] at H
       have c29b0 := eq_true c29
       have c29b1 : decide (((strOfNums y614) ++ t617).size + t618.size ≤ 9223372036854775807) = true := decide_eq_true c29
       try have c29b2 : (9223372036854775807 < ((strOfNums y614) ++ t617).size + t618.size) = False := eq_false (Nat.not_lt.2 c29)
       try have c29b6 : (9223372036854775807 < (strOfNums y614).size + t617.size + t618.size) = False := eq_false (by have z := c29; rw [ByteArray.size_append] at z; omega)
       obtain rfl := Option.some.inj H
       try go_wp2
       have n0_ := ak (blk_drew BK610.out)
       have n1_ := ak (blk_drew BK613.out)
       have n2_ := ak (below_drew1 HB.out)
       clear BK610
       clear BK613
       clear HB
       have BK610 := n0_
       have BK613 := n1_
       have HB := n2_
       clear n0_ n1_ n2_
       refine start_ (n := 18) (S := fun w' => w'.cell? ⟨gb610, 0, none⟩ = some (.int .u64 t608) ∧ w'.cell? ⟨gb610, 1, none⟩ = some (.bool t609) ∧ w'.cell? ⟨gb613, 0, none⟩ = some (.int .u64 t611) ∧ w'.cell? ⟨gb613, 1, none⟩ = some (.bool t612)) (ds := []) #[false, false, false, false, false, false, false, false, false, false, false, false, false, false, false, false, false, false] (by kernel_rfl) rfl rfl ⟨(blk_cell BK610.out 0).trans rfl, (blk_cell BK610.out 1).trans rfl, (blk_cell BK613.out 0).trans rfl, (blk_cell BK613.out 1).trans rfl⟩ (fun hHeld => ?_); refine with_tabW isoglosslaw12_keys.tab7 isoglosslaw12_keys.bits7 (fun HT_ HW_ => ?_)
       generalize wc.drew = w30 at BK610 BK613 HB hHeld ⊢
       refine pu 0 (some 45) (M 18 1) ?_
       refine pu 1 (some 46) (M 18 3) ?_
       refine pu 2 (some 47) (M 18 7) ?_
       refine pu 3 (some 48) (M 18 15) ?_
       refine pu 4 (some 49) (M 18 31) ?_
       refine pu 7 (some 52) (M 18 159) ?_
       refine pu 11 (some 56) (M 18 2207) ?_
       refine take_ (i := 8) (N := some 53) (v := ?_) (a' := ?_) (M 18 2463) rfl rfl (take_ofW HT_.out HW_.out (by kernel_rfl)) (fun _ _ _ h => h) (Or.inl ⟨by rfl, ?_⟩) hHeld ?_ ?_
       rotate_left
       ·
        rintro w' ⟨s0, s1, s2, s3⟩
        go_simp
        with_reducible rfl
       rotate_left
       ·
        simp only [Act.put, pA, pB, pC, i64_w, i32_w]
        rfl
       refine take_ (i := 12) (N := some 57) (v := ?_) (a' := ?_) (M 18 6559) rfl rfl (take_ofW HT_.out HW_.out (by kernel_rfl)) (fun _ _ _ h => h) (Or.inl ⟨by rfl, ?_⟩) hHeld ?_ ?_
       rotate_left
       ·
        rintro w' ⟨s0, s1, s2, s3⟩
        go_simp
        with_reducible rfl
       rotate_left
       ·
        simp only [Act.put, pA, pB, pC, i64_w, i32_w]
        rfl
       refine join_ (σ := Value) 4 (M 18 16383) (fun s_ => [(50, s_), (51, .string (strOfNums y614)), (54, .string t617), (58, .string t618), (55, .string ((strOfNums y614) ++ t617))]) (fun s_ w' => (w'.cell? ⟨gb610, 0, none⟩ = some (.int .u64 t608) ∧ w'.cell? ⟨gb610, 1, none⟩ = some (.bool t609) ∧ w'.cell? ⟨gb613, 0, none⟩ = some (.int .u64 t611) ∧ w'.cell? ⟨gb613, 1, none⟩ = some (.bool t612)) ∧ (Kd.R (Kd.int .u8) 5 w' w.heap.size (fun _ => True) s_ y614) ∧ (w'.heap[gb610]? = some (.cells #[.int .u64 t608, .bool t609] 95 (0, 0))) ∧ (w'.heap[gb613]? = some (.cells #[.int .u64 t611, .bool t612] 95 (0, 0))) ∧ (Below w.heap.size w w')) ?_ ?_
       rotate_left
       ·
        intro hJ5_6_9_13
        refine join_ (σ := Value) 5 (M 18 8191) (fun s_ => [(50, s_), (51, .string (strOfNums y614)), (54, .string t617), (55, .string ((strOfNums y614) ++ t617))]) (fun s_ w' => (w'.cell? ⟨gb610, 0, none⟩ = some (.int .u64 t608) ∧ w'.cell? ⟨gb610, 1, none⟩ = some (.bool t609) ∧ w'.cell? ⟨gb613, 0, none⟩ = some (.int .u64 t611) ∧ w'.cell? ⟨gb613, 1, none⟩ = some (.bool t612)) ∧ (Kd.R (Kd.int .u8) 5 w' w.heap.size (fun _ => True) s_ y614) ∧ (w'.heap[gb610]? = some (.cells #[.int .u64 t608, .bool t609] 95 (0, 0))) ∧ (w'.heap[gb613]? = some (.cells #[.int .u64 t611, .bool t612] 95 (0, 0))) ∧ (Below w.heap.size w w')) ?_ ?_
        rotate_left
        ·
         intro hJ5_6_9
         refine join_ (σ := Value) 6 (M 18 15295) (fun s_ => [(50, s_), (54, .string t617), (58, .string t618)]) (fun s_ w' => (w'.cell? ⟨gb610, 0, none⟩ = some (.int .u64 t608) ∧ w'.cell? ⟨gb610, 1, none⟩ = some (.bool t609) ∧ w'.cell? ⟨gb613, 0, none⟩ = some (.int .u64 t611) ∧ w'.cell? ⟨gb613, 1, none⟩ = some (.bool t612)) ∧ (Kd.R (Kd.int .u8) 5 w' w.heap.size (fun _ => True) s_ y614) ∧ (w'.heap[gb610]? = some (.cells #[.int .u64 t608, .bool t609] 95 (0, 0))) ∧ (w'.heap[gb613]? = some (.cells #[.int .u64 t611, .bool t612] 95 (0, 0))) ∧ (Below w.heap.size w w')) ?_ ?_
         rotate_left
         ·
          intro hJ5_9_13
          refine join_ (σ := Value) 7 (M 18 6655) (fun s_ => [(50, s_), (51, .string (strOfNums y614))]) (fun s_ w' => (w'.cell? ⟨gb610, 0, none⟩ = some (.int .u64 t608) ∧ w'.cell? ⟨gb610, 1, none⟩ = some (.bool t609) ∧ w'.cell? ⟨gb613, 0, none⟩ = some (.int .u64 t611) ∧ w'.cell? ⟨gb613, 1, none⟩ = some (.bool t612)) ∧ (Kd.R (Kd.int .u8) 5 w' w.heap.size (fun _ => True) s_ y614) ∧ (w'.heap[gb610]? = some (.cells #[.int .u64 t608, .bool t609] 95 (0, 0))) ∧ (w'.heap[gb613]? = some (.cells #[.int .u64 t611, .bool t612] 95 (0, 0))) ∧ (Below w.heap.size w w')) ?_ ?_
          rotate_left
          ·
           intro hJ5_6
           refine join_ (σ := Value) 7 (M 18 7103) (fun s_ => [(50, s_), (54, .string t617)]) (fun s_ w' => (w'.cell? ⟨gb610, 0, none⟩ = some (.int .u64 t608) ∧ w'.cell? ⟨gb610, 1, none⟩ = some (.bool t609) ∧ w'.cell? ⟨gb613, 0, none⟩ = some (.int .u64 t611) ∧ w'.cell? ⟨gb613, 1, none⟩ = some (.bool t612)) ∧ (Kd.R (Kd.int .u8) 5 w' w.heap.size (fun _ => True) s_ y614) ∧ (w'.heap[gb610]? = some (.cells #[.int .u64 t608, .bool t609] 95 (0, 0))) ∧ (w'.heap[gb613]? = some (.cells #[.int .u64 t611, .bool t612] 95 (0, 0))) ∧ (Below w.heap.size w w')) ?_ ?_
           rotate_left
           ·
            intro hJ5_9
            refine join_ (σ := Unit) 7 (M 18 15263) (fun s_ => [(54, .string t617), (58, .string t618)]) (fun s_ w' => (w'.cell? ⟨gb610, 0, none⟩ = some (.int .u64 t608) ∧ w'.cell? ⟨gb610, 1, none⟩ = some (.bool t609) ∧ w'.cell? ⟨gb613, 0, none⟩ = some (.int .u64 t611) ∧ w'.cell? ⟨gb613, 1, none⟩ = some (.bool t612)) ∧ (w'.heap[gb610]? = some (.cells #[.int .u64 t608, .bool t609] 95 (0, 0))) ∧ (w'.heap[gb613]? = some (.cells #[.int .u64 t611, .bool t612] 95 (0, 0))) ∧ (Below w.heap.size w w')) ?_ ?_
            rotate_left
            ·
             intro hJ9_13
             refine join_ (σ := Value) 8 (M 18 6591) (fun s_ => [(50, s_)]) (fun s_ w' => (w'.cell? ⟨gb610, 0, none⟩ = some (.int .u64 t608) ∧ w'.cell? ⟨gb610, 1, none⟩ = some (.bool t609) ∧ w'.cell? ⟨gb613, 0, none⟩ = some (.int .u64 t611) ∧ w'.cell? ⟨gb613, 1, none⟩ = some (.bool t612)) ∧ (Kd.R (Kd.int .u8) 5 w' w.heap.size (fun _ => True) s_ y614) ∧ (w'.heap[gb610]? = some (.cells #[.int .u64 t608, .bool t609] 95 (0, 0))) ∧ (w'.heap[gb613]? = some (.cells #[.int .u64 t611, .bool t612] 95 (0, 0))) ∧ (Below w.heap.size w w')) ?_ ?_
             rotate_left
             ·
              intro hJ5
              refine join_ (σ := Unit) 8 (M 18 7071) (fun s_ => [(54, .string t617)]) (fun s_ w' => (w'.cell? ⟨gb610, 0, none⟩ = some (.int .u64 t608) ∧ w'.cell? ⟨gb610, 1, none⟩ = some (.bool t609) ∧ w'.cell? ⟨gb613, 0, none⟩ = some (.int .u64 t611) ∧ w'.cell? ⟨gb613, 1, none⟩ = some (.bool t612)) ∧ (w'.heap[gb610]? = some (.cells #[.int .u64 t608, .bool t609] 95 (0, 0))) ∧ (w'.heap[gb613]? = some (.cells #[.int .u64 t611, .bool t612] 95 (0, 0))) ∧ (Below w.heap.size w w')) ?_ ?_
              rotate_left
              ·
               intro hJ9
               refine two_ (i := 5) (j := 9) (Ni := some 50) (Nj := some 54) (M 18 6591) (M 18 7071) rfl rfl rfl rfl (two_of HT_.out (by kernel_rfl)) (by decide) (by decide) (fun K hK => ?_) (fun K hK => ?_)
               ·
                skip
                refine Kd.R_lit_step (Kd.int .u8) _ 5 ?hg (N := 50) ?hd (xs := ([(a0) % 256] : List Int)) (inner := [.int .u8 ((a0) % 256)]) (ok := fun _ => True) (okp := fun _ => True) ?hr ?hp (fun _ hk => hk) trivial (Below.refl _ _) (Nat.le_refl _) (by simp) ?_; (case hd => rfl); (case hg => rfl); (case hr => first | (go_simp; done) | (go_simp; rfl)); (case hp => exact (Reps.one (show Kd.M (Kd.int .u8) _ _ _ ((a0) % 256) [.int .u8 ((a0) % 256)] from rfl) (Reps.none _ _)))
                intro v615 w31 ho32 hb hg_ hnew_
                clear hg_ hnew_
                (first | rw [← Ny614.out] at ho32 | (simp only [Int.reduceToNat] at ho32; rw [← Ny614.out] at ho32))
                have n0_ := ak (Kd.R_lower ho32 (below_size bq))
                have n1_ := ak (blk_below (g := gb610) (bx BK610.out) hb)
                have n2_ := ak (blk_below (g := gb613) (bx BK613.out) hb)
                have n3_ := ak (below_step bq hb)
                clear BK610
                clear BK613
                clear HB
                have HO616 := n0_
                have BK610 := n1_
                have BK613 := n2_
                have HB := n3_
                clear n0_ n1_ n2_ n3_
                clear hb ho32
                refine hK.out _ _ ⟨(blk_cell BK610.out 0).trans rfl, (blk_cell BK610.out 1).trans rfl, (blk_cell BK613.out 0).trans rfl, (blk_cell BK613.out 1).trans rfl⟩ (fun hHeld => ?_)
                clear hK K
                refine norm_ (a' := ?_) ?_ ?_
                rotate_left
                ·
                 show Act.put _ (some 50) _ = _
                 simp only [Act.put, pA, pB, pC, i64_w, i32_w]
                 rfl
                exact norm_ (by first | (simp only [putAll, Act.put, pA, pB, pC]; done) | (simp only [putAll, Act.put, pA, pB, pC]; rfl)) (hJ5 (v615) _ ⟨hHeld, (rx HO616.out), (bx BK610.out), (bx BK613.out), bq⟩)
               ·
                skip
                refine goes_ Tryd.func70 (by kernel_rfl) rfl #[.int .u64 t608, .int .i64 8] (by rfl) rfl rfl mq ?_
                with_reducible refine (isoglossref03_Put.calls kj6 t608 8 t617 _ A26.out).mono ?_
                rintro e w31 ⟨rfl, hb⟩
                refine ⟨_, rfl, ?_⟩
                have n0_ := ak (blk_below (g := gb610) (bx BK610.out) hb)
                have n1_ := ak (blk_below (g := gb613) (bx BK613.out) hb)
                have n2_ := ak (below_step bq hb)
                clear BK610
                clear BK613
                clear HB
                have BK610 := n0_
                have BK613 := n1_
                have HB := n2_
                clear n0_ n1_ n2_
                (try clear hb)
                (try clear hb2)
                (try clear hk)
                (try clear hi)
                refine hK.out _ _ ⟨(blk_cell BK610.out 0).trans rfl, (blk_cell BK610.out 1).trans rfl, (blk_cell BK613.out 0).trans rfl, (blk_cell BK613.out 1).trans rfl⟩ (fun hHeld => ?_)
                clear hK K
                refine norm_ (a' := ?_) ?_ ?_
                rotate_left
                ·
                 show Act.put _ (some 54) _ = _
                 simp only [Act.put, pA, pB, pC, i64_w, i32_w]
                 rfl
                exact norm_ (by first | (simp only [putAll, Act.put, pA, pB, pC]; done) | (simp only [putAll, Act.put, pA, pB, pC]; rfl)) (hJ9 () _ ⟨hHeld, (bx BK610.out), (bx BK613.out), bq⟩)
              ·
               skip
               rintro _ w32 ⟨hS_, h0_, h1_, h2_⟩
               have n0_ : Aside0 (w32.heap[gb610]? = some (.cells #[.int .u64 t608, .bool t609] 95 (0, 0))) := ⟨h0_⟩
               have n1_ : Aside0 (w32.heap[gb613]? = some (.cells #[.int .u64 t611, .bool t612] 95 (0, 0))) := ⟨h1_⟩
               have n2_ : Aside0 (Below w.heap.size w w32) := ⟨h2_⟩
               clear BK610
               clear BK613
               clear HB
               clear h0_ h1_ h2_
               have BK610 := n0_
               have BK613 := n1_
               have HB := n2_
               clear n0_ n1_ n2_
               have hHeld : w32.cell? ⟨gb610, 0, none⟩ = some (.int .u64 t608) ∧ w32.cell? ⟨gb610, 1, none⟩ = some (.bool t609) ∧ w32.cell? ⟨gb613, 0, none⟩ = some (.int .u64 t611) ∧ w32.cell? ⟨gb613, 1, none⟩ = some (.bool t612) := hS_
               refine norm_ (a' := ?_) ?_ ?_
               rotate_left
               ·
                simp only [putAll, Act.put, pA, pB, pC]
                rfl
               refine two_ (i := 5) (j := 13) (Ni := some 50) (Nj := some 58) (M 18 7103) (M 18 15263) rfl rfl rfl rfl (two_of HT_.out (by kernel_rfl)) (by decide) (by decide) (fun K hK => ?_) (fun K hK => ?_)
               ·
                skip
                refine Kd.R_lit_step (Kd.int .u8) _ 5 ?hg (N := 50) ?hd (xs := ([(a0) % 256] : List Int)) (inner := [.int .u8 ((a0) % 256)]) (ok := fun _ => True) (okp := fun _ => True) ?hr ?hp (fun _ hk => hk) trivial (Below.refl _ _) (Nat.le_refl _) (by simp) ?_; (case hd => rfl); (case hg => rfl); (case hr => first | (go_simp; done) | (go_simp; rfl)); (case hp => exact (Reps.one (show Kd.M (Kd.int .u8) _ _ _ ((a0) % 256) [.int .u8 ((a0) % 256)] from rfl) (Reps.none _ _)))
                intro v615 w33 ho34 hb hg_ hnew_
                clear hg_ hnew_
                (first | rw [← Ny614.out] at ho34 | (simp only [Int.reduceToNat] at ho34; rw [← Ny614.out] at ho34))
                have n0_ := ak (Kd.R_lower ho34 (below_size bq))
                have n1_ := ak (blk_below (g := gb610) (bx BK610.out) hb)
                have n2_ := ak (blk_below (g := gb613) (bx BK613.out) hb)
                have n3_ := ak (below_step bq hb)
                clear BK610
                clear BK613
                clear HB
                have HO616 := n0_
                have BK610 := n1_
                have BK613 := n2_
                have HB := n3_
                clear n0_ n1_ n2_ n3_
                clear hb ho34
                refine hK.out _ _ ⟨(blk_cell BK610.out 0).trans rfl, (blk_cell BK610.out 1).trans rfl, (blk_cell BK613.out 0).trans rfl, (blk_cell BK613.out 1).trans rfl⟩ (fun hHeld => ?_)
                clear hK K
                refine norm_ (a' := ?_) ?_ ?_
                rotate_left
                ·
                 show Act.put _ (some 50) _ = _
                 simp only [Act.put, pA, pB, pC, i64_w, i32_w]
                 rfl
                exact norm_ (by first | (simp only [putAll, Act.put, pA, pB, pC]; done) | (simp only [putAll, Act.put, pA, pB, pC]; rfl)) (hJ5_9 (v615) _ ⟨hHeld, (rx HO616.out), (bx BK610.out), (bx BK613.out), bq⟩)
               ·
                skip
                refine goes_ Tryd.func70 (by kernel_rfl) rfl #[.int .u64 t611, .int .i64 8] (by rfl) rfl rfl mq ?_
                with_reducible refine (isoglossref03_Put.calls kj6 t611 8 t618 _ A28.out).mono ?_
                rintro e w33 ⟨rfl, hb⟩
                refine ⟨_, rfl, ?_⟩
                have n0_ := ak (blk_below (g := gb610) (bx BK610.out) hb)
                have n1_ := ak (blk_below (g := gb613) (bx BK613.out) hb)
                have n2_ := ak (below_step bq hb)
                clear BK610
                clear BK613
                clear HB
                have BK610 := n0_
                have BK613 := n1_
                have HB := n2_
                clear n0_ n1_ n2_
                (try clear hb)
                (try clear hb2)
                (try clear hk)
                (try clear hi)
                refine hK.out _ _ ⟨(blk_cell BK610.out 0).trans rfl, (blk_cell BK610.out 1).trans rfl, (blk_cell BK613.out 0).trans rfl, (blk_cell BK613.out 1).trans rfl⟩ (fun hHeld => ?_)
                clear hK K
                refine norm_ (a' := ?_) ?_ ?_
                rotate_left
                ·
                 show Act.put _ (some 58) _ = _
                 simp only [Act.put, pA, pB, pC, i64_w, i32_w]
                 rfl
                exact norm_ (by first | (simp only [putAll, Act.put, pA, pB, pC]; done) | (simp only [putAll, Act.put, pA, pB, pC]; rfl)) (hJ9_13 () _ ⟨hHeld, (bx BK610.out), (bx BK613.out), bq⟩)
             ·
              skip
              rintro v615 w33 ⟨hS_, h0_, h1_, h2_, h3_⟩
              have n0_ : Aside0 (Kd.R (Kd.int .u8) 5 w33 w.heap.size (fun _ => True) v615 y614) := ⟨h0_⟩
              have n1_ : Aside0 (w33.heap[gb610]? = some (.cells #[.int .u64 t608, .bool t609] 95 (0, 0))) := ⟨h1_⟩
              have n2_ : Aside0 (w33.heap[gb613]? = some (.cells #[.int .u64 t611, .bool t612] 95 (0, 0))) := ⟨h2_⟩
              have n3_ : Aside0 (Below w.heap.size w w33) := ⟨h3_⟩
              clear BK610
              clear BK613
              clear HB
              clear h0_ h1_ h2_ h3_
              have HO616 := n0_
              have BK610 := n1_
              have BK613 := n2_
              have HB := n3_
              clear n0_ n1_ n2_ n3_
              have hHeld : w33.cell? ⟨gb610, 0, none⟩ = some (.int .u64 t608) ∧ w33.cell? ⟨gb610, 1, none⟩ = some (.bool t609) ∧ w33.cell? ⟨gb613, 0, none⟩ = some (.int .u64 t611) ∧ w33.cell? ⟨gb613, 1, none⟩ = some (.bool t612) := hS_
              refine norm_ (a' := ?_) ?_ ?_
              rotate_left
              ·
               simp only [putAll, Act.put, pA, pB, pC]
               rfl
              refine two_ (i := 6) (j := 9) (Ni := some 51) (Nj := some 54) (M 18 6655) (M 18 7103) rfl rfl rfl rfl (two_of HT_.out (by kernel_rfl)) (by decide) (by decide) (fun K hK => ?_) (fun K hK => ?_)
              ·
               skip
               have hcv34 := own_string (P := Tryd.prog) Tryd.underlying28 Tryd.underlying5 Tryd.underlying9 (Kd.own_of_R HO616.out)
               refine value_ (w1 := ?_) (v := ?_) (by rfl) rfl ?_ ?_
               rotate_left 2
               ·
                go_simp
                constructor
                ·
                 rfl
                ·
                 rfl
               clear hcv34
               refine hK.out _ _ ⟨(blk_cell BK610.out 0).trans rfl, (blk_cell BK610.out 1).trans rfl, (blk_cell BK613.out 0).trans rfl, (blk_cell BK613.out 1).trans rfl⟩ (fun hHeld => ?_)
               clear hK K
               refine norm_ (a' := ?_) ?_ ?_
               rotate_left
               ·
                show Act.put _ (some 51) _ = _
                simp only [Act.put, pA, pB, pC, i64_w, i32_w]
                rfl
               exact norm_ (by first | (simp only [putAll, Act.put, pA, pB, pC]; done) | (simp only [putAll, Act.put, pA, pB, pC]; rfl)) (hJ5_6 (v615) _ ⟨hHeld, (rx HO616.out), (bx BK610.out), (bx BK613.out), bq⟩)
              ·
               skip
               refine goes_ Tryd.func70 (by kernel_rfl) rfl #[.int .u64 t608, .int .i64 8] (by rfl) rfl rfl mq ?_
               with_reducible refine (isoglossref03_Put.calls kj6 t608 8 t617 _ A26.out).mono ?_
               rintro e w34 ⟨rfl, hb⟩
               refine ⟨_, rfl, ?_⟩
               have n0_ := ak (Kd.R_below (rx HO616.out) hb)
               have n1_ := ak (blk_below (g := gb610) (bx BK610.out) hb)
               have n2_ := ak (blk_below (g := gb613) (bx BK613.out) hb)
               have n3_ := ak (below_step bq hb)
               clear HO616
               clear BK610
               clear BK613
               clear HB
               have HO616 := n0_
               have BK610 := n1_
               have BK613 := n2_
               have HB := n3_
               clear n0_ n1_ n2_ n3_
               (try clear hb)
               (try clear hb2)
               (try clear hk)
               (try clear hi)
               refine hK.out _ _ ⟨(blk_cell BK610.out 0).trans rfl, (blk_cell BK610.out 1).trans rfl, (blk_cell BK613.out 0).trans rfl, (blk_cell BK613.out 1).trans rfl⟩ (fun hHeld => ?_)
               clear hK K
               refine norm_ (a' := ?_) ?_ ?_
               rotate_left
               ·
                show Act.put _ (some 54) _ = _
                simp only [Act.put, pA, pB, pC, i64_w, i32_w]
                rfl
               exact norm_ (by first | (simp only [putAll, Act.put, pA, pB, pC]; done) | (simp only [putAll, Act.put, pA, pB, pC]; rfl)) (hJ5_9 (v615) _ ⟨hHeld, (rx HO616.out), (bx BK610.out), (bx BK613.out), bq⟩)
            ·
             skip
             rintro _ w33 ⟨hS_, h0_, h1_, h2_⟩
             have n0_ : Aside0 (w33.heap[gb610]? = some (.cells #[.int .u64 t608, .bool t609] 95 (0, 0))) := ⟨h0_⟩
             have n1_ : Aside0 (w33.heap[gb613]? = some (.cells #[.int .u64 t611, .bool t612] 95 (0, 0))) := ⟨h1_⟩
             have n2_ : Aside0 (Below w.heap.size w w33) := ⟨h2_⟩
             clear BK610
             clear BK613
             clear HB
             clear h0_ h1_ h2_
             have BK610 := n0_
             have BK613 := n1_
             have HB := n2_
             clear n0_ n1_ n2_
             have hHeld : w33.cell? ⟨gb610, 0, none⟩ = some (.int .u64 t608) ∧ w33.cell? ⟨gb610, 1, none⟩ = some (.bool t609) ∧ w33.cell? ⟨gb613, 0, none⟩ = some (.int .u64 t611) ∧ w33.cell? ⟨gb613, 1, none⟩ = some (.bool t612) := hS_
             refine norm_ (a' := ?_) ?_ ?_
             rotate_left
             ·
              simp only [putAll, Act.put, pA, pB, pC]
              rfl
             refine one_ (i := 5) (N := some 50) (M 18 15295) rfl rfl (one_of HT_.out (by kernel_rfl)) (by decide) (fun K hK => ?_)
             refine Kd.R_lit_step (Kd.int .u8) _ 5 ?hg (N := 50) ?hd (xs := ([(a0) % 256] : List Int)) (inner := [.int .u8 ((a0) % 256)]) (ok := fun _ => True) (okp := fun _ => True) ?hr ?hp (fun _ hk => hk) trivial (Below.refl _ _) (Nat.le_refl _) (by simp) ?_; (case hd => rfl); (case hg => rfl); (case hr => first | (go_simp; done) | (go_simp; rfl)); (case hp => exact (Reps.one (show Kd.M (Kd.int .u8) _ _ _ ((a0) % 256) [.int .u8 ((a0) % 256)] from rfl) (Reps.none _ _)))
             intro v615 w34 ho35 hb hg_ hnew_
             clear hg_ hnew_
             (first | rw [← Ny614.out] at ho35 | (simp only [Int.reduceToNat] at ho35; rw [← Ny614.out] at ho35))
             have n0_ := ak (Kd.R_lower ho35 (below_size bq))
             have n1_ := ak (blk_below (g := gb610) (bx BK610.out) hb)
             have n2_ := ak (blk_below (g := gb613) (bx BK613.out) hb)
             have n3_ := ak (below_step bq hb)
             clear BK610
             clear BK613
             clear HB
             have HO616 := n0_
             have BK610 := n1_
             have BK613 := n2_
             have HB := n3_
             clear n0_ n1_ n2_ n3_
             clear hb ho35
             refine hK.out _ _ ⟨(blk_cell BK610.out 0).trans rfl, (blk_cell BK610.out 1).trans rfl, (blk_cell BK613.out 0).trans rfl, (blk_cell BK613.out 1).trans rfl⟩ (fun hHeld => ?_)
             clear hK K
             refine norm_ (a' := ?_) ?_ ?_
             rotate_left
             ·
              show Act.put _ (some 50) _ = _
              simp only [Act.put, pA, pB, pC, i64_w, i32_w]
              rfl
             exact norm_ (by first | (simp only [putAll, Act.put, pA, pB, pC]; done) | (simp only [putAll, Act.put, pA, pB, pC]; rfl)) (hJ5_9_13 (v615) _ ⟨hHeld, (rx HO616.out), (bx BK610.out), (bx BK613.out), bq⟩)
           ·
            skip
            rintro v615 w34 ⟨hS_, h0_, h1_, h2_, h3_⟩
            have n0_ : Aside0 (Kd.R (Kd.int .u8) 5 w34 w.heap.size (fun _ => True) v615 y614) := ⟨h0_⟩
            have n1_ : Aside0 (w34.heap[gb610]? = some (.cells #[.int .u64 t608, .bool t609] 95 (0, 0))) := ⟨h1_⟩
            have n2_ : Aside0 (w34.heap[gb613]? = some (.cells #[.int .u64 t611, .bool t612] 95 (0, 0))) := ⟨h2_⟩
            have n3_ : Aside0 (Below w.heap.size w w34) := ⟨h3_⟩
            clear BK610
            clear BK613
            clear HB
            clear h0_ h1_ h2_ h3_
            have HO616 := n0_
            have BK610 := n1_
            have BK613 := n2_
            have HB := n3_
            clear n0_ n1_ n2_ n3_
            have hHeld : w34.cell? ⟨gb610, 0, none⟩ = some (.int .u64 t608) ∧ w34.cell? ⟨gb610, 1, none⟩ = some (.bool t609) ∧ w34.cell? ⟨gb613, 0, none⟩ = some (.int .u64 t611) ∧ w34.cell? ⟨gb613, 1, none⟩ = some (.bool t612) := hS_
            refine norm_ (a' := ?_) ?_ ?_
            rotate_left
            ·
             simp only [putAll, Act.put, pA, pB, pC]
             rfl
            refine two_ (i := 6) (j := 13) (Ni := some 51) (Nj := some 58) (M 18 7167) (M 18 15295) rfl rfl rfl rfl (two_of HT_.out (by kernel_rfl)) (by decide) (by decide) (fun K hK => ?_) (fun K hK => ?_)
            ·
             skip
             have hcv35 := own_string (P := Tryd.prog) Tryd.underlying28 Tryd.underlying5 Tryd.underlying9 (Kd.own_of_R HO616.out)
             refine value_ (w1 := ?_) (v := ?_) (by rfl) rfl ?_ ?_
             rotate_left 2
             ·
              go_simp
              constructor
              ·
               rfl
              ·
               rfl
             clear hcv35
             refine hK.out _ _ ⟨(blk_cell BK610.out 0).trans rfl, (blk_cell BK610.out 1).trans rfl, (blk_cell BK613.out 0).trans rfl, (blk_cell BK613.out 1).trans rfl⟩ (fun hHeld => ?_)
             clear hK K
             refine norm_ (a' := ?_) ?_ ?_
             rotate_left
             ·
              show Act.put _ (some 51) _ = _
              simp only [Act.put, pA, pB, pC, i64_w, i32_w]
              rfl
             refine pu 10 (some 55) (M 18 8191) ?_
             exact norm_ (by first | (simp only [putAll, Act.put, pA, pB, pC]; done) | (simp only [putAll, Act.put, pA, pB, pC]; rfl)) (hJ5_6_9 (v615) _ ⟨hHeld, (rx HO616.out), (bx BK610.out), (bx BK613.out), bq⟩)
            ·
             skip
             refine goes_ Tryd.func70 (by kernel_rfl) rfl #[.int .u64 t611, .int .i64 8] (by rfl) rfl rfl mq ?_
             with_reducible refine (isoglossref03_Put.calls kj6 t611 8 t618 _ A28.out).mono ?_
             rintro e w35 ⟨rfl, hb⟩
             refine ⟨_, rfl, ?_⟩
             have n0_ := ak (Kd.R_below (rx HO616.out) hb)
             have n1_ := ak (blk_below (g := gb610) (bx BK610.out) hb)
             have n2_ := ak (blk_below (g := gb613) (bx BK613.out) hb)
             have n3_ := ak (below_step bq hb)
             clear HO616
             clear BK610
             clear BK613
             clear HB
             have HO616 := n0_
             have BK610 := n1_
             have BK613 := n2_
             have HB := n3_
             clear n0_ n1_ n2_ n3_
             (try clear hb)
             (try clear hb2)
             (try clear hk)
             (try clear hi)
             refine hK.out _ _ ⟨(blk_cell BK610.out 0).trans rfl, (blk_cell BK610.out 1).trans rfl, (blk_cell BK613.out 0).trans rfl, (blk_cell BK613.out 1).trans rfl⟩ (fun hHeld => ?_)
             clear hK K
             refine norm_ (a' := ?_) ?_ ?_
             rotate_left
             ·
              show Act.put _ (some 58) _ = _
              simp only [Act.put, pA, pB, pC, i64_w, i32_w]
              rfl
             exact norm_ (by first | (simp only [putAll, Act.put, pA, pB, pC]; done) | (simp only [putAll, Act.put, pA, pB, pC]; rfl)) (hJ5_9_13 (v615) _ ⟨hHeld, (rx HO616.out), (bx BK610.out), (bx BK613.out), bq⟩)
          ·
           skip
           rintro v615 w34 ⟨hS_, h0_, h1_, h2_, h3_⟩
           have n0_ : Aside0 (Kd.R (Kd.int .u8) 5 w34 w.heap.size (fun _ => True) v615 y614) := ⟨h0_⟩
           have n1_ : Aside0 (w34.heap[gb610]? = some (.cells #[.int .u64 t608, .bool t609] 95 (0, 0))) := ⟨h1_⟩
           have n2_ : Aside0 (w34.heap[gb613]? = some (.cells #[.int .u64 t611, .bool t612] 95 (0, 0))) := ⟨h2_⟩
           have n3_ : Aside0 (Below w.heap.size w w34) := ⟨h3_⟩
           clear BK610
           clear BK613
           clear HB
           clear h0_ h1_ h2_ h3_
           have HO616 := n0_
           have BK610 := n1_
           have BK613 := n2_
           have HB := n3_
           clear n0_ n1_ n2_ n3_
           have hHeld : w34.cell? ⟨gb610, 0, none⟩ = some (.int .u64 t608) ∧ w34.cell? ⟨gb610, 1, none⟩ = some (.bool t609) ∧ w34.cell? ⟨gb613, 0, none⟩ = some (.int .u64 t611) ∧ w34.cell? ⟨gb613, 1, none⟩ = some (.bool t612) := hS_
           refine norm_ (a' := ?_) ?_ ?_
           rotate_left
           ·
            simp only [putAll, Act.put, pA, pB, pC]
            rfl
           refine one_ (i := 9) (N := some 54) (M 18 7167) rfl rfl (one_of HT_.out (by kernel_rfl)) (by decide) (fun K hK => ?_)
           refine goes_ Tryd.func70 (by kernel_rfl) rfl #[.int .u64 t608, .int .i64 8] (by rfl) rfl rfl mq ?_
           with_reducible refine (isoglossref03_Put.calls kj6 t608 8 t617 _ A26.out).mono ?_
           rintro e w35 ⟨rfl, hb⟩
           refine ⟨_, rfl, ?_⟩
           have n0_ := ak (Kd.R_below (rx HO616.out) hb)
           have n1_ := ak (blk_below (g := gb610) (bx BK610.out) hb)
           have n2_ := ak (blk_below (g := gb613) (bx BK613.out) hb)
           have n3_ := ak (below_step bq hb)
           clear HO616
           clear BK610
           clear BK613
           clear HB
           have HO616 := n0_
           have BK610 := n1_
           have BK613 := n2_
           have HB := n3_
           clear n0_ n1_ n2_ n3_
           (try clear hb)
           (try clear hb2)
           (try clear hk)
           (try clear hi)
           refine hK.out _ _ ⟨(blk_cell BK610.out 0).trans rfl, (blk_cell BK610.out 1).trans rfl, (blk_cell BK613.out 0).trans rfl, (blk_cell BK613.out 1).trans rfl⟩ (fun hHeld => ?_)
           clear hK K
           refine norm_ (a' := ?_) ?_ ?_
           rotate_left
           ·
            show Act.put _ (some 54) _ = _
            simp only [Act.put, pA, pB, pC, i64_w, i32_w]
            rfl
           refine pu 10 (some 55) (M 18 8191) ?_
           exact norm_ (by first | (simp only [putAll, Act.put, pA, pB, pC]; done) | (simp only [putAll, Act.put, pA, pB, pC]; rfl)) (hJ5_6_9 (v615) _ ⟨hHeld, (rx HO616.out), (bx BK610.out), (bx BK613.out), bq⟩)
         ·
          skip
          rintro v615 w35 ⟨hS_, h0_, h1_, h2_, h3_⟩
          have n0_ : Aside0 (Kd.R (Kd.int .u8) 5 w35 w.heap.size (fun _ => True) v615 y614) := ⟨h0_⟩
          have n1_ : Aside0 (w35.heap[gb610]? = some (.cells #[.int .u64 t608, .bool t609] 95 (0, 0))) := ⟨h1_⟩
          have n2_ : Aside0 (w35.heap[gb613]? = some (.cells #[.int .u64 t611, .bool t612] 95 (0, 0))) := ⟨h2_⟩
          have n3_ : Aside0 (Below w.heap.size w w35) := ⟨h3_⟩
          clear BK610
          clear BK613
          clear HB
          clear h0_ h1_ h2_ h3_
          have HO616 := n0_
          have BK610 := n1_
          have BK613 := n2_
          have HB := n3_
          clear n0_ n1_ n2_ n3_
          have hHeld : w35.cell? ⟨gb610, 0, none⟩ = some (.int .u64 t608) ∧ w35.cell? ⟨gb610, 1, none⟩ = some (.bool t609) ∧ w35.cell? ⟨gb613, 0, none⟩ = some (.int .u64 t611) ∧ w35.cell? ⟨gb613, 1, none⟩ = some (.bool t612) := hS_
          refine norm_ (a' := ?_) ?_ ?_
          rotate_left
          ·
           simp only [putAll, Act.put, pA, pB, pC]
           rfl
          refine one_ (i := 6) (N := some 51) (M 18 15359) rfl rfl (one_of HT_.out (by kernel_rfl)) (by decide) (fun K hK => ?_)
          have hcv36 := own_string (P := Tryd.prog) Tryd.underlying28 Tryd.underlying5 Tryd.underlying9 (Kd.own_of_R HO616.out)
          refine value_ (w1 := ?_) (v := ?_) (by rfl) rfl ?_ ?_
          rotate_left 2
          ·
           go_simp
           constructor
           ·
            rfl
           ·
            rfl
          clear hcv36
          refine hK.out _ _ ⟨(blk_cell BK610.out 0).trans rfl, (blk_cell BK610.out 1).trans rfl, (blk_cell BK613.out 0).trans rfl, (blk_cell BK613.out 1).trans rfl⟩ (fun hHeld => ?_)
          clear hK K
          refine norm_ (a' := ?_) ?_ ?_
          rotate_left
          ·
           show Act.put _ (some 51) _ = _
           simp only [Act.put, pA, pB, pC, i64_w, i32_w]
           rfl
          refine pu 10 (some 55) (M 18 16383) ?_
          exact norm_ (by first | (simp only [putAll, Act.put, pA, pB, pC]; done) | (simp only [putAll, Act.put, pA, pB, pC]; rfl)) (hJ5_6_9_13 (v615) _ ⟨hHeld, (rx HO616.out), (bx BK610.out), (bx BK613.out), bq⟩)
        ·
         skip
         rintro v615 w35 ⟨hS_, h0_, h1_, h2_, h3_⟩
         have n0_ : Aside0 (Kd.R (Kd.int .u8) 5 w35 w.heap.size (fun _ => True) v615 y614) := ⟨h0_⟩
         have n1_ : Aside0 (w35.heap[gb610]? = some (.cells #[.int .u64 t608, .bool t609] 95 (0, 0))) := ⟨h1_⟩
         have n2_ : Aside0 (w35.heap[gb613]? = some (.cells #[.int .u64 t611, .bool t612] 95 (0, 0))) := ⟨h2_⟩
         have n3_ : Aside0 (Below w.heap.size w w35) := ⟨h3_⟩
         clear BK610
         clear BK613
         clear HB
         clear h0_ h1_ h2_ h3_
         have HO616 := n0_
         have BK610 := n1_
         have BK613 := n2_
         have HB := n3_
         clear n0_ n1_ n2_ n3_
         have hHeld : w35.cell? ⟨gb610, 0, none⟩ = some (.int .u64 t608) ∧ w35.cell? ⟨gb610, 1, none⟩ = some (.bool t609) ∧ w35.cell? ⟨gb613, 0, none⟩ = some (.int .u64 t611) ∧ w35.cell? ⟨gb613, 1, none⟩ = some (.bool t612) := hS_
         refine norm_ (a' := ?_) ?_ ?_
         rotate_left
         ·
          simp only [putAll, Act.put, pA, pB, pC]
          rfl
         refine one_ (i := 13) (N := some 58) (M 18 16383) rfl rfl (one_of HT_.out (by kernel_rfl)) (by decide) (fun K hK => ?_)
         refine goes_ Tryd.func70 (by kernel_rfl) rfl #[.int .u64 t611, .int .i64 8] (by rfl) rfl rfl mq ?_
         with_reducible refine (isoglossref03_Put.calls kj6 t611 8 t618 _ A28.out).mono ?_
         rintro e w36 ⟨rfl, hb⟩
         refine ⟨_, rfl, ?_⟩
         have n0_ := ak (Kd.R_below (rx HO616.out) hb)
         have n1_ := ak (blk_below (g := gb610) (bx BK610.out) hb)
         have n2_ := ak (blk_below (g := gb613) (bx BK613.out) hb)
         have n3_ := ak (below_step bq hb)
         clear HO616
         clear BK610
         clear BK613
         clear HB
         have HO616 := n0_
         have BK610 := n1_
         have BK613 := n2_
         have HB := n3_
         clear n0_ n1_ n2_ n3_
         (try clear hb)
         (try clear hb2)
         (try clear hk)
         (try clear hi)
         refine hK.out _ _ ⟨(blk_cell BK610.out 0).trans rfl, (blk_cell BK610.out 1).trans rfl, (blk_cell BK613.out 0).trans rfl, (blk_cell BK613.out 1).trans rfl⟩ (fun hHeld => ?_)
         clear hK K
         refine norm_ (a' := ?_) ?_ ?_
         rotate_left
         ·
          show Act.put _ (some 58) _ = _
          simp only [Act.put, pA, pB, pC, i64_w, i32_w]
          rfl
         exact norm_ (by first | (simp only [putAll, Act.put, pA, pB, pC]; done) | (simp only [putAll, Act.put, pA, pB, pC]; rfl)) (hJ5_6_9_13 (v615) _ ⟨hHeld, (rx HO616.out), (bx BK610.out), (bx BK613.out), bq⟩)
       rintro v615 w36 ⟨hS_, h0_, h1_, h2_, h3_⟩
       have n0_ : Aside0 (Kd.R (Kd.int .u8) 5 w36 w.heap.size (fun _ => True) v615 y614) := ⟨h0_⟩
       have n1_ : Aside0 (w36.heap[gb610]? = some (.cells #[.int .u64 t608, .bool t609] 95 (0, 0))) := ⟨h1_⟩
       have n2_ : Aside0 (w36.heap[gb613]? = some (.cells #[.int .u64 t611, .bool t612] 95 (0, 0))) := ⟨h2_⟩
       have n3_ : Aside0 (Below w.heap.size w w36) := ⟨h3_⟩
       clear BK610
       clear BK613
       clear HB
       clear h0_ h1_ h2_ h3_
       have HO616 := n0_
       have BK610 := n1_
       have BK613 := n2_
       have HB := n3_
       clear n0_ n1_ n2_ n3_
       have hHeld : w36.cell? ⟨gb610, 0, none⟩ = some (.int .u64 t608) ∧ w36.cell? ⟨gb610, 1, none⟩ = some (.bool t609) ∧ w36.cell? ⟨gb613, 0, none⟩ = some (.int .u64 t611) ∧ w36.cell? ⟨gb613, 1, none⟩ = some (.bool t612) := hS_
       refine norm_ (a' := ?_) ?_ ?_
       rotate_left
       ·
        simp only [putAll, Act.put, pA, pB, pC]
        rfl
       refine pu 14 (some 59) (M 18 32767) ?_
       refine pu 15 (some 60) (M 18 65535) ?_
       refine pu 16 (some 61) (M 18 131071) ?_
       refine pu 17 (some 6) (M 18 262143) ?_
       refine done_ (done_of HT_.out (by kernel_rfl)) ?_
       try go_wp2
       go_ret
       exact ⟨by first | rfl | (simp [errW_none, errW_some] <;> rfl) | (simp [*, errW_none, errW_some] <;> rfl), bq⟩
      ·
       rw [if_neg c29] at H
       exact absurd H (by simp)
     ·
      rw [if_neg c27] at H
      exact absurd H (by simp)
    ·
     replace c25 := Bool.eq_false_iff.mpr c25
     subst c25
     have H1 : (some false) = some r := by rw [if_neg (show ¬ (false = true) by decide)] at H; exact H
     clear H
     have H := H1
     clear H1
     obtain rfl := Option.some.inj H
     try go_wp2
     have n0_ := ak (blk_drew BK610.out)
     have n1_ := ak (blk_drew BK613.out)
     have n2_ := ak (below_drew1 HB.out)
     clear BK610
     clear BK613
     clear HB
     have BK610 := n0_
     have BK613 := n1_
     have HB := n2_
     clear n0_ n1_ n2_
     refine start_ (n := 18) (S := fun w' => True) (ds := []) #[false, false, false, false, false, false, false, false, false, false, false, false, false, false, false, false, false, false] (by kernel_rfl) rfl rfl trivial (fun hHeld => ?_); refine with_tabW isoglosslaw12_keys.tab7 isoglosslaw12_keys.bits7 (fun HT_ HW_ => ?_)
     generalize wc.drew = w37 at BK610 BK613 HB hHeld ⊢
     refine pu 0 (some 45) (M 18 1) ?_
     refine pu 1 (some 46) (M 18 3) ?_
     refine pn 2 (some 47) (M 18 7) ?_
     refine pn 3 (some 48) (M 18 15) ?_
     refine pn 4 (some 49) (M 18 31) ?_
     refine pn 5 (some 50) (M 18 63) ?_
     refine pn 6 (some 51) (M 18 127) ?_
     refine pn 7 (some 52) (M 18 255) ?_
     refine pn 8 (some 53) (M 18 511) ?_
     refine pn 9 (some 54) (M 18 1023) ?_
     refine pn 10 (some 55) (M 18 2047) ?_
     refine pn 11 (some 56) (M 18 4095) ?_
     refine pn 12 (some 57) (M 18 8191) ?_
     refine pn 13 (some 58) (M 18 16383) ?_
     refine pn 14 (some 59) (M 18 32767) ?_
     refine pn 15 (some 60) (M 18 65535) ?_
     refine pu 16 (some 61) (M 18 131071) ?_
     refine pu 17 (some 6) (M 18 262143) ?_
     refine done_ (done_of HT_.out (by kernel_rfl)) ?_
     try go_wp2
     go_ret
     exact ⟨by first | rfl | (simp [errW_none, errW_some] <;> rfl) | (simp [*, errW_none, errW_some] <;> rfl), bq⟩
   ·
    replace c24 := Bool.eq_false_iff.mpr c24
    subst c24
    have H1 : (if t607 = true then (some false) else (some (t606.toList == ([] : List UInt8)))) = some r := by rw [if_neg (show ¬ (false = true) by decide)] at H; exact H
    clear H
    have H := H1
    clear H1
    by_cases c38 : t607 = true
    ·
     subst c38
     have H1 : (some false) = some r := by rw [if_pos rfl] at H; exact H
     clear H
     have H := H1
     clear H1
     obtain rfl := Option.some.inj H
     go_wp2
     go_ret
     exact ⟨by first | rfl | (simp [errW_none, errW_some] <;> rfl) | (simp [*, errW_none, errW_some] <;> rfl), bq⟩
    ·
     replace c38 := Bool.eq_false_iff.mpr c38
     subst c38
     have H1 : (some (t606.toList == ([] : List UInt8))) = some r := by rw [if_neg (show ¬ (false = true) by decide)] at H; exact H
     clear H
     have H := H1
     clear H1
     obtain rfl := Option.some.inj H
     go_wp2
     go_ret
     exact ⟨by first | rfl | (simp [errW_none, errW_some] <;> rfl) | (simp [*, errW_none, errW_some] <;> rfl), bq⟩

end Go.Proofs.YtmbfnbnlajchmaaDoor.P
