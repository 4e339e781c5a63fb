/- Made by a program of this seat's own (shake.py, merge.py): what the claim leans on: Refs, AsciiEv, PureFacts, GrandEv, Pl, RowTop, RowSd, ParseS. -/
import Derived.Test.YtpmcfckechjppaaGreatDoorTb03
import Derived.WalkKit
import Derived.ProofKit
import Derived.OpenShut
import Derived.ShutString
import Derived.ChangeOld
import Derived.Below
import Derived.Shelf.Abstract
namespace Go.Proofs.YtpmcfckechjppaaGreatDoor.P
open Go.RowKit Go.Proofs.YtpmcfckechjppaaGreatDoorW.PrintWords Go.Proofs.YtpmcfckechjppaaGreatDoorW.PrintLast Go.Proofs.YtpmcfckechjppaaGreatDoorW.PrintMore
attribute [local go_sem] StrOrd.binOp_gtr StrOrd.binOp_leq max2_int min2_int max_two min_two max_three min_three max_four min_four   -- for this text's walks alone
set_option linter.unusedVariables false
set_option linter.unusedSimpArgs false
set_option maxRecDepth 100000
set_option maxHeartbeats 8000000
def isoglossref06_Pick.f (l0 : List ByteArray) (a1 : Int) : Option (ByteArray) := if (l0.length : Int) = 0 then (none) else (if 0 ≤ (Int.tmod (wrap64 ((Int.tmod a1 (l0.length : Int)) + (l0.length : Int))) (l0.length : Int)) then (if (Int.tmod (wrap64 ((Int.tmod a1 (l0.length : Int)) + (l0.length : Int))) (l0.length : Int)) < (l0.length : Int) then (some (rdOf ByteArray.empty l0 (Int.tmod (wrap64 ((Int.tmod a1 (l0.length : Int)) + (l0.length : Int))) (l0.length : Int)))) else (none)) else (none))
theorem isoglossref06_Pick.calls (A0 : Option Addr) (c0 : Nat) (l0 : List ByteArray) (a1 : Int) (r : ByteArray) (w : World) (hr0 : Kd.C Kd.string w A0 l0.length l0) (hc0 : l0.length ≤ c0) (h : isoglossref06_Pick.f l0 a1 = some r) :
 Calls Tryz.prog 34 #[.slice A0 l0.length c0, .int .i64 a1] w fun e w' => e = .returned (.string r) ∧ Drawn0 w w' := by
 have HR0 := Aside0.mk hr0
 have HC0 := Aside0.mk hc0
 clear hr0 hc0
 have H : (if (l0.length : Int) = 0 then (none) else (if 0 ≤ (Int.tmod (wrap64 ((Int.tmod a1 (l0.length : Int)) + (l0.length : Int))) (l0.length : Int)) then (if (Int.tmod (wrap64 ((Int.tmod a1 (l0.length : Int)) + (l0.length : Int))) (l0.length : Int)) < (l0.length : Int) then (some (rdOf ByteArray.empty l0 (Int.tmod (wrap64 ((Int.tmod a1 (l0.length : Int)) + (l0.length : Int))) (l0.length : Int)))) else (none)) else (none))) = some r := h
 clear h
 by_cases c3 : (l0.length : Int) = 0
 · rw [if_pos c3] at H
   exact absurd H (by simp)
 · rw [if_neg c3] at H
   have c3b0 : ((l0.length : Int) == 0) = false := beq_eq_false_iff_ne.mpr c3
   have c3b1 : ((l0.length : Int) != 0) = true := bne_iff_ne.mpr c3
   have c3b2 : ¬ (l0 = []) := fun h_ => c3 (by rw [h_]; rfl)
   obtain ⟨ji4, hji4⟩ : ∃ j_ : Int, (Int.tmod (wrap64 ((Int.tmod a1 (l0.length : Int)) + (l0.length : Int))) (l0.length : Int)) = j_ := ⟨_, rfl⟩
   replace H : (if 0 ≤ (ji4) then (if (ji4) < (l0.length : Int) then (some (rdOf ByteArray.empty l0 (ji4))) else (none)) else (none)) = some r := by first | (rw [hji4] at H; exact H) | (simp only [hji4] at H ⊢; exact H)
   by_cases c5 : 0 ≤ (ji4)
   · rw [if_pos c5] at H
     have c5b0 : decide (0 ≤ (ji4)) = true := decide_eq_true c5
     clear c5
     by_cases c6 : (ji4) < (l0.length : Int)
     · rw [if_pos c6] at H
       have c6b0 : decide ((ji4) < (l0.length : Int)) = true := decide_eq_true c6
       clear c6
       obtain rfl := Option.some.inj H
       have p315 : 0 ≤ ((ji4) : Int) := of_decide_eq_true (by first | (with_reducible assumption) | assumption)
       have q315 : (ji4) < (l0.length : Int) := of_decide_eq_true (by first | (with_reducible assumption) | assumption)
       obtain ⟨ad315, e315, hx315_0⟩ := Kd.at_string HR0.out (ji4) p315 q315
       cases e315
       replace p315 := eq_true p315
       replace q315 := eq_true q315
       go_enter Tryz.func34, Tryz.ntmps34
       go_wp2
       go_ret
       exact ⟨by first | rfl | (simp; done) | (simp only [← hji4] <;> (first | rfl | simp)) | (simp [*]; done), by repeat (first | exact Drawn0.refl _ | apply Drawn0.step)⟩
     · rw [if_neg c6] at H
       exact absurd H (by simp)
   · rw [if_neg c5] at H
     exact absurd H (by simp)

def isoglossref02_upper.f (a0 : Int) : Option (Int) := if a0 ≥ 97 then (if a0 ≤ 122 then (some ((((a0 - 97) % 256) + 65) % 256)) else (some a0)) else (some a0)
theorem isoglossref02_upper.calls (a0 : Int) (r : Int) (w : World) (h : isoglossref02_upper.f a0 = some r) :
 Calls Tryz.prog 193 #[.int .u8 a0] w fun e w' => e = .returned (.int .u8 r) ∧ Drawn0 w w' := by
 have H : (if a0 ≥ 97 then (if a0 ≤ 122 then (some ((((a0 - 97) % 256) + 65) % 256)) else (some a0)) else (some a0)) = some r := h
 clear h
 by_cases c2 : a0 ≥ 97
 ·
  rw [if_pos c2] at H
  have c2b0 : decide (97 ≤ a0) = true := decide_eq_true c2
  clear c2
  by_cases c3 : a0 ≤ 122
  ·
   rw [if_pos c3] at H
   have c3b0 : decide (a0 ≤ 122) = true := decide_eq_true c3
   clear c3
   obtain rfl := Option.some.inj H
   go_enter Tryz.func193, Tryz.ntmps193
   go_wp2
   go_ret
   exact bz
  ·
   rw [if_neg c3] at H
   have c3b0 : decide (a0 ≤ 122) = false := decide_eq_false c3
   clear c3
   obtain rfl := Option.some.inj H
   go_enter Tryz.func193, Tryz.ntmps193
   go_wp2
   go_ret
   exact bz
 ·
  rw [if_neg c2] at H
  have c2b0 : decide (97 ≤ a0) = false := decide_eq_false c2
  clear c2
  obtain rfl := Option.some.inj H
  go_enter Tryz.func193, Tryz.ntmps193
  go_wp2
  go_ret
  exact bz

def isoglossref02_Upper.l0 : Nat → ByteArray → List Int → Int → Option (ByteArray)
 | 0, _, _, _ => none
 | k + 1, x0, x3, x4 => if x4 < (x0.size : Int) then (if 0 ≤ x4 then ((isoglossref02_upper.f (bt x0 x4)).bind fun t331 => (if x3.length < 140737488355328 then (isoglossref02_Upper.l0 k x0 (x3 ++ [t331]) (wrap64 (x4 + 1))) else (none))) else (none)) else (some (strOfNums x3))
def isoglossref02_Upper.f (k : Nat) (a0 : ByteArray) : Option (ByteArray) := isoglossref02_Upper.l0 k a0 ([] : List Int) 0
theorem isoglossref02_Upper.calls (k : Nat) (a0 : ByteArray) (r : ByteArray) (w : World) (h : isoglossref02_Upper.f k a0 = some r) :
 Calls Tryz.prog 145 #[.string a0] w fun e w' => e = .returned (.string r) ∧ Below w.heap.size w w' := by
 have HB := ak (Below.refl w.heap.size w)
 have H : (isoglossref02_Upper.l0 k a0 ([] : List Int) 0) = some r := h
 clear h
 have H' := ak H
 clear H
 go_enter Tryz.func145, Tryz.ntmps145
 go_wp2
 go_loopg [3, 4] k (fun kq v3 v4 w' => ∃ (x3_1 : List Int) (x4_1 : Int), v4 = .int .i64 x4_1 ∧ Aside0 (isoglossref02_Upper.l0 kq a0 x3_1 x4_1 = some r) ∧ Aside0 (kq ≤ k) ∧ Aside0 (Kd.R (Kd.int .u8) 5 w' w.heap.size (fun _ => True) v3 x3_1) ∧ Aside0 (Below w.heap.size w w'))
 case atStart => exact ⟨(([] : List Int)), (0), (by first | rfl | (simp; done) | (simp [*]; done)), H', ⟨Nat.le_refl _⟩, ⟨by first | exact Kd.R_nil _ _ _ _ _ | exact Kd.N_nil _ _ _ _ _ | exact Kd.V_nil _ _ _ _ _ | exact Kd.Q_nil _ _ _ _ _ | exact Kd.S_nil _ _ _ _ _⟩, ⟨bq⟩⟩
 case round =>
  clear H'
  try clear c1
  obtain ⟨x3_1, x4_1, rfl, HA, HK1, HO_3, HB⟩ := hrel
  cases gk with
  | zero => exact absurd HA.out (by simp [isoglossref02_Upper.l0])
  | succ k1 =>
   have H := HA.out
   clear HA
   simp only [isoglossref02_Upper.l0] at H
   by_cases c2 : x4_1 < (a0.size : Int)
   ·
    rw [if_pos c2] at H
    have c2b0 : decide (x4_1 < (a0.size : Int)) = true := decide_eq_true c2
    clear c2
    by_cases c3 : 0 ≤ x4_1
    ·
     rw [if_pos c3] at H
     have c3b0 : decide (0 ≤ x4_1) = true := decide_eq_true c3
     clear c3
     replace H := Option.bind_eq_some_iff.mp H
     obtain ⟨t331, A50, H⟩ := H
     have A5 := ak A50
     clear A50
     by_cases c6 : x3_1.length < 140737488355328
     ·
      rw [if_pos c6] at H
      have LMc6 := ak c6
      clear c6
      obtain ⟨y332, hy332⟩ : ∃ y_ : List Int, y_ = (x3_1 ++ [t331]) := ⟨_, rfl⟩
      replace H : (isoglossref02_Upper.l0 k1 a0 y332 (wrap64 (x4_1 + 1))) = some r := by first | (rw [hy332]; with_reducible exact H) | (have H2_ := (Option.bind_some _ _).symm.trans H; rw [hy332]; with_reducible exact H2_) | (have H2_ := (Option.bind_some _ _).symm.trans H; with_reducible exact H2_) | with_reducible exact H | (rw [hy332]; exact H) | exact H
      have Ny332 := ak hy332
      clear hy332
      have H' := ak H
      clear H
      have p4 : 0 ≤ (x4_1 : Int) := of_decide_eq_true (by first | (with_reducible assumption) | assumption)
      have q4 : x4_1 < (a0.size : Int) := of_decide_eq_true (by first | (with_reducible assumption) | assumption)
      have hx4 := bt_at a0 x4_1
      replace p4 := eq_true p4
      replace q4 := eq_true q4
      go_wp2_with (first | ((with_reducible refine gate_callee (f := 193) rfl ?_); refine goesL_ (some 15) rfl rfl Tryz.func193 (by kernel_rfl) rfl #[.int .u8 (bt a0 x4_1)] rfl mq ?_; (with_reducible refine (isoglossref02_upper.calls (bt a0 x4_1) t331 _ A5.out).mono ?_); rintro e w' ⟨rfl, ⟨nd, rfl⟩⟩; refine ⟨_, rfl, ?_⟩; (try clear A5)) | ((with_reducible refine gate_builtin (b := .append) (xs := #[.tmp 11, .tmp 16]) rfl ?_); at_builtin; refine Kd.R_append (Kd.int .u8) (w0 := w) w.heap.size rfl (.tmp 11) (.tmp 16) 38 5 (.int .u8 0) 1 rfl Tryz.underlying38 info5 rfl (by decide) (by omega) u3 x3_1 t331 [.int .u8 t331] (fun _ => True) (fun _ => False) rfl rfl ?aP (fun _ hk => hk.elim) ?aF ?aO ?aB ?aS ?aL ?_; (case aP => exact rfl); (case aB => exact bq); (case aF => exact (fun _ _ => trivial)); (case aO => exact (rx HO_3.out)); (case aS => exact (below_size bq)); (case aL => have := LMc6.out; omega); intro v333 w7 ho hb hg hat; rw [← Ny332.out] at ho; have n0_ := ak (hb); have n1_ := ak (ho); clear HB; clear HO_3; have HB := n0_; have HO334 := n1_; clear n0_ n1_; clear ho hb hg hat))
      go_roundg k1
      case measure => have := HK1.out; omega
      case rel => exact ⟨(y332), (wrap64 (x4_1 + 1)), (by first | rfl | (simp; done) | (simp [*]; done)), H', ⟨by have := HK1.out; omega⟩, ⟨(rx HO334.out)⟩, ⟨bq⟩⟩
     ·
      rw [if_neg c6] at H
      exact absurd H (by simp)
    ·
     rw [if_neg c3] at H
     exact absurd H (by simp)
   ·
    rw [if_neg c2] at H
    have c2b0 : decide (x4_1 < (a0.size : Int)) = false := decide_eq_false c2
    clear c2
    obtain rfl := Option.some.inj H
    have hcv8 := own_string (P := Tryz.prog) Tryz.underlying38 Tryz.underlying5 Tryz.underlying9 (Kd.own_of_R HO_3.out)
    go_wp2
    go_ret
    exact ⟨by first | rfl | (simp [errW_none, errW_some] <;> rfl) | (simp [*, errW_none, errW_some] <;> rfl), bq⟩

def isoglossref02_Title.f (k : Nat) (a0 : ByteArray) : Option (ByteArray) := if a0.toList = ([] : List UInt8) then (some (⟨#[]⟩ : ByteArray)) else (if 0 ≤ 1 then (if 1 ≤ (a0.size : Int) then ((isoglossref02_Upper.f k (a0.extract 0 1)).bind fun t335 => ((isoglossref02_Lower.f k (a0.extract 1 a0.size)).bind fun t336 => (if t335.size + t336.size ≤ 9223372036854775807 then (some (t335 ++ t336)) else (none)))) else (none)) else (none))
def isoglossref02_Title.T3 : Bool × List (List Nat × List Nat) := (true, [([], []), ([0], [0]), ([1], [1]), ([], []), ([3], [3]), ([4, 2], [4]), ([2, 5], [2, 5]), ([6, 5, 0, 1, 2, 3, 4, 5, 6], [6])])
def isoglossref02_Title.B3 : List Nat := [0, 1, 3, 0, 8, 31, 63, 127]
theorem isoglossref02_Title.tab3 : rtab .any (opsOf Tryz.f72 3) = isoglossref02_Title.T3 := by kernel_rfl
theorem isoglossref02_Title.bits3 : waitsOk isoglossref02_Title.T3.2 isoglossref02_Title.B3 = true := by kernel_rfl
theorem isoglossref02_Title.calls (k : Nat) (a0 : ByteArray) (r : ByteArray) (w : World) (h : isoglossref02_Title.f k a0 = some r) :
 Calls Tryz.prog 72 #[.string a0] w fun e w' => e = .returned (.string r) ∧ Below w.heap.size w w' := by
 have HB := ak (Below.refl w.heap.size w)
 have H : (if a0.toList = ([] : List UInt8) then (some (⟨#[]⟩ : ByteArray)) else (if 0 ≤ 1 then (if 1 ≤ (a0.size : Int) then ((isoglossref02_Upper.f k (a0.extract 0 1)).bind fun t335 => ((isoglossref02_Lower.f k (a0.extract 1 a0.size)).bind fun t336 => (if t335.size + t336.size ≤ 9223372036854775807 then (some (t335 ++ t336)) else (none)))) else (none)) else (none))) = some r := h
 clear h
 by_cases c2 : a0.toList = ([] : List UInt8)
 ·
  rw [if_pos c2] at H
  have c2b0 : (a0.toList == ([] : List UInt8)) = true := beq_iff_eq.mpr c2
  have c2b1 : (a0.toList != ([] : List UInt8)) = false := bne_eq_false_iff_eq.mpr c2
  have c2b2 : a0.toList.isEmpty = true := List.isEmpty_iff.mpr c2
  clear c2
  obtain rfl := Option.some.inj H
  go_enter Tryz.func72, Tryz.ntmps72
  go_wp2
  go_ret
  exact ⟨by first | rfl | (simp [errW_none, errW_some] <;> rfl) | (simp [*, errW_none, errW_some] <;> rfl), bq⟩
 ·
  rw [if_neg c2] at H
  have c2b0 : (a0.toList == ([] : List UInt8)) = false := beq_eq_false_iff_ne.mpr c2
  have c2b1 : (a0.toList != ([] : List UInt8)) = true := bne_iff_ne.mpr c2
  have c2b2 : a0.toList.isEmpty = false := List.isEmpty_eq_false_iff.mpr c2
  by_cases c3 : 0 ≤ 1
  ·
   rw [if_pos c3] at H
   have c3b0 := eq_true c3
   have c3b1 : decide (0 ≤ 1) = true := decide_eq_true c3
   clear c3
   by_cases c4 : 1 ≤ (a0.size : Int)
   ·
    rw [if_pos c4] at H
    have c4b0 := eq_true c4
    have c4b1 : decide (1 ≤ (a0.size : Int)) = true := decide_eq_true c4
    clear c4
    replace H := Option.bind_eq_some_iff.mp H
    obtain ⟨t335, A50, H⟩ := H
    have A5 := ak A50
    clear A50
    have c6b0 := eq_true (of_decide_eq_true (by first | (with_reducible assumption) | assumption) : 1 ≤ (a0.size : Int))
    replace H := Option.bind_eq_some_iff.mp H
    obtain ⟨t336, A70, H⟩ := H
    have A7 := ak A70
    clear A70
    by_cases c8 : t335.size + t336.size ≤ 9223372036854775807
    ·
     rw [if_pos c8] at H
     have c8b0 := eq_true c8
     have c8b1 : decide (t335.size + t336.size ≤ 9223372036854775807) = true := decide_eq_true c8
     try have c8b2 : (9223372036854775807 < t335.size + t336.size) = False := eq_false (Nat.not_lt.2 c8)
     obtain rfl := Option.some.inj H
     go_enter Tryz.func72, Tryz.ntmps72
     try go_wp2
     have n0_ := ak (below_drew1 HB.out)
     clear HB
     have HB := n0_
     clear n0_
     refine start_ (n := 8) (S := fun w' => True) (ds := []) (M 8 0) (by kernel_rfl) rfl rfl trivial (fun hHeld => ?_); refine with_tabW isoglossref02_Title.tab3 isoglossref02_Title.bits3 (fun HT_ HW_ => ?_)
     generalize w.drew = w9 at HB hHeld ⊢
     refine pu 0 (some 5) (M 8 1) ?_
     refine pu 1 (some 6) (M 8 3) ?_
     refine pu 3 (some 8) (M 8 11) ?_
     refine pu 4 (some 9) (M 8 27) ?_
     refine one_ (i := 2) (N := some 7) (M 8 31) rfl rfl (one_of HT_.out (by kernel_rfl)) (by decide) (fun K hK => ?_)
     refine goes_ Tryz.func145 (by kernel_rfl) rfl #[.string (a0.extract 0 1)] (by rfl) rfl rfl mq ?_
     with_reducible refine (isoglossref02_Upper.calls k (a0.extract 0 1) t335 _ A5.out).mono ?_
     rintro e w10 ⟨rfl, hb⟩
     refine ⟨_, rfl, ?_⟩
     have n0_ := ak (below_step bq hb)
     clear HB
     have HB := n0_
     clear n0_
     (try clear hb)
     (try clear hb2)
     (try clear hk)
     (try clear hi)
     refine hK.out _ _ trivial (fun hHeld => ?_)
     clear hK K
     refine norm_ (a' := ?_) ?_ ?_
     rotate_left
     ·
      show Act.put _ (some 7) _ = _
      simp only [Act.put, pA, pB, pC, i64_w, i32_w]
      rfl
     refine one_ (i := 5) (N := some 10) (M 8 63) rfl rfl (one_of HT_.out (by kernel_rfl)) (by decide) (fun K hK => ?_)
     refine goes_ Tryz.func29 (by kernel_rfl) rfl #[.string (a0.extract 1 a0.size)] (by rfl) rfl rfl mq ?_
     with_reducible refine (isoglossref02_Lower.calls k (a0.extract 1 a0.size) t336 _ A7.out).mono ?_
     rintro e w11 ⟨rfl, hb⟩
     refine ⟨_, rfl, ?_⟩
     have n0_ := ak (below_step bq hb)
     clear HB
     have HB := n0_
     clear n0_
     (try clear hb)
     (try clear hb2)
     (try clear hk)
     (try clear hi)
     refine hK.out _ _ trivial (fun hHeld => ?_)
     clear hK K
     refine norm_ (a' := ?_) ?_ ?_
     rotate_left
     ·
      show Act.put _ (some 10) _ = _
      simp only [Act.put, pA, pB, pC, i64_w, i32_w]
      rfl
     refine pu 6 (some 11) (M 8 127) ?_
     refine pu 7 (some 2) (M 8 255) ?_
     refine done_ (done_of HT_.out (by kernel_rfl)) ?_
     try go_wp2
     go_ret
     exact ⟨by first | rfl | (simp [errW_none, errW_some] <;> rfl) | (simp [*, errW_none, errW_some] <;> rfl), bq⟩
    ·
     rw [if_neg c8] at H
     exact absurd H (by simp)
   ·
    rw [if_neg c4] at H
    exact absurd H (by simp)
  ·
   rw [if_neg c3] at H
   exact absurd H (by simp)

def isoglosstop_rest.f (a0 : Int) (a1 : Int) : Option (Int) := if a1 = 0 then (none) else (some (Int.tmod (wrap64 ((Int.tmod a0 a1) + a1)) a1))
theorem isoglosstop_rest.calls (a0 : Int) (a1 : Int) (r : Int) (w : World) (h : isoglosstop_rest.f a0 a1 = some r) :
 Calls Tryz.prog 13 #[.int .i64 a0, .int .i64 a1] w fun e w' => e = .returned (.int .i64 r) ∧ Drawn0 w w' := by
 have H : (if a1 = 0 then (none) else (some (Int.tmod (wrap64 ((Int.tmod a0 a1) + a1)) a1))) = some r := h
 clear h
 by_cases c3 : a1 = 0
 ·
  rw [if_pos c3] at H
  exact absurd H (by simp)
 ·
  rw [if_neg c3] at H
  have c3b0 : (a1 == 0) = false := beq_eq_false_iff_ne.mpr c3
  have c3b1 : (a1 != 0) = true := bne_iff_ne.mpr c3
  obtain rfl := Option.some.inj H
  go_enter Tryz.func13, Tryz.ntmps13
  go_wp2
  go_ret
  exact bz

def IsS87 (w0 W : World) (g : Nat) (f0 : List (S92)) (f1 : Int) (f2 : ByteArray) (f3 : List ByteArray) (f4 : ByteArray) (f5 : ByteArray) (f6 : List ByteArray) (f7 : List (S65)) (f8 : List ByteArray) (f9 : ByteArray) : Prop := ∃ A0 c0, ∃ A3 c3, ∃ A6 c6, ∃ A7 c7, ∃ A8 c8, W.heap[g]? = some (.cells #[.slice A0 f0.length c0, .int .i64 f1, .string f2, .slice A3 f3.length c3, .string f4, .string f5, .slice A6 f6.length c6, .slice A7 f7.length c7, .slice A8 f8.length c8, .string f9] 87 (0, 0)) ∧ w0.heap.size ≤ g ∧ Kd.C k92 w0 A0 f0.length f0 ∧ Kd.C Kd.string w0 A3 f3.length f3 ∧ Kd.C Kd.string w0 A6 f6.length f6 ∧ Kd.C k65 w0 A7 f7.length f7 ∧ Kd.C Kd.string w0 A8 f8.length f8
theorem IsS87.grown {w0 W : World} {g : Nat} {f0 : List (S92)} {f1 : Int} {f2 : ByteArray} {f3 : List ByteArray} {f4 : ByteArray} {f5 : ByteArray} {f6 : List ByteArray} {f7 : List (S65)} {f8 : List ByteArray} {f9 : ByteArray} {W1 : World} {row : Option Nat} (h : IsS87 w0 W g f0 f1 f2 f3 f4 f5 f6 f7 f8 f9) (hw : W.grownBy W1 row) (hne : some g ≠ row) : IsS87 w0 W1 g f0 f1 f2 f3 f4 f5 f6 f7 f8 f9 := by
 obtain ⟨A0, c0, A3, c3, A6, c6, A7, c7, A8, c8, hb, hg, hr0, hr3, hr6, hr7, hr8⟩ := h
 exact ⟨A0, c0, A3, c3, A6, c6, A7, c7, A8, c8, blk_grown hb hw hne, hg, hr0, hr3, hr6, hr7, hr8⟩
theorem IsS87.below {w0 W : World} {g : Nat} {f0 : List (S92)} {f1 : Int} {f2 : ByteArray} {f3 : List ByteArray} {f4 : ByteArray} {f5 : ByteArray} {f6 : List ByteArray} {f7 : List (S65)} {f8 : List ByteArray} {f9 : ByteArray} {W1 : World} (h : IsS87 w0 W g f0 f1 f2 f3 f4 f5 f6 f7 f8 f9) (hw : Below W.heap.size W W1) : IsS87 w0 W1 g f0 f1 f2 f3 f4 f5 f6 f7 f8 f9 := h.grown (grown_of_below hw none) (by simp)
theorem IsS87.alloc {w0 W : World} {g : Nat} {f0 : List (S92)} {f1 : Int} {f2 : ByteArray} {f3 : List ByteArray} {f4 : ByteArray} {f5 : ByteArray} {f6 : List ByteArray} {f7 : List (S65)} {f8 : List ByteArray} {f9 : ByteArray} (h : IsS87 w0 W g f0 f1 f2 f3 f4 f5 f6 f7 f8 f9) (o : Obj) : IsS87 w0 (W.alloc o) g f0 f1 f2 f3 f4 f5 f6 f7 f8 f9 := h.below (below_alloc (Below.refl _ _) o)
end Go.Proofs.YtpmcfckechjppaaGreatDoor.P
namespace Go.Proofs.YtpmcfckechjppaaGreatDoor.Pure
open Go.RowKit Go.Proofs.YtpmcfckechjppaaGreatDoor.P Go.Proofs.YtpmcfckechjppaaGreatDoorW.PrintWords Go.Proofs.YtpmcfckechjppaaGreatDoorW.PrintLast Go.Proofs.YtpmcfckechjppaaGreatDoorW.PrintMore
open Go.Proofs.YtpmcfckechjppaaGreatDoor.Each Go.Proofs.YtpmcfckechjppaaGreatDoor.Base
set_option linter.unusedVariables false
set_option linter.unusedSimpArgs false
set_option maxRecDepth 100000
set_option maxHeartbeats 8000000
def cmpL : List Int → List Int → Int
 | [], [] => 0
 | [], _ :: _ => -1
 | _ :: _, [] => 1
 | a :: l, b :: m => if a < b then -1 else if b < a then 1 else cmpL l m
def lowL (s : ByteArray) : List Int := (bytesOf s).map lowI
theorem lowL_length (s : ByteArray) : (lowL s).length = s.size := by rw [lowL, List.length_map, bytesOf_length]
theorem lowL_drop (s : ByteArray) (i : Nat) (h : i < s.size) : (lowL s).drop i = lowI (bt s (i : Int)) :: (lowL s).drop (i + 1) := by
 unfold lowL
 rw [← List.map_drop, drop_at s i h, List.map_cons, List.map_drop]

theorem lower_some (c : Int) (h : byteI c) : ascii_lower.f c = some (lowI c) := by
 obtain ⟨h0, h1⟩ := h
 unfold ascii_lower.f lowI
 split
 · split
   · rw [if_pos (by omega)]; congr 1; omega
   · rw [if_neg (by omega)]
 · rw [if_neg (by omega)]
theorem order_byte (a b : Int) : ascii_order_byte.f a b = some (if a < b then -1 else if b < a then 1 else 0) := by
 unfold ascii_order_byte.f
 (repeat' split) <;> first | rfl | omega
theorem order_int (a b : Int) : ascii_order_int.f a b = some (if a < b then -1 else if b < a then 1 else 0) := by
 unfold ascii_order_int.f
 (repeat' split) <;> first | rfl | omega
theorem bt_byte (s : ByteArray) (i : Int) : byteI (bt s i) := bt_range s i

theorem cmp_end (l m : List Int) (n : Nat) (hl : n ≤ l.length) (hm : n ≤ m.length) (hn : n = l.length ∨ n = m.length) :
 cmpL (l.drop n) (m.drop n) = if (l.length : Int) < m.length then -1 else if (m.length : Int) < l.length then 1 else 0 := by
 rcases hn with rfl | rfl
 · rw [List.drop_length]
   rcases Nat.lt_or_ge l.length m.length with h | h
   · rw [if_pos (by omega), List.drop_eq_getElem_cons h]; rfl
   · have : m.length = l.length := by omega
     rw [if_neg (by omega), if_neg (by omega), List.drop_of_length_le (by omega)]; rfl
 · rw [List.drop_length]
   rcases Nat.lt_or_ge m.length l.length with h | h
   · rw [if_neg (by omega), if_pos (by omega), List.drop_eq_getElem_cons h]; rfl
   · rw [if_neg (by omega), if_neg (by omega), List.drop_of_length_le (by omega)]; rfl

theorem Compare_loop (s t : ByteArray) (n : Nat) (hn : n ≤ 281474976710656) (hs : n ≤ s.size) (ht : n ≤ t.size) (hnn : n = s.size ∨ n = t.size) : ∀ (d i : Nat), n - i = d → i ≤ n →
 Ev (fun k => ascii_Compare.l0 k s t (n : Int) (i : Int)) (cmpL ((lowL s).drop i) ((lowL t).drop i))
 | 0, i, hd, hi => by
  obtain rfl : i = n := by omega
  refine Ev.step (fun k => by unfold ascii_Compare.l0; rfl) ?_
  refine Ev.ite_neg (by omega) ?_
  refine Ev.bind_c (order_int _ _) ?_
  have e := cmp_end (lowL s) (lowL t) i (by rw [lowL_length]; exact hs) (by rw [lowL_length]; exact ht) (by rw [lowL_length, lowL_length]; exact hnn)
  rw [lowL_length, lowL_length] at e
  rw [e]
  exact Ev.now _
 | d + 1, i, hd, hi => by
  have ih := Compare_loop s t n hn hs ht hnn d (i + 1) (by omega) (by omega)
  refine Ev.step (fun k => by unfold ascii_Compare.l0; rfl) ?_
  refine Ev.ite_pos (by omega) ?_
  refine Ev.ite_pos (by omega) ?_
  refine Ev.ite_pos (by omega) ?_
  refine Ev.bind_c (lower_some _ (bt_byte _ _)) ?_
  refine Ev.ite_pos (by omega) ?_
  refine Ev.bind_c (lower_some _ (bt_byte _ _)) ?_
  refine Ev.bind_c (order_byte _ _) ?_
  rw [lowL_drop s i (by omega), lowL_drop t i (by omega)]
  simp only [cmpL]
  by_cases h1 : lowI (bt s (i : Int)) < lowI (bt t (i : Int))
  · rw [if_pos h1, if_pos h1]
    exact Ev.ite_neg (by decide) (Ev.now _)
  · rw [if_neg h1, if_neg h1]
    by_cases h2 : lowI (bt t (i : Int)) < lowI (bt s (i : Int))
    · rw [if_pos h2, if_pos h2]
      exact Ev.ite_neg (by decide) (Ev.now _)
    · rw [if_neg h2, if_neg h2]
      refine Ev.ite_pos rfl ?_
      rw [wrap_next (by omega) (by omega)]
      exact ih
theorem Compare_ev (s t : ByteArray) (hs : s.size ≤ 140737488351232) (ht : t.size ≤ 140737488351232) : Ev (fun k => ascii_Compare.f k s t) (cmpL (lowL s) (lowL t)) := by
 have e : mn (s.size : Int) (t.size : Int) = ((min s.size t.size : Nat) : Int) := by unfold mn; split <;> omega
 have := Compare_loop s t (min s.size t.size) (by omega) (by omega) (by omega) (by omega) _ 0 rfl (by omega)
 unfold ascii_Compare.f
 rw [e]
 exact this
theorem Same_ev (s t : ByteArray) (hs : s.size ≤ 140737488351232) (ht : t.size ≤ 140737488351232) : Ev (fun k => ascii_Same.f k s t) (cmpL (lowL s) (lowL t) == 0) := by
 unfold ascii_Same.f
 exact Ev.bind (Compare_ev s t hs ht) (Ev.now _)

def letB (c : Int) : Bool := decide ((97 ≤ c ∧ c ≤ 122) ∨ (65 ≤ c ∧ c ≤ 90))
def digB (c : Int) : Bool := decide (48 ≤ c ∧ c ≤ 57)
def kindI (c : Int) : Int := if letB c = true then 1 else if digB c = true then 2 else 0
def sumI (a b : Bool) : Int := (if a = true then 1 else 0) + (if b = true then 2 else 0)
def clsFrom (a b : Bool) (l : List Int) : Int := if l.all (fun c => letB c || digB c) = true then sumI (a || l.any letB) (b || l.any digB) else 0
def clsL (l : List Int) : Int := clsFrom false false l
theorem let_dig (c : Int) (h : letB c = true) : digB c = false := by
 unfold letB at h; unfold digB
 rw [decide_eq_true_iff] at h
 rw [decide_eq_false_iff_not]; omega
theorem kind_ev (c : Int) (h : byteI c) : Ev (fun k => ascii_kind.f k c) (kindI c) := by
 have hv : ∀ r : Int, ((97 ≤ c ∧ c ≤ 122) ∨ (65 ≤ c ∧ c ≤ 90) → r = 1) → (¬ ((97 ≤ c ∧ c ≤ 122) ∨ (65 ≤ c ∧ c ≤ 90)) → 48 ≤ c ∧ c ≤ 57 → r = 2) → (¬ ((97 ≤ c ∧ c ≤ 122) ∨ (65 ≤ c ∧ c ≤ 90)) → ¬ (48 ≤ c ∧ c ≤ 57) → r = 0) → r = kindI c := by
  intro r h1 h2 h3
  unfold kindI letB digB
  simp only [decide_eq_true_iff]
  (repeat' split)
  · exact h1 ‹_›
  · exact h2 ‹_› ‹_›
  · exact h3 ‹_› ‹_›
 have j1 : ∀ b : Bool, (b = true ↔ (97 ≤ c ∧ c ≤ 122)) → (c < 65 ∨ 90 < c) → Ev (fun k => ascii_kind.j1 k c b) (kindI c) := by
  intro b hb hn
  refine Ev.step (fun k => by unfold ascii_kind.j1; rfl) ?_
  by_cases h1 : b = true
  · refine Ev.ite_pos h1 ?_
    rw [← hv 1 (fun _ => rfl) (fun _ _ => by have := hb.1 h1; omega) (fun _ _ => by have := hb.1 h1; omega)]
    exact Ev.now _
  · refine Ev.ite_neg h1 ?_
    have h2 : ¬ (97 ≤ c ∧ c ≤ 122) := fun h => h1 (hb.2 h)
    by_cases h3 : c ≥ 48
    · refine Ev.ite_pos h3 ?_
      by_cases h4 : c ≤ 57
      · refine Ev.ite_pos h4 ?_
        rw [← hv 2 (by omega) (by omega) (by omega)]; exact Ev.now _
      · refine Ev.ite_neg h4 ?_
        rw [← hv 0 (by omega) (by omega) (by omega)]; exact Ev.now _
    · refine Ev.ite_neg h3 ?_
      rw [← hv 0 (by omega) (by omega) (by omega)]; exact Ev.now _
 have j0 : ∀ b : Bool, (b = true ↔ (65 ≤ c ∧ c ≤ 90)) → Ev (fun k => ascii_kind.j0 k c b) (kindI c) := by
  intro b hb
  refine Ev.step (fun k => by unfold ascii_kind.j0; rfl) ?_
  by_cases h1 : b = true
  · refine Ev.ite_pos h1 ?_
    rw [← hv 1 (fun _ => rfl) (fun _ _ => by have := hb.1 h1; omega) (fun _ _ => by have := hb.1 h1; omega)]
    exact Ev.now _
  · refine Ev.ite_neg h1 ?_
    have h2 : ¬ (65 ≤ c ∧ c ≤ 90) := fun h => h1 (hb.2 h)
    by_cases h3 : c ≥ 97
    · exact Ev.ite_pos h3 (j1 _ (by rw [decide_eq_true_iff]; omega) (by omega))
    · exact Ev.ite_neg h3 (j1 _ (by simp; omega) (by omega))
 unfold ascii_kind.f
 by_cases h3 : c ≥ 65
 · exact Ev.ite_pos h3 (j0 _ (by rw [decide_eq_true_iff]; omega))
 · exact Ev.ite_neg h3 (j0 _ (by simp; omega))
theorem or_kind (a b : Bool) (c : Int) (h : (letB c || digB c) = true) : Go.bits .or .i64 (sumI a b) (kindI c) = sumI (a || letB c) (b || digB c) := by
 unfold kindI
 by_cases h1 : letB c = true
 · rw [if_pos h1, h1, let_dig c h1]
   cases a <;> cases b <;> rfl
 · have h1' : letB c = false := by simpa using h1
   rw [h1', Bool.false_or] at h
   rw [if_neg h1, if_pos h, h1', h]
   cases a <;> cases b <;> rfl
theorem Class_loop (s : ByteArray) (hs : s.size ≤ 140737488351232) : ∀ (d i : Nat) (a b : Bool), s.size - i = d → i ≤ s.size →
 Ev (fun k => ascii_Class.l0 k s (sumI a b) (s.size : Int) (i : Int)) (clsFrom a b ((bytesOf s).drop i))
 | 0, i, a, b, hd, hi => by
  obtain rfl : i = s.size := by omega
  refine Ev.step (fun k => by unfold ascii_Class.l0; rfl) ?_
  refine Ev.ite_neg (by omega) ?_
  rw [List.drop_of_length_le (by rw [bytesOf_length]; exact Nat.le_refl _)]
  have e : clsFrom a b [] = sumI a b := by simp [clsFrom]
  rw [e]
  exact Ev.now _
 | d + 1, i, a, b, hd, hi => by
  refine Ev.step (fun k => by unfold ascii_Class.l0; rfl) ?_
  refine Ev.ite_pos (by omega) ?_
  refine Ev.ite_pos (by omega) ?_
  refine Ev.ite_pos (by omega) ?_
  refine Ev.bind (kind_ev _ (bt_byte _ _)) ?_
  rw [drop_at s i (by omega)]
  generalize bt s (i : Int) = c
  by_cases h : (letB c || digB c) = true
  · have hk : ¬ kindI c = 0 := by
     unfold kindI
     by_cases h1 : letB c = true
     · rw [if_pos h1]; decide
     · have h1' : letB c = false := by simpa using h1
       rw [h1', Bool.false_or] at h
       rw [if_neg h1, if_pos h]; decide
    refine Ev.ite_neg hk ?_
    rw [or_kind a b c h, wrap_next (by omega) (by omega)]
    have ih := Class_loop s hs d (i + 1) (a || letB c) (b || digB c) (by omega) (by omega)
    have e : clsFrom a b (c :: (bytesOf s).drop (i + 1)) = clsFrom (a || letB c) (b || digB c) ((bytesOf s).drop (i + 1)) := by
     simp only [clsFrom, List.all_cons, List.any_cons, h, Bool.true_and, Bool.or_assoc]
    rw [e]
    exact ih
  · have hk : kindI c = 0 := by
     unfold kindI
     simp only [Bool.or_eq_true, not_or] at h
     rw [if_neg h.1, if_neg h.2]
    refine Ev.ite_pos hk ?_
    have e : clsFrom a b (c :: (bytesOf s).drop (i + 1)) = 0 := by
     unfold clsFrom
     rw [if_neg]
     rw [List.all_cons, Bool.and_eq_true]
     exact fun hh => h hh.1
    rw [e]
    exact Ev.now _
theorem Class_ev (s : ByteArray) (hs : s.size ≤ 140737488351232) : Ev (fun k => ascii_Class.f k s) (clsL (bytesOf s)) := by
 have := Class_loop s hs _ 0 false false rfl (by omega)
 unfold ascii_Class.f clsL
 exact this
theorem Alnum_ev (s : ByteArray) (hs : s.size ≤ 140737488351232) : Ev (fun k => ascii_Alnum.f k s) (clsL (bytesOf s) != 0) := by
 unfold ascii_Alnum.f
 exact Ev.bind (Class_ev s hs) (Ev.now _)
theorem Alpha_ev (s : ByteArray) (hs : s.size ≤ 140737488351232) : Ev (fun k => ascii_Alpha.f k s) (clsL (bytesOf s) == 1) := by
 unfold ascii_Alpha.f
 exact Ev.bind (Class_ev s hs) (Ev.now _)
theorem Digit_ev (s : ByteArray) (hs : s.size ≤ 140737488351232) : Ev (fun k => ascii_Digit.f k s) (clsL (bytesOf s) == 2) := by
 unfold ascii_Digit.f
 exact Ev.bind (Class_ev s hs) (Ev.now _)

def lowS (s : ByteArray) : ByteArray := strOfNums (eachF lowF s)
def upS (s : ByteArray) : ByteArray := strOfNums (eachF upF s)
def titS (s : ByteArray) : ByteArray := strOfNums (eachF titF s)
theorem lowS_bytes (s : ByteArray) : bytesOf (lowS s) = (bytesOf s).map lowI := each_low s
theorem upS_bytes (s : ByteArray) : bytesOf (upS s) = (bytesOf s).map upI := each_up s
theorem titS_bytes (s : ByteArray) : bytesOf (titS s) = titL (bytesOf s) := each_tit s
theorem lowS_size (s : ByteArray) : (lowS s).size = s.size := by rw [size_bytesOf, lowS_bytes, List.length_map, bytesOf_length]
theorem upS_size (s : ByteArray) : (upS s).size = s.size := by rw [size_bytesOf, upS_bytes, List.length_map, bytesOf_length]
theorem titL_length (l : List Int) : (titL l).length = l.length := by cases l <;> simp [titL]
theorem titS_size (s : ByteArray) : (titS s).size = s.size := by rw [size_bytesOf, titS_bytes, titL_length, bytesOf_length]
theorem Lower_eq (s : ByteArray) (hs : s.size ≤ 140737488351232) : ascii_Lower.f s = some (lowS s) := by unfold ascii_Lower.f; rw [if_pos hs]; rfl
theorem Upper_eq (s : ByteArray) (hs : s.size ≤ 140737488351232) : ascii_Upper.f s = some (upS s) := by unfold ascii_Upper.f; rw [if_pos hs]; rfl
theorem Title_eq (s : ByteArray) (hs : s.size ≤ 140737488351232) : ascii_Title.f s = some (titS s) := by unfold ascii_Title.f; rw [if_pos hs]; rfl

theorem rlower_some (c : Int) (h : byteI c) : isoglossref02_lower.f c = some (lowI c) := by
 obtain ⟨h0, h1⟩ := h
 unfold isoglossref02_lower.f lowI
 split
 · split
   · rw [if_pos (by omega)]; congr 1; omega
   · rw [if_neg (by omega)]
 · rw [if_neg (by omega)]
theorem rLower_loop (s : ByteArray) (hs : s.size ≤ 140737488351232) : ∀ (d i : Nat) (l : List Int), s.size - i = d → i ≤ s.size → l.length = i →
 Ev (fun k => isoglossref02_Lower.l0 k s l (i : Int)) (strOfNums (l ++ ((bytesOf s).drop i).map lowI))
 | 0, i, l, hd, hi, hl => by
  refine Ev.step (fun k => by unfold isoglossref02_Lower.l0; rfl) ?_
  refine Ev.ite_neg (by omega) ?_
  rw [List.drop_of_length_le (by rw [bytesOf_length]; omega), List.map_nil, List.append_nil]
  exact Ev.now _
 | d + 1, i, l, hd, hi, hl => by
  refine Ev.step (fun k => by unfold isoglossref02_Lower.l0; rfl) ?_
  refine Ev.ite_pos (by omega) ?_
  refine Ev.ite_pos (by omega) ?_
  refine Ev.bind_c (rlower_some _ (bt_byte _ _)) ?_
  refine Ev.ite_pos (by omega) ?_
  rw [wrap_next (by omega) (by omega), drop_at s i (by omega)]
  have ih := rLower_loop s hs d (i + 1) (l ++ [lowI (bt s (i : Int))]) (by omega) (by omega) (by simp [hl])
  rw [List.append_assoc] at ih
  exact ih
theorem rLower_ev (s : ByteArray) (hs : s.size ≤ 140737488351232) : Ev (fun k => isoglossref02_Lower.f k s) (lowS s) := by
 have := rLower_loop s hs _ 0 [] rfl (by omega) rfl
 have e : strOfNums ([] ++ ((bytesOf s).drop 0).map lowI) = lowS s := by
  apply bytesOf_inj
  rw [lowS_bytes, List.nil_append, List.drop_zero]
  exact bytesOf_str _ (map_byte (fun _ => lowI_byte) (bytesOf_byte s))
 rw [e] at this
 exact this
theorem Ev.res {α : Type} {g : Nat → Option α} {r r' : α} (h : Ev g r) (e : r = r') : Ev g r' := e ▸ h

theorem cmpL_swap : ∀ l m : List Int, cmpL m l = - cmpL l m
 | [], [] => by simp [cmpL]
 | [], _ :: _ => by simp [cmpL]
 | _ :: _, [] => by simp [cmpL]
 | a :: l, b :: m => by
  have := cmpL_swap l m
  simp only [cmpL]
  (repeat' split) <;> omega
theorem cmpL_zero : ∀ l m : List Int, cmpL l m = 0 ↔ l = m
 | [], [] => by simp [cmpL]
 | [], _ :: _ => by simp [cmpL]
 | _ :: _, [] => by simp [cmpL]
 | a :: l, b :: m => by
  have ih := cmpL_zero l m
  simp only [cmpL, List.cons.injEq]
  by_cases h1 : a < b
  · rw [if_pos h1]; constructor
    · intro h; omega
    · rintro ⟨rfl, _⟩; omega
  · rw [if_neg h1]
    by_cases h2 : b < a
    · rw [if_pos h2]; constructor
      · intro h; omega
      · rintro ⟨rfl, _⟩; omega
    · rw [if_neg h2, ih]
      exact ⟨fun h => ⟨by omega, h⟩, fun h => h.2⟩
theorem cmpL_trans : ∀ l m n : List Int, cmpL l m ≤ 0 → cmpL m n ≤ 0 → cmpL l n ≤ 0
 | [], [], [] => by simp [cmpL]
 | [], [], _ :: _ => by simp [cmpL]
 | [], _ :: _, [] => by simp [cmpL]
 | [], _ :: _, _ :: _ => by simp [cmpL]
 | _ :: _, [], _ => by simp [cmpL]
 | _ :: _, _ :: _, [] => by simp [cmpL]
 | a :: l, b :: m, c :: n => by
  have ih := cmpL_trans l m n
  simp only [cmpL]
  (repeat' split) <;> omega
theorem clsL_nil : clsL [] = 0 := by decide
theorem bt_map {s t : ByteArray} {f : Int → Int} (h : bytesOf t = (bytesOf s).map f) (i : Nat) (hi : i < s.size) : bt t (i : Int) = f (bt s (i : Int)) := by
 have hl : i < (bytesOf s).length := by rw [bytesOf_length]; exact hi
 rw [bt_get s i _ (List.getElem?_eq_getElem hl)]
 exact bt_get t i _ (by rw [h, List.getElem?_map, List.getElem?_eq_getElem hl]; rfl)
theorem size_append (s t : ByteArray) : (s ++ t).size = s.size + t.size := by rw [size_bytesOf, bytesOf_append, List.length_append, bytesOf_length, bytesOf_length]
end Go.Proofs.YtpmcfckechjppaaGreatDoor.Pure
namespace Go.Proofs.YtpmcfckechjppaaGreatDoor.Pure
open Go.RowKit Go.Proofs.YtpmcfckechjppaaGreatDoor.P Go.Proofs.YtpmcfckechjppaaGreatDoorW.PrintWords Go.Proofs.YtpmcfckechjppaaGreatDoorW.PrintLast Go.Proofs.YtpmcfckechjppaaGreatDoorW.PrintMore
open Go.Proofs.YtpmcfckechjppaaGreatDoor.Each Go.Proofs.YtpmcfckechjppaaGreatDoor.Base Go.Proofs.YtpmcfckechjppaaGreatDoor.GrandW
set_option linter.unusedVariables false
set_option linter.unusedSimpArgs false
set_option maxRecDepth 100000
set_option maxHeartbeats 8000000
def nameL (i : Int) : List Int := lowL (nameAt i)
theorem names_le : ∀ i < 26, ∀ j < 26, i ≤ j → cmpL (nameL (i : Nat)) (nameL (j : Nat)) ≤ 0 := by decide +kernel
theorem nameAt_le (i : Int) : (nameAt i).size ≤ 140737488351232 := Nat.le_trans (nameAt_size i) (by decide)

theorem first_at (p : Nat → Prop) (hp : ∀ i j, i ≤ j → p i → p j) : ∀ n, ∃ r, r ≤ n ∧ (∀ h, h < r → ¬ p h) ∧ (∀ h, r ≤ h → h < n → p h)
 | 0 => ⟨0, Nat.le_refl _, fun _ h => absurd h (by omega), fun _ _ h => absurd h (by omega)⟩
 | n + 1 => by
  obtain ⟨r, hr, h1, h2⟩ := first_at p hp n
  by_cases hn : p n
  · by_cases hrn : r = n
    · exact ⟨r, by omega, h1, fun h a b => by
       have : h = n := by omega
       rw [this]; exact hn⟩
    · exact ⟨r, by omega, h1, fun h a b => by
       by_cases e : h = n
       · rw [e]; exact hn
       · exact h2 h a (by omega)⟩
  · refine ⟨n + 1, by omega, fun h a b => hn (hp h n (by omega) b), fun h a b => absurd b (by omega)⟩

theorem search_ev (s : ByteArray) (hs : s.size ≤ 140737488351232) (r : Nat) (h1 : ∀ h : Nat, h < r → ¬ 0 ≤ cmpL (nameL h) (lowL s)) (h2 : ∀ h : Nat, r ≤ h → h < 26 → 0 ≤ cmpL (nameL h) (lowL s)) (hr : r ≤ 26) :
 ∀ (n i j : Nat), i ≤ r → r ≤ j → j ≤ 26 → j - i < n → Ev (fun k => grand_Find.s k s n (i : Int) (j : Int)) (r : Int)
 | 0, _, _, _, _, _, h => absurd h (by omega)
 | n + 1, i, j, hi, hj, h26, hn => by
  have e : ((i : Int) + (j : Int)) / 2 = (((i + j) / 2 : Nat) : Int) := by omega
  unfold grand_Find.s
  by_cases hij : i < j
  · refine Ev.ite_pos (by omega) ?_
    rw [e]
    refine Ev.bind (Compare_ev _ s (nameAt_le _) hs) ?_
    by_cases hp : 0 ≤ cmpL (lowL (nameAt (((i + j) / 2 : Nat) : Int))) (lowL s)
    · refine Ev.ite_pos hp ?_
      have hm : r ≤ (i + j) / 2 := by
       apply Nat.le_of_not_lt
       intro hlt
       exact h1 _ hlt hp
      exact search_ev s hs r h1 h2 hr n i ((i + j) / 2) hi hm (by omega) (by omega)
    · refine Ev.ite_neg hp ?_
      have hm : (i + j) / 2 < r := by
       apply Nat.lt_of_not_le
       intro hle
       exact hp (h2 _ hle (by omega))
      have ih := search_ev s hs r h1 h2 hr n ((i + j) / 2 + 1) j (by omega) hj h26 (by omega)
      have e2 : ((((i + j) / 2 + 1 : Nat)) : Int) = (((i + j) / 2 : Nat) : Int) + 1 := by omega
      rw [e2] at ih
      exact ih
  · refine Ev.ite_neg (by omega) ?_
    have : i = r := by omega
    rw [this]
    exact Ev.now _

theorem Find_ev (s : ByteArray) (hs : s.size ≤ 140737488351232) : ∃ (r : Int) (b : Bool), Ev (fun k => grand_Find.f k s) (r, b) ∧
 ((b = true ∧ 0 ≤ r ∧ r < 26 ∧ nameL r = lowL s) ∨ (b = false ∧ r = 0 ∧ ∀ i : Int, 0 ≤ i → i < 26 → nameL i ≠ lowL s)) := by
 obtain ⟨r, hr, h1, h2⟩ := first_at (fun i => 26 ≤ i ∨ 0 ≤ cmpL (nameL (i : Nat)) (lowL s)) (by
  intro i j hij hpi
  by_cases hj : 26 ≤ j
  · exact .inl hj
  · right
    rcases hpi with hi | hi
    · omega
    · have z := names_le i (by omega) j (by omega) hij
      have y : cmpL (lowL s) (nameL i) ≤ 0 := by rw [cmpL_swap] ; omega
      have x := cmpL_trans _ _ _ y z
      rw [cmpL_swap] at x
      omega) 26
 have h1' : ∀ h : Nat, h < r → ¬ 0 ≤ cmpL (nameL h) (lowL s) := fun h a b => h1 h a (.inr b)
 have h2' : ∀ h : Nat, r ≤ h → h < 26 → 0 ≤ cmpL (nameL h) (lowL s) := fun h a b => by
  rcases h2 h a b with c | c
  · omega
  · exact c
 have hsr := search_ev s hs r h1' h2' hr 27 0 26 (by omega) (by omega) (by omega) (by omega)
 by_cases h26 : r = 26
 · refine ⟨0, false, ?_, .inr ⟨rfl, rfl, ?_⟩⟩
   · unfold grand_Find.f
     refine Ev.bind hsr ?_
     refine Ev.ite_pos (by omega) (Ev.now _)
   · intro i hi hi2 e
     apply h1' i.toNat (by omega)
     rw [Int.toNat_of_nonneg hi, e, (cmpL_zero _ _).2 rfl]
     omega
 · by_cases hc : cmpL (nameL (r : Int)) (lowL s) = 0
   · refine ⟨r, true, ?_, .inl ⟨rfl, by omega, by omega, (cmpL_zero _ _).1 hc⟩⟩
     unfold grand_Find.f
     refine Ev.bind hsr ?_
     refine Ev.ite_neg (by omega) ?_
     refine Ev.bind (Same_ev _ s (nameAt_le _) hs) ?_
     refine Ev.ite_pos ?_ (Ev.now _)
     have hc' : cmpL (lowL (nameAt (r : Int))) (lowL s) = 0 := hc
     rw [hc']; rfl
   · refine ⟨0, false, ?_, .inr ⟨rfl, rfl, ?_⟩⟩
     · unfold grand_Find.f
       refine Ev.bind hsr ?_
       refine Ev.ite_neg (by omega) ?_
       refine Ev.bind (Same_ev _ s (nameAt_le _) hs) ?_
       refine Ev.ite_neg ?_ (Ev.now _)
       intro h
       exact hc (show cmpL (lowL (nameAt (r : Int))) (lowL s) = 0 by simpa using h)
     · intro i hi hi2 e
       by_cases hir : i.toNat < r
       · apply h1' i.toNat hir
         rw [Int.toNat_of_nonneg hi, e, (cmpL_zero _ _).2 rfl]
         omega
       · apply hc
         have z := names_le r (by omega) i.toNat (by omega) (by omega)
         rw [Int.toNat_of_nonneg hi, e] at z
         have y := h2' r (by omega) (by omega)
         omega
end Go.Proofs.YtpmcfckechjppaaGreatDoor.Pure
namespace Go.Proofs.YtpmcfckechjppaaGreatDoor.Ps
open Go.RowKit Go.Proofs.YtpmcfckechjppaaGreatDoorW.PrintWords Go.Proofs.YtpmcfckechjppaaGreatDoorW.PrintLast Go.Proofs.YtpmcfckechjppaaGreatDoorW.PrintMore Go.Proofs.YtpmcfckechjppaaGreatDoor.P
open Go.Proofs.YtpmcfckechjppaaGreatDoor.Each Go.Proofs.YtpmcfckechjppaaGreatDoor.Base Go.Proofs.YtpmcfckechjppaaGreatDoor.Pure
set_option linter.unusedVariables false
set_option linter.unusedSimpArgs false
set_option maxRecDepth 100000
set_option maxHeartbeats 8000000
abbrev Pc : Type := Int × ByteArray
def xB : ByteArray := ⟨#[120]⟩
def subB (s : ByteArray) : Bool := decide (s.size ≤ 8) && (clsL (bytesOf s) != 0)
def langB (s : ByteArray) : Bool := clsL (bytesOf s) == 1 && (decide (2 ≤ s.size) && decide (s.size ≤ 8))
def extlB (s : ByteArray) : Bool := clsL (bytesOf s) == 1 && decide (s.size = 3)
def scrB (s : ByteArray) : Bool := clsL (bytesOf s) == 1 && decide (s.size = 4)
def regB (s : ByteArray) : Bool := (clsL (bytesOf s) == 1 && decide (s.size = 2)) || (clsL (bytesOf s) == 2 && decide (s.size = 3))
def singB (s : ByteArray) : Bool := clsL (bytesOf s) != 0 && (decide (s.size = 1) && !(cmpL (lowL s) (lowL xB) == 0))
def varB (s : ByteArray) : Bool := clsL (bytesOf s) != 0 && ((decide (5 ≤ s.size) && decide (s.size ≤ 8)) || (decide (s.size = 4) && (clsL (bytesOf (s.extract 0 1)) == 2)))
def longB (s : ByteArray) : Bool := decide (1 < s.size)
def trueB (_ : ByteArray) : Bool := true
structure TagL where
 lang : ByteArray := ⟨#[]⟩
 extl : List ByteArray := []
 scr : ByteArray := ⟨#[]⟩
 reg : ByteArray := ⟨#[]⟩
 vars : List ByteArray := []
 exts : List (ByteArray × List ByteArray) := []
 priv : List ByteArray := []
def hereP : List Pc → ByteArray
 | [] => ⟨#[]⟩
 | x :: _ => if subB x.2 = true then x.2 else ⟨#[]⟩
def stopAt (e : Int) : List Pc → Int
 | [] => e
 | x :: _ => x.1
def rowP (f : ByteArray → Bool) : List Pc → List ByteArray × List Pc
 | [] => ([], [])
 | x :: l => if (subB x.2 && f x.2) = true then (x.2 :: (rowP f l).1, (rowP f l).2) else ([], x :: l)
def oneP (f : ByteArray → Bool) : List Pc → ByteArray × List Pc
 | [] => (⟨#[]⟩, [])
 | x :: l => if (subB x.2 && f x.2) = true then (x.2, l) else (⟨#[]⟩, x :: l)
def extlP : Nat → List Pc → List ByteArray × List Pc
 | 0, l => ([], l)
 | _ + 1, [] => ([], [])
 | n + 1, x :: l => if (subB x.2 && extlB x.2) = true then (x.2 :: (extlP n l).1, (extlP n l).2) else ([], x :: l)
def varsP (acc : List ByteArray) : List Pc → Except (Int × Int) (List ByteArray × List Pc)
 | [] => .ok (acc, [])
 | x :: l => if (subB x.2 && varB x.2) = true then (if acc.any (fun y => decide (y = x.2)) = true then .error (x.1, 11) else varsP (acc ++ [x.2]) l) else .ok (acc, x :: l)
def extsP (e : Int) : Nat → List (ByteArray × List ByteArray) → List Pc → Except (Int × Int) (List (ByteArray × List ByteArray) × List Pc)
 | 0, acc, l => .ok (acc, l)
 | _ + 1, acc, [] => .ok (acc, [])
 | n + 1, acc, x :: l => if (subB x.2 && singB x.2) = true then
  (if acc.any (fun y => decide (y.1 = x.2)) = true then .error (x.1, 11) else
   if (rowP longB l).1 = [] then .error (stopAt e (rowP longB l).2, 10) else extsP e n (acc ++ [(x.2, (rowP longB l).1)]) (rowP longB l).2)
  else .ok (acc, x :: l)
def privP (e : Int) (l : List Pc) : Except (Int × Int) (List ByteArray) :=
 if hereP l = xB then (if (rowP trueB l.tail).1 = [] then .error (stopAt e (rowP trueB l.tail).2, 10) else if (rowP trueB l.tail).2 = [] then .ok (rowP trueB l.tail).1 else .error (stopAt e (rowP trueB l.tail).2, 10))
 else if l = [] then .ok [] else .error (stopAt e l, 10)
def exl (a : ByteArray) (l : List Pc) : List ByteArray × List Pc := if a.size = 2 ∨ a.size = 3 then extlP 3 l else ([], l)
def tailP (e : Int) (t : TagL) (l : List Pc) : Except (Int × Int) TagL :=
 match varsP [] l with
 | .error x => .error x
 | .ok v => match extsP e (v.2.length + 1) [] v.2 with
  | .error x => .error x
  | .ok z => match privP e z.2 with
   | .error x => .error x
   | .ok p => .ok { t with vars := v.1, exts := z.1, priv := p }
def allP (e : Int) (l : List Pc) : Except (Int × Int) TagL :=
 if hereP l = xB then (match privP e l with | .error x => .error x | .ok p => .ok { priv := p })
 else if (oneP langB l).1.size = 0 then .error (stopAt e l, 10)
 else tailP e { lang := (oneP langB l).1, extl := (exl (oneP langB l).1 (oneP langB l).2).1, scr := (oneP scrB (exl (oneP langB l).1 (oneP langB l).2).2).1, reg := (oneP regB (oneP scrB (exl (oneP langB l).1 (oneP langB l).2).2).2).1 } (oneP regB (oneP scrB (exl (oneP langB l).1 (oneP langB l).2).2).2).2
def opt1 (s : ByteArray) : List ByteArray := if s.size = 0 then [] else [s]
def extSubs (l : List (ByteArray × List ByteArray)) : List ByteArray := l.flatMap fun x => x.1 :: x.2
def TagL.subs (t : TagL) : List ByteArray := opt1 t.lang ++ t.extl ++ opt1 t.scr ++ opt1 t.reg ++ t.vars ++ extSubs t.exts ++ (if t.priv = [] then [] else xB :: t.priv)
theorem sub_size {s : ByteArray} (h : subB s = true) : s.size ≤ 8 ∧ s.size ≠ 0 := by
 unfold subB at h
 simp only [Bool.and_eq_true, decide_eq_true_eq, bne_iff_ne, ne_eq] at h
 refine ⟨h.1, fun h0 => h.2 ?_⟩
 have : bytesOf s = [] := List.eq_nil_of_length_eq_zero (by rw [bytesOf_length]; exact h0)
 rw [this]; exact clsL_nil
theorem opt1_some {s : ByteArray} (h : subB s = true) : opt1 s = [s] := if_neg (sub_size h).2
theorem opt1_none : opt1 ⟨#[]⟩ = [] := rfl
theorem row_flat (f : ByteArray → Bool) : ∀ l : List Pc, (rowP f l).1 ++ (rowP f l).2.map Prod.snd = l.map Prod.snd
 | [] => rfl
 | x :: l => by
  unfold rowP
  split
  · simp [row_flat f l]
  · rfl
theorem one_pos {f : ByteArray → Bool} {x : Pc} {l : List Pc} (h : (subB x.2 && f x.2) = true) : oneP f (x :: l) = (x.2, l) := if_pos h
theorem one_neg {f : ByteArray → Bool} {x : Pc} {l : List Pc} (h : ¬ (subB x.2 && f x.2) = true) : oneP f (x :: l) = (⟨#[]⟩, x :: l) := if_neg h
theorem one_flat (f : ByteArray → Bool) : ∀ l : List Pc, opt1 (oneP f l).1 ++ (oneP f l).2.map Prod.snd = l.map Prod.snd
 | [] => rfl
 | x :: l => by
  by_cases h : (subB x.2 && f x.2) = true
  · rw [one_pos h]
    rw [Bool.and_eq_true] at h
    simp [opt1_some h.1]
  · rw [one_neg h, opt1_none]; rfl
theorem extl_flat : ∀ (n : Nat) (l : List Pc), (extlP n l).1 ++ (extlP n l).2.map Prod.snd = l.map Prod.snd
 | 0, l => rfl
 | n + 1, [] => rfl
 | n + 1, x :: l => by
  unfold extlP
  split
  · simp [extl_flat n l]
  · rfl
theorem exl_flat (a : ByteArray) (l : List Pc) : (exl a l).1 ++ (exl a l).2.map Prod.snd = l.map Prod.snd := by
 unfold exl
 split
 · exact extl_flat 3 l
 · rfl
theorem vars_flat : ∀ (l : List Pc) (acc : List ByteArray) (v : List ByteArray × List Pc), varsP acc l = .ok v → v.1 ++ v.2.map Prod.snd = acc ++ l.map Prod.snd
 | [], acc, v, h => by cases h; rfl
 | x :: l, acc, v, h => by
  unfold varsP at h
  split at h
  · split at h
    · cases h
    · rw [vars_flat l _ v h]; simp
  · cases h; rfl
theorem exts_flat (e : Int) : ∀ (n : Nat) (l : List Pc) (acc : List (ByteArray × List ByteArray)) (v : List (ByteArray × List ByteArray) × List Pc), extsP e n acc l = .ok v → extSubs v.1 ++ v.2.map Prod.snd = extSubs acc ++ l.map Prod.snd
 | 0, l, acc, v, h => by cases h; rfl
 | n + 1, [], acc, v, h => by cases h; rfl
 | n + 1, x :: l, acc, v, h => by
  unfold extsP at h
  split at h
  · split at h
    · cases h
    · split at h
      · cases h
      · rw [exts_flat e n _ _ v h]
        have := row_flat longB l
        simp [extSubs, ← this]
  · cases h; rfl
theorem here_cons {l : List Pc} {s : ByteArray} (h : hereP l = s) (h0 : s.size ≠ 0) : ∃ x m, l = x :: m ∧ x.2 = s ∧ subB s = true := by
 cases l with
 | nil => subst h; exact absurd rfl h0
 | cons x m =>
  by_cases hs : subB x.2 = true
  · have e : hereP (x :: m) = x.2 := if_pos hs
    rw [e] at h
    exact ⟨x, m, rfl, h, h ▸ hs⟩
  · have e : hereP (x :: m) = ⟨#[]⟩ := if_neg hs
    rw [e] at h
    subst h; exact absurd rfl h0
theorem priv_flat (e : Int) (l : List Pc) (p : List ByteArray) (h : privP e l = .ok p) : (if p = [] then [] else xB :: p) = l.map Prod.snd := by
 unfold privP at h
 split at h
 · rename_i hx
   obtain ⟨x, m, rfl, h1, _⟩ := here_cons hx (by decide)
   by_cases h2 : (rowP trueB (x :: m).tail).1 = []
   · rw [if_pos h2] at h; cases h
   · rw [if_neg h2] at h
     by_cases h3 : (rowP trueB (x :: m).tail).2 = []
     · rw [if_pos h3] at h
       cases h
       have := row_flat trueB m
       have h3' : (rowP trueB m).2 = [] := h3
       rw [h3'] at this
       rw [if_neg h2, List.map_cons, h1, ← this]; simp
     · rw [if_neg h3] at h; cases h
 · split at h
   · rename_i h1; cases h; rw [h1]; rfl
   · cases h
theorem tail_flat (e : Int) (t : TagL) (l : List Pc) (u : TagL) (h : tailP e t l = .ok u) : u.lang = t.lang ∧ u.extl = t.extl ∧ u.scr = t.scr ∧ u.reg = t.reg ∧ u.vars ++ extSubs u.exts ++ (if u.priv = [] then [] else xB :: u.priv) = l.map Prod.snd := by
 unfold tailP at h
 split at h
 · cases h
 · rename_i v hv
   split at h
   · cases h
   · rename_i z hz
     split at h
     · cases h
     · rename_i p hp
       cases h
       refine ⟨rfl, rfl, rfl, rfl, ?_⟩
       have h1 := vars_flat l [] v hv
       have h2 := exts_flat e _ v.2 [] z hz
       have h3 := priv_flat e z.2 p hp
       simp only [extSubs, List.flatMap_nil, List.nil_append] at h1 h2
       rw [← h1, ← h2, ← h3]
       simp [extSubs]
theorem all_flat (e : Int) (l : List Pc) (t : TagL) (h : allP e l = .ok t) : t.subs = l.map Prod.snd := by
 unfold allP at h
 split at h
 · split at h
   · cases h
   · rename_i p hp
     cases h
     have := priv_flat e l p hp
     unfold TagL.subs
     simp only [opt1_none, extSubs, List.flatMap_nil, List.nil_append]
     exact this
 · split at h
   · cases h
   · rename_i h0
     obtain ⟨h1, h2, h3, h4, h5⟩ := tail_flat e _ _ t h
     unfold TagL.subs
     rw [h1, h2, h3, h4]
     have a := one_flat langB l
     have b := exl_flat (oneP langB l).1 (oneP langB l).2
     have c := one_flat scrB (exl (oneP langB l).1 (oneP langB l).2).2
     have d := one_flat regB (oneP scrB (exl (oneP langB l).1 (oneP langB l).2).2).2
     rw [← a, ← b, ← c, ← d, ← h5]
     simp only [List.append_assoc]
def OkErr (e : Int) (x : Int × Int) : Prop := 0 ≤ x.1 ∧ x.1 ≤ e ∧ (x.2 = 10 ∨ x.2 = 11)
def OkL (e : Int) (l : List Pc) : Prop := ∀ x ∈ l, 0 ≤ x.1 ∧ x.1 ≤ e
theorem OkL.tail {e : Int} {x : Pc} {l : List Pc} (h : OkL e (x :: l)) : OkL e l := fun y hy => h y (List.mem_cons_of_mem _ hy)
theorem stop_ok {e : Int} {l : List Pc} (he : 0 ≤ e) (h : OkL e l) : OkErr e (stopAt e l, 10) := by
 cases l with
 | nil => exact ⟨he, Int.le_refl _, .inl rfl⟩
 | cons x l => exact ⟨(h x (by simp)).1, (h x (by simp)).2, .inl rfl⟩
theorem row_ok {e : Int} (f : ByteArray → Bool) : ∀ {l : List Pc}, OkL e l → OkL e (rowP f l).2
 | [], h => h
 | x :: l, h => by
  unfold rowP
  split
  · exact row_ok f h.tail
  · exact h
theorem one_ok {e : Int} (f : ByteArray → Bool) : ∀ {l : List Pc}, OkL e l → OkL e (oneP f l).2
 | [], h => h
 | x :: l, h => by
  by_cases hs : (subB x.2 && f x.2) = true
  · rw [one_pos hs]; exact h.tail
  · rw [one_neg hs]; exact h
theorem extl_ok {e : Int} : ∀ (n : Nat) {l : List Pc}, OkL e l → OkL e (extlP n l).2
 | 0, l, h => h
 | n + 1, [], h => h
 | n + 1, x :: l, h => by
  unfold extlP
  split
  · exact extl_ok n h.tail
  · exact h
theorem exl_ok {e : Int} (a : ByteArray) {l : List Pc} (h : OkL e l) : OkL e (exl a l).2 := by
 unfold exl
 split
 · exact extl_ok 3 h
 · exact h
theorem vars_ok {e : Int} : ∀ (l : List Pc) (acc : List ByteArray), OkL e l → (∀ v, varsP acc l = .ok v → OkL e v.2) ∧ (∀ x, varsP acc l = .error x → OkErr e x)
 | [], acc, h => ⟨fun v hv => by cases hv; exact h, fun x hx => by cases hx⟩
 | x :: l, acc, h => by
  unfold varsP
  split
  · split
    · refine ⟨fun v hv => (by cases hv), fun y hy => ?_⟩
      cases hy
      exact ⟨(h x (by simp)).1, (h x (by simp)).2, .inr rfl⟩
    · exact vars_ok l _ h.tail
  · exact ⟨fun v hv => by cases hv; exact h, fun x hx => by cases hx⟩
theorem exts_ok {e : Int} (he : 0 ≤ e) : ∀ (n : Nat) (l : List Pc) (acc : List (ByteArray × List ByteArray)), OkL e l → (∀ v, extsP e n acc l = .ok v → OkL e v.2) ∧ (∀ x, extsP e n acc l = .error x → OkErr e x)
 | 0, l, acc, h => ⟨fun v hv => by cases hv; exact h, fun x hx => by cases hx⟩
 | n + 1, [], acc, h => ⟨fun v hv => by cases hv; exact h, fun x hx => by cases hx⟩
 | n + 1, x :: l, acc, h => by
  unfold extsP
  split
  · split
    · refine ⟨fun v hv => (by cases hv), fun y hy => ?_⟩
      cases hy
      exact ⟨(h x (by simp)).1, (h x (by simp)).2, .inr rfl⟩
    · split
      · refine ⟨fun v hv => (by cases hv), fun y hy => ?_⟩
        cases hy
        exact stop_ok he (row_ok longB h.tail)
      · exact exts_ok he n _ _ (row_ok longB h.tail)
  · exact ⟨fun v hv => by cases hv; exact h, fun x hx => by cases hx⟩
theorem priv_ok {e : Int} (he : 0 ≤ e) {l : List Pc} (h : OkL e l) (x : Int × Int) (hx : privP e l = .error x) : OkErr e x := by
 have ht : OkL e l.tail := fun y hy => h y (List.mem_of_mem_tail hy)
 unfold privP at hx
 split at hx
 · split at hx
   · cases hx; exact stop_ok he (row_ok trueB ht)
   · split at hx
     · cases hx
     · cases hx; exact stop_ok he (row_ok trueB ht)
 · split at hx
   · cases hx
   · cases hx; exact stop_ok he h
theorem tail_ok {e : Int} (he : 0 ≤ e) (t : TagL) {l : List Pc} (h : OkL e l) (x : Int × Int) (hx : tailP e t l = .error x) : OkErr e x := by
 unfold tailP at hx
 split at hx
 · rename_i hv; cases hx; exact (vars_ok l [] h).2 _ hv
 · rename_i v hv
   have h1 := (vars_ok l [] h).1 v hv
   split at hx
   · rename_i hz; cases hx; exact (exts_ok he _ _ _ h1).2 _ hz
   · rename_i z hz
     have h2 := (exts_ok he _ _ _ h1).1 z hz
     split at hx
     · rename_i hp; cases hx; exact priv_ok he h2 _ hp
     · cases hx
theorem all_ok {e : Int} (he : 0 ≤ e) {l : List Pc} (h : OkL e l) (x : Int × Int) (hx : allP e l = .error x) : OkErr e x := by
 unfold allP at hx
 split at hx
 · split at hx
   · rename_i hp; cases hx; exact priv_ok he h _ hp
   · cases hx
 · split at hx
   · cases hx; exact stop_ok he h
   · exact tail_ok he _ (one_ok regB (one_ok scrB (exl_ok _ (one_ok langB h)))) x hx
end Go.Proofs.YtpmcfckechjppaaGreatDoor.Ps
namespace Go.Proofs.YtpmcfckechjppaaGreatDoor.LikW
open Go.RowKit Go.Proofs.YtpmcfckechjppaaGreatDoorW.PrintWords Go.Proofs.YtpmcfckechjppaaGreatDoorW.PrintLast Go.Proofs.YtpmcfckechjppaaGreatDoor.P
set_option linter.unusedVariables false
set_option linter.unusedSimpArgs false
set_option maxRecDepth 100000
set_option maxHeartbeats 8000000
section
variable {H : Type} {enc : TypeId × Value → H} {P : Program} {w : World} {base : Nat} {sp : Nat → Bool} {held : Bool} {fuel : Nat} {t : TypeId} {cs : List Value} {x : DataW H × List MemPlace}
theorem open_slice {α : Type} (d : Kd α) {e : TypeId} (ht : P.underlying t = some (.slice e)) (hsz : P.cellsOf e = d.sz) (hel : ∀ (n : Nat) (c : List Value) (y : DataW H × List MemPlace), DataW.trod enc P w base sp held n e c = some y → ∃ p, d.K w p c) (h : DataW.trod enc P w base sp held fuel t cs = some x) :
 ∃ (A : Option Addr) (c : Nat) (l : List α), cs = [.slice A l.length c] ∧ l.length ≤ c ∧ Kd.C d w A l.length l := by
 rcases DataW.trod_slice ht h with ⟨rfl, _⟩ | ⟨a, len, cap, elems, rest, n, _, rfl, _, hb, hl, hm, hlen, hels, _, _⟩
 · exact ⟨none, 0, [], rfl, Nat.le_refl _, rfl, by simp, fun h => absurd h (by simp)⟩
 · have key : ∀ m, m ≤ len → ∃ l : List α, l.length = m ∧ ∀ j p, l[j]? = some p → ∃ c, c.length = d.sz ∧ d.K w p c ∧ ∀ i u, c[i]? = some u → w.cell? (a.add (j * d.sz + i)) = some u := by
    intro m
    induction m with
    | zero => intro _; exact ⟨[], rfl, fun j p h => by simp at h⟩
    | succ m ih =>
     intro hmm
     obtain ⟨l, hl1, hl2⟩ := ih (by omega)
     have h1 := hels m (by omega)
     rw [List.getElem?_eq_getElem (show m < elems.length by omega), Option.bind_eq_some_iff] at h1
     obtain ⟨c, hc, hy⟩ := h1
     obtain ⟨p, hp⟩ := hel _ _ _ hy
     obtain ⟨_, hcl, hcc⟩ := World.cells?_some hc
     refine ⟨l ++ [p], by simp [hl1], fun j q hq => ?_⟩
     by_cases hj : j < l.length
     · rw [List.getElem?_append_left hj] at hq
       exact hl2 j q hq
     · have hj2 : j = l.length := by
        have := (List.getElem?_eq_some_iff.1 hq).1
        simp at this
        omega
       subst hj2
       rw [List.getElem?_append_right (Nat.le_refl _), Nat.sub_self, List.getElem?_cons_zero, Option.some.injEq] at hq
       subst hq
       refine ⟨c, by rw [hcl, hsz], hp, fun i u hu => ?_⟩
       have hi : i < P.cellsOf e := by rw [← hcl]; exact (List.getElem?_eq_some_iff.1 hu).1
       have := hcc i hi
       rw [Addr.add_add, hsz] at this
       rw [hl1, this]
       exact hu
   obtain ⟨l, h1, h2⟩ := key len (Nat.le_refl _)
   refine ⟨some a, cap, l, by rw [h1], by omega, rfl, by rw [h1]; unfold maxLen at hm; omega, fun _ => ⟨a, rfl, h2⟩⟩
end
theorem cells_int {H : Type} {enc : TypeId × Value → H} {w : World} {base : Nat} {sp : Nat → Bool} {held : Bool} {fuel : Nat} {cs : List Value} {x : DataW H × List MemPlace} (h : DataW.trod enc Tryz.prog w base sp held fuel 3 cs = some x) : ∃ n : Int, cs = [.int .i64 n] := by
 obtain ⟨n, e, _, _⟩ := DataW.trod_int Tryz.underlying3 h
 exact ⟨n, e⟩
theorem trod_lt {H : Type} {enc : TypeId × Value → H} {w : World} {base : Nat} {sp : Nat → Bool} {held : Bool} {t : TypeId} {v : Value} {d : DataW H} {p : List MemPlace} (h : DataW.Trod enc Tryz.prog w base sp held t v d p) : ∀ x ∈ p, x.block < w.heap.size := by
 obtain ⟨fuel, hf⟩ := h
 exact DataW.trod_lt fuel t _ _ hf
theorem c3 : Tryz.prog.cellsOf 3 = 1 := by kernel_rfl
theorem c23 : Tryz.prog.cellsOf 22 = 1 := by kernel_rfl
theorem c27 : Tryz.prog.cellsOf 24 = 8 := by kernel_rfl
theorem c37 : Tryz.prog.cellsOf 37 = 2 := by kernel_rfl
theorem ofLen8 {α : Type} (l : List α) (h : l.length = 8) : ∃ a b c d e f g i, l = [a, b, c, d, e, f, g, i] := by
 match l, h with
 | [a, b, c, d, e, f, g, i], _ => exact ⟨_, _, _, _, _, _, _, _, rfl⟩
theorem ofLen2 {α : Type} (l : List α) (h : l.length = 2) : ∃ a b, l = [a, b] := by
 match l, h with
 | [a, b], _ => exact ⟨_, _, rfl⟩
theorem ints_slice {H : Type} {enc : TypeId × Value → H} {w : World} {base : Nat} {sp : Nat → Bool} {held : Bool} {fuel : Nat} {cs : List Value} {x : DataW H × List MemPlace} (h : DataW.trod enc Tryz.prog w base sp held fuel 22 cs = some x) :
 ∃ (A : Option Addr) (c : Nat) (l : List Int), cs = [.slice A l.length c] ∧ l.length ≤ c ∧ Kd.C (Kd.int .i64) w A l.length l :=
 open_slice (Kd.int .i64) Tryz.underlying22 (by kernel_rfl) (fun n c y h => by obtain ⟨m, e⟩ := cells_int h; exact ⟨m, e⟩) h
def IsTag (w : World) (cs : List Value) : Prop :=
 ∃ (a0 a1 a2 a3 a7 : Int) (A4 : Option Addr) (c4 : Nat) (l4 : List Int) (A5 : Option Addr) (c5 : Nat) (l5 : List Int) (A6 : Option Addr) (c6 : Nat) (l6 : List Int), cs = [.int .i64 a0, .int .i64 a1, .int .i64 a2, .int .i64 a3, .slice A4 l4.length c4, .slice A5 l5.length c5, .slice A6 l6.length c6, .int .i64 a7] ∧
  Kd.C (Kd.int .i64) w A4 l4.length l4 ∧ Kd.C (Kd.int .i64) w A5 l5.length l5 ∧ Kd.C (Kd.int .i64) w A6 l6.length l6
section
variable {H : Type} {enc : TypeId × Value → H} {w : World} {base : Nat} {sp : Nat → Bool} {held : Bool} {fuel : Nat} {cs : List Value} {x : DataW H × List MemPlace}
theorem cells_27 (h : DataW.trod enc Tryz.prog w base sp held fuel 24 cs = some x) : IsTag w cs := by
 obtain ⟨xs, m, rfl, rfl, hlen, hxl, hall⟩ := DataW.trod_struct Tryz.underlying24 h
 rw [c27] at hlen
 obtain ⟨a, b, c, d, e, f, g, i, rfl⟩ := ofLen8 cs hlen
 obtain ⟨x0, x1, x2, x3, x4, x5, x6, x7, rfl⟩ := ofLen8 xs (by simpa using hxl)
 obtain ⟨n0, e0⟩ := cells_int (by simpa [c3] using hall 0 _ rfl)
 obtain ⟨n1, e1⟩ := cells_int (by simpa [c3] using hall 1 _ rfl)
 obtain ⟨n2, e2⟩ := cells_int (by simpa [c3] using hall 2 _ rfl)
 obtain ⟨n3, e3⟩ := cells_int (by simpa [c3] using hall 3 _ rfl)
 obtain ⟨A4, k4, l4, e4, g4, h4⟩ := ints_slice (by simpa [c23] using hall 4 _ rfl)
 obtain ⟨A5, k5, l5, e5, g5, h5⟩ := ints_slice (by simpa [c23] using hall 5 _ rfl)
 obtain ⟨A6, k6, l6, e6, g6, h6⟩ := ints_slice (by simpa [c23] using hall 6 _ rfl)
 obtain ⟨n7, e7⟩ := cells_int (by simpa [c3] using hall 7 _ rfl)
 refine ⟨n0, n1, n2, n3, n7, A4, k4, l4, A5, k5, l5, A6, k6, l6, ?_, h4, h5, h6⟩
 cases e0; cases e1; cases e2; cases e3; cases e4; cases e5; cases e6; cases e7
 rfl
theorem cells_37 (h : DataW.trod enc Tryz.prog w base sp held fuel 37 cs = some x) : ∃ a b : Int, cs = [.int .i64 a, .int .i64 b] := by
 obtain ⟨xs, m, rfl, rfl, hlen, hxl, hall⟩ := DataW.trod_array Tryz.underlying37 h
 rw [c37] at hlen
 obtain ⟨a, b, rfl⟩ := ofLen2 cs hlen
 obtain ⟨x0, x1, rfl⟩ := ofLen2 xs (by simpa using hxl)
 obtain ⟨n0, e0⟩ := cells_int (by simpa [c3] using hall 0 (by decide))
 obtain ⟨n1, e1⟩ := cells_int (by simpa [c3] using hall 1 (by decide))
 cases e0; cases e1
 exact ⟨_, _, rfl⟩
end
theorem open_tag {H : Type} {enc : TypeId × Value → H} {w : World} {b0 : Nat} {r : Reach} {base : Nat} {sp : Nat → Bool} {held : Bool} {v : Value} {d : DataW H} {p : List MemPlace} (hv : Value.okWide Tryz.prog w r b0 24 v) (h : DataW.Trod enc Tryz.prog w base sp held 24 v d p) :
 ∃ cs : List Value, v = .agg cs.toArray ∧ IsTag w cs := by
 unfold Value.okWide at hv
 rw [Tryz.underlying24] at hv
 obtain ⟨cs, rfl, _, _⟩ := hv
 obtain ⟨fuel, hf⟩ := h
 exact ⟨cs.toList, by rw [Array.toArray_toList], cells_27 hf⟩
theorem open_i2 {H : Type} {enc : TypeId × Value → H} {w : World} {b0 : Nat} {r : Reach} {base : Nat} {sp : Nat → Bool} {held : Bool} {v : Value} {d : DataW H} {p : List MemPlace} (hv : Value.okWide Tryz.prog w r b0 37 v) (h : DataW.Trod enc Tryz.prog w base sp held 37 v d p) :
 ∃ a b : Int, v = .agg #[.int .i64 a, .int .i64 b] := by
 unfold Value.okWide at hv
 rw [Tryz.underlying37] at hv
 obtain ⟨cs, rfl, _, _⟩ := hv
 obtain ⟨fuel, hf⟩ := h
 obtain ⟨a, b, e⟩ := cells_37 hf
 have e2 : cs.toList = [.int .i64 a, .int .i64 b] := e
 exact ⟨a, b, by rw [← Array.toArray_toList (xs := cs), e2]⟩
end Go.Proofs.YtpmcfckechjppaaGreatDoor.LikW
namespace Go.Proofs.YtpmcfckechjppaaGreatDoor.Ps
open Go.RowKit Go.Proofs.YtpmcfckechjppaaGreatDoorW.PrintWords Go.Proofs.YtpmcfckechjppaaGreatDoorW.PrintLast Go.Proofs.YtpmcfckechjppaaGreatDoor.P
set_option linter.unusedVariables false
set_option linter.unusedSimpArgs false
set_option maxRecDepth 100000
set_option maxHeartbeats 8000000
def PS (W : World) (g : Nat) (A : Option Addr) (l : List (Int × ByteArray)) : Prop := ∀ i x, l[i]? = some x → ∃ b o, A = some ⟨b, o, none⟩ ∧ b ≠ g ∧ b < W.heap.size ∧ W.cell? ⟨b, o + 2 * i, none⟩ = some (.int .i64 x.1) ∧ W.cell? ⟨b, o + 2 * i + 1, none⟩ = some (.string x.2)
theorem PS.keep {W W1 : World} {g : Nat} {A : Option Addr} {l : List (Int × ByteArray)} (h : PS W g A l) (hk : KeepBut W W1 g none) : PS W1 g A l := fun i x hx => by
 obtain ⟨b, o, e, n, lt, p0, p1⟩ := h i x hx
 have hb := hk.2 b lt n (by simp)
 exact ⟨b, o, e, n, Nat.lt_of_lt_of_le lt hk.1, (World.cell?_of_block (w := W) (by exact hb)).trans p0, (World.cell?_of_block (w := W) (by exact hb)).trans p1⟩
def rd (A : Option Addr) (n : Nat) (c : Nat) (e : Int) (a b d : ByteArray) : Array Value := #[.slice A n c, .int .i64 e, .string a, .slice none 0 0, .string b, .string d, .slice none 0 0, .slice none 0 0, .slice none 0 0, .string ⟨#[]⟩]
def hereO (k : Nat) : List (Int × ByteArray) → Option ByteArray
 | [] => some ⟨#[]⟩
 | x :: _ => if 8 < x.2.size then some ⟨#[]⟩ else (ascii_Alnum.f k x.2).bind fun b => some (if b = true then x.2 else ⟨#[]⟩)
theorem here_c (k : Nat) (g : Nat) (A : Option Addr) (c : Nat) (e : Int) (a b d : ByteArray) (l : List (Int × ByteArray)) (w : World) (hR : w.heap[g]? = some (.cells (rd A l.length c e a b d) 87 (0, 0))) (hP : PS w g A l) (r : ByteArray) (hr : hereO k l = some r) :
 Calls Tryz.prog 123 #[.pointer (some ⟨g, 0, none⟩)] w fun e w' => e = .returned (.string r) ∧ Drawn0 w w' := by
 obtain ⟨y0, y1, y2, y3, y4, y5, y6, y7, y8, y9⟩ := cz10 hR
 cases l with
 | nil =>
  cases hr
  go_enter Tryz.func123, Tryz.ntmps123
  go_wp2
  go_ret
  exact ⟨rfl, Drawn0.refl _⟩
 | cons x l =>
  obtain ⟨bk, o, rfl, bg, bl, p0, p1⟩ := hP 0 x rfl
  clear hP hR
  have n0 : (((x :: l).length : Int) == 0) = false := by simp only [List.length_cons]; exact beq_eq_false_iff_ne.2 (by omega)
  have n1 : decide (0 < ((x :: l).length : Int)) = true := by simp only [List.length_cons]; exact decide_eq_true (by omega)
  have n2 : 0 < (x :: l).length := by simp
  generalize (x :: l).length = n at *
  simp only [hereO] at hr
  by_cases h8 : 8 < x.2.size
  · rw [if_pos h8] at hr
    cases hr
    have d8 : decide ((8 : Int) < (x.2.size : Int)) = true := decide_eq_true (by omega)
    go_enter Tryz.func123, Tryz.ntmps123
    go_wp2
    go_ret
    exact ⟨rfl, Drawn0.refl _⟩
  · rw [if_neg h8] at hr
    obtain ⟨z, hz, hr⟩ := Option.bind_eq_some_iff.1 hr
    cases hr
    have HZ := Aside0.mk hz
    clear hz
    have d8 : decide ((8 : Int) < (x.2.size : Int)) = false := decide_eq_false (by omega)
    cases z with
    | true =>
     go_enter Tryz.func123, Tryz.ntmps123
     go_wp2_with (first
      | (go_at_call 175; refine (ascii_Alnum.calls k _ true _ HZ.out).mono ?_; rintro e w' ⟨rfl, ⟨nd, rfl⟩⟩))
     go_ret
     exact ⟨rfl, Drawn0.step (Drawn0.refl _) _⟩
    | false =>
     go_enter Tryz.func123, Tryz.ntmps123
     go_wp2_with (first
      | (go_at_call 175; refine (ascii_Alnum.calls k _ false _ HZ.out).mono ?_; rintro e w' ⟨rfl, ⟨nd, rfl⟩⟩))
     go_ret
     exact ⟨rfl, Drawn0.step (Drawn0.refl _) _⟩
theorem take_c (k : Nat) (g : Nat) (A : Option Addr) (c : Nat) (e : Int) (a b d : ByteArray) (x : Int × ByteArray) (l : List (Int × ByteArray)) (w0 w : World) (hB : Below w0.heap.size w0 w) (hg : w0.heap.size ≤ g) (hc : (x :: l).length ≤ c) (hR : w.heap[g]? = some (.cells (rd A (x :: l).length c e a b d) 87 (0, 0))) (hP : PS w g A (x :: l)) (r : ByteArray) (hr : hereO k (x :: l) = some r) :
 Calls Tryz.prog 130 #[.pointer (some ⟨g, 0, none⟩)] w fun e' w' => e' = .returned (.string r) ∧ (∃ A' c', l.length ≤ c' ∧ w'.heap[g]? = some (.cells (rd A' l.length c' e a b d) 87 (0, 0)) ∧ PS w' g A' l) ∧ Below w0.heap.size w0 w' ∧ KeepBut w w' g none := by
 obtain ⟨y0, y1, y2, y3, y4, y5, y6, y7, y8, y9⟩ := cz10 hR
 obtain ⟨f0, -⟩ := fz10 hR
 have HR := Aside0.mk hR
 have HP := Aside0.mk hP
 have HH := Aside0.mk hr
 have HB := Aside0.mk hB
 have hl : (x :: l).length = l.length + 1 := rfl
 have hq : l.length + 1 ≤ c := hc
 obtain ⟨bk, o, rfl, bg, bl, p0, p1⟩ := hP 0 x rfl
 clear hP hR hr hB hc p0 p1
 rw [hl] at y0
 go_enter Tryz.func130, Tryz.ntmps130
 go_wp2_with (first
  | (go_at_call 123; refine (here_c k g _ c e a b d (x :: l) _ HR.out HP.out r HH.out).mono ?_; rintro e w' ⟨rfl, ⟨nd, rfl⟩⟩))
 · have h0 : l = [] := List.eq_nil_of_length_eq_zero (by omega)
   subst h0
   go_ret
   exact ⟨rfl, ⟨_, _, by simp, blk_put (w := w.drewN nd) HR.out 0 _ rfl, fun i x hx => by simp at hx⟩, below_set (pw_below_drewN HB.out _) hg, (keep_drewN (KeepBut.refl w g none) nd).set_ 0 _⟩
 · go_ret
   refine ⟨rfl, ⟨_, _, by omega, blk_put (w := w.drewN nd) HR.out 0 _ rfl, fun i y hy => ?_⟩, below_set (pw_below_drewN HB.out _) hg, (keep_drewN (KeepBut.refl w g none) nd).set_ 0 _⟩
   obtain ⟨b', o', e', n', lt', p0, p1⟩ := (HP.out.keep ((keep_drewN (KeepBut.refl w g none) nd).set_ 0 _)) (i + 1) y hy
   cases e'
   exact ⟨_, _, rfl, n', lt', by rw [show o + 2 + 2 * i = o + 2 * (i + 1) by omega]; exact p0, by rw [show o + 2 + 2 * i + 1 = o + 2 * (i + 1) + 1 by omega]; exact p1⟩
theorem toList_inj {a b : ByteArray} (h : a.toList = b.toList) : a = b := by
 rw [ByteArray.toList_eq, ByteArray.toList_eq] at h
 exact ByteArray.ext (Array.toList_inj.1 h)
theorem full {r : ByteArray} (h : r ≠ ⟨#[]⟩) : r.toList.isEmpty = false := by
 cases e : r.toList.isEmpty with
 | false => rfl
 | true => exact absurd (toList_inj ((List.isEmpty_iff.1 e).trans (by rw [ByteArray.toList_eq] : ([] : List UInt8) = (⟨#[]⟩ : ByteArray).toList))) h
def Tells (F : FuncId) (f : ByteArray → Option Bool) : Prop := Go.Proofs.Enters Tryz.prog F ∧ ∀ s z w, f s = some z → Calls Tryz.prog F #[.string s] w fun e w' => e = .returned (.bool z) ∧ Drawn0 w w'
theorem one_no (k : Nat) (F : FuncId) (f : ByteArray → Option Bool) (hF : Tells F f) (g : Nat) (A : Option Addr) (c : Nat) (e : Int) (a b d : ByteArray) (l : List (Int × ByteArray)) (w : World) (hR : w.heap[g]? = some (.cells (rd A l.length c e a b d) 87 (0, 0))) (hP : PS w g A l) (r : ByteArray) (hr : hereO k l = some r) (hn : r = ⟨#[]⟩ ∨ f r = some false) :
 Calls Tryz.prog 125 #[.pointer (some ⟨g, 0, none⟩), .func (.func F) #[] #[]] w fun e w' => e = .returned (.string ⟨#[]⟩) ∧ Drawn0 w w' := by
 have HR := Aside0.mk hR
 have HP := Aside0.mk hP
 have HH := Aside0.mk hr
 obtain ⟨eF, hF⟩ := hF
 unfold Go.Proofs.Enters at eF
 clear hP hR hr
 by_cases h0 : r = ⟨#[]⟩
 · subst h0
   go_enter Tryz.func125, Tryz.ntmps125
   go_wp2_with (first
    | (go_at_call 123; refine (here_c k g _ c e a b d l _ (by exact HR.out) (by exact HP.out) _ HH.out).mono ?_; rintro e w' ⟨rfl, ⟨nd, rfl⟩⟩))
   go_ret
   exact ⟨rfl, Drawn0.step (Drawn0.refl _) _⟩
 · have hf := hn.resolve_left h0
   have q0 := full h0
   have HF := Aside0.mk hf
   clear hf hn
   go_enter Tryz.func125, Tryz.ntmps125
   go_wp2_with (first
    | (go_at_call 123; refine (here_c k g _ c e a b d l _ (by exact HR.out) (by exact HP.out) _ HH.out).mono ?_; rintro e w' ⟨rfl, ⟨nd, rfl⟩⟩)
    | (refine (hF _ _ _ HF.out).mono ?_; rintro e w' ⟨rfl, ⟨nd, rfl⟩⟩))
   go_ret
   exact ⟨rfl, Drawn0.step (Drawn0.refl _) _⟩
theorem one_yes (k : Nat) (F : FuncId) (f : ByteArray → Option Bool) (hF : Tells F f) (g : Nat) (A : Option Addr) (c : Nat) (e : Int) (a b d : ByteArray) (x : Int × ByteArray) (l : List (Int × ByteArray)) (w0 w : World) (hB : Below w0.heap.size w0 w) (hg : w0.heap.size ≤ g) (hc : (x :: l).length ≤ c) (hR : w.heap[g]? = some (.cells (rd A (x :: l).length c e a b d) 87 (0, 0))) (hP : PS w g A (x :: l)) (r : ByteArray) (hr : hereO k (x :: l) = some r) (h0 : r ≠ ⟨#[]⟩) (hf : f r = some true) :
 Calls Tryz.prog 125 #[.pointer (some ⟨g, 0, none⟩), .func (.func F) #[] #[]] w fun e' w' => e' = .returned (.string r) ∧ (∃ A' c', l.length ≤ c' ∧ w'.heap[g]? = some (.cells (rd A' l.length c' e a b d) 87 (0, 0)) ∧ PS w' g A' l) ∧ Below w0.heap.size w0 w' ∧ KeepBut w w' g none := by
 have HR := Aside0.mk hR
 have HP := Aside0.mk hP
 have HH := Aside0.mk hr
 have HB := Aside0.mk hB
 have HF := Aside0.mk hf
 have HC := Aside0.mk hc
 obtain ⟨eF, hF⟩ := hF
 unfold Go.Proofs.Enters at eF
 have q0 := full h0
 clear hP hR hr hB hf hc
 go_enter Tryz.func125, Tryz.ntmps125
 go_wp2_with (first
  | (go_at_call 123; refine (here_c k g _ c e a b d (x :: l) _ (by exact HR.out) (by exact HP.out) _ HH.out).mono ?_; rintro e w' ⟨rfl, ⟨nd, rfl⟩⟩)
  | (go_at_call 130; refine (take_c k g _ c e a b d x l w0 _ (by exact pw_below_drewN HB.out _) hg HC.out (by exact HR.out) (by exact HP.out) _ HH.out).mono ?_; rintro e w' ⟨rfl, h1, h2, h3⟩; have H1 := Aside0.mk h1; have H2 := Aside0.mk h2; have H3 := Aside0.mk h3; clear h1 h2 h3)
  | (refine (hF _ _ _ HF.out).mono ?_; rintro e w' ⟨rfl, ⟨nd, rfl⟩⟩))
 go_ret
 exact ⟨rfl, H1.out, H2.out, (keep_drewN (KeepBut.refl w g none) _).trans H3.out (.inl rfl)⟩
theorem tells_lang (k : Nat) : Tells 176 (tag_Language.f k) := ⟨enters_of Tryz.func176 (by kernel_rfl) rfl, fun s z w h => tag_Language.calls k s z w h⟩
theorem tells_script (k : Nat) : Tells 126 (tag_Script.f k) := ⟨enters_of Tryz.func126 (by kernel_rfl) rfl, fun s z w h => tag_Script.calls k s z w h⟩
theorem tells_region (k : Nat) : Tells 127 (tag_Region.f k) := ⟨enters_of Tryz.func127 (by kernel_rfl) rfl, fun s z w h => tag_Region.calls k s z w h⟩
def Left (w0 w w' : World) (g : Nat) (e : Int) (a b d : ByteArray) (l : List (Int × ByteArray)) : Prop := (∃ A' c', l.length ≤ c' ∧ w'.heap[g]? = some (.cells (rd A' l.length c' e a b d) 87 (0, 0)) ∧ PS w' g A' l) ∧ Below w0.heap.size w0 w' ∧ KeepBut w w' g none
theorem language_c (k : Nat) (g : Nat) (A : Option Addr) (c : Nat) (e : Int) (b d : ByteArray) (x : Int × ByteArray) (l : List (Int × ByteArray)) (w0 w : World) (hB : Below w0.heap.size w0 w) (hg : w0.heap.size ≤ g) (hc : (x :: l).length ≤ c) (hR : w.heap[g]? = some (.cells (rd A (x :: l).length c e ⟨#[]⟩ b d) 87 (0, 0))) (hP : PS w g A (x :: l)) (r : ByteArray) (hr : hereO k (x :: l) = some r) (h0 : r ≠ ⟨#[]⟩) (hf : tag_Language.f k r = some true) (hs : r.size = 2 ∨ r.size = 3) (r2 : ByteArray) (hr2 : hereO k l = some r2) (he : tag_Extlang.f k r2 = some false) :
 Calls Tryz.prog 124 #[.pointer (some ⟨g, 0, none⟩)] w fun e' w' => e' = .returned (.tuple #[]) ∧ Left w0 w w' g e r b d l := by
 have HR := Aside0.mk hR
 have HP := Aside0.mk hP
 have HH := Aside0.mk hr
 have HH2 := Aside0.mk hr2
 have HB := Aside0.mk hB
 have HF := Aside0.mk hf
 have HE := Aside0.mk he
 have HC := Aside0.mk hc
 have q0 := full h0
 have hz : (((r.size : Int) == 2) = true) ∨ (((r.size : Int) == 2) = false ∧ ((r.size : Int) == 3) = true) := by
  rcases hs with hs | hs
  · exact .inl (by rw [hs]; rfl)
  · exact .inr (by rw [hs]; exact ⟨rfl, rfl⟩)
 clear hP hR hr hB hf hc hr2 he hs
 rcases hz with hz | ⟨hz, hz3⟩
 all_goals
  go_enter Tryz.func124, Tryz.ntmps124
  go_wp2_with (first
   | (go_at_call 125; refine (one_yes k _ _ (tells_lang k) g _ c e _ b d x l w0 _ (by exact HB.out) hg HC.out (by exact HR.out) (by exact HP.out) _ HH.out h0 HF.out).mono ?_; rintro e w1 ⟨rfl, ⟨A1, c1, h1, h2, h3⟩, h4, h5⟩; obtain ⟨y0, y1, y2, y3, y4, y5, y6, y7, y8, y9⟩ := cz10 h2; obtain ⟨f0, f1, f2, -⟩ := fz10 h2; have HR1 := Aside0.mk h2; have HP1 := Aside0.mk h3; have HB1 := Aside0.mk h4; have HK1 := Aside0.mk h5; clear h2 h3 h4 h5))
  refine wp_loop_once ?_
  go_wp2_with (first
   | (go_at_call 123; refine (here_c k g _ c1 _ r b d l _ (by exact blk_put HR1.out 2 _ rfl) (by exact HP1.out.keep ((KeepBut.refl w1 g none).set_ 2 _)) r2 HH2.out).mono ?_; rintro e w2 ⟨rfl, ⟨nd, rfl⟩⟩)
   | (go_at_call 177; refine (tag_Extlang.calls k _ false _ HE.out).mono ?_; rintro e w2 ⟨rfl, ⟨nd, rfl⟩⟩))
  go_end0
  exact ⟨rfl, ⟨A1, c1, h1, blk_put HR1.out 2 _ rfl, HP1.out.keep (keep_drewN ((KeepBut.refl w1 g none).set_ 2 _) _)⟩, pw_below_drewN (below_set HB1.out hg) _, HK1.out.trans (keep_drewN ((KeepBut.refl w1 g none).set_ 2 _) _) (.inl rfl)⟩
theorem PS.nil (W : World) (g : Nat) (A : Option Addr) : PS W g A [] := fun i x hx => by simp at hx
theorem variants_c (g : Nat) (A : Option Addr) (c : Nat) (e : Int) (a b d : ByteArray) (w : World) (hR : w.heap[g]? = some (.cells (rd A 0 c e a b d) 87 (0, 0))) :
 Calls Tryz.prog 128 #[.pointer (some ⟨g, 0, none⟩)] w fun e' w' => e' = .returned (.tuple #[]) ∧ Drawn0 w w' := by
 have HR := Aside0.mk hR
 clear hR
 go_enter Tryz.func128, Tryz.ntmps128
 refine wp_block ?_
 refine wp_loop_once ?_
 go_wp2_with (first
  | (go_at_call 123; refine (here_c 0 g _ c _ _ _ _ [] _ (by exact HR.out) (PS.nil _ _ _) ⟨#[]⟩ rfl).mono ?_; rintro e w2 ⟨rfl, ⟨nd, rfl⟩⟩))
 go_end0
 exact ⟨rfl, Drawn0.step (Drawn0.refl _) _⟩
theorem extensions_c (g : Nat) (A : Option Addr) (c : Nat) (e : Int) (a b d : ByteArray) (w : World) (hR : w.heap[g]? = some (.cells (rd A 0 c e a b d) 87 (0, 0))) :
 Calls Tryz.prog 129 #[.pointer (some ⟨g, 0, none⟩)] w fun e' w' => e' = .returned (.tuple #[]) ∧ Below w.heap.size w w' := by
 have HR := Aside0.mk hR
 clear hR
 go_enter Tryz.func129, Tryz.ntmps129
 go_wp2
 refine wp_loop_once ?_
 go_wp2_with (first
  | (go_at_call 123; refine (here_c 0 g _ c _ _ _ _ [] _ (by exact bx HR.out) (PS.nil _ _ _) ⟨#[]⟩ rfl).mono ?_; rintro e w2 ⟨rfl, ⟨nd, rfl⟩⟩))
 go_end0
 exact ⟨rfl, pw_below_drewN (below_alloc (Below.refl _ _) _) _⟩
def oneO (k : Nat) (f : ByteArray → Option Bool) (l : List (Int × ByteArray)) : Option (ByteArray × List (Int × ByteArray)) := (hereO k l).bind fun r => if r.toList.isEmpty = true then some (⟨#[]⟩, l) else (f r).bind fun z => if z = true then some (r, l.tail) else some (⟨#[]⟩, l)
theorem one_c (k : Nat) (F : FuncId) (f : ByteArray → Option Bool) (hF : Tells F f) (g : Nat) (A : Option Addr) (c : Nat) (e : Int) (a b d : ByteArray) (l l' : List (Int × ByteArray)) (r : ByteArray) (w0 w : World) (hB : Below w0.heap.size w0 w) (hg : w0.heap.size ≤ g) (hc : l.length ≤ c) (hR : w.heap[g]? = some (.cells (rd A l.length c e a b d) 87 (0, 0))) (hP : PS w g A l) (h : oneO k f l = some (r, l')) :
 Calls Tryz.prog 125 #[.pointer (some ⟨g, 0, none⟩), .func (.func F) #[] #[]] w fun e' w' => e' = .returned (.string r) ∧ Left w0 w w' g e a b d l' := by
 have no : ∀ w', Drawn0 w w' → Left w0 w w' g e a b d l := fun w' hd => by
  obtain ⟨nd, rfl⟩ := hd
  exact ⟨⟨A, c, hc, hR, hP.keep (keep_drewN (KeepBut.refl w g none) nd)⟩, pw_below_drewN hB _, keep_drewN (KeepBut.refl w g none) nd⟩
 unfold oneO at h
 obtain ⟨q, hq, h⟩ := Option.bind_eq_some_iff.1 h
 by_cases h0 : q = ⟨#[]⟩
 · subst h0
   rw [if_pos (by rw [ByteArray.toList_eq]; rfl)] at h
   cases h
   exact (one_no k F f hF g A c e a b d l w hR hP _ hq (.inl rfl)).mono fun e' w' ⟨h1, h2⟩ => ⟨h1, no w' h2⟩
 · rw [if_neg (by rw [full h0]; decide)] at h
   obtain ⟨z, hz, h⟩ := Option.bind_eq_some_iff.1 h
   cases z with
   | false =>
    cases h
    exact (one_no k F f hF g A c e a b d l w hR hP _ hq (.inr hz)).mono fun e' w' ⟨h1, h2⟩ => ⟨h1, no w' h2⟩
   | true =>
    cases h
    cases l with
    | nil => cases hq; exact absurd rfl h0
    | cons x l => exact one_yes k F f hF g A c e a b d x l w0 w hB hg hc hR hP r hq h0 hz
theorem all_c (k : Nat) (g : Nat) (A : Option Addr) (c : Nat) (e : Int) (x : Int × ByteArray) (l l2 : List (Int × ByteArray)) (w0 w : World) (hB : Below w0.heap.size w0 w) (hg : w0.heap.size ≤ g) (hc : (x :: l).length ≤ c) (hR : w.heap[g]? = some (.cells (rd A (x :: l).length c e ⟨#[]⟩ ⟨#[]⟩ ⟨#[]⟩) 87 (0, 0))) (hP : PS w g A (x :: l)) (r : ByteArray) (hr : hereO k (x :: l) = some r) (h0 : r ≠ ⟨#[]⟩) (hx : r ≠ ⟨#[120]⟩) (hf : tag_Language.f k r = some true) (hs : r.size = 2 ∨ r.size = 3) (r2 : ByteArray) (hr2 : hereO k l = some r2) (he : tag_Extlang.f k r2 = some false)
 (s y : ByteArray) (h1 : oneO k (tag_Script.f k) l = some (s, l2)) (h2 : oneO k (tag_Region.f k) l2 = some (y, [])) :
 Calls Tryz.prog 65 #[.pointer (some ⟨g, 0, none⟩)] w fun e' w' => e' = .returned (.tuple #[]) ∧ Left w0 w w' g e r s y [] := by
 have HR := Aside0.mk hR
 have HP := Aside0.mk hP
 have HH := Aside0.mk hr
 have HH2 := Aside0.mk hr2
 have HB := Aside0.mk hB
 have HF := Aside0.mk hf
 have HE := Aside0.mk he
 have HC := Aside0.mk hc
 have HS := Aside0.mk hs
 have H1 := Aside0.mk h1
 have H2 := Aside0.mk h2
 clear hP hR hr hB hf hc hr2 he hs h1 h2
 have q1 : (r.toList == [120]) = false := beq_eq_false_iff_ne.2 fun e => hx (toList_inj (e.trans (by rw [ByteArray.toList_eq])))
 go_enter Tryz.func65, Tryz.ntmps65
 go_wp2_with (first
  | (go_at_call 123; refine (here_c k g _ c _ _ _ _ (x :: l) _ (by exact HR.out) (by exact HP.out) _ HH.out).mono ?_; rintro e w2 ⟨rfl, ⟨nd, rfl⟩⟩)
  | (go_at_call 124; refine (language_c k g _ c e _ _ x l w0 _ (by exact pw_below_drewN HB.out _) hg HC.out (by exact HR.out) (by exact HP.out) r HH.out h0 HF.out HS.out r2 HH2.out HE.out).mono ?_; rintro e w1 ⟨rfl, ⟨A1, c1, g1, g2, g3⟩, g4, g5⟩; have K1 := Aside0.mk g2; have P1 := Aside0.mk g3; have B1 := Aside0.mk g4; have N1 := Aside0.mk ((keep_drewN (KeepBut.refl w g none) _).trans g5 (.inl rfl)); clear g2 g3 g4 g5 HR HP HB q1)
  | (go_at_call 125; refine (one_c k _ _ (tells_script k) g A1 c1 e _ _ _ l l2 s w0 w1 B1.out hg g1 K1.out P1.out H1.out).mono ?_; rintro e w2 ⟨rfl, ⟨A2, c2, g1', g2, g3⟩, g4, g5⟩; obtain ⟨-, -, -, -, f4, -⟩ := fz10 g2; obtain ⟨-, -, -, -, y4, -⟩ := cz10 g2; have K2 := Aside0.mk (blk_put g2 4 (.string s) rfl); have P2 := Aside0.mk (g3.keep ((KeepBut.refl w2 g none).set_ 4 (.string s))); have B2 := Aside0.mk (below_set (j := 4) (v := .string s) g4 hg); have N2 := Aside0.mk (N1.out.trans (g5.trans ((KeepBut.refl w2 g none).set_ 4 (.string s)) (.inl rfl)) (.inl rfl)); clear g2 g3 g4 g5 K1 P1 B1 N1)
  | (go_at_call 125; refine (one_c k _ _ (tells_region k) g A2 c2 e _ _ _ l2 [] y w0 (w2.setCell ⟨g, 4, none⟩ (.string s)) B2.out hg g1' K2.out P2.out H2.out).mono ?_; rintro e w3 ⟨rfl, ⟨A3, c3, -, g2, -⟩, g4, g5⟩; obtain ⟨-, -, -, -, -, f5, -⟩ := fz10 g2; obtain ⟨y0, -, -, -, -, y5, -⟩ := cz10 g2; have K3 := Aside0.mk (blk_put g2 5 (.string y) rfl); have B3 := Aside0.mk (below_set (j := 5) (v := .string y) g4 hg); have N3 := Aside0.mk (N2.out.trans (g5.trans ((KeepBut.refl w3 g none).set_ 5 (.string y)) (.inl rfl)) (.inl rfl)); clear g2 g4 g5 K2 P2 B2 N2 y4 f4)
  | (go_at_call 128; refine (variants_c g A3 c3 e _ _ _ (w3.setCell ⟨g, 5, none⟩ (.string y)) K3.out).mono ?_; rintro e w4 ⟨rfl, ⟨nd, rfl⟩⟩)
  | (go_at_call 129; refine (extensions_c g A3 c3 e _ _ _ _ (by exact K3.out)).mono ?_; rintro e w5 ⟨rfl, hb⟩; have K5 := Aside0.mk ((hb.block g (Array.getElem?_eq_some_iff.1 K3.out).1).trans K3.out); have B5 := Aside0.mk ((pw_below_drewN B3.out nd).trans (hb.mono (pw_below_drewN B3.out nd).size)); have N5 := Aside0.mk (N3.out.trans (KeepBut.of_below (pw_below_drewN (Below.refl _ _) nd |>.trans hb) g none) (.inl rfl)); obtain ⟨z0, -⟩ := cz10 K5.out; clear hb)
  | (go_at_call 123; refine (here_c k g _ c3 _ _ _ _ [] _ (by exact K5.out) (PS.nil _ _ _) ⟨#[]⟩ rfl).mono ?_; rintro e w6 ⟨rfl, ⟨nd, rfl⟩⟩))
 go_end0
 exact ⟨rfl, ⟨A3, c3, Nat.zero_le _, K5.out, PS.nil _ _ _⟩, pw_below_drewN B5.out _, N5.out.trans (keep_drewN (KeepBut.refl w5 g none) _) (.inl rfl)⟩
end Go.Proofs.YtpmcfckechjppaaGreatDoor.Ps
