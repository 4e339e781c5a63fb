/- Made by a program of this seat's own (myprint.py, round the kit's print): what the functions compute, and that they do. -/
import Derived.Test.YtmbfnbnlajchmaaDoorAdP0
import Derived.Test.YtmbfnbnlajchmaaDoorAdP9
namespace Go.Proofs.YtmbfnbnlajchmaaDoor.P
open Go.RowKit Go.Proofs.YtmbfnbnlajchmaaDoorW.PrintWords Go.Proofs.YtmbfnbnlajchmaaDoorW.PrintLast Go.Proofs.YtmbfnbnlajchmaaDoorW.PrintMore
attribute [local go_sem] StrOrd.binOp_gtr StrOrd.binOp_leq max2_int min2_int max_two min_two max_three min_three max_four min_four   -- for this text's walks alone
set_option linter.unusedVariables false
set_option linter.unusedSimpArgs false

def isoglossref06_Variant.f (k : Nat) (a0 : ByteArray) : Option (Bool) := (isoglossref02_Class.f k a0).bind fun t366 => (if t366 = 0 then (some false) else (if (a0.size : Int) ≥ 5 then (if (a0.size : Int) ≤ 8 then (some true) else (if (a0.size : Int) = 4 then (if 0 < (a0.size : Int) then (if (bt a0 0) ≥ 48 then (some (decide ((bt a0 0) ≤ 57))) else (some false)) else (none)) else (some false))) else (if (a0.size : Int) = 4 then (if 0 < (a0.size : Int) then (if (bt a0 0) ≥ 48 then (some (decide ((bt a0 0) ≤ 57))) else (some false)) else (none)) else (some false))))
set_option maxHeartbeats 8000000 in
set_option maxRecDepth 100000 in
theorem isoglossref06_Variant.calls (k : Nat) (a0 : ByteArray) (r : Bool) (w : World) (h : isoglossref06_Variant.f k a0 = some r) :
  Calls Tryd.prog 88 #[.string a0] w fun e w' => e = .returned (.bool r) ∧ Drawn0 w w' := by
 have H : ((isoglossref02_Class.f k a0).bind fun t366 => (if t366 = 0 then (some false) else (if (a0.size : Int) ≥ 5 then (if (a0.size : Int) ≤ 8 then (some true) else (if (a0.size : Int) = 4 then (if 0 < (a0.size : Int) then (if (bt a0 0) ≥ 48 then (some (decide ((bt a0 0) ≤ 57))) else (some false)) else (none)) else (some false))) else (if (a0.size : Int) = 4 then (if 0 < (a0.size : Int) then (if (bt a0 0) ≥ 48 then (some (decide ((bt a0 0) ≤ 57))) else (some false)) else (none)) else (some false))))) = some r := h
 clear h
 replace H := Option.bind_eq_some_iff.mp H
 obtain ⟨t366, A20, H⟩ := H
 have A2 := ak A20
 clear A20
 by_cases c3 : t366 = 0
 ·
  rw [if_pos c3] at H
  have c3b0 : (t366 == 0) = true := beq_iff_eq.mpr c3
  have c3b1 : (t366 != 0) = false := bne_eq_false_iff_eq.mpr c3
  (try (have c3b2 : (t366 : Int).toNat = 0 := by rw [c3]; rfl))
  try have c3b3 : (0 ≤ t366) = True := eq_true (by omega)
  try have c3b4_2 : (t366 < 2) = True := eq_true (by omega)
  try have c3b4_3 : (t366 < 3) = True := eq_true (by omega)
  try have c3b4_5 : (t366 < 5) = True := eq_true (by omega)
  clear c3
  obtain rfl := Option.some.inj H
  go_enter Tryd.func88, Tryd.ntmps88
  go_wp2_with (first | ((with_reducible refine gate_callee (f := 82) rfl ?_); refine goesL_ (some 4) rfl rfl Tryd.func82 (by kernel_rfl) rfl #[.string a0] rfl mq ?_; (with_reducible refine (isoglossref02_Class.calls k a0 t366 _ A2.out).mono ?_); rintro e w' ⟨rfl, ⟨nd, rfl⟩⟩; refine ⟨_, rfl, ?_⟩; (try clear A2)))
  go_ret
  exact ⟨by first | rfl | (simp; done) | (simp [*]; done), by repeat (first | exact Drawn0.refl _ | apply Drawn0.step)⟩
 ·
  rw [if_neg c3] at H
  have c3b0 : (t366 == 0) = false := beq_eq_false_iff_ne.mpr c3
  have c3b1 : (t366 != 0) = true := bne_iff_ne.mpr c3
  by_cases c4 : (a0.size : Int) ≥ 5
  ·
   rw [if_pos c4] at H
   have c4b0 : decide (5 ≤ (a0.size : Int)) = true := decide_eq_true c4
   have c4b1 : decide (5 ≤ a0.size) = true := decide_eq_true (by omega)
   clear c4
   by_cases c5 : (a0.size : Int) ≤ 8
   ·
    rw [if_pos c5] at H
    have c5b0 : decide ((a0.size : Int) ≤ 8) = true := decide_eq_true c5
    have c5b1 : decide (a0.size ≤ 8) = true := decide_eq_true (by omega)
    clear c5
    obtain rfl := Option.some.inj H
    go_enter Tryd.func88, Tryd.ntmps88
    go_wp2_with (first | ((with_reducible refine gate_callee (f := 82) rfl ?_); refine goesL_ (some 4) rfl rfl Tryd.func82 (by kernel_rfl) rfl #[.string a0] rfl mq ?_; (with_reducible refine (isoglossref02_Class.calls k a0 t366 _ A2.out).mono ?_); rintro e w' ⟨rfl, ⟨nd, rfl⟩⟩; refine ⟨_, rfl, ?_⟩; (try clear A2)))
    go_ret
    exact ⟨by first | rfl | (simp; done) | (simp [*]; done), by repeat (first | exact Drawn0.refl _ | apply Drawn0.step)⟩
   ·
    rw [if_neg c5] at H
    have c5b0 : decide ((a0.size : Int) ≤ 8) = false := decide_eq_false c5
    have c5b1 : decide (a0.size ≤ 8) = false := decide_eq_false (by omega)
    clear c5
    by_cases c6 : (a0.size : Int) = 4
    ·
     rw [if_pos c6] at H
     have c6b0 : ((a0.size : Int) == 4) = true := beq_iff_eq.mpr c6
     have c6b1 : ((a0.size : Int) != 4) = false := bne_eq_false_iff_eq.mpr c6
     clear c6
     by_cases c7 : 0 < (a0.size : Int)
     ·
      rw [if_pos c7] at H
      have c7b0 : decide (0 < (a0.size : Int)) = true := decide_eq_true c7
      have c7b1 : decide (0 < a0.size) = true := decide_eq_true (by omega)
      clear c7
      by_cases c9 : (bt a0 0) ≥ 48
      ·
       rw [if_pos c9] at H
       have c9b0 : decide (48 ≤ (bt a0 0)) = true := decide_eq_true c9
       clear c9
       obtain rfl := Option.some.inj H
       go_enter Tryd.func88, Tryd.ntmps88
       go_wp2_with (first | ((with_reducible refine gate_callee (f := 82) rfl ?_); refine goesL_ (some 4) rfl rfl Tryd.func82 (by kernel_rfl) rfl #[.string a0] rfl mq ?_; (with_reducible refine (isoglossref02_Class.calls k a0 t366 _ A2.out).mono ?_); rintro e w' ⟨rfl, ⟨nd, rfl⟩⟩; refine ⟨_, rfl, ?_⟩; have p8 : 0 ≤ (0 : Int) := (by omega); have q8 : 0 < a0.size := (by have : (0 : Int) < (a0.size : Int) := of_decide_eq_true (by first | (with_reducible assumption) | assumption); omega); have hx8 : ∀ h : 0 < a0.size, ((a0[0]'h).toNat : Int) = bt a0 0 := bt_at a0 0; clear p8; have qi8 : (0 < (a0.size : Int)) = True := eq_true (of_decide_eq_true (by first | (with_reducible assumption) | assumption)); replace q8 := eq_true q8; have p10 : 0 ≤ (0 : Int) := (by omega); have q10 : 0 < a0.size := (by have : (0 : Int) < (a0.size : Int) := of_decide_eq_true (by first | (with_reducible assumption) | assumption); omega); have hx10 : ∀ h : 0 < a0.size, ((a0[0]'h).toNat : Int) = bt a0 0 := bt_at a0 0; clear p10; have qi10 : (0 < (a0.size : Int)) = True := eq_true (of_decide_eq_true (by first | (with_reducible assumption) | assumption)); replace q10 := eq_true q10; (try clear A2)))
       go_ret
       exact ⟨by first | rfl | (simp; done) | (simp [*]; done), by repeat (first | exact Drawn0.refl _ | apply Drawn0.step)⟩
      ·
       rw [if_neg c9] at H
       have c9b0 : decide (48 ≤ (bt a0 0)) = false := decide_eq_false c9
       clear c9
       obtain rfl := Option.some.inj H
       go_enter Tryd.func88, Tryd.ntmps88
       go_wp2_with (first | ((with_reducible refine gate_callee (f := 82) rfl ?_); refine goesL_ (some 4) rfl rfl Tryd.func82 (by kernel_rfl) rfl #[.string a0] rfl mq ?_; (with_reducible refine (isoglossref02_Class.calls k a0 t366 _ A2.out).mono ?_); rintro e w' ⟨rfl, ⟨nd, rfl⟩⟩; refine ⟨_, rfl, ?_⟩; have p8 : 0 ≤ (0 : Int) := (by omega); have q8 : 0 < a0.size := (by have : (0 : Int) < (a0.size : Int) := of_decide_eq_true (by first | (with_reducible assumption) | assumption); omega); have hx8 : ∀ h : 0 < a0.size, ((a0[0]'h).toNat : Int) = bt a0 0 := bt_at a0 0; clear p8; have qi8 : (0 < (a0.size : Int)) = True := eq_true (of_decide_eq_true (by first | (with_reducible assumption) | assumption)); replace q8 := eq_true q8; (try clear A2)))
       go_ret
       exact ⟨by first | rfl | (simp; done) | (simp [*]; done), by repeat (first | exact Drawn0.refl _ | apply Drawn0.step)⟩
     ·
      rw [if_neg c7] at H
      exact absurd H (by simp)
    ·
     rw [if_neg c6] at H
     have c6b0 : ((a0.size : Int) == 4) = false := beq_eq_false_iff_ne.mpr c6
     have c6b1 : ((a0.size : Int) != 4) = true := bne_iff_ne.mpr c6
     obtain rfl := Option.some.inj H
     go_enter Tryd.func88, Tryd.ntmps88
     go_wp2_with (first | ((with_reducible refine gate_callee (f := 82) rfl ?_); refine goesL_ (some 4) rfl rfl Tryd.func82 (by kernel_rfl) rfl #[.string a0] rfl mq ?_; (with_reducible refine (isoglossref02_Class.calls k a0 t366 _ A2.out).mono ?_); rintro e w' ⟨rfl, ⟨nd, rfl⟩⟩; refine ⟨_, rfl, ?_⟩; (try clear A2)))
     go_ret
     exact ⟨by first | rfl | (simp; done) | (simp [*]; done), by repeat (first | exact Drawn0.refl _ | apply Drawn0.step)⟩
  ·
   rw [if_neg c4] at H
   have c4b0 : decide (5 ≤ (a0.size : Int)) = false := decide_eq_false c4
   have c4b1 : decide (5 ≤ a0.size) = false := decide_eq_false (by omega)
   clear c4
   by_cases c11 : (a0.size : Int) = 4
   ·
    rw [if_pos c11] at H
    have c11b0 : ((a0.size : Int) == 4) = true := beq_iff_eq.mpr c11
    have c11b1 : ((a0.size : Int) != 4) = false := bne_eq_false_iff_eq.mpr c11
    clear c11
    by_cases c12 : 0 < (a0.size : Int)
    ·
     rw [if_pos c12] at H
     have c12b0 : decide (0 < (a0.size : Int)) = true := decide_eq_true c12
     have c12b1 : decide (0 < a0.size) = true := decide_eq_true (by omega)
     clear c12
     by_cases c14 : (bt a0 0) ≥ 48
     ·
      rw [if_pos c14] at H
      have c14b0 : decide (48 ≤ (bt a0 0)) = true := decide_eq_true c14
      clear c14
      obtain rfl := Option.some.inj H
      go_enter Tryd.func88, Tryd.ntmps88
      go_wp2_with (first | ((with_reducible refine gate_callee (f := 82) rfl ?_); refine goesL_ (some 4) rfl rfl Tryd.func82 (by kernel_rfl) rfl #[.string a0] rfl mq ?_; (with_reducible refine (isoglossref02_Class.calls k a0 t366 _ A2.out).mono ?_); rintro e w' ⟨rfl, ⟨nd, rfl⟩⟩; refine ⟨_, rfl, ?_⟩; have p13 : 0 ≤ (0 : Int) := (by omega); have q13 : 0 < a0.size := (by have : (0 : Int) < (a0.size : Int) := of_decide_eq_true (by first | (with_reducible assumption) | assumption); omega); have hx13 : ∀ h : 0 < a0.size, ((a0[0]'h).toNat : Int) = bt a0 0 := bt_at a0 0; clear p13; have qi13 : (0 < (a0.size : Int)) = True := eq_true (of_decide_eq_true (by first | (with_reducible assumption) | assumption)); replace q13 := eq_true q13; have p15 : 0 ≤ (0 : Int) := (by omega); have q15 : 0 < a0.size := (by have : (0 : Int) < (a0.size : Int) := of_decide_eq_true (by first | (with_reducible assumption) | assumption); omega); have hx15 : ∀ h : 0 < a0.size, ((a0[0]'h).toNat : Int) = bt a0 0 := bt_at a0 0; clear p15; have qi15 : (0 < (a0.size : Int)) = True := eq_true (of_decide_eq_true (by first | (with_reducible assumption) | assumption)); replace q15 := eq_true q15; (try clear A2)))
      go_ret
      exact ⟨by first | rfl | (simp; done) | (simp [*]; done), by repeat (first | exact Drawn0.refl _ | apply Drawn0.step)⟩
     ·
      rw [if_neg c14] at H
      have c14b0 : decide (48 ≤ (bt a0 0)) = false := decide_eq_false c14
      clear c14
      obtain rfl := Option.some.inj H
      go_enter Tryd.func88, Tryd.ntmps88
      go_wp2_with (first | ((with_reducible refine gate_callee (f := 82) rfl ?_); refine goesL_ (some 4) rfl rfl Tryd.func82 (by kernel_rfl) rfl #[.string a0] rfl mq ?_; (with_reducible refine (isoglossref02_Class.calls k a0 t366 _ A2.out).mono ?_); rintro e w' ⟨rfl, ⟨nd, rfl⟩⟩; refine ⟨_, rfl, ?_⟩; have p13 : 0 ≤ (0 : Int) := (by omega); have q13 : 0 < a0.size := (by have : (0 : Int) < (a0.size : Int) := of_decide_eq_true (by first | (with_reducible assumption) | assumption); omega); have hx13 : ∀ h : 0 < a0.size, ((a0[0]'h).toNat : Int) = bt a0 0 := bt_at a0 0; clear p13; have qi13 : (0 < (a0.size : Int)) = True := eq_true (of_decide_eq_true (by first | (with_reducible assumption) | assumption)); replace q13 := eq_true q13; (try clear A2)))
      go_ret
      exact ⟨by first | rfl | (simp; done) | (simp [*]; done), by repeat (first | exact Drawn0.refl _ | apply Drawn0.step)⟩
    ·
     rw [if_neg c12] at H
     exact absurd H (by simp)
   ·
    rw [if_neg c11] at H
    have c11b0 : ((a0.size : Int) == 4) = false := beq_eq_false_iff_ne.mpr c11
    have c11b1 : ((a0.size : Int) != 4) = true := bne_iff_ne.mpr c11
    obtain rfl := Option.some.inj H
    go_enter Tryd.func88, Tryd.ntmps88
    go_wp2_with (first | ((with_reducible refine gate_callee (f := 82) rfl ?_); refine goesL_ (some 4) rfl rfl Tryd.func82 (by kernel_rfl) rfl #[.string a0] rfl mq ?_; (with_reducible refine (isoglossref02_Class.calls k a0 t366 _ A2.out).mono ?_); rintro e w' ⟨rfl, ⟨nd, rfl⟩⟩; refine ⟨_, rfl, ?_⟩; (try clear A2)))
    go_ret
    exact ⟨by first | rfl | (simp; done) | (simp [*]; done), by repeat (first | exact Drawn0.refl _ | apply Drawn0.step)⟩

end Go.Proofs.YtmbfnbnlajchmaaDoor.P
