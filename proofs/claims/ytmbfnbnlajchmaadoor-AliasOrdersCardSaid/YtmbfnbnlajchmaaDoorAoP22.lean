/- Made by a program of this seat's own (myprint.py, round the kit's print): what the functions compute, and that they do. -/
import Derived.Test.YtmbfnbnlajchmaaDoorAoP0
import Derived.Test.YtmbfnbnlajchmaaDoorAoTight
namespace Go.Proofs.YtmbfnbnlajchmaaDoor.P
open Go.RowKit Go.Proofs.YtmbfnbnlajchmaaDoorW.PrintWords Go.Proofs.YtmbfnbnlajchmaaDoorW.PrintLast Go.Proofs.YtmbfnbnlajchmaaDoorW.PrintMore
attribute [local go_sem] StrOrd.binOp_gtr StrOrd.binOp_leq max2_int min2_int max_two min_two max_three min_three max_four min_four   -- for this text's walks alone
set_option linter.unusedVariables false
set_option linter.unusedSimpArgs false

def cmp_Or_int.l0 : Nat → Int → List Int → Int → Int → Option (Int)
  | 0, _, _, _, _ => none
  | k + 1, x3, x6, x7, x8 => if x8 < x7 then (if 0 ≤ x8 then (if x8 < (x6.length : Int) then (if (rd x6 x8) = x3 then (cmp_Or_int.l0 k x3 x6 x7 (wrap64 (x8 + 1))) else (some (rd x6 x8))) else (none)) else (none)) else (some x3)
def cmp_Or_int.f (k : Nat) (l0 : List Int) : Option (Int) := cmp_Or_int.l0 k 0 l0 (l0.length : Int) 0
set_option maxHeartbeats 8000000 in
set_option maxRecDepth 100000 in
theorem cmp_Or_int.calls (k : Nat) (A0 : Option Addr) (c0 : Nat) (l0 : List Int) (r : Int) (w : World) (hr0 : Kd.C (Kd.int .i64) w A0 l0.length l0) (hc0 : l0.length ≤ c0) (h : cmp_Or_int.f k l0 = some r) :
    Calls Tryd.prog 71 #[.slice A0 l0.length c0] w fun e w' => e = .returned (.int .i64 r) ∧ Drawn0 w w' := by
  have HR0 := Aside0.mk hr0
  have HC0 := Aside0.mk hc0
  clear hr0 hc0
  have H : (cmp_Or_int.l0 k 0 l0 (l0.length : Int) 0) = some r := h
  clear h
  have H' := Aside0.mk H
  clear H
  go_enter Tryd.func71, Tryd.ntmps71
  go_wp2
  go_loopg [8] k (fun kq v8 w' => ∃ (x8_1 : Int), v8 = .int .i64 x8_1 ∧ Aside0 (cmp_Or_int.l0 kq 0 l0 (l0.length : Int) x8_1 = some r) ∧ Aside0 (kq ≤ k) ∧ Drawn0 w w')
  case atStart => exact ⟨(0), (by first | rfl | (simp; done) | (simp [*]; done)), H', ⟨Nat.le_refl _⟩, by repeat (first | exact Drawn0.refl _ | apply Drawn0.step)⟩
  case round =>
    clear H'
    obtain ⟨x8_1, rfl, HA, HK1, ⟨m1, rfl⟩⟩ := hrel
    cases gk with
    | zero => exact absurd HA.out (by simp [cmp_Or_int.l0])
    | succ k1 =>
      have H := HA.out
      clear HA
      simp only [cmp_Or_int.l0] at H
      by_cases c2 : x8_1 < (l0.length : Int)
      · rw [if_pos c2] at H
        have c2b0 : decide (x8_1 < (l0.length : Int)) = true := decide_eq_true c2
        clear c2
        by_cases c3 : 0 ≤ x8_1
        · rw [if_pos c3] at H
          have c3b0 : decide (0 ≤ x8_1) = true := decide_eq_true c3
          clear c3
          by_cases c4 : x8_1 < (l0.length : Int)
          · rw [if_pos c4] at H
            have c4b0 : decide (x8_1 < (l0.length : Int)) = true := decide_eq_true c4
            clear c4
            by_cases c5 : (rd l0 x8_1) = 0
            · rw [if_pos c5] at H
              have c5b0 : ((rd l0 x8_1) == 0) = true := beq_iff_eq.mpr c5
              have c5b1 : ((rd l0 x8_1) != 0) = false := bne_eq_false_iff_eq.mpr c5
              (try (have c5b2 : ((rd l0 x8_1) : Int).toNat = 0 := by rw [c5]; rfl))
              clear c5
              have H' := Aside0.mk H
              clear H
              have p642 : 0 ≤ (x8_1 : Int) := of_decide_eq_true (by first | (with_reducible assumption) | assumption)
              have q642 : x8_1 < (l0.length : Int) := of_decide_eq_true (by first | (with_reducible assumption) | assumption)
              obtain ⟨ad642, e642, hx642_0⟩ := Kd.at_int HR0.out x8_1 p642 q642
              cases e642
              replace p642 := eq_true p642
              replace q642 := eq_true q642
              go_wp2
              go_roundg k1
              case measure => have := HK1.out; omega
              case rel => exact ⟨(wrap64 (x8_1 + 1)), (by first | rfl | (simp; done) | (simp [*]; done)), H', ⟨by have := HK1.out; omega⟩, by repeat (first | exact Drawn0.refl _ | apply Drawn0.step)⟩
            · rw [if_neg c5] at H
              have c5b0 : ((rd l0 x8_1) == 0) = false := beq_eq_false_iff_ne.mpr c5
              have c5b1 : ((rd l0 x8_1) != 0) = true := bne_iff_ne.mpr c5
              obtain rfl := Option.some.inj H
              have p642 : 0 ≤ (x8_1 : Int) := of_decide_eq_true (by first | (with_reducible assumption) | assumption)
              have q642 : x8_1 < (l0.length : Int) := of_decide_eq_true (by first | (with_reducible assumption) | assumption)
              obtain ⟨ad642, e642, hx642_0⟩ := Kd.at_int HR0.out x8_1 p642 q642
              cases e642
              replace p642 := eq_true p642
              replace q642 := eq_true q642
              go_wp2
              go_ret
              exact ⟨by first | rfl | (simp; done) | (simp [*]; done), by repeat (first | exact Drawn0.refl _ | apply Drawn0.step)⟩
          · rw [if_neg c4] at H
            exact absurd H (by simp)
        · rw [if_neg c3] at H
          exact absurd H (by simp)
      · rw [if_neg c2] at H
        have c2b0 : decide (x8_1 < (l0.length : Int)) = false := decide_eq_false c2
        clear c2
        obtain rfl := Option.some.inj H
        go_wp2
        go_ret
        exact ⟨by first | rfl | (simp; done) | (simp [*]; done), by repeat (first | exact Drawn0.refl _ | apply Drawn0.step)⟩

def cmp_isNaN_int.f (a0 : Int) : Option (Bool) := some (a0 != a0)
set_option maxHeartbeats 8000000 in
set_option maxRecDepth 100000 in
theorem cmp_isNaN_int.calls (a0 : Int) (r : Bool) (w : World) (h : cmp_isNaN_int.f a0 = some r) :
    Calls Tryd.prog 110 #[.int .i64 a0] w fun e w' => e = .returned (.bool r) ∧ Drawn0 w w' := by
  have H : (some (a0 != a0)) = some r := h
  clear h
  obtain rfl := Option.some.inj H
  go_enter Tryd.func110, Tryd.ntmps110
  go_wp2
  go_ret
  exact ⟨by first | rfl | (simp; done) | (simp [*]; done), by repeat (first | exact Drawn0.refl _ | apply Drawn0.step)⟩

def cmp_Compare_int.f (a0 : Int) (a1 : Int) : Option (Int) := (cmp_isNaN_int.f a0).bind fun t643 => ((cmp_isNaN_int.f a1).bind fun t644 => (if t643 = true then (if t644 = true then (some 0) else (some (-1))) else (if t644 = true then (some 1) else (if a0 < a1 then (some (-1)) else (if a0 > a1 then (some 1) else (some 0))))))
set_option maxHeartbeats 8000000 in
set_option maxRecDepth 100000 in
theorem cmp_Compare_int.calls (a0 : Int) (a1 : Int) (r : Int) (w : World) (h : cmp_Compare_int.f a0 a1 = some r) :
    Calls Tryd.prog 72 #[.int .i64 a0, .int .i64 a1] w fun e w' => e = .returned (.int .i64 r) ∧ Drawn0 w w' := by
  have H : ((cmp_isNaN_int.f a0).bind fun t643 => ((cmp_isNaN_int.f a1).bind fun t644 => (if t643 = true then (if t644 = true then (some 0) else (some (-1))) else (if t644 = true then (some 1) else (if a0 < a1 then (some (-1)) else (if a0 > a1 then (some 1) else (some 0))))))) = some r := h
  clear h
  replace H := Option.bind_eq_some_iff.mp H
  obtain ⟨t643, A30, H⟩ := H
  replace H : ((cmp_isNaN_int.f a1).bind fun t644 => (if t643 = true then (if t644 = true then (some 0) else (some (-1))) else (if t644 = true then (some 1) else (if a0 < a1 then (some (-1)) else (if a0 > a1 then (some 1) else (some 0)))))) = some r := H
  have A3 := Aside0.mk A30
  clear A30
  replace H := Option.bind_eq_some_iff.mp H
  obtain ⟨t644, A40, H⟩ := H
  replace H : (if t643 = true then (if t644 = true then (some 0) else (some (-1))) else (if t644 = true then (some 1) else (if a0 < a1 then (some (-1)) else (if a0 > a1 then (some 1) else (some 0))))) = some r := H
  have A4 := Aside0.mk A40
  clear A40
  by_cases c5 : t643 = true
  · subst c5
    have H1 : (if t644 = true then (some 0) else (some (-1))) = some r := by rw [if_pos rfl] at H; exact H
    clear H
    have H := H1
    clear H1
    by_cases c6 : t644 = true
    · subst c6
      have H1 : (some 0) = some r := by rw [if_pos rfl] at H; exact H
      clear H
      have H := H1
      clear H1
      obtain rfl := Option.some.inj H
      go_enter Tryd.func72, Tryd.ntmps72
      go_wp2_with (first | ((with_reducible refine gate_callee (f := 110) rfl ?_); refine goesL_ (some 8) rfl rfl Tryd.func110 (by kernel_rfl) rfl #[.int .i64 a0] rfl (by (try simp only [List.map_toArray, List.map_cons, List.map_nil]); first | done | rfl | (simp only [List.length_drop, List.length_take]; rfl)) ?_; (with_reducible refine (cmp_isNaN_int.calls a0 true _ A3.out).mono ?_); rintro e w' ⟨rfl, ⟨nd, rfl⟩⟩; refine ⟨_, rfl, ?_⟩; (try clear A3)) | ((with_reducible refine gate_callee (f := 110) rfl ?_); refine goesL_ (some 10) rfl rfl Tryd.func110 (by kernel_rfl) rfl #[.int .i64 a1] rfl (by (try simp only [List.map_toArray, List.map_cons, List.map_nil]); first | done | rfl | (simp only [List.length_drop, List.length_take]; rfl)) ?_; (with_reducible refine (cmp_isNaN_int.calls a1 true _ A4.out).mono ?_); rintro e w' ⟨rfl, ⟨nd, rfl⟩⟩; refine ⟨_, rfl, ?_⟩; (try clear A4)))
      go_ret
      exact ⟨by first | rfl | (simp; done) | (simp [*]; done), by repeat (first | exact Drawn0.refl _ | apply Drawn0.step)⟩
    · replace c6 := Bool.eq_false_iff.mpr c6
      subst c6
      have H1 : (some (-1)) = some r := by rw [if_neg (show ¬ (false = true) by decide)] at H; exact H
      clear H
      have H := H1
      clear H1
      obtain rfl := Option.some.inj H
      go_enter Tryd.func72, Tryd.ntmps72
      go_wp2_with (first | ((with_reducible refine gate_callee (f := 110) rfl ?_); refine goesL_ (some 8) rfl rfl Tryd.func110 (by kernel_rfl) rfl #[.int .i64 a0] rfl (by (try simp only [List.map_toArray, List.map_cons, List.map_nil]); first | done | rfl | (simp only [List.length_drop, List.length_take]; rfl)) ?_; (with_reducible refine (cmp_isNaN_int.calls a0 true _ A3.out).mono ?_); rintro e w' ⟨rfl, ⟨nd, rfl⟩⟩; refine ⟨_, rfl, ?_⟩; (try clear A3)) | ((with_reducible refine gate_callee (f := 110) rfl ?_); refine goesL_ (some 10) rfl rfl Tryd.func110 (by kernel_rfl) rfl #[.int .i64 a1] rfl (by (try simp only [List.map_toArray, List.map_cons, List.map_nil]); first | done | rfl | (simp only [List.length_drop, List.length_take]; rfl)) ?_; (with_reducible refine (cmp_isNaN_int.calls a1 false _ A4.out).mono ?_); rintro e w' ⟨rfl, ⟨nd, rfl⟩⟩; refine ⟨_, rfl, ?_⟩; (try clear A4)))
      go_ret
      exact ⟨by first | rfl | (simp; done) | (simp [*]; done), by repeat (first | exact Drawn0.refl _ | apply Drawn0.step)⟩
  · replace c5 := Bool.eq_false_iff.mpr c5
    subst c5
    have H1 : (if t644 = true then (some 1) else (if a0 < a1 then (some (-1)) else (if a0 > a1 then (some 1) else (some 0)))) = some r := by rw [if_neg (show ¬ (false = true) by decide)] at H; exact H
    clear H
    have H := H1
    clear H1
    by_cases c7 : t644 = true
    · subst c7
      have H1 : (some 1) = some r := by rw [if_pos rfl] at H; exact H
      clear H
      have H := H1
      clear H1
      obtain rfl := Option.some.inj H
      go_enter Tryd.func72, Tryd.ntmps72
      go_wp2_with (first | ((with_reducible refine gate_callee (f := 110) rfl ?_); refine goesL_ (some 8) rfl rfl Tryd.func110 (by kernel_rfl) rfl #[.int .i64 a0] rfl (by (try simp only [List.map_toArray, List.map_cons, List.map_nil]); first | done | rfl | (simp only [List.length_drop, List.length_take]; rfl)) ?_; (with_reducible refine (cmp_isNaN_int.calls a0 false _ A3.out).mono ?_); rintro e w' ⟨rfl, ⟨nd, rfl⟩⟩; refine ⟨_, rfl, ?_⟩; (try clear A3)) | ((with_reducible refine gate_callee (f := 110) rfl ?_); refine goesL_ (some 10) rfl rfl Tryd.func110 (by kernel_rfl) rfl #[.int .i64 a1] rfl (by (try simp only [List.map_toArray, List.map_cons, List.map_nil]); first | done | rfl | (simp only [List.length_drop, List.length_take]; rfl)) ?_; (with_reducible refine (cmp_isNaN_int.calls a1 true _ A4.out).mono ?_); rintro e w' ⟨rfl, ⟨nd, rfl⟩⟩; refine ⟨_, rfl, ?_⟩; (try clear A4)))
      go_ret
      exact ⟨by first | rfl | (simp; done) | (simp [*]; done), by repeat (first | exact Drawn0.refl _ | apply Drawn0.step)⟩
    · replace c7 := Bool.eq_false_iff.mpr c7
      subst c7
      have H1 : (if a0 < a1 then (some (-1)) else (if a0 > a1 then (some 1) else (some 0))) = some r := by rw [if_neg (show ¬ (false = true) by decide)] at H; exact H
      clear H
      have H := H1
      clear H1
      by_cases c8 : a0 < a1
      · rw [if_pos c8] at H
        have c8b0 : decide (a0 < a1) = true := decide_eq_true c8
        clear c8
        obtain rfl := Option.some.inj H
        go_enter Tryd.func72, Tryd.ntmps72
        go_wp2_with (first | ((with_reducible refine gate_callee (f := 110) rfl ?_); refine goesL_ (some 8) rfl rfl Tryd.func110 (by kernel_rfl) rfl #[.int .i64 a0] rfl (by (try simp only [List.map_toArray, List.map_cons, List.map_nil]); first | done | rfl | (simp only [List.length_drop, List.length_take]; rfl)) ?_; (with_reducible refine (cmp_isNaN_int.calls a0 false _ A3.out).mono ?_); rintro e w' ⟨rfl, ⟨nd, rfl⟩⟩; refine ⟨_, rfl, ?_⟩; (try clear A3)) | ((with_reducible refine gate_callee (f := 110) rfl ?_); refine goesL_ (some 10) rfl rfl Tryd.func110 (by kernel_rfl) rfl #[.int .i64 a1] rfl (by (try simp only [List.map_toArray, List.map_cons, List.map_nil]); first | done | rfl | (simp only [List.length_drop, List.length_take]; rfl)) ?_; (with_reducible refine (cmp_isNaN_int.calls a1 false _ A4.out).mono ?_); rintro e w' ⟨rfl, ⟨nd, rfl⟩⟩; refine ⟨_, rfl, ?_⟩; (try clear A4)))
        go_ret
        exact ⟨by first | rfl | (simp; done) | (simp [*]; done), by repeat (first | exact Drawn0.refl _ | apply Drawn0.step)⟩
      · rw [if_neg c8] at H
        have c8b0 : decide (a0 < a1) = false := decide_eq_false c8
        clear c8
        by_cases c9 : a0 > a1
        · rw [if_pos c9] at H
          have c9b0 : decide (a1 < a0) = true := decide_eq_true c9
          clear c9
          obtain rfl := Option.some.inj H
          go_enter Tryd.func72, Tryd.ntmps72
          go_wp2_with (first | ((with_reducible refine gate_callee (f := 110) rfl ?_); refine goesL_ (some 8) rfl rfl Tryd.func110 (by kernel_rfl) rfl #[.int .i64 a0] rfl (by (try simp only [List.map_toArray, List.map_cons, List.map_nil]); first | done | rfl | (simp only [List.length_drop, List.length_take]; rfl)) ?_; (with_reducible refine (cmp_isNaN_int.calls a0 false _ A3.out).mono ?_); rintro e w' ⟨rfl, ⟨nd, rfl⟩⟩; refine ⟨_, rfl, ?_⟩; (try clear A3)) | ((with_reducible refine gate_callee (f := 110) rfl ?_); refine goesL_ (some 10) rfl rfl Tryd.func110 (by kernel_rfl) rfl #[.int .i64 a1] rfl (by (try simp only [List.map_toArray, List.map_cons, List.map_nil]); first | done | rfl | (simp only [List.length_drop, List.length_take]; rfl)) ?_; (with_reducible refine (cmp_isNaN_int.calls a1 false _ A4.out).mono ?_); rintro e w' ⟨rfl, ⟨nd, rfl⟩⟩; refine ⟨_, rfl, ?_⟩; (try clear A4)))
          go_ret
          exact ⟨by first | rfl | (simp; done) | (simp [*]; done), by repeat (first | exact Drawn0.refl _ | apply Drawn0.step)⟩
        · rw [if_neg c9] at H
          have c9b0 : decide (a1 < a0) = false := decide_eq_false c9
          clear c9
          obtain rfl := Option.some.inj H
          go_enter Tryd.func72, Tryd.ntmps72
          go_wp2_with (first | ((with_reducible refine gate_callee (f := 110) rfl ?_); refine goesL_ (some 8) rfl rfl Tryd.func110 (by kernel_rfl) rfl #[.int .i64 a0] rfl (by (try simp only [List.map_toArray, List.map_cons, List.map_nil]); first | done | rfl | (simp only [List.length_drop, List.length_take]; rfl)) ?_; (with_reducible refine (cmp_isNaN_int.calls a0 false _ A3.out).mono ?_); rintro e w' ⟨rfl, ⟨nd, rfl⟩⟩; refine ⟨_, rfl, ?_⟩; (try clear A3)) | ((with_reducible refine gate_callee (f := 110) rfl ?_); refine goesL_ (some 10) rfl rfl Tryd.func110 (by kernel_rfl) rfl #[.int .i64 a1] rfl (by (try simp only [List.map_toArray, List.map_cons, List.map_nil]); first | done | rfl | (simp only [List.length_drop, List.length_take]; rfl)) ?_; (with_reducible refine (cmp_isNaN_int.calls a1 false _ A4.out).mono ?_); rintro e w' ⟨rfl, ⟨nd, rfl⟩⟩; refine ⟨_, rfl, ?_⟩; (try clear A4)))
          go_ret
          exact ⟨by first | rfl | (simp; done) | (simp [*]; done), by repeat (first | exact Drawn0.refl _ | apply Drawn0.step)⟩

def cmp_isNaN_string.f (a0 : ByteArray) : Option (Bool) := some (a0.toList != a0.toList)
set_option maxHeartbeats 8000000 in
set_option maxRecDepth 100000 in
theorem cmp_isNaN_string.calls (a0 : ByteArray) (r : Bool) (w : World) (h : cmp_isNaN_string.f a0 = some r) :
    Calls Tryd.prog 111 #[.string a0] w fun e w' => e = .returned (.bool r) ∧ Drawn0 w w' := by
  have H : (some (a0.toList != a0.toList)) = some r := h
  clear h
  obtain rfl := Option.some.inj H
  go_enter Tryd.func111, Tryd.ntmps111
  go_wp2
  go_ret
  exact ⟨by first | rfl | (simp; done) | (simp [*]; done), by repeat (first | exact Drawn0.refl _ | apply Drawn0.step)⟩

def cmp_Compare_string.f (a0 : ByteArray) (a1 : ByteArray) : Option (Int) := (cmp_isNaN_string.f a0).bind fun t645 => ((cmp_isNaN_string.f a1).bind fun t646 => (if t645 = true then (if t646 = true then (some 0) else (some (-1))) else (if t646 = true then (some 1) else (if (Op.bytesLess a0.toList a1.toList) = true then (some (-1)) else (if (Op.bytesLess a1.toList a0.toList) = true then (some 1) else (some 0))))))
set_option maxHeartbeats 8000000 in
set_option maxRecDepth 100000 in
theorem cmp_Compare_string.calls (a0 : ByteArray) (a1 : ByteArray) (r : Int) (w : World) (h : cmp_Compare_string.f a0 a1 = some r) :
    Calls Tryd.prog 73 #[.string a0, .string a1] w fun e w' => e = .returned (.int .i64 r) ∧ Drawn0 w w' := by
  have H : ((cmp_isNaN_string.f a0).bind fun t645 => ((cmp_isNaN_string.f a1).bind fun t646 => (if t645 = true then (if t646 = true then (some 0) else (some (-1))) else (if t646 = true then (some 1) else (if (Op.bytesLess a0.toList a1.toList) = true then (some (-1)) else (if (Op.bytesLess a1.toList a0.toList) = true then (some 1) else (some 0))))))) = some r := h
  clear h
  replace H := Option.bind_eq_some_iff.mp H
  obtain ⟨t645, A30, H⟩ := H
  replace H : ((cmp_isNaN_string.f a1).bind fun t646 => (if t645 = true then (if t646 = true then (some 0) else (some (-1))) else (if t646 = true then (some 1) else (if (Op.bytesLess a0.toList a1.toList) = true then (some (-1)) else (if (Op.bytesLess a1.toList a0.toList) = true then (some 1) else (some 0)))))) = some r := H
  have A3 := Aside0.mk A30
  clear A30
  replace H := Option.bind_eq_some_iff.mp H
  obtain ⟨t646, A40, H⟩ := H
  replace H : (if t645 = true then (if t646 = true then (some 0) else (some (-1))) else (if t646 = true then (some 1) else (if (Op.bytesLess a0.toList a1.toList) = true then (some (-1)) else (if (Op.bytesLess a1.toList a0.toList) = true then (some 1) else (some 0))))) = some r := H
  have A4 := Aside0.mk A40
  clear A40
  by_cases c5 : t645 = true
  · subst c5
    have H1 : (if t646 = true then (some 0) else (some (-1))) = some r := by rw [if_pos rfl] at H; exact H
    clear H
    have H := H1
    clear H1
    by_cases c6 : t646 = true
    · subst c6
      have H1 : (some 0) = some r := by rw [if_pos rfl] at H; exact H
      clear H
      have H := H1
      clear H1
      obtain rfl := Option.some.inj H
      go_enter Tryd.func73, Tryd.ntmps73
      go_wp2_with (first | ((with_reducible refine gate_callee (f := 111) rfl ?_); refine goesL_ (some 8) rfl rfl Tryd.func111 (by kernel_rfl) rfl #[.string a0] rfl (by (try simp only [List.map_toArray, List.map_cons, List.map_nil]); first | done | rfl | (simp only [List.length_drop, List.length_take]; rfl)) ?_; (with_reducible refine (cmp_isNaN_string.calls a0 true _ A3.out).mono ?_); rintro e w' ⟨rfl, ⟨nd, rfl⟩⟩; refine ⟨_, rfl, ?_⟩; (try clear A3)) | ((with_reducible refine gate_callee (f := 111) rfl ?_); refine goesL_ (some 10) rfl rfl Tryd.func111 (by kernel_rfl) rfl #[.string a1] rfl (by (try simp only [List.map_toArray, List.map_cons, List.map_nil]); first | done | rfl | (simp only [List.length_drop, List.length_take]; rfl)) ?_; (with_reducible refine (cmp_isNaN_string.calls a1 true _ A4.out).mono ?_); rintro e w' ⟨rfl, ⟨nd, rfl⟩⟩; refine ⟨_, rfl, ?_⟩; (try clear A4)))
      go_ret
      exact ⟨by first | rfl | (simp; done) | (simp [*]; done), by repeat (first | exact Drawn0.refl _ | apply Drawn0.step)⟩
    · replace c6 := Bool.eq_false_iff.mpr c6
      subst c6
      have H1 : (some (-1)) = some r := by rw [if_neg (show ¬ (false = true) by decide)] at H; exact H
      clear H
      have H := H1
      clear H1
      obtain rfl := Option.some.inj H
      go_enter Tryd.func73, Tryd.ntmps73
      go_wp2_with (first | ((with_reducible refine gate_callee (f := 111) rfl ?_); refine goesL_ (some 8) rfl rfl Tryd.func111 (by kernel_rfl) rfl #[.string a0] rfl (by (try simp only [List.map_toArray, List.map_cons, List.map_nil]); first | done | rfl | (simp only [List.length_drop, List.length_take]; rfl)) ?_; (with_reducible refine (cmp_isNaN_string.calls a0 true _ A3.out).mono ?_); rintro e w' ⟨rfl, ⟨nd, rfl⟩⟩; refine ⟨_, rfl, ?_⟩; (try clear A3)) | ((with_reducible refine gate_callee (f := 111) rfl ?_); refine goesL_ (some 10) rfl rfl Tryd.func111 (by kernel_rfl) rfl #[.string a1] rfl (by (try simp only [List.map_toArray, List.map_cons, List.map_nil]); first | done | rfl | (simp only [List.length_drop, List.length_take]; rfl)) ?_; (with_reducible refine (cmp_isNaN_string.calls a1 false _ A4.out).mono ?_); rintro e w' ⟨rfl, ⟨nd, rfl⟩⟩; refine ⟨_, rfl, ?_⟩; (try clear A4)))
      go_ret
      exact ⟨by first | rfl | (simp; done) | (simp [*]; done), by repeat (first | exact Drawn0.refl _ | apply Drawn0.step)⟩
  · replace c5 := Bool.eq_false_iff.mpr c5
    subst c5
    have H1 : (if t646 = true then (some 1) else (if (Op.bytesLess a0.toList a1.toList) = true then (some (-1)) else (if (Op.bytesLess a1.toList a0.toList) = true then (some 1) else (some 0)))) = some r := by rw [if_neg (show ¬ (false = true) by decide)] at H; exact H
    clear H
    have H := H1
    clear H1
    by_cases c7 : t646 = true
    · subst c7
      have H1 : (some 1) = some r := by rw [if_pos rfl] at H; exact H
      clear H
      have H := H1
      clear H1
      obtain rfl := Option.some.inj H
      go_enter Tryd.func73, Tryd.ntmps73
      go_wp2_with (first | ((with_reducible refine gate_callee (f := 111) rfl ?_); refine goesL_ (some 8) rfl rfl Tryd.func111 (by kernel_rfl) rfl #[.string a0] rfl (by (try simp only [List.map_toArray, List.map_cons, List.map_nil]); first | done | rfl | (simp only [List.length_drop, List.length_take]; rfl)) ?_; (with_reducible refine (cmp_isNaN_string.calls a0 false _ A3.out).mono ?_); rintro e w' ⟨rfl, ⟨nd, rfl⟩⟩; refine ⟨_, rfl, ?_⟩; (try clear A3)) | ((with_reducible refine gate_callee (f := 111) rfl ?_); refine goesL_ (some 10) rfl rfl Tryd.func111 (by kernel_rfl) rfl #[.string a1] rfl (by (try simp only [List.map_toArray, List.map_cons, List.map_nil]); first | done | rfl | (simp only [List.length_drop, List.length_take]; rfl)) ?_; (with_reducible refine (cmp_isNaN_string.calls a1 true _ A4.out).mono ?_); rintro e w' ⟨rfl, ⟨nd, rfl⟩⟩; refine ⟨_, rfl, ?_⟩; (try clear A4)))
      go_ret
      exact ⟨by first | rfl | (simp; done) | (simp [*]; done), by repeat (first | exact Drawn0.refl _ | apply Drawn0.step)⟩
    · replace c7 := Bool.eq_false_iff.mpr c7
      subst c7
      have H1 : (if (Op.bytesLess a0.toList a1.toList) = true then (some (-1)) else (if (Op.bytesLess a1.toList a0.toList) = true then (some 1) else (some 0))) = some r := by rw [if_neg (show ¬ (false = true) by decide)] at H; exact H
      clear H
      have H := H1
      clear H1
      by_cases c8 : (Op.bytesLess a0.toList a1.toList) = true
      · rw [if_pos c8] at H
        have c8b0 : (Op.bytesLess a0.toList a1.toList) = true := c8
        clear c8
        obtain rfl := Option.some.inj H
        go_enter Tryd.func73, Tryd.ntmps73
        go_wp2_with (first | ((with_reducible refine gate_callee (f := 111) rfl ?_); refine goesL_ (some 8) rfl rfl Tryd.func111 (by kernel_rfl) rfl #[.string a0] rfl (by (try simp only [List.map_toArray, List.map_cons, List.map_nil]); first | done | rfl | (simp only [List.length_drop, List.length_take]; rfl)) ?_; (with_reducible refine (cmp_isNaN_string.calls a0 false _ A3.out).mono ?_); rintro e w' ⟨rfl, ⟨nd, rfl⟩⟩; refine ⟨_, rfl, ?_⟩; (try clear A3)) | ((with_reducible refine gate_callee (f := 111) rfl ?_); refine goesL_ (some 10) rfl rfl Tryd.func111 (by kernel_rfl) rfl #[.string a1] rfl (by (try simp only [List.map_toArray, List.map_cons, List.map_nil]); first | done | rfl | (simp only [List.length_drop, List.length_take]; rfl)) ?_; (with_reducible refine (cmp_isNaN_string.calls a1 false _ A4.out).mono ?_); rintro e w' ⟨rfl, ⟨nd, rfl⟩⟩; refine ⟨_, rfl, ?_⟩; (try clear A4)))
        go_ret
        exact ⟨by first | rfl | (simp; done) | (simp [*]; done), by repeat (first | exact Drawn0.refl _ | apply Drawn0.step)⟩
      · rw [if_neg c8] at H
        have c8b0 : (Op.bytesLess a0.toList a1.toList) = false := by simpa using c8
        clear c8
        by_cases c9 : (Op.bytesLess a1.toList a0.toList) = true
        · rw [if_pos c9] at H
          have c9b0 : (Op.bytesLess a1.toList a0.toList) = true := c9
          clear c9
          obtain rfl := Option.some.inj H
          go_enter Tryd.func73, Tryd.ntmps73
          go_wp2_with (first | ((with_reducible refine gate_callee (f := 111) rfl ?_); refine goesL_ (some 8) rfl rfl Tryd.func111 (by kernel_rfl) rfl #[.string a0] rfl (by (try simp only [List.map_toArray, List.map_cons, List.map_nil]); first | done | rfl | (simp only [List.length_drop, List.length_take]; rfl)) ?_; (with_reducible refine (cmp_isNaN_string.calls a0 false _ A3.out).mono ?_); rintro e w' ⟨rfl, ⟨nd, rfl⟩⟩; refine ⟨_, rfl, ?_⟩; (try clear A3)) | ((with_reducible refine gate_callee (f := 111) rfl ?_); refine goesL_ (some 10) rfl rfl Tryd.func111 (by kernel_rfl) rfl #[.string a1] rfl (by (try simp only [List.map_toArray, List.map_cons, List.map_nil]); first | done | rfl | (simp only [List.length_drop, List.length_take]; rfl)) ?_; (with_reducible refine (cmp_isNaN_string.calls a1 false _ A4.out).mono ?_); rintro e w' ⟨rfl, ⟨nd, rfl⟩⟩; refine ⟨_, rfl, ?_⟩; (try clear A4)))
          go_ret
          exact ⟨by first | rfl | (simp; done) | (simp [*]; done), by repeat (first | exact Drawn0.refl _ | apply Drawn0.step)⟩
        · rw [if_neg c9] at H
          have c9b0 : (Op.bytesLess a1.toList a0.toList) = false := by simpa using c9
          clear c9
          obtain rfl := Option.some.inj H
          go_enter Tryd.func73, Tryd.ntmps73
          go_wp2_with (first | ((with_reducible refine gate_callee (f := 111) rfl ?_); refine goesL_ (some 8) rfl rfl Tryd.func111 (by kernel_rfl) rfl #[.string a0] rfl (by (try simp only [List.map_toArray, List.map_cons, List.map_nil]); first | done | rfl | (simp only [List.length_drop, List.length_take]; rfl)) ?_; (with_reducible refine (cmp_isNaN_string.calls a0 false _ A3.out).mono ?_); rintro e w' ⟨rfl, ⟨nd, rfl⟩⟩; refine ⟨_, rfl, ?_⟩; (try clear A3)) | ((with_reducible refine gate_callee (f := 111) rfl ?_); refine goesL_ (some 10) rfl rfl Tryd.func111 (by kernel_rfl) rfl #[.string a1] rfl (by (try simp only [List.map_toArray, List.map_cons, List.map_nil]); first | done | rfl | (simp only [List.length_drop, List.length_take]; rfl)) ?_; (with_reducible refine (cmp_isNaN_string.calls a1 false _ A4.out).mono ?_); rintro e w' ⟨rfl, ⟨nd, rfl⟩⟩; refine ⟨_, rfl, ?_⟩; (try clear A4)))
          go_ret
          exact ⟨by first | rfl | (simp; done) | (simp [*]; done), by repeat (first | exact Drawn0.refl _ | apply Drawn0.step)⟩

def alias_Compare.f (k : Nat) (a0_0 : Int) (a0_1 : ByteArray) (a0_2 : ByteArray) (a0_3 : ByteArray) (a0_4 : ByteArray) (a0_5 : ByteArray) (a1_0 : Int) (a1_1 : ByteArray) (a1_2 : ByteArray) (a1_3 : ByteArray) (a1_4 : ByteArray) (a1_5 : ByteArray) : Option (Int) := (cmp_Compare_int.f a0_0 a1_0).bind fun t649 => ((cmp_Compare_string.f a0_1 a1_1).bind fun t650 => ((cmp_Compare_string.f a0_2 a1_2).bind fun t651 => ((cmp_Or_int.f k (([t649, t650, t651] : List Int))).bind fun t655 => (some t655))))
def alias_Compare.T1 : Bool × List (List Nat × List Nat) := (true, [([], []), ([0], [0]), ([], []), ([2], [2]), ([1, 3], [1, 3]), ([], []), ([5], [5]), ([], []), ([7], [7]), ([6, 8, 4], [6, 8]), ([], []), ([10], [10]), ([], []), ([12], [12]), ([11, 13, 9], [11, 13]), ([4, 9, 14], [4, 9, 14]), ([15, 14], [15]), ([16, 16, 0, 1, 2, 3, 4, 5, 6, 7, 8, 9, 10, 11, 12, 13, 14, 15, 16], [16])])
def alias_Compare.B1 : List Nat := [0, 1, 0, 4, 15, 0, 32, 0, 128, 511, 0, 1024, 0, 4096, 16383, 32767, 65535, 131071]
theorem alias_Compare.tab1 : rtab .any (opsOf Tryd.f40 1) = alias_Compare.T1 := by kernel_rfl
theorem alias_Compare.bits1 : waitsOk alias_Compare.T1.2 alias_Compare.B1 = true := by kernel_rfl
set_option maxHeartbeats 8000000 in
set_option maxRecDepth 100000 in
theorem alias_Compare.calls (k : Nat) (a0_0 : Int) (a0_1 : ByteArray) (a0_2 : ByteArray) (a0_3 : ByteArray) (a0_4 : ByteArray) (a0_5 : ByteArray) (a1_0 : Int) (a1_1 : ByteArray) (a1_2 : ByteArray) (a1_3 : ByteArray) (a1_4 : ByteArray) (a1_5 : ByteArray) (r : Int) (w : World) (h : alias_Compare.f k a0_0 a0_1 a0_2 a0_3 a0_4 a0_5 a1_0 a1_1 a1_2 a1_3 a1_4 a1_5 = some r) :
  Calls Tryd.prog 40 #[.agg #[.int .i64 a0_0, .string a0_1, .string a0_2, .string a0_3, .string a0_4, .string a0_5], .agg #[.int .i64 a1_0, .string a1_1, .string a1_2, .string a1_3, .string a1_4, .string a1_5]] w fun e w' => e = .returned (.int .i64 r) ∧ Below w.heap.size w w' := by
 have hu50 := Tryd.underlying50
 have HB := ak (Below.refl w.heap.size w)
 have H : ((cmp_Compare_int.f a0_0 a1_0).bind fun t649 => ((cmp_Compare_string.f a0_1 a1_1).bind fun t650 => ((cmp_Compare_string.f a0_2 a1_2).bind fun t651 => ((cmp_Or_int.f k (([t649, t650, t651] : List Int))).bind fun t655 => (some t655))))) = some r := h
 clear h
 replace H := Option.bind_eq_some_iff.mp H
 obtain ⟨t649, A30, H⟩ := H
 have A3 := ak A30
 clear A30
 replace H := Option.bind_eq_some_iff.mp H
 obtain ⟨t650, A40, H⟩ := H
 have A4 := ak A40
 clear A40
 replace H := Option.bind_eq_some_iff.mp H
 obtain ⟨t651, A50, H⟩ := H
 have A5 := ak A50
 clear A50
 obtain ⟨y652, hy652⟩ : ∃ y_ : List Int, y_ = (([t649, t650, t651] : List Int)) := ⟨_, rfl⟩
 replace H : ((cmp_Or_int.f k y652).bind fun t655 => (some t655)) = some r := by first | (rw [hy652]; with_reducible exact H) | (have H2_ := (Option.bind_some _ _).symm.trans H; rw [hy652]; with_reducible exact H2_) | (have H2_ := (Option.bind_some _ _).symm.trans H; with_reducible exact H2_) | with_reducible exact H | (rw [hy652]; exact H) | exact H
 have Ny652 := ak hy652
 clear hy652
 replace H := Option.bind_eq_some_iff.mp H
 obtain ⟨t655, A60, H⟩ := H
 have A6 := ak A60
 clear A60
 obtain rfl := Option.some.inj H
 go_enter Tryd.func40, Tryd.ntmps40
 try go_wp2_with (first | ((with_reducible refine gate_dst (N := 2) rfl ?_); refine box_event ?hg (N := 2) ?hd (cs := #[.int .i64 a0_0, .string a0_1, .string a0_2, .string a0_3, .string a0_4, .string a0_5]) (t := 50) ?hr ?_; (case hd => rfl); (case hg => rfl); (case hr => first | (go_simp; done) | (go_simp; rfl)); intro gb647 hg w7 hbox hb; have n0_ := ak (below_step bq hb); have n1_ := ak (hbox); have n2_ := ak ((by rw [hg]; exact (below_size bq) : w.heap.size ≤ gb647)); have n3_ := ak ((by rw [hg]; exact (below_size bq) : w.heap.size ≤ gb647)); clear HB; have HB := n0_; have BK647 := n1_; have GW647 := n2_; have GE647 := n3_; clear n0_ n1_ n2_ n3_; clear hb hbox hg) | ((with_reducible refine gate_dst (N := 3) rfl ?_); refine box_event ?hg (N := 3) ?hd (cs := #[.int .i64 a1_0, .string a1_1, .string a1_2, .string a1_3, .string a1_4, .string a1_5]) (t := 50) ?hr ?_; (case hd => rfl); (case hg => rfl); (case hr => first | (go_simp; done) | (go_simp; rfl)); intro gb648 hg w8 hbox hb; have n0_ := ak (blk_below (g := gb647) (bx BK647.out) hb); have n1_ := ak (below_step bq hb); have n2_ := ak (hbox); have n3_ := ak ((by rw [hg]; exact (below_size bq) : w.heap.size ≤ gb648)); have n4_ := ak ((by rw [hg]; exact (below_size bq) : w.heap.size ≤ gb648)); have n5_ := ak ((by rw [hg]; exact Nat.ne_of_lt (blk_lt (g := gb647) (bx BK647.out)) : gb647 ≠ gb648)); have n6_ := ak ((by rw [hg]; exact Nat.ne_of_gt (blk_lt (g := gb647) (bx BK647.out)) : gb648 ≠ gb647)); clear BK647; clear HB; have BK647 := n0_; have HB := n1_; have BK648 := n2_; have GW648 := n3_; have GE648 := n4_; have NB647_648 := n5_; have NB648_647 := n6_; clear n0_ n1_ n2_ n3_ n4_ n5_ n6_; clear hb hbox hg))
 have n0_ := ak (blk_drew BK647.out)
 have n1_ := ak (blk_drew BK648.out)
 have n2_ := ak (below_drew1 HB.out)
 clear BK647
 clear BK648
 clear HB
 have BK647 := n0_
 have BK648 := n1_
 have HB := n2_
 clear n0_ n1_ n2_
 refine start_ (n := 18) (S := fun w' => w'.cell? ⟨gb647, 0, none⟩ = some (.int .i64 a0_0) ∧ w'.cell? ⟨gb647, 1, none⟩ = some (.string a0_1) ∧ w'.cell? ⟨gb647, 2, none⟩ = some (.string a0_2) ∧ w'.cell? ⟨gb647, 3, none⟩ = some (.string a0_3) ∧ w'.cell? ⟨gb647, 4, none⟩ = some (.string a0_4) ∧ w'.cell? ⟨gb647, 5, none⟩ = some (.string a0_5) ∧ w'.cell? ⟨gb648, 0, none⟩ = some (.int .i64 a1_0) ∧ w'.cell? ⟨gb648, 1, none⟩ = some (.string a1_1) ∧ w'.cell? ⟨gb648, 2, none⟩ = some (.string a1_2) ∧ w'.cell? ⟨gb648, 3, none⟩ = some (.string a1_3) ∧ w'.cell? ⟨gb648, 4, none⟩ = some (.string a1_4) ∧ w'.cell? ⟨gb648, 5, none⟩ = some (.string a1_5)) (ds := []) #[false, false, false, false, false, false, false, false, false, false, false, false, false, false, false, false, false, false] (by kernel_rfl) rfl rfl ⟨(blk_cell BK647.out 0).trans rfl, (blk_cell BK647.out 1).trans rfl, (blk_cell BK647.out 2).trans rfl, (blk_cell BK647.out 3).trans rfl, (blk_cell BK647.out 4).trans rfl, (blk_cell BK647.out 5).trans rfl, (blk_cell BK648.out 0).trans rfl, (blk_cell BK648.out 1).trans rfl, (blk_cell BK648.out 2).trans rfl, (blk_cell BK648.out 3).trans rfl, (blk_cell BK648.out 4).trans rfl, (blk_cell BK648.out 5).trans rfl⟩ (fun hHeld => ?_); refine with_tabW alias_Compare.tab1 alias_Compare.bits1 (fun HT_ HW_ => ?_)
 generalize w8.drew = w9 at BK647 BK648 HB hHeld ⊢
 refine pu 0 (some 5) (M 18 1) ?_
 refine pu 2 (some 7) (M 18 5) ?_
 refine pu 5 (some 10) (M 18 37) ?_
 refine pu 7 (some 12) (M 18 165) ?_
 refine pu 10 (some 15) (M 18 1189) ?_
 refine pu 12 (some 17) (M 18 5285) ?_
 refine take_ (i := 1) (N := some 6) (v := ?_) (a' := ?_) (M 18 5287) rfl rfl (take_ofW HT_.out HW_.out (by kernel_rfl)) (fun _ _ _ h => h) (Or.inl ⟨by rfl, ?_⟩) hHeld ?_ ?_
 rotate_left
 ·
  rintro w' ⟨s0, s1, s2, s3, s4, s5, s6, s7, s8, s9, s10, s11⟩
  go_simp
  with_reducible rfl
 rotate_left
 ·
  simp only [Act.put, pA, pB, pC, i64_w, i32_w]
  rfl
 refine take_ (i := 3) (N := some 8) (v := ?_) (a' := ?_) (M 18 5295) rfl rfl (take_ofW HT_.out HW_.out (by kernel_rfl)) (fun _ _ _ h => h) (Or.inl ⟨by rfl, ?_⟩) hHeld ?_ ?_
 rotate_left
 ·
  rintro w' ⟨s0, s1, s2, s3, s4, s5, s6, s7, s8, s9, s10, s11⟩
  go_simp
  with_reducible rfl
 rotate_left
 ·
  simp only [Act.put, pA, pB, pC, i64_w, i32_w]
  rfl
 refine take_ (i := 6) (N := some 11) (v := ?_) (a' := ?_) (M 18 5359) rfl rfl (take_ofW HT_.out HW_.out (by kernel_rfl)) (fun _ _ _ h => h) (Or.inl ⟨by rfl, ?_⟩) hHeld ?_ ?_
 rotate_left
 ·
  rintro w' ⟨s0, s1, s2, s3, s4, s5, s6, s7, s8, s9, s10, s11⟩
  go_simp
  with_reducible rfl
 rotate_left
 ·
  simp only [Act.put, pA, pB, pC, i64_w, i32_w]
  rfl
 refine take_ (i := 8) (N := some 13) (v := ?_) (a' := ?_) (M 18 5615) rfl rfl (take_ofW HT_.out HW_.out (by kernel_rfl)) (fun _ _ _ h => h) (Or.inl ⟨by rfl, ?_⟩) hHeld ?_ ?_
 rotate_left
 ·
  rintro w' ⟨s0, s1, s2, s3, s4, s5, s6, s7, s8, s9, s10, s11⟩
  go_simp
  with_reducible rfl
 rotate_left
 ·
  simp only [Act.put, pA, pB, pC, i64_w, i32_w]
  rfl
 refine take_ (i := 11) (N := some 16) (v := ?_) (a' := ?_) (M 18 7663) rfl rfl (take_ofW HT_.out HW_.out (by kernel_rfl)) (fun _ _ _ h => h) (Or.inl ⟨by rfl, ?_⟩) hHeld ?_ ?_
 rotate_left
 ·
  rintro w' ⟨s0, s1, s2, s3, s4, s5, s6, s7, s8, s9, s10, s11⟩
  go_simp
  with_reducible rfl
 rotate_left
 ·
  simp only [Act.put, pA, pB, pC, i64_w, i32_w]
  rfl
 refine take_ (i := 13) (N := some 18) (v := ?_) (a' := ?_) (M 18 15855) rfl rfl (take_ofW HT_.out HW_.out (by kernel_rfl)) (fun _ _ _ h => h) (Or.inl ⟨by rfl, ?_⟩) hHeld ?_ ?_
 rotate_left
 ·
  rintro w' ⟨s0, s1, s2, s3, s4, s5, s6, s7, s8, s9, s10, s11⟩
  go_simp
  with_reducible rfl
 rotate_left
 ·
  simp only [Act.put, pA, pB, pC, i64_w, i32_w]
  rfl
 refine one_ (i := 4) (N := some 9) (M 18 15871) rfl rfl (one_of HT_.out (by kernel_rfl)) (by decide) (fun K hK => ?_)
 refine goes_ Tryd.func72 (by kernel_rfl) rfl #[.int .i64 a0_0, .int .i64 a1_0] (by rfl) rfl rfl mq ?_
 with_reducible refine (cmp_Compare_int.calls a0_0 a1_0 t649 _ A3.out).mono ?_
 rintro e w' ⟨rfl, ⟨nd, rfl⟩⟩
 refine ⟨_, rfl, ?_⟩
 refine hK.out _ _ ⟨(blk_cell BK647.out 0).trans rfl, (blk_cell BK647.out 1).trans rfl, (blk_cell BK647.out 2).trans rfl, (blk_cell BK647.out 3).trans rfl, (blk_cell BK647.out 4).trans rfl, (blk_cell BK647.out 5).trans rfl, (blk_cell BK648.out 0).trans rfl, (blk_cell BK648.out 1).trans rfl, (blk_cell BK648.out 2).trans rfl, (blk_cell BK648.out 3).trans rfl, (blk_cell BK648.out 4).trans rfl, (blk_cell BK648.out 5).trans rfl⟩ (fun hHeld => ?_)
 clear hK K
 refine norm_ (a' := ?_) ?_ ?_
 rotate_left
 ·
  show Act.put _ (some 9) _ = _
  simp only [Act.put, pA, pB, pC, i64_w, i32_w]
  rfl
 refine one_ (i := 9) (N := some 14) (M 18 16383) rfl rfl (one_of HT_.out (by kernel_rfl)) (by decide) (fun K hK => ?_)
 refine goes_ Tryd.func73 (by kernel_rfl) rfl #[.string a0_1, .string a1_1] (by rfl) rfl rfl mq ?_
 with_reducible refine (cmp_Compare_string.calls a0_1 a1_1 t650 _ A4.out).mono ?_
 rintro e w' ⟨rfl, ⟨nd, rfl⟩⟩
 refine ⟨_, rfl, ?_⟩
 refine hK.out _ _ ⟨(blk_cell BK647.out 0).trans rfl, (blk_cell BK647.out 1).trans rfl, (blk_cell BK647.out 2).trans rfl, (blk_cell BK647.out 3).trans rfl, (blk_cell BK647.out 4).trans rfl, (blk_cell BK647.out 5).trans rfl, (blk_cell BK648.out 0).trans rfl, (blk_cell BK648.out 1).trans rfl, (blk_cell BK648.out 2).trans rfl, (blk_cell BK648.out 3).trans rfl, (blk_cell BK648.out 4).trans rfl, (blk_cell BK648.out 5).trans rfl⟩ (fun hHeld => ?_)
 clear hK K
 refine norm_ (a' := ?_) ?_ ?_
 rotate_left
 ·
  show Act.put _ (some 14) _ = _
  simp only [Act.put, pA, pB, pC, i64_w, i32_w]
  rfl
 refine one_ (i := 14) (N := some 19) (M 18 32767) rfl rfl (one_of HT_.out (by kernel_rfl)) (by decide) (fun K hK => ?_)
 refine goes_ Tryd.func73 (by kernel_rfl) rfl #[.string a0_2, .string a1_2] (by rfl) rfl rfl mq ?_
 with_reducible refine (cmp_Compare_string.calls a0_2 a1_2 t651 _ A5.out).mono ?_
 rintro e w' ⟨rfl, ⟨nd, rfl⟩⟩
 refine ⟨_, rfl, ?_⟩
 refine hK.out _ _ ⟨(blk_cell BK647.out 0).trans rfl, (blk_cell BK647.out 1).trans rfl, (blk_cell BK647.out 2).trans rfl, (blk_cell BK647.out 3).trans rfl, (blk_cell BK647.out 4).trans rfl, (blk_cell BK647.out 5).trans rfl, (blk_cell BK648.out 0).trans rfl, (blk_cell BK648.out 1).trans rfl, (blk_cell BK648.out 2).trans rfl, (blk_cell BK648.out 3).trans rfl, (blk_cell BK648.out 4).trans rfl, (blk_cell BK648.out 5).trans rfl⟩ (fun hHeld => ?_)
 clear hK K
 refine norm_ (a' := ?_) ?_ ?_
 rotate_left
 ·
  show Act.put _ (some 19) _ = _
  simp only [Act.put, pA, pB, pC, i64_w, i32_w]
  rfl
 refine one_ (i := 15) (N := some 20) (M 18 65535) rfl rfl (one_of HT_.out (by kernel_rfl)) (by decide) (fun K hK => ?_)
 refine Kd.R_lit_step (Kd.int .i64) _ 3 ?hg (N := 20) ?hd (xs := ([t649, t650, t651] : List Int)) (inner := [.int .i64 t649, .int .i64 t650, .int .i64 t651]) (ok := fun _ => True) (okp := fun _ => True) ?hr ?hp (fun _ hk => hk) trivial (Below.refl _ _) (Nat.le_refl _) (by simp) ?_; (case hd => rfl); (case hg => rfl); (case hr => first | (go_simp; done) | (go_simp; rfl)); (case hp => exact (Reps.one (show Kd.M (Kd.int .i64) _ _ _ t649 [.int .i64 t649] from rfl) (Reps.one (show Kd.M (Kd.int .i64) _ _ _ t650 [.int .i64 t650] from rfl) (Reps.one (show Kd.M (Kd.int .i64) _ _ _ t651 [.int .i64 t651] from rfl) (Reps.none _ _)))))
 intro v653 w10 ho11 hb hg_ hnew_
 clear hg_ hnew_
 (first | rw [← Ny652.out] at ho11 | (simp only [Int.reduceToNat] at ho11; rw [← Ny652.out] at ho11))
 have n0_ := ak (Kd.R_lower ho11 (below_size bq))
 have n1_ := ak (blk_below (g := gb647) (bx BK647.out) hb)
 have n2_ := ak (blk_below (g := gb648) (bx BK648.out) hb)
 have n3_ := ak (below_step bq hb)
 clear BK647
 clear BK648
 clear HB
 have HO654 := n0_
 have BK647 := n1_
 have BK648 := n2_
 have HB := n3_
 clear n0_ n1_ n2_ n3_
 clear hb ho11
 obtain ⟨Ao12, co12, eo12⟩ := Kd.R_slice HO654.out
 (first | subst eo12 | (injection eo12 with f1_ f2_ f3_; have f4_ := f1_.symm; have f5_ := f3_.symm; clear f1_ f2_ f3_; subst f4_; subst f5_))
 refine hK.out _ _ ⟨(blk_cell BK647.out 0).trans rfl, (blk_cell BK647.out 1).trans rfl, (blk_cell BK647.out 2).trans rfl, (blk_cell BK647.out 3).trans rfl, (blk_cell BK647.out 4).trans rfl, (blk_cell BK647.out 5).trans rfl, (blk_cell BK648.out 0).trans rfl, (blk_cell BK648.out 1).trans rfl, (blk_cell BK648.out 2).trans rfl, (blk_cell BK648.out 3).trans rfl, (blk_cell BK648.out 4).trans rfl, (blk_cell BK648.out 5).trans rfl⟩ (fun hHeld => ?_)
 clear hK K
 refine norm_ (a' := ?_) ?_ ?_
 rotate_left
 ·
  show Act.put _ (some 20) _ = _
  simp only [Act.put, pA, pB, pC, i64_w, i32_w]
  rfl
 refine one_ (i := 16) (N := some 21) (M 18 131071) rfl rfl (one_of HT_.out (by kernel_rfl)) (by decide) (fun K hK => ?_)
 refine goes_ Tryd.func71 (by kernel_rfl) rfl #[.slice Ao12 y652.length co12] (by rfl) rfl rfl mq ?_
 with_reducible refine (cmp_Or_int.calls k _ _ y652 t655 _ ?side1 ?side2 A6.out).mono ?_
 (case side1 => repeat (first | exact (Kd.R_reads' HO654.out).2.2 | (with_reducible refine Kd.C_alloc ?_ _) | (with_reducible refine Kd.C_drewN ?_ _) | (with_reducible refine Kd.C_drew ?_)))
 (case side2 => exact (Kd.R_reads' HO654.out).2.1)
 rintro e w' ⟨rfl, ⟨nd, rfl⟩⟩
 refine ⟨_, rfl, ?_⟩
 refine hK.out _ _ ⟨(blk_cell BK647.out 0).trans rfl, (blk_cell BK647.out 1).trans rfl, (blk_cell BK647.out 2).trans rfl, (blk_cell BK647.out 3).trans rfl, (blk_cell BK647.out 4).trans rfl, (blk_cell BK647.out 5).trans rfl, (blk_cell BK648.out 0).trans rfl, (blk_cell BK648.out 1).trans rfl, (blk_cell BK648.out 2).trans rfl, (blk_cell BK648.out 3).trans rfl, (blk_cell BK648.out 4).trans rfl, (blk_cell BK648.out 5).trans rfl⟩ (fun hHeld => ?_)
 clear hK K
 refine norm_ (a' := ?_) ?_ ?_
 rotate_left
 ·
  show Act.put _ (some 21) _ = _
  simp only [Act.put, pA, pB, pC, i64_w, i32_w]
  rfl
 refine pu 17 (some 4) (M 18 262143) ?_
 refine done_ (done_of HT_.out (by kernel_rfl)) ?_
 try go_wp2
 go_ret
 exact ⟨by first | rfl | (simp [errW_none, errW_some] <;> rfl) | (simp [*, errW_none, errW_some] <;> rfl), bq⟩

def isoglossref12_order.f (a0 : ByteArray) (a1 : ByteArray) : Option (Int) := if (Op.bytesLess a0.toList a1.toList) = true then (some (-1)) else (if (Op.bytesLess a1.toList a0.toList) = true then (some 1) else (some 0))
set_option maxHeartbeats 8000000 in
set_option maxRecDepth 100000 in
theorem isoglossref12_order.calls (a0 : ByteArray) (a1 : ByteArray) (r : Int) (w : World) (h : isoglossref12_order.f a0 a1 = some r) :
  Calls Tryd.prog 74 #[.string a0, .string a1] w fun e w' => e = .returned (.int .i64 r) ∧ Drawn0 w w' := by
 have H : (if (Op.bytesLess a0.toList a1.toList) = true then (some (-1)) else (if (Op.bytesLess a1.toList a0.toList) = true then (some 1) else (some 0))) = some r := h
 clear h
 by_cases c3 : (Op.bytesLess a0.toList a1.toList) = true
 ·
  rw [if_pos c3] at H
  have c3b0 : (Op.bytesLess a0.toList a1.toList) = true := c3
  clear c3
  obtain rfl := Option.some.inj H
  go_enter Tryd.func74, Tryd.ntmps74
  go_wp2
  go_ret
  exact ⟨by first | rfl | (simp; done) | (simp [*]; done), by repeat (first | exact Drawn0.refl _ | apply Drawn0.step)⟩
 ·
  rw [if_neg c3] at H
  have c3b0 : (Op.bytesLess a0.toList a1.toList) = false := by simpa using c3
  clear c3
  by_cases c4 : (Op.bytesLess a1.toList a0.toList) = true
  ·
   rw [if_pos c4] at H
   have c4b0 : (Op.bytesLess a1.toList a0.toList) = true := c4
   clear c4
   obtain rfl := Option.some.inj H
   go_enter Tryd.func74, Tryd.ntmps74
   go_wp2
   go_ret
   exact ⟨by first | rfl | (simp; done) | (simp [*]; done), by repeat (first | exact Drawn0.refl _ | apply Drawn0.step)⟩
  ·
   rw [if_neg c4] at H
   have c4b0 : (Op.bytesLess a1.toList a0.toList) = false := by simpa using c4
   clear c4
   obtain rfl := Option.some.inj H
   go_enter Tryd.func74, Tryd.ntmps74
   go_wp2
   go_ret
   exact ⟨by first | rfl | (simp; done) | (simp [*]; done), by repeat (first | exact Drawn0.refl _ | apply Drawn0.step)⟩

def isoglossref12_Compare.f (a0_0 : Int) (a0_1 : ByteArray) (a0_2 : ByteArray) (a0_3 : ByteArray) (a0_4 : ByteArray) (a0_5 : ByteArray) (a1_0 : Int) (a1_1 : ByteArray) (a1_2 : ByteArray) (a1_3 : ByteArray) (a1_4 : ByteArray) (a1_5 : ByteArray) : Option (Int) := if a0_0 < a1_0 then (some (-1)) else (if a0_0 > a1_0 then (some 1) else ((isoglossref12_order.f a0_1 a1_1).bind fun t658 => (if t658 = 0 then ((isoglossref12_order.f a0_2 a1_2).bind fun t659 => (some t659)) else (some t658))))
set_option maxHeartbeats 8000000 in
set_option maxRecDepth 100000 in
theorem isoglossref12_Compare.calls (a0_0 : Int) (a0_1 : ByteArray) (a0_2 : ByteArray) (a0_3 : ByteArray) (a0_4 : ByteArray) (a0_5 : ByteArray) (a1_0 : Int) (a1_1 : ByteArray) (a1_2 : ByteArray) (a1_3 : ByteArray) (a1_4 : ByteArray) (a1_5 : ByteArray) (r : Int) (w : World) (h : isoglossref12_Compare.f a0_0 a0_1 a0_2 a0_3 a0_4 a0_5 a1_0 a1_1 a1_2 a1_3 a1_4 a1_5 = some r) :
  Calls Tryd.prog 41 #[.agg #[.int .i64 a0_0, .string a0_1, .string a0_2, .string a0_3, .string a0_4, .string a0_5], .agg #[.int .i64 a1_0, .string a1_1, .string a1_2, .string a1_3, .string a1_4, .string a1_5]] w fun e w' => e = .returned (.int .i64 r) ∧ Below w.heap.size w w' := by
 have hu50 := Tryd.underlying50
 have HB := ak (Below.refl w.heap.size w)
 have H : (if a0_0 < a1_0 then (some (-1)) else (if a0_0 > a1_0 then (some 1) else ((isoglossref12_order.f a0_1 a1_1).bind fun t658 => (if t658 = 0 then ((isoglossref12_order.f a0_2 a1_2).bind fun t659 => (some t659)) else (some t658))))) = some r := h
 clear h
 by_cases c3 : a0_0 < a1_0
 ·
  rw [if_pos c3] at H
  have c3b0 : decide (a0_0 < a1_0) = true := decide_eq_true c3
  clear c3
  obtain rfl := Option.some.inj H
  go_enter Tryd.func41, Tryd.ntmps41
  go_wp2_with (first | ((with_reducible refine gate_dst (N := 2) rfl ?_); refine box_event ?hg (N := 2) ?hd (cs := #[.int .i64 a0_0, .string a0_1, .string a0_2, .string a0_3, .string a0_4, .string a0_5]) (t := 50) ?hr ?_; (case hd => rfl); (case hg => rfl); (case hr => first | (go_simp; done) | (go_simp; rfl)); intro gb656 hg w4 hbox hb; have n0_ := ak (below_step bq hb); have n1_ := ak (hbox); have n2_ := ak ((by rw [hg]; exact (below_size bq) : w.heap.size ≤ gb656)); have n3_ := ak ((by rw [hg]; exact (below_size bq) : w.heap.size ≤ gb656)); clear HB; have HB := n0_; have BK656 := n1_; have GW656 := n2_; have GE656 := n3_; clear n0_ n1_ n2_ n3_; clear hb hbox hg) | ((with_reducible refine gate_dst (N := 3) rfl ?_); refine box_event ?hg (N := 3) ?hd (cs := #[.int .i64 a1_0, .string a1_1, .string a1_2, .string a1_3, .string a1_4, .string a1_5]) (t := 50) ?hr ?_; (case hd => rfl); (case hg => rfl); (case hr => first | (go_simp; done) | (go_simp; rfl)); intro gb657 hg w5 hbox hb; have n0_ := ak (blk_below (g := gb656) (bx BK656.out) hb); have n1_ := ak (below_step bq hb); have n2_ := ak (hbox); have n3_ := ak ((by rw [hg]; exact (below_size bq) : w.heap.size ≤ gb657)); have n4_ := ak ((by rw [hg]; exact (below_size bq) : w.heap.size ≤ gb657)); have n5_ := ak ((by rw [hg]; exact Nat.ne_of_lt (blk_lt (g := gb656) (bx BK656.out)) : gb656 ≠ gb657)); have n6_ := ak ((by rw [hg]; exact Nat.ne_of_gt (blk_lt (g := gb656) (bx BK656.out)) : gb657 ≠ gb656)); clear BK656; clear HB; have BK656 := n0_; have HB := n1_; have BK657 := n2_; have GW657 := n3_; have GE657 := n4_; have NB656_657 := n5_; have NB657_656 := n6_; clear n0_ n1_ n2_ n3_ n4_ n5_ n6_; clear hb hbox hg; have hnb6 := NB656_657.out; have hnc6 := NB657_656.out; obtain ⟨hcz7_0, hcz7_1, hcz7_2, hcz7_3, hcz7_4, hcz7_5⟩ := cz6 BK656.out; obtain ⟨hfz7_0, hfz7_1, hfz7_2, hfz7_3, hfz7_4, hfz7_5⟩ := fz6 BK656.out; obtain ⟨hcz8_0, hcz8_1, hcz8_2, hcz8_3, hcz8_4, hcz8_5⟩ := cz6 BK657.out; obtain ⟨hfz8_0, hfz8_1, hfz8_2, hfz8_3, hfz8_4, hfz8_5⟩ := fz6 BK657.out))
  go_ret
  exact ⟨by first | rfl | (simp [errW_none, errW_some] <;> rfl) | (simp [*, errW_none, errW_some] <;> rfl), bq⟩
 ·
  rw [if_neg c3] at H
  have c3b0 : decide (a0_0 < a1_0) = false := decide_eq_false c3
  clear c3
  by_cases c9 : a0_0 > a1_0
  ·
   rw [if_pos c9] at H
   have c9b0 : decide (a1_0 < a0_0) = true := decide_eq_true c9
   clear c9
   obtain rfl := Option.some.inj H
   go_enter Tryd.func41, Tryd.ntmps41
   go_wp2_with (first | ((with_reducible refine gate_dst (N := 2) rfl ?_); refine box_event ?hg (N := 2) ?hd (cs := #[.int .i64 a0_0, .string a0_1, .string a0_2, .string a0_3, .string a0_4, .string a0_5]) (t := 50) ?hr ?_; (case hd => rfl); (case hg => rfl); (case hr => first | (go_simp; done) | (go_simp; rfl)); intro gb656 hg w10 hbox hb; have n0_ := ak (below_step bq hb); have n1_ := ak (hbox); have n2_ := ak ((by rw [hg]; exact (below_size bq) : w.heap.size ≤ gb656)); have n3_ := ak ((by rw [hg]; exact (below_size bq) : w.heap.size ≤ gb656)); clear HB; have HB := n0_; have BK656 := n1_; have GW656 := n2_; have GE656 := n3_; clear n0_ n1_ n2_ n3_; clear hb hbox hg) | ((with_reducible refine gate_dst (N := 3) rfl ?_); refine box_event ?hg (N := 3) ?hd (cs := #[.int .i64 a1_0, .string a1_1, .string a1_2, .string a1_3, .string a1_4, .string a1_5]) (t := 50) ?hr ?_; (case hd => rfl); (case hg => rfl); (case hr => first | (go_simp; done) | (go_simp; rfl)); intro gb657 hg w11 hbox hb; have n0_ := ak (blk_below (g := gb656) (bx BK656.out) hb); have n1_ := ak (below_step bq hb); have n2_ := ak (hbox); have n3_ := ak ((by rw [hg]; exact (below_size bq) : w.heap.size ≤ gb657)); have n4_ := ak ((by rw [hg]; exact (below_size bq) : w.heap.size ≤ gb657)); have n5_ := ak ((by rw [hg]; exact Nat.ne_of_lt (blk_lt (g := gb656) (bx BK656.out)) : gb656 ≠ gb657)); have n6_ := ak ((by rw [hg]; exact Nat.ne_of_gt (blk_lt (g := gb656) (bx BK656.out)) : gb657 ≠ gb656)); clear BK656; clear HB; have BK656 := n0_; have HB := n1_; have BK657 := n2_; have GW657 := n3_; have GE657 := n4_; have NB656_657 := n5_; have NB657_656 := n6_; clear n0_ n1_ n2_ n3_ n4_ n5_ n6_; clear hb hbox hg; have hnb12 := NB656_657.out; have hnc12 := NB657_656.out; obtain ⟨hcz13_0, hcz13_1, hcz13_2, hcz13_3, hcz13_4, hcz13_5⟩ := cz6 BK656.out; obtain ⟨hfz13_0, hfz13_1, hfz13_2, hfz13_3, hfz13_4, hfz13_5⟩ := fz6 BK656.out; obtain ⟨hcz14_0, hcz14_1, hcz14_2, hcz14_3, hcz14_4, hcz14_5⟩ := cz6 BK657.out; obtain ⟨hfz14_0, hfz14_1, hfz14_2, hfz14_3, hfz14_4, hfz14_5⟩ := fz6 BK657.out))
   go_ret
   exact ⟨by first | rfl | (simp [errW_none, errW_some] <;> rfl) | (simp [*, errW_none, errW_some] <;> rfl), bq⟩
  ·
   rw [if_neg c9] at H
   have c9b0 : decide (a1_0 < a0_0) = false := decide_eq_false c9
   clear c9
   replace H := Option.bind_eq_some_iff.mp H
   obtain ⟨t658, A150, H⟩ := H
   have A15 := ak A150
   clear A150
   by_cases c16 : t658 = 0
   ·
    rw [if_pos c16] at H
    have c16b0 : (t658 == 0) = true := beq_iff_eq.mpr c16
    have c16b1 : (t658 != 0) = false := bne_eq_false_iff_eq.mpr c16
    (try (have c16b2 : (t658 : Int).toNat = 0 := by rw [c16]; rfl))
    try have c16b3 : (0 ≤ t658) = True := eq_true (by omega)
    try have c16b4_2 : (t658 < 2) = True := eq_true (by omega)
    try have c16b4_3 : (t658 < 3) = True := eq_true (by omega)
    try have c16b4_5 : (t658 < 5) = True := eq_true (by omega)
    clear c16
    replace H := Option.bind_eq_some_iff.mp H
    obtain ⟨t659, A170, H⟩ := H
    have A17 := ak A170
    clear A170
    obtain rfl := Option.some.inj H
    go_enter Tryd.func41, Tryd.ntmps41
    go_wp2_with (first | ((with_reducible refine gate_dst (N := 2) rfl ?_); refine box_event ?hg (N := 2) ?hd (cs := #[.int .i64 a0_0, .string a0_1, .string a0_2, .string a0_3, .string a0_4, .string a0_5]) (t := 50) ?hr ?_; (case hd => rfl); (case hg => rfl); (case hr => first | (go_simp; done) | (go_simp; rfl)); intro gb656 hg w18 hbox hb; have n0_ := ak (below_step bq hb); have n1_ := ak (hbox); have n2_ := ak ((by rw [hg]; exact (below_size bq) : w.heap.size ≤ gb656)); have n3_ := ak ((by rw [hg]; exact (below_size bq) : w.heap.size ≤ gb656)); clear HB; have HB := n0_; have BK656 := n1_; have GW656 := n2_; have GE656 := n3_; clear n0_ n1_ n2_ n3_; clear hb hbox hg) | ((with_reducible refine gate_dst (N := 3) rfl ?_); refine box_event ?hg (N := 3) ?hd (cs := #[.int .i64 a1_0, .string a1_1, .string a1_2, .string a1_3, .string a1_4, .string a1_5]) (t := 50) ?hr ?_; (case hd => rfl); (case hg => rfl); (case hr => first | (go_simp; done) | (go_simp; rfl)); intro gb657 hg w19 hbox hb; have n0_ := ak (blk_below (g := gb656) (bx BK656.out) hb); have n1_ := ak (below_step bq hb); have n2_ := ak (hbox); have n3_ := ak ((by rw [hg]; exact (below_size bq) : w.heap.size ≤ gb657)); have n4_ := ak ((by rw [hg]; exact (below_size bq) : w.heap.size ≤ gb657)); have n5_ := ak ((by rw [hg]; exact Nat.ne_of_lt (blk_lt (g := gb656) (bx BK656.out)) : gb656 ≠ gb657)); have n6_ := ak ((by rw [hg]; exact Nat.ne_of_gt (blk_lt (g := gb656) (bx BK656.out)) : gb657 ≠ gb656)); clear BK656; clear HB; have BK656 := n0_; have HB := n1_; have BK657 := n2_; have GW657 := n3_; have GE657 := n4_; have NB656_657 := n5_; have NB657_656 := n6_; clear n0_ n1_ n2_ n3_ n4_ n5_ n6_; clear hb hbox hg; have hnb20 := NB656_657.out; have hnc20 := NB657_656.out; obtain ⟨hcz21_0, hcz21_1, hcz21_2, hcz21_3, hcz21_4, hcz21_5⟩ := cz6 BK656.out; obtain ⟨hfz21_0, hfz21_1, hfz21_2, hfz21_3, hfz21_4, hfz21_5⟩ := fz6 BK656.out; obtain ⟨hcz22_0, hcz22_1, hcz22_2, hcz22_3, hcz22_4, hcz22_5⟩ := cz6 BK657.out; obtain ⟨hfz22_0, hfz22_1, hfz22_2, hfz22_3, hfz22_4, hfz22_5⟩ := fz6 BK657.out) | ((with_reducible refine gate_callee (f := 74) rfl ?_); refine goesL_ (some 20) rfl rfl Tryd.func74 (by kernel_rfl) rfl #[.string a0_1, .string a1_1] rfl mq ?_; (with_reducible refine (isoglossref12_order.calls a0_1 a1_1 t658 _ A15.out).mono ?_); rintro e w' ⟨rfl, ⟨nd, rfl⟩⟩; refine ⟨_, rfl, ?_⟩; (try clear A15)) | ((with_reducible refine gate_callee (f := 74) rfl ?_); refine goesL_ (some 28) rfl rfl Tryd.func74 (by kernel_rfl) rfl #[.string a0_2, .string a1_2] rfl mq ?_; (with_reducible refine (isoglossref12_order.calls a0_2 a1_2 t659 _ A17.out).mono ?_); rintro e w' ⟨rfl, ⟨nd, rfl⟩⟩; refine ⟨_, rfl, ?_⟩; (try clear A17)))
    go_ret
    exact ⟨by first | rfl | (simp [errW_none, errW_some] <;> rfl) | (simp [*, errW_none, errW_some] <;> rfl), bq⟩
   ·
    rw [if_neg c16] at H
    have c16b0 : (t658 == 0) = false := beq_eq_false_iff_ne.mpr c16
    have c16b1 : (t658 != 0) = true := bne_iff_ne.mpr c16
    obtain rfl := Option.some.inj H
    go_enter Tryd.func41, Tryd.ntmps41
    go_wp2_with (first | ((with_reducible refine gate_dst (N := 2) rfl ?_); refine box_event ?hg (N := 2) ?hd (cs := #[.int .i64 a0_0, .string a0_1, .string a0_2, .string a0_3, .string a0_4, .string a0_5]) (t := 50) ?hr ?_; (case hd => rfl); (case hg => rfl); (case hr => first | (go_simp; done) | (go_simp; rfl)); intro gb656 hg w23 hbox hb; have n0_ := ak (below_step bq hb); have n1_ := ak (hbox); have n2_ := ak ((by rw [hg]; exact (below_size bq) : w.heap.size ≤ gb656)); have n3_ := ak ((by rw [hg]; exact (below_size bq) : w.heap.size ≤ gb656)); clear HB; have HB := n0_; have BK656 := n1_; have GW656 := n2_; have GE656 := n3_; clear n0_ n1_ n2_ n3_; clear hb hbox hg) | ((with_reducible refine gate_dst (N := 3) rfl ?_); refine box_event ?hg (N := 3) ?hd (cs := #[.int .i64 a1_0, .string a1_1, .string a1_2, .string a1_3, .string a1_4, .string a1_5]) (t := 50) ?hr ?_; (case hd => rfl); (case hg => rfl); (case hr => first | (go_simp; done) | (go_simp; rfl)); intro gb657 hg w24 hbox hb; have n0_ := ak (blk_below (g := gb656) (bx BK656.out) hb); have n1_ := ak (below_step bq hb); have n2_ := ak (hbox); have n3_ := ak ((by rw [hg]; exact (below_size bq) : w.heap.size ≤ gb657)); have n4_ := ak ((by rw [hg]; exact (below_size bq) : w.heap.size ≤ gb657)); have n5_ := ak ((by rw [hg]; exact Nat.ne_of_lt (blk_lt (g := gb656) (bx BK656.out)) : gb656 ≠ gb657)); have n6_ := ak ((by rw [hg]; exact Nat.ne_of_gt (blk_lt (g := gb656) (bx BK656.out)) : gb657 ≠ gb656)); clear BK656; clear HB; have BK656 := n0_; have HB := n1_; have BK657 := n2_; have GW657 := n3_; have GE657 := n4_; have NB656_657 := n5_; have NB657_656 := n6_; clear n0_ n1_ n2_ n3_ n4_ n5_ n6_; clear hb hbox hg; have hnb25 := NB656_657.out; have hnc25 := NB657_656.out; obtain ⟨hcz26_0, hcz26_1, hcz26_2, hcz26_3, hcz26_4, hcz26_5⟩ := cz6 BK656.out; obtain ⟨hfz26_0, hfz26_1, hfz26_2, hfz26_3, hfz26_4, hfz26_5⟩ := fz6 BK656.out; obtain ⟨hcz27_0, hcz27_1, hcz27_2, hcz27_3, hcz27_4, hcz27_5⟩ := cz6 BK657.out; obtain ⟨hfz27_0, hfz27_1, hfz27_2, hfz27_3, hfz27_4, hfz27_5⟩ := fz6 BK657.out) | ((with_reducible refine gate_callee (f := 74) rfl ?_); refine goesL_ (some 20) rfl rfl Tryd.func74 (by kernel_rfl) rfl #[.string a0_1, .string a1_1] rfl mq ?_; (with_reducible refine (isoglossref12_order.calls a0_1 a1_1 t658 _ A15.out).mono ?_); rintro e w' ⟨rfl, ⟨nd, rfl⟩⟩; refine ⟨_, rfl, ?_⟩; (try clear A15)))
    go_ret
    exact ⟨by first | rfl | (simp [errW_none, errW_some] <;> rfl) | (simp [*, errW_none, errW_some] <;> rfl), bq⟩

end Go.Proofs.YtmbfnbnlajchmaaDoor.P
