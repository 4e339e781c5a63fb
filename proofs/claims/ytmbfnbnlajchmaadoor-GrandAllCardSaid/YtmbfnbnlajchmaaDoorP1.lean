/- Made by a program of this seat's own (myprint.py, round the kit's print): what the functions compute, and that they do. -/
import Derived.Test.YtmbfnbnlajchmaaDoorP0
namespace Go.Proofs.YtmbfnbnlajchmaaDoor.P
open Go.RowKit Go.Proofs.YtmbfnbnlajchmaaDoorW.PrintWords Go.Proofs.YtmbfnbnlajchmaaDoorW.PrintLast Go.Proofs.YtmbfnbnlajchmaaDoorW.PrintMore
attribute [local go_sem] StrOrd.binOp_gtr StrOrd.binOp_leq max2_int min2_int max_two min_two max_three min_three max_four min_four   -- for this text's walks alone
set_option linter.unusedVariables false
set_option linter.unusedSimpArgs false

-- NOT PRINTED: function 20 (grand_All)

/-! ### grand_Len: function 23 -/
def grand_Len.f : Option (Int) := some 26
theorem grand_Len.calls (r : Int) (w : World) (h : grand_Len.f = some r) (hG : GrandW.G w) :
    Calls Tryd.prog 23 #[] w fun e w' => e = .returned (.int .i64 r) ∧ Below w.heap.size w w' := by
  obtain rfl := Option.some.inj h
  exact GrandIter.len_any w hG

-- NOT PRINTED: function 48 (sort_Search)

/-! ### ascii_order_byte: function 79 -/
def ascii_order_byte.f (a0 : Int) (a1 : Int) : Option (Int) := if a0 < a1 then (some (-1)) else (if a0 > a1 then (some 1) else (some 0))
set_option maxHeartbeats 8000000 in
set_option maxRecDepth 100000 in
theorem ascii_order_byte.calls (a0 : Int) (a1 : Int) (r : Int) (w : World) (h : ascii_order_byte.f a0 a1 = some r) :
    Calls Tryd.prog 79 #[.int .u8 a0, .int .u8 a1] w fun e w' => e = .returned (.int .i64 r) ∧ Drawn0 w w' := by
  have H : (if a0 < a1 then (some (-1)) else (if a0 > a1 then (some 1) else (some 0))) = some r := h
  clear h
  by_cases c3 : a0 < a1
  · rw [if_pos c3] at H
    have c3b0 : decide (a0 < a1) = true := decide_eq_true c3
    clear c3
    obtain rfl := Option.some.inj H
    go_enter Tryd.func79, Tryd.ntmps79
    go_wp2
    go_ret
    exact ⟨by first | rfl | (simp; done) | (simp [*]; done), by repeat (first | exact Drawn0.refl _ | apply Drawn0.step)⟩
  · rw [if_neg c3] at H
    have c3b0 : decide (a0 < a1) = false := decide_eq_false c3
    clear c3
    by_cases c4 : a0 > a1
    · rw [if_pos c4] at H
      have c4b0 : decide (a1 < a0) = true := decide_eq_true c4
      clear c4
      obtain rfl := Option.some.inj H
      go_enter Tryd.func79, Tryd.ntmps79
      go_wp2
      go_ret
      exact ⟨by first | rfl | (simp; done) | (simp [*]; done), by repeat (first | exact Drawn0.refl _ | apply Drawn0.step)⟩
    · rw [if_neg c4] at H
      have c4b0 : decide (a1 < a0) = false := decide_eq_false c4
      clear c4
      obtain rfl := Option.some.inj H
      go_enter Tryd.func79, Tryd.ntmps79
      go_wp2
      go_ret
      exact ⟨by first | rfl | (simp; done) | (simp [*]; done), by repeat (first | exact Drawn0.refl _ | apply Drawn0.step)⟩

/-! ### ascii_lower: function 80 -/
def ascii_lower.f (a0 : Int) : Option (Int) := if a0 ≥ 65 then (if a0 ≤ 90 then (some ((a0 + 32) % 256)) else (some a0)) else (some a0)
set_option maxHeartbeats 8000000 in
set_option maxRecDepth 100000 in
theorem ascii_lower.calls (a0 : Int) (r : Int) (w : World) (h : ascii_lower.f a0 = some r) :
    Calls Tryd.prog 80 #[.int .u8 a0] w fun e w' => e = .returned (.int .u8 r) ∧ Drawn0 w w' := by
  have H : (if a0 ≥ 65 then (if a0 ≤ 90 then (some ((a0 + 32) % 256)) else (some a0)) else (some a0)) = some r := h
  clear h
  by_cases c2 : a0 ≥ 65
  · rw [if_pos c2] at H
    have c2b0 : decide (65 ≤ a0) = true := decide_eq_true c2
    clear c2
    by_cases c3 : a0 ≤ 90
    · rw [if_pos c3] at H
      have c3b0 : decide (a0 ≤ 90) = true := decide_eq_true c3
      clear c3
      obtain rfl := Option.some.inj H
      go_enter Tryd.func80, Tryd.ntmps80
      go_wp2
      go_ret
      exact ⟨by first | rfl | (simp; done) | (simp [*]; done), by repeat (first | exact Drawn0.refl _ | apply Drawn0.step)⟩
    · rw [if_neg c3] at H
      have c3b0 : decide (a0 ≤ 90) = false := decide_eq_false c3
      clear c3
      obtain rfl := Option.some.inj H
      go_enter Tryd.func80, Tryd.ntmps80
      go_wp2
      go_ret
      exact ⟨by first | rfl | (simp; done) | (simp [*]; done), by repeat (first | exact Drawn0.refl _ | apply Drawn0.step)⟩
  · rw [if_neg c2] at H
    have c2b0 : decide (65 ≤ a0) = false := decide_eq_false c2
    clear c2
    obtain rfl := Option.some.inj H
    go_enter Tryd.func80, Tryd.ntmps80
    go_wp2
    go_ret
    exact ⟨by first | rfl | (simp; done) | (simp [*]; done), by repeat (first | exact Drawn0.refl _ | apply Drawn0.step)⟩

/-! ### ascii_order_int: function 81 -/
def ascii_order_int.f (a0 : Int) (a1 : Int) : Option (Int) := if a0 < a1 then (some (-1)) else (if a0 > a1 then (some 1) else (some 0))
set_option maxHeartbeats 8000000 in
set_option maxRecDepth 100000 in
theorem ascii_order_int.calls (a0 : Int) (a1 : Int) (r : Int) (w : World) (h : ascii_order_int.f a0 a1 = some r) :
    Calls Tryd.prog 81 #[.int .i64 a0, .int .i64 a1] w fun e w' => e = .returned (.int .i64 r) ∧ Drawn0 w w' := by
  have H : (if a0 < a1 then (some (-1)) else (if a0 > a1 then (some 1) else (some 0))) = some r := h
  clear h
  by_cases c3 : a0 < a1
  · rw [if_pos c3] at H
    have c3b0 : decide (a0 < a1) = true := decide_eq_true c3
    clear c3
    obtain rfl := Option.some.inj H
    go_enter Tryd.func81, Tryd.ntmps81
    go_wp2
    go_ret
    exact ⟨by first | rfl | (simp; done) | (simp [*]; done), by repeat (first | exact Drawn0.refl _ | apply Drawn0.step)⟩
  · rw [if_neg c3] at H
    have c3b0 : decide (a0 < a1) = false := decide_eq_false c3
    clear c3
    by_cases c4 : a0 > a1
    · rw [if_pos c4] at H
      have c4b0 : decide (a1 < a0) = true := decide_eq_true c4
      clear c4
      obtain rfl := Option.some.inj H
      go_enter Tryd.func81, Tryd.ntmps81
      go_wp2
      go_ret
      exact ⟨by first | rfl | (simp; done) | (simp [*]; done), by repeat (first | exact Drawn0.refl _ | apply Drawn0.step)⟩
    · rw [if_neg c4] at H
      have c4b0 : decide (a1 < a0) = false := decide_eq_false c4
      clear c4
      obtain rfl := Option.some.inj H
      go_enter Tryd.func81, Tryd.ntmps81
      go_wp2
      go_ret
      exact ⟨by first | rfl | (simp; done) | (simp [*]; done), by repeat (first | exact Drawn0.refl _ | apply Drawn0.step)⟩

/-! ### ascii_Compare: function 50 -/
def ascii_Compare.l0 : Nat → ByteArray → ByteArray → Int → Int → Option (Int)
  | 0, _, _, _, _ => none
  | k + 1, x0, x1, x11, x12 => if x12 < x11 then (if 0 ≤ x12 then (if x12 < (x0.size : Int) then ((ascii_lower.f (bt x0 x12)).bind fun t102 => (if x12 < (x1.size : Int) then ((ascii_lower.f (bt x1 x12)).bind fun t103 => ((ascii_order_byte.f t102 t103).bind fun t104 => (if t104 = 0 then (ascii_Compare.l0 k x0 x1 x11 (wrap64 (x12 + 1))) else (some t104)))) else (none))) else (none)) else (none)) else ((ascii_order_int.f (x0.size : Int) (x1.size : Int)).bind fun t101 => (some t101))
def ascii_Compare.f (k : Nat) (a0 : ByteArray) (a1 : ByteArray) : Option (Int) := ascii_Compare.l0 k a0 a1 (mn (a0.size : Int) (a1.size : Int)) 0
theorem ascii_Compare.mono_l : ∀ k, (∀ y0 y1 y2 y3, LeO (ascii_Compare.l0 k y0 y1 y2 y3) (ascii_Compare.l0 (k + 1) y0 y1 y2 y3))
  | 0 => fun _ _ _ _ r h => by simp [ascii_Compare.l0] at h
  | k + 1 => by
    have ih0 := ascii_Compare.mono_l k
    · intro y0 y1 y2 y3
      unfold ascii_Compare.l0
      repeat' first
      | (with_reducible exact ih0 _ _ _ _)
      | (with_reducible exact LeO.refl _)
      | (with_reducible exact LeO.none _)
      | (with_reducible refine LeO.ite ?_ ?_)
      | (with_reducible refine LeO.bind ?_ (fun _ => ?_))
      | exact ih0 _ _ _ _
      | exact LeO.none _
      | refine LeO.ite ?_ ?_
      | refine LeO.bind ?_ (fun _ => ?_)
theorem ascii_Compare.mono : ∀ a0 a1 k, LeO (ascii_Compare.f k a0 a1) (ascii_Compare.f (k + 1) a0 a1) := by
  intro a0 a1 k
  have ih0 := ascii_Compare.mono_l k
  unfold ascii_Compare.f
  repeat' first
      | (with_reducible exact ih0 _ _ _ _)
      | (with_reducible exact LeO.refl _)
      | (with_reducible exact LeO.none _)
      | (with_reducible refine LeO.ite ?_ ?_)
      | (with_reducible refine LeO.bind ?_ (fun _ => ?_))
      | exact ih0 _ _ _ _
      | exact LeO.none _
      | refine LeO.ite ?_ ?_
      | refine LeO.bind ?_ (fun _ => ?_)
set_option maxHeartbeats 8000000 in
set_option maxRecDepth 100000 in
theorem ascii_Compare.calls (k : Nat) (a0 : ByteArray) (a1 : ByteArray) (r : Int) (w : World) (h : ascii_Compare.f k a0 a1 = some r) :
    Calls Tryd.prog 50 #[.string a0, .string a1] w fun e w' => e = .returned (.int .i64 r) ∧ Drawn0 w w' := by
  have H : (ascii_Compare.l0 k a0 a1 (mn (a0.size : Int) (a1.size : Int)) 0) = some r := h
  clear h
  obtain ⟨ji3, hji3⟩ : ∃ j_ : Int, (mn (a0.size : Int) (a1.size : Int)) = j_ := ⟨_, rfl⟩
  replace H : (ascii_Compare.l0 k a0 a1 ji3 0) = some r := by first | (rw [hji3] at H; exact H) | (simp only [hji3] at H ⊢; exact H)
  (try (have hji3l : 0 ≤ ji3 := by (rw [← hji3]; unfold mn; (repeat' split) <;> omega)))
  (try (have hji3m : 0 ≤ ji3 := by omega))
  have hji3_ : (if (a1.size : Int) < (a0.size : Int) then (a1.size : Int) else (a0.size : Int)) = ji3 := hji3
  have hji3n_ : (if a1.size < a0.size then (a1.size : Int) else (a0.size : Int)) = ji3 := by rw [← hji3_]; simp only [Int.ofNat_lt]
  have H' := Aside0.mk H
  clear H
  go_enter Tryd.func50, Tryd.ntmps50
  go_wp2
  repeat (go_quiet (fail); try go_wp2)
  go_loopg [12] k (fun kq v12 w' => ∃ (x12_1 : Int), v12 = .int .i64 x12_1 ∧ Aside0 (ascii_Compare.l0 kq a0 a1 ji3 x12_1 = some r) ∧ Aside0 (kq ≤ k) ∧ Drawn0 w w')
  case atStart => exact ⟨(0), (by first | rfl | (simp; done) | (simp [*]; done)), H', ⟨Nat.le_refl _⟩, by repeat (first | exact Drawn0.refl _ | apply Drawn0.step)⟩
  case round =>
    clear H'
    try clear p2
    obtain ⟨x12_1, rfl, HA, HK1, ⟨m1, rfl⟩⟩ := hrel
    cases gk with
    | zero => exact absurd HA.out (by simp [ascii_Compare.l0])
    | succ k1 =>
      have H := HA.out
      clear HA
      simp only [ascii_Compare.l0] at H
      by_cases c4 : x12_1 < ji3
      · rw [if_pos c4] at H
        have c4b0 : decide (x12_1 < ji3) = true := decide_eq_true c4
        clear c4
        by_cases c5 : 0 ≤ x12_1
        · rw [if_pos c5] at H
          have c5b0 : decide (0 ≤ x12_1) = true := decide_eq_true c5
          clear c5
          by_cases c6 : x12_1 < (a0.size : Int)
          · rw [if_pos c6] at H
            have c6b0 : decide (x12_1 < (a0.size : Int)) = true := decide_eq_true c6
            clear c6
            replace H := Option.bind_eq_some_iff.mp H
            obtain ⟨t102, A80, H⟩ := H
            replace H : (if x12_1 < (a1.size : Int) then ((ascii_lower.f (bt a1 x12_1)).bind fun t103 => ((ascii_order_byte.f t102 t103).bind fun t104 => (if t104 = 0 then (ascii_Compare.l0 k1 a0 a1 ji3 (wrap64 (x12_1 + 1))) else (some t104)))) else (none)) = some r := H
            have A8 := Aside0.mk A80
            clear A80
            by_cases c9 : x12_1 < (a1.size : Int)
            · rw [if_pos c9] at H
              have c9b0 : decide (x12_1 < (a1.size : Int)) = true := decide_eq_true c9
              clear c9
              replace H := Option.bind_eq_some_iff.mp H
              obtain ⟨t103, A110, H⟩ := H
              replace H : ((ascii_order_byte.f t102 t103).bind fun t104 => (if t104 = 0 then (ascii_Compare.l0 k1 a0 a1 ji3 (wrap64 (x12_1 + 1))) else (some t104))) = some r := H
              have A11 := Aside0.mk A110
              clear A110
              replace H := Option.bind_eq_some_iff.mp H
              obtain ⟨t104, A120, H⟩ := H
              replace H : (if t104 = 0 then (ascii_Compare.l0 k1 a0 a1 ji3 (wrap64 (x12_1 + 1))) else (some t104)) = some r := H
              have A12 := Aside0.mk A120
              clear A120
              by_cases c13 : t104 = 0
              · rw [if_pos c13] at H
                have c13b0 : (t104 == 0) = true := beq_iff_eq.mpr c13
                have c13b1 : (t104 != 0) = false := bne_eq_false_iff_eq.mpr c13
                (try (have c13b2 : (t104 : Int).toNat = 0 := by rw [c13]; rfl))
                try have c13b3 : (0 ≤ t104) = True := eq_true (by omega)
                try have c13b4_2 : (t104 < 2) = True := eq_true (by omega)
                try have c13b4_3 : (t104 < 3) = True := eq_true (by omega)
                try have c13b4_5 : (t104 < 5) = True := eq_true (by omega)
                clear c13
                have H' := Aside0.mk H
                clear H
                have p7 : 0 ≤ (x12_1 : Int) := of_decide_eq_true (by first | (with_reducible assumption) | assumption)
                have q7 : x12_1 < (a0.size : Int) := of_decide_eq_true (by first | (with_reducible assumption) | assumption)
                have hx7 := bt_at a0 x12_1
                replace p7 := eq_true p7
                replace q7 := eq_true q7
                go_wp2_with (first | (go_at_call 80; (with_reducible refine (ascii_lower.calls (bt a0 x12_1) t102 _ A8.out).mono ?_); rintro e w' ⟨rfl, ⟨nd, rfl⟩⟩; (try first | exact ⟨rfl, _, World.drewN_drewN _ _ _⟩ | exact ⟨rfl, _, Eq.trans (World.drewN_drewN _ _ _) (congrArg (World.drewN _) (Nat.add_assoc _ _ _))⟩); have p10 : 0 ≤ (x12_1 : Int) := of_decide_eq_true (by first | (with_reducible assumption) | assumption); have q10 : x12_1 < (a1.size : Int) := of_decide_eq_true (by first | (with_reducible assumption) | assumption); have hx10 := bt_at a1 x12_1; replace p10 := eq_true p10; replace q10 := eq_true q10; (try clear A8)) | (go_at_call 80; (with_reducible refine (ascii_lower.calls (bt a1 x12_1) t103 _ A11.out).mono ?_); rintro e w' ⟨rfl, ⟨nd, rfl⟩⟩; (try first | exact ⟨rfl, _, World.drewN_drewN _ _ _⟩ | exact ⟨rfl, _, Eq.trans (World.drewN_drewN _ _ _) (congrArg (World.drewN _) (Nat.add_assoc _ _ _))⟩); (try clear A11)) | (go_at_call 79; (with_reducible refine (ascii_order_byte.calls t102 t103 t104 _ A12.out).mono ?_); rintro e w' ⟨rfl, ⟨nd, rfl⟩⟩; (try first | exact ⟨rfl, _, World.drewN_drewN _ _ _⟩ | exact ⟨rfl, _, Eq.trans (World.drewN_drewN _ _ _) (congrArg (World.drewN _) (Nat.add_assoc _ _ _))⟩); (try clear A12)))
                repeat (go_quiet (first | (go_at_call 80; (with_reducible refine (ascii_lower.calls (bt a0 x12_1) t102 _ A8.out).mono ?_); rintro e w' ⟨rfl, ⟨nd, rfl⟩⟩; (try first | exact ⟨rfl, _, World.drewN_drewN _ _ _⟩ | exact ⟨rfl, _, Eq.trans (World.drewN_drewN _ _ _) (congrArg (World.drewN _) (Nat.add_assoc _ _ _))⟩); have p10 : 0 ≤ (x12_1 : Int) := of_decide_eq_true (by first | (with_reducible assumption) | assumption); have q10 : x12_1 < (a1.size : Int) := of_decide_eq_true (by first | (with_reducible assumption) | assumption); have hx10 := bt_at a1 x12_1; replace p10 := eq_true p10; replace q10 := eq_true q10; (try clear A8)) | (go_at_call 80; (with_reducible refine (ascii_lower.calls (bt a1 x12_1) t103 _ A11.out).mono ?_); rintro e w' ⟨rfl, ⟨nd, rfl⟩⟩; (try first | exact ⟨rfl, _, World.drewN_drewN _ _ _⟩ | exact ⟨rfl, _, Eq.trans (World.drewN_drewN _ _ _) (congrArg (World.drewN _) (Nat.add_assoc _ _ _))⟩); (try clear A11)) | (go_at_call 79; (with_reducible refine (ascii_order_byte.calls t102 t103 t104 _ A12.out).mono ?_); rintro e w' ⟨rfl, ⟨nd, rfl⟩⟩; (try first | exact ⟨rfl, _, World.drewN_drewN _ _ _⟩ | exact ⟨rfl, _, Eq.trans (World.drewN_drewN _ _ _) (congrArg (World.drewN _) (Nat.add_assoc _ _ _))⟩); (try clear A12))); try go_wp2_with (first | (go_at_call 80; (with_reducible refine (ascii_lower.calls (bt a0 x12_1) t102 _ A8.out).mono ?_); rintro e w' ⟨rfl, ⟨nd, rfl⟩⟩; (try first | exact ⟨rfl, _, World.drewN_drewN _ _ _⟩ | exact ⟨rfl, _, Eq.trans (World.drewN_drewN _ _ _) (congrArg (World.drewN _) (Nat.add_assoc _ _ _))⟩); have p10 : 0 ≤ (x12_1 : Int) := of_decide_eq_true (by first | (with_reducible assumption) | assumption); have q10 : x12_1 < (a1.size : Int) := of_decide_eq_true (by first | (with_reducible assumption) | assumption); have hx10 := bt_at a1 x12_1; replace p10 := eq_true p10; replace q10 := eq_true q10; (try clear A8)) | (go_at_call 80; (with_reducible refine (ascii_lower.calls (bt a1 x12_1) t103 _ A11.out).mono ?_); rintro e w' ⟨rfl, ⟨nd, rfl⟩⟩; (try first | exact ⟨rfl, _, World.drewN_drewN _ _ _⟩ | exact ⟨rfl, _, Eq.trans (World.drewN_drewN _ _ _) (congrArg (World.drewN _) (Nat.add_assoc _ _ _))⟩); (try clear A11)) | (go_at_call 79; (with_reducible refine (ascii_order_byte.calls t102 t103 t104 _ A12.out).mono ?_); rintro e w' ⟨rfl, ⟨nd, rfl⟩⟩; (try first | exact ⟨rfl, _, World.drewN_drewN _ _ _⟩ | exact ⟨rfl, _, Eq.trans (World.drewN_drewN _ _ _) (congrArg (World.drewN _) (Nat.add_assoc _ _ _))⟩); (try clear A12))))
                go_roundg k1
                case measure => have := HK1.out; omega
                case rel => exact ⟨(wrap64 (x12_1 + 1)), (by first | rfl | (simp; done) | (simp [*]; done)), H', ⟨by have := HK1.out; omega⟩, by repeat (first | exact Drawn0.refl _ | apply Drawn0.step)⟩
              · rw [if_neg c13] at H
                have c13b0 : (t104 == 0) = false := beq_eq_false_iff_ne.mpr c13
                have c13b1 : (t104 != 0) = true := bne_iff_ne.mpr c13
                obtain rfl := Option.some.inj H
                have p7 : 0 ≤ (x12_1 : Int) := of_decide_eq_true (by first | (with_reducible assumption) | assumption)
                have q7 : x12_1 < (a0.size : Int) := of_decide_eq_true (by first | (with_reducible assumption) | assumption)
                have hx7 := bt_at a0 x12_1
                replace p7 := eq_true p7
                replace q7 := eq_true q7
                go_wp2_with (first | (go_at_call 80; (with_reducible refine (ascii_lower.calls (bt a0 x12_1) t102 _ A8.out).mono ?_); rintro e w' ⟨rfl, ⟨nd, rfl⟩⟩; (try first | exact ⟨rfl, _, World.drewN_drewN _ _ _⟩ | exact ⟨rfl, _, Eq.trans (World.drewN_drewN _ _ _) (congrArg (World.drewN _) (Nat.add_assoc _ _ _))⟩); have p10 : 0 ≤ (x12_1 : Int) := of_decide_eq_true (by first | (with_reducible assumption) | assumption); have q10 : x12_1 < (a1.size : Int) := of_decide_eq_true (by first | (with_reducible assumption) | assumption); have hx10 := bt_at a1 x12_1; replace p10 := eq_true p10; replace q10 := eq_true q10; (try clear A8)) | (go_at_call 80; (with_reducible refine (ascii_lower.calls (bt a1 x12_1) t103 _ A11.out).mono ?_); rintro e w' ⟨rfl, ⟨nd, rfl⟩⟩; (try first | exact ⟨rfl, _, World.drewN_drewN _ _ _⟩ | exact ⟨rfl, _, Eq.trans (World.drewN_drewN _ _ _) (congrArg (World.drewN _) (Nat.add_assoc _ _ _))⟩); (try clear A11)) | (go_at_call 79; (with_reducible refine (ascii_order_byte.calls t102 t103 t104 _ A12.out).mono ?_); rintro e w' ⟨rfl, ⟨nd, rfl⟩⟩; (try first | exact ⟨rfl, _, World.drewN_drewN _ _ _⟩ | exact ⟨rfl, _, Eq.trans (World.drewN_drewN _ _ _) (congrArg (World.drewN _) (Nat.add_assoc _ _ _))⟩); (try clear A12)))
                repeat (go_quiet (first | (go_at_call 80; (with_reducible refine (ascii_lower.calls (bt a0 x12_1) t102 _ A8.out).mono ?_); rintro e w' ⟨rfl, ⟨nd, rfl⟩⟩; (try first | exact ⟨rfl, _, World.drewN_drewN _ _ _⟩ | exact ⟨rfl, _, Eq.trans (World.drewN_drewN _ _ _) (congrArg (World.drewN _) (Nat.add_assoc _ _ _))⟩); have p10 : 0 ≤ (x12_1 : Int) := of_decide_eq_true (by first | (with_reducible assumption) | assumption); have q10 : x12_1 < (a1.size : Int) := of_decide_eq_true (by first | (with_reducible assumption) | assumption); have hx10 := bt_at a1 x12_1; replace p10 := eq_true p10; replace q10 := eq_true q10; (try clear A8)) | (go_at_call 80; (with_reducible refine (ascii_lower.calls (bt a1 x12_1) t103 _ A11.out).mono ?_); rintro e w' ⟨rfl, ⟨nd, rfl⟩⟩; (try first | exact ⟨rfl, _, World.drewN_drewN _ _ _⟩ | exact ⟨rfl, _, Eq.trans (World.drewN_drewN _ _ _) (congrArg (World.drewN _) (Nat.add_assoc _ _ _))⟩); (try clear A11)) | (go_at_call 79; (with_reducible refine (ascii_order_byte.calls t102 t103 t104 _ A12.out).mono ?_); rintro e w' ⟨rfl, ⟨nd, rfl⟩⟩; (try first | exact ⟨rfl, _, World.drewN_drewN _ _ _⟩ | exact ⟨rfl, _, Eq.trans (World.drewN_drewN _ _ _) (congrArg (World.drewN _) (Nat.add_assoc _ _ _))⟩); (try clear A12))); try go_wp2_with (first | (go_at_call 80; (with_reducible refine (ascii_lower.calls (bt a0 x12_1) t102 _ A8.out).mono ?_); rintro e w' ⟨rfl, ⟨nd, rfl⟩⟩; (try first | exact ⟨rfl, _, World.drewN_drewN _ _ _⟩ | exact ⟨rfl, _, Eq.trans (World.drewN_drewN _ _ _) (congrArg (World.drewN _) (Nat.add_assoc _ _ _))⟩); have p10 : 0 ≤ (x12_1 : Int) := of_decide_eq_true (by first | (with_reducible assumption) | assumption); have q10 : x12_1 < (a1.size : Int) := of_decide_eq_true (by first | (with_reducible assumption) | assumption); have hx10 := bt_at a1 x12_1; replace p10 := eq_true p10; replace q10 := eq_true q10; (try clear A8)) | (go_at_call 80; (with_reducible refine (ascii_lower.calls (bt a1 x12_1) t103 _ A11.out).mono ?_); rintro e w' ⟨rfl, ⟨nd, rfl⟩⟩; (try first | exact ⟨rfl, _, World.drewN_drewN _ _ _⟩ | exact ⟨rfl, _, Eq.trans (World.drewN_drewN _ _ _) (congrArg (World.drewN _) (Nat.add_assoc _ _ _))⟩); (try clear A11)) | (go_at_call 79; (with_reducible refine (ascii_order_byte.calls t102 t103 t104 _ A12.out).mono ?_); rintro e w' ⟨rfl, ⟨nd, rfl⟩⟩; (try first | exact ⟨rfl, _, World.drewN_drewN _ _ _⟩ | exact ⟨rfl, _, Eq.trans (World.drewN_drewN _ _ _) (congrArg (World.drewN _) (Nat.add_assoc _ _ _))⟩); (try clear A12))))
                go_ret
                exact ⟨by first | rfl | (simp; done) | (simp only [← hji3] <;> (first | rfl | simp)) | (simp [*]; done), by repeat (first | exact Drawn0.refl _ | apply Drawn0.step)⟩
            · rw [if_neg c9] at H
              exact absurd H (by simp)
          · rw [if_neg c6] at H
            exact absurd H (by simp)
        · rw [if_neg c5] at H
          exact absurd H (by simp)
      · rw [if_neg c4] at H
        have c4b0 : decide (x12_1 < ji3) = false := decide_eq_false c4
        clear c4
        replace H := Option.bind_eq_some_iff.mp H
        obtain ⟨t101, A140, H⟩ := H
        replace H : (some t101) = some r := H
        have A14 := Aside0.mk A140
        clear A140
        obtain rfl := Option.some.inj H
        go_wp2_with (first | (go_at_call 81; (with_reducible refine (ascii_order_int.calls (a0.size : Int) (a1.size : Int) t101 _ A14.out).mono ?_); rintro e w' ⟨rfl, ⟨nd, rfl⟩⟩; (try first | exact ⟨rfl, _, World.drewN_drewN _ _ _⟩ | exact ⟨rfl, _, Eq.trans (World.drewN_drewN _ _ _) (congrArg (World.drewN _) (Nat.add_assoc _ _ _))⟩); (try clear A14)))
        repeat (go_quiet (first | (go_at_call 81; (with_reducible refine (ascii_order_int.calls (a0.size : Int) (a1.size : Int) t101 _ A14.out).mono ?_); rintro e w' ⟨rfl, ⟨nd, rfl⟩⟩; (try first | exact ⟨rfl, _, World.drewN_drewN _ _ _⟩ | exact ⟨rfl, _, Eq.trans (World.drewN_drewN _ _ _) (congrArg (World.drewN _) (Nat.add_assoc _ _ _))⟩); (try clear A14))); try go_wp2_with (first | (go_at_call 81; (with_reducible refine (ascii_order_int.calls (a0.size : Int) (a1.size : Int) t101 _ A14.out).mono ?_); rintro e w' ⟨rfl, ⟨nd, rfl⟩⟩; (try first | exact ⟨rfl, _, World.drewN_drewN _ _ _⟩ | exact ⟨rfl, _, Eq.trans (World.drewN_drewN _ _ _) (congrArg (World.drewN _) (Nat.add_assoc _ _ _))⟩); (try clear A14))))
        go_ret
        exact ⟨by first | rfl | (simp; done) | (simp only [← hji3] <;> (first | rfl | simp)) | (simp [*]; done), by repeat (first | exact Drawn0.refl _ | apply Drawn0.step)⟩

/-! ### ascii_Same: function 51 -/
def ascii_Same.f (k : Nat) (a0 : ByteArray) (a1 : ByteArray) : Option (Bool) := (ascii_Compare.f k a0 a1).bind fun t105 => (some (t105 == 0))
theorem ascii_Same.mono : ∀ a0 a1 k, LeO (ascii_Same.f k a0 a1) (ascii_Same.f (k + 1) a0 a1) := by
  intro a0 a1 k
  unfold ascii_Same.f
  repeat' first
      | (with_reducible exact ascii_Compare.mono _ _ _)
      | (with_reducible exact LeO.refl _)
      | (with_reducible exact LeO.none _)
      | (with_reducible refine LeO.ite ?_ ?_)
      | (with_reducible refine LeO.bind ?_ (fun _ => ?_))
      | exact ascii_Compare.mono _ _ _
      | exact LeO.none _
      | refine LeO.ite ?_ ?_
      | refine LeO.bind ?_ (fun _ => ?_)
set_option maxHeartbeats 8000000 in
set_option maxRecDepth 100000 in
theorem ascii_Same.calls (k : Nat) (a0 : ByteArray) (a1 : ByteArray) (r : Bool) (w : World) (h : ascii_Same.f k a0 a1 = some r) :
    Calls Tryd.prog 51 #[.string a0, .string a1] w fun e w' => e = .returned (.bool r) ∧ Drawn0 w w' := by
  have H : ((ascii_Compare.f k a0 a1).bind fun t105 => (some (t105 == 0))) = some r := h
  clear h
  replace H := Option.bind_eq_some_iff.mp H
  obtain ⟨t105, A30, H⟩ := H
  replace H : (some (t105 == 0)) = some r := H
  have A3 := Aside0.mk A30
  clear A30
  obtain rfl := Option.some.inj H
  go_enter Tryd.func51, Tryd.ntmps51
  go_wp2_with (first | ((with_reducible refine gate_callee (f := 50) rfl ?_); refine goesL_ (some 7) rfl rfl Tryd.func50 (by kernel_rfl) rfl #[.string a0, .string a1] rfl (by (try simp only [List.map_toArray, List.map_cons, List.map_nil]); first | done | rfl | (simp only [List.length_drop, List.length_take]; rfl)) ?_; (with_reducible refine (ascii_Compare.calls k a0 a1 t105 _ A3.out).mono ?_); rintro e w' ⟨rfl, ⟨nd, rfl⟩⟩; refine ⟨_, rfl, ?_⟩; (try clear A3)))
  go_ret
  exact ⟨by first | rfl | (simp; done) | (simp [*]; done), by repeat (first | exact Drawn0.refl _ | apply Drawn0.step)⟩

/-! ### grand_Find: function 24 -/
def grand_Find.s (k : Nat) (a0 : ByteArray) : Nat → Int → Int → Option Int
  | 0, _, _ => none
  | n + 1, i, j => if i < j then (ascii_Compare.f k (GrandW.nameAt ((i + j) / 2)) a0).bind fun c => (if c ≥ 0 then (grand_Find.s k a0 n i ((i + j) / 2)) else (grand_Find.s k a0 n ((i + j) / 2 + 1) j)) else some i
def grand_Find.f (k : Nat) (a0 : ByteArray) : Option (Int × Bool) := (grand_Find.s k a0 27 0 26).bind fun i => (if i = 26 then (some (0, false)) else ((ascii_Same.f k (GrandW.nameAt i) a0).bind fun b => (if b = true then (some (i, true)) else (some (0, false)))))
theorem grand_Find.mono_s (a0 : ByteArray) (k : Nat) : ∀ n i j, LeO (grand_Find.s k a0 n i j) (grand_Find.s (k + 1) a0 n i j)
  | 0, _, _ => LeO.none _
  | n + 1, i, j => by
    unfold grand_Find.s
    exact LeO.ite (LeO.bind (ascii_Compare.mono _ _ _) (fun _ => LeO.ite (grand_Find.mono_s a0 k n _ _) (grand_Find.mono_s a0 k n _ _))) (LeO.refl _)
theorem grand_Find.mono : ∀ a0 k, LeO (grand_Find.f k a0) (grand_Find.f (k + 1) a0) := by
  intro a0 k
  unfold grand_Find.f
  exact LeO.bind (grand_Find.mono_s a0 k _ _ _) (fun _ => LeO.ite (LeO.refl _) (LeO.bind (ascii_Same.mono _ _ _) (fun _ => LeO.refl _)))
set_option maxHeartbeats 800000 in
theorem grand_Find.asks (k : Nat) (s : ByteArray) (h c : Int) (p : Addr) (w : World) (hG : GrandW.G w) (h0 : 0 ≤ h) (h1 : h < 26) (hp : w.cell? p = some (.string s)) (hc : ascii_Compare.f k (GrandW.nameAt h) s = some c) :
    Calls Tryd.prog 49 #[.int .i64 h, .pointer (some p)] w fun e w' => e = .returned (.bool (decide (0 ≤ c))) ∧ Drawn0 w w' := by
  have hn := hG.cell h.toNat (by omega)
  rw [Int.toNat_of_nonneg h0] at hn
  have HC := Aside0.mk hc
  clear hc
  go_enter Tryd.func49, Tryd.ntmps49
  go_wp2_with fail
  go_quiet ((go_at_call 50; refine (ascii_Compare.calls k _ s c _ HC.out).mono ?_; rintro e w' ⟨rfl, ⟨nd, rfl⟩⟩; first | exact ⟨rfl, _, World.drewN_drewN _ _ _⟩ | exact ⟨rfl, _, Eq.trans (World.drewN_drewN _ _ _) (congrArg (World.drewN _) (Nat.add_assoc _ _ _))⟩))
  go_wp2
  go_ret
  exact ⟨rfl, by repeat (first | exact Drawn0.refl _ | apply Drawn0.step)⟩
set_option maxHeartbeats 1600000 in
theorem grand_Find.search (k : Nat) (s : ByteArray) (p : Addr) (w : World) (hG : GrandW.G w) (hp : w.cell? p = some (.string s)) (r : Int) (hr : grand_Find.s k s 27 0 26 = some r) :
    Calls Tryd.prog 48 #[.int .i64 26, .func (Fn.func 49) #[] #[.pointer (some p)]] w fun e w' => e = .returned (.int .i64 r) ∧ Aside0 (0 ≤ r ∧ r ≤ 26) ∧ Drawn0 w w' := by
  have HG := Aside0.mk hG
  have HP := Aside0.mk hp
  have HR := Aside0.mk hr
  clear hG hp hr
  go_enter Tryd.func48, Tryd.ntmps48
  go_wp2
  go_loopw [5, 6] (fun vi vj wr => ∃ (n : Nat) (i j : Int), vi = .int .i64 i ∧ vj = .int .i64 j ∧ 0 ≤ i ∧ i ≤ j ∧ j ≤ 26 ∧ Aside0 (grand_Find.s k s n i j = some r) ∧ Aside0 (Drawn0 w wr)) (fun vi vj _ => (intOf vj - intOf vi).toNat)
  case atStart => exact ⟨27, 0, 26, rfl, rfl, by omega, by omega, by omega, HR, ⟨Drawn0.refl w⟩⟩
  case round =>
    clear HR
    obtain ⟨n, i, j, rfl, rfl, h0, h1, h2, HS, HD⟩ := hrel
    have hD := HD.out.out
    obtain ⟨nd0, hD⟩ := hD
    subst hD
    clear HD
    have H := HS.out
    clear HS
    cases n with
    | zero => exact absurd H (by simp [grand_Find.s])
    | succ n =>
      unfold grand_Find.s at H
      by_cases hij : i < j
      · rw [if_pos hij] at H
        obtain ⟨c, hc, H⟩ := Option.bind_eq_some_iff.mp H
        have HC := Aside0.mk hc
        clear hc
        by_cases hc0 : 0 ≤ c
        · have hd : decide (0 ≤ c) = true := decide_eq_true hc0
          rw [if_pos hc0] at H
          have HS := Aside0.mk H
          clear H hc0
          go_wp2_with (go_at_call 49; refine (grand_Find.asks k s ((i + j) / 2) c p _ (HG.out.drewN nd0) (by omega) (by omega) HP.out HC.out).mono ?_; rintro e w' ⟨rfl, ⟨nd, rfl⟩⟩)
          go_roundw
          case rel => exact ⟨n, i, (i + j) / 2, rfl, rfl, h0, by omega, by omega, HS, ⟨⟨_, rfl⟩⟩⟩
          case measure => simp [intOf]; omega
        · have hd : decide (0 ≤ c) = false := decide_eq_false hc0
          rw [if_neg hc0] at H
          have HS := Aside0.mk H
          clear H hc0
          go_wp2_with (go_at_call 49; refine (grand_Find.asks k s ((i + j) / 2) c p _ (HG.out.drewN nd0) (by omega) (by omega) HP.out HC.out).mono ?_; rintro e w' ⟨rfl, ⟨nd, rfl⟩⟩)
          go_roundw
          case rel => exact ⟨n, (i + j) / 2 + 1, j, rfl, rfl, by omega, by omega, h2, HS, ⟨⟨_, rfl⟩⟩⟩
          case measure => simp [intOf]; omega
      · rw [if_neg hij] at H
        have HE := Aside0.mk (Option.some.inj H)
        have HB := Aside0.mk (And.intro h0 (Int.le_trans h1 h2))
        clear H
        go_wp2
        go_ret
        exact ⟨by rw [HE.out]; rfl, by rw [← HE.out]; exact HB, ⟨_, rfl⟩⟩
set_option maxHeartbeats 1600000 in
theorem grand_Find.calls (k : Nat) (a0 : ByteArray) (r1 : Int) (r2 : Bool) (w : World) (h : grand_Find.f k a0 = some (r1, r2)) (hG : GrandW.G w) :
    Calls Tryd.prog 24 #[.string a0] w fun e w' => e = .returned (.tuple #[.int .i64 r1, .bool r2]) ∧ Below w.heap.size w w' := by
  have hmf : ∀ (fn : Fn) (first cap : Array Value) (w : World), (Instr.makeFunc fn first cap).run Tryd.prog w = .ok (.func fn first cap) w := fun _ _ _ _ => rfl
  unfold grand_Find.f at h
  obtain ⟨i, hi, H⟩ := Option.bind_eq_some_iff.mp h
  clear h
  have HG := Aside0.mk hG
  have HI := Aside0.mk hi
  clear hG hi
  have hB0 : Below w.heap.size w (w.alloc (.cells #[.string a0] 9)) := (Below.refl _ _).alloc (Nat.le_refl _) _
  have HB0 := Aside0.mk hB0
  clear hB0
  by_cases h26 : i = 26
  · subst h26
    rw [if_pos rfl] at H
    obtain ⟨rfl, rfl⟩ := Prod.mk.inj (Option.some.inj H)
    clear H
    go_enter Tryd.func24, Tryd.ntmps24
    go_wp2_with (go_at_call 48; refine (grand_Find.search k a0 _ _ (HG.out.below HB0.out) (by simp [go_sem]) 26 HI.out).mono ?_; rintro e w' ⟨rfl, hb, ⟨nd, rfl⟩⟩)
    go_quiet (fail)
    go_wp2
    go_ret2
    exact ⟨rfl, pw_below_drewN (pw_below_drewN HB0.out _) _⟩
  · rw [if_neg h26] at H
    obtain ⟨b, hb, H⟩ := Option.bind_eq_some_iff.mp H
    have HBb := Aside0.mk hb
    clear hb
    have HH := Aside0.mk H
    clear H
    have e26 : (i == 26) = false := by simpa using h26
    clear h26
    go_enter Tryd.func24, Tryd.ntmps24
    go_wp2_with (go_at_call 48; refine (grand_Find.search k a0 _ _ (HG.out.below HB0.out) (by simp [go_sem]) i HI.out).mono ?_; rintro e w' ⟨rfl, hb, ⟨nd, rfl⟩⟩)
    obtain ⟨b0, b1⟩ := hb.out
    have h25 : i < 26 := by
      have : i ≠ 26 := by simpa using e26
      omega
    have hn := (HG.out.below HB0.out).cell i.toNat (by omega)
    rw [Int.toNat_of_nonneg b0] at hn
    clear b1 hb
    cases b with
    | true =>
      obtain ⟨rfl, rfl⟩ := Prod.mk.inj (Option.some.inj HH.out)
      clear HH
      go_quiet ((go_at_call 51; refine (ascii_Same.calls k (GrandW.nameAt i) a0 true _ HBb.out).mono ?_; rintro e w' ⟨rfl, ⟨nd, rfl⟩⟩; first | exact ⟨rfl, _, World.drewN_drewN _ _ _⟩ | exact ⟨rfl, _, Eq.trans (World.drewN_drewN _ _ _) (congrArg (World.drewN _) (Nat.add_assoc _ _ _))⟩))
      go_wp2
      go_ret2
      exact ⟨rfl, by repeat (first | exact HB0.out | apply pw_below_drewN)⟩
    | false =>
      obtain ⟨rfl, rfl⟩ := Prod.mk.inj (Option.some.inj HH.out)
      clear HH
      go_quiet ((go_at_call 51; refine (ascii_Same.calls k (GrandW.nameAt i) a0 false _ HBb.out).mono ?_; rintro e w' ⟨rfl, ⟨nd, rfl⟩⟩; first | exact ⟨rfl, _, World.drewN_drewN _ _ _⟩ | exact ⟨rfl, _, Eq.trans (World.drewN_drewN _ _ _) (congrArg (World.drewN _) (Nat.add_assoc _ _ _))⟩))
      go_wp2
      go_ret2
      exact ⟨rfl, by repeat (first | exact HB0.out | apply pw_below_drewN)⟩

/-! ### isoglosslaw05_awake: function 14 -/
def isoglosslaw05_awake.f (k : Nat)  : Option (Bool) := (grand_Find.f k (⟨#[73, 45, 75, 76, 73, 78, 71, 79, 78]⟩ : ByteArray)).bind fun bt106 => (if bt106.1 = 8 then (if bt106.2 = true then ((grand_Len.f).bind fun t108 => (some (t108 == 26))) else (some false)) else (some false))
theorem isoglosslaw05_awake.mono : ∀ k, LeO (isoglosslaw05_awake.f k ) (isoglosslaw05_awake.f (k + 1) ) := by
  intro  k
  unfold isoglosslaw05_awake.f
  repeat' first
      | (with_reducible exact grand_Find.mono _ _)
      | (with_reducible exact LeO.refl _)
      | (with_reducible exact LeO.none _)
      | (with_reducible refine LeO.ite ?_ ?_)
      | (with_reducible refine LeO.bind ?_ (fun _ => ?_))
      | exact grand_Find.mono _ _
      | exact LeO.none _
      | refine LeO.ite ?_ ?_
      | refine LeO.bind ?_ (fun _ => ?_)
set_option maxHeartbeats 8000000 in
set_option maxRecDepth 100000 in
theorem isoglosslaw05_awake.calls (k : Nat)  (r : Bool) (w : World) (h : isoglosslaw05_awake.f k  = some r) (hG : GrandW.G w) :
    Calls Tryd.prog 14 #[] w fun e w' => e = .returned (.bool r) ∧ Below w.heap.size w w' := by
  have HG := Aside0.mk hG
  clear hG
  have HB := Aside0.mk (Below.refl w.heap.size w)
  have H : ((grand_Find.f k (⟨#[73, 45, 75, 76, 73, 78, 71, 79, 78]⟩ : ByteArray)).bind fun bt106 => (if bt106.1 = 8 then (if bt106.2 = true then ((grand_Len.f).bind fun t108 => (some (t108 == 26))) else (some false)) else (some false))) = some r := h
  clear h
  replace H := Option.bind_eq_some_iff.mp H
  obtain ⟨⟨t106, t107⟩, A10, H⟩ := H
  replace H : (if t106 = 8 then (if t107 = true then ((grand_Len.f).bind fun t108 => (some (t108 == 26))) else (some false)) else (some false)) = some r := H
  have A1 := Aside0.mk A10
  clear A10
  by_cases c2 : t106 = 8
  · rw [if_pos c2] at H
    have c2b0 : (t106 == 8) = true := beq_iff_eq.mpr c2
    have c2b1 : (t106 != 8) = false := bne_eq_false_iff_eq.mpr c2
    (try (have c2b2 : (t106 : Int).toNat = 8 := by rw [c2]; rfl))
    try have c2b3 : (0 ≤ t106) = True := eq_true (by omega)
    clear c2
    by_cases c3 : t107 = true
    · subst c3
      have H1 : ((grand_Len.f).bind fun t108 => (some (t108 == 26))) = some r := by rw [if_pos rfl] at H; exact H
      clear H
      have H := H1
      clear H1
      replace H := Option.bind_eq_some_iff.mp H
      obtain ⟨t108, A40, H⟩ := H
      replace H : (some (t108 == 26)) = some r := H
      have A4 := Aside0.mk A40
      clear A40
      obtain rfl := Option.some.inj H
      go_enter Tryd.func14, Tryd.ntmps14
      go_wp2_with (first | ((with_reducible refine gate_callee (f := 24) rfl ?_); refine goesL_ (some 4) rfl rfl Tryd.func24 (by kernel_rfl) rfl #[.string (⟨#[73, 45, 75, 76, 73, 78, 71, 79, 78]⟩ : ByteArray)] rfl (by (try simp only [List.map_toArray, List.map_cons, List.map_nil]); first | done | rfl | (simp only [List.length_drop, List.length_take]; rfl)) ?_; (with_reducible refine (grand_Find.calls k (⟨#[73, 45, 75, 76, 73, 78, 71, 79, 78]⟩ : ByteArray) t106 true _ A1.out (by repeat (first | exact HG.out | exact GrandW.G.below HG.out HB.out | apply GrandW.G.alloc | apply GrandW.G.drewN | apply GrandW.G.drew))).mono ?_); rintro e w5 ⟨rfl, hb⟩; refine ⟨_, rfl, ?_⟩; have n0_ := Aside0.mk (below_step (by repeat (first | (with_reducible first | exact HB.out | apply below_alloc | apply pw_below_drewN | apply below_drew1) | exact HB.out)) hb); clear HB; have HB := n0_; clear n0_; (try clear hb); (try clear hb2); (try clear hk); (try clear hi); (try clear A1)) | (go_at_call 23; (with_reducible refine (grand_Len.calls  t108 _ A4.out (by repeat (first | exact HG.out | exact GrandW.G.below HG.out HB.out | apply GrandW.G.alloc | apply GrandW.G.drewN | apply GrandW.G.drew))).mono ?_); rintro e w6 ⟨rfl, hb⟩; have n0_ := Aside0.mk (below_step (by repeat (first | (with_reducible first | exact HB.out | apply below_alloc | apply pw_below_drewN | apply below_drew1) | exact HB.out)) hb); clear HB; have HB := n0_; clear n0_; (try clear hb); (try clear hb2); (try clear hk); (try clear hi); (try clear A4)))
      go_ret
      exact ⟨by first | rfl | (simp [errW_none, errW_some] <;> rfl) | (simp [*, errW_none, errW_some] <;> rfl), by repeat (first | (with_reducible first | exact HB.out | apply below_alloc | apply pw_below_drewN | apply below_drew1) | exact HB.out)⟩
    · replace c3 := Bool.eq_false_iff.mpr c3
      subst c3
      have H1 : (some false) = some r := by rw [if_neg (show ¬ (false = true) by decide)] at H; exact H
      clear H
      have H := H1
      clear H1
      obtain rfl := Option.some.inj H
      go_enter Tryd.func14, Tryd.ntmps14
      go_wp2_with (first | ((with_reducible refine gate_callee (f := 24) rfl ?_); refine goesL_ (some 4) rfl rfl Tryd.func24 (by kernel_rfl) rfl #[.string (⟨#[73, 45, 75, 76, 73, 78, 71, 79, 78]⟩ : ByteArray)] rfl (by (try simp only [List.map_toArray, List.map_cons, List.map_nil]); first | done | rfl | (simp only [List.length_drop, List.length_take]; rfl)) ?_; (with_reducible refine (grand_Find.calls k (⟨#[73, 45, 75, 76, 73, 78, 71, 79, 78]⟩ : ByteArray) t106 false _ A1.out (by repeat (first | exact HG.out | exact GrandW.G.below HG.out HB.out | apply GrandW.G.alloc | apply GrandW.G.drewN | apply GrandW.G.drew))).mono ?_); rintro e w7 ⟨rfl, hb⟩; refine ⟨_, rfl, ?_⟩; have n0_ := Aside0.mk (below_step (by repeat (first | (with_reducible first | exact HB.out | apply below_alloc | apply pw_below_drewN | apply below_drew1) | exact HB.out)) hb); clear HB; have HB := n0_; clear n0_; (try clear hb); (try clear hb2); (try clear hk); (try clear hi); (try clear A1)))
      go_ret
      exact ⟨by first | rfl | (simp [errW_none, errW_some] <;> rfl) | (simp [*, errW_none, errW_some] <;> rfl), by repeat (first | (with_reducible first | exact HB.out | apply below_alloc | apply pw_below_drewN | apply below_drew1) | exact HB.out)⟩
  · rw [if_neg c2] at H
    have c2b0 : (t106 == 8) = false := beq_eq_false_iff_ne.mpr c2
    have c2b1 : (t106 != 8) = true := bne_iff_ne.mpr c2
    obtain rfl := Option.some.inj H
    go_enter Tryd.func14, Tryd.ntmps14
    go_wp2_with (first | ((with_reducible refine gate_callee (f := 24) rfl ?_); refine goesL_ (some 4) rfl rfl Tryd.func24 (by kernel_rfl) rfl #[.string (⟨#[73, 45, 75, 76, 73, 78, 71, 79, 78]⟩ : ByteArray)] rfl (by (try simp only [List.map_toArray, List.map_cons, List.map_nil]); first | done | rfl | (simp only [List.length_drop, List.length_take]; rfl)) ?_; (with_reducible refine (grand_Find.calls k (⟨#[73, 45, 75, 76, 73, 78, 71, 79, 78]⟩ : ByteArray) t106 t107 _ A1.out (by repeat (first | exact HG.out | exact GrandW.G.below HG.out HB.out | apply GrandW.G.alloc | apply GrandW.G.drewN | apply GrandW.G.drew))).mono ?_); rintro e w8 ⟨rfl, hb⟩; refine ⟨_, rfl, ?_⟩; have n0_ := Aside0.mk (below_step (by repeat (first | (with_reducible first | exact HB.out | apply below_alloc | apply pw_below_drewN | apply below_drew1) | exact HB.out)) hb); clear HB; have HB := n0_; clear n0_; (try clear hb); (try clear hb2); (try clear hk); (try clear hi); (try clear A1)))
    go_ret
    exact ⟨by first | rfl | (simp [errW_none, errW_some] <;> rfl) | (simp [*, errW_none, errW_some] <;> rfl), by repeat (first | (with_reducible first | exact HB.out | apply below_alloc | apply pw_below_drewN | apply below_drew1) | exact HB.out)⟩

/-! ### isoglossref05_List: function 15 -/
def isoglossref05_List.f  : Option (List ByteArray) := some (([(⟨#[97, 114, 116, 45, 108, 111, 106, 98, 97, 110, 42]⟩ : ByteArray), (⟨#[99, 101, 108, 45, 103, 97, 117, 108, 105, 115, 104, 42]⟩ : ByteArray), (⟨#[101, 110, 45, 103, 98, 45, 111, 101, 100]⟩ : ByteArray), (⟨#[105, 45, 97, 109, 105]⟩ : ByteArray), (⟨#[105, 45, 98, 110, 110]⟩ : ByteArray), (⟨#[105, 45, 100, 101, 102, 97, 117, 108, 116]⟩ : ByteArray), (⟨#[105, 45, 101, 110, 111, 99, 104, 105, 97, 110]⟩ : ByteArray), (⟨#[105, 45, 104, 97, 107]⟩ : ByteArray), (⟨#[105, 45, 107, 108, 105, 110, 103, 111, 110]⟩ : ByteArray), (⟨#[105, 45, 108, 117, 120]⟩ : ByteArray), (⟨#[105, 45, 109, 105, 110, 103, 111]⟩ : ByteArray), (⟨#[105, 45, 110, 97, 118, 97, 106, 111]⟩ : ByteArray), (⟨#[105, 45, 112, 119, 110]⟩ : ByteArray), (⟨#[105, 45, 116, 97, 111]⟩ : ByteArray), (⟨#[105, 45, 116, 97, 121]⟩ : ByteArray), (⟨#[105, 45, 116, 115, 117]⟩ : ByteArray), (⟨#[110, 111, 45, 98, 111, 107, 42]⟩ : ByteArray), (⟨#[110, 111, 45, 110, 121, 110, 42]⟩ : ByteArray), (⟨#[115, 103, 110, 45, 98, 101, 45, 102, 114]⟩ : ByteArray), (⟨#[115, 103, 110, 45, 98, 101, 45, 110, 108]⟩ : ByteArray), (⟨#[115, 103, 110, 45, 99, 104, 45, 100, 101]⟩ : ByteArray), (⟨#[122, 104, 45, 103, 117, 111, 121, 117, 42]⟩ : ByteArray), (⟨#[122, 104, 45, 104, 97, 107, 107, 97, 42]⟩ : ByteArray), (⟨#[122, 104, 45, 109, 105, 110, 42]⟩ : ByteArray), (⟨#[122, 104, 45, 109, 105, 110, 45, 110, 97, 110, 42]⟩ : ByteArray), (⟨#[122, 104, 45, 120, 105, 97, 110, 103, 42]⟩ : ByteArray)] : List ByteArray))
set_option maxHeartbeats 8000000 in
set_option maxRecDepth 100000 in
theorem isoglossref05_List.calls  (r : List ByteArray) (w : World) (h : isoglossref05_List.f  = some r) :
    Calls Tryd.prog 15 #[] w fun e w' => ∃ v0_ : Value, e = .returned (v0_) ∧ Kd.R Kd.string 9 w' w.heap.size (fun _ => True) v0_ r ∧ Below w.heap.size w w' := by
  have HB := Aside0.mk (Below.refl w.heap.size w)
  have H : (some (([(⟨#[97, 114, 116, 45, 108, 111, 106, 98, 97, 110, 42]⟩ : ByteArray), (⟨#[99, 101, 108, 45, 103, 97, 117, 108, 105, 115, 104, 42]⟩ : ByteArray), (⟨#[101, 110, 45, 103, 98, 45, 111, 101, 100]⟩ : ByteArray), (⟨#[105, 45, 97, 109, 105]⟩ : ByteArray), (⟨#[105, 45, 98, 110, 110]⟩ : ByteArray), (⟨#[105, 45, 100, 101, 102, 97, 117, 108, 116]⟩ : ByteArray), (⟨#[105, 45, 101, 110, 111, 99, 104, 105, 97, 110]⟩ : ByteArray), (⟨#[105, 45, 104, 97, 107]⟩ : ByteArray), (⟨#[105, 45, 107, 108, 105, 110, 103, 111, 110]⟩ : ByteArray), (⟨#[105, 45, 108, 117, 120]⟩ : ByteArray), (⟨#[105, 45, 109, 105, 110, 103, 111]⟩ : ByteArray), (⟨#[105, 45, 110, 97, 118, 97, 106, 111]⟩ : ByteArray), (⟨#[105, 45, 112, 119, 110]⟩ : ByteArray), (⟨#[105, 45, 116, 97, 111]⟩ : ByteArray), (⟨#[105, 45, 116, 97, 121]⟩ : ByteArray), (⟨#[105, 45, 116, 115, 117]⟩ : ByteArray), (⟨#[110, 111, 45, 98, 111, 107, 42]⟩ : ByteArray), (⟨#[110, 111, 45, 110, 121, 110, 42]⟩ : ByteArray), (⟨#[115, 103, 110, 45, 98, 101, 45, 102, 114]⟩ : ByteArray), (⟨#[115, 103, 110, 45, 98, 101, 45, 110, 108]⟩ : ByteArray), (⟨#[115, 103, 110, 45, 99, 104, 45, 100, 101]⟩ : ByteArray), (⟨#[122, 104, 45, 103, 117, 111, 121, 117, 42]⟩ : ByteArray), (⟨#[122, 104, 45, 104, 97, 107, 107, 97, 42]⟩ : ByteArray), (⟨#[122, 104, 45, 109, 105, 110, 42]⟩ : ByteArray), (⟨#[122, 104, 45, 109, 105, 110, 45, 110, 97, 110, 42]⟩ : ByteArray), (⟨#[122, 104, 45, 120, 105, 97, 110, 103, 42]⟩ : ByteArray)] : List ByteArray))) = some r := h
  clear h
  obtain ⟨y109, hy109⟩ : ∃ y_ : List ByteArray, y_ = (([(⟨#[97, 114, 116, 45, 108, 111, 106, 98, 97, 110, 42]⟩ : ByteArray), (⟨#[99, 101, 108, 45, 103, 97, 117, 108, 105, 115, 104, 42]⟩ : ByteArray), (⟨#[101, 110, 45, 103, 98, 45, 111, 101, 100]⟩ : ByteArray), (⟨#[105, 45, 97, 109, 105]⟩ : ByteArray), (⟨#[105, 45, 98, 110, 110]⟩ : ByteArray), (⟨#[105, 45, 100, 101, 102, 97, 117, 108, 116]⟩ : ByteArray), (⟨#[105, 45, 101, 110, 111, 99, 104, 105, 97, 110]⟩ : ByteArray), (⟨#[105, 45, 104, 97, 107]⟩ : ByteArray), (⟨#[105, 45, 107, 108, 105, 110, 103, 111, 110]⟩ : ByteArray), (⟨#[105, 45, 108, 117, 120]⟩ : ByteArray), (⟨#[105, 45, 109, 105, 110, 103, 111]⟩ : ByteArray), (⟨#[105, 45, 110, 97, 118, 97, 106, 111]⟩ : ByteArray), (⟨#[105, 45, 112, 119, 110]⟩ : ByteArray), (⟨#[105, 45, 116, 97, 111]⟩ : ByteArray), (⟨#[105, 45, 116, 97, 121]⟩ : ByteArray), (⟨#[105, 45, 116, 115, 117]⟩ : ByteArray), (⟨#[110, 111, 45, 98, 111, 107, 42]⟩ : ByteArray), (⟨#[110, 111, 45, 110, 121, 110, 42]⟩ : ByteArray), (⟨#[115, 103, 110, 45, 98, 101, 45, 102, 114]⟩ : ByteArray), (⟨#[115, 103, 110, 45, 98, 101, 45, 110, 108]⟩ : ByteArray), (⟨#[115, 103, 110, 45, 99, 104, 45, 100, 101]⟩ : ByteArray), (⟨#[122, 104, 45, 103, 117, 111, 121, 117, 42]⟩ : ByteArray), (⟨#[122, 104, 45, 104, 97, 107, 107, 97, 42]⟩ : ByteArray), (⟨#[122, 104, 45, 109, 105, 110, 42]⟩ : ByteArray), (⟨#[122, 104, 45, 109, 105, 110, 45, 110, 97, 110, 42]⟩ : ByteArray), (⟨#[122, 104, 45, 120, 105, 97, 110, 103, 42]⟩ : ByteArray)] : List ByteArray)) := ⟨_, rfl⟩
  replace H : (some y109) = some r := by first | (rw [hy109]; with_reducible exact H) | (have H2_ := (Option.bind_some _ _).symm.trans H; rw [hy109]; with_reducible exact H2_) | (have H2_ := (Option.bind_some _ _).symm.trans H; with_reducible exact H2_) | with_reducible exact H | (rw [hy109]; exact H) | exact H
  have Ny109 := Aside0.mk hy109
  clear hy109
  obtain rfl := Option.some.inj H
  go_enter Tryd.func15, Tryd.ntmps15
  go_wp2_with (first | ((with_reducible refine gate_dst (N := 1) rfl ?_); refine Kd.R_lit Kd.string _ 9 ?hg (N := 1) ?hd (xs := ([(⟨#[97, 114, 116, 45, 108, 111, 106, 98, 97, 110, 42]⟩ : ByteArray), (⟨#[99, 101, 108, 45, 103, 97, 117, 108, 105, 115, 104, 42]⟩ : ByteArray), (⟨#[101, 110, 45, 103, 98, 45, 111, 101, 100]⟩ : ByteArray), (⟨#[105, 45, 97, 109, 105]⟩ : ByteArray), (⟨#[105, 45, 98, 110, 110]⟩ : ByteArray), (⟨#[105, 45, 100, 101, 102, 97, 117, 108, 116]⟩ : ByteArray), (⟨#[105, 45, 101, 110, 111, 99, 104, 105, 97, 110]⟩ : ByteArray), (⟨#[105, 45, 104, 97, 107]⟩ : ByteArray), (⟨#[105, 45, 107, 108, 105, 110, 103, 111, 110]⟩ : ByteArray), (⟨#[105, 45, 108, 117, 120]⟩ : ByteArray), (⟨#[105, 45, 109, 105, 110, 103, 111]⟩ : ByteArray), (⟨#[105, 45, 110, 97, 118, 97, 106, 111]⟩ : ByteArray), (⟨#[105, 45, 112, 119, 110]⟩ : ByteArray), (⟨#[105, 45, 116, 97, 111]⟩ : ByteArray), (⟨#[105, 45, 116, 97, 121]⟩ : ByteArray), (⟨#[105, 45, 116, 115, 117]⟩ : ByteArray), (⟨#[110, 111, 45, 98, 111, 107, 42]⟩ : ByteArray), (⟨#[110, 111, 45, 110, 121, 110, 42]⟩ : ByteArray), (⟨#[115, 103, 110, 45, 98, 101, 45, 102, 114]⟩ : ByteArray), (⟨#[115, 103, 110, 45, 98, 101, 45, 110, 108]⟩ : ByteArray), (⟨#[115, 103, 110, 45, 99, 104, 45, 100, 101]⟩ : ByteArray), (⟨#[122, 104, 45, 103, 117, 111, 121, 117, 42]⟩ : ByteArray), (⟨#[122, 104, 45, 104, 97, 107, 107, 97, 42]⟩ : ByteArray), (⟨#[122, 104, 45, 109, 105, 110, 42]⟩ : ByteArray), (⟨#[122, 104, 45, 109, 105, 110, 45, 110, 97, 110, 42]⟩ : ByteArray), (⟨#[122, 104, 45, 120, 105, 97, 110, 103, 42]⟩ : ByteArray)] : List ByteArray)) (inner := [.string (⟨#[97, 114, 116, 45, 108, 111, 106, 98, 97, 110, 42]⟩ : ByteArray), .string (⟨#[99, 101, 108, 45, 103, 97, 117, 108, 105, 115, 104, 42]⟩ : ByteArray), .string (⟨#[101, 110, 45, 103, 98, 45, 111, 101, 100]⟩ : ByteArray), .string (⟨#[105, 45, 97, 109, 105]⟩ : ByteArray), .string (⟨#[105, 45, 98, 110, 110]⟩ : ByteArray), .string (⟨#[105, 45, 100, 101, 102, 97, 117, 108, 116]⟩ : ByteArray), .string (⟨#[105, 45, 101, 110, 111, 99, 104, 105, 97, 110]⟩ : ByteArray), .string (⟨#[105, 45, 104, 97, 107]⟩ : ByteArray), .string (⟨#[105, 45, 107, 108, 105, 110, 103, 111, 110]⟩ : ByteArray), .string (⟨#[105, 45, 108, 117, 120]⟩ : ByteArray), .string (⟨#[105, 45, 109, 105, 110, 103, 111]⟩ : ByteArray), .string (⟨#[105, 45, 110, 97, 118, 97, 106, 111]⟩ : ByteArray), .string (⟨#[105, 45, 112, 119, 110]⟩ : ByteArray), .string (⟨#[105, 45, 116, 97, 111]⟩ : ByteArray), .string (⟨#[105, 45, 116, 97, 121]⟩ : ByteArray), .string (⟨#[105, 45, 116, 115, 117]⟩ : ByteArray), .string (⟨#[110, 111, 45, 98, 111, 107, 42]⟩ : ByteArray), .string (⟨#[110, 111, 45, 110, 121, 110, 42]⟩ : ByteArray), .string (⟨#[115, 103, 110, 45, 98, 101, 45, 102, 114]⟩ : ByteArray), .string (⟨#[115, 103, 110, 45, 98, 101, 45, 110, 108]⟩ : ByteArray), .string (⟨#[115, 103, 110, 45, 99, 104, 45, 100, 101]⟩ : ByteArray), .string (⟨#[122, 104, 45, 103, 117, 111, 121, 117, 42]⟩ : ByteArray), .string (⟨#[122, 104, 45, 104, 97, 107, 107, 97, 42]⟩ : ByteArray), .string (⟨#[122, 104, 45, 109, 105, 110, 42]⟩ : ByteArray), .string (⟨#[122, 104, 45, 109, 105, 110, 45, 110, 97, 110, 42]⟩ : ByteArray), .string (⟨#[122, 104, 45, 120, 105, 97, 110, 103, 42]⟩ : ByteArray)]) (ok := fun _ => True) (okp := fun _ => True) ?hr ?hp (fun _ hk => hk) trivial (Below.refl _ _) (Nat.le_refl _) (by simp) ?_; (case hd => rfl); (case hg => rfl); (case hr => first | (go_simp; done) | (go_simp; rfl)); (case hp => exact (Reps.one (show Kd.M Kd.string _ _ _ (⟨#[97, 114, 116, 45, 108, 111, 106, 98, 97, 110, 42]⟩ : ByteArray) [.string (⟨#[97, 114, 116, 45, 108, 111, 106, 98, 97, 110, 42]⟩ : ByteArray)] from rfl) (Reps.one (show Kd.M Kd.string _ _ _ (⟨#[99, 101, 108, 45, 103, 97, 117, 108, 105, 115, 104, 42]⟩ : ByteArray) [.string (⟨#[99, 101, 108, 45, 103, 97, 117, 108, 105, 115, 104, 42]⟩ : ByteArray)] from rfl) (Reps.one (show Kd.M Kd.string _ _ _ (⟨#[101, 110, 45, 103, 98, 45, 111, 101, 100]⟩ : ByteArray) [.string (⟨#[101, 110, 45, 103, 98, 45, 111, 101, 100]⟩ : ByteArray)] from rfl) (Reps.one (show Kd.M Kd.string _ _ _ (⟨#[105, 45, 97, 109, 105]⟩ : ByteArray) [.string (⟨#[105, 45, 97, 109, 105]⟩ : ByteArray)] from rfl) (Reps.one (show Kd.M Kd.string _ _ _ (⟨#[105, 45, 98, 110, 110]⟩ : ByteArray) [.string (⟨#[105, 45, 98, 110, 110]⟩ : ByteArray)] from rfl) (Reps.one (show Kd.M Kd.string _ _ _ (⟨#[105, 45, 100, 101, 102, 97, 117, 108, 116]⟩ : ByteArray) [.string (⟨#[105, 45, 100, 101, 102, 97, 117, 108, 116]⟩ : ByteArray)] from rfl) (Reps.one (show Kd.M Kd.string _ _ _ (⟨#[105, 45, 101, 110, 111, 99, 104, 105, 97, 110]⟩ : ByteArray) [.string (⟨#[105, 45, 101, 110, 111, 99, 104, 105, 97, 110]⟩ : ByteArray)] from rfl) (Reps.one (show Kd.M Kd.string _ _ _ (⟨#[105, 45, 104, 97, 107]⟩ : ByteArray) [.string (⟨#[105, 45, 104, 97, 107]⟩ : ByteArray)] from rfl) (Reps.one (show Kd.M Kd.string _ _ _ (⟨#[105, 45, 107, 108, 105, 110, 103, 111, 110]⟩ : ByteArray) [.string (⟨#[105, 45, 107, 108, 105, 110, 103, 111, 110]⟩ : ByteArray)] from rfl) (Reps.one (show Kd.M Kd.string _ _ _ (⟨#[105, 45, 108, 117, 120]⟩ : ByteArray) [.string (⟨#[105, 45, 108, 117, 120]⟩ : ByteArray)] from rfl) (Reps.one (show Kd.M Kd.string _ _ _ (⟨#[105, 45, 109, 105, 110, 103, 111]⟩ : ByteArray) [.string (⟨#[105, 45, 109, 105, 110, 103, 111]⟩ : ByteArray)] from rfl) (Reps.one (show Kd.M Kd.string _ _ _ (⟨#[105, 45, 110, 97, 118, 97, 106, 111]⟩ : ByteArray) [.string (⟨#[105, 45, 110, 97, 118, 97, 106, 111]⟩ : ByteArray)] from rfl) (Reps.one (show Kd.M Kd.string _ _ _ (⟨#[105, 45, 112, 119, 110]⟩ : ByteArray) [.string (⟨#[105, 45, 112, 119, 110]⟩ : ByteArray)] from rfl) (Reps.one (show Kd.M Kd.string _ _ _ (⟨#[105, 45, 116, 97, 111]⟩ : ByteArray) [.string (⟨#[105, 45, 116, 97, 111]⟩ : ByteArray)] from rfl) (Reps.one (show Kd.M Kd.string _ _ _ (⟨#[105, 45, 116, 97, 121]⟩ : ByteArray) [.string (⟨#[105, 45, 116, 97, 121]⟩ : ByteArray)] from rfl) (Reps.one (show Kd.M Kd.string _ _ _ (⟨#[105, 45, 116, 115, 117]⟩ : ByteArray) [.string (⟨#[105, 45, 116, 115, 117]⟩ : ByteArray)] from rfl) (Reps.one (show Kd.M Kd.string _ _ _ (⟨#[110, 111, 45, 98, 111, 107, 42]⟩ : ByteArray) [.string (⟨#[110, 111, 45, 98, 111, 107, 42]⟩ : ByteArray)] from rfl) (Reps.one (show Kd.M Kd.string _ _ _ (⟨#[110, 111, 45, 110, 121, 110, 42]⟩ : ByteArray) [.string (⟨#[110, 111, 45, 110, 121, 110, 42]⟩ : ByteArray)] from rfl) (Reps.one (show Kd.M Kd.string _ _ _ (⟨#[115, 103, 110, 45, 98, 101, 45, 102, 114]⟩ : ByteArray) [.string (⟨#[115, 103, 110, 45, 98, 101, 45, 102, 114]⟩ : ByteArray)] from rfl) (Reps.one (show Kd.M Kd.string _ _ _ (⟨#[115, 103, 110, 45, 98, 101, 45, 110, 108]⟩ : ByteArray) [.string (⟨#[115, 103, 110, 45, 98, 101, 45, 110, 108]⟩ : ByteArray)] from rfl) (Reps.one (show Kd.M Kd.string _ _ _ (⟨#[115, 103, 110, 45, 99, 104, 45, 100, 101]⟩ : ByteArray) [.string (⟨#[115, 103, 110, 45, 99, 104, 45, 100, 101]⟩ : ByteArray)] from rfl) (Reps.one (show Kd.M Kd.string _ _ _ (⟨#[122, 104, 45, 103, 117, 111, 121, 117, 42]⟩ : ByteArray) [.string (⟨#[122, 104, 45, 103, 117, 111, 121, 117, 42]⟩ : ByteArray)] from rfl) (Reps.one (show Kd.M Kd.string _ _ _ (⟨#[122, 104, 45, 104, 97, 107, 107, 97, 42]⟩ : ByteArray) [.string (⟨#[122, 104, 45, 104, 97, 107, 107, 97, 42]⟩ : ByteArray)] from rfl) (Reps.one (show Kd.M Kd.string _ _ _ (⟨#[122, 104, 45, 109, 105, 110, 42]⟩ : ByteArray) [.string (⟨#[122, 104, 45, 109, 105, 110, 42]⟩ : ByteArray)] from rfl) (Reps.one (show Kd.M Kd.string _ _ _ (⟨#[122, 104, 45, 109, 105, 110, 45, 110, 97, 110, 42]⟩ : ByteArray) [.string (⟨#[122, 104, 45, 109, 105, 110, 45, 110, 97, 110, 42]⟩ : ByteArray)] from rfl) (Reps.one (show Kd.M Kd.string _ _ _ (⟨#[122, 104, 45, 120, 105, 97, 110, 103, 42]⟩ : ByteArray) [.string (⟨#[122, 104, 45, 120, 105, 97, 110, 103, 42]⟩ : ByteArray)] from rfl) (Reps.none _ _)))))))))))))))))))))))))))); intro v110 w1 ho2 hb hg_ hnew_; clear hg_ hnew_; (first | rw [← Ny109.out] at ho2 | (simp only [Int.reduceToNat] at ho2; rw [← Ny109.out] at ho2)); have n0_ := Aside0.mk (Kd.R_lower ho2 (below_size (by repeat (first | (with_reducible first | exact HB.out | apply below_alloc | apply pw_below_drewN | apply below_drew1) | exact HB.out)))); have n1_ := Aside0.mk (below_step (by repeat (first | (with_reducible first | exact HB.out | apply below_alloc | apply pw_below_drewN | apply below_drew1) | exact HB.out)) hb); clear HB; have HO111 := n0_; have HB := n1_; clear n0_ n1_; clear hb ho2))
  go_ret
  exact ⟨_, by first | rfl | (simp [errW_none, errW_some] <;> rfl) | (simp [*, errW_none, errW_some] <;> rfl), by (with_reducible repeat (first | apply Kd.R_alloc | apply Kd.R_drewN | apply Kd.R_drew)); exact HO111.out, by repeat (first | (with_reducible first | exact HB.out | apply below_alloc | apply pw_below_drewN | apply below_drew1) | exact HB.out)⟩

/-! ### isoglossref05_Name: function 16 -/
def isoglossref05_Name.f (a0 : ByteArray) : Option (ByteArray) := if 0 ≤ (wrap64 ((a0.size : Int) - 1)) then (if (wrap64 ((a0.size : Int) - 1)) < (a0.size : Int) then (if (bt a0 (wrap64 ((a0.size : Int) - 1))) = 42 then (if (wrap64 ((a0.size : Int) - 1)) ≤ (a0.size : Int) then (some (a0.extract 0 ((wrap64 ((a0.size : Int) - 1)) : Int).toNat)) else (none)) else (some a0)) else (none)) else (none)
set_option maxHeartbeats 8000000 in
set_option maxRecDepth 100000 in
theorem isoglossref05_Name.calls (a0 : ByteArray) (r : ByteArray) (w : World) (h : isoglossref05_Name.f a0 = some r) :
    Calls Tryd.prog 16 #[.string a0] w fun e w' => e = .returned (.string r) ∧ Drawn0 w w' := by
  have H : (if 0 ≤ (wrap64 ((a0.size : Int) - 1)) then (if (wrap64 ((a0.size : Int) - 1)) < (a0.size : Int) then (if (bt a0 (wrap64 ((a0.size : Int) - 1))) = 42 then (if (wrap64 ((a0.size : Int) - 1)) ≤ (a0.size : Int) then (some (a0.extract 0 ((wrap64 ((a0.size : Int) - 1)) : Int).toNat)) else (none)) else (some a0)) else (none)) else (none)) = some r := h
  clear h
  obtain ⟨ji2, hji2⟩ : ∃ j_ : Int, (wrap64 ((a0.size : Int) - 1)) = j_ := ⟨_, rfl⟩
  replace H : (if 0 ≤ (ji2) then (if (ji2) < (a0.size : Int) then (if (bt a0 (ji2)) = 42 then (if (ji2) ≤ (a0.size : Int) then (some (a0.extract 0 ((ji2) : Int).toNat)) else (none)) else (some a0)) else (none)) else (none)) = some r := by first | (rw [hji2] at H; exact H) | (simp only [hji2] at H ⊢; exact H)
  have hji2w : (IntKind.i64.wrap ((a0.size : Int) - 1)) = ji2 := (i64_w _).trans hji2
  by_cases c3 : 0 ≤ (ji2)
  · rw [if_pos c3] at H
    have c3b0 : decide (0 ≤ (ji2)) = true := decide_eq_true c3
    clear c3
    by_cases c4 : (ji2) < (a0.size : Int)
    · rw [if_pos c4] at H
      have c4b0 : decide ((ji2) < (a0.size : Int)) = true := decide_eq_true c4
      clear c4
      by_cases c6 : (bt a0 (ji2)) = 42
      · rw [if_pos c6] at H
        have c6b0 : ((bt a0 (ji2)) == 42) = true := beq_iff_eq.mpr c6
        have c6b1 : ((bt a0 (ji2)) != 42) = false := bne_eq_false_iff_eq.mpr c6
        clear c6
        have c7b0 := eq_true (of_decide_eq_true (by first | (with_reducible assumption) | assumption) : 0 ≤ (ji2))
        by_cases c8 : (ji2) ≤ (a0.size : Int)
        · rw [if_pos c8] at H
          have c8b0 := eq_true c8
          have c8b1 : decide ((ji2) ≤ (a0.size : Int)) = true := decide_eq_true c8
          clear c8
          obtain rfl := Option.some.inj H
          have p5 : 0 ≤ ((ji2) : Int) := of_decide_eq_true (by first | (with_reducible assumption) | assumption)
          have q5 : (ji2) < (a0.size : Int) := of_decide_eq_true (by first | (with_reducible assumption) | assumption)
          have hx5 := bt_at a0 (ji2)
          replace p5 := eq_true p5
          replace q5 := eq_true q5
          go_enter Tryd.func16, Tryd.ntmps16
          go_wp2
          go_ret
          exact ⟨by first | rfl | (simp; done) | (simp only [← hji2] <;> (first | rfl | simp)) | (simp [*]; done), by repeat (first | exact Drawn0.refl _ | apply Drawn0.step)⟩
        · rw [if_neg c8] at H
          exact absurd H (by simp)
      · rw [if_neg c6] at H
        have c6b0 : ((bt a0 (ji2)) == 42) = false := beq_eq_false_iff_ne.mpr c6
        have c6b1 : ((bt a0 (ji2)) != 42) = true := bne_iff_ne.mpr c6
        obtain rfl := Option.some.inj H
        have p5 : 0 ≤ ((ji2) : Int) := of_decide_eq_true (by first | (with_reducible assumption) | assumption)
        have q5 : (ji2) < (a0.size : Int) := of_decide_eq_true (by first | (with_reducible assumption) | assumption)
        have hx5 := bt_at a0 (ji2)
        replace p5 := eq_true p5
        replace q5 := eq_true q5
        go_enter Tryd.func16, Tryd.ntmps16
        go_wp2
        go_ret
        exact ⟨by first | rfl | (simp; done) | (simp only [← hji2] <;> (first | rfl | simp)) | (simp [*]; done), by repeat (first | exact Drawn0.refl _ | apply Drawn0.step)⟩
    · rw [if_neg c4] at H
      exact absurd H (by simp)
  · rw [if_neg c3] at H
    exact absurd H (by simp)

/-! ### isoglosslaw05_rest: function 17 -/
def isoglosslaw05_rest.f (a0 : Int) (a1 : Int) : Option (Int) := if a1 = 0 then (none) else (some (Int.tmod (wrap64 ((Int.tmod a0 a1) + a1)) a1))
set_option maxHeartbeats 8000000 in
set_option maxRecDepth 100000 in
theorem isoglosslaw05_rest.calls (a0 : Int) (a1 : Int) (r : Int) (w : World) (h : isoglosslaw05_rest.f a0 a1 = some r) :
    Calls Tryd.prog 17 #[.int .i64 a0, .int .i64 a1] w fun e w' => e = .returned (.int .i64 r) ∧ Drawn0 w w' := by
  have H : (if a1 = 0 then (none) else (some (Int.tmod (wrap64 ((Int.tmod a0 a1) + a1)) a1))) = some r := h
  clear h
  by_cases c3 : a1 = 0
  · rw [if_pos c3] at H
    exact absurd H (by simp)
  · rw [if_neg c3] at H
    have c3b0 : (a1 == 0) = false := beq_eq_false_iff_ne.mpr c3
    have c3b1 : (a1 != 0) = true := bne_iff_ne.mpr c3
    obtain rfl := Option.some.inj H
    go_enter Tryd.func17, Tryd.ntmps17
    go_wp2
    go_ret
    exact ⟨by first | rfl | (simp; done) | (simp [*]; done), by repeat (first | exact Drawn0.refl _ | apply Drawn0.step)⟩

/-! ### isoglossref02_upper: function 45 -/
def isoglossref02_upper.f (a0 : Int) : Option (Int) := if a0 ≥ 97 then (if a0 ≤ 122 then (some ((((a0 - 97) % 256) + 65) % 256)) else (some a0)) else (some a0)
set_option maxHeartbeats 8000000 in
set_option maxRecDepth 100000 in
theorem isoglossref02_upper.calls (a0 : Int) (r : Int) (w : World) (h : isoglossref02_upper.f a0 = some r) :
    Calls Tryd.prog 45 #[.int .u8 a0] w fun e w' => e = .returned (.int .u8 r) ∧ Drawn0 w w' := by
  have H : (if a0 ≥ 97 then (if a0 ≤ 122 then (some ((((a0 - 97) % 256) + 65) % 256)) else (some a0)) else (some a0)) = some r := h
  clear h
  by_cases c2 : a0 ≥ 97
  · rw [if_pos c2] at H
    have c2b0 : decide (97 ≤ a0) = true := decide_eq_true c2
    clear c2
    by_cases c3 : a0 ≤ 122
    · rw [if_pos c3] at H
      have c3b0 : decide (a0 ≤ 122) = true := decide_eq_true c3
      clear c3
      obtain rfl := Option.some.inj H
      go_enter Tryd.func45, Tryd.ntmps45
      go_wp2
      go_ret
      exact ⟨by first | rfl | (simp; done) | (simp [*]; done), by repeat (first | exact Drawn0.refl _ | apply Drawn0.step)⟩
    · rw [if_neg c3] at H
      have c3b0 : decide (a0 ≤ 122) = false := decide_eq_false c3
      clear c3
      obtain rfl := Option.some.inj H
      go_enter Tryd.func45, Tryd.ntmps45
      go_wp2
      go_ret
      exact ⟨by first | rfl | (simp; done) | (simp [*]; done), by repeat (first | exact Drawn0.refl _ | apply Drawn0.step)⟩
  · rw [if_neg c2] at H
    have c2b0 : decide (97 ≤ a0) = false := decide_eq_false c2
    clear c2
    obtain rfl := Option.some.inj H
    go_enter Tryd.func45, Tryd.ntmps45
    go_wp2
    go_ret
    exact ⟨by first | rfl | (simp; done) | (simp [*]; done), by repeat (first | exact Drawn0.refl _ | apply Drawn0.step)⟩

/-! ### isoglossref02_Upper: function 18 -/
def isoglossref02_Upper.l0 : Nat → ByteArray → List Int → Int → Option (ByteArray)
  | 0, _, _, _ => none
  | k + 1, x0, x3, x4 => if x4 < (x0.size : Int) then (if 0 ≤ x4 then ((isoglossref02_upper.f (bt x0 x4)).bind fun t112 => (if x3.length < 140737488355328 then (isoglossref02_Upper.l0 k x0 (x3 ++ [t112]) (wrap64 (x4 + 1))) else (none))) else (none)) else (some (strOfNums x3))
def isoglossref02_Upper.f (k : Nat) (a0 : ByteArray) : Option (ByteArray) := isoglossref02_Upper.l0 k a0 ([] : List Int) 0
theorem isoglossref02_Upper.mono_l : ∀ k, (∀ y0 y1 y2, LeO (isoglossref02_Upper.l0 k y0 y1 y2) (isoglossref02_Upper.l0 (k + 1) y0 y1 y2))
  | 0 => fun _ _ _ r h => by simp [isoglossref02_Upper.l0] at h
  | k + 1 => by
    have ih0 := isoglossref02_Upper.mono_l k
    · intro y0 y1 y2
      unfold isoglossref02_Upper.l0
      repeat' first
      | (with_reducible exact ih0 _ _ _)
      | (with_reducible exact LeO.refl _)
      | (with_reducible exact LeO.none _)
      | (with_reducible refine LeO.ite ?_ ?_)
      | (with_reducible refine LeO.bind ?_ (fun _ => ?_))
      | exact ih0 _ _ _
      | exact LeO.none _
      | refine LeO.ite ?_ ?_
      | refine LeO.bind ?_ (fun _ => ?_)
theorem isoglossref02_Upper.mono : ∀ a0 k, LeO (isoglossref02_Upper.f k a0) (isoglossref02_Upper.f (k + 1) a0) := by
  intro a0 k
  have ih0 := isoglossref02_Upper.mono_l k
  unfold isoglossref02_Upper.f
  repeat' first
      | (with_reducible exact ih0 _ _ _)
      | (with_reducible exact LeO.refl _)
      | (with_reducible exact LeO.none _)
      | (with_reducible refine LeO.ite ?_ ?_)
      | (with_reducible refine LeO.bind ?_ (fun _ => ?_))
      | exact ih0 _ _ _
      | exact LeO.none _
      | refine LeO.ite ?_ ?_
      | refine LeO.bind ?_ (fun _ => ?_)
set_option maxHeartbeats 8000000 in
set_option maxRecDepth 100000 in
theorem isoglossref02_Upper.calls (k : Nat) (a0 : ByteArray) (r : ByteArray) (w : World) (h : isoglossref02_Upper.f k a0 = some r) :
    Calls Tryd.prog 18 #[.string a0] w fun e w' => e = .returned (.string r) ∧ Below w.heap.size w w' := by
  have HB := Aside0.mk (Below.refl w.heap.size w)
  have H : (isoglossref02_Upper.l0 k a0 ([] : List Int) 0) = some r := h
  clear h
  have H' := Aside0.mk H
  clear H
  go_enter Tryd.func18, Tryd.ntmps18
  go_wp2
  go_loopg [3, 4] k (fun kq v3 v4 w' => ∃ (x3_1 : List Int) (x4_1 : Int), v4 = .int .i64 x4_1 ∧ Aside0 (isoglossref02_Upper.l0 kq a0 x3_1 x4_1 = some r) ∧ Aside0 (kq ≤ k) ∧ Aside0 (Kd.R (Kd.int .u8) 5 w' w.heap.size (fun _ => True) v3 x3_1) ∧ Aside0 (Below w.heap.size w w'))
  case atStart => exact ⟨(([] : List Int)), (0), (by first | rfl | (simp; done) | (simp [*]; done)), H', ⟨Nat.le_refl _⟩, ⟨by first | exact Kd.R_nil _ _ _ _ _ | exact Kd.N_nil _ _ _ _ _ | exact Kd.V_nil _ _ _ _ _ | exact Kd.Q_nil _ _ _ _ _ | exact Kd.S_nil _ _ _ _ _⟩, ⟨by repeat (first | (with_reducible first | exact HB.out | apply below_alloc | apply pw_below_drewN | apply below_drew1) | exact HB.out)⟩⟩
  case round =>
    clear H'
    try clear c1
    obtain ⟨x3_1, x4_1, rfl, HA, HK1, HO_3, HB⟩ := hrel
    cases gk with
    | zero => exact absurd HA.out (by simp [isoglossref02_Upper.l0])
    | succ k1 =>
      have H := HA.out
      clear HA
      simp only [isoglossref02_Upper.l0] at H
      by_cases c2 : x4_1 < (a0.size : Int)
      · rw [if_pos c2] at H
        have c2b0 : decide (x4_1 < (a0.size : Int)) = true := decide_eq_true c2
        clear c2
        by_cases c3 : 0 ≤ x4_1
        · rw [if_pos c3] at H
          have c3b0 : decide (0 ≤ x4_1) = true := decide_eq_true c3
          clear c3
          replace H := Option.bind_eq_some_iff.mp H
          obtain ⟨t112, A50, H⟩ := H
          replace H : (if x3_1.length < 140737488355328 then (isoglossref02_Upper.l0 k1 a0 (x3_1 ++ [t112]) (wrap64 (x4_1 + 1))) else (none)) = some r := H
          have A5 := Aside0.mk A50
          clear A50
          by_cases c6 : x3_1.length < 140737488355328
          · rw [if_pos c6] at H
            have LMc6 := Aside0.mk c6
            clear c6
            obtain ⟨y113, hy113⟩ : ∃ y_ : List Int, y_ = (x3_1 ++ [t112]) := ⟨_, rfl⟩
            replace H : (isoglossref02_Upper.l0 k1 a0 y113 (wrap64 (x4_1 + 1))) = some r := by first | (rw [hy113]; with_reducible exact H) | (have H2_ := (Option.bind_some _ _).symm.trans H; rw [hy113]; with_reducible exact H2_) | (have H2_ := (Option.bind_some _ _).symm.trans H; with_reducible exact H2_) | with_reducible exact H | (rw [hy113]; exact H) | exact H
            have Ny113 := Aside0.mk hy113
            clear hy113
            have H' := Aside0.mk H
            clear H
            have p4 : 0 ≤ (x4_1 : Int) := of_decide_eq_true (by first | (with_reducible assumption) | assumption)
            have q4 : x4_1 < (a0.size : Int) := of_decide_eq_true (by first | (with_reducible assumption) | assumption)
            have hx4 := bt_at a0 x4_1
            replace p4 := eq_true p4
            replace q4 := eq_true q4
            go_wp2_with (first | ((with_reducible refine gate_callee (f := 45) rfl ?_); refine goesL_ (some 15) rfl rfl Tryd.func45 (by kernel_rfl) rfl #[.int .u8 (bt a0 x4_1)] rfl (by (try simp only [List.map_toArray, List.map_cons, List.map_nil]); first | done | rfl | (simp only [List.length_drop, List.length_take]; rfl)) ?_; (with_reducible refine (isoglossref02_upper.calls (bt a0 x4_1) t112 _ A5.out).mono ?_); rintro e w' ⟨rfl, ⟨nd, rfl⟩⟩; refine ⟨_, rfl, ?_⟩; (try clear A5)) | ((with_reducible refine gate_builtin (b := .append) (xs := #[.tmp 11, .tmp 16]) rfl ?_); at_builtin; refine Kd.R_append (Kd.int .u8) (w0 := w) w.heap.size rfl (.tmp 11) (.tmp 16) 28 5 (.int .u8 0) 1 rfl Tryd.underlying28 info5 rfl (by decide) (by omega) u3 x3_1 t112 [.int .u8 t112] (fun _ => True) (fun _ => False) rfl rfl ?aP (fun _ hk => hk.elim) ?aF ?aO ?aB ?aS ?aL ?_; (case aP => exact rfl); (case aB => exact (by repeat (first | (with_reducible first | exact HB.out | apply below_alloc | apply pw_below_drewN | apply below_drew1) | exact HB.out))); (case aF => exact (fun _ _ => trivial)); (case aO => exact (by (with_reducible repeat (first | apply Kd.R_alloc | apply Kd.R_drewN | apply Kd.R_drew)); exact HO_3.out)); (case aS => exact (below_size (by repeat (first | (with_reducible first | exact HB.out | apply below_alloc | apply pw_below_drewN | apply below_drew1) | exact HB.out)))); (case aL => have := LMc6.out; omega); intro v114 w7 ho hb hg hat; rw [← Ny113.out] at ho; have n0_ := Aside0.mk (hb); have n1_ := Aside0.mk (ho); clear HB; clear HO_3; have HB := n0_; have HO115 := n1_; clear n0_ n1_; clear ho hb hg hat))
            go_roundg k1
            case measure => have := HK1.out; omega
            case rel => exact ⟨(y113), (wrap64 (x4_1 + 1)), (by first | rfl | (simp; done) | (simp [*]; done)), H', ⟨by have := HK1.out; omega⟩, ⟨by (with_reducible repeat (first | apply Kd.R_alloc | apply Kd.R_drewN | apply Kd.R_drew)); exact HO115.out⟩, ⟨by repeat (first | (with_reducible first | exact HB.out | apply below_alloc | apply pw_below_drewN | apply below_drew1) | exact HB.out)⟩⟩
          · rw [if_neg c6] at H
            exact absurd H (by simp)
        · rw [if_neg c3] at H
          exact absurd H (by simp)
      · rw [if_neg c2] at H
        have c2b0 : decide (x4_1 < (a0.size : Int)) = false := decide_eq_false c2
        clear c2
        obtain rfl := Option.some.inj H
        have hcv8 := own_string (P := Tryd.prog) Tryd.underlying28 Tryd.underlying5 Tryd.underlying9 (Kd.own_of_R HO_3.out)
        go_wp2
        go_ret
        exact ⟨by first | rfl | (simp [errW_none, errW_some] <;> rfl) | (simp [*, errW_none, errW_some] <;> rfl), by repeat (first | (with_reducible first | exact HB.out | apply below_alloc | apply pw_below_drewN | apply below_drew1) | exact HB.out)⟩

/-! ### isoglossref02_lower: function 53 -/
def isoglossref02_lower.f (a0 : Int) : Option (Int) := if a0 ≥ 65 then (if a0 ≤ 90 then (some ((((a0 - 65) % 256) + 97) % 256)) else (some a0)) else (some a0)
set_option maxHeartbeats 8000000 in
set_option maxRecDepth 100000 in
theorem isoglossref02_lower.calls (a0 : Int) (r : Int) (w : World) (h : isoglossref02_lower.f a0 = some r) :
    Calls Tryd.prog 53 #[.int .u8 a0] w fun e w' => e = .returned (.int .u8 r) ∧ Drawn0 w w' := by
  have H : (if a0 ≥ 65 then (if a0 ≤ 90 then (some ((((a0 - 65) % 256) + 97) % 256)) else (some a0)) else (some a0)) = some r := h
  clear h
  by_cases c2 : a0 ≥ 65
  · rw [if_pos c2] at H
    have c2b0 : decide (65 ≤ a0) = true := decide_eq_true c2
    clear c2
    by_cases c3 : a0 ≤ 90
    · rw [if_pos c3] at H
      have c3b0 : decide (a0 ≤ 90) = true := decide_eq_true c3
      clear c3
      obtain rfl := Option.some.inj H
      go_enter Tryd.func53, Tryd.ntmps53
      go_wp2
      go_ret
      exact ⟨by first | rfl | (simp; done) | (simp [*]; done), by repeat (first | exact Drawn0.refl _ | apply Drawn0.step)⟩
    · rw [if_neg c3] at H
      have c3b0 : decide (a0 ≤ 90) = false := decide_eq_false c3
      clear c3
      obtain rfl := Option.some.inj H
      go_enter Tryd.func53, Tryd.ntmps53
      go_wp2
      go_ret
      exact ⟨by first | rfl | (simp; done) | (simp [*]; done), by repeat (first | exact Drawn0.refl _ | apply Drawn0.step)⟩
  · rw [if_neg c2] at H
    have c2b0 : decide (65 ≤ a0) = false := decide_eq_false c2
    clear c2
    obtain rfl := Option.some.inj H
    go_enter Tryd.func53, Tryd.ntmps53
    go_wp2
    go_ret
    exact ⟨by first | rfl | (simp; done) | (simp [*]; done), by repeat (first | exact Drawn0.refl _ | apply Drawn0.step)⟩

/-! ### isoglossref02_Lower: function 27 -/
def isoglossref02_Lower.l0 : Nat → ByteArray → List Int → Int → Option (ByteArray)
  | 0, _, _, _ => none
  | k + 1, x0, x3, x4 => if x4 < (x0.size : Int) then (if 0 ≤ x4 then ((isoglossref02_lower.f (bt x0 x4)).bind fun t116 => (if x3.length < 140737488355328 then (isoglossref02_Lower.l0 k x0 (x3 ++ [t116]) (wrap64 (x4 + 1))) else (none))) else (none)) else (some (strOfNums x3))
def isoglossref02_Lower.f (k : Nat) (a0 : ByteArray) : Option (ByteArray) := isoglossref02_Lower.l0 k a0 ([] : List Int) 0
theorem isoglossref02_Lower.mono_l : ∀ k, (∀ y0 y1 y2, LeO (isoglossref02_Lower.l0 k y0 y1 y2) (isoglossref02_Lower.l0 (k + 1) y0 y1 y2))
  | 0 => fun _ _ _ r h => by simp [isoglossref02_Lower.l0] at h
  | k + 1 => by
    have ih0 := isoglossref02_Lower.mono_l k
    · intro y0 y1 y2
      unfold isoglossref02_Lower.l0
      repeat' first
      | (with_reducible exact ih0 _ _ _)
      | (with_reducible exact LeO.refl _)
      | (with_reducible exact LeO.none _)
      | (with_reducible refine LeO.ite ?_ ?_)
      | (with_reducible refine LeO.bind ?_ (fun _ => ?_))
      | exact ih0 _ _ _
      | exact LeO.none _
      | refine LeO.ite ?_ ?_
      | refine LeO.bind ?_ (fun _ => ?_)
theorem isoglossref02_Lower.mono : ∀ a0 k, LeO (isoglossref02_Lower.f k a0) (isoglossref02_Lower.f (k + 1) a0) := by
  intro a0 k
  have ih0 := isoglossref02_Lower.mono_l k
  unfold isoglossref02_Lower.f
  repeat' first
      | (with_reducible exact ih0 _ _ _)
      | (with_reducible exact LeO.refl _)
      | (with_reducible exact LeO.none _)
      | (with_reducible refine LeO.ite ?_ ?_)
      | (with_reducible refine LeO.bind ?_ (fun _ => ?_))
      | exact ih0 _ _ _
      | exact LeO.none _
      | refine LeO.ite ?_ ?_
      | refine LeO.bind ?_ (fun _ => ?_)
set_option maxHeartbeats 8000000 in
set_option maxRecDepth 100000 in
theorem isoglossref02_Lower.calls (k : Nat) (a0 : ByteArray) (r : ByteArray) (w : World) (h : isoglossref02_Lower.f k a0 = some r) :
    Calls Tryd.prog 27 #[.string a0] w fun e w' => e = .returned (.string r) ∧ Below w.heap.size w w' := by
  have HB := Aside0.mk (Below.refl w.heap.size w)
  have H : (isoglossref02_Lower.l0 k a0 ([] : List Int) 0) = some r := h
  clear h
  have H' := Aside0.mk H
  clear H
  go_enter Tryd.func27, Tryd.ntmps27
  go_wp2
  go_loopg [3, 4] k (fun kq v3 v4 w' => ∃ (x3_1 : List Int) (x4_1 : Int), v4 = .int .i64 x4_1 ∧ Aside0 (isoglossref02_Lower.l0 kq a0 x3_1 x4_1 = some r) ∧ Aside0 (kq ≤ k) ∧ Aside0 (Kd.R (Kd.int .u8) 5 w' w.heap.size (fun _ => True) v3 x3_1) ∧ Aside0 (Below w.heap.size w w'))
  case atStart => exact ⟨(([] : List Int)), (0), (by first | rfl | (simp; done) | (simp [*]; done)), H', ⟨Nat.le_refl _⟩, ⟨by first | exact Kd.R_nil _ _ _ _ _ | exact Kd.N_nil _ _ _ _ _ | exact Kd.V_nil _ _ _ _ _ | exact Kd.Q_nil _ _ _ _ _ | exact Kd.S_nil _ _ _ _ _⟩, ⟨by repeat (first | (with_reducible first | exact HB.out | apply below_alloc | apply pw_below_drewN | apply below_drew1) | exact HB.out)⟩⟩
  case round =>
    clear H'
    obtain ⟨x3_1, x4_1, rfl, HA, HK1, HO_3, HB⟩ := hrel
    cases gk with
    | zero => exact absurd HA.out (by simp [isoglossref02_Lower.l0])
    | succ k1 =>
      have H := HA.out
      clear HA
      simp only [isoglossref02_Lower.l0] at H
      by_cases c2 : x4_1 < (a0.size : Int)
      · rw [if_pos c2] at H
        have c2b0 : decide (x4_1 < (a0.size : Int)) = true := decide_eq_true c2
        clear c2
        by_cases c3 : 0 ≤ x4_1
        · rw [if_pos c3] at H
          have c3b0 : decide (0 ≤ x4_1) = true := decide_eq_true c3
          clear c3
          replace H := Option.bind_eq_some_iff.mp H
          obtain ⟨t116, A50, H⟩ := H
          replace H : (if x3_1.length < 140737488355328 then (isoglossref02_Lower.l0 k1 a0 (x3_1 ++ [t116]) (wrap64 (x4_1 + 1))) else (none)) = some r := H
          have A5 := Aside0.mk A50
          clear A50
          by_cases c6 : x3_1.length < 140737488355328
          · rw [if_pos c6] at H
            have LMc6 := Aside0.mk c6
            clear c6
            obtain ⟨y117, hy117⟩ : ∃ y_ : List Int, y_ = (x3_1 ++ [t116]) := ⟨_, rfl⟩
            replace H : (isoglossref02_Lower.l0 k1 a0 y117 (wrap64 (x4_1 + 1))) = some r := by first | (rw [hy117]; with_reducible exact H) | (have H2_ := (Option.bind_some _ _).symm.trans H; rw [hy117]; with_reducible exact H2_) | (have H2_ := (Option.bind_some _ _).symm.trans H; with_reducible exact H2_) | with_reducible exact H | (rw [hy117]; exact H) | exact H
            have Ny117 := Aside0.mk hy117
            clear hy117
            have H' := Aside0.mk H
            clear H
            have p4 : 0 ≤ (x4_1 : Int) := of_decide_eq_true (by first | (with_reducible assumption) | assumption)
            have q4 : x4_1 < (a0.size : Int) := of_decide_eq_true (by first | (with_reducible assumption) | assumption)
            have hx4 := bt_at a0 x4_1
            replace p4 := eq_true p4
            replace q4 := eq_true q4
            go_wp2_with (first | ((with_reducible refine gate_callee (f := 53) rfl ?_); refine goesL_ (some 15) rfl rfl Tryd.func53 (by kernel_rfl) rfl #[.int .u8 (bt a0 x4_1)] rfl (by (try simp only [List.map_toArray, List.map_cons, List.map_nil]); first | done | rfl | (simp only [List.length_drop, List.length_take]; rfl)) ?_; (with_reducible refine (isoglossref02_lower.calls (bt a0 x4_1) t116 _ A5.out).mono ?_); rintro e w' ⟨rfl, ⟨nd, rfl⟩⟩; refine ⟨_, rfl, ?_⟩; (try clear A5)) | ((with_reducible refine gate_builtin (b := .append) (xs := #[.tmp 11, .tmp 16]) rfl ?_); at_builtin; refine Kd.R_append (Kd.int .u8) (w0 := w) w.heap.size rfl (.tmp 11) (.tmp 16) 28 5 (.int .u8 0) 1 rfl Tryd.underlying28 info5 rfl (by decide) (by omega) u3 x3_1 t116 [.int .u8 t116] (fun _ => True) (fun _ => False) rfl rfl ?aP (fun _ hk => hk.elim) ?aF ?aO ?aB ?aS ?aL ?_; (case aP => exact rfl); (case aB => exact (by repeat (first | (with_reducible first | exact HB.out | apply below_alloc | apply pw_below_drewN | apply below_drew1) | exact HB.out))); (case aF => exact (fun _ _ => trivial)); (case aO => exact (by (with_reducible repeat (first | apply Kd.R_alloc | apply Kd.R_drewN | apply Kd.R_drew)); exact HO_3.out)); (case aS => exact (below_size (by repeat (first | (with_reducible first | exact HB.out | apply below_alloc | apply pw_below_drewN | apply below_drew1) | exact HB.out)))); (case aL => have := LMc6.out; omega); intro v118 w7 ho hb hg hat; rw [← Ny117.out] at ho; have n0_ := Aside0.mk (hb); have n1_ := Aside0.mk (ho); clear HB; clear HO_3; have HB := n0_; have HO119 := n1_; clear n0_ n1_; clear ho hb hg hat))
            go_roundg k1
            case measure => have := HK1.out; omega
            case rel => exact ⟨(y117), (wrap64 (x4_1 + 1)), (by first | rfl | (simp; done) | (simp [*]; done)), H', ⟨by have := HK1.out; omega⟩, ⟨by (with_reducible repeat (first | apply Kd.R_alloc | apply Kd.R_drewN | apply Kd.R_drew)); exact HO119.out⟩, ⟨by repeat (first | (with_reducible first | exact HB.out | apply below_alloc | apply pw_below_drewN | apply below_drew1) | exact HB.out)⟩⟩
          · rw [if_neg c6] at H
            exact absurd H (by simp)
        · rw [if_neg c3] at H
          exact absurd H (by simp)
      · rw [if_neg c2] at H
        have c2b0 : decide (x4_1 < (a0.size : Int)) = false := decide_eq_false c2
        clear c2
        obtain rfl := Option.some.inj H
        have hcv8 := own_string (P := Tryd.prog) Tryd.underlying28 Tryd.underlying5 Tryd.underlying9 (Kd.own_of_R HO_3.out)
        go_wp2
        go_ret
        exact ⟨by first | rfl | (simp [errW_none, errW_some] <;> rfl) | (simp [*, errW_none, errW_some] <;> rfl), by repeat (first | (with_reducible first | exact HB.out | apply below_alloc | apply pw_below_drewN | apply below_drew1) | exact HB.out)⟩

end Go.Proofs.YtmbfnbnlajchmaaDoor.P
