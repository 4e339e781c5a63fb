/- Made by a program of this seat's own (myprint.py, round the kit's print): what the functions compute, and that they do. -/
import Derived.Test.YtmbfnbnlajchmaaDoorP0
import Derived.Test.YtmbfnbnlajchmaaDoorP1
namespace Go.Proofs.YtmbfnbnlajchmaaDoor.P
open Go.RowKit Go.Proofs.YtmbfnbnlajchmaaDoorW.PrintWords Go.Proofs.YtmbfnbnlajchmaaDoorW.PrintLast Go.Proofs.YtmbfnbnlajchmaaDoorW.PrintMore
attribute [local go_sem] StrOrd.binOp_gtr StrOrd.binOp_leq max2_int min2_int max_two min_two max_three min_three max_four min_four   -- for this text's walks alone
set_option linter.unusedVariables false
set_option linter.unusedSimpArgs false

/-! ### grand_Name: function 21 -/
def grand_Name.f (a0 : Int) : Option (ByteArray × Bool) := if 0 ≤ a0 ∧ a0 < 26 then some (GrandW.nameAt a0, true) else some (⟨#[]⟩, false)
theorem grand_Name.calls (a0 : Int) (r1 : ByteArray) (r2 : Bool) (w : World) (h : grand_Name.f a0 = some (r1, r2)) (hG : GrandW.G w) :
    Calls Tryd.prog 21 #[.int .i64 a0] w fun e w' => e = .returned (.tuple #[.string r1, .bool r2]) ∧ Drawn0 w w' := by
  unfold grand_Name.f at h
  by_cases c : 0 ≤ a0 ∧ a0 < 26
  · rw [if_pos c] at h
    obtain ⟨rfl, rfl⟩ := Prod.mk.inj (Option.some.inj h)
    exact (GrandW.name_some a0 w hG c.1 c.2).mono fun e w' ⟨he, hw⟩ => ⟨he, hw ▸ Drawn0.refl w⟩
  · rw [if_neg c] at h
    obtain ⟨rfl, rfl⟩ := Prod.mk.inj (Option.some.inj h)
    exact (GrandW.name_none a0 w c).mono fun e w' ⟨he, hw⟩ => ⟨he, hw ▸ Drawn0.refl w⟩

/-! ### isoglossref02_Compare: function 22 -/
mutual
def isoglossref02_Compare.l0 : Nat → ByteArray → ByteArray → Int → Option (Int)
  | 0, _, _, _ => none
  | k + 1, x5, x6, x7 => if x7 < (x5.size : Int) then (isoglossref02_Compare.j1 k x5 x6 x7 (decide (x7 < (x6.size : Int)))) else (isoglossref02_Compare.j1 k x5 x6 x7 false)
def isoglossref02_Compare.j1 : Nat → ByteArray → ByteArray → Int → Bool → Option (Int)
  | 0, _, _, _, _ => none
  | k + 1, x5, x6, x7, x21 => if x21 = true then (if 0 ≤ x7 then (if x7 < (x5.size : Int) then (if x7 < (x6.size : Int) then (if (bt x5 x7) < (bt x6 x7) then (some (-1)) else (if (bt x5 x7) > (bt x6 x7) then (some 1) else (isoglossref02_Compare.l0 k x5 x6 (wrap64 (x7 + 1))))) else (none)) else (none)) else (none)) else (if (x5.size : Int) < (x6.size : Int) then (some (-1)) else (if (x5.size : Int) > (x6.size : Int) then (some 1) else (some 0)))
end
def isoglossref02_Compare.f (k : Nat) (a0 : ByteArray) (a1 : ByteArray) : Option (Int) := (isoglossref02_Lower.f k a0).bind fun t153 => ((isoglossref02_Lower.f k a1).bind fun t154 => (isoglossref02_Compare.l0 k t153 t154 0))
theorem isoglossref02_Compare.mono_l : ∀ k, (∀ y0 y1 y2, LeO (isoglossref02_Compare.l0 k y0 y1 y2) (isoglossref02_Compare.l0 (k + 1) y0 y1 y2)) ∧ (∀ y0 y1 y2 y3, LeO (isoglossref02_Compare.j1 k y0 y1 y2 y3) (isoglossref02_Compare.j1 (k + 1) y0 y1 y2 y3))
  | 0 => ⟨fun _ _ _ r h => by simp [isoglossref02_Compare.l0] at h, fun _ _ _ _ r h => by simp [isoglossref02_Compare.j1] at h⟩
  | k + 1 => by
    obtain ⟨ih0, ih1⟩ := isoglossref02_Compare.mono_l k
    refine ⟨?_, ?_⟩
    · intro y0 y1 y2
      unfold isoglossref02_Compare.l0
      repeat' first
      | (with_reducible exact ih0 _ _ _)
      | (with_reducible exact ih1 _ _ _ _)
      | (with_reducible exact isoglossref02_Lower.mono _ _)
      | (with_reducible exact LeO.refl _)
      | (with_reducible exact LeO.none _)
      | (with_reducible refine LeO.ite ?_ ?_)
      | (with_reducible refine LeO.bind ?_ (fun _ => ?_))
      | exact ih0 _ _ _
      | exact ih1 _ _ _ _
      | exact isoglossref02_Lower.mono _ _
      | exact LeO.none _
      | refine LeO.ite ?_ ?_
      | refine LeO.bind ?_ (fun _ => ?_)
    · intro y0 y1 y2 y3
      unfold isoglossref02_Compare.j1
      repeat' first
      | (with_reducible exact ih0 _ _ _)
      | (with_reducible exact ih1 _ _ _ _)
      | (with_reducible exact isoglossref02_Lower.mono _ _)
      | (with_reducible exact LeO.refl _)
      | (with_reducible exact LeO.none _)
      | (with_reducible refine LeO.ite ?_ ?_)
      | (with_reducible refine LeO.bind ?_ (fun _ => ?_))
      | exact ih0 _ _ _
      | exact ih1 _ _ _ _
      | exact isoglossref02_Lower.mono _ _
      | exact LeO.none _
      | refine LeO.ite ?_ ?_
      | refine LeO.bind ?_ (fun _ => ?_)
theorem isoglossref02_Compare.mono : ∀ a0 a1 k, LeO (isoglossref02_Compare.f k a0 a1) (isoglossref02_Compare.f (k + 1) a0 a1) := by
  intro a0 a1 k
  obtain ⟨ih0, ih1⟩ := isoglossref02_Compare.mono_l k
  unfold isoglossref02_Compare.f
  repeat' first
      | (with_reducible exact ih0 _ _ _)
      | (with_reducible exact ih1 _ _ _ _)
      | (with_reducible exact isoglossref02_Lower.mono _ _)
      | (with_reducible exact LeO.refl _)
      | (with_reducible exact LeO.none _)
      | (with_reducible refine LeO.ite ?_ ?_)
      | (with_reducible refine LeO.bind ?_ (fun _ => ?_))
      | exact ih0 _ _ _
      | exact ih1 _ _ _ _
      | exact isoglossref02_Lower.mono _ _
      | exact LeO.none _
      | refine LeO.ite ?_ ?_
      | refine LeO.bind ?_ (fun _ => ?_)
set_option maxHeartbeats 8000000 in
set_option maxRecDepth 100000 in
theorem isoglossref02_Compare.calls (k : Nat) (a0 : ByteArray) (a1 : ByteArray) (r : Int) (w : World) (h : isoglossref02_Compare.f k a0 a1 = some r) :
    Calls Tryd.prog 22 #[.string a0, .string a1] w fun e w' => e = .returned (.int .i64 r) ∧ Below w.heap.size w w' := by
  have HB := Aside0.mk (Below.refl w.heap.size w)
  have H : ((isoglossref02_Lower.f k a0).bind fun t153 => ((isoglossref02_Lower.f k a1).bind fun t154 => (isoglossref02_Compare.l0 k t153 t154 0))) = some r := h
  clear h
  replace H := Option.bind_eq_some_iff.mp H
  obtain ⟨t153, A30, H⟩ := H
  replace H : ((isoglossref02_Lower.f k a1).bind fun t154 => (isoglossref02_Compare.l0 k t153 t154 0)) = some r := H
  have A3 := Aside0.mk A30
  clear A30
  replace H := Option.bind_eq_some_iff.mp H
  obtain ⟨t154, A40, H⟩ := H
  replace H : (isoglossref02_Compare.l0 k t153 t154 0) = some r := H
  have A4 := Aside0.mk A40
  clear A40
  have H' := Aside0.mk H
  clear H
  go_enter Tryd.func22, Tryd.ntmps22
  go_wp2_with (first | (go_at_call 27; (with_reducible refine (isoglossref02_Lower.calls k a0 t153 _ A3.out).mono ?_); rintro e w5 ⟨rfl, hb⟩; have n0_ := Aside0.mk (below_step (by repeat (first | (with_reducible first | exact HB.out | apply below_alloc | apply pw_below_drewN | apply below_drew1) | exact HB.out)) hb); clear HB; have HB := n0_; clear n0_; (try clear hb); (try clear hb2); (try clear hk); (try clear hi); (try clear A3)) | (go_at_call 27; (with_reducible refine (isoglossref02_Lower.calls k a1 t154 _ A4.out).mono ?_); rintro e w6 ⟨rfl, hb⟩; have n0_ := Aside0.mk (below_step (by repeat (first | (with_reducible first | exact HB.out | apply below_alloc | apply pw_below_drewN | apply below_drew1) | exact HB.out)) hb); clear HB; have HB := n0_; clear n0_; (try clear hb); (try clear hb2); (try clear hk); (try clear hi); (try clear A4)))
  repeat (go_quiet (first | (go_at_call 27; (with_reducible refine (isoglossref02_Lower.calls k a0 t153 _ A3.out).mono ?_); rintro e w5 ⟨rfl, hb⟩; have n0_ := Aside0.mk (below_step (by repeat (first | (with_reducible first | exact HB.out | apply below_alloc | apply pw_below_drewN | apply below_drew1) | exact HB.out)) hb); clear HB; have HB := n0_; clear n0_; (try clear hb); (try clear hb2); (try clear hk); (try clear hi); (try clear A3)) | (go_at_call 27; (with_reducible refine (isoglossref02_Lower.calls k a1 t154 _ A4.out).mono ?_); rintro e w6 ⟨rfl, hb⟩; have n0_ := Aside0.mk (below_step (by repeat (first | (with_reducible first | exact HB.out | apply below_alloc | apply pw_below_drewN | apply below_drew1) | exact HB.out)) hb); clear HB; have HB := n0_; clear n0_; (try clear hb); (try clear hb2); (try clear hk); (try clear hi); (try clear A4))); try go_wp2_with (first | (go_at_call 27; (with_reducible refine (isoglossref02_Lower.calls k a0 t153 _ A3.out).mono ?_); rintro e w5 ⟨rfl, hb⟩; have n0_ := Aside0.mk (below_step (by repeat (first | (with_reducible first | exact HB.out | apply below_alloc | apply pw_below_drewN | apply below_drew1) | exact HB.out)) hb); clear HB; have HB := n0_; clear n0_; (try clear hb); (try clear hb2); (try clear hk); (try clear hi); (try clear A3)) | (go_at_call 27; (with_reducible refine (isoglossref02_Lower.calls k a1 t154 _ A4.out).mono ?_); rintro e w6 ⟨rfl, hb⟩; have n0_ := Aside0.mk (below_step (by repeat (first | (with_reducible first | exact HB.out | apply below_alloc | apply pw_below_drewN | apply below_drew1) | exact HB.out)) hb); clear HB; have HB := n0_; clear n0_; (try clear hb); (try clear hb2); (try clear hk); (try clear hi); (try clear A4))))
  go_loopg [7] k (fun kq v7 w' => ∃ (x7_1 : Int), v7 = .int .i64 x7_1 ∧ Aside0 (isoglossref02_Compare.l0 kq t153 t154 x7_1 = some r) ∧ Aside0 (kq ≤ k) ∧ Aside0 (Below w.heap.size w w'))
  case atStart => exact ⟨(0), (by first | rfl | (simp; done) | (simp [*]; done)), H', ⟨Nat.le_refl _⟩, ⟨by repeat (first | (with_reducible first | exact HB.out | apply below_alloc | apply pw_below_drewN | apply below_drew1) | exact HB.out)⟩⟩
  case round =>
    clear H'
    try clear c2
    try clear p2
    obtain ⟨x7_1, rfl, HA, HK1, HB⟩ := hrel
    cases gk with
    | zero => exact absurd HA.out (by simp [isoglossref02_Compare.l0])
    | succ k1 =>
      have H := HA.out
      clear HA
      simp only [isoglossref02_Compare.l0] at H
      have HC7 := Aside0.mk H
      clear H
      go_upto_region 4 with (fail)
      repeat (go_quiet (fail); go_upto_region 4 with (fail))
      go_cut [21] (fun v21 wc => ∃ (kq : Nat) (x21_6 : Bool), v21 = .bool x21_6 ∧ Aside0 (isoglossref02_Compare.j1 kq t153 t154 x7_1 x21_6 = some r) ∧ Aside0 (kq ≤ k1) ∧ Aside0 (Below w.heap.size w wc))
      case first =>
        have H := HC7.out
        clear HC7
        by_cases c8 : x7_1 < (t153.size : Int)
        · rw [if_pos c8] at H
          have c8b0 : decide (x7_1 < (t153.size : Int)) = true := decide_eq_true c8
          clear c8
          (first | rw [c8b0] | (simp only [i64_w, i32_w]; rw [c8b0]) | rw [c8b2] | skip)
          have H' := Aside0.mk H
          clear H
          go_wp2
          repeat (go_quiet (fail); try go_wp2)
          go_meet
          case rel => exact ⟨_, (decide (x7_1 < (t154.size : Int))), (by first | rfl | (simp; done) | (simp [*]; done)), H', ⟨by have := HK1.out; first | omega | exact Nat.le_refl _⟩, ⟨by repeat (first | (with_reducible first | exact HB.out | apply below_alloc | apply pw_below_drewN | apply below_drew1) | exact HB.out)⟩⟩
        · rw [if_neg c8] at H
          have c8b0 : decide (x7_1 < (t153.size : Int)) = false := decide_eq_false c8
          clear c8
          (first | rw [c8b0] | (simp only [i64_w, i32_w]; rw [c8b0]) | rw [c8b2] | skip)
          have H' := Aside0.mk H
          clear H
          go_wp2
          repeat (go_quiet (fail); try go_wp2)
          go_meet
          case rel => exact ⟨_, (false), (by first | rfl | (simp; done) | (simp [*]; done)), H', ⟨by have := HK1.out; first | omega | exact Nat.le_refl _⟩, ⟨by repeat (first | (with_reducible first | exact HB.out | apply below_alloc | apply pw_below_drewN | apply below_drew1) | exact HB.out)⟩⟩
      case rest =>
        clear HC7
        try clear c2
        try clear p2
        try clear c8
        try clear c8b0
        try clear p2
        obtain ⟨kq, x21_6, rfl, HA, HJ6, HB⟩ := hcut
        cases kq with
        | zero => exact absurd HA.out (by simp [isoglossref02_Compare.j1])
        | succ kj6 =>
          have H := HA.out
          clear HA
          simp only [isoglossref02_Compare.j1] at H
          by_cases c9 : x21_6 = true
          · subst c9
            have H1 : (if 0 ≤ x7_1 then (if x7_1 < (t153.size : Int) then (if x7_1 < (t154.size : Int) then (if (bt t153 x7_1) < (bt t154 x7_1) then (some (-1)) else (if (bt t153 x7_1) > (bt t154 x7_1) then (some 1) else (isoglossref02_Compare.l0 kj6 t153 t154 (wrap64 (x7_1 + 1))))) else (none)) else (none)) else (none)) = some r := by rw [if_pos rfl] at H; exact H
            clear H
            have H := H1
            clear H1
            by_cases c10 : 0 ≤ x7_1
            · rw [if_pos c10] at H
              have c10b0 : decide (0 ≤ x7_1) = true := decide_eq_true c10
              clear c10
              by_cases c11 : x7_1 < (t153.size : Int)
              · rw [if_pos c11] at H
                have c11b0 : decide (x7_1 < (t153.size : Int)) = true := decide_eq_true c11
                clear c11
                by_cases c13 : x7_1 < (t154.size : Int)
                · rw [if_pos c13] at H
                  have c13b0 : decide (x7_1 < (t154.size : Int)) = true := decide_eq_true c13
                  clear c13
                  by_cases c15 : (bt t153 x7_1) < (bt t154 x7_1)
                  · rw [if_pos c15] at H
                    have c15b0 : decide ((bt t153 x7_1) < (bt t154 x7_1)) = true := decide_eq_true c15
                    clear c15
                    obtain rfl := Option.some.inj H
                    have p12 : 0 ≤ (x7_1 : Int) := of_decide_eq_true (by first | (with_reducible assumption) | assumption)
                    have q12 : x7_1 < (t153.size : Int) := of_decide_eq_true (by first | (with_reducible assumption) | assumption)
                    have hx12 := bt_at t153 x7_1
                    replace p12 := eq_true p12
                    replace q12 := eq_true q12
                    have p14 : 0 ≤ (x7_1 : Int) := of_decide_eq_true (by first | (with_reducible assumption) | assumption)
                    have q14 : x7_1 < (t154.size : Int) := of_decide_eq_true (by first | (with_reducible assumption) | assumption)
                    have hx14 := bt_at t154 x7_1
                    replace p14 := eq_true p14
                    replace q14 := eq_true q14
                    go_wp2
                    repeat (go_quiet (fail); try go_wp2)
                    go_ret
                    exact ⟨by first | rfl | (simp [errW_none, errW_some] <;> rfl) | (simp [*, errW_none, errW_some] <;> rfl), by repeat (first | (with_reducible first | exact HB.out | apply below_alloc | apply pw_below_drewN | apply below_drew1) | exact HB.out)⟩
                  · rw [if_neg c15] at H
                    have c15b0 : decide ((bt t153 x7_1) < (bt t154 x7_1)) = false := decide_eq_false c15
                    clear c15
                    by_cases c18 : (bt t153 x7_1) > (bt t154 x7_1)
                    · rw [if_pos c18] at H
                      have c18b0 : decide ((bt t154 x7_1) < (bt t153 x7_1)) = true := decide_eq_true c18
                      clear c18
                      obtain rfl := Option.some.inj H
                      have p12 : 0 ≤ (x7_1 : Int) := of_decide_eq_true (by first | (with_reducible assumption) | assumption)
                      have q12 : x7_1 < (t153.size : Int) := of_decide_eq_true (by first | (with_reducible assumption) | assumption)
                      have hx12 := bt_at t153 x7_1
                      replace p12 := eq_true p12
                      replace q12 := eq_true q12
                      have p14 : 0 ≤ (x7_1 : Int) := of_decide_eq_true (by first | (with_reducible assumption) | assumption)
                      have q14 : x7_1 < (t154.size : Int) := of_decide_eq_true (by first | (with_reducible assumption) | assumption)
                      have hx14 := bt_at t154 x7_1
                      replace p14 := eq_true p14
                      replace q14 := eq_true q14
                      have p16 : 0 ≤ (x7_1 : Int) := of_decide_eq_true (by first | (with_reducible assumption) | assumption)
                      have q16 : x7_1 < (t153.size : Int) := of_decide_eq_true (by first | (with_reducible assumption) | assumption)
                      have hx16 := bt_at t153 x7_1
                      replace p16 := eq_true p16
                      replace q16 := eq_true q16
                      have p17 : 0 ≤ (x7_1 : Int) := of_decide_eq_true (by first | (with_reducible assumption) | assumption)
                      have q17 : x7_1 < (t154.size : Int) := of_decide_eq_true (by first | (with_reducible assumption) | assumption)
                      have hx17 := bt_at t154 x7_1
                      replace p17 := eq_true p17
                      replace q17 := eq_true q17
                      go_wp2
                      repeat (go_quiet (fail); try go_wp2)
                      go_ret
                      exact ⟨by first | rfl | (simp [errW_none, errW_some] <;> rfl) | (simp [*, errW_none, errW_some] <;> rfl), by repeat (first | (with_reducible first | exact HB.out | apply below_alloc | apply pw_below_drewN | apply below_drew1) | exact HB.out)⟩
                    · rw [if_neg c18] at H
                      have c18b0 : decide ((bt t154 x7_1) < (bt t153 x7_1)) = false := decide_eq_false c18
                      clear c18
                      have H' := Aside0.mk H
                      clear H
                      have p12 : 0 ≤ (x7_1 : Int) := of_decide_eq_true (by first | (with_reducible assumption) | assumption)
                      have q12 : x7_1 < (t153.size : Int) := of_decide_eq_true (by first | (with_reducible assumption) | assumption)
                      have hx12 := bt_at t153 x7_1
                      replace p12 := eq_true p12
                      replace q12 := eq_true q12
                      have p14 : 0 ≤ (x7_1 : Int) := of_decide_eq_true (by first | (with_reducible assumption) | assumption)
                      have q14 : x7_1 < (t154.size : Int) := of_decide_eq_true (by first | (with_reducible assumption) | assumption)
                      have hx14 := bt_at t154 x7_1
                      replace p14 := eq_true p14
                      replace q14 := eq_true q14
                      have p16 : 0 ≤ (x7_1 : Int) := of_decide_eq_true (by first | (with_reducible assumption) | assumption)
                      have q16 : x7_1 < (t153.size : Int) := of_decide_eq_true (by first | (with_reducible assumption) | assumption)
                      have hx16 := bt_at t153 x7_1
                      replace p16 := eq_true p16
                      replace q16 := eq_true q16
                      have p17 : 0 ≤ (x7_1 : Int) := of_decide_eq_true (by first | (with_reducible assumption) | assumption)
                      have q17 : x7_1 < (t154.size : Int) := of_decide_eq_true (by first | (with_reducible assumption) | assumption)
                      have hx17 := bt_at t154 x7_1
                      replace p17 := eq_true p17
                      replace q17 := eq_true q17
                      go_wp2
                      repeat (go_quiet (fail); try go_wp2)
                      go_roundg kj6
                      case measure => have := HK1.out; have := HJ6.out; omega
                      case rel => exact ⟨(wrap64 (x7_1 + 1)), (by first | rfl | (simp; done) | (simp [*]; done)), H', ⟨by have := HK1.out; have := HJ6.out; omega⟩, ⟨by repeat (first | (with_reducible first | exact HB.out | apply below_alloc | apply pw_below_drewN | apply below_drew1) | exact HB.out)⟩⟩
                · rw [if_neg c13] at H
                  exact absurd H (by simp)
              · rw [if_neg c11] at H
                exact absurd H (by simp)
            · rw [if_neg c10] at H
              exact absurd H (by simp)
          · replace c9 := Bool.eq_false_iff.mpr c9
            subst c9
            have H1 : (if (t153.size : Int) < (t154.size : Int) then (some (-1)) else (if (t153.size : Int) > (t154.size : Int) then (some 1) else (some 0))) = some r := by rw [if_neg (show ¬ (false = true) by decide)] at H; exact H
            clear H
            have H := H1
            clear H1
            by_cases c19 : (t153.size : Int) < (t154.size : Int)
            · rw [if_pos c19] at H
              have c19b0 : decide ((t153.size : Int) < (t154.size : Int)) = true := decide_eq_true c19
              have c19b1 : decide (t153.size < t154.size) = true := decide_eq_true (Int.ofNat_lt.mp c19)
              clear c19
              obtain rfl := Option.some.inj H
              go_wp2
              repeat (go_quiet (fail); try go_wp2)
              go_ret
              exact ⟨by first | rfl | (simp [errW_none, errW_some] <;> rfl) | (simp [*, errW_none, errW_some] <;> rfl), by repeat (first | (with_reducible first | exact HB.out | apply below_alloc | apply pw_below_drewN | apply below_drew1) | exact HB.out)⟩
            · rw [if_neg c19] at H
              have c19b0 : decide ((t153.size : Int) < (t154.size : Int)) = false := decide_eq_false c19
              have c19b1 : decide (t153.size < t154.size) = false := decide_eq_false (fun h => c19 (Int.ofNat_lt.mpr h))
              clear c19
              by_cases c20 : (t153.size : Int) > (t154.size : Int)
              · rw [if_pos c20] at H
                have c20b0 : decide ((t154.size : Int) < (t153.size : Int)) = true := decide_eq_true c20
                have c20b1 : decide (t154.size < t153.size) = true := decide_eq_true (Int.ofNat_lt.mp c20)
                clear c20
                obtain rfl := Option.some.inj H
                go_wp2
                repeat (go_quiet (fail); try go_wp2)
                go_ret
                exact ⟨by first | rfl | (simp [errW_none, errW_some] <;> rfl) | (simp [*, errW_none, errW_some] <;> rfl), by repeat (first | (with_reducible first | exact HB.out | apply below_alloc | apply pw_below_drewN | apply below_drew1) | exact HB.out)⟩
              · rw [if_neg c20] at H
                have c20b0 : decide ((t154.size : Int) < (t153.size : Int)) = false := decide_eq_false c20
                have c20b1 : decide (t154.size < t153.size) = false := decide_eq_false (fun h => c20 (Int.ofNat_lt.mpr h))
                clear c20
                obtain rfl := Option.some.inj H
                go_wp2
                repeat (go_quiet (fail); try go_wp2)
                go_ret
                exact ⟨by first | rfl | (simp [errW_none, errW_some] <;> rfl) | (simp [*, errW_none, errW_some] <;> rfl), by repeat (first | (with_reducible first | exact HB.out | apply below_alloc | apply pw_below_drewN | apply below_drew1) | exact HB.out)⟩

-- NOT PRINTED: function 4 (isoglosslaw05_GrandAll)

/-! ### isoglosslaw05_GrandCases: function 5 -/
def isoglosslaw05_GrandCases.l0 : Nat → Int → Bool → Int → ByteArray → List Int → Int → Option (Bool)
  | 0, _, _, _, _, _, _ => none
  | k + 1, x1, x5, x6, x7, x9, x10 => if x10 < (x7.size : Int) then (if 0 ≤ x10 then (if x10 ≤ (wrap64 (x10 + 1)) then (if (wrap64 (x10 + 1)) ≤ (x7.size : Int) then (if 0 ≤ (IntKind.u64.wrap (Go.bits .and .i64 x10 15)) then (if (Go.bits .and .i64 (shr .i64 x1 (IntKind.u64.wrap (Go.bits .and .i64 x10 15))) 1) = 1 then ((isoglossref02_Upper.f k (x7.extract (x10 : Int).toNat ((wrap64 (x10 + 1)) : Int).toNat)).bind fun t161 => (if 0 < (t161.size : Int) then (if x9.length < 140737488355328 then (isoglosslaw05_GrandCases.l0 k x1 x5 x6 x7 (x9 ++ [bt t161 0]) (wrap64 (x10 + 1))) else (none)) else (none))) else (if 0 < ((x7.extract (x10 : Int).toNat ((wrap64 (x10 + 1)) : Int).toNat).size : Int) then (if x9.length < 140737488355328 then (isoglosslaw05_GrandCases.l0 k x1 x5 x6 x7 (x9 ++ [bt (x7.extract (x10 : Int).toNat ((wrap64 (x10 + 1)) : Int).toNat) 0]) (wrap64 (x10 + 1))) else (none)) else (none))) else (none)) else (none)) else (none)) else (none)) else ((grand_Find.f k (strOfNums x9)).bind fun bt168 => (if (strOfNums x9).size + 1 ≤ 9223372036854775807 then ((grand_Find.f k ((strOfNums x9) ++ (⟨#[32]⟩ : ByteArray))).bind fun bt170 => (if 1 + (strOfNums x9).size ≤ 9223372036854775807 then ((grand_Find.f k ((⟨#[45]⟩ : ByteArray) ++ (strOfNums x9))).bind fun bt172 => (if x5 = true then (if bt168.2 = true then (if bt168.1 = x6 then (if bt170.2 = true then (some false) else (some (!bt172.2))) else (some false)) else (some false)) else (some false))) else (none))) else (none)))
def isoglosslaw05_GrandCases.f (k : Nat) (a0 : Int) (a1 : Int) : Option (Bool) := (isoglosslaw05_awake.f k).bind fun t155 => ((grand_Len.f).bind fun t156 => (if t156 = 0 then (some false) else ((grand_Len.f).bind fun t157 => ((isoglosslaw05_rest.f a0 t157).bind fun t158 => ((grand_Name.f t158).bind fun bt159 => (isoglosslaw05_GrandCases.l0 k a1 t155 t158 bt159.1 ([] : List Int) 0))))))
theorem isoglosslaw05_GrandCases.mono_l : ∀ k, (∀ y0 y1 y2 y3 y4 y5, LeO (isoglosslaw05_GrandCases.l0 k y0 y1 y2 y3 y4 y5) (isoglosslaw05_GrandCases.l0 (k + 1) y0 y1 y2 y3 y4 y5))
  | 0 => fun _ _ _ _ _ _ r h => by simp [isoglosslaw05_GrandCases.l0] at h
  | k + 1 => by
    have ih0 := isoglosslaw05_GrandCases.mono_l k
    · intro y0 y1 y2 y3 y4 y5
      unfold isoglosslaw05_GrandCases.l0
      repeat' first
      | (with_reducible exact ih0 _ _ _ _ _ _)
      | (with_reducible exact grand_Find.mono _ _)
      | (with_reducible exact isoglosslaw05_awake.mono _)
      | (with_reducible exact isoglossref02_Upper.mono _ _)
      | (with_reducible exact LeO.refl _)
      | (with_reducible exact LeO.none _)
      | (with_reducible refine LeO.ite ?_ ?_)
      | (with_reducible refine LeO.bind ?_ (fun _ => ?_))
      | exact ih0 _ _ _ _ _ _
      | exact grand_Find.mono _ _
      | exact isoglosslaw05_awake.mono _
      | exact isoglossref02_Upper.mono _ _
      | exact LeO.none _
      | refine LeO.ite ?_ ?_
      | refine LeO.bind ?_ (fun _ => ?_)
theorem isoglosslaw05_GrandCases.mono : ∀ a0 a1 k, LeO (isoglosslaw05_GrandCases.f k a0 a1) (isoglosslaw05_GrandCases.f (k + 1) a0 a1) := by
  intro a0 a1 k
  have ih0 := isoglosslaw05_GrandCases.mono_l k
  unfold isoglosslaw05_GrandCases.f
  repeat' first
      | (with_reducible exact ih0 _ _ _ _ _ _)
      | (with_reducible exact grand_Find.mono _ _)
      | (with_reducible exact isoglosslaw05_awake.mono _)
      | (with_reducible exact isoglossref02_Upper.mono _ _)
      | (with_reducible exact LeO.refl _)
      | (with_reducible exact LeO.none _)
      | (with_reducible refine LeO.ite ?_ ?_)
      | (with_reducible refine LeO.bind ?_ (fun _ => ?_))
      | exact ih0 _ _ _ _ _ _
      | exact grand_Find.mono _ _
      | exact isoglosslaw05_awake.mono _
      | exact isoglossref02_Upper.mono _ _
      | exact LeO.none _
      | refine LeO.ite ?_ ?_
      | refine LeO.bind ?_ (fun _ => ?_)
set_option maxHeartbeats 8000000 in
set_option maxRecDepth 100000 in
theorem isoglosslaw05_GrandCases.calls (k : Nat) (a0 : Int) (a1 : Int) (r : Bool) (w : World) (h : isoglosslaw05_GrandCases.f k a0 a1 = some r) (hG : GrandW.G w) :
    Calls Tryd.prog 5 #[.int .i64 a0, .int .i64 a1] w fun e w' => e = .returned (.bool r) ∧ Below w.heap.size w w' := by
  have HG := Aside0.mk hG
  clear hG
  have HB := Aside0.mk (Below.refl w.heap.size w)
  have H : ((isoglosslaw05_awake.f k).bind fun t155 => ((grand_Len.f).bind fun t156 => (if t156 = 0 then (some false) else ((grand_Len.f).bind fun t157 => ((isoglosslaw05_rest.f a0 t157).bind fun t158 => ((grand_Name.f t158).bind fun bt159 => (isoglosslaw05_GrandCases.l0 k a1 t155 t158 bt159.1 ([] : List Int) 0))))))) = some r := h
  clear h
  replace H := Option.bind_eq_some_iff.mp H
  obtain ⟨t155, A30, H⟩ := H
  replace H : ((grand_Len.f).bind fun t156 => (if t156 = 0 then (some false) else ((grand_Len.f).bind fun t157 => ((isoglosslaw05_rest.f a0 t157).bind fun t158 => ((grand_Name.f t158).bind fun bt159 => (isoglosslaw05_GrandCases.l0 k a1 t155 t158 bt159.1 ([] : List Int) 0)))))) = some r := H
  have A3 := Aside0.mk A30
  clear A30
  replace H := Option.bind_eq_some_iff.mp H
  obtain ⟨t156, A40, H⟩ := H
  replace H : (if t156 = 0 then (some false) else ((grand_Len.f).bind fun t157 => ((isoglosslaw05_rest.f a0 t157).bind fun t158 => ((grand_Name.f t158).bind fun bt159 => (isoglosslaw05_GrandCases.l0 k a1 t155 t158 bt159.1 ([] : List Int) 0))))) = some r := H
  have A4 := Aside0.mk A40
  clear A40
  by_cases c5 : t156 = 0
  · rw [if_pos c5] at H
    have c5b0 : (t156 == 0) = true := beq_iff_eq.mpr c5
    have c5b1 : (t156 != 0) = false := bne_eq_false_iff_eq.mpr c5
    (try (have c5b2 : (t156 : Int).toNat = 0 := by rw [c5]; rfl))
    try have c5b3 : (0 ≤ t156) = True := eq_true (by omega)
    try have c5b4_2 : (t156 < 2) = True := eq_true (by omega)
    try have c5b4_3 : (t156 < 3) = True := eq_true (by omega)
    try have c5b4_5 : (t156 < 5) = True := eq_true (by omega)
    clear c5
    obtain rfl := Option.some.inj H
    go_enter Tryd.func5, Tryd.ntmps5
    go_wp2_with (first | ((with_reducible refine gate_callee (f := 14) rfl ?_); refine goesL_ (some 18) rfl rfl Tryd.func14 (by kernel_rfl) rfl #[] rfl (by (try simp only [List.map_toArray, List.map_cons, List.map_nil]); first | done | rfl | (simp only [List.length_drop, List.length_take]; rfl)) ?_; (with_reducible refine (isoglosslaw05_awake.calls k  t155 _ A3.out (by repeat (first | exact HG.out | exact GrandW.G.below HG.out HB.out | apply GrandW.G.alloc | apply GrandW.G.drewN | apply GrandW.G.drew))).mono ?_); rintro e w6 ⟨rfl, hb⟩; refine ⟨_, rfl, ?_⟩; have n0_ := Aside0.mk (below_step (by repeat (first | (with_reducible first | exact HB.out | apply below_alloc | apply pw_below_drewN | apply below_drew1) | exact HB.out)) hb); clear HB; have HB := n0_; clear n0_; (try clear hb); (try clear hb2); (try clear hk); (try clear hi); (try clear A3)) | ((with_reducible refine gate_callee (f := 23) rfl ?_); refine goesL_ (some 19) rfl rfl Tryd.func23 (by kernel_rfl) rfl #[] rfl (by (try simp only [List.map_toArray, List.map_cons, List.map_nil]); first | done | rfl | (simp only [List.length_drop, List.length_take]; rfl)) ?_; (with_reducible refine (grand_Len.calls  t156 _ A4.out (by repeat (first | exact HG.out | exact GrandW.G.below HG.out HB.out | apply GrandW.G.alloc | apply GrandW.G.drewN | apply GrandW.G.drew))).mono ?_); rintro e w7 ⟨rfl, hb⟩; refine ⟨_, rfl, ?_⟩; have n0_ := Aside0.mk (below_step (by repeat (first | (with_reducible first | exact HB.out | apply below_alloc | apply pw_below_drewN | apply below_drew1) | exact HB.out)) hb); clear HB; have HB := n0_; clear n0_; (try clear hb); (try clear hb2); (try clear hk); (try clear hi); (try clear A4)))
    go_ret
    exact ⟨by first | rfl | (simp [errW_none, errW_some] <;> rfl) | (simp [*, errW_none, errW_some] <;> rfl), by repeat (first | (with_reducible first | exact HB.out | apply below_alloc | apply pw_below_drewN | apply below_drew1) | exact HB.out)⟩
  · rw [if_neg c5] at H
    have c5b0 : (t156 == 0) = false := beq_eq_false_iff_ne.mpr c5
    have c5b1 : (t156 != 0) = true := bne_iff_ne.mpr c5
    replace H := Option.bind_eq_some_iff.mp H
    obtain ⟨t157, A80, H⟩ := H
    replace H : ((isoglosslaw05_rest.f a0 t157).bind fun t158 => ((grand_Name.f t158).bind fun bt159 => (isoglosslaw05_GrandCases.l0 k a1 t155 t158 bt159.1 ([] : List Int) 0))) = some r := H
    have A8 := Aside0.mk A80
    clear A80
    replace H := Option.bind_eq_some_iff.mp H
    obtain ⟨t158, A90, H⟩ := H
    replace H : ((grand_Name.f t158).bind fun bt159 => (isoglosslaw05_GrandCases.l0 k a1 t155 t158 bt159.1 ([] : List Int) 0)) = some r := H
    have A9 := Aside0.mk A90
    clear A90
    replace H := Option.bind_eq_some_iff.mp H
    obtain ⟨⟨t159, t160⟩, A100, H⟩ := H
    replace H : (isoglosslaw05_GrandCases.l0 k a1 t155 t158 t159 ([] : List Int) 0) = some r := H
    have A10 := Aside0.mk A100
    clear A100
    have H' := Aside0.mk H
    clear H
    go_enter Tryd.func5, Tryd.ntmps5
    go_wp2_with (first | ((with_reducible refine gate_callee (f := 14) rfl ?_); refine goesL_ (some 18) rfl rfl Tryd.func14 (by kernel_rfl) rfl #[] rfl (by (try simp only [List.map_toArray, List.map_cons, List.map_nil]); first | done | rfl | (simp only [List.length_drop, List.length_take]; rfl)) ?_; (with_reducible refine (isoglosslaw05_awake.calls k  t155 _ A3.out (by repeat (first | exact HG.out | exact GrandW.G.below HG.out HB.out | apply GrandW.G.alloc | apply GrandW.G.drewN | apply GrandW.G.drew))).mono ?_); rintro e w11 ⟨rfl, hb⟩; refine ⟨_, rfl, ?_⟩; have n0_ := Aside0.mk (below_step (by repeat (first | (with_reducible first | exact HB.out | apply below_alloc | apply pw_below_drewN | apply below_drew1) | exact HB.out)) hb); clear HB; have HB := n0_; clear n0_; (try clear hb); (try clear hb2); (try clear hk); (try clear hi); (try clear A3)) | ((with_reducible refine gate_callee (f := 23) rfl ?_); refine goesL_ (some 19) rfl rfl Tryd.func23 (by kernel_rfl) rfl #[] rfl (by (try simp only [List.map_toArray, List.map_cons, List.map_nil]); first | done | rfl | (simp only [List.length_drop, List.length_take]; rfl)) ?_; (with_reducible refine (grand_Len.calls  t156 _ A4.out (by repeat (first | exact HG.out | exact GrandW.G.below HG.out HB.out | apply GrandW.G.alloc | apply GrandW.G.drewN | apply GrandW.G.drew))).mono ?_); rintro e w12 ⟨rfl, hb⟩; refine ⟨_, rfl, ?_⟩; have n0_ := Aside0.mk (below_step (by repeat (first | (with_reducible first | exact HB.out | apply below_alloc | apply pw_below_drewN | apply below_drew1) | exact HB.out)) hb); clear HB; have HB := n0_; clear n0_; (try clear hb); (try clear hb2); (try clear hk); (try clear hi); (try clear A4)) | ((with_reducible refine gate_callee (f := 23) rfl ?_); refine goesL_ (some 22) rfl rfl Tryd.func23 (by kernel_rfl) rfl #[] rfl (by (try simp only [List.map_toArray, List.map_cons, List.map_nil]); first | done | rfl | (simp only [List.length_drop, List.length_take]; rfl)) ?_; (with_reducible refine (grand_Len.calls  t157 _ A8.out (by repeat (first | exact HG.out | exact GrandW.G.below HG.out HB.out | apply GrandW.G.alloc | apply GrandW.G.drewN | apply GrandW.G.drew))).mono ?_); rintro e w13 ⟨rfl, hb⟩; refine ⟨_, rfl, ?_⟩; have n0_ := Aside0.mk (below_step (by repeat (first | (with_reducible first | exact HB.out | apply below_alloc | apply pw_below_drewN | apply below_drew1) | exact HB.out)) hb); clear HB; have HB := n0_; clear n0_; (try clear hb); (try clear hb2); (try clear hk); (try clear hi); (try clear A8)) | ((with_reducible refine gate_callee (f := 17) rfl ?_); refine goesL_ (some 23) rfl rfl Tryd.func17 (by kernel_rfl) rfl #[.int .i64 a0, .int .i64 t157] rfl (by (try simp only [List.map_toArray, List.map_cons, List.map_nil]); first | done | rfl | (simp only [List.length_drop, List.length_take]; rfl)) ?_; (with_reducible refine (isoglosslaw05_rest.calls a0 t157 t158 _ A9.out).mono ?_); rintro e w' ⟨rfl, ⟨nd, rfl⟩⟩; refine ⟨_, rfl, ?_⟩; (try clear A9)) | ((with_reducible refine gate_callee (f := 21) rfl ?_); refine goesL_ (some 26) rfl rfl Tryd.func21 (by kernel_rfl) rfl #[.int .i64 t158] rfl (by (try simp only [List.map_toArray, List.map_cons, List.map_nil]); first | done | rfl | (simp only [List.length_drop, List.length_take]; rfl)) ?_; (with_reducible refine (grand_Name.calls t158 t159 t160 _ A10.out (by repeat (first | exact HG.out | exact GrandW.G.below HG.out HB.out | apply GrandW.G.alloc | apply GrandW.G.drewN | apply GrandW.G.drew))).mono ?_); rintro e w' ⟨rfl, ⟨nd, rfl⟩⟩; refine ⟨_, rfl, ?_⟩; (try clear A10)))
    go_loopg [9, 10] k (fun kq v9 v10 w' => ∃ (x9_1 : List Int) (x10_1 : Int), v10 = .int .i64 x10_1 ∧ Aside0 (isoglosslaw05_GrandCases.l0 kq a1 t155 t158 t159 x9_1 x10_1 = some r) ∧ Aside0 (kq ≤ k) ∧ Aside0 (Kd.R (Kd.int .u8) 5 w' w.heap.size (fun _ => True) v9 x9_1) ∧ Aside0 (Below w.heap.size w w'))
    case atStart => exact ⟨(([] : List Int)), (0), (by first | rfl | (simp; done) | (simp [*]; done)), H', ⟨Nat.le_refl _⟩, ⟨by first | exact Kd.R_nil _ _ _ _ _ | exact Kd.N_nil _ _ _ _ _ | exact Kd.V_nil _ _ _ _ _ | exact Kd.Q_nil _ _ _ _ _ | exact Kd.S_nil _ _ _ _ _⟩, ⟨by repeat (first | (with_reducible first | exact HB.out | apply below_alloc | apply pw_below_drewN | apply below_drew1) | exact HB.out)⟩⟩
    case round =>
      clear H'
      try clear c1
      try clear c2
      try clear p2
      try clear c5
      try clear c5b0
      try clear c5b1
      try clear c5b2
      obtain ⟨x9_1, x10_1, rfl, HA, HK1, HO_9, HB⟩ := hrel
      cases gk with
      | zero => exact absurd HA.out (by simp [isoglosslaw05_GrandCases.l0])
      | succ k1 =>
        have H := HA.out
        clear HA
        simp only [isoglosslaw05_GrandCases.l0] at H
        by_cases c14 : x10_1 < (t159.size : Int)
        · rw [if_pos c14] at H
          have c14b0 : decide (x10_1 < (t159.size : Int)) = true := decide_eq_true c14
          clear c14
          by_cases c15 : 0 ≤ x10_1
          · rw [if_pos c15] at H
            have c15b0 := eq_true c15
            have c15b1 : decide (0 ≤ x10_1) = true := decide_eq_true c15
            clear c15
            by_cases c16 : x10_1 ≤ (wrap64 (x10_1 + 1))
            · rw [if_pos c16] at H
              have c16b0 := eq_true c16
              have c16b1 : decide (x10_1 ≤ (wrap64 (x10_1 + 1))) = true := decide_eq_true c16
              by_cases c17 : (wrap64 (x10_1 + 1)) ≤ (t159.size : Int)
              · rw [if_pos c17] at H
                have c17b0 := eq_true c17
                have c17b1 : decide ((wrap64 (x10_1 + 1)) ≤ (t159.size : Int)) = true := decide_eq_true c17
                obtain ⟨ji18, hji18⟩ : ∃ j_ : Int, (IntKind.u64.wrap (Go.bits .and .i64 x10_1 15)) = j_ := ⟨_, rfl⟩
                replace H : (if 0 ≤ (ji18) then (if (Go.bits .and .i64 (shr .i64 a1 (ji18)) 1) = 1 then ((isoglossref02_Upper.f k1 (t159.extract (x10_1 : Int).toNat ((wrap64 (x10_1 + 1)) : Int).toNat)).bind fun t161 => (if 0 < (t161.size : Int) then (if x9_1.length < 140737488355328 then (isoglosslaw05_GrandCases.l0 k1 a1 t155 t158 t159 (x9_1 ++ [bt t161 0]) (wrap64 (x10_1 + 1))) else (none)) else (none))) else (if 0 < ((t159.extract (x10_1 : Int).toNat ((wrap64 (x10_1 + 1)) : Int).toNat).size : Int) then (if x9_1.length < 140737488355328 then (isoglosslaw05_GrandCases.l0 k1 a1 t155 t158 t159 (x9_1 ++ [bt (t159.extract (x10_1 : Int).toNat ((wrap64 (x10_1 + 1)) : Int).toNat) 0]) (wrap64 (x10_1 + 1))) else (none)) else (none))) else (none)) = some r := by first | (rw [hji18] at H; exact H) | (simp only [hji18] at H ⊢; exact H)
                by_cases c19 : 0 ≤ (ji18)
                · rw [if_pos c19] at H
                  have c19b0 := eq_true c19
                  have c19b1 : decide (0 ≤ (ji18)) = true := decide_eq_true c19
                  clear c19
                  obtain ⟨ji20, hji20⟩ : ∃ j_ : Int, (shr .i64 a1 (ji18)) = j_ := ⟨_, rfl⟩
                  replace H : (if (Go.bits .and .i64 (ji20) 1) = 1 then ((isoglossref02_Upper.f k1 (t159.extract (x10_1 : Int).toNat ((wrap64 (x10_1 + 1)) : Int).toNat)).bind fun t161 => (if 0 < (t161.size : Int) then (if x9_1.length < 140737488355328 then (isoglosslaw05_GrandCases.l0 k1 a1 t155 t158 t159 (x9_1 ++ [bt t161 0]) (wrap64 (x10_1 + 1))) else (none)) else (none))) else (if 0 < ((t159.extract (x10_1 : Int).toNat ((wrap64 (x10_1 + 1)) : Int).toNat).size : Int) then (if x9_1.length < 140737488355328 then (isoglosslaw05_GrandCases.l0 k1 a1 t155 t158 t159 (x9_1 ++ [bt (t159.extract (x10_1 : Int).toNat ((wrap64 (x10_1 + 1)) : Int).toNat) 0]) (wrap64 (x10_1 + 1))) else (none)) else (none))) = some r := by first | (rw [hji20] at H; exact H) | (simp only [hji20] at H ⊢; exact H)
                  have hji20_ : (a1 / 2 ^ min (ji18).toNat 64) = ji20 := hji20
                  have hji20z : (ji18) ≤ 64 → (a1 / 2 ^ (ji18).toNat) = ji20 := shr_small hji20
                  by_cases c21 : (Go.bits .and .i64 (ji20) 1) = 1
                  · rw [if_pos c21] at H
                    have c21b0 : ((Go.bits .and .i64 (ji20) 1) == 1) = true := beq_iff_eq.mpr c21
                    have c21b1 : ((Go.bits .and .i64 (ji20) 1) != 1) = false := bne_eq_false_iff_eq.mpr c21
                    (try (have c21b2 : ((Go.bits .and .i64 (ji20) 1) : Int).toNat = 1 := by rw [c21]; rfl))
                    clear c21
                    replace H := Option.bind_eq_some_iff.mp H
                    obtain ⟨t161, A220, H⟩ := H
                    replace H : (if 0 < (t161.size : Int) then (if x9_1.length < 140737488355328 then (isoglosslaw05_GrandCases.l0 k1 a1 t155 t158 t159 (x9_1 ++ [bt t161 0]) (wrap64 (x10_1 + 1))) else (none)) else (none)) = some r := H
                    have A22 := Aside0.mk A220
                    clear A220
                    by_cases c23 : 0 < (t161.size : Int)
                    · rw [if_pos c23] at H
                      have c23b0 : decide (0 < (t161.size : Int)) = true := decide_eq_true c23
                      have c23b1 : decide (0 < t161.size) = true := decide_eq_true (by omega)
                      clear c23
                      by_cases c25 : x9_1.length < 140737488355328
                      · rw [if_pos c25] at H
                        have LMc25 := Aside0.mk c25
                        clear c25
                        obtain ⟨y162, hy162⟩ : ∃ y_ : List Int, y_ = (x9_1 ++ [bt t161 0]) := ⟨_, rfl⟩
                        replace H : (isoglosslaw05_GrandCases.l0 k1 a1 t155 t158 t159 y162 (wrap64 (x10_1 + 1))) = some r := by first | (rw [hy162]; with_reducible exact H) | (have H2_ := (Option.bind_some _ _).symm.trans H; rw [hy162]; with_reducible exact H2_) | (have H2_ := (Option.bind_some _ _).symm.trans H; with_reducible exact H2_) | with_reducible exact H | (rw [hy162]; exact H) | exact H
                        have Ny162 := Aside0.mk hy162
                        clear hy162
                        have H' := Aside0.mk H
                        clear H
                        go_wp2_with (first | ((with_reducible refine gate_callee (f := 18) rfl ?_); refine goesL_ (some 48) rfl rfl Tryd.func18 (by kernel_rfl) rfl #[.string (t159.extract (x10_1 : Int).toNat ((wrap64 (x10_1 + 1)) : Int).toNat)] rfl (by (try simp only [List.map_toArray, List.map_cons, List.map_nil]); first | done | rfl | (simp only [List.length_drop, List.length_take]; rfl)) ?_; (with_reducible refine (isoglossref02_Upper.calls k1 (t159.extract (x10_1 : Int).toNat ((wrap64 (x10_1 + 1)) : Int).toNat) t161 _ A22.out).mono ?_); rintro e w26 ⟨rfl, hb⟩; refine ⟨_, rfl, ?_⟩; have n0_ := Aside0.mk (Kd.R_below (by (with_reducible repeat (first | apply Kd.R_alloc | apply Kd.R_drewN | apply Kd.R_drew)); exact HO_9.out) hb); have n1_ := Aside0.mk (below_step (by repeat (first | (with_reducible first | exact HB.out | apply below_alloc | apply pw_below_drewN | apply below_drew1) | exact HB.out)) hb); clear HO_9; clear HB; have HO_9 := n0_; have HB := n1_; clear n0_ n1_; (try clear hb); (try clear hb2); (try clear hk); (try clear hi); have p24 : 0 ≤ (0 : Int) := (by omega); have q24 : 0 < t161.size := (by have : (0 : Int) < (t161.size : Int) := of_decide_eq_true (by first | (with_reducible assumption) | assumption); omega); have hx24 : ∀ h : 0 < t161.size, ((t161[0]'h).toNat : Int) = bt t161 0 := bt_at t161 0; clear p24; have qi24 : (0 < (t161.size : Int)) = True := eq_true (of_decide_eq_true (by first | (with_reducible assumption) | assumption)); replace q24 := eq_true q24; (try clear A22)) | ((with_reducible refine gate_builtin (b := .append) (xs := #[.tmp 49, .tmp 52]) rfl ?_); at_builtin; refine Kd.R_append (Kd.int .u8) (w0 := w) w.heap.size rfl (.tmp 49) (.tmp 52) 28 5 (.int .u8 0) 1 rfl Tryd.underlying28 info5 rfl (by decide) (by omega) u9 x9_1 (bt t161 0) [.int .u8 (bt t161 0)] (fun _ => True) (fun _ => False) rfl rfl ?aP (fun _ hk => hk.elim) ?aF ?aO ?aB ?aS ?aL ?_; (case aP => exact rfl); (case aB => exact (by repeat (first | (with_reducible first | exact HB.out | apply below_alloc | apply pw_below_drewN | apply below_drew1) | exact HB.out))); (case aF => exact (fun _ _ => trivial)); (case aO => exact (by (with_reducible repeat (first | apply Kd.R_alloc | apply Kd.R_drewN | apply Kd.R_drew)); exact HO_9.out)); (case aS => exact (below_size (by repeat (first | (with_reducible first | exact HB.out | apply below_alloc | apply pw_below_drewN | apply below_drew1) | exact HB.out)))); (case aL => have := LMc25.out; omega); intro v163 w27 ho hb hg hat; rw [← Ny162.out] at ho; have n0_ := Aside0.mk (hb); have n1_ := Aside0.mk (ho); clear HB; clear HO_9; have HB := n0_; have HO164 := n1_; clear n0_ n1_; clear ho hb hg hat))
                        go_roundg k1
                        case measure => have := HK1.out; omega
                        case rel => exact ⟨(y162), (wrap64 (x10_1 + 1)), (by first | rfl | (simp; done) | (simp [*]; done)), H', ⟨by have := HK1.out; omega⟩, ⟨by (with_reducible repeat (first | apply Kd.R_alloc | apply Kd.R_drewN | apply Kd.R_drew)); exact HO164.out⟩, ⟨by repeat (first | (with_reducible first | exact HB.out | apply below_alloc | apply pw_below_drewN | apply below_drew1) | exact HB.out)⟩⟩
                      · rw [if_neg c25] at H
                        exact absurd H (by simp)
                    · rw [if_neg c23] at H
                      exact absurd H (by simp)
                  · rw [if_neg c21] at H
                    have c21b0 : ((Go.bits .and .i64 (ji20) 1) == 1) = false := beq_eq_false_iff_ne.mpr c21
                    have c21b1 : ((Go.bits .and .i64 (ji20) 1) != 1) = true := bne_iff_ne.mpr c21
                    by_cases c28 : 0 < ((t159.extract (x10_1 : Int).toNat ((wrap64 (x10_1 + 1)) : Int).toNat).size : Int)
                    · rw [if_pos c28] at H
                      have c28b0 : decide (0 < ((t159.extract (x10_1 : Int).toNat ((wrap64 (x10_1 + 1)) : Int).toNat).size : Int)) = true := decide_eq_true c28
                      have c28b1 : decide (0 < (t159.extract (x10_1 : Int).toNat ((wrap64 (x10_1 + 1)) : Int).toNat).size) = true := decide_eq_true (by omega)
                      have c28n4 : (0 < ((wrap64 (x10_1 + 1)) : Int).toNat - (x10_1 : Int).toNat) = True := eq_true (by have z := of_decide_eq_true c28b1; rw [ByteArray.size_extract] at z; omega)
                      clear c28
                      by_cases c30 : x9_1.length < 140737488355328
                      · rw [if_pos c30] at H
                        have LMc30 := Aside0.mk c30
                        clear c30
                        obtain ⟨y165, hy165⟩ : ∃ y_ : List Int, y_ = (x9_1 ++ [bt (t159.extract (x10_1 : Int).toNat ((wrap64 (x10_1 + 1)) : Int).toNat) 0]) := ⟨_, rfl⟩
                        replace H : (isoglosslaw05_GrandCases.l0 k1 a1 t155 t158 t159 y165 (wrap64 (x10_1 + 1))) = some r := by first | (rw [hy165]; with_reducible exact H) | (have H2_ := (Option.bind_some _ _).symm.trans H; rw [hy165]; with_reducible exact H2_) | (have H2_ := (Option.bind_some _ _).symm.trans H; with_reducible exact H2_) | with_reducible exact H | (rw [hy165]; exact H) | exact H
                        have Ny165 := Aside0.mk hy165
                        clear hy165
                        have H' := Aside0.mk H
                        clear H
                        have p29 : 0 ≤ (0 : Int) := (by omega)
                        have q29 : 0 < (t159.extract (x10_1 : Int).toNat ((wrap64 (x10_1 + 1)) : Int).toNat).size := (by have : (0 : Int) < ((t159.extract (x10_1 : Int).toNat ((wrap64 (x10_1 + 1)) : Int).toNat).size : Int) := of_decide_eq_true (by first | (with_reducible assumption) | assumption); omega)
                        have hx29 : ∀ h : 0 < (t159.extract (x10_1 : Int).toNat ((wrap64 (x10_1 + 1)) : Int).toNat).size, (((t159.extract (x10_1 : Int).toNat ((wrap64 (x10_1 + 1)) : Int).toNat)[0]'h).toNat : Int) = bt (t159.extract (x10_1 : Int).toNat ((wrap64 (x10_1 + 1)) : Int).toNat) 0 := bt_at (t159.extract (x10_1 : Int).toNat ((wrap64 (x10_1 + 1)) : Int).toNat) 0
                        clear p29
                        have qi29 : (0 < ((t159.extract (x10_1 : Int).toNat ((wrap64 (x10_1 + 1)) : Int).toNat).size : Int)) = True := eq_true (of_decide_eq_true (by first | (with_reducible assumption) | assumption))
                        replace q29 := eq_true q29
                        go_wp2_with (first | ((with_reducible refine gate_builtin (b := .append) (xs := #[.tmp 49, .tmp 52]) rfl ?_); at_builtin; refine Kd.R_append (Kd.int .u8) (w0 := w) w.heap.size rfl (.tmp 49) (.tmp 52) 28 5 (.int .u8 0) 1 rfl Tryd.underlying28 info5 rfl (by decide) (by omega) u9 x9_1 (bt (t159.extract (x10_1 : Int).toNat ((wrap64 (x10_1 + 1)) : Int).toNat) 0) [.int .u8 (bt (t159.extract (x10_1 : Int).toNat ((wrap64 (x10_1 + 1)) : Int).toNat) 0)] (fun _ => True) (fun _ => False) rfl rfl ?aP (fun _ hk => hk.elim) ?aF ?aO ?aB ?aS ?aL ?_; (case aP => exact rfl); (case aB => exact (by repeat (first | (with_reducible first | exact HB.out | apply below_alloc | apply pw_below_drewN | apply below_drew1) | exact HB.out))); (case aF => exact (fun _ _ => trivial)); (case aO => exact (by (with_reducible repeat (first | apply Kd.R_alloc | apply Kd.R_drewN | apply Kd.R_drew)); exact HO_9.out)); (case aS => exact (below_size (by repeat (first | (with_reducible first | exact HB.out | apply below_alloc | apply pw_below_drewN | apply below_drew1) | exact HB.out)))); (case aL => have := LMc30.out; omega); intro v166 w31 ho hb hg hat; rw [← Ny165.out] at ho; have n0_ := Aside0.mk (hb); have n1_ := Aside0.mk (ho); clear HB; clear HO_9; have HB := n0_; have HO167 := n1_; clear n0_ n1_; clear ho hb hg hat))
                        go_roundg k1
                        case measure => have := HK1.out; omega
                        case rel => exact ⟨(y165), (wrap64 (x10_1 + 1)), (by first | rfl | (simp; done) | (simp [*]; done)), H', ⟨by have := HK1.out; omega⟩, ⟨by (with_reducible repeat (first | apply Kd.R_alloc | apply Kd.R_drewN | apply Kd.R_drew)); exact HO167.out⟩, ⟨by repeat (first | (with_reducible first | exact HB.out | apply below_alloc | apply pw_below_drewN | apply below_drew1) | exact HB.out)⟩⟩
                      · rw [if_neg c30] at H
                        exact absurd H (by simp)
                    · rw [if_neg c28] at H
                      exact absurd H (by simp)
                · rw [if_neg c19] at H
                  exact absurd H (by simp)
              · rw [if_neg c17] at H
                exact absurd H (by simp)
            · rw [if_neg c16] at H
              exact absurd H (by simp)
          · rw [if_neg c15] at H
            exact absurd H (by simp)
        · rw [if_neg c14] at H
          have c14b0 : decide (x10_1 < (t159.size : Int)) = false := decide_eq_false c14
          clear c14
          replace H := Option.bind_eq_some_iff.mp H
          obtain ⟨⟨t168, t169⟩, A320, H⟩ := H
          replace H : (if (strOfNums x9_1).size + 1 ≤ 9223372036854775807 then ((grand_Find.f k1 ((strOfNums x9_1) ++ (⟨#[32]⟩ : ByteArray))).bind fun bt170 => (if 1 + (strOfNums x9_1).size ≤ 9223372036854775807 then ((grand_Find.f k1 ((⟨#[45]⟩ : ByteArray) ++ (strOfNums x9_1))).bind fun bt172 => (if t155 = true then (if t169 = true then (if t168 = t158 then (if bt170.2 = true then (some false) else (some (!bt172.2))) else (some false)) else (some false)) else (some false))) else (none))) else (none)) = some r := H
          have A32 := Aside0.mk A320
          clear A320
          by_cases c33 : (strOfNums x9_1).size + 1 ≤ 9223372036854775807
          · rw [if_pos c33] at H
            have c33b0 := eq_true c33
            have c33b1 : decide ((strOfNums x9_1).size + 1 ≤ 9223372036854775807) = true := decide_eq_true c33
            try have c33b2 : (9223372036854775807 < (strOfNums x9_1).size + 1) = False := eq_false (Nat.not_lt.2 c33)
            replace H := Option.bind_eq_some_iff.mp H
            obtain ⟨⟨t170, t171⟩, A340, H⟩ := H
            replace H : (if 1 + (strOfNums x9_1).size ≤ 9223372036854775807 then ((grand_Find.f k1 ((⟨#[45]⟩ : ByteArray) ++ (strOfNums x9_1))).bind fun bt172 => (if t155 = true then (if t169 = true then (if t168 = t158 then (if t171 = true then (some false) else (some (!bt172.2))) else (some false)) else (some false)) else (some false))) else (none)) = some r := H
            have A34 := Aside0.mk A340
            clear A340
            by_cases c35 : 1 + (strOfNums x9_1).size ≤ 9223372036854775807
            · rw [if_pos c35] at H
              have c35b0 := eq_true c35
              have c35b1 : decide (1 + (strOfNums x9_1).size ≤ 9223372036854775807) = true := decide_eq_true c35
              try have c35b2 : (9223372036854775807 < 1 + (strOfNums x9_1).size) = False := eq_false (Nat.not_lt.2 c35)
              replace H := Option.bind_eq_some_iff.mp H
              obtain ⟨⟨t172, t173⟩, A360, H⟩ := H
              replace H : (if t155 = true then (if t169 = true then (if t168 = t158 then (if t171 = true then (some false) else (some (!t173))) else (some false)) else (some false)) else (some false)) = some r := H
              have A36 := Aside0.mk A360
              clear A360
              by_cases c37 : t155 = true
              · subst c37
                have H1 : (if t169 = true then (if t168 = t158 then (if t171 = true then (some false) else (some (!t173))) else (some false)) else (some false)) = some r := by rw [if_pos rfl] at H; exact H
                clear H
                have H := H1
                clear H1
                by_cases c38 : t169 = true
                · subst c38
                  have H1 : (if t168 = t158 then (if t171 = true then (some false) else (some (!t173))) else (some false)) = some r := by rw [if_pos rfl] at H; exact H
                  clear H
                  have H := H1
                  clear H1
                  by_cases c39 : t168 = t158
                  · rw [if_pos c39] at H
                    have c39b0 : (t168 == t158) = true := beq_iff_eq.mpr c39
                    have c39b1 : (t168 != t158) = false := bne_eq_false_iff_eq.mpr c39
                    clear c39
                    by_cases c40 : t171 = true
                    · subst c40
                      have H1 : (some false) = some r := by rw [if_pos rfl] at H; exact H
                      clear H
                      have H := H1
                      clear H1
                      obtain rfl := Option.some.inj H
                      have hcv41 := own_string (P := Tryd.prog) Tryd.underlying28 Tryd.underlying5 Tryd.underlying9 (Kd.own_of_R HO_9.out)
                      go_wp2_with (first | ((with_reducible refine gate_callee (f := 24) rfl ?_); refine goesL_ (some 57) rfl rfl Tryd.func24 (by kernel_rfl) rfl #[.string (strOfNums x9_1)] rfl (by (try simp only [List.map_toArray, List.map_cons, List.map_nil]); first | done | rfl | (simp only [List.length_drop, List.length_take]; rfl)) ?_; (with_reducible refine (grand_Find.calls k1 (strOfNums x9_1) t168 true _ A32.out (by repeat (first | exact HG.out | exact GrandW.G.below HG.out HB.out | apply GrandW.G.alloc | apply GrandW.G.drewN | apply GrandW.G.drew))).mono ?_); rintro e w42 ⟨rfl, hb⟩; refine ⟨_, rfl, ?_⟩; have n0_ := Aside0.mk (Kd.R_below (by (with_reducible repeat (first | apply Kd.R_alloc | apply Kd.R_drewN | apply Kd.R_drew)); exact HO_9.out) hb); have n1_ := Aside0.mk (below_step (by repeat (first | (with_reducible first | exact HB.out | apply below_alloc | apply pw_below_drewN | apply below_drew1) | exact HB.out)) hb); clear HO_9; clear HB; have HO_9 := n0_; have HB := n1_; clear n0_ n1_; (try clear hb); (try clear hb2); (try clear hk); (try clear hi); have hcv43 := own_string (P := Tryd.prog) Tryd.underlying28 Tryd.underlying5 Tryd.underlying9 (Kd.own_of_R HO_9.out); (try clear A32)) | ((with_reducible refine gate_callee (f := 24) rfl ?_); refine goesL_ (some 64) rfl rfl Tryd.func24 (by kernel_rfl) rfl #[.string ((strOfNums x9_1) ++ (⟨#[32]⟩ : ByteArray))] rfl (by (try simp only [List.map_toArray, List.map_cons, List.map_nil]); first | done | rfl | (simp only [List.length_drop, List.length_take]; rfl)) ?_; (with_reducible refine (grand_Find.calls k1 ((strOfNums x9_1) ++ (⟨#[32]⟩ : ByteArray)) t170 true _ A34.out (by repeat (first | exact HG.out | exact GrandW.G.below HG.out HB.out | apply GrandW.G.alloc | apply GrandW.G.drewN | apply GrandW.G.drew))).mono ?_); rintro e w44 ⟨rfl, hb⟩; refine ⟨_, rfl, ?_⟩; have n0_ := Aside0.mk (Kd.R_below (by (with_reducible repeat (first | apply Kd.R_alloc | apply Kd.R_drewN | apply Kd.R_drew)); exact HO_9.out) hb); have n1_ := Aside0.mk (below_step (by repeat (first | (with_reducible first | exact HB.out | apply below_alloc | apply pw_below_drewN | apply below_drew1) | exact HB.out)) hb); clear HO_9; clear HB; have HO_9 := n0_; have HB := n1_; clear n0_ n1_; (try clear hb); (try clear hb2); (try clear hk); (try clear hi); have hcv45 := own_string (P := Tryd.prog) Tryd.underlying28 Tryd.underlying5 Tryd.underlying9 (Kd.own_of_R HO_9.out); (try clear A34)) | ((with_reducible refine gate_callee (f := 24) rfl ?_); refine goesL_ (some 71) rfl rfl Tryd.func24 (by kernel_rfl) rfl #[.string ((⟨#[45]⟩ : ByteArray) ++ (strOfNums x9_1))] rfl (by (try simp only [List.map_toArray, List.map_cons, List.map_nil]); first | done | rfl | (simp only [List.length_drop, List.length_take]; rfl)) ?_; (with_reducible refine (grand_Find.calls k1 ((⟨#[45]⟩ : ByteArray) ++ (strOfNums x9_1)) t172 t173 _ A36.out (by repeat (first | exact HG.out | exact GrandW.G.below HG.out HB.out | apply GrandW.G.alloc | apply GrandW.G.drewN | apply GrandW.G.drew))).mono ?_); rintro e w46 ⟨rfl, hb⟩; refine ⟨_, rfl, ?_⟩; have n0_ := Aside0.mk (Kd.R_below (by (with_reducible repeat (first | apply Kd.R_alloc | apply Kd.R_drewN | apply Kd.R_drew)); exact HO_9.out) hb); have n1_ := Aside0.mk (below_step (by repeat (first | (with_reducible first | exact HB.out | apply below_alloc | apply pw_below_drewN | apply below_drew1) | exact HB.out)) hb); clear HO_9; clear HB; have HO_9 := n0_; have HB := n1_; clear n0_ n1_; (try clear hb); (try clear hb2); (try clear hk); (try clear hi); (try clear A36)))
                      go_ret
                      exact ⟨by first | rfl | (simp [errW_none, errW_some] <;> rfl) | (simp [*, errW_none, errW_some] <;> rfl), by repeat (first | (with_reducible first | exact HB.out | apply below_alloc | apply pw_below_drewN | apply below_drew1) | exact HB.out)⟩
                    · replace c40 := Bool.eq_false_iff.mpr c40
                      subst c40
                      have H1 : (some (!t173)) = some r := by rw [if_neg (show ¬ (false = true) by decide)] at H; exact H
                      clear H
                      have H := H1
                      clear H1
                      obtain rfl := Option.some.inj H
                      have hcv47 := own_string (P := Tryd.prog) Tryd.underlying28 Tryd.underlying5 Tryd.underlying9 (Kd.own_of_R HO_9.out)
                      go_wp2_with (first | ((with_reducible refine gate_callee (f := 24) rfl ?_); refine goesL_ (some 57) rfl rfl Tryd.func24 (by kernel_rfl) rfl #[.string (strOfNums x9_1)] rfl (by (try simp only [List.map_toArray, List.map_cons, List.map_nil]); first | done | rfl | (simp only [List.length_drop, List.length_take]; rfl)) ?_; (with_reducible refine (grand_Find.calls k1 (strOfNums x9_1) t168 true _ A32.out (by repeat (first | exact HG.out | exact GrandW.G.below HG.out HB.out | apply GrandW.G.alloc | apply GrandW.G.drewN | apply GrandW.G.drew))).mono ?_); rintro e w48 ⟨rfl, hb⟩; refine ⟨_, rfl, ?_⟩; have n0_ := Aside0.mk (Kd.R_below (by (with_reducible repeat (first | apply Kd.R_alloc | apply Kd.R_drewN | apply Kd.R_drew)); exact HO_9.out) hb); have n1_ := Aside0.mk (below_step (by repeat (first | (with_reducible first | exact HB.out | apply below_alloc | apply pw_below_drewN | apply below_drew1) | exact HB.out)) hb); clear HO_9; clear HB; have HO_9 := n0_; have HB := n1_; clear n0_ n1_; (try clear hb); (try clear hb2); (try clear hk); (try clear hi); have hcv49 := own_string (P := Tryd.prog) Tryd.underlying28 Tryd.underlying5 Tryd.underlying9 (Kd.own_of_R HO_9.out); (try clear A32)) | ((with_reducible refine gate_callee (f := 24) rfl ?_); refine goesL_ (some 64) rfl rfl Tryd.func24 (by kernel_rfl) rfl #[.string ((strOfNums x9_1) ++ (⟨#[32]⟩ : ByteArray))] rfl (by (try simp only [List.map_toArray, List.map_cons, List.map_nil]); first | done | rfl | (simp only [List.length_drop, List.length_take]; rfl)) ?_; (with_reducible refine (grand_Find.calls k1 ((strOfNums x9_1) ++ (⟨#[32]⟩ : ByteArray)) t170 false _ A34.out (by repeat (first | exact HG.out | exact GrandW.G.below HG.out HB.out | apply GrandW.G.alloc | apply GrandW.G.drewN | apply GrandW.G.drew))).mono ?_); rintro e w50 ⟨rfl, hb⟩; refine ⟨_, rfl, ?_⟩; have n0_ := Aside0.mk (Kd.R_below (by (with_reducible repeat (first | apply Kd.R_alloc | apply Kd.R_drewN | apply Kd.R_drew)); exact HO_9.out) hb); have n1_ := Aside0.mk (below_step (by repeat (first | (with_reducible first | exact HB.out | apply below_alloc | apply pw_below_drewN | apply below_drew1) | exact HB.out)) hb); clear HO_9; clear HB; have HO_9 := n0_; have HB := n1_; clear n0_ n1_; (try clear hb); (try clear hb2); (try clear hk); (try clear hi); have hcv51 := own_string (P := Tryd.prog) Tryd.underlying28 Tryd.underlying5 Tryd.underlying9 (Kd.own_of_R HO_9.out); (try clear A34)) | ((with_reducible refine gate_callee (f := 24) rfl ?_); refine goesL_ (some 71) rfl rfl Tryd.func24 (by kernel_rfl) rfl #[.string ((⟨#[45]⟩ : ByteArray) ++ (strOfNums x9_1))] rfl (by (try simp only [List.map_toArray, List.map_cons, List.map_nil]); first | done | rfl | (simp only [List.length_drop, List.length_take]; rfl)) ?_; (with_reducible refine (grand_Find.calls k1 ((⟨#[45]⟩ : ByteArray) ++ (strOfNums x9_1)) t172 t173 _ A36.out (by repeat (first | exact HG.out | exact GrandW.G.below HG.out HB.out | apply GrandW.G.alloc | apply GrandW.G.drewN | apply GrandW.G.drew))).mono ?_); rintro e w52 ⟨rfl, hb⟩; refine ⟨_, rfl, ?_⟩; have n0_ := Aside0.mk (Kd.R_below (by (with_reducible repeat (first | apply Kd.R_alloc | apply Kd.R_drewN | apply Kd.R_drew)); exact HO_9.out) hb); have n1_ := Aside0.mk (below_step (by repeat (first | (with_reducible first | exact HB.out | apply below_alloc | apply pw_below_drewN | apply below_drew1) | exact HB.out)) hb); clear HO_9; clear HB; have HO_9 := n0_; have HB := n1_; clear n0_ n1_; (try clear hb); (try clear hb2); (try clear hk); (try clear hi); (try clear A36)))
                      go_ret
                      exact ⟨by first | rfl | (simp [errW_none, errW_some] <;> rfl) | (simp [*, errW_none, errW_some] <;> rfl), by repeat (first | (with_reducible first | exact HB.out | apply below_alloc | apply pw_below_drewN | apply below_drew1) | exact HB.out)⟩
                  · rw [if_neg c39] at H
                    have c39b0 : (t168 == t158) = false := beq_eq_false_iff_ne.mpr c39
                    have c39b1 : (t168 != t158) = true := bne_iff_ne.mpr c39
                    obtain rfl := Option.some.inj H
                    have hcv53 := own_string (P := Tryd.prog) Tryd.underlying28 Tryd.underlying5 Tryd.underlying9 (Kd.own_of_R HO_9.out)
                    go_wp2_with (first | ((with_reducible refine gate_callee (f := 24) rfl ?_); refine goesL_ (some 57) rfl rfl Tryd.func24 (by kernel_rfl) rfl #[.string (strOfNums x9_1)] rfl (by (try simp only [List.map_toArray, List.map_cons, List.map_nil]); first | done | rfl | (simp only [List.length_drop, List.length_take]; rfl)) ?_; (with_reducible refine (grand_Find.calls k1 (strOfNums x9_1) t168 true _ A32.out (by repeat (first | exact HG.out | exact GrandW.G.below HG.out HB.out | apply GrandW.G.alloc | apply GrandW.G.drewN | apply GrandW.G.drew))).mono ?_); rintro e w54 ⟨rfl, hb⟩; refine ⟨_, rfl, ?_⟩; have n0_ := Aside0.mk (Kd.R_below (by (with_reducible repeat (first | apply Kd.R_alloc | apply Kd.R_drewN | apply Kd.R_drew)); exact HO_9.out) hb); have n1_ := Aside0.mk (below_step (by repeat (first | (with_reducible first | exact HB.out | apply below_alloc | apply pw_below_drewN | apply below_drew1) | exact HB.out)) hb); clear HO_9; clear HB; have HO_9 := n0_; have HB := n1_; clear n0_ n1_; (try clear hb); (try clear hb2); (try clear hk); (try clear hi); have hcv55 := own_string (P := Tryd.prog) Tryd.underlying28 Tryd.underlying5 Tryd.underlying9 (Kd.own_of_R HO_9.out); (try clear A32)) | ((with_reducible refine gate_callee (f := 24) rfl ?_); refine goesL_ (some 64) rfl rfl Tryd.func24 (by kernel_rfl) rfl #[.string ((strOfNums x9_1) ++ (⟨#[32]⟩ : ByteArray))] rfl (by (try simp only [List.map_toArray, List.map_cons, List.map_nil]); first | done | rfl | (simp only [List.length_drop, List.length_take]; rfl)) ?_; (with_reducible refine (grand_Find.calls k1 ((strOfNums x9_1) ++ (⟨#[32]⟩ : ByteArray)) t170 t171 _ A34.out (by repeat (first | exact HG.out | exact GrandW.G.below HG.out HB.out | apply GrandW.G.alloc | apply GrandW.G.drewN | apply GrandW.G.drew))).mono ?_); rintro e w56 ⟨rfl, hb⟩; refine ⟨_, rfl, ?_⟩; have n0_ := Aside0.mk (Kd.R_below (by (with_reducible repeat (first | apply Kd.R_alloc | apply Kd.R_drewN | apply Kd.R_drew)); exact HO_9.out) hb); have n1_ := Aside0.mk (below_step (by repeat (first | (with_reducible first | exact HB.out | apply below_alloc | apply pw_below_drewN | apply below_drew1) | exact HB.out)) hb); clear HO_9; clear HB; have HO_9 := n0_; have HB := n1_; clear n0_ n1_; (try clear hb); (try clear hb2); (try clear hk); (try clear hi); have hcv57 := own_string (P := Tryd.prog) Tryd.underlying28 Tryd.underlying5 Tryd.underlying9 (Kd.own_of_R HO_9.out); (try clear A34)) | ((with_reducible refine gate_callee (f := 24) rfl ?_); refine goesL_ (some 71) rfl rfl Tryd.func24 (by kernel_rfl) rfl #[.string ((⟨#[45]⟩ : ByteArray) ++ (strOfNums x9_1))] rfl (by (try simp only [List.map_toArray, List.map_cons, List.map_nil]); first | done | rfl | (simp only [List.length_drop, List.length_take]; rfl)) ?_; (with_reducible refine (grand_Find.calls k1 ((⟨#[45]⟩ : ByteArray) ++ (strOfNums x9_1)) t172 t173 _ A36.out (by repeat (first | exact HG.out | exact GrandW.G.below HG.out HB.out | apply GrandW.G.alloc | apply GrandW.G.drewN | apply GrandW.G.drew))).mono ?_); rintro e w58 ⟨rfl, hb⟩; refine ⟨_, rfl, ?_⟩; have n0_ := Aside0.mk (Kd.R_below (by (with_reducible repeat (first | apply Kd.R_alloc | apply Kd.R_drewN | apply Kd.R_drew)); exact HO_9.out) hb); have n1_ := Aside0.mk (below_step (by repeat (first | (with_reducible first | exact HB.out | apply below_alloc | apply pw_below_drewN | apply below_drew1) | exact HB.out)) hb); clear HO_9; clear HB; have HO_9 := n0_; have HB := n1_; clear n0_ n1_; (try clear hb); (try clear hb2); (try clear hk); (try clear hi); (try clear A36)))
                    go_ret
                    exact ⟨by first | rfl | (simp [errW_none, errW_some] <;> rfl) | (simp [*, errW_none, errW_some] <;> rfl), by repeat (first | (with_reducible first | exact HB.out | apply below_alloc | apply pw_below_drewN | apply below_drew1) | exact HB.out)⟩
                · replace c38 := Bool.eq_false_iff.mpr c38
                  subst c38
                  have H1 : (some false) = some r := by rw [if_neg (show ¬ (false = true) by decide)] at H; exact H
                  clear H
                  have H := H1
                  clear H1
                  obtain rfl := Option.some.inj H
                  have hcv59 := own_string (P := Tryd.prog) Tryd.underlying28 Tryd.underlying5 Tryd.underlying9 (Kd.own_of_R HO_9.out)
                  go_wp2_with (first | ((with_reducible refine gate_callee (f := 24) rfl ?_); refine goesL_ (some 57) rfl rfl Tryd.func24 (by kernel_rfl) rfl #[.string (strOfNums x9_1)] rfl (by (try simp only [List.map_toArray, List.map_cons, List.map_nil]); first | done | rfl | (simp only [List.length_drop, List.length_take]; rfl)) ?_; (with_reducible refine (grand_Find.calls k1 (strOfNums x9_1) t168 false _ A32.out (by repeat (first | exact HG.out | exact GrandW.G.below HG.out HB.out | apply GrandW.G.alloc | apply GrandW.G.drewN | apply GrandW.G.drew))).mono ?_); rintro e w60 ⟨rfl, hb⟩; refine ⟨_, rfl, ?_⟩; have n0_ := Aside0.mk (Kd.R_below (by (with_reducible repeat (first | apply Kd.R_alloc | apply Kd.R_drewN | apply Kd.R_drew)); exact HO_9.out) hb); have n1_ := Aside0.mk (below_step (by repeat (first | (with_reducible first | exact HB.out | apply below_alloc | apply pw_below_drewN | apply below_drew1) | exact HB.out)) hb); clear HO_9; clear HB; have HO_9 := n0_; have HB := n1_; clear n0_ n1_; (try clear hb); (try clear hb2); (try clear hk); (try clear hi); have hcv61 := own_string (P := Tryd.prog) Tryd.underlying28 Tryd.underlying5 Tryd.underlying9 (Kd.own_of_R HO_9.out); (try clear A32)) | ((with_reducible refine gate_callee (f := 24) rfl ?_); refine goesL_ (some 64) rfl rfl Tryd.func24 (by kernel_rfl) rfl #[.string ((strOfNums x9_1) ++ (⟨#[32]⟩ : ByteArray))] rfl (by (try simp only [List.map_toArray, List.map_cons, List.map_nil]); first | done | rfl | (simp only [List.length_drop, List.length_take]; rfl)) ?_; (with_reducible refine (grand_Find.calls k1 ((strOfNums x9_1) ++ (⟨#[32]⟩ : ByteArray)) t170 t171 _ A34.out (by repeat (first | exact HG.out | exact GrandW.G.below HG.out HB.out | apply GrandW.G.alloc | apply GrandW.G.drewN | apply GrandW.G.drew))).mono ?_); rintro e w62 ⟨rfl, hb⟩; refine ⟨_, rfl, ?_⟩; have n0_ := Aside0.mk (Kd.R_below (by (with_reducible repeat (first | apply Kd.R_alloc | apply Kd.R_drewN | apply Kd.R_drew)); exact HO_9.out) hb); have n1_ := Aside0.mk (below_step (by repeat (first | (with_reducible first | exact HB.out | apply below_alloc | apply pw_below_drewN | apply below_drew1) | exact HB.out)) hb); clear HO_9; clear HB; have HO_9 := n0_; have HB := n1_; clear n0_ n1_; (try clear hb); (try clear hb2); (try clear hk); (try clear hi); have hcv63 := own_string (P := Tryd.prog) Tryd.underlying28 Tryd.underlying5 Tryd.underlying9 (Kd.own_of_R HO_9.out); (try clear A34)) | ((with_reducible refine gate_callee (f := 24) rfl ?_); refine goesL_ (some 71) rfl rfl Tryd.func24 (by kernel_rfl) rfl #[.string ((⟨#[45]⟩ : ByteArray) ++ (strOfNums x9_1))] rfl (by (try simp only [List.map_toArray, List.map_cons, List.map_nil]); first | done | rfl | (simp only [List.length_drop, List.length_take]; rfl)) ?_; (with_reducible refine (grand_Find.calls k1 ((⟨#[45]⟩ : ByteArray) ++ (strOfNums x9_1)) t172 t173 _ A36.out (by repeat (first | exact HG.out | exact GrandW.G.below HG.out HB.out | apply GrandW.G.alloc | apply GrandW.G.drewN | apply GrandW.G.drew))).mono ?_); rintro e w64 ⟨rfl, hb⟩; refine ⟨_, rfl, ?_⟩; have n0_ := Aside0.mk (Kd.R_below (by (with_reducible repeat (first | apply Kd.R_alloc | apply Kd.R_drewN | apply Kd.R_drew)); exact HO_9.out) hb); have n1_ := Aside0.mk (below_step (by repeat (first | (with_reducible first | exact HB.out | apply below_alloc | apply pw_below_drewN | apply below_drew1) | exact HB.out)) hb); clear HO_9; clear HB; have HO_9 := n0_; have HB := n1_; clear n0_ n1_; (try clear hb); (try clear hb2); (try clear hk); (try clear hi); (try clear A36)))
                  go_ret
                  exact ⟨by first | rfl | (simp [errW_none, errW_some] <;> rfl) | (simp [*, errW_none, errW_some] <;> rfl), by repeat (first | (with_reducible first | exact HB.out | apply below_alloc | apply pw_below_drewN | apply below_drew1) | exact HB.out)⟩
              · replace c37 := Bool.eq_false_iff.mpr c37
                subst c37
                have H1 : (some false) = some r := by rw [if_neg (show ¬ (false = true) by decide)] at H; exact H
                clear H
                have H := H1
                clear H1
                obtain rfl := Option.some.inj H
                have hcv65 := own_string (P := Tryd.prog) Tryd.underlying28 Tryd.underlying5 Tryd.underlying9 (Kd.own_of_R HO_9.out)
                go_wp2_with (first | ((with_reducible refine gate_callee (f := 24) rfl ?_); refine goesL_ (some 57) rfl rfl Tryd.func24 (by kernel_rfl) rfl #[.string (strOfNums x9_1)] rfl (by (try simp only [List.map_toArray, List.map_cons, List.map_nil]); first | done | rfl | (simp only [List.length_drop, List.length_take]; rfl)) ?_; (with_reducible refine (grand_Find.calls k1 (strOfNums x9_1) t168 t169 _ A32.out (by repeat (first | exact HG.out | exact GrandW.G.below HG.out HB.out | apply GrandW.G.alloc | apply GrandW.G.drewN | apply GrandW.G.drew))).mono ?_); rintro e w66 ⟨rfl, hb⟩; refine ⟨_, rfl, ?_⟩; have n0_ := Aside0.mk (Kd.R_below (by (with_reducible repeat (first | apply Kd.R_alloc | apply Kd.R_drewN | apply Kd.R_drew)); exact HO_9.out) hb); have n1_ := Aside0.mk (below_step (by repeat (first | (with_reducible first | exact HB.out | apply below_alloc | apply pw_below_drewN | apply below_drew1) | exact HB.out)) hb); clear HO_9; clear HB; have HO_9 := n0_; have HB := n1_; clear n0_ n1_; (try clear hb); (try clear hb2); (try clear hk); (try clear hi); have hcv67 := own_string (P := Tryd.prog) Tryd.underlying28 Tryd.underlying5 Tryd.underlying9 (Kd.own_of_R HO_9.out); (try clear A32)) | ((with_reducible refine gate_callee (f := 24) rfl ?_); refine goesL_ (some 64) rfl rfl Tryd.func24 (by kernel_rfl) rfl #[.string ((strOfNums x9_1) ++ (⟨#[32]⟩ : ByteArray))] rfl (by (try simp only [List.map_toArray, List.map_cons, List.map_nil]); first | done | rfl | (simp only [List.length_drop, List.length_take]; rfl)) ?_; (with_reducible refine (grand_Find.calls k1 ((strOfNums x9_1) ++ (⟨#[32]⟩ : ByteArray)) t170 t171 _ A34.out (by repeat (first | exact HG.out | exact GrandW.G.below HG.out HB.out | apply GrandW.G.alloc | apply GrandW.G.drewN | apply GrandW.G.drew))).mono ?_); rintro e w68 ⟨rfl, hb⟩; refine ⟨_, rfl, ?_⟩; have n0_ := Aside0.mk (Kd.R_below (by (with_reducible repeat (first | apply Kd.R_alloc | apply Kd.R_drewN | apply Kd.R_drew)); exact HO_9.out) hb); have n1_ := Aside0.mk (below_step (by repeat (first | (with_reducible first | exact HB.out | apply below_alloc | apply pw_below_drewN | apply below_drew1) | exact HB.out)) hb); clear HO_9; clear HB; have HO_9 := n0_; have HB := n1_; clear n0_ n1_; (try clear hb); (try clear hb2); (try clear hk); (try clear hi); have hcv69 := own_string (P := Tryd.prog) Tryd.underlying28 Tryd.underlying5 Tryd.underlying9 (Kd.own_of_R HO_9.out); (try clear A34)) | ((with_reducible refine gate_callee (f := 24) rfl ?_); refine goesL_ (some 71) rfl rfl Tryd.func24 (by kernel_rfl) rfl #[.string ((⟨#[45]⟩ : ByteArray) ++ (strOfNums x9_1))] rfl (by (try simp only [List.map_toArray, List.map_cons, List.map_nil]); first | done | rfl | (simp only [List.length_drop, List.length_take]; rfl)) ?_; (with_reducible refine (grand_Find.calls k1 ((⟨#[45]⟩ : ByteArray) ++ (strOfNums x9_1)) t172 t173 _ A36.out (by repeat (first | exact HG.out | exact GrandW.G.below HG.out HB.out | apply GrandW.G.alloc | apply GrandW.G.drewN | apply GrandW.G.drew))).mono ?_); rintro e w70 ⟨rfl, hb⟩; refine ⟨_, rfl, ?_⟩; have n0_ := Aside0.mk (Kd.R_below (by (with_reducible repeat (first | apply Kd.R_alloc | apply Kd.R_drewN | apply Kd.R_drew)); exact HO_9.out) hb); have n1_ := Aside0.mk (below_step (by repeat (first | (with_reducible first | exact HB.out | apply below_alloc | apply pw_below_drewN | apply below_drew1) | exact HB.out)) hb); clear HO_9; clear HB; have HO_9 := n0_; have HB := n1_; clear n0_ n1_; (try clear hb); (try clear hb2); (try clear hk); (try clear hi); (try clear A36)))
                go_ret
                exact ⟨by first | rfl | (simp [errW_none, errW_some] <;> rfl) | (simp [*, errW_none, errW_some] <;> rfl), by repeat (first | (with_reducible first | exact HB.out | apply below_alloc | apply pw_below_drewN | apply below_drew1) | exact HB.out)⟩
            · rw [if_neg c35] at H
              exact absurd H (by simp)
          · rw [if_neg c33] at H
            exact absurd H (by simp)

/-- THE ONE PURE STATEMENT of isoglosslaw05_GrandCases: yours. -/
def isoglosslaw05_GrandCases.Pure : Prop := ∀ (a0 : Int) (a1 : Int), (Lit.int .i64 a0).wf = true → (Lit.int .i64 a1).wf = true → ∃ k, isoglosslaw05_GrandCases.f k a0 a1 = some true
theorem isoglosslaw05_GrandCases.walk (P : isoglosslaw05_GrandCases.Pure) (a0 : Int) (a1 : Int) (w : World) (w0 : (Lit.int .i64 a0).wf = true) (w1 : (Lit.int .i64 a1).wf = true) (hG : GrandW.G w) :
    Calls Tryd.prog 5 #[.int .i64 a0, .int .i64 a1] w fun e w' => e = .returned (.bool true) ∧ Below w.heap.size w w' := by
  obtain ⟨k, h⟩ := P a0 a1 w0 w1
  refine (isoglosslaw05_GrandCases.calls k a0 a1 true w h hG).mono ?_
  rintro e w' ⟨rfl, hd⟩
  exact ⟨rfl, hd⟩

/-! ### grand_Regular: function 29 -/
def grand_Regular.f (a0 : Int) : Option (Bool) := (grand_Name.f a0).bind fun bt174 => (if bt174.2 = true then (if 0 < (bt174.1.size : Int) then (if (bt bt174.1 0) = 105 then (some false) else (if (bt bt174.1 0) = 115 then (some false) else (if (bt bt174.1 0) = 101 then (some false) else (some true)))) else (none)) else (some false))
set_option maxHeartbeats 8000000 in
set_option maxRecDepth 100000 in
theorem grand_Regular.calls (a0 : Int) (r : Bool) (w : World) (h : grand_Regular.f a0 = some r) (hG : GrandW.G w) :
    Calls Tryd.prog 29 #[.int .i64 a0] w fun e w' => e = .returned (.bool r) ∧ Drawn0 w w' := by
  have HG := Aside0.mk hG
  clear hG
  have H : ((grand_Name.f a0).bind fun bt174 => (if bt174.2 = true then (if 0 < (bt174.1.size : Int) then (if (bt bt174.1 0) = 105 then (some false) else (if (bt bt174.1 0) = 115 then (some false) else (if (bt bt174.1 0) = 101 then (some false) else (some true)))) else (none)) else (some false))) = some r := h
  clear h
  replace H := Option.bind_eq_some_iff.mp H
  obtain ⟨⟨t174, t175⟩, A20, H⟩ := H
  replace H : (if t175 = true then (if 0 < (t174.size : Int) then (if (bt t174 0) = 105 then (some false) else (if (bt t174 0) = 115 then (some false) else (if (bt t174 0) = 101 then (some false) else (some true)))) else (none)) else (some false)) = some r := H
  have A2 := Aside0.mk A20
  clear A20
  by_cases c3 : t175 = true
  · subst c3
    have H1 : (if 0 < (t174.size : Int) then (if (bt t174 0) = 105 then (some false) else (if (bt t174 0) = 115 then (some false) else (if (bt t174 0) = 101 then (some false) else (some true)))) else (none)) = some r := by rw [if_pos rfl] at H; exact H
    clear H
    have H := H1
    clear H1
    by_cases c4 : 0 < (t174.size : Int)
    · rw [if_pos c4] at H
      have c4b0 : decide (0 < (t174.size : Int)) = true := decide_eq_true c4
      have c4b1 : decide (0 < t174.size) = true := decide_eq_true (by omega)
      clear c4
      by_cases c6 : (bt t174 0) = 105
      · rw [if_pos c6] at H
        have c6b0 : ((bt t174 0) == 105) = true := beq_iff_eq.mpr c6
        have c6b1 : ((bt t174 0) != 105) = false := bne_eq_false_iff_eq.mpr c6
        clear c6
        obtain rfl := Option.some.inj H
        go_enter Tryd.func29, Tryd.ntmps29
        go_wp2_with (first | ((with_reducible refine gate_callee (f := 21) rfl ?_); refine goesL_ (some 7) rfl rfl Tryd.func21 (by kernel_rfl) rfl #[.int .i64 a0] rfl (by (try simp only [List.map_toArray, List.map_cons, List.map_nil]); first | done | rfl | (simp only [List.length_drop, List.length_take]; rfl)) ?_; (with_reducible refine (grand_Name.calls a0 t174 true _ A2.out (by repeat (first | exact HG.out | exact GrandW.G.below HG.out HB.out | apply GrandW.G.alloc | apply GrandW.G.drewN | apply GrandW.G.drew))).mono ?_); rintro e w' ⟨rfl, ⟨nd, rfl⟩⟩; refine ⟨_, rfl, ?_⟩; have p5 : 0 ≤ (0 : Int) := (by omega); have q5 : 0 < t174.size := (by have : (0 : Int) < (t174.size : Int) := of_decide_eq_true (by first | (with_reducible assumption) | assumption); omega); have hx5 : ∀ h : 0 < t174.size, ((t174[0]'h).toNat : Int) = bt t174 0 := bt_at t174 0; clear p5; have qi5 : (0 < (t174.size : Int)) = True := eq_true (of_decide_eq_true (by first | (with_reducible assumption) | assumption)); replace q5 := eq_true q5; (try clear A2)))
        go_ret
        exact ⟨by first | rfl | (simp; done) | (simp [*]; done), by repeat (first | exact Drawn0.refl _ | apply Drawn0.step)⟩
      · rw [if_neg c6] at H
        have c6b0 : ((bt t174 0) == 105) = false := beq_eq_false_iff_ne.mpr c6
        have c6b1 : ((bt t174 0) != 105) = true := bne_iff_ne.mpr c6
        by_cases c8 : (bt t174 0) = 115
        · rw [if_pos c8] at H
          have c8b0 : ((bt t174 0) == 115) = true := beq_iff_eq.mpr c8
          have c8b1 : ((bt t174 0) != 115) = false := bne_eq_false_iff_eq.mpr c8
          clear c8
          obtain rfl := Option.some.inj H
          go_enter Tryd.func29, Tryd.ntmps29
          go_wp2_with (first | ((with_reducible refine gate_callee (f := 21) rfl ?_); refine goesL_ (some 7) rfl rfl Tryd.func21 (by kernel_rfl) rfl #[.int .i64 a0] rfl (by (try simp only [List.map_toArray, List.map_cons, List.map_nil]); first | done | rfl | (simp only [List.length_drop, List.length_take]; rfl)) ?_; (with_reducible refine (grand_Name.calls a0 t174 true _ A2.out (by repeat (first | exact HG.out | exact GrandW.G.below HG.out HB.out | apply GrandW.G.alloc | apply GrandW.G.drewN | apply GrandW.G.drew))).mono ?_); rintro e w' ⟨rfl, ⟨nd, rfl⟩⟩; refine ⟨_, rfl, ?_⟩; have p5 : 0 ≤ (0 : Int) := (by omega); have q5 : 0 < t174.size := (by have : (0 : Int) < (t174.size : Int) := of_decide_eq_true (by first | (with_reducible assumption) | assumption); omega); have hx5 : ∀ h : 0 < t174.size, ((t174[0]'h).toNat : Int) = bt t174 0 := bt_at t174 0; clear p5; have qi5 : (0 < (t174.size : Int)) = True := eq_true (of_decide_eq_true (by first | (with_reducible assumption) | assumption)); replace q5 := eq_true q5; have p7 : 0 ≤ (0 : Int) := (by omega); have q7 : 0 < t174.size := (by have : (0 : Int) < (t174.size : Int) := of_decide_eq_true (by first | (with_reducible assumption) | assumption); omega); have hx7 : ∀ h : 0 < t174.size, ((t174[0]'h).toNat : Int) = bt t174 0 := bt_at t174 0; clear p7; have qi7 : (0 < (t174.size : Int)) = True := eq_true (of_decide_eq_true (by first | (with_reducible assumption) | assumption)); replace q7 := eq_true q7; (try clear A2)))
          go_ret
          exact ⟨by first | rfl | (simp; done) | (simp [*]; done), by repeat (first | exact Drawn0.refl _ | apply Drawn0.step)⟩
        · rw [if_neg c8] at H
          have c8b0 : ((bt t174 0) == 115) = false := beq_eq_false_iff_ne.mpr c8
          have c8b1 : ((bt t174 0) != 115) = true := bne_iff_ne.mpr c8
          by_cases c10 : (bt t174 0) = 101
          · rw [if_pos c10] at H
            have c10b0 : ((bt t174 0) == 101) = true := beq_iff_eq.mpr c10
            have c10b1 : ((bt t174 0) != 101) = false := bne_eq_false_iff_eq.mpr c10
            clear c10
            obtain rfl := Option.some.inj H
            go_enter Tryd.func29, Tryd.ntmps29
            go_wp2_with (first | ((with_reducible refine gate_callee (f := 21) rfl ?_); refine goesL_ (some 7) rfl rfl Tryd.func21 (by kernel_rfl) rfl #[.int .i64 a0] rfl (by (try simp only [List.map_toArray, List.map_cons, List.map_nil]); first | done | rfl | (simp only [List.length_drop, List.length_take]; rfl)) ?_; (with_reducible refine (grand_Name.calls a0 t174 true _ A2.out (by repeat (first | exact HG.out | exact GrandW.G.below HG.out HB.out | apply GrandW.G.alloc | apply GrandW.G.drewN | apply GrandW.G.drew))).mono ?_); rintro e w' ⟨rfl, ⟨nd, rfl⟩⟩; refine ⟨_, rfl, ?_⟩; have p5 : 0 ≤ (0 : Int) := (by omega); have q5 : 0 < t174.size := (by have : (0 : Int) < (t174.size : Int) := of_decide_eq_true (by first | (with_reducible assumption) | assumption); omega); have hx5 : ∀ h : 0 < t174.size, ((t174[0]'h).toNat : Int) = bt t174 0 := bt_at t174 0; clear p5; have qi5 : (0 < (t174.size : Int)) = True := eq_true (of_decide_eq_true (by first | (with_reducible assumption) | assumption)); replace q5 := eq_true q5; have p7 : 0 ≤ (0 : Int) := (by omega); have q7 : 0 < t174.size := (by have : (0 : Int) < (t174.size : Int) := of_decide_eq_true (by first | (with_reducible assumption) | assumption); omega); have hx7 : ∀ h : 0 < t174.size, ((t174[0]'h).toNat : Int) = bt t174 0 := bt_at t174 0; clear p7; have qi7 : (0 < (t174.size : Int)) = True := eq_true (of_decide_eq_true (by first | (with_reducible assumption) | assumption)); replace q7 := eq_true q7; have p9 : 0 ≤ (0 : Int) := (by omega); have q9 : 0 < t174.size := (by have : (0 : Int) < (t174.size : Int) := of_decide_eq_true (by first | (with_reducible assumption) | assumption); omega); have hx9 : ∀ h : 0 < t174.size, ((t174[0]'h).toNat : Int) = bt t174 0 := bt_at t174 0; clear p9; have qi9 : (0 < (t174.size : Int)) = True := eq_true (of_decide_eq_true (by first | (with_reducible assumption) | assumption)); replace q9 := eq_true q9; (try clear A2)))
            go_ret
            exact ⟨by first | rfl | (simp; done) | (simp [*]; done), by repeat (first | exact Drawn0.refl _ | apply Drawn0.step)⟩
          · rw [if_neg c10] at H
            have c10b0 : ((bt t174 0) == 101) = false := beq_eq_false_iff_ne.mpr c10
            have c10b1 : ((bt t174 0) != 101) = true := bne_iff_ne.mpr c10
            obtain rfl := Option.some.inj H
            go_enter Tryd.func29, Tryd.ntmps29
            go_wp2_with (first | ((with_reducible refine gate_callee (f := 21) rfl ?_); refine goesL_ (some 7) rfl rfl Tryd.func21 (by kernel_rfl) rfl #[.int .i64 a0] rfl (by (try simp only [List.map_toArray, List.map_cons, List.map_nil]); first | done | rfl | (simp only [List.length_drop, List.length_take]; rfl)) ?_; (with_reducible refine (grand_Name.calls a0 t174 true _ A2.out (by repeat (first | exact HG.out | exact GrandW.G.below HG.out HB.out | apply GrandW.G.alloc | apply GrandW.G.drewN | apply GrandW.G.drew))).mono ?_); rintro e w' ⟨rfl, ⟨nd, rfl⟩⟩; refine ⟨_, rfl, ?_⟩; have p5 : 0 ≤ (0 : Int) := (by omega); have q5 : 0 < t174.size := (by have : (0 : Int) < (t174.size : Int) := of_decide_eq_true (by first | (with_reducible assumption) | assumption); omega); have hx5 : ∀ h : 0 < t174.size, ((t174[0]'h).toNat : Int) = bt t174 0 := bt_at t174 0; clear p5; have qi5 : (0 < (t174.size : Int)) = True := eq_true (of_decide_eq_true (by first | (with_reducible assumption) | assumption)); replace q5 := eq_true q5; have p7 : 0 ≤ (0 : Int) := (by omega); have q7 : 0 < t174.size := (by have : (0 : Int) < (t174.size : Int) := of_decide_eq_true (by first | (with_reducible assumption) | assumption); omega); have hx7 : ∀ h : 0 < t174.size, ((t174[0]'h).toNat : Int) = bt t174 0 := bt_at t174 0; clear p7; have qi7 : (0 < (t174.size : Int)) = True := eq_true (of_decide_eq_true (by first | (with_reducible assumption) | assumption)); replace q7 := eq_true q7; have p9 : 0 ≤ (0 : Int) := (by omega); have q9 : 0 < t174.size := (by have : (0 : Int) < (t174.size : Int) := of_decide_eq_true (by first | (with_reducible assumption) | assumption); omega); have hx9 : ∀ h : 0 < t174.size, ((t174[0]'h).toNat : Int) = bt t174 0 := bt_at t174 0; clear p9; have qi9 : (0 < (t174.size : Int)) = True := eq_true (of_decide_eq_true (by first | (with_reducible assumption) | assumption)); replace q9 := eq_true q9; (try clear A2)))
            go_ret
            exact ⟨by first | rfl | (simp; done) | (simp [*]; done), by repeat (first | exact Drawn0.refl _ | apply Drawn0.step)⟩
    · rw [if_neg c4] at H
      exact absurd H (by simp)
  · replace c3 := Bool.eq_false_iff.mpr c3
    subst c3
    have H1 : (some false) = some r := by rw [if_neg (show ¬ (false = true) by decide)] at H; exact H
    clear H
    have H := H1
    clear H1
    obtain rfl := Option.some.inj H
    go_enter Tryd.func29, Tryd.ntmps29
    go_wp2_with (first | ((with_reducible refine gate_callee (f := 21) rfl ?_); refine goesL_ (some 7) rfl rfl Tryd.func21 (by kernel_rfl) rfl #[.int .i64 a0] rfl (by (try simp only [List.map_toArray, List.map_cons, List.map_nil]); first | done | rfl | (simp only [List.length_drop, List.length_take]; rfl)) ?_; (with_reducible refine (grand_Name.calls a0 t174 false _ A2.out (by repeat (first | exact HG.out | exact GrandW.G.below HG.out HB.out | apply GrandW.G.alloc | apply GrandW.G.drewN | apply GrandW.G.drew))).mono ?_); rintro e w' ⟨rfl, ⟨nd, rfl⟩⟩; refine ⟨_, rfl, ?_⟩; (try clear A2)))
    go_ret
    exact ⟨by first | rfl | (simp; done) | (simp [*]; done), by repeat (first | exact Drawn0.refl _ | apply Drawn0.step)⟩

end Go.Proofs.YtmbfnbnlajchmaaDoor.P
