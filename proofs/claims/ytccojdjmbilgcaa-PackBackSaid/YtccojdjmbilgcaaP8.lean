/- Made by a program of this seat's own (myprint.py, round the kit's print): what the functions compute, and that they do. -/
import Derived.Test.YtccojdjmbilgcaaP0
import Derived.Test.YtccojdjmbilgcaaP1
import Derived.Test.YtccojdjmbilgcaaP3
import Derived.Test.YtccojdjmbilgcaaP4
import Derived.Test.YtccojdjmbilgcaaP5
import Derived.Test.YtccojdjmbilgcaaP7
namespace Go.Proofs.Ytccojdjmbilgcaa.P
open Go.RowKit Go.Proofs.YtccojdjmbilgcaaW.PrintWords Go.Proofs.YtccojdjmbilgcaaW.PrintLast Go.Proofs.YtccojdjmbilgcaaW.PrintMore
attribute [local go_sem] max2_int min2_int max_two min_two max_three min_three max_four min_four   -- for this text's walks alone
set_option linter.unusedVariables false
set_option linter.unusedSimpArgs false

/-! ### isoglossref02_upper: function 51 -/
def isoglossref02_upper.f (a0 : Int) : Option (Int) := if a0 ≥ 97 then (if a0 ≤ 122 then (some ((((a0 - 97) % 256) + 65) % 256)) else (some a0)) else (some a0)
set_option maxHeartbeats 8000000 in
set_option maxRecDepth 100000 in
theorem isoglossref02_upper.calls (a0 : Int) (r : Int) (w : World) (h : isoglossref02_upper.f a0 = some r) :
    Calls Try.prog 51 #[.int .u8 a0] w fun e w' => e = .returned (.int .u8 r) ∧ Drawn0 w w' := by
  have H : (if a0 ≥ 97 then (if a0 ≤ 122 then (some ((((a0 - 97) % 256) + 65) % 256)) else (some a0)) else (some a0)) = some r := h
  clear h
  by_cases c2 : a0 ≥ 97
  · rw [if_pos c2] at H
    have c2b0 : decide (97 ≤ a0) = true := decide_eq_true c2
    clear c2
    by_cases c3 : a0 ≤ 122
    · rw [if_pos c3] at H
      have c3b0 : decide (a0 ≤ 122) = true := decide_eq_true c3
      clear c3
      obtain rfl := Option.some.inj H
      go_enter Try.func51, Try.ntmps51
      go_wp2
      go_ret
      exact ⟨by first | rfl | (simp; done) | (simp [*]; done), by repeat (first | exact Drawn0.refl _ | apply Drawn0.step)⟩
    · rw [if_neg c3] at H
      have c3b0 : decide (a0 ≤ 122) = false := decide_eq_false c3
      clear c3
      obtain rfl := Option.some.inj H
      go_enter Try.func51, Try.ntmps51
      go_wp2
      go_ret
      exact ⟨by first | rfl | (simp; done) | (simp [*]; done), by repeat (first | exact Drawn0.refl _ | apply Drawn0.step)⟩
  · rw [if_neg c2] at H
    have c2b0 : decide (97 ≤ a0) = false := decide_eq_false c2
    clear c2
    obtain rfl := Option.some.inj H
    go_enter Try.func51, Try.ntmps51
    go_wp2
    go_ret
    exact ⟨by first | rfl | (simp; done) | (simp [*]; done), by repeat (first | exact Drawn0.refl _ | apply Drawn0.step)⟩

/-! ### isoglossref02_Upper: function 30 -/
def isoglossref02_Upper.l0 : Nat → ByteArray → List Int → Int → Option (ByteArray)
  | 0, _, _, _ => none
  | k + 1, x0, x3, x4 => if x4 < (x0.size : Int) then (if 0 ≤ x4 then ((isoglossref02_upper.f (bt x0 x4)).bind fun t207 => (if x3.length < 140737488355328 then (isoglossref02_Upper.l0 k x0 (x3 ++ [t207]) (wrap64 (x4 + 1))) else (none))) else (none)) else (some (strOfNums x3))
def isoglossref02_Upper.f (k : Nat) (a0 : ByteArray) : Option (ByteArray) := isoglossref02_Upper.l0 k a0 ([] : List Int) 0
theorem isoglossref02_Upper.mono_l : ∀ k, (∀ y0 y1 y2, LeO (isoglossref02_Upper.l0 k y0 y1 y2) (isoglossref02_Upper.l0 (k + 1) y0 y1 y2))
  | 0 => fun _ _ _ r h => by simp [isoglossref02_Upper.l0] at h
  | k + 1 => by
    have ih0 := isoglossref02_Upper.mono_l k
    · intro y0 y1 y2
      unfold isoglossref02_Upper.l0
      repeat' first
      | (with_reducible exact ih0 _ _ _)
      | (with_reducible exact LeO.refl _)
      | (with_reducible exact LeO.none _)
      | (with_reducible refine LeO.ite ?_ ?_)
      | (with_reducible refine LeO.bind ?_ (fun _ => ?_))
      | exact ih0 _ _ _
      | exact LeO.none _
      | refine LeO.ite ?_ ?_
      | refine LeO.bind ?_ (fun _ => ?_)
theorem isoglossref02_Upper.mono : ∀ a0 k, LeO (isoglossref02_Upper.f k a0) (isoglossref02_Upper.f (k + 1) a0) := by
  intro a0 k
  have ih0 := isoglossref02_Upper.mono_l k
  unfold isoglossref02_Upper.f
  repeat' first
      | (with_reducible exact ih0 _ _ _)
      | (with_reducible exact LeO.refl _)
      | (with_reducible exact LeO.none _)
      | (with_reducible refine LeO.ite ?_ ?_)
      | (with_reducible refine LeO.bind ?_ (fun _ => ?_))
      | exact ih0 _ _ _
      | exact LeO.none _
      | refine LeO.ite ?_ ?_
      | refine LeO.bind ?_ (fun _ => ?_)
set_option maxHeartbeats 8000000 in
set_option maxRecDepth 100000 in
theorem isoglossref02_Upper.calls (k : Nat) (a0 : ByteArray) (r : ByteArray) (w : World) (h : isoglossref02_Upper.f k a0 = some r) :
    Calls Try.prog 30 #[.string a0] w fun e w' => e = .returned (.string r) ∧ Below w.heap.size w w' := by
  have HB := Aside0.mk (Below.refl w.heap.size w)
  have H : (isoglossref02_Upper.l0 k a0 ([] : List Int) 0) = some r := h
  clear h
  have H' := Aside0.mk H
  clear H
  go_enter Try.func30, Try.ntmps30
  go_wp2
  go_loopg [3, 4] k (fun kq v3 v4 w' => ∃ (x3_1 : List Int) (x4_1 : Int), v4 = .int .i64 x4_1 ∧ Aside0 (isoglossref02_Upper.l0 kq a0 x3_1 x4_1 = some r) ∧ Aside0 (kq ≤ k) ∧ Aside0 (Kd.R (Kd.int .u8) 5 w' w.heap.size (fun _ => True) v3 x3_1) ∧ Aside0 (Below w.heap.size w w'))
  case atStart => exact ⟨(([] : List Int)), (0), (by first | rfl | (simp; done) | (simp [*]; done)), H', ⟨Nat.le_refl _⟩, ⟨by first | exact Kd.R_nil _ _ _ _ _ | exact Kd.N_nil _ _ _ _ _ | exact Kd.V_nil _ _ _ _ _ | exact Kd.Q_nil _ _ _ _ _ | exact Kd.S_nil _ _ _ _ _⟩, ⟨by repeat (first | (with_reducible first | exact HB.out | apply below_alloc | apply pw_below_drewN | apply below_drew1) | exact HB.out)⟩⟩
  case round =>
    clear H'
    obtain ⟨x3_1, x4_1, rfl, HA, HK1, HO_3, HB⟩ := hrel
    cases gk with
    | zero => exact absurd HA.out (by simp [isoglossref02_Upper.l0])
    | succ k1 =>
      have H := HA.out
      clear HA
      simp only [isoglossref02_Upper.l0] at H
      by_cases c2 : x4_1 < (a0.size : Int)
      · rw [if_pos c2] at H
        have c2b0 : decide (x4_1 < (a0.size : Int)) = true := decide_eq_true c2
        clear c2
        by_cases c3 : 0 ≤ x4_1
        · rw [if_pos c3] at H
          have c3b0 : decide (0 ≤ x4_1) = true := decide_eq_true c3
          clear c3
          replace H := Option.bind_eq_some_iff.mp H
          obtain ⟨t207, A50, H⟩ := H
          replace H : (if x3_1.length < 140737488355328 then (isoglossref02_Upper.l0 k1 a0 (x3_1 ++ [t207]) (wrap64 (x4_1 + 1))) else (none)) = some r := H
          have A5 := Aside0.mk A50
          clear A50
          by_cases c6 : x3_1.length < 140737488355328
          · rw [if_pos c6] at H
            have LMc6 := Aside0.mk c6
            clear c6
            obtain ⟨y208, hy208⟩ : ∃ y_ : List Int, y_ = (x3_1 ++ [t207]) := ⟨_, rfl⟩
            replace H : (isoglossref02_Upper.l0 k1 a0 y208 (wrap64 (x4_1 + 1))) = some r := by first | (rw [hy208]; with_reducible exact H) | (have H2_ := (Option.bind_some _ _).symm.trans H; rw [hy208]; with_reducible exact H2_) | (have H2_ := (Option.bind_some _ _).symm.trans H; with_reducible exact H2_) | with_reducible exact H | (rw [hy208]; exact H) | exact H
            have Ny208 := Aside0.mk hy208
            clear hy208
            have H' := Aside0.mk H
            clear H
            have p4 : 0 ≤ (x4_1 : Int) := of_decide_eq_true (by first | (with_reducible assumption) | assumption)
            have q4 : x4_1 < (a0.size : Int) := of_decide_eq_true (by first | (with_reducible assumption) | assumption)
            have hx4 := bt_at a0 x4_1
            replace p4 := eq_true p4
            replace q4 := eq_true q4
            go_wp2_with (first | ((with_reducible refine gate_callee (f := 51) rfl ?_); refine goesL_ (some 15) rfl rfl Try.func51 (by kernel_rfl) rfl #[.int .u8 (bt a0 x4_1)] rfl (by (try simp only [List.map_toArray, List.map_cons, List.map_nil]); first | done | rfl | (simp only [List.length_drop, List.length_take]; rfl)) ?_; (with_reducible refine (isoglossref02_upper.calls (bt a0 x4_1) t207 _ A5.out).mono ?_); rintro e w' ⟨rfl, ⟨nd, rfl⟩⟩; refine ⟨_, rfl, ?_⟩; (try clear A5)) | ((with_reducible refine gate_builtin (b := .append) (xs := #[.tmp 11, .tmp 16]) rfl ?_); at_builtin; refine Kd.R_append (Kd.int .u8) (w0 := w) w.heap.size rfl (.tmp 11) (.tmp 16) 35 5 (.int .u8 0) 1 rfl Try.underlying35 info5 rfl (by decide) (by omega) u3 x3_1 t207 [.int .u8 t207] (fun _ => True) (fun _ => False) rfl rfl ?aP (fun _ hk => hk.elim) ?aF ?aO ?aB ?aS ?aL ?_; (case aP => exact rfl); (case aB => exact (by repeat (first | (with_reducible first | exact HB.out | apply below_alloc | apply pw_below_drewN | apply below_drew1) | exact HB.out))); (case aF => exact (fun _ _ => trivial)); (case aO => exact (by (with_reducible repeat (first | apply Kd.R_alloc | apply Kd.R_drewN | apply Kd.R_drew)); exact HO_3.out)); (case aS => exact (below_size (by repeat (first | (with_reducible first | exact HB.out | apply below_alloc | apply pw_below_drewN | apply below_drew1) | exact HB.out)))); (case aL => have := LMc6.out; omega); intro v209 w7 ho hb hg hat; rw [← Ny208.out] at ho; have n0_ := Aside0.mk (hb); have n1_ := Aside0.mk (ho); clear HB; clear HO_3; have HB := n0_; have HO210 := n1_; clear n0_ n1_; clear ho hb hg hat))
            go_roundg k1
            case measure => have := HK1.out; omega
            case rel => exact ⟨(y208), (wrap64 (x4_1 + 1)), (by first | rfl | (simp; done) | (simp [*]; done)), H', ⟨by have := HK1.out; omega⟩, ⟨by (with_reducible repeat (first | apply Kd.R_alloc | apply Kd.R_drewN | apply Kd.R_drew)); exact HO210.out⟩, ⟨by repeat (first | (with_reducible first | exact HB.out | apply below_alloc | apply pw_below_drewN | apply below_drew1) | exact HB.out)⟩⟩
          · rw [if_neg c6] at H
            exact absurd H (by simp)
        · rw [if_neg c3] at H
          exact absurd H (by simp)
      · rw [if_neg c2] at H
        have c2b0 : decide (x4_1 < (a0.size : Int)) = false := decide_eq_false c2
        clear c2
        obtain rfl := Option.some.inj H
        have hcv8 := own_string (P := Try.prog) Try.underlying35 Try.underlying5 Try.underlying9 (Kd.own_of_R HO_3.out)
        go_wp2
        go_ret
        exact ⟨by first | rfl | (simp [errW_none, errW_some] <;> rfl) | (simp [*, errW_none, errW_some] <;> rfl), by repeat (first | (with_reducible first | exact HB.out | apply below_alloc | apply pw_below_drewN | apply below_drew1) | exact HB.out)⟩

/-! ### isoglossref02_Title: function 31 -/
def isoglossref02_Title.f (k : Nat) (a0 : ByteArray) : Option (ByteArray) := if a0.toList = ([] : List UInt8) then (some (⟨#[]⟩ : ByteArray)) else (if 0 ≤ 1 then (if 1 ≤ (a0.size : Int) then ((isoglossref02_Upper.f k (a0.extract 0 1)).bind fun t211 => ((isoglossref02_Lower.f k (a0.extract 1 a0.size)).bind fun t212 => (if t211.size + t212.size ≤ 9223372036854775807 then (some (t211 ++ t212)) else (none)))) else (none)) else (none))
theorem isoglossref02_Title.mono : ∀ a0 k, LeO (isoglossref02_Title.f k a0) (isoglossref02_Title.f (k + 1) a0) := by
  intro a0 k
  unfold isoglossref02_Title.f
  repeat' first
      | (with_reducible exact isoglossref02_Lower.mono _ _)
      | (with_reducible exact isoglossref02_Upper.mono _ _)
      | (with_reducible exact LeO.refl _)
      | (with_reducible exact LeO.none _)
      | (with_reducible refine LeO.ite ?_ ?_)
      | (with_reducible refine LeO.bind ?_ (fun _ => ?_))
      | exact isoglossref02_Lower.mono _ _
      | exact isoglossref02_Upper.mono _ _
      | exact LeO.none _
      | refine LeO.ite ?_ ?_
      | refine LeO.bind ?_ (fun _ => ?_)
def isoglossref02_Title.T3 : Bool × List (List Nat × List Nat) := (true, [([], []), ([0], [0]), ([1], [1]), ([], []), ([3], [3]), ([4, 2], [4]), ([2, 5], [2, 5]), ([6, 5, 0, 1, 2, 3, 4, 5, 6], [6])])
def isoglossref02_Title.B3 : List Nat := [0, 1, 3, 0, 8, 31, 63, 127]
theorem isoglossref02_Title.tab3 : rtab .any (opsOf Try.f31 3) = isoglossref02_Title.T3 := by kernel_rfl
theorem isoglossref02_Title.bits3 : waitsOk isoglossref02_Title.T3.2 isoglossref02_Title.B3 = true := by kernel_rfl
set_option maxHeartbeats 8000000 in
set_option maxRecDepth 100000 in
theorem isoglossref02_Title.calls (k : Nat) (a0 : ByteArray) (r : ByteArray) (w : World) (h : isoglossref02_Title.f k a0 = some r) :
    Calls Try.prog 31 #[.string a0] w fun e w' => e = .returned (.string r) ∧ Below w.heap.size w w' := by
  have HB := Aside0.mk (Below.refl w.heap.size w)
  have H : (if a0.toList = ([] : List UInt8) then (some (⟨#[]⟩ : ByteArray)) else (if 0 ≤ 1 then (if 1 ≤ (a0.size : Int) then ((isoglossref02_Upper.f k (a0.extract 0 1)).bind fun t211 => ((isoglossref02_Lower.f k (a0.extract 1 a0.size)).bind fun t212 => (if t211.size + t212.size ≤ 9223372036854775807 then (some (t211 ++ t212)) else (none)))) else (none)) else (none))) = some r := h
  clear h
  by_cases c2 : a0.toList = ([] : List UInt8)
  · rw [if_pos c2] at H
    have c2b0 : (a0.toList == ([] : List UInt8)) = true := beq_iff_eq.mpr c2
    have c2b1 : (a0.toList != ([] : List UInt8)) = false := bne_eq_false_iff_eq.mpr c2
    have c2b2 : a0.toList.isEmpty = true := List.isEmpty_iff.mpr c2
    clear c2
    obtain rfl := Option.some.inj H
    go_enter Try.func31, Try.ntmps31
    go_wp2
    go_ret
    exact ⟨by first | rfl | (simp [errW_none, errW_some] <;> rfl) | (simp [*, errW_none, errW_some] <;> rfl), by repeat (first | (with_reducible first | exact HB.out | apply below_alloc | apply pw_below_drewN | apply below_drew1) | exact HB.out)⟩
  · rw [if_neg c2] at H
    have c2b0 : (a0.toList == ([] : List UInt8)) = false := beq_eq_false_iff_ne.mpr c2
    have c2b1 : (a0.toList != ([] : List UInt8)) = true := bne_iff_ne.mpr c2
    have c2b2 : a0.toList.isEmpty = false := List.isEmpty_eq_false_iff.mpr c2
    by_cases c3 : 0 ≤ 1
    · rw [if_pos c3] at H
      have c3b0 := eq_true c3
      have c3b1 : decide (0 ≤ 1) = true := decide_eq_true c3
      clear c3
      by_cases c4 : 1 ≤ (a0.size : Int)
      · rw [if_pos c4] at H
        have c4b0 := eq_true c4
        have c4b1 : decide (1 ≤ (a0.size : Int)) = true := decide_eq_true c4
        clear c4
        replace H := Option.bind_eq_some_iff.mp H
        obtain ⟨t211, A50, H⟩ := H
        replace H : ((isoglossref02_Lower.f k (a0.extract 1 a0.size)).bind fun t212 => (if t211.size + t212.size ≤ 9223372036854775807 then (some (t211 ++ t212)) else (none))) = some r := H
        have A5 := Aside0.mk A50
        clear A50
        have c6b0 := eq_true (of_decide_eq_true (by first | (with_reducible assumption) | assumption) : 1 ≤ (a0.size : Int))
        replace H := Option.bind_eq_some_iff.mp H
        obtain ⟨t212, A70, H⟩ := H
        replace H : (if t211.size + t212.size ≤ 9223372036854775807 then (some (t211 ++ t212)) else (none)) = some r := H
        have A7 := Aside0.mk A70
        clear A70
        by_cases c8 : t211.size + t212.size ≤ 9223372036854775807
        · rw [if_pos c8] at H
          have c8b0 := eq_true c8
          have c8b1 : decide (t211.size + t212.size ≤ 9223372036854775807) = true := decide_eq_true c8
          try have c8b2 : (9223372036854775807 < t211.size + t212.size) = False := eq_false (Nat.not_lt.2 c8)
          obtain rfl := Option.some.inj H
          go_enter Try.func31, Try.ntmps31
          try go_wp2
          have n0_ := Aside0.mk (below_drew1 HB.out)
          clear HB
          have HB := n0_
          clear n0_
          refine start_ (n := 8) (S := fun w' => True) (ds := []) #[false, false, false, false, false, false, false, false] (by kernel_rfl) rfl rfl trivial (fun hHeld => ?_); refine with_tabW isoglossref02_Title.tab3 isoglossref02_Title.bits3 (fun HT_ HW_ => ?_)
          generalize w.drew = w9 at HB hHeld ⊢
          refine pure_ (i := 0) (N := some 5) (v := ?_) (a' := ?_) #[true, false, false, false, false, false, false, false] rfl rfl (any_of HT_.out (by kernel_rfl)) (fun _ _ _ h => h) (Or.inl ⟨by rfl, ?_⟩) ?_ ?_
          rotate_left
          · intro w'
            go_simp
            with_reducible rfl
          rotate_left
          · simp only [Act.put, List.setIfInBounds_toArray, List.set_cons_zero, List.set_cons_succ, i64_w, i32_w]
            rfl
          refine pure_ (i := 1) (N := some 6) (v := ?_) (a' := ?_) #[true, true, false, false, false, false, false, false] rfl rfl (any_of HT_.out (by kernel_rfl)) (fun _ _ _ h => h) (Or.inl ⟨by rfl, ?_⟩) ?_ ?_
          rotate_left
          · intro w'
            go_simp
            with_reducible rfl
          rotate_left
          · simp only [Act.put, List.setIfInBounds_toArray, List.set_cons_zero, List.set_cons_succ, i64_w, i32_w]
            rfl
          refine pure_ (i := 3) (N := some 8) (v := ?_) (a' := ?_) #[true, true, false, true, false, false, false, false] rfl rfl (any_of HT_.out (by kernel_rfl)) (fun _ _ _ h => h) (Or.inl ⟨by rfl, ?_⟩) ?_ ?_
          rotate_left
          · intro w'
            go_simp
            with_reducible rfl
          rotate_left
          · simp only [Act.put, List.setIfInBounds_toArray, List.set_cons_zero, List.set_cons_succ, i64_w, i32_w]
            rfl
          refine pure_ (i := 4) (N := some 9) (v := ?_) (a' := ?_) #[true, true, false, true, true, false, false, false] rfl rfl (any_of HT_.out (by kernel_rfl)) (fun _ _ _ h => h) (Or.inl ⟨by rfl, ?_⟩) ?_ ?_
          rotate_left
          · intro w'
            go_simp
            with_reducible rfl
          rotate_left
          · simp only [Act.put, List.setIfInBounds_toArray, List.set_cons_zero, List.set_cons_succ, i64_w, i32_w]
            rfl
          refine one_ (i := 2) (N := some 7) #[true, true, true, true, true, false, false, false] rfl rfl (one_of HT_.out (by kernel_rfl)) (by decide) (fun K hK => ?_)
          refine goes_ Try.func30 (by kernel_rfl) rfl #[.string (a0.extract 0 1)] (by rfl) rfl rfl (by (try simp only [List.map_toArray, List.map_cons, List.map_nil]); first | done | rfl | (simp only [List.length_drop, List.length_take]; rfl)) ?_
          with_reducible refine (isoglossref02_Upper.calls k (a0.extract 0 1) t211 _ A5.out).mono ?_
          rintro e w10 ⟨rfl, hb⟩
          refine ⟨_, rfl, ?_⟩
          have n0_ := Aside0.mk (below_step (by repeat (first | (with_reducible first | exact HB.out | apply below_alloc | apply pw_below_drewN | apply below_drew1) | exact HB.out)) hb)
          clear HB
          have HB := n0_
          clear n0_
          (try clear hb)
          (try clear hb2)
          (try clear hk)
          (try clear hi)
          refine hK.out _ _ trivial (fun hHeld => ?_)
          clear hK K
          refine norm_ (a' := ?_) ?_ ?_
          rotate_left
          · show Act.put _ (some 7) _ = _
            simp only [Act.put, List.setIfInBounds_toArray, List.set_cons_zero, List.set_cons_succ, i64_w, i32_w]
            rfl
          refine one_ (i := 5) (N := some 10) #[true, true, true, true, true, true, false, false] rfl rfl (one_of HT_.out (by kernel_rfl)) (by decide) (fun K hK => ?_)
          refine goes_ Try.func29 (by kernel_rfl) rfl #[.string (a0.extract 1 a0.size)] (by rfl) rfl rfl (by (try simp only [List.map_toArray, List.map_cons, List.map_nil]); first | done | rfl | (simp only [List.length_drop, List.length_take]; rfl)) ?_
          with_reducible refine (isoglossref02_Lower.calls k (a0.extract 1 a0.size) t212 _ A7.out).mono ?_
          rintro e w11 ⟨rfl, hb⟩
          refine ⟨_, rfl, ?_⟩
          have n0_ := Aside0.mk (below_step (by repeat (first | (with_reducible first | exact HB.out | apply below_alloc | apply pw_below_drewN | apply below_drew1) | exact HB.out)) hb)
          clear HB
          have HB := n0_
          clear n0_
          (try clear hb)
          (try clear hb2)
          (try clear hk)
          (try clear hi)
          refine hK.out _ _ trivial (fun hHeld => ?_)
          clear hK K
          refine norm_ (a' := ?_) ?_ ?_
          rotate_left
          · show Act.put _ (some 10) _ = _
            simp only [Act.put, List.setIfInBounds_toArray, List.set_cons_zero, List.set_cons_succ, i64_w, i32_w]
            rfl
          refine pure_ (i := 6) (N := some 11) (v := ?_) (a' := ?_) #[true, true, true, true, true, true, true, false] rfl rfl (any_of HT_.out (by kernel_rfl)) (fun _ _ _ h => h) (Or.inl ⟨by rfl, ?_⟩) ?_ ?_
          rotate_left
          · intro w'
            go_simp
            with_reducible rfl
          rotate_left
          · simp only [Act.put, List.setIfInBounds_toArray, List.set_cons_zero, List.set_cons_succ, i64_w, i32_w]
            rfl
          refine pure_ (i := 7) (N := some 2) (v := ?_) (a' := ?_) #[true, true, true, true, true, true, true, true] rfl rfl (any_of HT_.out (by kernel_rfl)) (fun _ _ _ h => h) (Or.inl ⟨by rfl, ?_⟩) ?_ ?_
          rotate_left
          · intro w'
            go_simp
            with_reducible rfl
          rotate_left
          · simp only [Act.put, List.setIfInBounds_toArray, List.set_cons_zero, List.set_cons_succ, i64_w, i32_w]
            rfl
          refine done_ (done_of HT_.out (by kernel_rfl)) ?_
          try go_wp2
          go_ret
          exact ⟨by first | rfl | (simp [errW_none, errW_some] <;> rfl) | (simp [*, errW_none, errW_some] <;> rfl), by repeat (first | (with_reducible first | exact HB.out | apply below_alloc | apply pw_below_drewN | apply below_drew1) | exact HB.out)⟩
        · rw [if_neg c8] at H
          exact absurd H (by simp)
      · rw [if_neg c4] at H
        exact absurd H (by simp)
    · rw [if_neg c3] at H
      exact absurd H (by simp)

/-! ### isoglosslaw02_AsciiTells: function 10 -/
def isoglosslaw02_AsciiTells.f (k : Nat) (a0 : ByteArray) : Option (Bool) := (isoglosslaw02_awake.f k).bind fun t213 => ((isoglosslaw02_short.f a0).bind fun t214 => ((isoglossref02_Class.f k t214).bind fun t215 => (if t213 = true then ((ascii_Class.f k t214).bind fun t216 => (if t216 = t215 then ((ascii_Alpha.f k t214).bind fun t217 => (if (t217 == (t215 == 1)) = true then ((ascii_Digit.f k t214).bind fun t218 => (if (t218 == (t215 == 2)) = true then ((ascii_Alnum.f k t214).bind fun t219 => (if (t219 == (decide (t215 > 0))) = true then ((ascii_Lower.f t214).bind fun t220 => ((isoglossref02_Lower.f k t214).bind fun t221 => (if t220.toList = t221.toList then ((ascii_Upper.f t214).bind fun t222 => ((isoglossref02_Upper.f k t214).bind fun t223 => (if t222.toList = t223.toList then ((ascii_Title.f t214).bind fun t224 => ((isoglossref02_Title.f k t214).bind fun t225 => (some (t224.toList == t225.toList)))) else (some false)))) else (some false)))) else (some false))) else (some false))) else (some false))) else (some false))) else (some false))))
theorem isoglosslaw02_AsciiTells.mono : ∀ a0 k, LeO (isoglosslaw02_AsciiTells.f k a0) (isoglosslaw02_AsciiTells.f (k + 1) a0) := by
  intro a0 k
  unfold isoglosslaw02_AsciiTells.f
  repeat' first
      | (with_reducible exact ascii_Alnum.mono _ _)
      | (with_reducible exact ascii_Alpha.mono _ _)
      | (with_reducible exact ascii_Class.mono _ _)
      | (with_reducible exact ascii_Digit.mono _ _)
      | (with_reducible exact isoglosslaw02_awake.mono _)
      | (with_reducible exact isoglossref02_Class.mono _ _)
      | (with_reducible exact isoglossref02_Lower.mono _ _)
      | (with_reducible exact isoglossref02_Title.mono _ _)
      | (with_reducible exact isoglossref02_Upper.mono _ _)
      | (with_reducible exact LeO.refl _)
      | (with_reducible exact LeO.none _)
      | (with_reducible refine LeO.ite ?_ ?_)
      | (with_reducible refine LeO.bind ?_ (fun _ => ?_))
      | exact ascii_Alnum.mono _ _
      | exact ascii_Alpha.mono _ _
      | exact ascii_Class.mono _ _
      | exact ascii_Digit.mono _ _
      | exact isoglosslaw02_awake.mono _
      | exact isoglossref02_Class.mono _ _
      | exact isoglossref02_Lower.mono _ _
      | exact isoglossref02_Title.mono _ _
      | exact isoglossref02_Upper.mono _ _
      | exact LeO.none _
      | refine LeO.ite ?_ ?_
      | refine LeO.bind ?_ (fun _ => ?_)
set_option maxHeartbeats 8000000 in
set_option maxRecDepth 100000 in
theorem isoglosslaw02_AsciiTells.calls (k : Nat) (a0 : ByteArray) (r : Bool) (w : World) (h : isoglosslaw02_AsciiTells.f k a0 = some r) :
    Calls Try.prog 10 #[.string a0] w fun e w' => e = .returned (.bool r) ∧ Below w.heap.size w w' := by
  have HB := Aside0.mk (Below.refl w.heap.size w)
  have H : ((isoglosslaw02_awake.f k).bind fun t213 => ((isoglosslaw02_short.f a0).bind fun t214 => ((isoglossref02_Class.f k t214).bind fun t215 => (if t213 = true then ((ascii_Class.f k t214).bind fun t216 => (if t216 = t215 then ((ascii_Alpha.f k t214).bind fun t217 => (if (t217 == (t215 == 1)) = true then ((ascii_Digit.f k t214).bind fun t218 => (if (t218 == (t215 == 2)) = true then ((ascii_Alnum.f k t214).bind fun t219 => (if (t219 == (decide (t215 > 0))) = true then ((ascii_Lower.f t214).bind fun t220 => ((isoglossref02_Lower.f k t214).bind fun t221 => (if t220.toList = t221.toList then ((ascii_Upper.f t214).bind fun t222 => ((isoglossref02_Upper.f k t214).bind fun t223 => (if t222.toList = t223.toList then ((ascii_Title.f t214).bind fun t224 => ((isoglossref02_Title.f k t214).bind fun t225 => (some (t224.toList == t225.toList)))) else (some false)))) else (some false)))) else (some false))) else (some false))) else (some false))) else (some false))) else (some false))))) = some r := h
  clear h
  replace H := Option.bind_eq_some_iff.mp H
  obtain ⟨t213, A20, H⟩ := H
  replace H : ((isoglosslaw02_short.f a0).bind fun t214 => ((isoglossref02_Class.f k t214).bind fun t215 => (if t213 = true then ((ascii_Class.f k t214).bind fun t216 => (if t216 = t215 then ((ascii_Alpha.f k t214).bind fun t217 => (if (t217 == (t215 == 1)) = true then ((ascii_Digit.f k t214).bind fun t218 => (if (t218 == (t215 == 2)) = true then ((ascii_Alnum.f k t214).bind fun t219 => (if (t219 == (decide (t215 > 0))) = true then ((ascii_Lower.f t214).bind fun t220 => ((isoglossref02_Lower.f k t214).bind fun t221 => (if t220.toList = t221.toList then ((ascii_Upper.f t214).bind fun t222 => ((isoglossref02_Upper.f k t214).bind fun t223 => (if t222.toList = t223.toList then ((ascii_Title.f t214).bind fun t224 => ((isoglossref02_Title.f k t214).bind fun t225 => (some (t224.toList == t225.toList)))) else (some false)))) else (some false)))) else (some false))) else (some false))) else (some false))) else (some false))) else (some false)))) = some r := H
  have A2 := Aside0.mk A20
  clear A20
  replace H := Option.bind_eq_some_iff.mp H
  obtain ⟨t214, A30, H⟩ := H
  replace H : ((isoglossref02_Class.f k t214).bind fun t215 => (if t213 = true then ((ascii_Class.f k t214).bind fun t216 => (if t216 = t215 then ((ascii_Alpha.f k t214).bind fun t217 => (if (t217 == (t215 == 1)) = true then ((ascii_Digit.f k t214).bind fun t218 => (if (t218 == (t215 == 2)) = true then ((ascii_Alnum.f k t214).bind fun t219 => (if (t219 == (decide (t215 > 0))) = true then ((ascii_Lower.f t214).bind fun t220 => ((isoglossref02_Lower.f k t214).bind fun t221 => (if t220.toList = t221.toList then ((ascii_Upper.f t214).bind fun t222 => ((isoglossref02_Upper.f k t214).bind fun t223 => (if t222.toList = t223.toList then ((ascii_Title.f t214).bind fun t224 => ((isoglossref02_Title.f k t214).bind fun t225 => (some (t224.toList == t225.toList)))) else (some false)))) else (some false)))) else (some false))) else (some false))) else (some false))) else (some false))) else (some false))) = some r := H
  have A3 := Aside0.mk A30
  clear A30
  replace H := Option.bind_eq_some_iff.mp H
  obtain ⟨t215, A40, H⟩ := H
  replace H : (if t213 = true then ((ascii_Class.f k t214).bind fun t216 => (if t216 = t215 then ((ascii_Alpha.f k t214).bind fun t217 => (if (t217 == (t215 == 1)) = true then ((ascii_Digit.f k t214).bind fun t218 => (if (t218 == (t215 == 2)) = true then ((ascii_Alnum.f k t214).bind fun t219 => (if (t219 == (decide (t215 > 0))) = true then ((ascii_Lower.f t214).bind fun t220 => ((isoglossref02_Lower.f k t214).bind fun t221 => (if t220.toList = t221.toList then ((ascii_Upper.f t214).bind fun t222 => ((isoglossref02_Upper.f k t214).bind fun t223 => (if t222.toList = t223.toList then ((ascii_Title.f t214).bind fun t224 => ((isoglossref02_Title.f k t214).bind fun t225 => (some (t224.toList == t225.toList)))) else (some false)))) else (some false)))) else (some false))) else (some false))) else (some false))) else (some false))) else (some false)) = some r := H
  have A4 := Aside0.mk A40
  clear A40
  by_cases c5 : t213 = true
  · subst c5
    have H1 : ((ascii_Class.f k t214).bind fun t216 => (if t216 = t215 then ((ascii_Alpha.f k t214).bind fun t217 => (if (t217 == (t215 == 1)) = true then ((ascii_Digit.f k t214).bind fun t218 => (if (t218 == (t215 == 2)) = true then ((ascii_Alnum.f k t214).bind fun t219 => (if (t219 == (decide (t215 > 0))) = true then ((ascii_Lower.f t214).bind fun t220 => ((isoglossref02_Lower.f k t214).bind fun t221 => (if t220.toList = t221.toList then ((ascii_Upper.f t214).bind fun t222 => ((isoglossref02_Upper.f k t214).bind fun t223 => (if t222.toList = t223.toList then ((ascii_Title.f t214).bind fun t224 => ((isoglossref02_Title.f k t214).bind fun t225 => (some (t224.toList == t225.toList)))) else (some false)))) else (some false)))) else (some false))) else (some false))) else (some false))) else (some false))) = some r := by rw [if_pos rfl] at H; exact H
    clear H
    have H := H1
    clear H1
    replace H := Option.bind_eq_some_iff.mp H
    obtain ⟨t216, A60, H⟩ := H
    replace H : (if t216 = t215 then ((ascii_Alpha.f k t214).bind fun t217 => (if (t217 == (t215 == 1)) = true then ((ascii_Digit.f k t214).bind fun t218 => (if (t218 == (t215 == 2)) = true then ((ascii_Alnum.f k t214).bind fun t219 => (if (t219 == (decide (t215 > 0))) = true then ((ascii_Lower.f t214).bind fun t220 => ((isoglossref02_Lower.f k t214).bind fun t221 => (if t220.toList = t221.toList then ((ascii_Upper.f t214).bind fun t222 => ((isoglossref02_Upper.f k t214).bind fun t223 => (if t222.toList = t223.toList then ((ascii_Title.f t214).bind fun t224 => ((isoglossref02_Title.f k t214).bind fun t225 => (some (t224.toList == t225.toList)))) else (some false)))) else (some false)))) else (some false))) else (some false))) else (some false))) else (some false)) = some r := H
    have A6 := Aside0.mk A60
    clear A60
    by_cases c7 : t216 = t215
    · rw [if_pos c7] at H
      have c7b0 : (t216 == t215) = true := beq_iff_eq.mpr c7
      have c7b1 : (t216 != t215) = false := bne_eq_false_iff_eq.mpr c7
      clear c7
      replace H := Option.bind_eq_some_iff.mp H
      obtain ⟨t217, A80, H⟩ := H
      replace H : (if (t217 == (t215 == 1)) = true then ((ascii_Digit.f k t214).bind fun t218 => (if (t218 == (t215 == 2)) = true then ((ascii_Alnum.f k t214).bind fun t219 => (if (t219 == (decide (t215 > 0))) = true then ((ascii_Lower.f t214).bind fun t220 => ((isoglossref02_Lower.f k t214).bind fun t221 => (if t220.toList = t221.toList then ((ascii_Upper.f t214).bind fun t222 => ((isoglossref02_Upper.f k t214).bind fun t223 => (if t222.toList = t223.toList then ((ascii_Title.f t214).bind fun t224 => ((isoglossref02_Title.f k t214).bind fun t225 => (some (t224.toList == t225.toList)))) else (some false)))) else (some false)))) else (some false))) else (some false))) else (some false)) = some r := H
      have A8 := Aside0.mk A80
      clear A80
      by_cases c9 : (t217 == (t215 == 1)) = true
      · rw [if_pos c9] at H
        have c9b0 : (t217 == (t215 == 1)) = true := c9
        (try (have c9b1 : decide (t217 = (t215 == 1)) = true := by simpa using c9))
        (try (have c9b2 : (t217 == (t215 == 1)) = true := by simpa using c9))
        clear c9
        replace H := Option.bind_eq_some_iff.mp H
        obtain ⟨t218, A100, H⟩ := H
        replace H : (if (t218 == (t215 == 2)) = true then ((ascii_Alnum.f k t214).bind fun t219 => (if (t219 == (decide (t215 > 0))) = true then ((ascii_Lower.f t214).bind fun t220 => ((isoglossref02_Lower.f k t214).bind fun t221 => (if t220.toList = t221.toList then ((ascii_Upper.f t214).bind fun t222 => ((isoglossref02_Upper.f k t214).bind fun t223 => (if t222.toList = t223.toList then ((ascii_Title.f t214).bind fun t224 => ((isoglossref02_Title.f k t214).bind fun t225 => (some (t224.toList == t225.toList)))) else (some false)))) else (some false)))) else (some false))) else (some false)) = some r := H
        have A10 := Aside0.mk A100
        clear A100
        by_cases c11 : (t218 == (t215 == 2)) = true
        · rw [if_pos c11] at H
          have c11b0 : (t218 == (t215 == 2)) = true := c11
          (try (have c11b1 : decide (t218 = (t215 == 2)) = true := by simpa using c11))
          (try (have c11b2 : (t218 == (t215 == 2)) = true := by simpa using c11))
          clear c11
          replace H := Option.bind_eq_some_iff.mp H
          obtain ⟨t219, A120, H⟩ := H
          replace H : (if (t219 == (decide (t215 > 0))) = true then ((ascii_Lower.f t214).bind fun t220 => ((isoglossref02_Lower.f k t214).bind fun t221 => (if t220.toList = t221.toList then ((ascii_Upper.f t214).bind fun t222 => ((isoglossref02_Upper.f k t214).bind fun t223 => (if t222.toList = t223.toList then ((ascii_Title.f t214).bind fun t224 => ((isoglossref02_Title.f k t214).bind fun t225 => (some (t224.toList == t225.toList)))) else (some false)))) else (some false)))) else (some false)) = some r := H
          have A12 := Aside0.mk A120
          clear A120
          by_cases c13 : (t219 == (decide (t215 > 0))) = true
          · rw [if_pos c13] at H
            have c13b0 : (t219 == (decide (t215 > 0))) = true := c13
            (try (have c13b1 : decide (t219 = (decide (t215 > 0))) = true := by simpa using c13))
            (try (have c13b2 : (t219 == (decide (t215 > 0))) = true := by simpa using c13))
            clear c13
            replace H := Option.bind_eq_some_iff.mp H
            obtain ⟨t220, A140, H⟩ := H
            replace H : ((isoglossref02_Lower.f k t214).bind fun t221 => (if t220.toList = t221.toList then ((ascii_Upper.f t214).bind fun t222 => ((isoglossref02_Upper.f k t214).bind fun t223 => (if t222.toList = t223.toList then ((ascii_Title.f t214).bind fun t224 => ((isoglossref02_Title.f k t214).bind fun t225 => (some (t224.toList == t225.toList)))) else (some false)))) else (some false))) = some r := H
            have A14 := Aside0.mk A140
            clear A140
            replace H := Option.bind_eq_some_iff.mp H
            obtain ⟨t221, A150, H⟩ := H
            replace H : (if t220.toList = t221.toList then ((ascii_Upper.f t214).bind fun t222 => ((isoglossref02_Upper.f k t214).bind fun t223 => (if t222.toList = t223.toList then ((ascii_Title.f t214).bind fun t224 => ((isoglossref02_Title.f k t214).bind fun t225 => (some (t224.toList == t225.toList)))) else (some false)))) else (some false)) = some r := H
            have A15 := Aside0.mk A150
            clear A150
            by_cases c16 : t220.toList = t221.toList
            · rw [if_pos c16] at H
              have c16b0 : (t220.toList == t221.toList) = true := beq_iff_eq.mpr c16
              have c16b1 : (t220.toList != t221.toList) = false := bne_eq_false_iff_eq.mpr c16
              clear c16
              replace H := Option.bind_eq_some_iff.mp H
              obtain ⟨t222, A170, H⟩ := H
              replace H : ((isoglossref02_Upper.f k t214).bind fun t223 => (if t222.toList = t223.toList then ((ascii_Title.f t214).bind fun t224 => ((isoglossref02_Title.f k t214).bind fun t225 => (some (t224.toList == t225.toList)))) else (some false))) = some r := H
              have A17 := Aside0.mk A170
              clear A170
              replace H := Option.bind_eq_some_iff.mp H
              obtain ⟨t223, A180, H⟩ := H
              replace H : (if t222.toList = t223.toList then ((ascii_Title.f t214).bind fun t224 => ((isoglossref02_Title.f k t214).bind fun t225 => (some (t224.toList == t225.toList)))) else (some false)) = some r := H
              have A18 := Aside0.mk A180
              clear A180
              by_cases c19 : t222.toList = t223.toList
              · rw [if_pos c19] at H
                have c19b0 : (t222.toList == t223.toList) = true := beq_iff_eq.mpr c19
                have c19b1 : (t222.toList != t223.toList) = false := bne_eq_false_iff_eq.mpr c19
                clear c19
                replace H := Option.bind_eq_some_iff.mp H
                obtain ⟨t224, A200, H⟩ := H
                replace H : ((isoglossref02_Title.f k t214).bind fun t225 => (some (t224.toList == t225.toList))) = some r := H
                have A20 := Aside0.mk A200
                clear A200
                replace H := Option.bind_eq_some_iff.mp H
                obtain ⟨t225, A210, H⟩ := H
                replace H : (some (t224.toList == t225.toList)) = some r := H
                have A21 := Aside0.mk A210
                clear A210
                obtain rfl := Option.some.inj H
                go_enter Try.func10, Try.ntmps10
                go_wp2_with (first | ((with_reducible refine gate_callee (f := 17) rfl ?_); refine goesL_ (some 5) rfl rfl Try.func17 (by kernel_rfl) rfl #[] rfl (by (try simp only [List.map_toArray, List.map_cons, List.map_nil]); first | done | rfl | (simp only [List.length_drop, List.length_take]; rfl)) ?_; (with_reducible refine (isoglosslaw02_awake.calls k  true _ A2.out).mono ?_); rintro e w22 ⟨rfl, hb⟩; refine ⟨_, rfl, ?_⟩; have n0_ := Aside0.mk (below_step (by repeat (first | (with_reducible first | exact HB.out | apply below_alloc | apply pw_below_drewN | apply below_drew1) | exact HB.out)) hb); clear HB; have HB := n0_; clear n0_; (try clear hb); (try clear hb2); (try clear hk); (try clear hi); (try clear A2)) | ((with_reducible refine gate_callee (f := 18) rfl ?_); refine goesL_ (some 7) rfl rfl Try.func18 (by kernel_rfl) rfl #[.string a0] rfl (by (try simp only [List.map_toArray, List.map_cons, List.map_nil]); first | done | rfl | (simp only [List.length_drop, List.length_take]; rfl)) ?_; (with_reducible refine (isoglosslaw02_short.calls a0 t214 _ A3.out).mono ?_); rintro e w' ⟨rfl, ⟨nd, rfl⟩⟩; refine ⟨_, rfl, ?_⟩; (try clear A3)) | ((with_reducible refine gate_callee (f := 27) rfl ?_); refine goesL_ (some 9) rfl rfl Try.func27 (by kernel_rfl) rfl #[.string t214] rfl (by (try simp only [List.map_toArray, List.map_cons, List.map_nil]); first | done | rfl | (simp only [List.length_drop, List.length_take]; rfl)) ?_; (with_reducible refine (isoglossref02_Class.calls k t214 t215 _ A4.out).mono ?_); rintro e w' ⟨rfl, ⟨nd, rfl⟩⟩; refine ⟨_, rfl, ?_⟩; (try clear A4)) | (go_at_call 24; (with_reducible refine (ascii_Class.calls k t214 t216 _ A6.out).mono ?_); rintro e w' ⟨rfl, ⟨nd, rfl⟩⟩; (try clear A6)) | (go_at_call 26; (with_reducible refine (ascii_Alpha.calls k t214 t217 _ A8.out).mono ?_); rintro e w' ⟨rfl, ⟨nd, rfl⟩⟩; (try clear A8)) | (go_at_call 28; (with_reducible refine (ascii_Digit.calls k t214 t218 _ A10.out).mono ?_); rintro e w' ⟨rfl, ⟨nd, rfl⟩⟩; (try clear A10)) | (go_at_call 25; (with_reducible refine (ascii_Alnum.calls k t214 t219 _ A12.out).mono ?_); rintro e w' ⟨rfl, ⟨nd, rfl⟩⟩; (try clear A12)) | (go_at_call 22; (with_reducible refine (ascii_Lower.calls t214 t220 _ A14.out).mono ?_); rintro e w23 ⟨rfl, hb⟩; have n0_ := Aside0.mk (below_step (by repeat (first | (with_reducible first | exact HB.out | apply below_alloc | apply pw_below_drewN | apply below_drew1) | exact HB.out)) hb); clear HB; have HB := n0_; clear n0_; (try clear hb); (try clear hb2); (try clear hk); (try clear hi); (try clear A14)) | (go_at_call 29; (with_reducible refine (isoglossref02_Lower.calls k t214 t221 _ A15.out).mono ?_); rintro e w24 ⟨rfl, hb⟩; have n0_ := Aside0.mk (below_step (by repeat (first | (with_reducible first | exact HB.out | apply below_alloc | apply pw_below_drewN | apply below_drew1) | exact HB.out)) hb); clear HB; have HB := n0_; clear n0_; (try clear hb); (try clear hb2); (try clear hk); (try clear hi); (try clear A15)) | (go_at_call 21; (with_reducible refine (ascii_Upper.calls t214 t222 _ A17.out).mono ?_); rintro e w25 ⟨rfl, hb⟩; have n0_ := Aside0.mk (below_step (by repeat (first | (with_reducible first | exact HB.out | apply below_alloc | apply pw_below_drewN | apply below_drew1) | exact HB.out)) hb); clear HB; have HB := n0_; clear n0_; (try clear hb); (try clear hb2); (try clear hk); (try clear hi); (try clear A17)) | (go_at_call 30; (with_reducible refine (isoglossref02_Upper.calls k t214 t223 _ A18.out).mono ?_); rintro e w26 ⟨rfl, hb⟩; have n0_ := Aside0.mk (below_step (by repeat (first | (with_reducible first | exact HB.out | apply below_alloc | apply pw_below_drewN | apply below_drew1) | exact HB.out)) hb); clear HB; have HB := n0_; clear n0_; (try clear hb); (try clear hb2); (try clear hk); (try clear hi); (try clear A18)) | (go_at_call 23; (with_reducible refine (ascii_Title.calls t214 t224 _ A20.out).mono ?_); rintro e w27 ⟨rfl, hb⟩; have n0_ := Aside0.mk (below_step (by repeat (first | (with_reducible first | exact HB.out | apply below_alloc | apply pw_below_drewN | apply below_drew1) | exact HB.out)) hb); clear HB; have HB := n0_; clear n0_; (try clear hb); (try clear hb2); (try clear hk); (try clear hi); (try clear A20)) | (go_at_call 31; (with_reducible refine (isoglossref02_Title.calls k t214 t225 _ A21.out).mono ?_); rintro e w28 ⟨rfl, hb⟩; have n0_ := Aside0.mk (below_step (by repeat (first | (with_reducible first | exact HB.out | apply below_alloc | apply pw_below_drewN | apply below_drew1) | exact HB.out)) hb); clear HB; have HB := n0_; clear n0_; (try clear hb); (try clear hb2); (try clear hk); (try clear hi); (try clear A21)))
                go_ret
                exact ⟨by first | rfl | (simp [errW_none, errW_some] <;> rfl) | (simp [*, errW_none, errW_some] <;> rfl), by repeat (first | (with_reducible first | exact HB.out | apply below_alloc | apply pw_below_drewN | apply below_drew1) | exact HB.out)⟩
              · rw [if_neg c19] at H
                have c19b0 : (t222.toList == t223.toList) = false := beq_eq_false_iff_ne.mpr c19
                have c19b1 : (t222.toList != t223.toList) = true := bne_iff_ne.mpr c19
                obtain rfl := Option.some.inj H
                go_enter Try.func10, Try.ntmps10
                go_wp2_with (first | ((with_reducible refine gate_callee (f := 17) rfl ?_); refine goesL_ (some 5) rfl rfl Try.func17 (by kernel_rfl) rfl #[] rfl (by (try simp only [List.map_toArray, List.map_cons, List.map_nil]); first | done | rfl | (simp only [List.length_drop, List.length_take]; rfl)) ?_; (with_reducible refine (isoglosslaw02_awake.calls k  true _ A2.out).mono ?_); rintro e w29 ⟨rfl, hb⟩; refine ⟨_, rfl, ?_⟩; have n0_ := Aside0.mk (below_step (by repeat (first | (with_reducible first | exact HB.out | apply below_alloc | apply pw_below_drewN | apply below_drew1) | exact HB.out)) hb); clear HB; have HB := n0_; clear n0_; (try clear hb); (try clear hb2); (try clear hk); (try clear hi); (try clear A2)) | ((with_reducible refine gate_callee (f := 18) rfl ?_); refine goesL_ (some 7) rfl rfl Try.func18 (by kernel_rfl) rfl #[.string a0] rfl (by (try simp only [List.map_toArray, List.map_cons, List.map_nil]); first | done | rfl | (simp only [List.length_drop, List.length_take]; rfl)) ?_; (with_reducible refine (isoglosslaw02_short.calls a0 t214 _ A3.out).mono ?_); rintro e w' ⟨rfl, ⟨nd, rfl⟩⟩; refine ⟨_, rfl, ?_⟩; (try clear A3)) | ((with_reducible refine gate_callee (f := 27) rfl ?_); refine goesL_ (some 9) rfl rfl Try.func27 (by kernel_rfl) rfl #[.string t214] rfl (by (try simp only [List.map_toArray, List.map_cons, List.map_nil]); first | done | rfl | (simp only [List.length_drop, List.length_take]; rfl)) ?_; (with_reducible refine (isoglossref02_Class.calls k t214 t215 _ A4.out).mono ?_); rintro e w' ⟨rfl, ⟨nd, rfl⟩⟩; refine ⟨_, rfl, ?_⟩; (try clear A4)) | (go_at_call 24; (with_reducible refine (ascii_Class.calls k t214 t216 _ A6.out).mono ?_); rintro e w' ⟨rfl, ⟨nd, rfl⟩⟩; (try clear A6)) | (go_at_call 26; (with_reducible refine (ascii_Alpha.calls k t214 t217 _ A8.out).mono ?_); rintro e w' ⟨rfl, ⟨nd, rfl⟩⟩; (try clear A8)) | (go_at_call 28; (with_reducible refine (ascii_Digit.calls k t214 t218 _ A10.out).mono ?_); rintro e w' ⟨rfl, ⟨nd, rfl⟩⟩; (try clear A10)) | (go_at_call 25; (with_reducible refine (ascii_Alnum.calls k t214 t219 _ A12.out).mono ?_); rintro e w' ⟨rfl, ⟨nd, rfl⟩⟩; (try clear A12)) | (go_at_call 22; (with_reducible refine (ascii_Lower.calls t214 t220 _ A14.out).mono ?_); rintro e w30 ⟨rfl, hb⟩; have n0_ := Aside0.mk (below_step (by repeat (first | (with_reducible first | exact HB.out | apply below_alloc | apply pw_below_drewN | apply below_drew1) | exact HB.out)) hb); clear HB; have HB := n0_; clear n0_; (try clear hb); (try clear hb2); (try clear hk); (try clear hi); (try clear A14)) | (go_at_call 29; (with_reducible refine (isoglossref02_Lower.calls k t214 t221 _ A15.out).mono ?_); rintro e w31 ⟨rfl, hb⟩; have n0_ := Aside0.mk (below_step (by repeat (first | (with_reducible first | exact HB.out | apply below_alloc | apply pw_below_drewN | apply below_drew1) | exact HB.out)) hb); clear HB; have HB := n0_; clear n0_; (try clear hb); (try clear hb2); (try clear hk); (try clear hi); (try clear A15)) | (go_at_call 21; (with_reducible refine (ascii_Upper.calls t214 t222 _ A17.out).mono ?_); rintro e w32 ⟨rfl, hb⟩; have n0_ := Aside0.mk (below_step (by repeat (first | (with_reducible first | exact HB.out | apply below_alloc | apply pw_below_drewN | apply below_drew1) | exact HB.out)) hb); clear HB; have HB := n0_; clear n0_; (try clear hb); (try clear hb2); (try clear hk); (try clear hi); (try clear A17)) | (go_at_call 30; (with_reducible refine (isoglossref02_Upper.calls k t214 t223 _ A18.out).mono ?_); rintro e w33 ⟨rfl, hb⟩; have n0_ := Aside0.mk (below_step (by repeat (first | (with_reducible first | exact HB.out | apply below_alloc | apply pw_below_drewN | apply below_drew1) | exact HB.out)) hb); clear HB; have HB := n0_; clear n0_; (try clear hb); (try clear hb2); (try clear hk); (try clear hi); (try clear A18)))
                go_ret
                exact ⟨by first | rfl | (simp [errW_none, errW_some] <;> rfl) | (simp [*, errW_none, errW_some] <;> rfl), by repeat (first | (with_reducible first | exact HB.out | apply below_alloc | apply pw_below_drewN | apply below_drew1) | exact HB.out)⟩
            · rw [if_neg c16] at H
              have c16b0 : (t220.toList == t221.toList) = false := beq_eq_false_iff_ne.mpr c16
              have c16b1 : (t220.toList != t221.toList) = true := bne_iff_ne.mpr c16
              obtain rfl := Option.some.inj H
              go_enter Try.func10, Try.ntmps10
              go_wp2_with (first | ((with_reducible refine gate_callee (f := 17) rfl ?_); refine goesL_ (some 5) rfl rfl Try.func17 (by kernel_rfl) rfl #[] rfl (by (try simp only [List.map_toArray, List.map_cons, List.map_nil]); first | done | rfl | (simp only [List.length_drop, List.length_take]; rfl)) ?_; (with_reducible refine (isoglosslaw02_awake.calls k  true _ A2.out).mono ?_); rintro e w34 ⟨rfl, hb⟩; refine ⟨_, rfl, ?_⟩; have n0_ := Aside0.mk (below_step (by repeat (first | (with_reducible first | exact HB.out | apply below_alloc | apply pw_below_drewN | apply below_drew1) | exact HB.out)) hb); clear HB; have HB := n0_; clear n0_; (try clear hb); (try clear hb2); (try clear hk); (try clear hi); (try clear A2)) | ((with_reducible refine gate_callee (f := 18) rfl ?_); refine goesL_ (some 7) rfl rfl Try.func18 (by kernel_rfl) rfl #[.string a0] rfl (by (try simp only [List.map_toArray, List.map_cons, List.map_nil]); first | done | rfl | (simp only [List.length_drop, List.length_take]; rfl)) ?_; (with_reducible refine (isoglosslaw02_short.calls a0 t214 _ A3.out).mono ?_); rintro e w' ⟨rfl, ⟨nd, rfl⟩⟩; refine ⟨_, rfl, ?_⟩; (try clear A3)) | ((with_reducible refine gate_callee (f := 27) rfl ?_); refine goesL_ (some 9) rfl rfl Try.func27 (by kernel_rfl) rfl #[.string t214] rfl (by (try simp only [List.map_toArray, List.map_cons, List.map_nil]); first | done | rfl | (simp only [List.length_drop, List.length_take]; rfl)) ?_; (with_reducible refine (isoglossref02_Class.calls k t214 t215 _ A4.out).mono ?_); rintro e w' ⟨rfl, ⟨nd, rfl⟩⟩; refine ⟨_, rfl, ?_⟩; (try clear A4)) | (go_at_call 24; (with_reducible refine (ascii_Class.calls k t214 t216 _ A6.out).mono ?_); rintro e w' ⟨rfl, ⟨nd, rfl⟩⟩; (try clear A6)) | (go_at_call 26; (with_reducible refine (ascii_Alpha.calls k t214 t217 _ A8.out).mono ?_); rintro e w' ⟨rfl, ⟨nd, rfl⟩⟩; (try clear A8)) | (go_at_call 28; (with_reducible refine (ascii_Digit.calls k t214 t218 _ A10.out).mono ?_); rintro e w' ⟨rfl, ⟨nd, rfl⟩⟩; (try clear A10)) | (go_at_call 25; (with_reducible refine (ascii_Alnum.calls k t214 t219 _ A12.out).mono ?_); rintro e w' ⟨rfl, ⟨nd, rfl⟩⟩; (try clear A12)) | (go_at_call 22; (with_reducible refine (ascii_Lower.calls t214 t220 _ A14.out).mono ?_); rintro e w35 ⟨rfl, hb⟩; have n0_ := Aside0.mk (below_step (by repeat (first | (with_reducible first | exact HB.out | apply below_alloc | apply pw_below_drewN | apply below_drew1) | exact HB.out)) hb); clear HB; have HB := n0_; clear n0_; (try clear hb); (try clear hb2); (try clear hk); (try clear hi); (try clear A14)) | (go_at_call 29; (with_reducible refine (isoglossref02_Lower.calls k t214 t221 _ A15.out).mono ?_); rintro e w36 ⟨rfl, hb⟩; have n0_ := Aside0.mk (below_step (by repeat (first | (with_reducible first | exact HB.out | apply below_alloc | apply pw_below_drewN | apply below_drew1) | exact HB.out)) hb); clear HB; have HB := n0_; clear n0_; (try clear hb); (try clear hb2); (try clear hk); (try clear hi); (try clear A15)))
              go_ret
              exact ⟨by first | rfl | (simp [errW_none, errW_some] <;> rfl) | (simp [*, errW_none, errW_some] <;> rfl), by repeat (first | (with_reducible first | exact HB.out | apply below_alloc | apply pw_below_drewN | apply below_drew1) | exact HB.out)⟩
          · rw [if_neg c13] at H
            have c13b0 : (t219 == (decide (t215 > 0))) = false := by simpa using c13
            (try (have c13b1 : decide (t219 = (decide (t215 > 0))) = false := by simpa using c13))
            (try (have c13b2 : (t219 == (decide (t215 > 0))) = false := by simpa using c13))
            (try (have c13b3 : ¬ (t219 = (decide (t215 > 0))) := by simpa using c13))
            clear c13
            obtain rfl := Option.some.inj H
            go_enter Try.func10, Try.ntmps10
            go_wp2_with (first | ((with_reducible refine gate_callee (f := 17) rfl ?_); refine goesL_ (some 5) rfl rfl Try.func17 (by kernel_rfl) rfl #[] rfl (by (try simp only [List.map_toArray, List.map_cons, List.map_nil]); first | done | rfl | (simp only [List.length_drop, List.length_take]; rfl)) ?_; (with_reducible refine (isoglosslaw02_awake.calls k  true _ A2.out).mono ?_); rintro e w37 ⟨rfl, hb⟩; refine ⟨_, rfl, ?_⟩; have n0_ := Aside0.mk (below_step (by repeat (first | (with_reducible first | exact HB.out | apply below_alloc | apply pw_below_drewN | apply below_drew1) | exact HB.out)) hb); clear HB; have HB := n0_; clear n0_; (try clear hb); (try clear hb2); (try clear hk); (try clear hi); (try clear A2)) | ((with_reducible refine gate_callee (f := 18) rfl ?_); refine goesL_ (some 7) rfl rfl Try.func18 (by kernel_rfl) rfl #[.string a0] rfl (by (try simp only [List.map_toArray, List.map_cons, List.map_nil]); first | done | rfl | (simp only [List.length_drop, List.length_take]; rfl)) ?_; (with_reducible refine (isoglosslaw02_short.calls a0 t214 _ A3.out).mono ?_); rintro e w' ⟨rfl, ⟨nd, rfl⟩⟩; refine ⟨_, rfl, ?_⟩; (try clear A3)) | ((with_reducible refine gate_callee (f := 27) rfl ?_); refine goesL_ (some 9) rfl rfl Try.func27 (by kernel_rfl) rfl #[.string t214] rfl (by (try simp only [List.map_toArray, List.map_cons, List.map_nil]); first | done | rfl | (simp only [List.length_drop, List.length_take]; rfl)) ?_; (with_reducible refine (isoglossref02_Class.calls k t214 t215 _ A4.out).mono ?_); rintro e w' ⟨rfl, ⟨nd, rfl⟩⟩; refine ⟨_, rfl, ?_⟩; (try clear A4)) | (go_at_call 24; (with_reducible refine (ascii_Class.calls k t214 t216 _ A6.out).mono ?_); rintro e w' ⟨rfl, ⟨nd, rfl⟩⟩; (try clear A6)) | (go_at_call 26; (with_reducible refine (ascii_Alpha.calls k t214 t217 _ A8.out).mono ?_); rintro e w' ⟨rfl, ⟨nd, rfl⟩⟩; (try clear A8)) | (go_at_call 28; (with_reducible refine (ascii_Digit.calls k t214 t218 _ A10.out).mono ?_); rintro e w' ⟨rfl, ⟨nd, rfl⟩⟩; (try clear A10)) | (go_at_call 25; (with_reducible refine (ascii_Alnum.calls k t214 t219 _ A12.out).mono ?_); rintro e w' ⟨rfl, ⟨nd, rfl⟩⟩; (try clear A12)))
            go_ret
            exact ⟨by first | rfl | (simp [errW_none, errW_some] <;> rfl) | (simp [*, errW_none, errW_some] <;> rfl), by repeat (first | (with_reducible first | exact HB.out | apply below_alloc | apply pw_below_drewN | apply below_drew1) | exact HB.out)⟩
        · rw [if_neg c11] at H
          have c11b0 : (t218 == (t215 == 2)) = false := by simpa using c11
          (try (have c11b1 : decide (t218 = (t215 == 2)) = false := by simpa using c11))
          (try (have c11b2 : (t218 == (t215 == 2)) = false := by simpa using c11))
          (try (have c11b3 : ¬ (t218 = (t215 == 2)) := by simpa using c11))
          clear c11
          obtain rfl := Option.some.inj H
          go_enter Try.func10, Try.ntmps10
          go_wp2_with (first | ((with_reducible refine gate_callee (f := 17) rfl ?_); refine goesL_ (some 5) rfl rfl Try.func17 (by kernel_rfl) rfl #[] rfl (by (try simp only [List.map_toArray, List.map_cons, List.map_nil]); first | done | rfl | (simp only [List.length_drop, List.length_take]; rfl)) ?_; (with_reducible refine (isoglosslaw02_awake.calls k  true _ A2.out).mono ?_); rintro e w38 ⟨rfl, hb⟩; refine ⟨_, rfl, ?_⟩; have n0_ := Aside0.mk (below_step (by repeat (first | (with_reducible first | exact HB.out | apply below_alloc | apply pw_below_drewN | apply below_drew1) | exact HB.out)) hb); clear HB; have HB := n0_; clear n0_; (try clear hb); (try clear hb2); (try clear hk); (try clear hi); (try clear A2)) | ((with_reducible refine gate_callee (f := 18) rfl ?_); refine goesL_ (some 7) rfl rfl Try.func18 (by kernel_rfl) rfl #[.string a0] rfl (by (try simp only [List.map_toArray, List.map_cons, List.map_nil]); first | done | rfl | (simp only [List.length_drop, List.length_take]; rfl)) ?_; (with_reducible refine (isoglosslaw02_short.calls a0 t214 _ A3.out).mono ?_); rintro e w' ⟨rfl, ⟨nd, rfl⟩⟩; refine ⟨_, rfl, ?_⟩; (try clear A3)) | ((with_reducible refine gate_callee (f := 27) rfl ?_); refine goesL_ (some 9) rfl rfl Try.func27 (by kernel_rfl) rfl #[.string t214] rfl (by (try simp only [List.map_toArray, List.map_cons, List.map_nil]); first | done | rfl | (simp only [List.length_drop, List.length_take]; rfl)) ?_; (with_reducible refine (isoglossref02_Class.calls k t214 t215 _ A4.out).mono ?_); rintro e w' ⟨rfl, ⟨nd, rfl⟩⟩; refine ⟨_, rfl, ?_⟩; (try clear A4)) | (go_at_call 24; (with_reducible refine (ascii_Class.calls k t214 t216 _ A6.out).mono ?_); rintro e w' ⟨rfl, ⟨nd, rfl⟩⟩; (try clear A6)) | (go_at_call 26; (with_reducible refine (ascii_Alpha.calls k t214 t217 _ A8.out).mono ?_); rintro e w' ⟨rfl, ⟨nd, rfl⟩⟩; (try clear A8)) | (go_at_call 28; (with_reducible refine (ascii_Digit.calls k t214 t218 _ A10.out).mono ?_); rintro e w' ⟨rfl, ⟨nd, rfl⟩⟩; (try clear A10)))
          go_ret
          exact ⟨by first | rfl | (simp [errW_none, errW_some] <;> rfl) | (simp [*, errW_none, errW_some] <;> rfl), by repeat (first | (with_reducible first | exact HB.out | apply below_alloc | apply pw_below_drewN | apply below_drew1) | exact HB.out)⟩
      · rw [if_neg c9] at H
        have c9b0 : (t217 == (t215 == 1)) = false := by simpa using c9
        (try (have c9b1 : decide (t217 = (t215 == 1)) = false := by simpa using c9))
        (try (have c9b2 : (t217 == (t215 == 1)) = false := by simpa using c9))
        (try (have c9b3 : ¬ (t217 = (t215 == 1)) := by simpa using c9))
        clear c9
        obtain rfl := Option.some.inj H
        go_enter Try.func10, Try.ntmps10
        go_wp2_with (first | ((with_reducible refine gate_callee (f := 17) rfl ?_); refine goesL_ (some 5) rfl rfl Try.func17 (by kernel_rfl) rfl #[] rfl (by (try simp only [List.map_toArray, List.map_cons, List.map_nil]); first | done | rfl | (simp only [List.length_drop, List.length_take]; rfl)) ?_; (with_reducible refine (isoglosslaw02_awake.calls k  true _ A2.out).mono ?_); rintro e w39 ⟨rfl, hb⟩; refine ⟨_, rfl, ?_⟩; have n0_ := Aside0.mk (below_step (by repeat (first | (with_reducible first | exact HB.out | apply below_alloc | apply pw_below_drewN | apply below_drew1) | exact HB.out)) hb); clear HB; have HB := n0_; clear n0_; (try clear hb); (try clear hb2); (try clear hk); (try clear hi); (try clear A2)) | ((with_reducible refine gate_callee (f := 18) rfl ?_); refine goesL_ (some 7) rfl rfl Try.func18 (by kernel_rfl) rfl #[.string a0] rfl (by (try simp only [List.map_toArray, List.map_cons, List.map_nil]); first | done | rfl | (simp only [List.length_drop, List.length_take]; rfl)) ?_; (with_reducible refine (isoglosslaw02_short.calls a0 t214 _ A3.out).mono ?_); rintro e w' ⟨rfl, ⟨nd, rfl⟩⟩; refine ⟨_, rfl, ?_⟩; (try clear A3)) | ((with_reducible refine gate_callee (f := 27) rfl ?_); refine goesL_ (some 9) rfl rfl Try.func27 (by kernel_rfl) rfl #[.string t214] rfl (by (try simp only [List.map_toArray, List.map_cons, List.map_nil]); first | done | rfl | (simp only [List.length_drop, List.length_take]; rfl)) ?_; (with_reducible refine (isoglossref02_Class.calls k t214 t215 _ A4.out).mono ?_); rintro e w' ⟨rfl, ⟨nd, rfl⟩⟩; refine ⟨_, rfl, ?_⟩; (try clear A4)) | (go_at_call 24; (with_reducible refine (ascii_Class.calls k t214 t216 _ A6.out).mono ?_); rintro e w' ⟨rfl, ⟨nd, rfl⟩⟩; (try clear A6)) | (go_at_call 26; (with_reducible refine (ascii_Alpha.calls k t214 t217 _ A8.out).mono ?_); rintro e w' ⟨rfl, ⟨nd, rfl⟩⟩; (try clear A8)))
        go_ret
        exact ⟨by first | rfl | (simp [errW_none, errW_some] <;> rfl) | (simp [*, errW_none, errW_some] <;> rfl), by repeat (first | (with_reducible first | exact HB.out | apply below_alloc | apply pw_below_drewN | apply below_drew1) | exact HB.out)⟩
    · rw [if_neg c7] at H
      have c7b0 : (t216 == t215) = false := beq_eq_false_iff_ne.mpr c7
      have c7b1 : (t216 != t215) = true := bne_iff_ne.mpr c7
      obtain rfl := Option.some.inj H
      go_enter Try.func10, Try.ntmps10
      go_wp2_with (first | ((with_reducible refine gate_callee (f := 17) rfl ?_); refine goesL_ (some 5) rfl rfl Try.func17 (by kernel_rfl) rfl #[] rfl (by (try simp only [List.map_toArray, List.map_cons, List.map_nil]); first | done | rfl | (simp only [List.length_drop, List.length_take]; rfl)) ?_; (with_reducible refine (isoglosslaw02_awake.calls k  true _ A2.out).mono ?_); rintro e w40 ⟨rfl, hb⟩; refine ⟨_, rfl, ?_⟩; have n0_ := Aside0.mk (below_step (by repeat (first | (with_reducible first | exact HB.out | apply below_alloc | apply pw_below_drewN | apply below_drew1) | exact HB.out)) hb); clear HB; have HB := n0_; clear n0_; (try clear hb); (try clear hb2); (try clear hk); (try clear hi); (try clear A2)) | ((with_reducible refine gate_callee (f := 18) rfl ?_); refine goesL_ (some 7) rfl rfl Try.func18 (by kernel_rfl) rfl #[.string a0] rfl (by (try simp only [List.map_toArray, List.map_cons, List.map_nil]); first | done | rfl | (simp only [List.length_drop, List.length_take]; rfl)) ?_; (with_reducible refine (isoglosslaw02_short.calls a0 t214 _ A3.out).mono ?_); rintro e w' ⟨rfl, ⟨nd, rfl⟩⟩; refine ⟨_, rfl, ?_⟩; (try clear A3)) | ((with_reducible refine gate_callee (f := 27) rfl ?_); refine goesL_ (some 9) rfl rfl Try.func27 (by kernel_rfl) rfl #[.string t214] rfl (by (try simp only [List.map_toArray, List.map_cons, List.map_nil]); first | done | rfl | (simp only [List.length_drop, List.length_take]; rfl)) ?_; (with_reducible refine (isoglossref02_Class.calls k t214 t215 _ A4.out).mono ?_); rintro e w' ⟨rfl, ⟨nd, rfl⟩⟩; refine ⟨_, rfl, ?_⟩; (try clear A4)) | (go_at_call 24; (with_reducible refine (ascii_Class.calls k t214 t216 _ A6.out).mono ?_); rintro e w' ⟨rfl, ⟨nd, rfl⟩⟩; (try clear A6)))
      go_ret
      exact ⟨by first | rfl | (simp [errW_none, errW_some] <;> rfl) | (simp [*, errW_none, errW_some] <;> rfl), by repeat (first | (with_reducible first | exact HB.out | apply below_alloc | apply pw_below_drewN | apply below_drew1) | exact HB.out)⟩
  · replace c5 := Bool.eq_false_iff.mpr c5
    subst c5
    have H1 : (some false) = some r := by rw [if_neg (show ¬ (false = true) by decide)] at H; exact H
    clear H
    have H := H1
    clear H1
    obtain rfl := Option.some.inj H
    go_enter Try.func10, Try.ntmps10
    go_wp2_with (first | ((with_reducible refine gate_callee (f := 17) rfl ?_); refine goesL_ (some 5) rfl rfl Try.func17 (by kernel_rfl) rfl #[] rfl (by (try simp only [List.map_toArray, List.map_cons, List.map_nil]); first | done | rfl | (simp only [List.length_drop, List.length_take]; rfl)) ?_; (with_reducible refine (isoglosslaw02_awake.calls k  false _ A2.out).mono ?_); rintro e w41 ⟨rfl, hb⟩; refine ⟨_, rfl, ?_⟩; have n0_ := Aside0.mk (below_step (by repeat (first | (with_reducible first | exact HB.out | apply below_alloc | apply pw_below_drewN | apply below_drew1) | exact HB.out)) hb); clear HB; have HB := n0_; clear n0_; (try clear hb); (try clear hb2); (try clear hk); (try clear hi); (try clear A2)) | ((with_reducible refine gate_callee (f := 18) rfl ?_); refine goesL_ (some 7) rfl rfl Try.func18 (by kernel_rfl) rfl #[.string a0] rfl (by (try simp only [List.map_toArray, List.map_cons, List.map_nil]); first | done | rfl | (simp only [List.length_drop, List.length_take]; rfl)) ?_; (with_reducible refine (isoglosslaw02_short.calls a0 t214 _ A3.out).mono ?_); rintro e w' ⟨rfl, ⟨nd, rfl⟩⟩; refine ⟨_, rfl, ?_⟩; (try clear A3)) | ((with_reducible refine gate_callee (f := 27) rfl ?_); refine goesL_ (some 9) rfl rfl Try.func27 (by kernel_rfl) rfl #[.string t214] rfl (by (try simp only [List.map_toArray, List.map_cons, List.map_nil]); first | done | rfl | (simp only [List.length_drop, List.length_take]; rfl)) ?_; (with_reducible refine (isoglossref02_Class.calls k t214 t215 _ A4.out).mono ?_); rintro e w' ⟨rfl, ⟨nd, rfl⟩⟩; refine ⟨_, rfl, ?_⟩; (try clear A4)))
    go_ret
    exact ⟨by first | rfl | (simp [errW_none, errW_some] <;> rfl) | (simp [*, errW_none, errW_some] <;> rfl), by repeat (first | (with_reducible first | exact HB.out | apply below_alloc | apply pw_below_drewN | apply below_drew1) | exact HB.out)⟩

/-- THE ONE PURE STATEMENT of isoglosslaw02_AsciiTells: yours. -/
def isoglosslaw02_AsciiTells.Pure : Prop := ∀ (a0 : ByteArray), a0.size ≤ 140737488351232 → ∃ k, isoglosslaw02_AsciiTells.f k a0 = some true
theorem isoglosslaw02_AsciiTells.walk (P : isoglosslaw02_AsciiTells.Pure) (a0 : ByteArray) (w : World) (w0 : a0.size ≤ 140737488351232) :
    Calls Try.prog 10 #[.string a0] w fun e w' => e = .returned (.bool true) ∧ Below w.heap.size w w' := by
  obtain ⟨k, h⟩ := P a0 w0
  refine (isoglosslaw02_AsciiTells.calls k a0 true w h).mono ?_
  rintro e w' ⟨rfl, hd⟩
  exact ⟨rfl, hd⟩

/-! ### isoglosslaw03_short: function 32 -/
def isoglosslaw03_short.f (a0 : ByteArray) : Option (ByteArray) := if (a0.size : Int) > 20 then (if 0 ≤ 20 then (if 20 ≤ (a0.size : Int) then (some (a0.extract 0 20)) else (none)) else (none)) else (some a0)
set_option maxHeartbeats 8000000 in
set_option maxRecDepth 100000 in
theorem isoglosslaw03_short.calls (a0 : ByteArray) (r : ByteArray) (w : World) (h : isoglosslaw03_short.f a0 = some r) :
    Calls Try.prog 32 #[.string a0] w fun e w' => e = .returned (.string r) ∧ Drawn0 w w' := by
  have H : (if (a0.size : Int) > 20 then (if 0 ≤ 20 then (if 20 ≤ (a0.size : Int) then (some (a0.extract 0 20)) else (none)) else (none)) else (some a0)) = some r := h
  clear h
  by_cases c2 : (a0.size : Int) > 20
  · rw [if_pos c2] at H
    have c2b0 : decide (20 < (a0.size : Int)) = true := decide_eq_true c2
    have c2b1 : decide (20 < a0.size) = true := decide_eq_true (by omega)
    clear c2
    by_cases c3 : 0 ≤ 20
    · rw [if_pos c3] at H
      have c3b0 := eq_true c3
      have c3b1 : decide (0 ≤ 20) = true := decide_eq_true c3
      clear c3
      by_cases c4 : 20 ≤ (a0.size : Int)
      · rw [if_pos c4] at H
        have c4b0 := eq_true c4
        have c4b1 : decide (20 ≤ (a0.size : Int)) = true := decide_eq_true c4
        clear c4
        obtain rfl := Option.some.inj H
        go_enter Try.func32, Try.ntmps32
        go_wp2
        go_ret
        exact ⟨by first | rfl | (simp; done) | (simp [*]; done), by repeat (first | exact Drawn0.refl _ | apply Drawn0.step)⟩
      · rw [if_neg c4] at H
        exact absurd H (by simp)
    · rw [if_neg c3] at H
      exact absurd H (by simp)
  · rw [if_neg c2] at H
    have c2b0 : decide (20 < (a0.size : Int)) = false := decide_eq_false c2
    have c2b1 : decide (20 < a0.size) = false := decide_eq_false (by omega)
    clear c2
    obtain rfl := Option.some.inj H
    go_enter Try.func32, Try.ntmps32
    go_wp2
    go_ret
    exact ⟨by first | rfl | (simp; done) | (simp [*]; done), by repeat (first | exact Drawn0.refl _ | apply Drawn0.step)⟩

end Go.Proofs.Ytccojdjmbilgcaa.P
