/- Made by a program of this seat's own (myprint.py, round the kit's print): what the functions compute, and that they do. -/
import Derived.Test.YtccojdjmbilgcaaP0
import Derived.Test.YtccojdjmbilgcaaP3
import Derived.Test.YtccojdjmbilgcaaP5
namespace Go.Proofs.Ytccojdjmbilgcaa.P
open Go.RowKit Go.Proofs.YtccojdjmbilgcaaW.PrintWords Go.Proofs.YtccojdjmbilgcaaW.PrintLast Go.Proofs.YtccojdjmbilgcaaW.PrintMore
attribute [local go_sem] max2_int min2_int max_two min_two max_three min_three max_four min_four   -- for this text's walks alone
set_option linter.unusedVariables false
set_option linter.unusedSimpArgs false

/-! ### isoglosslaw02_AsciiBytes: function 8 -/
mutual
def isoglosslaw02_AsciiBytes.j0 : Nat → Int → ByteArray → Bool → ByteArray → Int → Bool → Option (Bool)
  | 0, _, _, _, _, _, _ => none
  | k + 1, x0, x1, x5, x6, x7, x8 => if x0 ≥ 48 then (isoglosslaw02_AsciiBytes.j1 k x1 x5 x6 x7 x8 (decide (x0 ≤ 57))) else (isoglosslaw02_AsciiBytes.j1 k x1 x5 x6 x7 x8 false)
def isoglosslaw02_AsciiBytes.j1 : Nat → ByteArray → Bool → ByteArray → Int → Bool → Bool → Option (Bool)
  | 0, _, _, _, _, _, _ => none
  | k + 1, x1, x5, x6, x7, x8, x9 => if x5 = true then (if ((x7 == 1) == x8) = true then (if ((x7 == 2) == x9) = true then (if x7 < 3 then (if x8 = true then (if ((x7 == 0) == false) = true then (if x1.size + x6.size ≤ 9223372036854775807 then ((ascii_Alnum.f k (x1 ++ x6)).bind fun t177 => (if x7 > 0 then (if x1.toList = ([] : List UInt8) then (if (t177 == true) = true then (if x6.size + x1.size ≤ 9223372036854775807 then ((ascii_Alpha.f k (x6 ++ x1)).bind fun t178 => (some (t178 == true))) else (none)) else (some false)) else ((ascii_Alnum.f k x1).bind fun t179 => (if (t177 == t179) = true then (if x6.size + x1.size ≤ 9223372036854775807 then ((ascii_Alpha.f k (x6 ++ x1)).bind fun t180 => ((ascii_Alpha.f k x1).bind fun t181 => (some (t180 == t181)))) else (none)) else (some false)))) else (if (t177 == false) = true then (if x6.size + x1.size ≤ 9223372036854775807 then ((ascii_Alpha.f k (x6 ++ x1)).bind fun t182 => (if x1.toList = ([] : List UInt8) then (some (t182 == true)) else ((ascii_Alpha.f k x1).bind fun t183 => (some (t182 == t183))))) else (none)) else (some false)))) else (none)) else (some false)) else (if ((x7 == 0) == (!x9)) = true then (if x1.size + x6.size ≤ 9223372036854775807 then ((ascii_Alnum.f k (x1 ++ x6)).bind fun t184 => (if x7 > 0 then (if x1.toList = ([] : List UInt8) then (if (t184 == true) = true then (if x6.size + x1.size ≤ 9223372036854775807 then ((ascii_Alpha.f k (x6 ++ x1)).bind fun t185 => (some (t185 == false))) else (none)) else (some false)) else ((ascii_Alnum.f k x1).bind fun t186 => (if (t184 == t186) = true then (if x6.size + x1.size ≤ 9223372036854775807 then ((ascii_Alpha.f k (x6 ++ x1)).bind fun t187 => (some (t187 == false))) else (none)) else (some false)))) else (if (t184 == false) = true then (if x6.size + x1.size ≤ 9223372036854775807 then ((ascii_Alpha.f k (x6 ++ x1)).bind fun t188 => (some (t188 == false))) else (none)) else (some false)))) else (none)) else (some false))) else (some false)) else (some false)) else (some false)) else (some false)
end
def isoglosslaw02_AsciiBytes.f (k : Nat) (a0 : Int) (a1 : ByteArray) : Option (Bool) := (isoglosslaw02_awake.f k).bind fun t171 => ((isoglosslaw02_short.f a1).bind fun t172 => ((some (([a0] : List Int) : List Int)).bind fun y173 => ((ascii_Class.f k (strOfNums y173)).bind fun t176 => (if a0 ≥ 97 then (if a0 ≤ 122 then (isoglosslaw02_AsciiBytes.j0 k a0 t172 t171 (strOfNums y173) t176 true) else (if a0 ≥ 65 then (isoglosslaw02_AsciiBytes.j0 k a0 t172 t171 (strOfNums y173) t176 (decide (a0 ≤ 90))) else (isoglosslaw02_AsciiBytes.j0 k a0 t172 t171 (strOfNums y173) t176 false))) else (if a0 ≥ 65 then (isoglosslaw02_AsciiBytes.j0 k a0 t172 t171 (strOfNums y173) t176 (decide (a0 ≤ 90))) else (isoglosslaw02_AsciiBytes.j0 k a0 t172 t171 (strOfNums y173) t176 false))))))
theorem isoglosslaw02_AsciiBytes.mono_l : ∀ k, (∀ y0 y1 y2 y3 y4 y5, LeO (isoglosslaw02_AsciiBytes.j0 k y0 y1 y2 y3 y4 y5) (isoglosslaw02_AsciiBytes.j0 (k + 1) y0 y1 y2 y3 y4 y5)) ∧ (∀ y0 y1 y2 y3 y4 y5, LeO (isoglosslaw02_AsciiBytes.j1 k y0 y1 y2 y3 y4 y5) (isoglosslaw02_AsciiBytes.j1 (k + 1) y0 y1 y2 y3 y4 y5))
  | 0 => ⟨fun _ _ _ _ _ _ r h => by simp [isoglosslaw02_AsciiBytes.j0] at h, fun _ _ _ _ _ _ r h => by simp [isoglosslaw02_AsciiBytes.j1] at h⟩
  | k + 1 => by
    obtain ⟨ih0, ih1⟩ := isoglosslaw02_AsciiBytes.mono_l k
    refine ⟨?_, ?_⟩
    · intro y0 y1 y2 y3 y4 y5
      unfold isoglosslaw02_AsciiBytes.j0
      repeat' first
      | (with_reducible exact ih0 _ _ _ _ _ _)
      | (with_reducible exact ih1 _ _ _ _ _ _)
      | (with_reducible exact ascii_Alnum.mono _ _)
      | (with_reducible exact ascii_Alpha.mono _ _)
      | (with_reducible exact ascii_Class.mono _ _)
      | (with_reducible exact isoglosslaw02_awake.mono _)
      | (with_reducible exact LeO.refl _)
      | (with_reducible exact LeO.none _)
      | (with_reducible refine LeO.ite ?_ ?_)
      | (with_reducible refine LeO.bind ?_ (fun _ => ?_))
      | exact ih0 _ _ _ _ _ _
      | exact ih1 _ _ _ _ _ _
      | exact ascii_Alnum.mono _ _
      | exact ascii_Alpha.mono _ _
      | exact ascii_Class.mono _ _
      | exact isoglosslaw02_awake.mono _
      | exact LeO.none _
      | refine LeO.ite ?_ ?_
      | refine LeO.bind ?_ (fun _ => ?_)
    · intro y0 y1 y2 y3 y4 y5
      unfold isoglosslaw02_AsciiBytes.j1
      repeat' first
      | (with_reducible exact ih0 _ _ _ _ _ _)
      | (with_reducible exact ih1 _ _ _ _ _ _)
      | (with_reducible exact ascii_Alnum.mono _ _)
      | (with_reducible exact ascii_Alpha.mono _ _)
      | (with_reducible exact ascii_Class.mono _ _)
      | (with_reducible exact isoglosslaw02_awake.mono _)
      | (with_reducible exact LeO.refl _)
      | (with_reducible exact LeO.none _)
      | (with_reducible refine LeO.ite ?_ ?_)
      | (with_reducible refine LeO.bind ?_ (fun _ => ?_))
      | exact ih0 _ _ _ _ _ _
      | exact ih1 _ _ _ _ _ _
      | exact ascii_Alnum.mono _ _
      | exact ascii_Alpha.mono _ _
      | exact ascii_Class.mono _ _
      | exact isoglosslaw02_awake.mono _
      | exact LeO.none _
      | refine LeO.ite ?_ ?_
      | refine LeO.bind ?_ (fun _ => ?_)
theorem isoglosslaw02_AsciiBytes.mono : ∀ a0 a1 k, LeO (isoglosslaw02_AsciiBytes.f k a0 a1) (isoglosslaw02_AsciiBytes.f (k + 1) a0 a1) := by
  intro a0 a1 k
  obtain ⟨ih0, ih1⟩ := isoglosslaw02_AsciiBytes.mono_l k
  unfold isoglosslaw02_AsciiBytes.f
  repeat' first
      | (with_reducible exact ih0 _ _ _ _ _ _)
      | (with_reducible exact ih1 _ _ _ _ _ _)
      | (with_reducible exact ascii_Alnum.mono _ _)
      | (with_reducible exact ascii_Alpha.mono _ _)
      | (with_reducible exact ascii_Class.mono _ _)
      | (with_reducible exact isoglosslaw02_awake.mono _)
      | (with_reducible exact LeO.refl _)
      | (with_reducible exact LeO.none _)
      | (with_reducible refine LeO.ite ?_ ?_)
      | (with_reducible refine LeO.bind ?_ (fun _ => ?_))
      | exact ih0 _ _ _ _ _ _
      | exact ih1 _ _ _ _ _ _
      | exact ascii_Alnum.mono _ _
      | exact ascii_Alpha.mono _ _
      | exact ascii_Class.mono _ _
      | exact isoglosslaw02_awake.mono _
      | exact LeO.none _
      | refine LeO.ite ?_ ?_
      | refine LeO.bind ?_ (fun _ => ?_)
set_option maxHeartbeats 8000000 in
set_option maxRecDepth 100000 in
theorem isoglosslaw02_AsciiBytes.calls (k : Nat) (a0 : Int) (a1 : ByteArray) (r : Bool) (w : World) (h : isoglosslaw02_AsciiBytes.f k a0 a1 = some r) :
    Calls Try.prog 8 #[.int .u8 a0, .string a1] w fun e w' => e = .returned (.bool r) ∧ Below w.heap.size w w' := by
  have HB := Aside0.mk (Below.refl w.heap.size w)
  have H : ((isoglosslaw02_awake.f k).bind fun t171 => ((isoglosslaw02_short.f a1).bind fun t172 => ((some (([a0] : List Int) : List Int)).bind fun y173 => ((ascii_Class.f k (strOfNums y173)).bind fun t176 => (if a0 ≥ 97 then (if a0 ≤ 122 then (isoglosslaw02_AsciiBytes.j0 k a0 t172 t171 (strOfNums y173) t176 true) else (if a0 ≥ 65 then (isoglosslaw02_AsciiBytes.j0 k a0 t172 t171 (strOfNums y173) t176 (decide (a0 ≤ 90))) else (isoglosslaw02_AsciiBytes.j0 k a0 t172 t171 (strOfNums y173) t176 false))) else (if a0 ≥ 65 then (isoglosslaw02_AsciiBytes.j0 k a0 t172 t171 (strOfNums y173) t176 (decide (a0 ≤ 90))) else (isoglosslaw02_AsciiBytes.j0 k a0 t172 t171 (strOfNums y173) t176 false))))))) = some r := h
  clear h
  replace H := Option.bind_eq_some_iff.mp H
  obtain ⟨t171, A30, H⟩ := H
  replace H : ((isoglosslaw02_short.f a1).bind fun t172 => ((some (([a0] : List Int) : List Int)).bind fun y173 => ((ascii_Class.f k (strOfNums y173)).bind fun t176 => (if a0 ≥ 97 then (if a0 ≤ 122 then (isoglosslaw02_AsciiBytes.j0 k a0 t172 t171 (strOfNums y173) t176 true) else (if a0 ≥ 65 then (isoglosslaw02_AsciiBytes.j0 k a0 t172 t171 (strOfNums y173) t176 (decide (a0 ≤ 90))) else (isoglosslaw02_AsciiBytes.j0 k a0 t172 t171 (strOfNums y173) t176 false))) else (if a0 ≥ 65 then (isoglosslaw02_AsciiBytes.j0 k a0 t172 t171 (strOfNums y173) t176 (decide (a0 ≤ 90))) else (isoglosslaw02_AsciiBytes.j0 k a0 t172 t171 (strOfNums y173) t176 false)))))) = some r := H
  have A3 := Aside0.mk A30
  clear A30
  replace H := Option.bind_eq_some_iff.mp H
  obtain ⟨t172, A40, H⟩ := H
  replace H : ((some (([a0] : List Int) : List Int)).bind fun y173 => ((ascii_Class.f k (strOfNums y173)).bind fun t176 => (if a0 ≥ 97 then (if a0 ≤ 122 then (isoglosslaw02_AsciiBytes.j0 k a0 t172 t171 (strOfNums y173) t176 true) else (if a0 ≥ 65 then (isoglosslaw02_AsciiBytes.j0 k a0 t172 t171 (strOfNums y173) t176 (decide (a0 ≤ 90))) else (isoglosslaw02_AsciiBytes.j0 k a0 t172 t171 (strOfNums y173) t176 false))) else (if a0 ≥ 65 then (isoglosslaw02_AsciiBytes.j0 k a0 t172 t171 (strOfNums y173) t176 (decide (a0 ≤ 90))) else (isoglosslaw02_AsciiBytes.j0 k a0 t172 t171 (strOfNums y173) t176 false))))) = some r := H
  have A4 := Aside0.mk A40
  clear A40
  obtain ⟨y173, hy173⟩ : ∃ y_ : List Int, y_ = (([a0] : List Int)) := ⟨_, rfl⟩
  replace H : ((ascii_Class.f k (strOfNums y173)).bind fun t176 => (if a0 ≥ 97 then (if a0 ≤ 122 then (isoglosslaw02_AsciiBytes.j0 k a0 t172 t171 (strOfNums y173) t176 true) else (if a0 ≥ 65 then (isoglosslaw02_AsciiBytes.j0 k a0 t172 t171 (strOfNums y173) t176 (decide (a0 ≤ 90))) else (isoglosslaw02_AsciiBytes.j0 k a0 t172 t171 (strOfNums y173) t176 false))) else (if a0 ≥ 65 then (isoglosslaw02_AsciiBytes.j0 k a0 t172 t171 (strOfNums y173) t176 (decide (a0 ≤ 90))) else (isoglosslaw02_AsciiBytes.j0 k a0 t172 t171 (strOfNums y173) t176 false)))) = some r := by first | (rw [hy173]; with_reducible exact H) | (have H2_ := (Option.bind_some _ _).symm.trans H; rw [hy173]; with_reducible exact H2_) | (have H2_ := (Option.bind_some _ _).symm.trans H; with_reducible exact H2_) | with_reducible exact H | (rw [hy173]; exact H) | exact H
  have Ny173 := Aside0.mk hy173
  clear hy173
  replace H := Option.bind_eq_some_iff.mp H
  obtain ⟨t176, A50, H⟩ := H
  replace H : (if a0 ≥ 97 then (if a0 ≤ 122 then (isoglosslaw02_AsciiBytes.j0 k a0 t172 t171 (strOfNums y173) t176 true) else (if a0 ≥ 65 then (isoglosslaw02_AsciiBytes.j0 k a0 t172 t171 (strOfNums y173) t176 (decide (a0 ≤ 90))) else (isoglosslaw02_AsciiBytes.j0 k a0 t172 t171 (strOfNums y173) t176 false))) else (if a0 ≥ 65 then (isoglosslaw02_AsciiBytes.j0 k a0 t172 t171 (strOfNums y173) t176 (decide (a0 ≤ 90))) else (isoglosslaw02_AsciiBytes.j0 k a0 t172 t171 (strOfNums y173) t176 false))) = some r := H
  have A5 := Aside0.mk A50
  clear A50
  have HC6 := Aside0.mk H
  clear H
  go_enter Try.func8, Try.ntmps8
  go_upto_region 5 with (first | ((with_reducible refine gate_callee (f := 17) rfl ?_); refine goesL_ (some 10) rfl rfl Try.func17 (by kernel_rfl) rfl #[] rfl (by (try simp only [List.map_toArray, List.map_cons, List.map_nil]); first | done | rfl | (simp only [List.length_drop, List.length_take]; rfl)) ?_; (with_reducible refine (isoglosslaw02_awake.calls k  t171 _ A3.out).mono ?_); rintro e w7 ⟨rfl, hb⟩; refine ⟨_, rfl, ?_⟩; have n0_ := Aside0.mk (below_step (by repeat (first | (with_reducible first | exact HB.out | apply below_alloc | apply pw_below_drewN | apply below_drew1) | exact HB.out)) hb); clear HB; have HB := n0_; clear n0_; (try clear hb); (try clear hb2); (try clear hk); (try clear hi); (try clear A3)) | ((with_reducible refine gate_callee (f := 18) rfl ?_); refine goesL_ (some 12) rfl rfl Try.func18 (by kernel_rfl) rfl #[.string a1] rfl (by (try simp only [List.map_toArray, List.map_cons, List.map_nil]); first | done | rfl | (simp only [List.length_drop, List.length_take]; rfl)) ?_; (with_reducible refine (isoglosslaw02_short.calls a1 t172 _ A4.out).mono ?_); rintro e w' ⟨rfl, ⟨nd, rfl⟩⟩; refine ⟨_, rfl, ?_⟩; (try clear A4)) | ((with_reducible refine gate_dst (N := 14) rfl ?_); refine Kd.R_lit (Kd.int .u8) _ 5 ?hg (N := 14) ?hd (xs := ([a0] : List Int)) (inner := [.int .u8 a0]) (ok := fun _ => True) (okp := fun _ => True) ?hr ?hp (fun _ hk => hk) trivial (Below.refl _ _) (Nat.le_refl _) (by simp) ?_; (case hd => rfl); (case hg => rfl); (case hr => first | (go_simp; done) | (go_simp; rfl)); (case hp => exact (Reps.one (show Kd.M (Kd.int .u8) _ _ _ a0 [.int .u8 a0] from rfl) (Reps.none _ _))); intro v174 w8 ho9 hb hg_ hnew_; clear hg_ hnew_; (first | rw [← Ny173.out] at ho9 | (simp only [Int.reduceToNat] at ho9; rw [← Ny173.out] at ho9)); have n0_ := Aside0.mk (Kd.R_lower ho9 (below_size (by repeat (first | (with_reducible first | exact HB.out | apply below_alloc | apply pw_below_drewN | apply below_drew1) | exact HB.out)))); have n1_ := Aside0.mk (below_step (by repeat (first | (with_reducible first | exact HB.out | apply below_alloc | apply pw_below_drewN | apply below_drew1) | exact HB.out)) hb); clear HB; have HO175 := n0_; have HB := n1_; clear n0_ n1_; clear hb ho9; have hcv10 := own_string (P := Try.prog) Try.underlying35 Try.underlying5 Try.underlying9 (Kd.own_of_R HO175.out)) | ((with_reducible refine gate_callee (f := 24) rfl ?_); refine goesL_ (some 17) rfl rfl Try.func24 (by kernel_rfl) rfl #[.string (strOfNums y173)] rfl (by (try simp only [List.map_toArray, List.map_cons, List.map_nil]); first | done | rfl | (simp only [List.length_drop, List.length_take]; rfl)) ?_; (with_reducible refine (ascii_Class.calls k (strOfNums y173) t176 _ A5.out).mono ?_); rintro e w' ⟨rfl, ⟨nd, rfl⟩⟩; refine ⟨_, rfl, ?_⟩; (try clear A5)))
  (try simp only [Act.put, List.setIfInBounds_toArray, List.set_cons_zero, List.set_cons_succ])
  go_cut [8] (fun v8 wc => ∃ (kq : Nat) (x8_5 : Bool), v8 = .bool x8_5 ∧ Aside0 (isoglosslaw02_AsciiBytes.j0 kq a0 t172 t171 (strOfNums y173) t176 x8_5 = some r) ∧ Aside0 (kq ≤ k) ∧ Aside0 (Below w.heap.size w wc))
  case first =>
    have H := HC6.out
    clear HC6
    by_cases c11 : a0 ≥ 97
    · rw [if_pos c11] at H
      have c11b0 : decide (97 ≤ a0) = true := decide_eq_true c11
      clear c11
      (first | rw [c11b0] | (simp only [i64_w, i32_w]; rw [c11b0]) | rw [c11b2] | skip)
      by_cases c12 : a0 ≤ 122
      · rw [if_pos c12] at H
        have c12b0 : decide (a0 ≤ 122) = true := decide_eq_true c12
        clear c12
        have H' := Aside0.mk H
        clear H
        go_wp2
        go_meet
        case rel => exact ⟨_, (true), (by first | rfl | (simp; done) | (simp [*]; done)), H', ⟨by first | omega | exact Nat.le_refl _⟩, ⟨by repeat (first | (with_reducible first | exact HB.out | apply below_alloc | apply pw_below_drewN | apply below_drew1) | exact HB.out)⟩⟩
      · rw [if_neg c12] at H
        have c12b0 : decide (a0 ≤ 122) = false := decide_eq_false c12
        clear c12
        by_cases c13 : a0 ≥ 65
        · rw [if_pos c13] at H
          have c13b0 : decide (65 ≤ a0) = true := decide_eq_true c13
          clear c13
          have H' := Aside0.mk H
          clear H
          go_wp2
          go_meet
          case rel => exact ⟨_, (decide (a0 ≤ 90)), (by first | rfl | (simp; done) | (simp [*]; done)), H', ⟨by first | omega | exact Nat.le_refl _⟩, ⟨by repeat (first | (with_reducible first | exact HB.out | apply below_alloc | apply pw_below_drewN | apply below_drew1) | exact HB.out)⟩⟩
        · rw [if_neg c13] at H
          have c13b0 : decide (65 ≤ a0) = false := decide_eq_false c13
          clear c13
          have H' := Aside0.mk H
          clear H
          go_wp2
          go_meet
          case rel => exact ⟨_, (false), (by first | rfl | (simp; done) | (simp [*]; done)), H', ⟨by first | omega | exact Nat.le_refl _⟩, ⟨by repeat (first | (with_reducible first | exact HB.out | apply below_alloc | apply pw_below_drewN | apply below_drew1) | exact HB.out)⟩⟩
    · rw [if_neg c11] at H
      have c11b0 : decide (97 ≤ a0) = false := decide_eq_false c11
      clear c11
      (first | rw [c11b0] | (simp only [i64_w, i32_w]; rw [c11b0]) | rw [c11b2] | skip)
      by_cases c14 : a0 ≥ 65
      · rw [if_pos c14] at H
        have c14b0 : decide (65 ≤ a0) = true := decide_eq_true c14
        clear c14
        have H' := Aside0.mk H
        clear H
        go_wp2
        go_meet
        case rel => exact ⟨_, (decide (a0 ≤ 90)), (by first | rfl | (simp; done) | (simp [*]; done)), H', ⟨by first | omega | exact Nat.le_refl _⟩, ⟨by repeat (first | (with_reducible first | exact HB.out | apply below_alloc | apply pw_below_drewN | apply below_drew1) | exact HB.out)⟩⟩
      · rw [if_neg c14] at H
        have c14b0 : decide (65 ≤ a0) = false := decide_eq_false c14
        clear c14
        have H' := Aside0.mk H
        clear H
        go_wp2
        go_meet
        case rel => exact ⟨_, (false), (by first | rfl | (simp; done) | (simp [*]; done)), H', ⟨by first | omega | exact Nat.le_refl _⟩, ⟨by repeat (first | (with_reducible first | exact HB.out | apply below_alloc | apply pw_below_drewN | apply below_drew1) | exact HB.out)⟩⟩
  case rest =>
    clear HC6
    try clear c1
    try clear hcv1
    try clear c2
    try clear p2
    try clear c8
    try clear hcv10
    try clear c11
    try clear c11b0
    try clear c12
    try clear c12b0
    try clear c13
    try clear c13b0
    try clear c14
    try clear c14b0
    obtain ⟨kq, x8_5, rfl, HA, HJ5, HB⟩ := hcut
    cases kq with
    | zero => exact absurd HA.out (by simp [isoglosslaw02_AsciiBytes.j0])
    | succ kj5 =>
      have H := HA.out
      clear HA
      simp only [isoglosslaw02_AsciiBytes.j0] at H
      have HC15 := Aside0.mk H
      clear H
      go_upto_region 6 with (fail)
      go_cut [9] (fun v9 wc => ∃ (kq : Nat) (x9_14 : Bool), v9 = .bool x9_14 ∧ Aside0 (isoglosslaw02_AsciiBytes.j1 kq t172 t171 (strOfNums y173) t176 x8_5 x9_14 = some r) ∧ Aside0 (kq ≤ kj5) ∧ Aside0 (Below w.heap.size w wc))
      case first =>
        have H := HC15.out
        clear HC15
        by_cases c16 : a0 ≥ 48
        · rw [if_pos c16] at H
          have c16b0 : decide (48 ≤ a0) = true := decide_eq_true c16
          clear c16
          (first | rw [c16b0] | (simp only [i64_w, i32_w]; rw [c16b0]) | rw [c16b2] | skip)
          have H' := Aside0.mk H
          clear H
          go_wp2
          go_meet
          case rel => exact ⟨_, (decide (a0 ≤ 57)), (by first | rfl | (simp; done) | (simp [*]; done)), H', ⟨by have := HJ5.out; first | omega | exact Nat.le_refl _⟩, ⟨by repeat (first | (with_reducible first | exact HB.out | apply below_alloc | apply pw_below_drewN | apply below_drew1) | exact HB.out)⟩⟩
        · rw [if_neg c16] at H
          have c16b0 : decide (48 ≤ a0) = false := decide_eq_false c16
          clear c16
          (first | rw [c16b0] | (simp only [i64_w, i32_w]; rw [c16b0]) | rw [c16b2] | skip)
          have H' := Aside0.mk H
          clear H
          go_wp2
          go_meet
          case rel => exact ⟨_, (false), (by first | rfl | (simp; done) | (simp [*]; done)), H', ⟨by have := HJ5.out; first | omega | exact Nat.le_refl _⟩, ⟨by repeat (first | (with_reducible first | exact HB.out | apply below_alloc | apply pw_below_drewN | apply below_drew1) | exact HB.out)⟩⟩
      case rest =>
        clear HC15
        try clear c1
        try clear hcv1
        try clear c2
        try clear p2
        try clear c8
        try clear hcv10
        try clear c11
        try clear c11b0
        try clear c12
        try clear c12b0
        try clear c13
        try clear c13b0
        try clear c14
        try clear c14b0
        try clear c16
        try clear c16b0
        try clear p2
        obtain ⟨kq, x9_14, rfl, HA, HJ14, HB⟩ := hcut
        cases kq with
        | zero => exact absurd HA.out (by simp [isoglosslaw02_AsciiBytes.j1])
        | succ kj14 =>
          have H := HA.out
          clear HA
          simp only [isoglosslaw02_AsciiBytes.j1] at H
          by_cases c17 : t171 = true
          · subst c17
            have H1 : (if ((t176 == 1) == x8_5) = true then (if ((t176 == 2) == x9_14) = true then (if t176 < 3 then (if x8_5 = true then (if ((t176 == 0) == false) = true then (if t172.size + (strOfNums y173).size ≤ 9223372036854775807 then ((ascii_Alnum.f kj14 (t172 ++ (strOfNums y173))).bind fun t177 => (if t176 > 0 then (if t172.toList = ([] : List UInt8) then (if (t177 == true) = true then (if (strOfNums y173).size + t172.size ≤ 9223372036854775807 then ((ascii_Alpha.f kj14 ((strOfNums y173) ++ t172)).bind fun t178 => (some (t178 == true))) else (none)) else (some false)) else ((ascii_Alnum.f kj14 t172).bind fun t179 => (if (t177 == t179) = true then (if (strOfNums y173).size + t172.size ≤ 9223372036854775807 then ((ascii_Alpha.f kj14 ((strOfNums y173) ++ t172)).bind fun t180 => ((ascii_Alpha.f kj14 t172).bind fun t181 => (some (t180 == t181)))) else (none)) else (some false)))) else (if (t177 == false) = true then (if (strOfNums y173).size + t172.size ≤ 9223372036854775807 then ((ascii_Alpha.f kj14 ((strOfNums y173) ++ t172)).bind fun t182 => (if t172.toList = ([] : List UInt8) then (some (t182 == true)) else ((ascii_Alpha.f kj14 t172).bind fun t183 => (some (t182 == t183))))) else (none)) else (some false)))) else (none)) else (some false)) else (if ((t176 == 0) == (!x9_14)) = true then (if t172.size + (strOfNums y173).size ≤ 9223372036854775807 then ((ascii_Alnum.f kj14 (t172 ++ (strOfNums y173))).bind fun t184 => (if t176 > 0 then (if t172.toList = ([] : List UInt8) then (if (t184 == true) = true then (if (strOfNums y173).size + t172.size ≤ 9223372036854775807 then ((ascii_Alpha.f kj14 ((strOfNums y173) ++ t172)).bind fun t185 => (some (t185 == false))) else (none)) else (some false)) else ((ascii_Alnum.f kj14 t172).bind fun t186 => (if (t184 == t186) = true then (if (strOfNums y173).size + t172.size ≤ 9223372036854775807 then ((ascii_Alpha.f kj14 ((strOfNums y173) ++ t172)).bind fun t187 => (some (t187 == false))) else (none)) else (some false)))) else (if (t184 == false) = true then (if (strOfNums y173).size + t172.size ≤ 9223372036854775807 then ((ascii_Alpha.f kj14 ((strOfNums y173) ++ t172)).bind fun t188 => (some (t188 == false))) else (none)) else (some false)))) else (none)) else (some false))) else (some false)) else (some false)) else (some false)) = some r := by rw [if_pos rfl] at H; exact H
            clear H
            have H := H1
            clear H1
            by_cases c18 : ((t176 == 1) == x8_5) = true
            · rw [if_pos c18] at H
              have c18b0 : ((t176 == 1) == x8_5) = true := c18
              (try (have c18b1 : decide ((t176 == 1) = x8_5) = true := by simpa using c18))
              (try (have c18b2 : ((t176 == 1) == x8_5) = true := by simpa using c18))
              clear c18
              by_cases c19 : ((t176 == 2) == x9_14) = true
              · rw [if_pos c19] at H
                have c19b0 : ((t176 == 2) == x9_14) = true := c19
                (try (have c19b1 : decide ((t176 == 2) = x9_14) = true := by simpa using c19))
                (try (have c19b2 : ((t176 == 2) == x9_14) = true := by simpa using c19))
                clear c19
                by_cases c20 : t176 < 3
                · rw [if_pos c20] at H
                  have c20b0 : decide (t176 < 3) = true := decide_eq_true c20
                  clear c20
                  by_cases c21 : x8_5 = true
                  · subst c21
                    have H1 : (if ((t176 == 0) == false) = true then (if t172.size + (strOfNums y173).size ≤ 9223372036854775807 then ((ascii_Alnum.f kj14 (t172 ++ (strOfNums y173))).bind fun t177 => (if t176 > 0 then (if t172.toList = ([] : List UInt8) then (if (t177 == true) = true then (if (strOfNums y173).size + t172.size ≤ 9223372036854775807 then ((ascii_Alpha.f kj14 ((strOfNums y173) ++ t172)).bind fun t178 => (some (t178 == true))) else (none)) else (some false)) else ((ascii_Alnum.f kj14 t172).bind fun t179 => (if (t177 == t179) = true then (if (strOfNums y173).size + t172.size ≤ 9223372036854775807 then ((ascii_Alpha.f kj14 ((strOfNums y173) ++ t172)).bind fun t180 => ((ascii_Alpha.f kj14 t172).bind fun t181 => (some (t180 == t181)))) else (none)) else (some false)))) else (if (t177 == false) = true then (if (strOfNums y173).size + t172.size ≤ 9223372036854775807 then ((ascii_Alpha.f kj14 ((strOfNums y173) ++ t172)).bind fun t182 => (if t172.toList = ([] : List UInt8) then (some (t182 == true)) else ((ascii_Alpha.f kj14 t172).bind fun t183 => (some (t182 == t183))))) else (none)) else (some false)))) else (none)) else (some false)) = some r := by rw [if_pos rfl] at H; exact H
                    clear H
                    have H := H1
                    clear H1
                    by_cases c22 : ((t176 == 0) == false) = true
                    · rw [if_pos c22] at H
                      have c22b0 : ((t176 == 0) == false) = true := c22
                      (try (have c22b1 : decide ((t176 == 0) = false) = true := by simpa using c22))
                      (try (have c22b2 : ((t176 == 0) == false) = true := by simpa using c22))
                      clear c22
                      by_cases c23 : t172.size + (strOfNums y173).size ≤ 9223372036854775807
                      · rw [if_pos c23] at H
                        have c23b0 := eq_true c23
                        have c23b1 : decide (t172.size + (strOfNums y173).size ≤ 9223372036854775807) = true := decide_eq_true c23
                        try have c23b2 : (9223372036854775807 < t172.size + (strOfNums y173).size) = False := eq_false (Nat.not_lt.2 c23)
                        replace H := Option.bind_eq_some_iff.mp H
                        obtain ⟨t177, A240, H⟩ := H
                        replace H : (if t176 > 0 then (if t172.toList = ([] : List UInt8) then (if (t177 == true) = true then (if (strOfNums y173).size + t172.size ≤ 9223372036854775807 then ((ascii_Alpha.f kj14 ((strOfNums y173) ++ t172)).bind fun t178 => (some (t178 == true))) else (none)) else (some false)) else ((ascii_Alnum.f kj14 t172).bind fun t179 => (if (t177 == t179) = true then (if (strOfNums y173).size + t172.size ≤ 9223372036854775807 then ((ascii_Alpha.f kj14 ((strOfNums y173) ++ t172)).bind fun t180 => ((ascii_Alpha.f kj14 t172).bind fun t181 => (some (t180 == t181)))) else (none)) else (some false)))) else (if (t177 == false) = true then (if (strOfNums y173).size + t172.size ≤ 9223372036854775807 then ((ascii_Alpha.f kj14 ((strOfNums y173) ++ t172)).bind fun t182 => (if t172.toList = ([] : List UInt8) then (some (t182 == true)) else ((ascii_Alpha.f kj14 t172).bind fun t183 => (some (t182 == t183))))) else (none)) else (some false))) = some r := H
                        have A24 := Aside0.mk A240
                        clear A240
                        by_cases c25 : t176 > 0
                        · rw [if_pos c25] at H
                          have c25b0 : decide (0 < t176) = true := decide_eq_true c25
                          clear c25
                          by_cases c26 : t172.toList = ([] : List UInt8)
                          · rw [if_pos c26] at H
                            have c26b0 : (t172.toList == ([] : List UInt8)) = true := beq_iff_eq.mpr c26
                            have c26b1 : (t172.toList != ([] : List UInt8)) = false := bne_eq_false_iff_eq.mpr c26
                            have c26b2 : t172.toList.isEmpty = true := List.isEmpty_iff.mpr c26
                            clear c26
                            by_cases c27 : (t177 == true) = true
                            · rw [if_pos c27] at H
                              have c27b0 : (t177 == true) = true := c27
                              (try (have c27b1 : decide (t177 = true) = true := by simpa using c27))
                              (try (have c27b2 : (t177 == true) = true := by simpa using c27))
                              clear c27
                              by_cases c28 : (strOfNums y173).size + t172.size ≤ 9223372036854775807
                              · rw [if_pos c28] at H
                                have c28b0 := eq_true c28
                                have c28b1 : decide ((strOfNums y173).size + t172.size ≤ 9223372036854775807) = true := decide_eq_true c28
                                try have c28b2 : (9223372036854775807 < (strOfNums y173).size + t172.size) = False := eq_false (Nat.not_lt.2 c28)
                                replace H := Option.bind_eq_some_iff.mp H
                                obtain ⟨t178, A290, H⟩ := H
                                replace H : (some (t178 == true)) = some r := H
                                have A29 := Aside0.mk A290
                                clear A290
                                obtain rfl := Option.some.inj H
                                go_wp2_with (first | (go_at_call 25; (with_reducible refine (ascii_Alnum.calls kj14 (t172 ++ (strOfNums y173)) t177 _ A24.out).mono ?_); rintro e w' ⟨rfl, ⟨nd, rfl⟩⟩; (try clear A24)) | (go_at_call 26; (with_reducible refine (ascii_Alpha.calls kj14 ((strOfNums y173) ++ t172) t178 _ A29.out).mono ?_); rintro e w' ⟨rfl, ⟨nd, rfl⟩⟩; (try clear A29)))
                                go_ret
                                exact ⟨by first | rfl | (simp [errW_none, errW_some] <;> rfl) | (simp [*, errW_none, errW_some] <;> rfl), by repeat (first | (with_reducible first | exact HB.out | apply below_alloc | apply pw_below_drewN | apply below_drew1) | exact HB.out)⟩
                              · rw [if_neg c28] at H
                                exact absurd H (by simp)
                            · rw [if_neg c27] at H
                              have c27b0 : (t177 == true) = false := by simpa using c27
                              (try (have c27b1 : decide (t177 = true) = false := by simpa using c27))
                              (try (have c27b2 : (t177 == true) = false := by simpa using c27))
                              (try (have c27b3 : ¬ (t177 = true) := by simpa using c27))
                              clear c27
                              obtain rfl := Option.some.inj H
                              go_wp2_with (first | (go_at_call 25; (with_reducible refine (ascii_Alnum.calls kj14 (t172 ++ (strOfNums y173)) t177 _ A24.out).mono ?_); rintro e w' ⟨rfl, ⟨nd, rfl⟩⟩; (try clear A24)))
                              go_ret
                              exact ⟨by first | rfl | (simp [errW_none, errW_some] <;> rfl) | (simp [*, errW_none, errW_some] <;> rfl), by repeat (first | (with_reducible first | exact HB.out | apply below_alloc | apply pw_below_drewN | apply below_drew1) | exact HB.out)⟩
                          · rw [if_neg c26] at H
                            have c26b0 : (t172.toList == ([] : List UInt8)) = false := beq_eq_false_iff_ne.mpr c26
                            have c26b1 : (t172.toList != ([] : List UInt8)) = true := bne_iff_ne.mpr c26
                            have c26b2 : t172.toList.isEmpty = false := List.isEmpty_eq_false_iff.mpr c26
                            replace H := Option.bind_eq_some_iff.mp H
                            obtain ⟨t179, A300, H⟩ := H
                            replace H : (if (t177 == t179) = true then (if (strOfNums y173).size + t172.size ≤ 9223372036854775807 then ((ascii_Alpha.f kj14 ((strOfNums y173) ++ t172)).bind fun t180 => ((ascii_Alpha.f kj14 t172).bind fun t181 => (some (t180 == t181)))) else (none)) else (some false)) = some r := H
                            have A30 := Aside0.mk A300
                            clear A300
                            by_cases c31 : (t177 == t179) = true
                            · rw [if_pos c31] at H
                              have c31b0 : (t177 == t179) = true := c31
                              (try (have c31b1 : decide (t177 = t179) = true := by simpa using c31))
                              (try (have c31b2 : (t177 == t179) = true := by simpa using c31))
                              clear c31
                              by_cases c32 : (strOfNums y173).size + t172.size ≤ 9223372036854775807
                              · rw [if_pos c32] at H
                                have c32b0 := eq_true c32
                                have c32b1 : decide ((strOfNums y173).size + t172.size ≤ 9223372036854775807) = true := decide_eq_true c32
                                try have c32b2 : (9223372036854775807 < (strOfNums y173).size + t172.size) = False := eq_false (Nat.not_lt.2 c32)
                                replace H := Option.bind_eq_some_iff.mp H
                                obtain ⟨t180, A330, H⟩ := H
                                replace H : ((ascii_Alpha.f kj14 t172).bind fun t181 => (some (t180 == t181))) = some r := H
                                have A33 := Aside0.mk A330
                                clear A330
                                replace H := Option.bind_eq_some_iff.mp H
                                obtain ⟨t181, A340, H⟩ := H
                                replace H : (some (t180 == t181)) = some r := H
                                have A34 := Aside0.mk A340
                                clear A340
                                obtain rfl := Option.some.inj H
                                go_wp2_with (first | (go_at_call 25; (with_reducible refine (ascii_Alnum.calls kj14 (t172 ++ (strOfNums y173)) t177 _ A24.out).mono ?_); rintro e w' ⟨rfl, ⟨nd, rfl⟩⟩; (try clear A24)) | (go_at_call 25; (with_reducible refine (ascii_Alnum.calls kj14 t172 t179 _ A30.out).mono ?_); rintro e w' ⟨rfl, ⟨nd, rfl⟩⟩; (try clear A30)) | (go_at_call 26; (with_reducible refine (ascii_Alpha.calls kj14 ((strOfNums y173) ++ t172) t180 _ A33.out).mono ?_); rintro e w' ⟨rfl, ⟨nd, rfl⟩⟩; (try clear A33)) | (go_at_call 26; (with_reducible refine (ascii_Alpha.calls kj14 t172 t181 _ A34.out).mono ?_); rintro e w' ⟨rfl, ⟨nd, rfl⟩⟩; (try clear A34)))
                                go_ret
                                exact ⟨by first | rfl | (simp [errW_none, errW_some] <;> rfl) | (simp [*, errW_none, errW_some] <;> rfl), by repeat (first | (with_reducible first | exact HB.out | apply below_alloc | apply pw_below_drewN | apply below_drew1) | exact HB.out)⟩
                              · rw [if_neg c32] at H
                                exact absurd H (by simp)
                            · rw [if_neg c31] at H
                              have c31b0 : (t177 == t179) = false := by simpa using c31
                              (try (have c31b1 : decide (t177 = t179) = false := by simpa using c31))
                              (try (have c31b2 : (t177 == t179) = false := by simpa using c31))
                              (try (have c31b3 : ¬ (t177 = t179) := by simpa using c31))
                              clear c31
                              obtain rfl := Option.some.inj H
                              go_wp2_with (first | (go_at_call 25; (with_reducible refine (ascii_Alnum.calls kj14 (t172 ++ (strOfNums y173)) t177 _ A24.out).mono ?_); rintro e w' ⟨rfl, ⟨nd, rfl⟩⟩; (try clear A24)) | (go_at_call 25; (with_reducible refine (ascii_Alnum.calls kj14 t172 t179 _ A30.out).mono ?_); rintro e w' ⟨rfl, ⟨nd, rfl⟩⟩; (try clear A30)))
                              go_ret
                              exact ⟨by first | rfl | (simp [errW_none, errW_some] <;> rfl) | (simp [*, errW_none, errW_some] <;> rfl), by repeat (first | (with_reducible first | exact HB.out | apply below_alloc | apply pw_below_drewN | apply below_drew1) | exact HB.out)⟩
                        · rw [if_neg c25] at H
                          have c25b0 : decide (0 < t176) = false := decide_eq_false c25
                          clear c25
                          by_cases c35 : (t177 == false) = true
                          · rw [if_pos c35] at H
                            have c35b0 : (t177 == false) = true := c35
                            (try (have c35b1 : decide (t177 = false) = true := by simpa using c35))
                            (try (have c35b2 : (t177 == false) = true := by simpa using c35))
                            clear c35
                            by_cases c36 : (strOfNums y173).size + t172.size ≤ 9223372036854775807
                            · rw [if_pos c36] at H
                              have c36b0 := eq_true c36
                              have c36b1 : decide ((strOfNums y173).size + t172.size ≤ 9223372036854775807) = true := decide_eq_true c36
                              try have c36b2 : (9223372036854775807 < (strOfNums y173).size + t172.size) = False := eq_false (Nat.not_lt.2 c36)
                              replace H := Option.bind_eq_some_iff.mp H
                              obtain ⟨t182, A370, H⟩ := H
                              replace H : (if t172.toList = ([] : List UInt8) then (some (t182 == true)) else ((ascii_Alpha.f kj14 t172).bind fun t183 => (some (t182 == t183)))) = some r := H
                              have A37 := Aside0.mk A370
                              clear A370
                              by_cases c38 : t172.toList = ([] : List UInt8)
                              · rw [if_pos c38] at H
                                have c38b0 : (t172.toList == ([] : List UInt8)) = true := beq_iff_eq.mpr c38
                                have c38b1 : (t172.toList != ([] : List UInt8)) = false := bne_eq_false_iff_eq.mpr c38
                                have c38b2 : t172.toList.isEmpty = true := List.isEmpty_iff.mpr c38
                                clear c38
                                obtain rfl := Option.some.inj H
                                go_wp2_with (first | (go_at_call 25; (with_reducible refine (ascii_Alnum.calls kj14 (t172 ++ (strOfNums y173)) t177 _ A24.out).mono ?_); rintro e w' ⟨rfl, ⟨nd, rfl⟩⟩; (try clear A24)) | (go_at_call 26; (with_reducible refine (ascii_Alpha.calls kj14 ((strOfNums y173) ++ t172) t182 _ A37.out).mono ?_); rintro e w' ⟨rfl, ⟨nd, rfl⟩⟩; (try clear A37)))
                                go_ret
                                exact ⟨by first | rfl | (simp [errW_none, errW_some] <;> rfl) | (simp [*, errW_none, errW_some] <;> rfl), by repeat (first | (with_reducible first | exact HB.out | apply below_alloc | apply pw_below_drewN | apply below_drew1) | exact HB.out)⟩
                              · rw [if_neg c38] at H
                                have c38b0 : (t172.toList == ([] : List UInt8)) = false := beq_eq_false_iff_ne.mpr c38
                                have c38b1 : (t172.toList != ([] : List UInt8)) = true := bne_iff_ne.mpr c38
                                have c38b2 : t172.toList.isEmpty = false := List.isEmpty_eq_false_iff.mpr c38
                                replace H := Option.bind_eq_some_iff.mp H
                                obtain ⟨t183, A390, H⟩ := H
                                replace H : (some (t182 == t183)) = some r := H
                                have A39 := Aside0.mk A390
                                clear A390
                                obtain rfl := Option.some.inj H
                                go_wp2_with (first | (go_at_call 25; (with_reducible refine (ascii_Alnum.calls kj14 (t172 ++ (strOfNums y173)) t177 _ A24.out).mono ?_); rintro e w' ⟨rfl, ⟨nd, rfl⟩⟩; (try clear A24)) | (go_at_call 26; (with_reducible refine (ascii_Alpha.calls kj14 ((strOfNums y173) ++ t172) t182 _ A37.out).mono ?_); rintro e w' ⟨rfl, ⟨nd, rfl⟩⟩; (try clear A37)) | (go_at_call 26; (with_reducible refine (ascii_Alpha.calls kj14 t172 t183 _ A39.out).mono ?_); rintro e w' ⟨rfl, ⟨nd, rfl⟩⟩; (try clear A39)))
                                go_ret
                                exact ⟨by first | rfl | (simp [errW_none, errW_some] <;> rfl) | (simp [*, errW_none, errW_some] <;> rfl), by repeat (first | (with_reducible first | exact HB.out | apply below_alloc | apply pw_below_drewN | apply below_drew1) | exact HB.out)⟩
                            · rw [if_neg c36] at H
                              exact absurd H (by simp)
                          · rw [if_neg c35] at H
                            have c35b0 : (t177 == false) = false := by simpa using c35
                            (try (have c35b1 : decide (t177 = false) = false := by simpa using c35))
                            (try (have c35b2 : (t177 == false) = false := by simpa using c35))
                            (try (have c35b3 : ¬ (t177 = false) := by simpa using c35))
                            clear c35
                            obtain rfl := Option.some.inj H
                            go_wp2_with (first | (go_at_call 25; (with_reducible refine (ascii_Alnum.calls kj14 (t172 ++ (strOfNums y173)) t177 _ A24.out).mono ?_); rintro e w' ⟨rfl, ⟨nd, rfl⟩⟩; (try clear A24)))
                            go_ret
                            exact ⟨by first | rfl | (simp [errW_none, errW_some] <;> rfl) | (simp [*, errW_none, errW_some] <;> rfl), by repeat (first | (with_reducible first | exact HB.out | apply below_alloc | apply pw_below_drewN | apply below_drew1) | exact HB.out)⟩
                      · rw [if_neg c23] at H
                        exact absurd H (by simp)
                    · rw [if_neg c22] at H
                      have c22b0 : ((t176 == 0) == false) = false := by simpa using c22
                      (try (have c22b1 : decide ((t176 == 0) = false) = false := by simpa using c22))
                      (try (have c22b2 : ((t176 == 0) == false) = false := by simpa using c22))
                      (try (have c22b3 : ¬ ((t176 == 0) = false) := by simpa using c22))
                      clear c22
                      obtain rfl := Option.some.inj H
                      go_wp2
                      go_ret
                      exact ⟨by first | rfl | (simp [errW_none, errW_some] <;> rfl) | (simp [*, errW_none, errW_some] <;> rfl), by repeat (first | (with_reducible first | exact HB.out | apply below_alloc | apply pw_below_drewN | apply below_drew1) | exact HB.out)⟩
                  · replace c21 := Bool.eq_false_iff.mpr c21
                    subst c21
                    have H1 : (if ((t176 == 0) == (!x9_14)) = true then (if t172.size + (strOfNums y173).size ≤ 9223372036854775807 then ((ascii_Alnum.f kj14 (t172 ++ (strOfNums y173))).bind fun t184 => (if t176 > 0 then (if t172.toList = ([] : List UInt8) then (if (t184 == true) = true then (if (strOfNums y173).size + t172.size ≤ 9223372036854775807 then ((ascii_Alpha.f kj14 ((strOfNums y173) ++ t172)).bind fun t185 => (some (t185 == false))) else (none)) else (some false)) else ((ascii_Alnum.f kj14 t172).bind fun t186 => (if (t184 == t186) = true then (if (strOfNums y173).size + t172.size ≤ 9223372036854775807 then ((ascii_Alpha.f kj14 ((strOfNums y173) ++ t172)).bind fun t187 => (some (t187 == false))) else (none)) else (some false)))) else (if (t184 == false) = true then (if (strOfNums y173).size + t172.size ≤ 9223372036854775807 then ((ascii_Alpha.f kj14 ((strOfNums y173) ++ t172)).bind fun t188 => (some (t188 == false))) else (none)) else (some false)))) else (none)) else (some false)) = some r := by rw [if_neg (show ¬ (false = true) by decide)] at H; exact H
                    clear H
                    have H := H1
                    clear H1
                    by_cases c40 : ((t176 == 0) == (!x9_14)) = true
                    · rw [if_pos c40] at H
                      have c40b0 : ((t176 == 0) == (!x9_14)) = true := c40
                      (try (have c40b1 : decide ((t176 == 0) = (!x9_14)) = true := by simpa using c40))
                      (try (have c40b2 : ((t176 == 0) == (!x9_14)) = true := by simpa using c40))
                      clear c40
                      by_cases c41 : t172.size + (strOfNums y173).size ≤ 9223372036854775807
                      · rw [if_pos c41] at H
                        have c41b0 := eq_true c41
                        have c41b1 : decide (t172.size + (strOfNums y173).size ≤ 9223372036854775807) = true := decide_eq_true c41
                        try have c41b2 : (9223372036854775807 < t172.size + (strOfNums y173).size) = False := eq_false (Nat.not_lt.2 c41)
                        replace H := Option.bind_eq_some_iff.mp H
                        obtain ⟨t184, A420, H⟩ := H
                        replace H : (if t176 > 0 then (if t172.toList = ([] : List UInt8) then (if (t184 == true) = true then (if (strOfNums y173).size + t172.size ≤ 9223372036854775807 then ((ascii_Alpha.f kj14 ((strOfNums y173) ++ t172)).bind fun t185 => (some (t185 == false))) else (none)) else (some false)) else ((ascii_Alnum.f kj14 t172).bind fun t186 => (if (t184 == t186) = true then (if (strOfNums y173).size + t172.size ≤ 9223372036854775807 then ((ascii_Alpha.f kj14 ((strOfNums y173) ++ t172)).bind fun t187 => (some (t187 == false))) else (none)) else (some false)))) else (if (t184 == false) = true then (if (strOfNums y173).size + t172.size ≤ 9223372036854775807 then ((ascii_Alpha.f kj14 ((strOfNums y173) ++ t172)).bind fun t188 => (some (t188 == false))) else (none)) else (some false))) = some r := H
                        have A42 := Aside0.mk A420
                        clear A420
                        by_cases c43 : t176 > 0
                        · rw [if_pos c43] at H
                          have c43b0 : decide (0 < t176) = true := decide_eq_true c43
                          clear c43
                          by_cases c44 : t172.toList = ([] : List UInt8)
                          · rw [if_pos c44] at H
                            have c44b0 : (t172.toList == ([] : List UInt8)) = true := beq_iff_eq.mpr c44
                            have c44b1 : (t172.toList != ([] : List UInt8)) = false := bne_eq_false_iff_eq.mpr c44
                            have c44b2 : t172.toList.isEmpty = true := List.isEmpty_iff.mpr c44
                            clear c44
                            by_cases c45 : (t184 == true) = true
                            · rw [if_pos c45] at H
                              have c45b0 : (t184 == true) = true := c45
                              (try (have c45b1 : decide (t184 = true) = true := by simpa using c45))
                              (try (have c45b2 : (t184 == true) = true := by simpa using c45))
                              clear c45
                              by_cases c46 : (strOfNums y173).size + t172.size ≤ 9223372036854775807
                              · rw [if_pos c46] at H
                                have c46b0 := eq_true c46
                                have c46b1 : decide ((strOfNums y173).size + t172.size ≤ 9223372036854775807) = true := decide_eq_true c46
                                try have c46b2 : (9223372036854775807 < (strOfNums y173).size + t172.size) = False := eq_false (Nat.not_lt.2 c46)
                                replace H := Option.bind_eq_some_iff.mp H
                                obtain ⟨t185, A470, H⟩ := H
                                replace H : (some (t185 == false)) = some r := H
                                have A47 := Aside0.mk A470
                                clear A470
                                obtain rfl := Option.some.inj H
                                go_wp2_with (first | (go_at_call 25; (with_reducible refine (ascii_Alnum.calls kj14 (t172 ++ (strOfNums y173)) t184 _ A42.out).mono ?_); rintro e w' ⟨rfl, ⟨nd, rfl⟩⟩; (try clear A42)) | (go_at_call 26; (with_reducible refine (ascii_Alpha.calls kj14 ((strOfNums y173) ++ t172) t185 _ A47.out).mono ?_); rintro e w' ⟨rfl, ⟨nd, rfl⟩⟩; (try clear A47)))
                                go_ret
                                exact ⟨by first | rfl | (simp [errW_none, errW_some] <;> rfl) | (simp [*, errW_none, errW_some] <;> rfl), by repeat (first | (with_reducible first | exact HB.out | apply below_alloc | apply pw_below_drewN | apply below_drew1) | exact HB.out)⟩
                              · rw [if_neg c46] at H
                                exact absurd H (by simp)
                            · rw [if_neg c45] at H
                              have c45b0 : (t184 == true) = false := by simpa using c45
                              (try (have c45b1 : decide (t184 = true) = false := by simpa using c45))
                              (try (have c45b2 : (t184 == true) = false := by simpa using c45))
                              (try (have c45b3 : ¬ (t184 = true) := by simpa using c45))
                              clear c45
                              obtain rfl := Option.some.inj H
                              go_wp2_with (first | (go_at_call 25; (with_reducible refine (ascii_Alnum.calls kj14 (t172 ++ (strOfNums y173)) t184 _ A42.out).mono ?_); rintro e w' ⟨rfl, ⟨nd, rfl⟩⟩; (try clear A42)))
                              go_ret
                              exact ⟨by first | rfl | (simp [errW_none, errW_some] <;> rfl) | (simp [*, errW_none, errW_some] <;> rfl), by repeat (first | (with_reducible first | exact HB.out | apply below_alloc | apply pw_below_drewN | apply below_drew1) | exact HB.out)⟩
                          · rw [if_neg c44] at H
                            have c44b0 : (t172.toList == ([] : List UInt8)) = false := beq_eq_false_iff_ne.mpr c44
                            have c44b1 : (t172.toList != ([] : List UInt8)) = true := bne_iff_ne.mpr c44
                            have c44b2 : t172.toList.isEmpty = false := List.isEmpty_eq_false_iff.mpr c44
                            replace H := Option.bind_eq_some_iff.mp H
                            obtain ⟨t186, A480, H⟩ := H
                            replace H : (if (t184 == t186) = true then (if (strOfNums y173).size + t172.size ≤ 9223372036854775807 then ((ascii_Alpha.f kj14 ((strOfNums y173) ++ t172)).bind fun t187 => (some (t187 == false))) else (none)) else (some false)) = some r := H
                            have A48 := Aside0.mk A480
                            clear A480
                            by_cases c49 : (t184 == t186) = true
                            · rw [if_pos c49] at H
                              have c49b0 : (t184 == t186) = true := c49
                              (try (have c49b1 : decide (t184 = t186) = true := by simpa using c49))
                              (try (have c49b2 : (t184 == t186) = true := by simpa using c49))
                              clear c49
                              by_cases c50 : (strOfNums y173).size + t172.size ≤ 9223372036854775807
                              · rw [if_pos c50] at H
                                have c50b0 := eq_true c50
                                have c50b1 : decide ((strOfNums y173).size + t172.size ≤ 9223372036854775807) = true := decide_eq_true c50
                                try have c50b2 : (9223372036854775807 < (strOfNums y173).size + t172.size) = False := eq_false (Nat.not_lt.2 c50)
                                replace H := Option.bind_eq_some_iff.mp H
                                obtain ⟨t187, A510, H⟩ := H
                                replace H : (some (t187 == false)) = some r := H
                                have A51 := Aside0.mk A510
                                clear A510
                                obtain rfl := Option.some.inj H
                                go_wp2_with (first | (go_at_call 25; (with_reducible refine (ascii_Alnum.calls kj14 (t172 ++ (strOfNums y173)) t184 _ A42.out).mono ?_); rintro e w' ⟨rfl, ⟨nd, rfl⟩⟩; (try clear A42)) | (go_at_call 25; (with_reducible refine (ascii_Alnum.calls kj14 t172 t186 _ A48.out).mono ?_); rintro e w' ⟨rfl, ⟨nd, rfl⟩⟩; (try clear A48)) | (go_at_call 26; (with_reducible refine (ascii_Alpha.calls kj14 ((strOfNums y173) ++ t172) t187 _ A51.out).mono ?_); rintro e w' ⟨rfl, ⟨nd, rfl⟩⟩; (try clear A51)))
                                go_ret
                                exact ⟨by first | rfl | (simp [errW_none, errW_some] <;> rfl) | (simp [*, errW_none, errW_some] <;> rfl), by repeat (first | (with_reducible first | exact HB.out | apply below_alloc | apply pw_below_drewN | apply below_drew1) | exact HB.out)⟩
                              · rw [if_neg c50] at H
                                exact absurd H (by simp)
                            · rw [if_neg c49] at H
                              have c49b0 : (t184 == t186) = false := by simpa using c49
                              (try (have c49b1 : decide (t184 = t186) = false := by simpa using c49))
                              (try (have c49b2 : (t184 == t186) = false := by simpa using c49))
                              (try (have c49b3 : ¬ (t184 = t186) := by simpa using c49))
                              clear c49
                              obtain rfl := Option.some.inj H
                              go_wp2_with (first | (go_at_call 25; (with_reducible refine (ascii_Alnum.calls kj14 (t172 ++ (strOfNums y173)) t184 _ A42.out).mono ?_); rintro e w' ⟨rfl, ⟨nd, rfl⟩⟩; (try clear A42)) | (go_at_call 25; (with_reducible refine (ascii_Alnum.calls kj14 t172 t186 _ A48.out).mono ?_); rintro e w' ⟨rfl, ⟨nd, rfl⟩⟩; (try clear A48)))
                              go_ret
                              exact ⟨by first | rfl | (simp [errW_none, errW_some] <;> rfl) | (simp [*, errW_none, errW_some] <;> rfl), by repeat (first | (with_reducible first | exact HB.out | apply below_alloc | apply pw_below_drewN | apply below_drew1) | exact HB.out)⟩
                        · rw [if_neg c43] at H
                          have c43b0 : decide (0 < t176) = false := decide_eq_false c43
                          clear c43
                          by_cases c52 : (t184 == false) = true
                          · rw [if_pos c52] at H
                            have c52b0 : (t184 == false) = true := c52
                            (try (have c52b1 : decide (t184 = false) = true := by simpa using c52))
                            (try (have c52b2 : (t184 == false) = true := by simpa using c52))
                            clear c52
                            by_cases c53 : (strOfNums y173).size + t172.size ≤ 9223372036854775807
                            · rw [if_pos c53] at H
                              have c53b0 := eq_true c53
                              have c53b1 : decide ((strOfNums y173).size + t172.size ≤ 9223372036854775807) = true := decide_eq_true c53
                              try have c53b2 : (9223372036854775807 < (strOfNums y173).size + t172.size) = False := eq_false (Nat.not_lt.2 c53)
                              replace H := Option.bind_eq_some_iff.mp H
                              obtain ⟨t188, A540, H⟩ := H
                              replace H : (some (t188 == false)) = some r := H
                              have A54 := Aside0.mk A540
                              clear A540
                              obtain rfl := Option.some.inj H
                              go_wp2_with (first | (go_at_call 25; (with_reducible refine (ascii_Alnum.calls kj14 (t172 ++ (strOfNums y173)) t184 _ A42.out).mono ?_); rintro e w' ⟨rfl, ⟨nd, rfl⟩⟩; (try clear A42)) | (go_at_call 26; (with_reducible refine (ascii_Alpha.calls kj14 ((strOfNums y173) ++ t172) t188 _ A54.out).mono ?_); rintro e w' ⟨rfl, ⟨nd, rfl⟩⟩; (try clear A54)))
                              go_ret
                              exact ⟨by first | rfl | (simp [errW_none, errW_some] <;> rfl) | (simp [*, errW_none, errW_some] <;> rfl), by repeat (first | (with_reducible first | exact HB.out | apply below_alloc | apply pw_below_drewN | apply below_drew1) | exact HB.out)⟩
                            · rw [if_neg c53] at H
                              exact absurd H (by simp)
                          · rw [if_neg c52] at H
                            have c52b0 : (t184 == false) = false := by simpa using c52
                            (try (have c52b1 : decide (t184 = false) = false := by simpa using c52))
                            (try (have c52b2 : (t184 == false) = false := by simpa using c52))
                            (try (have c52b3 : ¬ (t184 = false) := by simpa using c52))
                            clear c52
                            obtain rfl := Option.some.inj H
                            go_wp2_with (first | (go_at_call 25; (with_reducible refine (ascii_Alnum.calls kj14 (t172 ++ (strOfNums y173)) t184 _ A42.out).mono ?_); rintro e w' ⟨rfl, ⟨nd, rfl⟩⟩; (try clear A42)))
                            go_ret
                            exact ⟨by first | rfl | (simp [errW_none, errW_some] <;> rfl) | (simp [*, errW_none, errW_some] <;> rfl), by repeat (first | (with_reducible first | exact HB.out | apply below_alloc | apply pw_below_drewN | apply below_drew1) | exact HB.out)⟩
                      · rw [if_neg c41] at H
                        exact absurd H (by simp)
                    · rw [if_neg c40] at H
                      have c40b0 : ((t176 == 0) == (!x9_14)) = false := by simpa using c40
                      (try (have c40b1 : decide ((t176 == 0) = (!x9_14)) = false := by simpa using c40))
                      (try (have c40b2 : ((t176 == 0) == (!x9_14)) = false := by simpa using c40))
                      (try (have c40b3 : ¬ ((t176 == 0) = (!x9_14)) := by simpa using c40))
                      clear c40
                      obtain rfl := Option.some.inj H
                      go_wp2
                      go_ret
                      exact ⟨by first | rfl | (simp [errW_none, errW_some] <;> rfl) | (simp [*, errW_none, errW_some] <;> rfl), by repeat (first | (with_reducible first | exact HB.out | apply below_alloc | apply pw_below_drewN | apply below_drew1) | exact HB.out)⟩
                · rw [if_neg c20] at H
                  have c20b0 : decide (t176 < 3) = false := decide_eq_false c20
                  clear c20
                  obtain rfl := Option.some.inj H
                  go_wp2
                  go_ret
                  exact ⟨by first | rfl | (simp [errW_none, errW_some] <;> rfl) | (simp [*, errW_none, errW_some] <;> rfl), by repeat (first | (with_reducible first | exact HB.out | apply below_alloc | apply pw_below_drewN | apply below_drew1) | exact HB.out)⟩
              · rw [if_neg c19] at H
                have c19b0 : ((t176 == 2) == x9_14) = false := by simpa using c19
                (try (have c19b1 : decide ((t176 == 2) = x9_14) = false := by simpa using c19))
                (try (have c19b2 : ((t176 == 2) == x9_14) = false := by simpa using c19))
                (try (have c19b3 : ¬ ((t176 == 2) = x9_14) := by simpa using c19))
                clear c19
                obtain rfl := Option.some.inj H
                go_wp2
                go_ret
                exact ⟨by first | rfl | (simp [errW_none, errW_some] <;> rfl) | (simp [*, errW_none, errW_some] <;> rfl), by repeat (first | (with_reducible first | exact HB.out | apply below_alloc | apply pw_below_drewN | apply below_drew1) | exact HB.out)⟩
            · rw [if_neg c18] at H
              have c18b0 : ((t176 == 1) == x8_5) = false := by simpa using c18
              (try (have c18b1 : decide ((t176 == 1) = x8_5) = false := by simpa using c18))
              (try (have c18b2 : ((t176 == 1) == x8_5) = false := by simpa using c18))
              (try (have c18b3 : ¬ ((t176 == 1) = x8_5) := by simpa using c18))
              clear c18
              obtain rfl := Option.some.inj H
              go_wp2
              go_ret
              exact ⟨by first | rfl | (simp [errW_none, errW_some] <;> rfl) | (simp [*, errW_none, errW_some] <;> rfl), by repeat (first | (with_reducible first | exact HB.out | apply below_alloc | apply pw_below_drewN | apply below_drew1) | exact HB.out)⟩
          · replace c17 := Bool.eq_false_iff.mpr c17
            subst c17
            have H1 : (some false) = some r := by rw [if_neg (show ¬ (false = true) by decide)] at H; exact H
            clear H
            have H := H1
            clear H1
            obtain rfl := Option.some.inj H
            go_wp2
            go_ret
            exact ⟨by first | rfl | (simp [errW_none, errW_some] <;> rfl) | (simp [*, errW_none, errW_some] <;> rfl), by repeat (first | (with_reducible first | exact HB.out | apply below_alloc | apply pw_below_drewN | apply below_drew1) | exact HB.out)⟩

/-- THE ONE PURE STATEMENT of isoglosslaw02_AsciiBytes: yours. -/
def isoglosslaw02_AsciiBytes.Pure : Prop := ∀ (a0 : Int) (a1 : ByteArray), (Lit.int .u8 a0).wf = true → a1.size ≤ 140737488351232 → ∃ k, isoglosslaw02_AsciiBytes.f k a0 a1 = some true
theorem isoglosslaw02_AsciiBytes.walk (P : isoglosslaw02_AsciiBytes.Pure) (a0 : Int) (a1 : ByteArray) (w : World) (w0 : (Lit.int .u8 a0).wf = true) (w1 : a1.size ≤ 140737488351232) :
    Calls Try.prog 8 #[.int .u8 a0, .string a1] w fun e w' => e = .returned (.bool true) ∧ Below w.heap.size w w' := by
  obtain ⟨k, h⟩ := P a0 a1 w0 w1
  refine (isoglosslaw02_AsciiBytes.calls k a0 a1 true w h).mono ?_
  rintro e w' ⟨rfl, hd⟩
  exact ⟨rfl, hd⟩

end Go.Proofs.Ytccojdjmbilgcaa.P
