/- Made by a program of this seat's own (myprint.py, round the kit's print): what the functions compute, and that they do. -/
import Derived.Test.YtccojdjmbilgcaaP0
import Derived.Test.YtccojdjmbilgcaaP1
import Derived.Test.YtccojdjmbilgcaaP3
import Derived.Test.YtccojdjmbilgcaaP4
namespace Go.Proofs.Ytccojdjmbilgcaa.P
open Go.RowKit Go.Proofs.YtccojdjmbilgcaaW.PrintWords Go.Proofs.YtccojdjmbilgcaaW.PrintLast Go.Proofs.YtccojdjmbilgcaaW.PrintMore
attribute [local go_sem] max2_int min2_int max_two min_two max_three min_three max_four min_four   -- for this text's walks alone
set_option linter.unusedVariables false
set_option linter.unusedSimpArgs false

/-! ### isoglosslaw02_AsciiCases: function 7 -/
mutual
def isoglosslaw02_AsciiCases.j0 : Nat → ByteArray → Bool → ByteArray → ByteArray → ByteArray → Bool → Option (Bool)
  | 0, _, _, _, _, _, _ => none
  | k + 1, x0, x3, x4, x5, x6, x35 => if x35 = true then (some false) else (isoglosslaw02_AsciiCases.l0 k x0 x3 x4 x5 x6 0)
def isoglosslaw02_AsciiCases.l0 : Nat → ByteArray → Bool → ByteArray → ByteArray → ByteArray → Int → Option (Bool)
  | 0, _, _, _, _, _, _ => none
  | k + 1, x0, x3, x4, x5, x6, x7 => if x7 < (x0.size : Int) then (if 0 ≤ x7 then (if x7 < (x4.size : Int) then (if (bt x4 x7) = (bt x0 x7) then (if x7 < (x5.size : Int) then (if (bt x5 x7) = (bt x0 x7) then (isoglosslaw02_AsciiCases.l0 k x0 x3 x4 x5 x6 (wrap64 (x7 + 1))) else (if (bt x0 x7) > 127 then (some false) else (if (bt x4 x7) = (bt x5 x7) then (some false) else (if (((bt x4 x7) - (bt x5 x7)) % 256) = 32 then (isoglosslaw02_AsciiCases.l0 k x0 x3 x4 x5 x6 (wrap64 (x7 + 1))) else (some false))))) else (none)) else (if (bt x0 x7) > 127 then (some false) else (if x7 < (x5.size : Int) then (if (bt x4 x7) = (bt x5 x7) then (some false) else (if (((bt x4 x7) - (bt x5 x7)) % 256) = 32 then (isoglosslaw02_AsciiCases.l0 k x0 x3 x4 x5 x6 (wrap64 (x7 + 1))) else (some false))) else (none)))) else (none)) else (none)) else (if x3 = true then ((ascii_Lower.f x5).bind fun t161 => (if t161.toList = x4.toList then ((ascii_Upper.f x4).bind fun t162 => (if t162.toList = x5.toList then ((ascii_Title.f x6).bind fun t163 => (if t163.toList = x6.toList then ((ascii_Lower.f x6).bind fun t164 => (if t164.toList = x4.toList then ((ascii_Class.f k x4).bind fun t165 => ((ascii_Class.f k x0).bind fun t166 => (if t165 = t166 then ((ascii_Class.f k x5).bind fun t167 => ((ascii_Class.f k x0).bind fun t168 => (some (t167 == t168)))) else (some false)))) else (some false))) else (some false))) else (some false))) else (some false))) else (some false))
end
def isoglosslaw02_AsciiCases.f (k : Nat) (a0 : ByteArray) : Option (Bool) := (isoglosslaw02_awake.f k).bind fun t156 => ((isoglosslaw02_short.f a0).bind fun t157 => ((ascii_Lower.f t157).bind fun t158 => ((ascii_Upper.f t157).bind fun t159 => ((ascii_Title.f t157).bind fun t160 => (if (t158.size : Int) = (t157.size : Int) then (if (t159.size : Int) = (t157.size : Int) then (isoglosslaw02_AsciiCases.j0 k t157 t156 t158 t159 t160 ((t160.size : Int) != (t157.size : Int))) else (isoglosslaw02_AsciiCases.j0 k t157 t156 t158 t159 t160 true)) else (isoglosslaw02_AsciiCases.j0 k t157 t156 t158 t159 t160 true))))))
theorem isoglosslaw02_AsciiCases.mono_l : ∀ k, (∀ y0 y1 y2 y3 y4 y5, LeO (isoglosslaw02_AsciiCases.j0 k y0 y1 y2 y3 y4 y5) (isoglosslaw02_AsciiCases.j0 (k + 1) y0 y1 y2 y3 y4 y5)) ∧ (∀ y0 y1 y2 y3 y4 y5, LeO (isoglosslaw02_AsciiCases.l0 k y0 y1 y2 y3 y4 y5) (isoglosslaw02_AsciiCases.l0 (k + 1) y0 y1 y2 y3 y4 y5))
  | 0 => ⟨fun _ _ _ _ _ _ r h => by simp [isoglosslaw02_AsciiCases.j0] at h, fun _ _ _ _ _ _ r h => by simp [isoglosslaw02_AsciiCases.l0] at h⟩
  | k + 1 => by
    obtain ⟨ih0, ih1⟩ := isoglosslaw02_AsciiCases.mono_l k
    refine ⟨?_, ?_⟩
    · intro y0 y1 y2 y3 y4 y5
      unfold isoglosslaw02_AsciiCases.j0
      repeat' first
      | (with_reducible exact ih0 _ _ _ _ _ _)
      | (with_reducible exact ih1 _ _ _ _ _ _)
      | (with_reducible exact ascii_Class.mono _ _)
      | (with_reducible exact isoglosslaw02_awake.mono _)
      | (with_reducible exact LeO.refl _)
      | (with_reducible exact LeO.none _)
      | (with_reducible refine LeO.ite ?_ ?_)
      | (with_reducible refine LeO.bind ?_ (fun _ => ?_))
      | exact ih0 _ _ _ _ _ _
      | exact ih1 _ _ _ _ _ _
      | exact ascii_Class.mono _ _
      | exact isoglosslaw02_awake.mono _
      | exact LeO.none _
      | refine LeO.ite ?_ ?_
      | refine LeO.bind ?_ (fun _ => ?_)
    · intro y0 y1 y2 y3 y4 y5
      unfold isoglosslaw02_AsciiCases.l0
      repeat' first
      | (with_reducible exact ih0 _ _ _ _ _ _)
      | (with_reducible exact ih1 _ _ _ _ _ _)
      | (with_reducible exact ascii_Class.mono _ _)
      | (with_reducible exact isoglosslaw02_awake.mono _)
      | (with_reducible exact LeO.refl _)
      | (with_reducible exact LeO.none _)
      | (with_reducible refine LeO.ite ?_ ?_)
      | (with_reducible refine LeO.bind ?_ (fun _ => ?_))
      | exact ih0 _ _ _ _ _ _
      | exact ih1 _ _ _ _ _ _
      | exact ascii_Class.mono _ _
      | exact isoglosslaw02_awake.mono _
      | exact LeO.none _
      | refine LeO.ite ?_ ?_
      | refine LeO.bind ?_ (fun _ => ?_)
theorem isoglosslaw02_AsciiCases.mono : ∀ a0 k, LeO (isoglosslaw02_AsciiCases.f k a0) (isoglosslaw02_AsciiCases.f (k + 1) a0) := by
  intro a0 k
  obtain ⟨ih0, ih1⟩ := isoglosslaw02_AsciiCases.mono_l k
  unfold isoglosslaw02_AsciiCases.f
  repeat' first
      | (with_reducible exact ih0 _ _ _ _ _ _)
      | (with_reducible exact ih1 _ _ _ _ _ _)
      | (with_reducible exact ascii_Class.mono _ _)
      | (with_reducible exact isoglosslaw02_awake.mono _)
      | (with_reducible exact LeO.refl _)
      | (with_reducible exact LeO.none _)
      | (with_reducible refine LeO.ite ?_ ?_)
      | (with_reducible refine LeO.bind ?_ (fun _ => ?_))
      | exact ih0 _ _ _ _ _ _
      | exact ih1 _ _ _ _ _ _
      | exact ascii_Class.mono _ _
      | exact isoglosslaw02_awake.mono _
      | exact LeO.none _
      | refine LeO.ite ?_ ?_
      | refine LeO.bind ?_ (fun _ => ?_)
set_option maxHeartbeats 8000000 in
set_option maxRecDepth 100000 in
theorem isoglosslaw02_AsciiCases.calls (k : Nat) (a0 : ByteArray) (r : Bool) (w : World) (h : isoglosslaw02_AsciiCases.f k a0 = some r) :
    Calls Try.prog 7 #[.string a0] w fun e w' => e = .returned (.bool r) ∧ Below w.heap.size w w' := by
  have HB := Aside0.mk (Below.refl w.heap.size w)
  have H : ((isoglosslaw02_awake.f k).bind fun t156 => ((isoglosslaw02_short.f a0).bind fun t157 => ((ascii_Lower.f t157).bind fun t158 => ((ascii_Upper.f t157).bind fun t159 => ((ascii_Title.f t157).bind fun t160 => (if (t158.size : Int) = (t157.size : Int) then (if (t159.size : Int) = (t157.size : Int) then (isoglosslaw02_AsciiCases.j0 k t157 t156 t158 t159 t160 ((t160.size : Int) != (t157.size : Int))) else (isoglosslaw02_AsciiCases.j0 k t157 t156 t158 t159 t160 true)) else (isoglosslaw02_AsciiCases.j0 k t157 t156 t158 t159 t160 true))))))) = some r := h
  clear h
  replace H := Option.bind_eq_some_iff.mp H
  obtain ⟨t156, A20, H⟩ := H
  replace H : ((isoglosslaw02_short.f a0).bind fun t157 => ((ascii_Lower.f t157).bind fun t158 => ((ascii_Upper.f t157).bind fun t159 => ((ascii_Title.f t157).bind fun t160 => (if (t158.size : Int) = (t157.size : Int) then (if (t159.size : Int) = (t157.size : Int) then (isoglosslaw02_AsciiCases.j0 k t157 t156 t158 t159 t160 ((t160.size : Int) != (t157.size : Int))) else (isoglosslaw02_AsciiCases.j0 k t157 t156 t158 t159 t160 true)) else (isoglosslaw02_AsciiCases.j0 k t157 t156 t158 t159 t160 true)))))) = some r := H
  have A2 := Aside0.mk A20
  clear A20
  replace H := Option.bind_eq_some_iff.mp H
  obtain ⟨t157, A30, H⟩ := H
  replace H : ((ascii_Lower.f t157).bind fun t158 => ((ascii_Upper.f t157).bind fun t159 => ((ascii_Title.f t157).bind fun t160 => (if (t158.size : Int) = (t157.size : Int) then (if (t159.size : Int) = (t157.size : Int) then (isoglosslaw02_AsciiCases.j0 k t157 t156 t158 t159 t160 ((t160.size : Int) != (t157.size : Int))) else (isoglosslaw02_AsciiCases.j0 k t157 t156 t158 t159 t160 true)) else (isoglosslaw02_AsciiCases.j0 k t157 t156 t158 t159 t160 true))))) = some r := H
  have A3 := Aside0.mk A30
  clear A30
  replace H := Option.bind_eq_some_iff.mp H
  obtain ⟨t158, A40, H⟩ := H
  replace H : ((ascii_Upper.f t157).bind fun t159 => ((ascii_Title.f t157).bind fun t160 => (if (t158.size : Int) = (t157.size : Int) then (if (t159.size : Int) = (t157.size : Int) then (isoglosslaw02_AsciiCases.j0 k t157 t156 t158 t159 t160 ((t160.size : Int) != (t157.size : Int))) else (isoglosslaw02_AsciiCases.j0 k t157 t156 t158 t159 t160 true)) else (isoglosslaw02_AsciiCases.j0 k t157 t156 t158 t159 t160 true)))) = some r := H
  have A4 := Aside0.mk A40
  clear A40
  replace H := Option.bind_eq_some_iff.mp H
  obtain ⟨t159, A50, H⟩ := H
  replace H : ((ascii_Title.f t157).bind fun t160 => (if (t158.size : Int) = (t157.size : Int) then (if (t159.size : Int) = (t157.size : Int) then (isoglosslaw02_AsciiCases.j0 k t157 t156 t158 t159 t160 ((t160.size : Int) != (t157.size : Int))) else (isoglosslaw02_AsciiCases.j0 k t157 t156 t158 t159 t160 true)) else (isoglosslaw02_AsciiCases.j0 k t157 t156 t158 t159 t160 true))) = some r := H
  have A5 := Aside0.mk A50
  clear A50
  replace H := Option.bind_eq_some_iff.mp H
  obtain ⟨t160, A60, H⟩ := H
  replace H : (if (t158.size : Int) = (t157.size : Int) then (if (t159.size : Int) = (t157.size : Int) then (isoglosslaw02_AsciiCases.j0 k t157 t156 t158 t159 t160 ((t160.size : Int) != (t157.size : Int))) else (isoglosslaw02_AsciiCases.j0 k t157 t156 t158 t159 t160 true)) else (isoglosslaw02_AsciiCases.j0 k t157 t156 t158 t159 t160 true)) = some r := H
  have A6 := Aside0.mk A60
  clear A60
  have HC7 := Aside0.mk H
  clear H
  go_enter Try.func7, Try.ntmps7
  go_upto_region 6 with (first | (go_at_call 17; (with_reducible refine (isoglosslaw02_awake.calls k  t156 _ A2.out).mono ?_); rintro e w8 ⟨rfl, hb⟩; have n0_ := Aside0.mk (below_step (by repeat (first | (with_reducible first | exact HB.out | apply below_alloc | apply pw_below_drewN | apply below_drew1) | exact HB.out)) hb); clear HB; have HB := n0_; clear n0_; (try clear hb); (try clear hb2); (try clear hk); (try clear hi); (try clear A2)) | (go_at_call 18; (with_reducible refine (isoglosslaw02_short.calls a0 t157 _ A3.out).mono ?_); rintro e w' ⟨rfl, ⟨nd, rfl⟩⟩; (try first | exact ⟨rfl, _, World.drewN_drewN _ _ _⟩ | exact ⟨rfl, _, Eq.trans (World.drewN_drewN _ _ _) (congrArg (World.drewN _) (Nat.add_assoc _ _ _))⟩); (try clear A3)) | (go_at_call 22; (with_reducible refine (ascii_Lower.calls t157 t158 _ A4.out).mono ?_); rintro e w9 ⟨rfl, hb⟩; have n0_ := Aside0.mk (below_step (by repeat (first | (with_reducible first | exact HB.out | apply below_alloc | apply pw_below_drewN | apply below_drew1) | exact HB.out)) hb); clear HB; have HB := n0_; clear n0_; (try clear hb); (try clear hb2); (try clear hk); (try clear hi); (try clear A4)) | (go_at_call 21; (with_reducible refine (ascii_Upper.calls t157 t159 _ A5.out).mono ?_); rintro e w10 ⟨rfl, hb⟩; have n0_ := Aside0.mk (below_step (by repeat (first | (with_reducible first | exact HB.out | apply below_alloc | apply pw_below_drewN | apply below_drew1) | exact HB.out)) hb); clear HB; have HB := n0_; clear n0_; (try clear hb); (try clear hb2); (try clear hk); (try clear hi); (try clear A5)) | (go_at_call 23; (with_reducible refine (ascii_Title.calls t157 t160 _ A6.out).mono ?_); rintro e w11 ⟨rfl, hb⟩; have n0_ := Aside0.mk (below_step (by repeat (first | (with_reducible first | exact HB.out | apply below_alloc | apply pw_below_drewN | apply below_drew1) | exact HB.out)) hb); clear HB; have HB := n0_; clear n0_; (try clear hb); (try clear hb2); (try clear hk); (try clear hi); (try clear A6)))
  repeat (go_quiet (first | (go_at_call 17; (with_reducible refine (isoglosslaw02_awake.calls k  t156 _ A2.out).mono ?_); rintro e w8 ⟨rfl, hb⟩; have n0_ := Aside0.mk (below_step (by repeat (first | (with_reducible first | exact HB.out | apply below_alloc | apply pw_below_drewN | apply below_drew1) | exact HB.out)) hb); clear HB; have HB := n0_; clear n0_; (try clear hb); (try clear hb2); (try clear hk); (try clear hi); (try clear A2)) | (go_at_call 18; (with_reducible refine (isoglosslaw02_short.calls a0 t157 _ A3.out).mono ?_); rintro e w' ⟨rfl, ⟨nd, rfl⟩⟩; (try first | exact ⟨rfl, _, World.drewN_drewN _ _ _⟩ | exact ⟨rfl, _, Eq.trans (World.drewN_drewN _ _ _) (congrArg (World.drewN _) (Nat.add_assoc _ _ _))⟩); (try clear A3)) | (go_at_call 22; (with_reducible refine (ascii_Lower.calls t157 t158 _ A4.out).mono ?_); rintro e w9 ⟨rfl, hb⟩; have n0_ := Aside0.mk (below_step (by repeat (first | (with_reducible first | exact HB.out | apply below_alloc | apply pw_below_drewN | apply below_drew1) | exact HB.out)) hb); clear HB; have HB := n0_; clear n0_; (try clear hb); (try clear hb2); (try clear hk); (try clear hi); (try clear A4)) | (go_at_call 21; (with_reducible refine (ascii_Upper.calls t157 t159 _ A5.out).mono ?_); rintro e w10 ⟨rfl, hb⟩; have n0_ := Aside0.mk (below_step (by repeat (first | (with_reducible first | exact HB.out | apply below_alloc | apply pw_below_drewN | apply below_drew1) | exact HB.out)) hb); clear HB; have HB := n0_; clear n0_; (try clear hb); (try clear hb2); (try clear hk); (try clear hi); (try clear A5)) | (go_at_call 23; (with_reducible refine (ascii_Title.calls t157 t160 _ A6.out).mono ?_); rintro e w11 ⟨rfl, hb⟩; have n0_ := Aside0.mk (below_step (by repeat (first | (with_reducible first | exact HB.out | apply below_alloc | apply pw_below_drewN | apply below_drew1) | exact HB.out)) hb); clear HB; have HB := n0_; clear n0_; (try clear hb); (try clear hb2); (try clear hk); (try clear hi); (try clear A6))); go_upto_region 6 with (first | (go_at_call 17; (with_reducible refine (isoglosslaw02_awake.calls k  t156 _ A2.out).mono ?_); rintro e w8 ⟨rfl, hb⟩; have n0_ := Aside0.mk (below_step (by repeat (first | (with_reducible first | exact HB.out | apply below_alloc | apply pw_below_drewN | apply below_drew1) | exact HB.out)) hb); clear HB; have HB := n0_; clear n0_; (try clear hb); (try clear hb2); (try clear hk); (try clear hi); (try clear A2)) | (go_at_call 18; (with_reducible refine (isoglosslaw02_short.calls a0 t157 _ A3.out).mono ?_); rintro e w' ⟨rfl, ⟨nd, rfl⟩⟩; (try first | exact ⟨rfl, _, World.drewN_drewN _ _ _⟩ | exact ⟨rfl, _, Eq.trans (World.drewN_drewN _ _ _) (congrArg (World.drewN _) (Nat.add_assoc _ _ _))⟩); (try clear A3)) | (go_at_call 22; (with_reducible refine (ascii_Lower.calls t157 t158 _ A4.out).mono ?_); rintro e w9 ⟨rfl, hb⟩; have n0_ := Aside0.mk (below_step (by repeat (first | (with_reducible first | exact HB.out | apply below_alloc | apply pw_below_drewN | apply below_drew1) | exact HB.out)) hb); clear HB; have HB := n0_; clear n0_; (try clear hb); (try clear hb2); (try clear hk); (try clear hi); (try clear A4)) | (go_at_call 21; (with_reducible refine (ascii_Upper.calls t157 t159 _ A5.out).mono ?_); rintro e w10 ⟨rfl, hb⟩; have n0_ := Aside0.mk (below_step (by repeat (first | (with_reducible first | exact HB.out | apply below_alloc | apply pw_below_drewN | apply below_drew1) | exact HB.out)) hb); clear HB; have HB := n0_; clear n0_; (try clear hb); (try clear hb2); (try clear hk); (try clear hi); (try clear A5)) | (go_at_call 23; (with_reducible refine (ascii_Title.calls t157 t160 _ A6.out).mono ?_); rintro e w11 ⟨rfl, hb⟩; have n0_ := Aside0.mk (below_step (by repeat (first | (with_reducible first | exact HB.out | apply below_alloc | apply pw_below_drewN | apply below_drew1) | exact HB.out)) hb); clear HB; have HB := n0_; clear n0_; (try clear hb); (try clear hb2); (try clear hk); (try clear hi); (try clear A6))))
  (try simp only [Act.put, List.setIfInBounds_toArray, List.set_cons_zero, List.set_cons_succ])
  go_cut [35] (fun v35 wc => ∃ (kq : Nat) (x35_6 : Bool), v35 = .bool x35_6 ∧ Aside0 (isoglosslaw02_AsciiCases.j0 kq t157 t156 t158 t159 t160 x35_6 = some r) ∧ Aside0 (kq ≤ k) ∧ Aside0 (Below w.heap.size w wc))
  case first =>
    have H := HC7.out
    clear HC7
    by_cases c12 : (t158.size : Int) = (t157.size : Int)
    · rw [if_pos c12] at H
      have c12b0 : ((t158.size : Int) == (t157.size : Int)) = true := beq_iff_eq.mpr c12
      have c12b1 : ((t158.size : Int) != (t157.size : Int)) = false := bne_eq_false_iff_eq.mpr c12
      have c12b2 : (t158.size == t157.size) = true := by first | simpa using c12 | (simp at c12 ⊢; omega)
      clear c12
      (first | rw [c12b0] | (simp only [i64_w, i32_w]; rw [c12b0]) | rw [c12b2] | skip)
      by_cases c13 : (t159.size : Int) = (t157.size : Int)
      · rw [if_pos c13] at H
        have c13b0 : ((t159.size : Int) == (t157.size : Int)) = true := beq_iff_eq.mpr c13
        have c13b1 : ((t159.size : Int) != (t157.size : Int)) = false := bne_eq_false_iff_eq.mpr c13
        have c13b2 : (t159.size == t157.size) = true := by first | simpa using c13 | (simp at c13 ⊢; omega)
        clear c13
        have H' := Aside0.mk H
        clear H
        go_wp2
        repeat (go_quiet (fail); try go_wp2)
        go_meet
        case rel => exact ⟨_, (((t160.size : Int) != (t157.size : Int))), (by first | rfl | (simp; done) | (simp [*]; done)), H', ⟨by first | omega | exact Nat.le_refl _⟩, ⟨by repeat (first | (with_reducible first | exact HB.out | apply below_alloc | apply pw_below_drewN | apply below_drew1) | exact HB.out)⟩⟩
      · rw [if_neg c13] at H
        have c13b0 : ((t159.size : Int) == (t157.size : Int)) = false := beq_eq_false_iff_ne.mpr c13
        have c13b1 : ((t159.size : Int) != (t157.size : Int)) = true := bne_iff_ne.mpr c13
        have c13b2 : (t159.size == t157.size) = false := by first | simpa using c13 | (simp at c13 ⊢; omega)
        have H' := Aside0.mk H
        clear H
        go_wp2
        repeat (go_quiet (fail); try go_wp2)
        go_meet
        case rel => exact ⟨_, (true), (by first | rfl | (simp; done) | (simp [*]; done)), H', ⟨by first | omega | exact Nat.le_refl _⟩, ⟨by repeat (first | (with_reducible first | exact HB.out | apply below_alloc | apply pw_below_drewN | apply below_drew1) | exact HB.out)⟩⟩
    · rw [if_neg c12] at H
      have c12b0 : ((t158.size : Int) == (t157.size : Int)) = false := beq_eq_false_iff_ne.mpr c12
      have c12b1 : ((t158.size : Int) != (t157.size : Int)) = true := bne_iff_ne.mpr c12
      have c12b2 : (t158.size == t157.size) = false := by first | simpa using c12 | (simp at c12 ⊢; omega)
      (first | rw [c12b0] | (simp only [i64_w, i32_w]; rw [c12b0]) | rw [c12b2] | skip)
      have H' := Aside0.mk H
      clear H
      go_wp2
      repeat (go_quiet (fail); try go_wp2)
      go_meet
      case rel => exact ⟨_, (true), (by first | rfl | (simp; done) | (simp [*]; done)), H', ⟨by first | omega | exact Nat.le_refl _⟩, ⟨by repeat (first | (with_reducible first | exact HB.out | apply below_alloc | apply pw_below_drewN | apply below_drew1) | exact HB.out)⟩⟩
  case rest =>
    clear HC7
    try clear c1
    try clear p2
    try clear c7
    try clear c12
    try clear c12b0
    try clear c12b1
    try clear c12b2
    try clear c13
    try clear c13b0
    try clear c13b1
    try clear c13b2
    obtain ⟨kq, x35_6, rfl, HA, HJ6, HB⟩ := hcut
    cases kq with
    | zero => exact absurd HA.out (by simp [isoglosslaw02_AsciiCases.j0])
    | succ kj6 =>
      have H := HA.out
      clear HA
      simp only [isoglosslaw02_AsciiCases.j0] at H
      by_cases c14 : x35_6 = true
      · subst c14
        have H1 : (some false) = some r := by rw [if_pos rfl] at H; exact H
        clear H
        have H := H1
        clear H1
        obtain rfl := Option.some.inj H
        go_wp2
        repeat (go_quiet (fail); try go_wp2)
        go_ret
        exact ⟨by first | rfl | (simp [errW_none, errW_some] <;> rfl) | (simp [*, errW_none, errW_some] <;> rfl), by repeat (first | (with_reducible first | exact HB.out | apply below_alloc | apply pw_below_drewN | apply below_drew1) | exact HB.out)⟩
      · replace c14 := Bool.eq_false_iff.mpr c14
        subst c14
        have H1 : (isoglosslaw02_AsciiCases.l0 kj6 t157 t156 t158 t159 t160 0) = some r := by rw [if_neg (show ¬ (false = true) by decide)] at H; exact H
        clear H
        have H := H1
        clear H1
        have H' := Aside0.mk H
        clear H
        go_wp2
        repeat (go_quiet (fail); try go_wp2)
        go_loopg [7] kj6 (fun kq v7 w' => ∃ (x7_2 : Int), v7 = .int .i64 x7_2 ∧ Aside0 (isoglosslaw02_AsciiCases.l0 kq t157 t156 t158 t159 t160 x7_2 = some r) ∧ Aside0 (kq ≤ kj6) ∧ Aside0 (Below w.heap.size w w'))
        case atStart => exact ⟨(0), (by first | rfl | (simp; done) | (simp [*]; done)), H', ⟨Nat.le_refl _⟩, ⟨by repeat (first | (with_reducible first | exact HB.out | apply below_alloc | apply pw_below_drewN | apply below_drew1) | exact HB.out)⟩⟩
        case round =>
          clear H'
          try clear c1
          try clear p2
          try clear c7
          try clear c12
          try clear c12b0
          try clear c12b1
          try clear c12b2
          try clear c13
          try clear c13b0
          try clear c13b1
          try clear c13b2
          try clear c14
          try clear p2
          obtain ⟨x7_2, rfl, HA, HK2, HB⟩ := hrel
          cases gk with
          | zero => exact absurd HA.out (by simp [isoglosslaw02_AsciiCases.l0])
          | succ k2 =>
            have H := HA.out
            clear HA
            simp only [isoglosslaw02_AsciiCases.l0] at H
            by_cases c15 : x7_2 < (t157.size : Int)
            · rw [if_pos c15] at H
              have c15b0 : decide (x7_2 < (t157.size : Int)) = true := decide_eq_true c15
              clear c15
              by_cases c16 : 0 ≤ x7_2
              · rw [if_pos c16] at H
                have c16b0 : decide (0 ≤ x7_2) = true := decide_eq_true c16
                clear c16
                by_cases c17 : x7_2 < (t158.size : Int)
                · rw [if_pos c17] at H
                  have c17b0 : decide (x7_2 < (t158.size : Int)) = true := decide_eq_true c17
                  clear c17
                  by_cases c20 : (bt t158 x7_2) = (bt t157 x7_2)
                  · rw [if_pos c20] at H
                    have c20b0 : ((bt t158 x7_2) == (bt t157 x7_2)) = true := beq_iff_eq.mpr c20
                    have c20b1 : ((bt t158 x7_2) != (bt t157 x7_2)) = false := bne_eq_false_iff_eq.mpr c20
                    clear c20
                    by_cases c21 : x7_2 < (t159.size : Int)
                    · rw [if_pos c21] at H
                      have c21b0 : decide (x7_2 < (t159.size : Int)) = true := decide_eq_true c21
                      clear c21
                      by_cases c24 : (bt t159 x7_2) = (bt t157 x7_2)
                      · rw [if_pos c24] at H
                        have c24b0 : ((bt t159 x7_2) == (bt t157 x7_2)) = true := beq_iff_eq.mpr c24
                        have c24b1 : ((bt t159 x7_2) != (bt t157 x7_2)) = false := bne_eq_false_iff_eq.mpr c24
                        clear c24
                        have H' := Aside0.mk H
                        clear H
                        have p18 : 0 ≤ (x7_2 : Int) := of_decide_eq_true (by first | (with_reducible assumption) | assumption)
                        have q18 : x7_2 < (t158.size : Int) := of_decide_eq_true (by first | (with_reducible assumption) | assumption)
                        have hx18 := bt_at t158 x7_2
                        replace p18 := eq_true p18
                        replace q18 := eq_true q18
                        have p19 : 0 ≤ (x7_2 : Int) := of_decide_eq_true (by first | (with_reducible assumption) | assumption)
                        have q19 : x7_2 < (t157.size : Int) := of_decide_eq_true (by first | (with_reducible assumption) | assumption)
                        have hx19 := bt_at t157 x7_2
                        replace p19 := eq_true p19
                        replace q19 := eq_true q19
                        have p22 : 0 ≤ (x7_2 : Int) := of_decide_eq_true (by first | (with_reducible assumption) | assumption)
                        have q22 : x7_2 < (t159.size : Int) := of_decide_eq_true (by first | (with_reducible assumption) | assumption)
                        have hx22 := bt_at t159 x7_2
                        replace p22 := eq_true p22
                        replace q22 := eq_true q22
                        have p23 : 0 ≤ (x7_2 : Int) := of_decide_eq_true (by first | (with_reducible assumption) | assumption)
                        have q23 : x7_2 < (t157.size : Int) := of_decide_eq_true (by first | (with_reducible assumption) | assumption)
                        have hx23 := bt_at t157 x7_2
                        replace p23 := eq_true p23
                        replace q23 := eq_true q23
                        go_wp2
                        repeat (go_quiet (fail); try go_wp2)
                        go_roundg k2
                        case measure => have := HJ6.out; have := HK2.out; omega
                        case rel => exact ⟨(wrap64 (x7_2 + 1)), (by first | rfl | (simp; done) | (simp [*]; done)), H', ⟨by have := HJ6.out; have := HK2.out; omega⟩, ⟨by repeat (first | (with_reducible first | exact HB.out | apply below_alloc | apply pw_below_drewN | apply below_drew1) | exact HB.out)⟩⟩
                      · rw [if_neg c24] at H
                        have c24b0 : ((bt t159 x7_2) == (bt t157 x7_2)) = false := beq_eq_false_iff_ne.mpr c24
                        have c24b1 : ((bt t159 x7_2) != (bt t157 x7_2)) = true := bne_iff_ne.mpr c24
                        by_cases c26 : (bt t157 x7_2) > 127
                        · rw [if_pos c26] at H
                          have c26b0 : decide (127 < (bt t157 x7_2)) = true := decide_eq_true c26
                          clear c26
                          obtain rfl := Option.some.inj H
                          have p18 : 0 ≤ (x7_2 : Int) := of_decide_eq_true (by first | (with_reducible assumption) | assumption)
                          have q18 : x7_2 < (t158.size : Int) := of_decide_eq_true (by first | (with_reducible assumption) | assumption)
                          have hx18 := bt_at t158 x7_2
                          replace p18 := eq_true p18
                          replace q18 := eq_true q18
                          have p19 : 0 ≤ (x7_2 : Int) := of_decide_eq_true (by first | (with_reducible assumption) | assumption)
                          have q19 : x7_2 < (t157.size : Int) := of_decide_eq_true (by first | (with_reducible assumption) | assumption)
                          have hx19 := bt_at t157 x7_2
                          replace p19 := eq_true p19
                          replace q19 := eq_true q19
                          have p22 : 0 ≤ (x7_2 : Int) := of_decide_eq_true (by first | (with_reducible assumption) | assumption)
                          have q22 : x7_2 < (t159.size : Int) := of_decide_eq_true (by first | (with_reducible assumption) | assumption)
                          have hx22 := bt_at t159 x7_2
                          replace p22 := eq_true p22
                          replace q22 := eq_true q22
                          have p23 : 0 ≤ (x7_2 : Int) := of_decide_eq_true (by first | (with_reducible assumption) | assumption)
                          have q23 : x7_2 < (t157.size : Int) := of_decide_eq_true (by first | (with_reducible assumption) | assumption)
                          have hx23 := bt_at t157 x7_2
                          replace p23 := eq_true p23
                          replace q23 := eq_true q23
                          have p25 : 0 ≤ (x7_2 : Int) := of_decide_eq_true (by first | (with_reducible assumption) | assumption)
                          have q25 : x7_2 < (t157.size : Int) := of_decide_eq_true (by first | (with_reducible assumption) | assumption)
                          have hx25 := bt_at t157 x7_2
                          replace p25 := eq_true p25
                          replace q25 := eq_true q25
                          go_wp2
                          repeat (go_quiet (fail); try go_wp2)
                          go_ret
                          exact ⟨by first | rfl | (simp [errW_none, errW_some] <;> rfl) | (simp [*, errW_none, errW_some] <;> rfl), by repeat (first | (with_reducible first | exact HB.out | apply below_alloc | apply pw_below_drewN | apply below_drew1) | exact HB.out)⟩
                        · rw [if_neg c26] at H
                          have c26b0 : decide (127 < (bt t157 x7_2)) = false := decide_eq_false c26
                          clear c26
                          by_cases c29 : (bt t158 x7_2) = (bt t159 x7_2)
                          · rw [if_pos c29] at H
                            have c29b0 : ((bt t158 x7_2) == (bt t159 x7_2)) = true := beq_iff_eq.mpr c29
                            have c29b1 : ((bt t158 x7_2) != (bt t159 x7_2)) = false := bne_eq_false_iff_eq.mpr c29
                            clear c29
                            obtain rfl := Option.some.inj H
                            have p18 : 0 ≤ (x7_2 : Int) := of_decide_eq_true (by first | (with_reducible assumption) | assumption)
                            have q18 : x7_2 < (t158.size : Int) := of_decide_eq_true (by first | (with_reducible assumption) | assumption)
                            have hx18 := bt_at t158 x7_2
                            replace p18 := eq_true p18
                            replace q18 := eq_true q18
                            have p19 : 0 ≤ (x7_2 : Int) := of_decide_eq_true (by first | (with_reducible assumption) | assumption)
                            have q19 : x7_2 < (t157.size : Int) := of_decide_eq_true (by first | (with_reducible assumption) | assumption)
                            have hx19 := bt_at t157 x7_2
                            replace p19 := eq_true p19
                            replace q19 := eq_true q19
                            have p22 : 0 ≤ (x7_2 : Int) := of_decide_eq_true (by first | (with_reducible assumption) | assumption)
                            have q22 : x7_2 < (t159.size : Int) := of_decide_eq_true (by first | (with_reducible assumption) | assumption)
                            have hx22 := bt_at t159 x7_2
                            replace p22 := eq_true p22
                            replace q22 := eq_true q22
                            have p23 : 0 ≤ (x7_2 : Int) := of_decide_eq_true (by first | (with_reducible assumption) | assumption)
                            have q23 : x7_2 < (t157.size : Int) := of_decide_eq_true (by first | (with_reducible assumption) | assumption)
                            have hx23 := bt_at t157 x7_2
                            replace p23 := eq_true p23
                            replace q23 := eq_true q23
                            have p25 : 0 ≤ (x7_2 : Int) := of_decide_eq_true (by first | (with_reducible assumption) | assumption)
                            have q25 : x7_2 < (t157.size : Int) := of_decide_eq_true (by first | (with_reducible assumption) | assumption)
                            have hx25 := bt_at t157 x7_2
                            replace p25 := eq_true p25
                            replace q25 := eq_true q25
                            have p27 : 0 ≤ (x7_2 : Int) := of_decide_eq_true (by first | (with_reducible assumption) | assumption)
                            have q27 : x7_2 < (t158.size : Int) := of_decide_eq_true (by first | (with_reducible assumption) | assumption)
                            have hx27 := bt_at t158 x7_2
                            replace p27 := eq_true p27
                            replace q27 := eq_true q27
                            have p28 : 0 ≤ (x7_2 : Int) := of_decide_eq_true (by first | (with_reducible assumption) | assumption)
                            have q28 : x7_2 < (t159.size : Int) := of_decide_eq_true (by first | (with_reducible assumption) | assumption)
                            have hx28 := bt_at t159 x7_2
                            replace p28 := eq_true p28
                            replace q28 := eq_true q28
                            go_wp2
                            repeat (go_quiet (fail); try go_wp2)
                            go_ret
                            exact ⟨by first | rfl | (simp [errW_none, errW_some] <;> rfl) | (simp [*, errW_none, errW_some] <;> rfl), by repeat (first | (with_reducible first | exact HB.out | apply below_alloc | apply pw_below_drewN | apply below_drew1) | exact HB.out)⟩
                          · rw [if_neg c29] at H
                            have c29b0 : ((bt t158 x7_2) == (bt t159 x7_2)) = false := beq_eq_false_iff_ne.mpr c29
                            have c29b1 : ((bt t158 x7_2) != (bt t159 x7_2)) = true := bne_iff_ne.mpr c29
                            by_cases c32 : (((bt t158 x7_2) - (bt t159 x7_2)) % 256) = 32
                            · rw [if_pos c32] at H
                              have c32b0 : ((((bt t158 x7_2) - (bt t159 x7_2)) % 256) == 32) = true := beq_iff_eq.mpr c32
                              have c32b1 : ((((bt t158 x7_2) - (bt t159 x7_2)) % 256) != 32) = false := bne_eq_false_iff_eq.mpr c32
                              clear c32
                              have H' := Aside0.mk H
                              clear H
                              have p18 : 0 ≤ (x7_2 : Int) := of_decide_eq_true (by first | (with_reducible assumption) | assumption)
                              have q18 : x7_2 < (t158.size : Int) := of_decide_eq_true (by first | (with_reducible assumption) | assumption)
                              have hx18 := bt_at t158 x7_2
                              replace p18 := eq_true p18
                              replace q18 := eq_true q18
                              have p19 : 0 ≤ (x7_2 : Int) := of_decide_eq_true (by first | (with_reducible assumption) | assumption)
                              have q19 : x7_2 < (t157.size : Int) := of_decide_eq_true (by first | (with_reducible assumption) | assumption)
                              have hx19 := bt_at t157 x7_2
                              replace p19 := eq_true p19
                              replace q19 := eq_true q19
                              have p22 : 0 ≤ (x7_2 : Int) := of_decide_eq_true (by first | (with_reducible assumption) | assumption)
                              have q22 : x7_2 < (t159.size : Int) := of_decide_eq_true (by first | (with_reducible assumption) | assumption)
                              have hx22 := bt_at t159 x7_2
                              replace p22 := eq_true p22
                              replace q22 := eq_true q22
                              have p23 : 0 ≤ (x7_2 : Int) := of_decide_eq_true (by first | (with_reducible assumption) | assumption)
                              have q23 : x7_2 < (t157.size : Int) := of_decide_eq_true (by first | (with_reducible assumption) | assumption)
                              have hx23 := bt_at t157 x7_2
                              replace p23 := eq_true p23
                              replace q23 := eq_true q23
                              have p25 : 0 ≤ (x7_2 : Int) := of_decide_eq_true (by first | (with_reducible assumption) | assumption)
                              have q25 : x7_2 < (t157.size : Int) := of_decide_eq_true (by first | (with_reducible assumption) | assumption)
                              have hx25 := bt_at t157 x7_2
                              replace p25 := eq_true p25
                              replace q25 := eq_true q25
                              have p27 : 0 ≤ (x7_2 : Int) := of_decide_eq_true (by first | (with_reducible assumption) | assumption)
                              have q27 : x7_2 < (t158.size : Int) := of_decide_eq_true (by first | (with_reducible assumption) | assumption)
                              have hx27 := bt_at t158 x7_2
                              replace p27 := eq_true p27
                              replace q27 := eq_true q27
                              have p28 : 0 ≤ (x7_2 : Int) := of_decide_eq_true (by first | (with_reducible assumption) | assumption)
                              have q28 : x7_2 < (t159.size : Int) := of_decide_eq_true (by first | (with_reducible assumption) | assumption)
                              have hx28 := bt_at t159 x7_2
                              replace p28 := eq_true p28
                              replace q28 := eq_true q28
                              have p30 : 0 ≤ (x7_2 : Int) := of_decide_eq_true (by first | (with_reducible assumption) | assumption)
                              have q30 : x7_2 < (t158.size : Int) := of_decide_eq_true (by first | (with_reducible assumption) | assumption)
                              have hx30 := bt_at t158 x7_2
                              replace p30 := eq_true p30
                              replace q30 := eq_true q30
                              have p31 : 0 ≤ (x7_2 : Int) := of_decide_eq_true (by first | (with_reducible assumption) | assumption)
                              have q31 : x7_2 < (t159.size : Int) := of_decide_eq_true (by first | (with_reducible assumption) | assumption)
                              have hx31 := bt_at t159 x7_2
                              replace p31 := eq_true p31
                              replace q31 := eq_true q31
                              go_wp2
                              repeat (go_quiet (fail); try go_wp2)
                              go_roundg k2
                              case measure => have := HJ6.out; have := HK2.out; omega
                              case rel => exact ⟨(wrap64 (x7_2 + 1)), (by first | rfl | (simp; done) | (simp [*]; done)), H', ⟨by have := HJ6.out; have := HK2.out; omega⟩, ⟨by repeat (first | (with_reducible first | exact HB.out | apply below_alloc | apply pw_below_drewN | apply below_drew1) | exact HB.out)⟩⟩
                            · rw [if_neg c32] at H
                              have c32b0 : ((((bt t158 x7_2) - (bt t159 x7_2)) % 256) == 32) = false := beq_eq_false_iff_ne.mpr c32
                              have c32b1 : ((((bt t158 x7_2) - (bt t159 x7_2)) % 256) != 32) = true := bne_iff_ne.mpr c32
                              obtain rfl := Option.some.inj H
                              have p18 : 0 ≤ (x7_2 : Int) := of_decide_eq_true (by first | (with_reducible assumption) | assumption)
                              have q18 : x7_2 < (t158.size : Int) := of_decide_eq_true (by first | (with_reducible assumption) | assumption)
                              have hx18 := bt_at t158 x7_2
                              replace p18 := eq_true p18
                              replace q18 := eq_true q18
                              have p19 : 0 ≤ (x7_2 : Int) := of_decide_eq_true (by first | (with_reducible assumption) | assumption)
                              have q19 : x7_2 < (t157.size : Int) := of_decide_eq_true (by first | (with_reducible assumption) | assumption)
                              have hx19 := bt_at t157 x7_2
                              replace p19 := eq_true p19
                              replace q19 := eq_true q19
                              have p22 : 0 ≤ (x7_2 : Int) := of_decide_eq_true (by first | (with_reducible assumption) | assumption)
                              have q22 : x7_2 < (t159.size : Int) := of_decide_eq_true (by first | (with_reducible assumption) | assumption)
                              have hx22 := bt_at t159 x7_2
                              replace p22 := eq_true p22
                              replace q22 := eq_true q22
                              have p23 : 0 ≤ (x7_2 : Int) := of_decide_eq_true (by first | (with_reducible assumption) | assumption)
                              have q23 : x7_2 < (t157.size : Int) := of_decide_eq_true (by first | (with_reducible assumption) | assumption)
                              have hx23 := bt_at t157 x7_2
                              replace p23 := eq_true p23
                              replace q23 := eq_true q23
                              have p25 : 0 ≤ (x7_2 : Int) := of_decide_eq_true (by first | (with_reducible assumption) | assumption)
                              have q25 : x7_2 < (t157.size : Int) := of_decide_eq_true (by first | (with_reducible assumption) | assumption)
                              have hx25 := bt_at t157 x7_2
                              replace p25 := eq_true p25
                              replace q25 := eq_true q25
                              have p27 : 0 ≤ (x7_2 : Int) := of_decide_eq_true (by first | (with_reducible assumption) | assumption)
                              have q27 : x7_2 < (t158.size : Int) := of_decide_eq_true (by first | (with_reducible assumption) | assumption)
                              have hx27 := bt_at t158 x7_2
                              replace p27 := eq_true p27
                              replace q27 := eq_true q27
                              have p28 : 0 ≤ (x7_2 : Int) := of_decide_eq_true (by first | (with_reducible assumption) | assumption)
                              have q28 : x7_2 < (t159.size : Int) := of_decide_eq_true (by first | (with_reducible assumption) | assumption)
                              have hx28 := bt_at t159 x7_2
                              replace p28 := eq_true p28
                              replace q28 := eq_true q28
                              have p30 : 0 ≤ (x7_2 : Int) := of_decide_eq_true (by first | (with_reducible assumption) | assumption)
                              have q30 : x7_2 < (t158.size : Int) := of_decide_eq_true (by first | (with_reducible assumption) | assumption)
                              have hx30 := bt_at t158 x7_2
                              replace p30 := eq_true p30
                              replace q30 := eq_true q30
                              have p31 : 0 ≤ (x7_2 : Int) := of_decide_eq_true (by first | (with_reducible assumption) | assumption)
                              have q31 : x7_2 < (t159.size : Int) := of_decide_eq_true (by first | (with_reducible assumption) | assumption)
                              have hx31 := bt_at t159 x7_2
                              replace p31 := eq_true p31
                              replace q31 := eq_true q31
                              go_wp2
                              repeat (go_quiet (fail); try go_wp2)
                              go_ret
                              exact ⟨by first | rfl | (simp [errW_none, errW_some] <;> rfl) | (simp [*, errW_none, errW_some] <;> rfl), by repeat (first | (with_reducible first | exact HB.out | apply below_alloc | apply pw_below_drewN | apply below_drew1) | exact HB.out)⟩
                    · rw [if_neg c21] at H
                      exact absurd H (by simp)
                  · rw [if_neg c20] at H
                    have c20b0 : ((bt t158 x7_2) == (bt t157 x7_2)) = false := beq_eq_false_iff_ne.mpr c20
                    have c20b1 : ((bt t158 x7_2) != (bt t157 x7_2)) = true := bne_iff_ne.mpr c20
                    by_cases c34 : (bt t157 x7_2) > 127
                    · rw [if_pos c34] at H
                      have c34b0 : decide (127 < (bt t157 x7_2)) = true := decide_eq_true c34
                      clear c34
                      obtain rfl := Option.some.inj H
                      have p18 : 0 ≤ (x7_2 : Int) := of_decide_eq_true (by first | (with_reducible assumption) | assumption)
                      have q18 : x7_2 < (t158.size : Int) := of_decide_eq_true (by first | (with_reducible assumption) | assumption)
                      have hx18 := bt_at t158 x7_2
                      replace p18 := eq_true p18
                      replace q18 := eq_true q18
                      have p19 : 0 ≤ (x7_2 : Int) := of_decide_eq_true (by first | (with_reducible assumption) | assumption)
                      have q19 : x7_2 < (t157.size : Int) := of_decide_eq_true (by first | (with_reducible assumption) | assumption)
                      have hx19 := bt_at t157 x7_2
                      replace p19 := eq_true p19
                      replace q19 := eq_true q19
                      have p33 : 0 ≤ (x7_2 : Int) := of_decide_eq_true (by first | (with_reducible assumption) | assumption)
                      have q33 : x7_2 < (t157.size : Int) := of_decide_eq_true (by first | (with_reducible assumption) | assumption)
                      have hx33 := bt_at t157 x7_2
                      replace p33 := eq_true p33
                      replace q33 := eq_true q33
                      go_wp2
                      repeat (go_quiet (fail); try go_wp2)
                      go_ret
                      exact ⟨by first | rfl | (simp [errW_none, errW_some] <;> rfl) | (simp [*, errW_none, errW_some] <;> rfl), by repeat (first | (with_reducible first | exact HB.out | apply below_alloc | apply pw_below_drewN | apply below_drew1) | exact HB.out)⟩
                    · rw [if_neg c34] at H
                      have c34b0 : decide (127 < (bt t157 x7_2)) = false := decide_eq_false c34
                      clear c34
                      by_cases c36 : x7_2 < (t159.size : Int)
                      · rw [if_pos c36] at H
                        have c36b0 : decide (x7_2 < (t159.size : Int)) = true := decide_eq_true c36
                        clear c36
                        by_cases c38 : (bt t158 x7_2) = (bt t159 x7_2)
                        · rw [if_pos c38] at H
                          have c38b0 : ((bt t158 x7_2) == (bt t159 x7_2)) = true := beq_iff_eq.mpr c38
                          have c38b1 : ((bt t158 x7_2) != (bt t159 x7_2)) = false := bne_eq_false_iff_eq.mpr c38
                          clear c38
                          obtain rfl := Option.some.inj H
                          have p18 : 0 ≤ (x7_2 : Int) := of_decide_eq_true (by first | (with_reducible assumption) | assumption)
                          have q18 : x7_2 < (t158.size : Int) := of_decide_eq_true (by first | (with_reducible assumption) | assumption)
                          have hx18 := bt_at t158 x7_2
                          replace p18 := eq_true p18
                          replace q18 := eq_true q18
                          have p19 : 0 ≤ (x7_2 : Int) := of_decide_eq_true (by first | (with_reducible assumption) | assumption)
                          have q19 : x7_2 < (t157.size : Int) := of_decide_eq_true (by first | (with_reducible assumption) | assumption)
                          have hx19 := bt_at t157 x7_2
                          replace p19 := eq_true p19
                          replace q19 := eq_true q19
                          have p33 : 0 ≤ (x7_2 : Int) := of_decide_eq_true (by first | (with_reducible assumption) | assumption)
                          have q33 : x7_2 < (t157.size : Int) := of_decide_eq_true (by first | (with_reducible assumption) | assumption)
                          have hx33 := bt_at t157 x7_2
                          replace p33 := eq_true p33
                          replace q33 := eq_true q33
                          have p35 : 0 ≤ (x7_2 : Int) := of_decide_eq_true (by first | (with_reducible assumption) | assumption)
                          have q35 : x7_2 < (t158.size : Int) := of_decide_eq_true (by first | (with_reducible assumption) | assumption)
                          have hx35 := bt_at t158 x7_2
                          replace p35 := eq_true p35
                          replace q35 := eq_true q35
                          have p37 : 0 ≤ (x7_2 : Int) := of_decide_eq_true (by first | (with_reducible assumption) | assumption)
                          have q37 : x7_2 < (t159.size : Int) := of_decide_eq_true (by first | (with_reducible assumption) | assumption)
                          have hx37 := bt_at t159 x7_2
                          replace p37 := eq_true p37
                          replace q37 := eq_true q37
                          go_wp2
                          repeat (go_quiet (fail); try go_wp2)
                          go_ret
                          exact ⟨by first | rfl | (simp [errW_none, errW_some] <;> rfl) | (simp [*, errW_none, errW_some] <;> rfl), by repeat (first | (with_reducible first | exact HB.out | apply below_alloc | apply pw_below_drewN | apply below_drew1) | exact HB.out)⟩
                        · rw [if_neg c38] at H
                          have c38b0 : ((bt t158 x7_2) == (bt t159 x7_2)) = false := beq_eq_false_iff_ne.mpr c38
                          have c38b1 : ((bt t158 x7_2) != (bt t159 x7_2)) = true := bne_iff_ne.mpr c38
                          by_cases c41 : (((bt t158 x7_2) - (bt t159 x7_2)) % 256) = 32
                          · rw [if_pos c41] at H
                            have c41b0 : ((((bt t158 x7_2) - (bt t159 x7_2)) % 256) == 32) = true := beq_iff_eq.mpr c41
                            have c41b1 : ((((bt t158 x7_2) - (bt t159 x7_2)) % 256) != 32) = false := bne_eq_false_iff_eq.mpr c41
                            clear c41
                            have H' := Aside0.mk H
                            clear H
                            have p18 : 0 ≤ (x7_2 : Int) := of_decide_eq_true (by first | (with_reducible assumption) | assumption)
                            have q18 : x7_2 < (t158.size : Int) := of_decide_eq_true (by first | (with_reducible assumption) | assumption)
                            have hx18 := bt_at t158 x7_2
                            replace p18 := eq_true p18
                            replace q18 := eq_true q18
                            have p19 : 0 ≤ (x7_2 : Int) := of_decide_eq_true (by first | (with_reducible assumption) | assumption)
                            have q19 : x7_2 < (t157.size : Int) := of_decide_eq_true (by first | (with_reducible assumption) | assumption)
                            have hx19 := bt_at t157 x7_2
                            replace p19 := eq_true p19
                            replace q19 := eq_true q19
                            have p33 : 0 ≤ (x7_2 : Int) := of_decide_eq_true (by first | (with_reducible assumption) | assumption)
                            have q33 : x7_2 < (t157.size : Int) := of_decide_eq_true (by first | (with_reducible assumption) | assumption)
                            have hx33 := bt_at t157 x7_2
                            replace p33 := eq_true p33
                            replace q33 := eq_true q33
                            have p35 : 0 ≤ (x7_2 : Int) := of_decide_eq_true (by first | (with_reducible assumption) | assumption)
                            have q35 : x7_2 < (t158.size : Int) := of_decide_eq_true (by first | (with_reducible assumption) | assumption)
                            have hx35 := bt_at t158 x7_2
                            replace p35 := eq_true p35
                            replace q35 := eq_true q35
                            have p37 : 0 ≤ (x7_2 : Int) := of_decide_eq_true (by first | (with_reducible assumption) | assumption)
                            have q37 : x7_2 < (t159.size : Int) := of_decide_eq_true (by first | (with_reducible assumption) | assumption)
                            have hx37 := bt_at t159 x7_2
                            replace p37 := eq_true p37
                            replace q37 := eq_true q37
                            have p39 : 0 ≤ (x7_2 : Int) := of_decide_eq_true (by first | (with_reducible assumption) | assumption)
                            have q39 : x7_2 < (t158.size : Int) := of_decide_eq_true (by first | (with_reducible assumption) | assumption)
                            have hx39 := bt_at t158 x7_2
                            replace p39 := eq_true p39
                            replace q39 := eq_true q39
                            have p40 : 0 ≤ (x7_2 : Int) := of_decide_eq_true (by first | (with_reducible assumption) | assumption)
                            have q40 : x7_2 < (t159.size : Int) := of_decide_eq_true (by first | (with_reducible assumption) | assumption)
                            have hx40 := bt_at t159 x7_2
                            replace p40 := eq_true p40
                            replace q40 := eq_true q40
                            go_wp2
                            repeat (go_quiet (fail); try go_wp2)
                            go_roundg k2
                            case measure => have := HJ6.out; have := HK2.out; omega
                            case rel => exact ⟨(wrap64 (x7_2 + 1)), (by first | rfl | (simp; done) | (simp [*]; done)), H', ⟨by have := HJ6.out; have := HK2.out; omega⟩, ⟨by repeat (first | (with_reducible first | exact HB.out | apply below_alloc | apply pw_below_drewN | apply below_drew1) | exact HB.out)⟩⟩
                          · rw [if_neg c41] at H
                            have c41b0 : ((((bt t158 x7_2) - (bt t159 x7_2)) % 256) == 32) = false := beq_eq_false_iff_ne.mpr c41
                            have c41b1 : ((((bt t158 x7_2) - (bt t159 x7_2)) % 256) != 32) = true := bne_iff_ne.mpr c41
                            obtain rfl := Option.some.inj H
                            have p18 : 0 ≤ (x7_2 : Int) := of_decide_eq_true (by first | (with_reducible assumption) | assumption)
                            have q18 : x7_2 < (t158.size : Int) := of_decide_eq_true (by first | (with_reducible assumption) | assumption)
                            have hx18 := bt_at t158 x7_2
                            replace p18 := eq_true p18
                            replace q18 := eq_true q18
                            have p19 : 0 ≤ (x7_2 : Int) := of_decide_eq_true (by first | (with_reducible assumption) | assumption)
                            have q19 : x7_2 < (t157.size : Int) := of_decide_eq_true (by first | (with_reducible assumption) | assumption)
                            have hx19 := bt_at t157 x7_2
                            replace p19 := eq_true p19
                            replace q19 := eq_true q19
                            have p33 : 0 ≤ (x7_2 : Int) := of_decide_eq_true (by first | (with_reducible assumption) | assumption)
                            have q33 : x7_2 < (t157.size : Int) := of_decide_eq_true (by first | (with_reducible assumption) | assumption)
                            have hx33 := bt_at t157 x7_2
                            replace p33 := eq_true p33
                            replace q33 := eq_true q33
                            have p35 : 0 ≤ (x7_2 : Int) := of_decide_eq_true (by first | (with_reducible assumption) | assumption)
                            have q35 : x7_2 < (t158.size : Int) := of_decide_eq_true (by first | (with_reducible assumption) | assumption)
                            have hx35 := bt_at t158 x7_2
                            replace p35 := eq_true p35
                            replace q35 := eq_true q35
                            have p37 : 0 ≤ (x7_2 : Int) := of_decide_eq_true (by first | (with_reducible assumption) | assumption)
                            have q37 : x7_2 < (t159.size : Int) := of_decide_eq_true (by first | (with_reducible assumption) | assumption)
                            have hx37 := bt_at t159 x7_2
                            replace p37 := eq_true p37
                            replace q37 := eq_true q37
                            have p39 : 0 ≤ (x7_2 : Int) := of_decide_eq_true (by first | (with_reducible assumption) | assumption)
                            have q39 : x7_2 < (t158.size : Int) := of_decide_eq_true (by first | (with_reducible assumption) | assumption)
                            have hx39 := bt_at t158 x7_2
                            replace p39 := eq_true p39
                            replace q39 := eq_true q39
                            have p40 : 0 ≤ (x7_2 : Int) := of_decide_eq_true (by first | (with_reducible assumption) | assumption)
                            have q40 : x7_2 < (t159.size : Int) := of_decide_eq_true (by first | (with_reducible assumption) | assumption)
                            have hx40 := bt_at t159 x7_2
                            replace p40 := eq_true p40
                            replace q40 := eq_true q40
                            go_wp2
                            repeat (go_quiet (fail); try go_wp2)
                            go_ret
                            exact ⟨by first | rfl | (simp [errW_none, errW_some] <;> rfl) | (simp [*, errW_none, errW_some] <;> rfl), by repeat (first | (with_reducible first | exact HB.out | apply below_alloc | apply pw_below_drewN | apply below_drew1) | exact HB.out)⟩
                      · rw [if_neg c36] at H
                        exact absurd H (by simp)
                · rw [if_neg c17] at H
                  exact absurd H (by simp)
              · rw [if_neg c16] at H
                exact absurd H (by simp)
            · rw [if_neg c15] at H
              have c15b0 : decide (x7_2 < (t157.size : Int)) = false := decide_eq_false c15
              clear c15
              by_cases c42 : t156 = true
              · subst c42
                have H1 : ((ascii_Lower.f t159).bind fun t161 => (if t161.toList = t158.toList then ((ascii_Upper.f t158).bind fun t162 => (if t162.toList = t159.toList then ((ascii_Title.f t160).bind fun t163 => (if t163.toList = t160.toList then ((ascii_Lower.f t160).bind fun t164 => (if t164.toList = t158.toList then ((ascii_Class.f k2 t158).bind fun t165 => ((ascii_Class.f k2 t157).bind fun t166 => (if t165 = t166 then ((ascii_Class.f k2 t159).bind fun t167 => ((ascii_Class.f k2 t157).bind fun t168 => (some (t167 == t168)))) else (some false)))) else (some false))) else (some false))) else (some false))) else (some false))) = some r := by rw [if_pos rfl] at H; exact H
                clear H
                have H := H1
                clear H1
                replace H := Option.bind_eq_some_iff.mp H
                obtain ⟨t161, A430, H⟩ := H
                replace H : (if t161.toList = t158.toList then ((ascii_Upper.f t158).bind fun t162 => (if t162.toList = t159.toList then ((ascii_Title.f t160).bind fun t163 => (if t163.toList = t160.toList then ((ascii_Lower.f t160).bind fun t164 => (if t164.toList = t158.toList then ((ascii_Class.f k2 t158).bind fun t165 => ((ascii_Class.f k2 t157).bind fun t166 => (if t165 = t166 then ((ascii_Class.f k2 t159).bind fun t167 => ((ascii_Class.f k2 t157).bind fun t168 => (some (t167 == t168)))) else (some false)))) else (some false))) else (some false))) else (some false))) else (some false)) = some r := H
                have A43 := Aside0.mk A430
                clear A430
                by_cases c44 : t161.toList = t158.toList
                · rw [if_pos c44] at H
                  have c44b0 : (t161.toList == t158.toList) = true := beq_iff_eq.mpr c44
                  have c44b1 : (t161.toList != t158.toList) = false := bne_eq_false_iff_eq.mpr c44
                  clear c44
                  replace H := Option.bind_eq_some_iff.mp H
                  obtain ⟨t162, A450, H⟩ := H
                  replace H : (if t162.toList = t159.toList then ((ascii_Title.f t160).bind fun t163 => (if t163.toList = t160.toList then ((ascii_Lower.f t160).bind fun t164 => (if t164.toList = t158.toList then ((ascii_Class.f k2 t158).bind fun t165 => ((ascii_Class.f k2 t157).bind fun t166 => (if t165 = t166 then ((ascii_Class.f k2 t159).bind fun t167 => ((ascii_Class.f k2 t157).bind fun t168 => (some (t167 == t168)))) else (some false)))) else (some false))) else (some false))) else (some false)) = some r := H
                  have A45 := Aside0.mk A450
                  clear A450
                  by_cases c46 : t162.toList = t159.toList
                  · rw [if_pos c46] at H
                    have c46b0 : (t162.toList == t159.toList) = true := beq_iff_eq.mpr c46
                    have c46b1 : (t162.toList != t159.toList) = false := bne_eq_false_iff_eq.mpr c46
                    clear c46
                    replace H := Option.bind_eq_some_iff.mp H
                    obtain ⟨t163, A470, H⟩ := H
                    replace H : (if t163.toList = t160.toList then ((ascii_Lower.f t160).bind fun t164 => (if t164.toList = t158.toList then ((ascii_Class.f k2 t158).bind fun t165 => ((ascii_Class.f k2 t157).bind fun t166 => (if t165 = t166 then ((ascii_Class.f k2 t159).bind fun t167 => ((ascii_Class.f k2 t157).bind fun t168 => (some (t167 == t168)))) else (some false)))) else (some false))) else (some false)) = some r := H
                    have A47 := Aside0.mk A470
                    clear A470
                    by_cases c48 : t163.toList = t160.toList
                    · rw [if_pos c48] at H
                      have c48b0 : (t163.toList == t160.toList) = true := beq_iff_eq.mpr c48
                      have c48b1 : (t163.toList != t160.toList) = false := bne_eq_false_iff_eq.mpr c48
                      clear c48
                      replace H := Option.bind_eq_some_iff.mp H
                      obtain ⟨t164, A490, H⟩ := H
                      replace H : (if t164.toList = t158.toList then ((ascii_Class.f k2 t158).bind fun t165 => ((ascii_Class.f k2 t157).bind fun t166 => (if t165 = t166 then ((ascii_Class.f k2 t159).bind fun t167 => ((ascii_Class.f k2 t157).bind fun t168 => (some (t167 == t168)))) else (some false)))) else (some false)) = some r := H
                      have A49 := Aside0.mk A490
                      clear A490
                      by_cases c50 : t164.toList = t158.toList
                      · rw [if_pos c50] at H
                        have c50b0 : (t164.toList == t158.toList) = true := beq_iff_eq.mpr c50
                        have c50b1 : (t164.toList != t158.toList) = false := bne_eq_false_iff_eq.mpr c50
                        clear c50
                        replace H := Option.bind_eq_some_iff.mp H
                        obtain ⟨t165, A510, H⟩ := H
                        replace H : ((ascii_Class.f k2 t157).bind fun t166 => (if t165 = t166 then ((ascii_Class.f k2 t159).bind fun t167 => ((ascii_Class.f k2 t157).bind fun t168 => (some (t167 == t168)))) else (some false))) = some r := H
                        have A51 := Aside0.mk A510
                        clear A510
                        replace H := Option.bind_eq_some_iff.mp H
                        obtain ⟨t166, A520, H⟩ := H
                        replace H : (if t165 = t166 then ((ascii_Class.f k2 t159).bind fun t167 => ((ascii_Class.f k2 t157).bind fun t168 => (some (t167 == t168)))) else (some false)) = some r := H
                        have A52 := Aside0.mk A520
                        clear A520
                        by_cases c53 : t165 = t166
                        · rw [if_pos c53] at H
                          have c53b0 : (t165 == t166) = true := beq_iff_eq.mpr c53
                          have c53b1 : (t165 != t166) = false := bne_eq_false_iff_eq.mpr c53
                          clear c53
                          replace H := Option.bind_eq_some_iff.mp H
                          obtain ⟨t167, A540, H⟩ := H
                          replace H : ((ascii_Class.f k2 t157).bind fun t168 => (some (t167 == t168))) = some r := H
                          have A54 := Aside0.mk A540
                          clear A540
                          replace H := Option.bind_eq_some_iff.mp H
                          obtain ⟨t168, A550, H⟩ := H
                          replace H : (some (t167 == t168)) = some r := H
                          have A55 := Aside0.mk A550
                          clear A550
                          obtain rfl := Option.some.inj H
                          go_wp2_with (first | (go_at_call 22; (with_reducible refine (ascii_Lower.calls t159 t161 _ A43.out).mono ?_); rintro e w56 ⟨rfl, hb⟩; have n0_ := Aside0.mk (below_step (by repeat (first | (with_reducible first | exact HB.out | apply below_alloc | apply pw_below_drewN | apply below_drew1) | exact HB.out)) hb); clear HB; have HB := n0_; clear n0_; (try clear hb); (try clear hb2); (try clear hk); (try clear hi); (try clear A43)) | (go_at_call 21; (with_reducible refine (ascii_Upper.calls t158 t162 _ A45.out).mono ?_); rintro e w57 ⟨rfl, hb⟩; have n0_ := Aside0.mk (below_step (by repeat (first | (with_reducible first | exact HB.out | apply below_alloc | apply pw_below_drewN | apply below_drew1) | exact HB.out)) hb); clear HB; have HB := n0_; clear n0_; (try clear hb); (try clear hb2); (try clear hk); (try clear hi); (try clear A45)) | (go_at_call 23; (with_reducible refine (ascii_Title.calls t160 t163 _ A47.out).mono ?_); rintro e w58 ⟨rfl, hb⟩; have n0_ := Aside0.mk (below_step (by repeat (first | (with_reducible first | exact HB.out | apply below_alloc | apply pw_below_drewN | apply below_drew1) | exact HB.out)) hb); clear HB; have HB := n0_; clear n0_; (try clear hb); (try clear hb2); (try clear hk); (try clear hi); (try clear A47)) | (go_at_call 22; (with_reducible refine (ascii_Lower.calls t160 t164 _ A49.out).mono ?_); rintro e w59 ⟨rfl, hb⟩; have n0_ := Aside0.mk (below_step (by repeat (first | (with_reducible first | exact HB.out | apply below_alloc | apply pw_below_drewN | apply below_drew1) | exact HB.out)) hb); clear HB; have HB := n0_; clear n0_; (try clear hb); (try clear hb2); (try clear hk); (try clear hi); (try clear A49)) | (go_at_call 24; (with_reducible refine (ascii_Class.calls k2 t158 t165 _ A51.out).mono ?_); rintro e w' ⟨rfl, ⟨nd, rfl⟩⟩; (try first | exact ⟨rfl, _, World.drewN_drewN _ _ _⟩ | exact ⟨rfl, _, Eq.trans (World.drewN_drewN _ _ _) (congrArg (World.drewN _) (Nat.add_assoc _ _ _))⟩); (try clear A51)) | (go_at_call 24; (with_reducible refine (ascii_Class.calls k2 t157 t166 _ A52.out).mono ?_); rintro e w' ⟨rfl, ⟨nd, rfl⟩⟩; (try first | exact ⟨rfl, _, World.drewN_drewN _ _ _⟩ | exact ⟨rfl, _, Eq.trans (World.drewN_drewN _ _ _) (congrArg (World.drewN _) (Nat.add_assoc _ _ _))⟩); (try clear A52)) | (go_at_call 24; (with_reducible refine (ascii_Class.calls k2 t159 t167 _ A54.out).mono ?_); rintro e w' ⟨rfl, ⟨nd, rfl⟩⟩; (try first | exact ⟨rfl, _, World.drewN_drewN _ _ _⟩ | exact ⟨rfl, _, Eq.trans (World.drewN_drewN _ _ _) (congrArg (World.drewN _) (Nat.add_assoc _ _ _))⟩); (try clear A54)) | (go_at_call 24; (with_reducible refine (ascii_Class.calls k2 t157 t168 _ A55.out).mono ?_); rintro e w' ⟨rfl, ⟨nd, rfl⟩⟩; (try first | exact ⟨rfl, _, World.drewN_drewN _ _ _⟩ | exact ⟨rfl, _, Eq.trans (World.drewN_drewN _ _ _) (congrArg (World.drewN _) (Nat.add_assoc _ _ _))⟩); (try clear A55)))
                          repeat (go_quiet (first | (go_at_call 22; (with_reducible refine (ascii_Lower.calls t159 t161 _ A43.out).mono ?_); rintro e w56 ⟨rfl, hb⟩; have n0_ := Aside0.mk (below_step (by repeat (first | (with_reducible first | exact HB.out | apply below_alloc | apply pw_below_drewN | apply below_drew1) | exact HB.out)) hb); clear HB; have HB := n0_; clear n0_; (try clear hb); (try clear hb2); (try clear hk); (try clear hi); (try clear A43)) | (go_at_call 21; (with_reducible refine (ascii_Upper.calls t158 t162 _ A45.out).mono ?_); rintro e w57 ⟨rfl, hb⟩; have n0_ := Aside0.mk (below_step (by repeat (first | (with_reducible first | exact HB.out | apply below_alloc | apply pw_below_drewN | apply below_drew1) | exact HB.out)) hb); clear HB; have HB := n0_; clear n0_; (try clear hb); (try clear hb2); (try clear hk); (try clear hi); (try clear A45)) | (go_at_call 23; (with_reducible refine (ascii_Title.calls t160 t163 _ A47.out).mono ?_); rintro e w58 ⟨rfl, hb⟩; have n0_ := Aside0.mk (below_step (by repeat (first | (with_reducible first | exact HB.out | apply below_alloc | apply pw_below_drewN | apply below_drew1) | exact HB.out)) hb); clear HB; have HB := n0_; clear n0_; (try clear hb); (try clear hb2); (try clear hk); (try clear hi); (try clear A47)) | (go_at_call 22; (with_reducible refine (ascii_Lower.calls t160 t164 _ A49.out).mono ?_); rintro e w59 ⟨rfl, hb⟩; have n0_ := Aside0.mk (below_step (by repeat (first | (with_reducible first | exact HB.out | apply below_alloc | apply pw_below_drewN | apply below_drew1) | exact HB.out)) hb); clear HB; have HB := n0_; clear n0_; (try clear hb); (try clear hb2); (try clear hk); (try clear hi); (try clear A49)) | (go_at_call 24; (with_reducible refine (ascii_Class.calls k2 t158 t165 _ A51.out).mono ?_); rintro e w' ⟨rfl, ⟨nd, rfl⟩⟩; (try first | exact ⟨rfl, _, World.drewN_drewN _ _ _⟩ | exact ⟨rfl, _, Eq.trans (World.drewN_drewN _ _ _) (congrArg (World.drewN _) (Nat.add_assoc _ _ _))⟩); (try clear A51)) | (go_at_call 24; (with_reducible refine (ascii_Class.calls k2 t157 t166 _ A52.out).mono ?_); rintro e w' ⟨rfl, ⟨nd, rfl⟩⟩; (try first | exact ⟨rfl, _, World.drewN_drewN _ _ _⟩ | exact ⟨rfl, _, Eq.trans (World.drewN_drewN _ _ _) (congrArg (World.drewN _) (Nat.add_assoc _ _ _))⟩); (try clear A52)) | (go_at_call 24; (with_reducible refine (ascii_Class.calls k2 t159 t167 _ A54.out).mono ?_); rintro e w' ⟨rfl, ⟨nd, rfl⟩⟩; (try first | exact ⟨rfl, _, World.drewN_drewN _ _ _⟩ | exact ⟨rfl, _, Eq.trans (World.drewN_drewN _ _ _) (congrArg (World.drewN _) (Nat.add_assoc _ _ _))⟩); (try clear A54)) | (go_at_call 24; (with_reducible refine (ascii_Class.calls k2 t157 t168 _ A55.out).mono ?_); rintro e w' ⟨rfl, ⟨nd, rfl⟩⟩; (try first | exact ⟨rfl, _, World.drewN_drewN _ _ _⟩ | exact ⟨rfl, _, Eq.trans (World.drewN_drewN _ _ _) (congrArg (World.drewN _) (Nat.add_assoc _ _ _))⟩); (try clear A55))); try go_wp2_with (first | (go_at_call 22; (with_reducible refine (ascii_Lower.calls t159 t161 _ A43.out).mono ?_); rintro e w56 ⟨rfl, hb⟩; have n0_ := Aside0.mk (below_step (by repeat (first | (with_reducible first | exact HB.out | apply below_alloc | apply pw_below_drewN | apply below_drew1) | exact HB.out)) hb); clear HB; have HB := n0_; clear n0_; (try clear hb); (try clear hb2); (try clear hk); (try clear hi); (try clear A43)) | (go_at_call 21; (with_reducible refine (ascii_Upper.calls t158 t162 _ A45.out).mono ?_); rintro e w57 ⟨rfl, hb⟩; have n0_ := Aside0.mk (below_step (by repeat (first | (with_reducible first | exact HB.out | apply below_alloc | apply pw_below_drewN | apply below_drew1) | exact HB.out)) hb); clear HB; have HB := n0_; clear n0_; (try clear hb); (try clear hb2); (try clear hk); (try clear hi); (try clear A45)) | (go_at_call 23; (with_reducible refine (ascii_Title.calls t160 t163 _ A47.out).mono ?_); rintro e w58 ⟨rfl, hb⟩; have n0_ := Aside0.mk (below_step (by repeat (first | (with_reducible first | exact HB.out | apply below_alloc | apply pw_below_drewN | apply below_drew1) | exact HB.out)) hb); clear HB; have HB := n0_; clear n0_; (try clear hb); (try clear hb2); (try clear hk); (try clear hi); (try clear A47)) | (go_at_call 22; (with_reducible refine (ascii_Lower.calls t160 t164 _ A49.out).mono ?_); rintro e w59 ⟨rfl, hb⟩; have n0_ := Aside0.mk (below_step (by repeat (first | (with_reducible first | exact HB.out | apply below_alloc | apply pw_below_drewN | apply below_drew1) | exact HB.out)) hb); clear HB; have HB := n0_; clear n0_; (try clear hb); (try clear hb2); (try clear hk); (try clear hi); (try clear A49)) | (go_at_call 24; (with_reducible refine (ascii_Class.calls k2 t158 t165 _ A51.out).mono ?_); rintro e w' ⟨rfl, ⟨nd, rfl⟩⟩; (try first | exact ⟨rfl, _, World.drewN_drewN _ _ _⟩ | exact ⟨rfl, _, Eq.trans (World.drewN_drewN _ _ _) (congrArg (World.drewN _) (Nat.add_assoc _ _ _))⟩); (try clear A51)) | (go_at_call 24; (with_reducible refine (ascii_Class.calls k2 t157 t166 _ A52.out).mono ?_); rintro e w' ⟨rfl, ⟨nd, rfl⟩⟩; (try first | exact ⟨rfl, _, World.drewN_drewN _ _ _⟩ | exact ⟨rfl, _, Eq.trans (World.drewN_drewN _ _ _) (congrArg (World.drewN _) (Nat.add_assoc _ _ _))⟩); (try clear A52)) | (go_at_call 24; (with_reducible refine (ascii_Class.calls k2 t159 t167 _ A54.out).mono ?_); rintro e w' ⟨rfl, ⟨nd, rfl⟩⟩; (try first | exact ⟨rfl, _, World.drewN_drewN _ _ _⟩ | exact ⟨rfl, _, Eq.trans (World.drewN_drewN _ _ _) (congrArg (World.drewN _) (Nat.add_assoc _ _ _))⟩); (try clear A54)) | (go_at_call 24; (with_reducible refine (ascii_Class.calls k2 t157 t168 _ A55.out).mono ?_); rintro e w' ⟨rfl, ⟨nd, rfl⟩⟩; (try first | exact ⟨rfl, _, World.drewN_drewN _ _ _⟩ | exact ⟨rfl, _, Eq.trans (World.drewN_drewN _ _ _) (congrArg (World.drewN _) (Nat.add_assoc _ _ _))⟩); (try clear A55))))
                          go_ret
                          exact ⟨by first | rfl | (simp [errW_none, errW_some] <;> rfl) | (simp [*, errW_none, errW_some] <;> rfl), by repeat (first | (with_reducible first | exact HB.out | apply below_alloc | apply pw_below_drewN | apply below_drew1) | exact HB.out)⟩
                        · rw [if_neg c53] at H
                          have c53b0 : (t165 == t166) = false := beq_eq_false_iff_ne.mpr c53
                          have c53b1 : (t165 != t166) = true := bne_iff_ne.mpr c53
                          obtain rfl := Option.some.inj H
                          go_wp2_with (first | (go_at_call 22; (with_reducible refine (ascii_Lower.calls t159 t161 _ A43.out).mono ?_); rintro e w60 ⟨rfl, hb⟩; have n0_ := Aside0.mk (below_step (by repeat (first | (with_reducible first | exact HB.out | apply below_alloc | apply pw_below_drewN | apply below_drew1) | exact HB.out)) hb); clear HB; have HB := n0_; clear n0_; (try clear hb); (try clear hb2); (try clear hk); (try clear hi); (try clear A43)) | (go_at_call 21; (with_reducible refine (ascii_Upper.calls t158 t162 _ A45.out).mono ?_); rintro e w61 ⟨rfl, hb⟩; have n0_ := Aside0.mk (below_step (by repeat (first | (with_reducible first | exact HB.out | apply below_alloc | apply pw_below_drewN | apply below_drew1) | exact HB.out)) hb); clear HB; have HB := n0_; clear n0_; (try clear hb); (try clear hb2); (try clear hk); (try clear hi); (try clear A45)) | (go_at_call 23; (with_reducible refine (ascii_Title.calls t160 t163 _ A47.out).mono ?_); rintro e w62 ⟨rfl, hb⟩; have n0_ := Aside0.mk (below_step (by repeat (first | (with_reducible first | exact HB.out | apply below_alloc | apply pw_below_drewN | apply below_drew1) | exact HB.out)) hb); clear HB; have HB := n0_; clear n0_; (try clear hb); (try clear hb2); (try clear hk); (try clear hi); (try clear A47)) | (go_at_call 22; (with_reducible refine (ascii_Lower.calls t160 t164 _ A49.out).mono ?_); rintro e w63 ⟨rfl, hb⟩; have n0_ := Aside0.mk (below_step (by repeat (first | (with_reducible first | exact HB.out | apply below_alloc | apply pw_below_drewN | apply below_drew1) | exact HB.out)) hb); clear HB; have HB := n0_; clear n0_; (try clear hb); (try clear hb2); (try clear hk); (try clear hi); (try clear A49)) | (go_at_call 24; (with_reducible refine (ascii_Class.calls k2 t158 t165 _ A51.out).mono ?_); rintro e w' ⟨rfl, ⟨nd, rfl⟩⟩; (try first | exact ⟨rfl, _, World.drewN_drewN _ _ _⟩ | exact ⟨rfl, _, Eq.trans (World.drewN_drewN _ _ _) (congrArg (World.drewN _) (Nat.add_assoc _ _ _))⟩); (try clear A51)) | (go_at_call 24; (with_reducible refine (ascii_Class.calls k2 t157 t166 _ A52.out).mono ?_); rintro e w' ⟨rfl, ⟨nd, rfl⟩⟩; (try first | exact ⟨rfl, _, World.drewN_drewN _ _ _⟩ | exact ⟨rfl, _, Eq.trans (World.drewN_drewN _ _ _) (congrArg (World.drewN _) (Nat.add_assoc _ _ _))⟩); (try clear A52)))
                          repeat (go_quiet (first | (go_at_call 22; (with_reducible refine (ascii_Lower.calls t159 t161 _ A43.out).mono ?_); rintro e w60 ⟨rfl, hb⟩; have n0_ := Aside0.mk (below_step (by repeat (first | (with_reducible first | exact HB.out | apply below_alloc | apply pw_below_drewN | apply below_drew1) | exact HB.out)) hb); clear HB; have HB := n0_; clear n0_; (try clear hb); (try clear hb2); (try clear hk); (try clear hi); (try clear A43)) | (go_at_call 21; (with_reducible refine (ascii_Upper.calls t158 t162 _ A45.out).mono ?_); rintro e w61 ⟨rfl, hb⟩; have n0_ := Aside0.mk (below_step (by repeat (first | (with_reducible first | exact HB.out | apply below_alloc | apply pw_below_drewN | apply below_drew1) | exact HB.out)) hb); clear HB; have HB := n0_; clear n0_; (try clear hb); (try clear hb2); (try clear hk); (try clear hi); (try clear A45)) | (go_at_call 23; (with_reducible refine (ascii_Title.calls t160 t163 _ A47.out).mono ?_); rintro e w62 ⟨rfl, hb⟩; have n0_ := Aside0.mk (below_step (by repeat (first | (with_reducible first | exact HB.out | apply below_alloc | apply pw_below_drewN | apply below_drew1) | exact HB.out)) hb); clear HB; have HB := n0_; clear n0_; (try clear hb); (try clear hb2); (try clear hk); (try clear hi); (try clear A47)) | (go_at_call 22; (with_reducible refine (ascii_Lower.calls t160 t164 _ A49.out).mono ?_); rintro e w63 ⟨rfl, hb⟩; have n0_ := Aside0.mk (below_step (by repeat (first | (with_reducible first | exact HB.out | apply below_alloc | apply pw_below_drewN | apply below_drew1) | exact HB.out)) hb); clear HB; have HB := n0_; clear n0_; (try clear hb); (try clear hb2); (try clear hk); (try clear hi); (try clear A49)) | (go_at_call 24; (with_reducible refine (ascii_Class.calls k2 t158 t165 _ A51.out).mono ?_); rintro e w' ⟨rfl, ⟨nd, rfl⟩⟩; (try first | exact ⟨rfl, _, World.drewN_drewN _ _ _⟩ | exact ⟨rfl, _, Eq.trans (World.drewN_drewN _ _ _) (congrArg (World.drewN _) (Nat.add_assoc _ _ _))⟩); (try clear A51)) | (go_at_call 24; (with_reducible refine (ascii_Class.calls k2 t157 t166 _ A52.out).mono ?_); rintro e w' ⟨rfl, ⟨nd, rfl⟩⟩; (try first | exact ⟨rfl, _, World.drewN_drewN _ _ _⟩ | exact ⟨rfl, _, Eq.trans (World.drewN_drewN _ _ _) (congrArg (World.drewN _) (Nat.add_assoc _ _ _))⟩); (try clear A52))); try go_wp2_with (first | (go_at_call 22; (with_reducible refine (ascii_Lower.calls t159 t161 _ A43.out).mono ?_); rintro e w60 ⟨rfl, hb⟩; have n0_ := Aside0.mk (below_step (by repeat (first | (with_reducible first | exact HB.out | apply below_alloc | apply pw_below_drewN | apply below_drew1) | exact HB.out)) hb); clear HB; have HB := n0_; clear n0_; (try clear hb); (try clear hb2); (try clear hk); (try clear hi); (try clear A43)) | (go_at_call 21; (with_reducible refine (ascii_Upper.calls t158 t162 _ A45.out).mono ?_); rintro e w61 ⟨rfl, hb⟩; have n0_ := Aside0.mk (below_step (by repeat (first | (with_reducible first | exact HB.out | apply below_alloc | apply pw_below_drewN | apply below_drew1) | exact HB.out)) hb); clear HB; have HB := n0_; clear n0_; (try clear hb); (try clear hb2); (try clear hk); (try clear hi); (try clear A45)) | (go_at_call 23; (with_reducible refine (ascii_Title.calls t160 t163 _ A47.out).mono ?_); rintro e w62 ⟨rfl, hb⟩; have n0_ := Aside0.mk (below_step (by repeat (first | (with_reducible first | exact HB.out | apply below_alloc | apply pw_below_drewN | apply below_drew1) | exact HB.out)) hb); clear HB; have HB := n0_; clear n0_; (try clear hb); (try clear hb2); (try clear hk); (try clear hi); (try clear A47)) | (go_at_call 22; (with_reducible refine (ascii_Lower.calls t160 t164 _ A49.out).mono ?_); rintro e w63 ⟨rfl, hb⟩; have n0_ := Aside0.mk (below_step (by repeat (first | (with_reducible first | exact HB.out | apply below_alloc | apply pw_below_drewN | apply below_drew1) | exact HB.out)) hb); clear HB; have HB := n0_; clear n0_; (try clear hb); (try clear hb2); (try clear hk); (try clear hi); (try clear A49)) | (go_at_call 24; (with_reducible refine (ascii_Class.calls k2 t158 t165 _ A51.out).mono ?_); rintro e w' ⟨rfl, ⟨nd, rfl⟩⟩; (try first | exact ⟨rfl, _, World.drewN_drewN _ _ _⟩ | exact ⟨rfl, _, Eq.trans (World.drewN_drewN _ _ _) (congrArg (World.drewN _) (Nat.add_assoc _ _ _))⟩); (try clear A51)) | (go_at_call 24; (with_reducible refine (ascii_Class.calls k2 t157 t166 _ A52.out).mono ?_); rintro e w' ⟨rfl, ⟨nd, rfl⟩⟩; (try first | exact ⟨rfl, _, World.drewN_drewN _ _ _⟩ | exact ⟨rfl, _, Eq.trans (World.drewN_drewN _ _ _) (congrArg (World.drewN _) (Nat.add_assoc _ _ _))⟩); (try clear A52))))
                          go_ret
                          exact ⟨by first | rfl | (simp [errW_none, errW_some] <;> rfl) | (simp [*, errW_none, errW_some] <;> rfl), by repeat (first | (with_reducible first | exact HB.out | apply below_alloc | apply pw_below_drewN | apply below_drew1) | exact HB.out)⟩
                      · rw [if_neg c50] at H
                        have c50b0 : (t164.toList == t158.toList) = false := beq_eq_false_iff_ne.mpr c50
                        have c50b1 : (t164.toList != t158.toList) = true := bne_iff_ne.mpr c50
                        obtain rfl := Option.some.inj H
                        go_wp2_with (first | (go_at_call 22; (with_reducible refine (ascii_Lower.calls t159 t161 _ A43.out).mono ?_); rintro e w64 ⟨rfl, hb⟩; have n0_ := Aside0.mk (below_step (by repeat (first | (with_reducible first | exact HB.out | apply below_alloc | apply pw_below_drewN | apply below_drew1) | exact HB.out)) hb); clear HB; have HB := n0_; clear n0_; (try clear hb); (try clear hb2); (try clear hk); (try clear hi); (try clear A43)) | (go_at_call 21; (with_reducible refine (ascii_Upper.calls t158 t162 _ A45.out).mono ?_); rintro e w65 ⟨rfl, hb⟩; have n0_ := Aside0.mk (below_step (by repeat (first | (with_reducible first | exact HB.out | apply below_alloc | apply pw_below_drewN | apply below_drew1) | exact HB.out)) hb); clear HB; have HB := n0_; clear n0_; (try clear hb); (try clear hb2); (try clear hk); (try clear hi); (try clear A45)) | (go_at_call 23; (with_reducible refine (ascii_Title.calls t160 t163 _ A47.out).mono ?_); rintro e w66 ⟨rfl, hb⟩; have n0_ := Aside0.mk (below_step (by repeat (first | (with_reducible first | exact HB.out | apply below_alloc | apply pw_below_drewN | apply below_drew1) | exact HB.out)) hb); clear HB; have HB := n0_; clear n0_; (try clear hb); (try clear hb2); (try clear hk); (try clear hi); (try clear A47)) | (go_at_call 22; (with_reducible refine (ascii_Lower.calls t160 t164 _ A49.out).mono ?_); rintro e w67 ⟨rfl, hb⟩; have n0_ := Aside0.mk (below_step (by repeat (first | (with_reducible first | exact HB.out | apply below_alloc | apply pw_below_drewN | apply below_drew1) | exact HB.out)) hb); clear HB; have HB := n0_; clear n0_; (try clear hb); (try clear hb2); (try clear hk); (try clear hi); (try clear A49)))
                        repeat (go_quiet (first | (go_at_call 22; (with_reducible refine (ascii_Lower.calls t159 t161 _ A43.out).mono ?_); rintro e w64 ⟨rfl, hb⟩; have n0_ := Aside0.mk (below_step (by repeat (first | (with_reducible first | exact HB.out | apply below_alloc | apply pw_below_drewN | apply below_drew1) | exact HB.out)) hb); clear HB; have HB := n0_; clear n0_; (try clear hb); (try clear hb2); (try clear hk); (try clear hi); (try clear A43)) | (go_at_call 21; (with_reducible refine (ascii_Upper.calls t158 t162 _ A45.out).mono ?_); rintro e w65 ⟨rfl, hb⟩; have n0_ := Aside0.mk (below_step (by repeat (first | (with_reducible first | exact HB.out | apply below_alloc | apply pw_below_drewN | apply below_drew1) | exact HB.out)) hb); clear HB; have HB := n0_; clear n0_; (try clear hb); (try clear hb2); (try clear hk); (try clear hi); (try clear A45)) | (go_at_call 23; (with_reducible refine (ascii_Title.calls t160 t163 _ A47.out).mono ?_); rintro e w66 ⟨rfl, hb⟩; have n0_ := Aside0.mk (below_step (by repeat (first | (with_reducible first | exact HB.out | apply below_alloc | apply pw_below_drewN | apply below_drew1) | exact HB.out)) hb); clear HB; have HB := n0_; clear n0_; (try clear hb); (try clear hb2); (try clear hk); (try clear hi); (try clear A47)) | (go_at_call 22; (with_reducible refine (ascii_Lower.calls t160 t164 _ A49.out).mono ?_); rintro e w67 ⟨rfl, hb⟩; have n0_ := Aside0.mk (below_step (by repeat (first | (with_reducible first | exact HB.out | apply below_alloc | apply pw_below_drewN | apply below_drew1) | exact HB.out)) hb); clear HB; have HB := n0_; clear n0_; (try clear hb); (try clear hb2); (try clear hk); (try clear hi); (try clear A49))); try go_wp2_with (first | (go_at_call 22; (with_reducible refine (ascii_Lower.calls t159 t161 _ A43.out).mono ?_); rintro e w64 ⟨rfl, hb⟩; have n0_ := Aside0.mk (below_step (by repeat (first | (with_reducible first | exact HB.out | apply below_alloc | apply pw_below_drewN | apply below_drew1) | exact HB.out)) hb); clear HB; have HB := n0_; clear n0_; (try clear hb); (try clear hb2); (try clear hk); (try clear hi); (try clear A43)) | (go_at_call 21; (with_reducible refine (ascii_Upper.calls t158 t162 _ A45.out).mono ?_); rintro e w65 ⟨rfl, hb⟩; have n0_ := Aside0.mk (below_step (by repeat (first | (with_reducible first | exact HB.out | apply below_alloc | apply pw_below_drewN | apply below_drew1) | exact HB.out)) hb); clear HB; have HB := n0_; clear n0_; (try clear hb); (try clear hb2); (try clear hk); (try clear hi); (try clear A45)) | (go_at_call 23; (with_reducible refine (ascii_Title.calls t160 t163 _ A47.out).mono ?_); rintro e w66 ⟨rfl, hb⟩; have n0_ := Aside0.mk (below_step (by repeat (first | (with_reducible first | exact HB.out | apply below_alloc | apply pw_below_drewN | apply below_drew1) | exact HB.out)) hb); clear HB; have HB := n0_; clear n0_; (try clear hb); (try clear hb2); (try clear hk); (try clear hi); (try clear A47)) | (go_at_call 22; (with_reducible refine (ascii_Lower.calls t160 t164 _ A49.out).mono ?_); rintro e w67 ⟨rfl, hb⟩; have n0_ := Aside0.mk (below_step (by repeat (first | (with_reducible first | exact HB.out | apply below_alloc | apply pw_below_drewN | apply below_drew1) | exact HB.out)) hb); clear HB; have HB := n0_; clear n0_; (try clear hb); (try clear hb2); (try clear hk); (try clear hi); (try clear A49))))
                        go_ret
                        exact ⟨by first | rfl | (simp [errW_none, errW_some] <;> rfl) | (simp [*, errW_none, errW_some] <;> rfl), by repeat (first | (with_reducible first | exact HB.out | apply below_alloc | apply pw_below_drewN | apply below_drew1) | exact HB.out)⟩
                    · rw [if_neg c48] at H
                      have c48b0 : (t163.toList == t160.toList) = false := beq_eq_false_iff_ne.mpr c48
                      have c48b1 : (t163.toList != t160.toList) = true := bne_iff_ne.mpr c48
                      obtain rfl := Option.some.inj H
                      go_wp2_with (first | (go_at_call 22; (with_reducible refine (ascii_Lower.calls t159 t161 _ A43.out).mono ?_); rintro e w68 ⟨rfl, hb⟩; have n0_ := Aside0.mk (below_step (by repeat (first | (with_reducible first | exact HB.out | apply below_alloc | apply pw_below_drewN | apply below_drew1) | exact HB.out)) hb); clear HB; have HB := n0_; clear n0_; (try clear hb); (try clear hb2); (try clear hk); (try clear hi); (try clear A43)) | (go_at_call 21; (with_reducible refine (ascii_Upper.calls t158 t162 _ A45.out).mono ?_); rintro e w69 ⟨rfl, hb⟩; have n0_ := Aside0.mk (below_step (by repeat (first | (with_reducible first | exact HB.out | apply below_alloc | apply pw_below_drewN | apply below_drew1) | exact HB.out)) hb); clear HB; have HB := n0_; clear n0_; (try clear hb); (try clear hb2); (try clear hk); (try clear hi); (try clear A45)) | (go_at_call 23; (with_reducible refine (ascii_Title.calls t160 t163 _ A47.out).mono ?_); rintro e w70 ⟨rfl, hb⟩; have n0_ := Aside0.mk (below_step (by repeat (first | (with_reducible first | exact HB.out | apply below_alloc | apply pw_below_drewN | apply below_drew1) | exact HB.out)) hb); clear HB; have HB := n0_; clear n0_; (try clear hb); (try clear hb2); (try clear hk); (try clear hi); (try clear A47)))
                      repeat (go_quiet (first | (go_at_call 22; (with_reducible refine (ascii_Lower.calls t159 t161 _ A43.out).mono ?_); rintro e w68 ⟨rfl, hb⟩; have n0_ := Aside0.mk (below_step (by repeat (first | (with_reducible first | exact HB.out | apply below_alloc | apply pw_below_drewN | apply below_drew1) | exact HB.out)) hb); clear HB; have HB := n0_; clear n0_; (try clear hb); (try clear hb2); (try clear hk); (try clear hi); (try clear A43)) | (go_at_call 21; (with_reducible refine (ascii_Upper.calls t158 t162 _ A45.out).mono ?_); rintro e w69 ⟨rfl, hb⟩; have n0_ := Aside0.mk (below_step (by repeat (first | (with_reducible first | exact HB.out | apply below_alloc | apply pw_below_drewN | apply below_drew1) | exact HB.out)) hb); clear HB; have HB := n0_; clear n0_; (try clear hb); (try clear hb2); (try clear hk); (try clear hi); (try clear A45)) | (go_at_call 23; (with_reducible refine (ascii_Title.calls t160 t163 _ A47.out).mono ?_); rintro e w70 ⟨rfl, hb⟩; have n0_ := Aside0.mk (below_step (by repeat (first | (with_reducible first | exact HB.out | apply below_alloc | apply pw_below_drewN | apply below_drew1) | exact HB.out)) hb); clear HB; have HB := n0_; clear n0_; (try clear hb); (try clear hb2); (try clear hk); (try clear hi); (try clear A47))); try go_wp2_with (first | (go_at_call 22; (with_reducible refine (ascii_Lower.calls t159 t161 _ A43.out).mono ?_); rintro e w68 ⟨rfl, hb⟩; have n0_ := Aside0.mk (below_step (by repeat (first | (with_reducible first | exact HB.out | apply below_alloc | apply pw_below_drewN | apply below_drew1) | exact HB.out)) hb); clear HB; have HB := n0_; clear n0_; (try clear hb); (try clear hb2); (try clear hk); (try clear hi); (try clear A43)) | (go_at_call 21; (with_reducible refine (ascii_Upper.calls t158 t162 _ A45.out).mono ?_); rintro e w69 ⟨rfl, hb⟩; have n0_ := Aside0.mk (below_step (by repeat (first | (with_reducible first | exact HB.out | apply below_alloc | apply pw_below_drewN | apply below_drew1) | exact HB.out)) hb); clear HB; have HB := n0_; clear n0_; (try clear hb); (try clear hb2); (try clear hk); (try clear hi); (try clear A45)) | (go_at_call 23; (with_reducible refine (ascii_Title.calls t160 t163 _ A47.out).mono ?_); rintro e w70 ⟨rfl, hb⟩; have n0_ := Aside0.mk (below_step (by repeat (first | (with_reducible first | exact HB.out | apply below_alloc | apply pw_below_drewN | apply below_drew1) | exact HB.out)) hb); clear HB; have HB := n0_; clear n0_; (try clear hb); (try clear hb2); (try clear hk); (try clear hi); (try clear A47))))
                      go_ret
                      exact ⟨by first | rfl | (simp [errW_none, errW_some] <;> rfl) | (simp [*, errW_none, errW_some] <;> rfl), by repeat (first | (with_reducible first | exact HB.out | apply below_alloc | apply pw_below_drewN | apply below_drew1) | exact HB.out)⟩
                  · rw [if_neg c46] at H
                    have c46b0 : (t162.toList == t159.toList) = false := beq_eq_false_iff_ne.mpr c46
                    have c46b1 : (t162.toList != t159.toList) = true := bne_iff_ne.mpr c46
                    obtain rfl := Option.some.inj H
                    go_wp2_with (first | (go_at_call 22; (with_reducible refine (ascii_Lower.calls t159 t161 _ A43.out).mono ?_); rintro e w71 ⟨rfl, hb⟩; have n0_ := Aside0.mk (below_step (by repeat (first | (with_reducible first | exact HB.out | apply below_alloc | apply pw_below_drewN | apply below_drew1) | exact HB.out)) hb); clear HB; have HB := n0_; clear n0_; (try clear hb); (try clear hb2); (try clear hk); (try clear hi); (try clear A43)) | (go_at_call 21; (with_reducible refine (ascii_Upper.calls t158 t162 _ A45.out).mono ?_); rintro e w72 ⟨rfl, hb⟩; have n0_ := Aside0.mk (below_step (by repeat (first | (with_reducible first | exact HB.out | apply below_alloc | apply pw_below_drewN | apply below_drew1) | exact HB.out)) hb); clear HB; have HB := n0_; clear n0_; (try clear hb); (try clear hb2); (try clear hk); (try clear hi); (try clear A45)))
                    repeat (go_quiet (first | (go_at_call 22; (with_reducible refine (ascii_Lower.calls t159 t161 _ A43.out).mono ?_); rintro e w71 ⟨rfl, hb⟩; have n0_ := Aside0.mk (below_step (by repeat (first | (with_reducible first | exact HB.out | apply below_alloc | apply pw_below_drewN | apply below_drew1) | exact HB.out)) hb); clear HB; have HB := n0_; clear n0_; (try clear hb); (try clear hb2); (try clear hk); (try clear hi); (try clear A43)) | (go_at_call 21; (with_reducible refine (ascii_Upper.calls t158 t162 _ A45.out).mono ?_); rintro e w72 ⟨rfl, hb⟩; have n0_ := Aside0.mk (below_step (by repeat (first | (with_reducible first | exact HB.out | apply below_alloc | apply pw_below_drewN | apply below_drew1) | exact HB.out)) hb); clear HB; have HB := n0_; clear n0_; (try clear hb); (try clear hb2); (try clear hk); (try clear hi); (try clear A45))); try go_wp2_with (first | (go_at_call 22; (with_reducible refine (ascii_Lower.calls t159 t161 _ A43.out).mono ?_); rintro e w71 ⟨rfl, hb⟩; have n0_ := Aside0.mk (below_step (by repeat (first | (with_reducible first | exact HB.out | apply below_alloc | apply pw_below_drewN | apply below_drew1) | exact HB.out)) hb); clear HB; have HB := n0_; clear n0_; (try clear hb); (try clear hb2); (try clear hk); (try clear hi); (try clear A43)) | (go_at_call 21; (with_reducible refine (ascii_Upper.calls t158 t162 _ A45.out).mono ?_); rintro e w72 ⟨rfl, hb⟩; have n0_ := Aside0.mk (below_step (by repeat (first | (with_reducible first | exact HB.out | apply below_alloc | apply pw_below_drewN | apply below_drew1) | exact HB.out)) hb); clear HB; have HB := n0_; clear n0_; (try clear hb); (try clear hb2); (try clear hk); (try clear hi); (try clear A45))))
                    go_ret
                    exact ⟨by first | rfl | (simp [errW_none, errW_some] <;> rfl) | (simp [*, errW_none, errW_some] <;> rfl), by repeat (first | (with_reducible first | exact HB.out | apply below_alloc | apply pw_below_drewN | apply below_drew1) | exact HB.out)⟩
                · rw [if_neg c44] at H
                  have c44b0 : (t161.toList == t158.toList) = false := beq_eq_false_iff_ne.mpr c44
                  have c44b1 : (t161.toList != t158.toList) = true := bne_iff_ne.mpr c44
                  obtain rfl := Option.some.inj H
                  go_wp2_with (first | (go_at_call 22; (with_reducible refine (ascii_Lower.calls t159 t161 _ A43.out).mono ?_); rintro e w73 ⟨rfl, hb⟩; have n0_ := Aside0.mk (below_step (by repeat (first | (with_reducible first | exact HB.out | apply below_alloc | apply pw_below_drewN | apply below_drew1) | exact HB.out)) hb); clear HB; have HB := n0_; clear n0_; (try clear hb); (try clear hb2); (try clear hk); (try clear hi); (try clear A43)))
                  repeat (go_quiet (first | (go_at_call 22; (with_reducible refine (ascii_Lower.calls t159 t161 _ A43.out).mono ?_); rintro e w73 ⟨rfl, hb⟩; have n0_ := Aside0.mk (below_step (by repeat (first | (with_reducible first | exact HB.out | apply below_alloc | apply pw_below_drewN | apply below_drew1) | exact HB.out)) hb); clear HB; have HB := n0_; clear n0_; (try clear hb); (try clear hb2); (try clear hk); (try clear hi); (try clear A43))); try go_wp2_with (first | (go_at_call 22; (with_reducible refine (ascii_Lower.calls t159 t161 _ A43.out).mono ?_); rintro e w73 ⟨rfl, hb⟩; have n0_ := Aside0.mk (below_step (by repeat (first | (with_reducible first | exact HB.out | apply below_alloc | apply pw_below_drewN | apply below_drew1) | exact HB.out)) hb); clear HB; have HB := n0_; clear n0_; (try clear hb); (try clear hb2); (try clear hk); (try clear hi); (try clear A43))))
                  go_ret
                  exact ⟨by first | rfl | (simp [errW_none, errW_some] <;> rfl) | (simp [*, errW_none, errW_some] <;> rfl), by repeat (first | (with_reducible first | exact HB.out | apply below_alloc | apply pw_below_drewN | apply below_drew1) | exact HB.out)⟩
              · replace c42 := Bool.eq_false_iff.mpr c42
                subst c42
                have H1 : (some false) = some r := by rw [if_neg (show ¬ (false = true) by decide)] at H; exact H
                clear H
                have H := H1
                clear H1
                obtain rfl := Option.some.inj H
                go_wp2
                repeat (go_quiet (fail); try go_wp2)
                go_ret
                exact ⟨by first | rfl | (simp [errW_none, errW_some] <;> rfl) | (simp [*, errW_none, errW_some] <;> rfl), by repeat (first | (with_reducible first | exact HB.out | apply below_alloc | apply pw_below_drewN | apply below_drew1) | exact HB.out)⟩

/-- THE ONE PURE STATEMENT of isoglosslaw02_AsciiCases: yours. -/
def isoglosslaw02_AsciiCases.Pure : Prop := ∀ (a0 : ByteArray), a0.size ≤ 140737488351232 → ∃ k, isoglosslaw02_AsciiCases.f k a0 = some true
theorem isoglosslaw02_AsciiCases.walk (P : isoglosslaw02_AsciiCases.Pure) (a0 : ByteArray) (w : World) (w0 : a0.size ≤ 140737488351232) :
    Calls Try.prog 7 #[.string a0] w fun e w' => e = .returned (.bool true) ∧ Below w.heap.size w w' := by
  obtain ⟨k, h⟩ := P a0 w0
  refine (isoglosslaw02_AsciiCases.calls k a0 true w h).mono ?_
  rintro e w' ⟨rfl, hd⟩
  exact ⟨rfl, hd⟩

/-! ### ascii_Alnum: function 25 -/
def ascii_Alnum.f (k : Nat) (a0 : ByteArray) : Option (Bool) := (ascii_Class.f k a0).bind fun t169 => (some (t169 != 0))
theorem ascii_Alnum.mono : ∀ a0 k, LeO (ascii_Alnum.f k a0) (ascii_Alnum.f (k + 1) a0) := by
  intro a0 k
  unfold ascii_Alnum.f
  repeat' first
      | (with_reducible exact ascii_Class.mono _ _)
      | (with_reducible exact LeO.refl _)
      | (with_reducible exact LeO.none _)
      | (with_reducible refine LeO.ite ?_ ?_)
      | (with_reducible refine LeO.bind ?_ (fun _ => ?_))
      | exact ascii_Class.mono _ _
      | exact LeO.none _
      | refine LeO.ite ?_ ?_
      | refine LeO.bind ?_ (fun _ => ?_)
set_option maxHeartbeats 8000000 in
set_option maxRecDepth 100000 in
theorem ascii_Alnum.calls (k : Nat) (a0 : ByteArray) (r : Bool) (w : World) (h : ascii_Alnum.f k a0 = some r) :
    Calls Try.prog 25 #[.string a0] w fun e w' => e = .returned (.bool r) ∧ Drawn0 w w' := by
  have H : ((ascii_Class.f k a0).bind fun t169 => (some (t169 != 0))) = some r := h
  clear h
  replace H := Option.bind_eq_some_iff.mp H
  obtain ⟨t169, A20, H⟩ := H
  replace H : (some (t169 != 0)) = some r := H
  have A2 := Aside0.mk A20
  clear A20
  obtain rfl := Option.some.inj H
  go_enter Try.func25, Try.ntmps25
  go_wp2_with (first | ((with_reducible refine gate_callee (f := 24) rfl ?_); refine goesL_ (some 4) rfl rfl Try.func24 (by kernel_rfl) rfl #[.string a0] rfl (by (try simp only [List.map_toArray, List.map_cons, List.map_nil]); first | done | rfl | (simp only [List.length_drop, List.length_take]; rfl)) ?_; (with_reducible refine (ascii_Class.calls k a0 t169 _ A2.out).mono ?_); rintro e w' ⟨rfl, ⟨nd, rfl⟩⟩; refine ⟨_, rfl, ?_⟩; (try clear A2)))
  go_ret
  exact ⟨by first | rfl | (simp; done) | (simp [*]; done), by repeat (first | exact Drawn0.refl _ | apply Drawn0.step)⟩

/-! ### ascii_Alpha: function 26 -/
def ascii_Alpha.f (k : Nat) (a0 : ByteArray) : Option (Bool) := (ascii_Class.f k a0).bind fun t170 => (some (t170 == 1))
theorem ascii_Alpha.mono : ∀ a0 k, LeO (ascii_Alpha.f k a0) (ascii_Alpha.f (k + 1) a0) := by
  intro a0 k
  unfold ascii_Alpha.f
  repeat' first
      | (with_reducible exact ascii_Class.mono _ _)
      | (with_reducible exact LeO.refl _)
      | (with_reducible exact LeO.none _)
      | (with_reducible refine LeO.ite ?_ ?_)
      | (with_reducible refine LeO.bind ?_ (fun _ => ?_))
      | exact ascii_Class.mono _ _
      | exact LeO.none _
      | refine LeO.ite ?_ ?_
      | refine LeO.bind ?_ (fun _ => ?_)
set_option maxHeartbeats 8000000 in
set_option maxRecDepth 100000 in
theorem ascii_Alpha.calls (k : Nat) (a0 : ByteArray) (r : Bool) (w : World) (h : ascii_Alpha.f k a0 = some r) :
    Calls Try.prog 26 #[.string a0] w fun e w' => e = .returned (.bool r) ∧ Drawn0 w w' := by
  have H : ((ascii_Class.f k a0).bind fun t170 => (some (t170 == 1))) = some r := h
  clear h
  replace H := Option.bind_eq_some_iff.mp H
  obtain ⟨t170, A20, H⟩ := H
  replace H : (some (t170 == 1)) = some r := H
  have A2 := Aside0.mk A20
  clear A20
  obtain rfl := Option.some.inj H
  go_enter Try.func26, Try.ntmps26
  go_wp2_with (first | ((with_reducible refine gate_callee (f := 24) rfl ?_); refine goesL_ (some 4) rfl rfl Try.func24 (by kernel_rfl) rfl #[.string a0] rfl (by (try simp only [List.map_toArray, List.map_cons, List.map_nil]); first | done | rfl | (simp only [List.length_drop, List.length_take]; rfl)) ?_; (with_reducible refine (ascii_Class.calls k a0 t170 _ A2.out).mono ?_); rintro e w' ⟨rfl, ⟨nd, rfl⟩⟩; refine ⟨_, rfl, ?_⟩; (try clear A2)))
  go_ret
  exact ⟨by first | rfl | (simp; done) | (simp [*]; done), by repeat (first | exact Drawn0.refl _ | apply Drawn0.step)⟩

end Go.Proofs.Ytccojdjmbilgcaa.P
