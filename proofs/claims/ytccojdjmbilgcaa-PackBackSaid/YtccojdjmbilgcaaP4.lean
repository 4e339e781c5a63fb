/- Made by a program of this seat's own (myprint.py, round the kit's print): what the functions compute, and that they do. -/
import Derived.Test.YtccojdjmbilgcaaP0
import Derived.Test.YtccojdjmbilgcaaP1
import Derived.Test.YtccojdjmbilgcaaP2
import Derived.Test.YtccojdjmbilgcaaP3
namespace Go.Proofs.Ytccojdjmbilgcaa.P
open Go.RowKit Go.Proofs.YtccojdjmbilgcaaW.PrintWords Go.Proofs.YtccojdjmbilgcaaW.PrintLast Go.Proofs.YtccojdjmbilgcaaW.PrintMore
attribute [local go_sem] max2_int min2_int max_two min_two max_three min_three max_four min_four   -- for this text's walks alone
set_option linter.unusedVariables false
set_option linter.unusedSimpArgs false

/-! ### isoglosslaw02_AsciiOrders: function 5 -/
def isoglosslaw02_AsciiOrders.j0 : Nat → ByteArray → ByteArray → Bool → Bool → Option (Bool)
  | 0, _, _, _, _ => none
  | k + 1, x0, x1, x7, x57 => if x57 = true then (some false) else (if x7 = true then (if x1.toList = ([] : List UInt8) then (some true) else (if x0.size + x1.size ≤ 9223372036854775807 then ((ascii_Compare.f k x0 (x0 ++ x1)).bind fun t143 => (some (t143 == (-1)))) else (none))) else (some false))
def isoglosslaw02_AsciiOrders.f (k : Nat) (a0 : ByteArray) (a1 : ByteArray) (a2 : ByteArray) : Option (Bool) := (isoglosslaw02_awake.f k).bind fun t136 => ((isoglosslaw02_short.f a0).bind fun t137 => ((isoglosslaw02_short.f a1).bind fun t138 => ((isoglosslaw02_short.f a2).bind fun t139 => ((ascii_Compare.f k t137 t138).bind fun t140 => ((ascii_Compare.f k t138 t139).bind fun t141 => ((ascii_Compare.f k t137 t139).bind fun t142 => (if t140 ≤ 0 then (if t141 ≤ 0 then (if t142 > 0 then (isoglosslaw02_AsciiOrders.j0 k t137 t138 t136 true) else (if t140 ≥ 0 then (if t141 ≥ 0 then (if t142 < 0 then (isoglosslaw02_AsciiOrders.j0 k t137 t138 t136 true) else (if t140 = 0 then (isoglosslaw02_AsciiOrders.j0 k t137 t138 t136 (t141 != t142)) else (isoglosslaw02_AsciiOrders.j0 k t137 t138 t136 false))) else (if t140 = 0 then (isoglosslaw02_AsciiOrders.j0 k t137 t138 t136 (t141 != t142)) else (isoglosslaw02_AsciiOrders.j0 k t137 t138 t136 false))) else (if t140 = 0 then (isoglosslaw02_AsciiOrders.j0 k t137 t138 t136 (t141 != t142)) else (isoglosslaw02_AsciiOrders.j0 k t137 t138 t136 false)))) else (if t140 ≥ 0 then (if t141 ≥ 0 then (if t142 < 0 then (isoglosslaw02_AsciiOrders.j0 k t137 t138 t136 true) else (if t140 = 0 then (isoglosslaw02_AsciiOrders.j0 k t137 t138 t136 (t141 != t142)) else (isoglosslaw02_AsciiOrders.j0 k t137 t138 t136 false))) else (if t140 = 0 then (isoglosslaw02_AsciiOrders.j0 k t137 t138 t136 (t141 != t142)) else (isoglosslaw02_AsciiOrders.j0 k t137 t138 t136 false))) else (if t140 = 0 then (isoglosslaw02_AsciiOrders.j0 k t137 t138 t136 (t141 != t142)) else (isoglosslaw02_AsciiOrders.j0 k t137 t138 t136 false)))) else (if t140 ≥ 0 then (if t141 ≥ 0 then (if t142 < 0 then (isoglosslaw02_AsciiOrders.j0 k t137 t138 t136 true) else (if t140 = 0 then (isoglosslaw02_AsciiOrders.j0 k t137 t138 t136 (t141 != t142)) else (isoglosslaw02_AsciiOrders.j0 k t137 t138 t136 false))) else (if t140 = 0 then (isoglosslaw02_AsciiOrders.j0 k t137 t138 t136 (t141 != t142)) else (isoglosslaw02_AsciiOrders.j0 k t137 t138 t136 false))) else (if t140 = 0 then (isoglosslaw02_AsciiOrders.j0 k t137 t138 t136 (t141 != t142)) else (isoglosslaw02_AsciiOrders.j0 k t137 t138 t136 false))))))))))
theorem isoglosslaw02_AsciiOrders.mono_l : ∀ k, (∀ y0 y1 y2 y3, LeO (isoglosslaw02_AsciiOrders.j0 k y0 y1 y2 y3) (isoglosslaw02_AsciiOrders.j0 (k + 1) y0 y1 y2 y3))
  | 0 => fun _ _ _ _ r h => by simp [isoglosslaw02_AsciiOrders.j0] at h
  | k + 1 => by
    have ih0 := isoglosslaw02_AsciiOrders.mono_l k
    · intro y0 y1 y2 y3
      unfold isoglosslaw02_AsciiOrders.j0
      repeat' first
      | (with_reducible exact ih0 _ _ _ _)
      | (with_reducible exact ascii_Compare.mono _ _ _)
      | (with_reducible exact isoglosslaw02_awake.mono _)
      | (with_reducible exact LeO.refl _)
      | (with_reducible exact LeO.none _)
      | (with_reducible refine LeO.ite ?_ ?_)
      | (with_reducible refine LeO.bind ?_ (fun _ => ?_))
      | exact ih0 _ _ _ _
      | exact ascii_Compare.mono _ _ _
      | exact isoglosslaw02_awake.mono _
      | exact LeO.none _
      | refine LeO.ite ?_ ?_
      | refine LeO.bind ?_ (fun _ => ?_)
theorem isoglosslaw02_AsciiOrders.mono : ∀ a0 a1 a2 k, LeO (isoglosslaw02_AsciiOrders.f k a0 a1 a2) (isoglosslaw02_AsciiOrders.f (k + 1) a0 a1 a2) := by
  intro a0 a1 a2 k
  have ih0 := isoglosslaw02_AsciiOrders.mono_l k
  unfold isoglosslaw02_AsciiOrders.f
  repeat' first
      | (with_reducible exact ih0 _ _ _ _)
      | (with_reducible exact ascii_Compare.mono _ _ _)
      | (with_reducible exact isoglosslaw02_awake.mono _)
      | (with_reducible exact LeO.refl _)
      | (with_reducible exact LeO.none _)
      | (with_reducible refine LeO.ite ?_ ?_)
      | (with_reducible refine LeO.bind ?_ (fun _ => ?_))
      | exact ih0 _ _ _ _
      | exact ascii_Compare.mono _ _ _
      | exact isoglosslaw02_awake.mono _
      | exact LeO.none _
      | refine LeO.ite ?_ ?_
      | refine LeO.bind ?_ (fun _ => ?_)
set_option maxHeartbeats 8000000 in
set_option maxRecDepth 100000 in
theorem isoglosslaw02_AsciiOrders.calls (k : Nat) (a0 : ByteArray) (a1 : ByteArray) (a2 : ByteArray) (r : Bool) (w : World) (h : isoglosslaw02_AsciiOrders.f k a0 a1 a2 = some r) :
    Calls Try.prog 5 #[.string a0, .string a1, .string a2] w fun e w' => e = .returned (.bool r) ∧ Below w.heap.size w w' := by
  have HB := Aside0.mk (Below.refl w.heap.size w)
  have H : ((isoglosslaw02_awake.f k).bind fun t136 => ((isoglosslaw02_short.f a0).bind fun t137 => ((isoglosslaw02_short.f a1).bind fun t138 => ((isoglosslaw02_short.f a2).bind fun t139 => ((ascii_Compare.f k t137 t138).bind fun t140 => ((ascii_Compare.f k t138 t139).bind fun t141 => ((ascii_Compare.f k t137 t139).bind fun t142 => (if t140 ≤ 0 then (if t141 ≤ 0 then (if t142 > 0 then (isoglosslaw02_AsciiOrders.j0 k t137 t138 t136 true) else (if t140 ≥ 0 then (if t141 ≥ 0 then (if t142 < 0 then (isoglosslaw02_AsciiOrders.j0 k t137 t138 t136 true) else (if t140 = 0 then (isoglosslaw02_AsciiOrders.j0 k t137 t138 t136 (t141 != t142)) else (isoglosslaw02_AsciiOrders.j0 k t137 t138 t136 false))) else (if t140 = 0 then (isoglosslaw02_AsciiOrders.j0 k t137 t138 t136 (t141 != t142)) else (isoglosslaw02_AsciiOrders.j0 k t137 t138 t136 false))) else (if t140 = 0 then (isoglosslaw02_AsciiOrders.j0 k t137 t138 t136 (t141 != t142)) else (isoglosslaw02_AsciiOrders.j0 k t137 t138 t136 false)))) else (if t140 ≥ 0 then (if t141 ≥ 0 then (if t142 < 0 then (isoglosslaw02_AsciiOrders.j0 k t137 t138 t136 true) else (if t140 = 0 then (isoglosslaw02_AsciiOrders.j0 k t137 t138 t136 (t141 != t142)) else (isoglosslaw02_AsciiOrders.j0 k t137 t138 t136 false))) else (if t140 = 0 then (isoglosslaw02_AsciiOrders.j0 k t137 t138 t136 (t141 != t142)) else (isoglosslaw02_AsciiOrders.j0 k t137 t138 t136 false))) else (if t140 = 0 then (isoglosslaw02_AsciiOrders.j0 k t137 t138 t136 (t141 != t142)) else (isoglosslaw02_AsciiOrders.j0 k t137 t138 t136 false)))) else (if t140 ≥ 0 then (if t141 ≥ 0 then (if t142 < 0 then (isoglosslaw02_AsciiOrders.j0 k t137 t138 t136 true) else (if t140 = 0 then (isoglosslaw02_AsciiOrders.j0 k t137 t138 t136 (t141 != t142)) else (isoglosslaw02_AsciiOrders.j0 k t137 t138 t136 false))) else (if t140 = 0 then (isoglosslaw02_AsciiOrders.j0 k t137 t138 t136 (t141 != t142)) else (isoglosslaw02_AsciiOrders.j0 k t137 t138 t136 false))) else (if t140 = 0 then (isoglosslaw02_AsciiOrders.j0 k t137 t138 t136 (t141 != t142)) else (isoglosslaw02_AsciiOrders.j0 k t137 t138 t136 false))))))))))) = some r := h
  clear h
  replace H := Option.bind_eq_some_iff.mp H
  obtain ⟨t136, A40, H⟩ := H
  replace H : ((isoglosslaw02_short.f a0).bind fun t137 => ((isoglosslaw02_short.f a1).bind fun t138 => ((isoglosslaw02_short.f a2).bind fun t139 => ((ascii_Compare.f k t137 t138).bind fun t140 => ((ascii_Compare.f k t138 t139).bind fun t141 => ((ascii_Compare.f k t137 t139).bind fun t142 => (if t140 ≤ 0 then (if t141 ≤ 0 then (if t142 > 0 then (isoglosslaw02_AsciiOrders.j0 k t137 t138 t136 true) else (if t140 ≥ 0 then (if t141 ≥ 0 then (if t142 < 0 then (isoglosslaw02_AsciiOrders.j0 k t137 t138 t136 true) else (if t140 = 0 then (isoglosslaw02_AsciiOrders.j0 k t137 t138 t136 (t141 != t142)) else (isoglosslaw02_AsciiOrders.j0 k t137 t138 t136 false))) else (if t140 = 0 then (isoglosslaw02_AsciiOrders.j0 k t137 t138 t136 (t141 != t142)) else (isoglosslaw02_AsciiOrders.j0 k t137 t138 t136 false))) else (if t140 = 0 then (isoglosslaw02_AsciiOrders.j0 k t137 t138 t136 (t141 != t142)) else (isoglosslaw02_AsciiOrders.j0 k t137 t138 t136 false)))) else (if t140 ≥ 0 then (if t141 ≥ 0 then (if t142 < 0 then (isoglosslaw02_AsciiOrders.j0 k t137 t138 t136 true) else (if t140 = 0 then (isoglosslaw02_AsciiOrders.j0 k t137 t138 t136 (t141 != t142)) else (isoglosslaw02_AsciiOrders.j0 k t137 t138 t136 false))) else (if t140 = 0 then (isoglosslaw02_AsciiOrders.j0 k t137 t138 t136 (t141 != t142)) else (isoglosslaw02_AsciiOrders.j0 k t137 t138 t136 false))) else (if t140 = 0 then (isoglosslaw02_AsciiOrders.j0 k t137 t138 t136 (t141 != t142)) else (isoglosslaw02_AsciiOrders.j0 k t137 t138 t136 false)))) else (if t140 ≥ 0 then (if t141 ≥ 0 then (if t142 < 0 then (isoglosslaw02_AsciiOrders.j0 k t137 t138 t136 true) else (if t140 = 0 then (isoglosslaw02_AsciiOrders.j0 k t137 t138 t136 (t141 != t142)) else (isoglosslaw02_AsciiOrders.j0 k t137 t138 t136 false))) else (if t140 = 0 then (isoglosslaw02_AsciiOrders.j0 k t137 t138 t136 (t141 != t142)) else (isoglosslaw02_AsciiOrders.j0 k t137 t138 t136 false))) else (if t140 = 0 then (isoglosslaw02_AsciiOrders.j0 k t137 t138 t136 (t141 != t142)) else (isoglosslaw02_AsciiOrders.j0 k t137 t138 t136 false)))))))))) = some r := H
  have A4 := Aside0.mk A40
  clear A40
  replace H := Option.bind_eq_some_iff.mp H
  obtain ⟨t137, A50, H⟩ := H
  replace H : ((isoglosslaw02_short.f a1).bind fun t138 => ((isoglosslaw02_short.f a2).bind fun t139 => ((ascii_Compare.f k t137 t138).bind fun t140 => ((ascii_Compare.f k t138 t139).bind fun t141 => ((ascii_Compare.f k t137 t139).bind fun t142 => (if t140 ≤ 0 then (if t141 ≤ 0 then (if t142 > 0 then (isoglosslaw02_AsciiOrders.j0 k t137 t138 t136 true) else (if t140 ≥ 0 then (if t141 ≥ 0 then (if t142 < 0 then (isoglosslaw02_AsciiOrders.j0 k t137 t138 t136 true) else (if t140 = 0 then (isoglosslaw02_AsciiOrders.j0 k t137 t138 t136 (t141 != t142)) else (isoglosslaw02_AsciiOrders.j0 k t137 t138 t136 false))) else (if t140 = 0 then (isoglosslaw02_AsciiOrders.j0 k t137 t138 t136 (t141 != t142)) else (isoglosslaw02_AsciiOrders.j0 k t137 t138 t136 false))) else (if t140 = 0 then (isoglosslaw02_AsciiOrders.j0 k t137 t138 t136 (t141 != t142)) else (isoglosslaw02_AsciiOrders.j0 k t137 t138 t136 false)))) else (if t140 ≥ 0 then (if t141 ≥ 0 then (if t142 < 0 then (isoglosslaw02_AsciiOrders.j0 k t137 t138 t136 true) else (if t140 = 0 then (isoglosslaw02_AsciiOrders.j0 k t137 t138 t136 (t141 != t142)) else (isoglosslaw02_AsciiOrders.j0 k t137 t138 t136 false))) else (if t140 = 0 then (isoglosslaw02_AsciiOrders.j0 k t137 t138 t136 (t141 != t142)) else (isoglosslaw02_AsciiOrders.j0 k t137 t138 t136 false))) else (if t140 = 0 then (isoglosslaw02_AsciiOrders.j0 k t137 t138 t136 (t141 != t142)) else (isoglosslaw02_AsciiOrders.j0 k t137 t138 t136 false)))) else (if t140 ≥ 0 then (if t141 ≥ 0 then (if t142 < 0 then (isoglosslaw02_AsciiOrders.j0 k t137 t138 t136 true) else (if t140 = 0 then (isoglosslaw02_AsciiOrders.j0 k t137 t138 t136 (t141 != t142)) else (isoglosslaw02_AsciiOrders.j0 k t137 t138 t136 false))) else (if t140 = 0 then (isoglosslaw02_AsciiOrders.j0 k t137 t138 t136 (t141 != t142)) else (isoglosslaw02_AsciiOrders.j0 k t137 t138 t136 false))) else (if t140 = 0 then (isoglosslaw02_AsciiOrders.j0 k t137 t138 t136 (t141 != t142)) else (isoglosslaw02_AsciiOrders.j0 k t137 t138 t136 false))))))))) = some r := H
  have A5 := Aside0.mk A50
  clear A50
  replace H := Option.bind_eq_some_iff.mp H
  obtain ⟨t138, A60, H⟩ := H
  replace H : ((isoglosslaw02_short.f a2).bind fun t139 => ((ascii_Compare.f k t137 t138).bind fun t140 => ((ascii_Compare.f k t138 t139).bind fun t141 => ((ascii_Compare.f k t137 t139).bind fun t142 => (if t140 ≤ 0 then (if t141 ≤ 0 then (if t142 > 0 then (isoglosslaw02_AsciiOrders.j0 k t137 t138 t136 true) else (if t140 ≥ 0 then (if t141 ≥ 0 then (if t142 < 0 then (isoglosslaw02_AsciiOrders.j0 k t137 t138 t136 true) else (if t140 = 0 then (isoglosslaw02_AsciiOrders.j0 k t137 t138 t136 (t141 != t142)) else (isoglosslaw02_AsciiOrders.j0 k t137 t138 t136 false))) else (if t140 = 0 then (isoglosslaw02_AsciiOrders.j0 k t137 t138 t136 (t141 != t142)) else (isoglosslaw02_AsciiOrders.j0 k t137 t138 t136 false))) else (if t140 = 0 then (isoglosslaw02_AsciiOrders.j0 k t137 t138 t136 (t141 != t142)) else (isoglosslaw02_AsciiOrders.j0 k t137 t138 t136 false)))) else (if t140 ≥ 0 then (if t141 ≥ 0 then (if t142 < 0 then (isoglosslaw02_AsciiOrders.j0 k t137 t138 t136 true) else (if t140 = 0 then (isoglosslaw02_AsciiOrders.j0 k t137 t138 t136 (t141 != t142)) else (isoglosslaw02_AsciiOrders.j0 k t137 t138 t136 false))) else (if t140 = 0 then (isoglosslaw02_AsciiOrders.j0 k t137 t138 t136 (t141 != t142)) else (isoglosslaw02_AsciiOrders.j0 k t137 t138 t136 false))) else (if t140 = 0 then (isoglosslaw02_AsciiOrders.j0 k t137 t138 t136 (t141 != t142)) else (isoglosslaw02_AsciiOrders.j0 k t137 t138 t136 false)))) else (if t140 ≥ 0 then (if t141 ≥ 0 then (if t142 < 0 then (isoglosslaw02_AsciiOrders.j0 k t137 t138 t136 true) else (if t140 = 0 then (isoglosslaw02_AsciiOrders.j0 k t137 t138 t136 (t141 != t142)) else (isoglosslaw02_AsciiOrders.j0 k t137 t138 t136 false))) else (if t140 = 0 then (isoglosslaw02_AsciiOrders.j0 k t137 t138 t136 (t141 != t142)) else (isoglosslaw02_AsciiOrders.j0 k t137 t138 t136 false))) else (if t140 = 0 then (isoglosslaw02_AsciiOrders.j0 k t137 t138 t136 (t141 != t142)) else (isoglosslaw02_AsciiOrders.j0 k t137 t138 t136 false)))))))) = some r := H
  have A6 := Aside0.mk A60
  clear A60
  replace H := Option.bind_eq_some_iff.mp H
  obtain ⟨t139, A70, H⟩ := H
  replace H : ((ascii_Compare.f k t137 t138).bind fun t140 => ((ascii_Compare.f k t138 t139).bind fun t141 => ((ascii_Compare.f k t137 t139).bind fun t142 => (if t140 ≤ 0 then (if t141 ≤ 0 then (if t142 > 0 then (isoglosslaw02_AsciiOrders.j0 k t137 t138 t136 true) else (if t140 ≥ 0 then (if t141 ≥ 0 then (if t142 < 0 then (isoglosslaw02_AsciiOrders.j0 k t137 t138 t136 true) else (if t140 = 0 then (isoglosslaw02_AsciiOrders.j0 k t137 t138 t136 (t141 != t142)) else (isoglosslaw02_AsciiOrders.j0 k t137 t138 t136 false))) else (if t140 = 0 then (isoglosslaw02_AsciiOrders.j0 k t137 t138 t136 (t141 != t142)) else (isoglosslaw02_AsciiOrders.j0 k t137 t138 t136 false))) else (if t140 = 0 then (isoglosslaw02_AsciiOrders.j0 k t137 t138 t136 (t141 != t142)) else (isoglosslaw02_AsciiOrders.j0 k t137 t138 t136 false)))) else (if t140 ≥ 0 then (if t141 ≥ 0 then (if t142 < 0 then (isoglosslaw02_AsciiOrders.j0 k t137 t138 t136 true) else (if t140 = 0 then (isoglosslaw02_AsciiOrders.j0 k t137 t138 t136 (t141 != t142)) else (isoglosslaw02_AsciiOrders.j0 k t137 t138 t136 false))) else (if t140 = 0 then (isoglosslaw02_AsciiOrders.j0 k t137 t138 t136 (t141 != t142)) else (isoglosslaw02_AsciiOrders.j0 k t137 t138 t136 false))) else (if t140 = 0 then (isoglosslaw02_AsciiOrders.j0 k t137 t138 t136 (t141 != t142)) else (isoglosslaw02_AsciiOrders.j0 k t137 t138 t136 false)))) else (if t140 ≥ 0 then (if t141 ≥ 0 then (if t142 < 0 then (isoglosslaw02_AsciiOrders.j0 k t137 t138 t136 true) else (if t140 = 0 then (isoglosslaw02_AsciiOrders.j0 k t137 t138 t136 (t141 != t142)) else (isoglosslaw02_AsciiOrders.j0 k t137 t138 t136 false))) else (if t140 = 0 then (isoglosslaw02_AsciiOrders.j0 k t137 t138 t136 (t141 != t142)) else (isoglosslaw02_AsciiOrders.j0 k t137 t138 t136 false))) else (if t140 = 0 then (isoglosslaw02_AsciiOrders.j0 k t137 t138 t136 (t141 != t142)) else (isoglosslaw02_AsciiOrders.j0 k t137 t138 t136 false))))))) = some r := H
  have A7 := Aside0.mk A70
  clear A70
  replace H := Option.bind_eq_some_iff.mp H
  obtain ⟨t140, A80, H⟩ := H
  replace H : ((ascii_Compare.f k t138 t139).bind fun t141 => ((ascii_Compare.f k t137 t139).bind fun t142 => (if t140 ≤ 0 then (if t141 ≤ 0 then (if t142 > 0 then (isoglosslaw02_AsciiOrders.j0 k t137 t138 t136 true) else (if t140 ≥ 0 then (if t141 ≥ 0 then (if t142 < 0 then (isoglosslaw02_AsciiOrders.j0 k t137 t138 t136 true) else (if t140 = 0 then (isoglosslaw02_AsciiOrders.j0 k t137 t138 t136 (t141 != t142)) else (isoglosslaw02_AsciiOrders.j0 k t137 t138 t136 false))) else (if t140 = 0 then (isoglosslaw02_AsciiOrders.j0 k t137 t138 t136 (t141 != t142)) else (isoglosslaw02_AsciiOrders.j0 k t137 t138 t136 false))) else (if t140 = 0 then (isoglosslaw02_AsciiOrders.j0 k t137 t138 t136 (t141 != t142)) else (isoglosslaw02_AsciiOrders.j0 k t137 t138 t136 false)))) else (if t140 ≥ 0 then (if t141 ≥ 0 then (if t142 < 0 then (isoglosslaw02_AsciiOrders.j0 k t137 t138 t136 true) else (if t140 = 0 then (isoglosslaw02_AsciiOrders.j0 k t137 t138 t136 (t141 != t142)) else (isoglosslaw02_AsciiOrders.j0 k t137 t138 t136 false))) else (if t140 = 0 then (isoglosslaw02_AsciiOrders.j0 k t137 t138 t136 (t141 != t142)) else (isoglosslaw02_AsciiOrders.j0 k t137 t138 t136 false))) else (if t140 = 0 then (isoglosslaw02_AsciiOrders.j0 k t137 t138 t136 (t141 != t142)) else (isoglosslaw02_AsciiOrders.j0 k t137 t138 t136 false)))) else (if t140 ≥ 0 then (if t141 ≥ 0 then (if t142 < 0 then (isoglosslaw02_AsciiOrders.j0 k t137 t138 t136 true) else (if t140 = 0 then (isoglosslaw02_AsciiOrders.j0 k t137 t138 t136 (t141 != t142)) else (isoglosslaw02_AsciiOrders.j0 k t137 t138 t136 false))) else (if t140 = 0 then (isoglosslaw02_AsciiOrders.j0 k t137 t138 t136 (t141 != t142)) else (isoglosslaw02_AsciiOrders.j0 k t137 t138 t136 false))) else (if t140 = 0 then (isoglosslaw02_AsciiOrders.j0 k t137 t138 t136 (t141 != t142)) else (isoglosslaw02_AsciiOrders.j0 k t137 t138 t136 false)))))) = some r := H
  have A8 := Aside0.mk A80
  clear A80
  replace H := Option.bind_eq_some_iff.mp H
  obtain ⟨t141, A90, H⟩ := H
  replace H : ((ascii_Compare.f k t137 t139).bind fun t142 => (if t140 ≤ 0 then (if t141 ≤ 0 then (if t142 > 0 then (isoglosslaw02_AsciiOrders.j0 k t137 t138 t136 true) else (if t140 ≥ 0 then (if t141 ≥ 0 then (if t142 < 0 then (isoglosslaw02_AsciiOrders.j0 k t137 t138 t136 true) else (if t140 = 0 then (isoglosslaw02_AsciiOrders.j0 k t137 t138 t136 (t141 != t142)) else (isoglosslaw02_AsciiOrders.j0 k t137 t138 t136 false))) else (if t140 = 0 then (isoglosslaw02_AsciiOrders.j0 k t137 t138 t136 (t141 != t142)) else (isoglosslaw02_AsciiOrders.j0 k t137 t138 t136 false))) else (if t140 = 0 then (isoglosslaw02_AsciiOrders.j0 k t137 t138 t136 (t141 != t142)) else (isoglosslaw02_AsciiOrders.j0 k t137 t138 t136 false)))) else (if t140 ≥ 0 then (if t141 ≥ 0 then (if t142 < 0 then (isoglosslaw02_AsciiOrders.j0 k t137 t138 t136 true) else (if t140 = 0 then (isoglosslaw02_AsciiOrders.j0 k t137 t138 t136 (t141 != t142)) else (isoglosslaw02_AsciiOrders.j0 k t137 t138 t136 false))) else (if t140 = 0 then (isoglosslaw02_AsciiOrders.j0 k t137 t138 t136 (t141 != t142)) else (isoglosslaw02_AsciiOrders.j0 k t137 t138 t136 false))) else (if t140 = 0 then (isoglosslaw02_AsciiOrders.j0 k t137 t138 t136 (t141 != t142)) else (isoglosslaw02_AsciiOrders.j0 k t137 t138 t136 false)))) else (if t140 ≥ 0 then (if t141 ≥ 0 then (if t142 < 0 then (isoglosslaw02_AsciiOrders.j0 k t137 t138 t136 true) else (if t140 = 0 then (isoglosslaw02_AsciiOrders.j0 k t137 t138 t136 (t141 != t142)) else (isoglosslaw02_AsciiOrders.j0 k t137 t138 t136 false))) else (if t140 = 0 then (isoglosslaw02_AsciiOrders.j0 k t137 t138 t136 (t141 != t142)) else (isoglosslaw02_AsciiOrders.j0 k t137 t138 t136 false))) else (if t140 = 0 then (isoglosslaw02_AsciiOrders.j0 k t137 t138 t136 (t141 != t142)) else (isoglosslaw02_AsciiOrders.j0 k t137 t138 t136 false))))) = some r := H
  have A9 := Aside0.mk A90
  clear A90
  replace H := Option.bind_eq_some_iff.mp H
  obtain ⟨t142, A100, H⟩ := H
  replace H : (if t140 ≤ 0 then (if t141 ≤ 0 then (if t142 > 0 then (isoglosslaw02_AsciiOrders.j0 k t137 t138 t136 true) else (if t140 ≥ 0 then (if t141 ≥ 0 then (if t142 < 0 then (isoglosslaw02_AsciiOrders.j0 k t137 t138 t136 true) else (if t140 = 0 then (isoglosslaw02_AsciiOrders.j0 k t137 t138 t136 (t141 != t142)) else (isoglosslaw02_AsciiOrders.j0 k t137 t138 t136 false))) else (if t140 = 0 then (isoglosslaw02_AsciiOrders.j0 k t137 t138 t136 (t141 != t142)) else (isoglosslaw02_AsciiOrders.j0 k t137 t138 t136 false))) else (if t140 = 0 then (isoglosslaw02_AsciiOrders.j0 k t137 t138 t136 (t141 != t142)) else (isoglosslaw02_AsciiOrders.j0 k t137 t138 t136 false)))) else (if t140 ≥ 0 then (if t141 ≥ 0 then (if t142 < 0 then (isoglosslaw02_AsciiOrders.j0 k t137 t138 t136 true) else (if t140 = 0 then (isoglosslaw02_AsciiOrders.j0 k t137 t138 t136 (t141 != t142)) else (isoglosslaw02_AsciiOrders.j0 k t137 t138 t136 false))) else (if t140 = 0 then (isoglosslaw02_AsciiOrders.j0 k t137 t138 t136 (t141 != t142)) else (isoglosslaw02_AsciiOrders.j0 k t137 t138 t136 false))) else (if t140 = 0 then (isoglosslaw02_AsciiOrders.j0 k t137 t138 t136 (t141 != t142)) else (isoglosslaw02_AsciiOrders.j0 k t137 t138 t136 false)))) else (if t140 ≥ 0 then (if t141 ≥ 0 then (if t142 < 0 then (isoglosslaw02_AsciiOrders.j0 k t137 t138 t136 true) else (if t140 = 0 then (isoglosslaw02_AsciiOrders.j0 k t137 t138 t136 (t141 != t142)) else (isoglosslaw02_AsciiOrders.j0 k t137 t138 t136 false))) else (if t140 = 0 then (isoglosslaw02_AsciiOrders.j0 k t137 t138 t136 (t141 != t142)) else (isoglosslaw02_AsciiOrders.j0 k t137 t138 t136 false))) else (if t140 = 0 then (isoglosslaw02_AsciiOrders.j0 k t137 t138 t136 (t141 != t142)) else (isoglosslaw02_AsciiOrders.j0 k t137 t138 t136 false)))) = some r := H
  have A10 := Aside0.mk A100
  clear A100
  have HC11 := Aside0.mk H
  clear H
  go_enter Try.func5, Try.ntmps5
  go_upto_region 8 with (first | ((with_reducible refine gate_callee (f := 17) rfl ?_); refine goesL_ (some 11) rfl rfl Try.func17 (by kernel_rfl) rfl #[] rfl (by (try simp only [List.map_toArray, List.map_cons, List.map_nil]); first | done | rfl | (simp only [List.length_drop, List.length_take]; rfl)) ?_; (with_reducible refine (isoglosslaw02_awake.calls k  t136 _ A4.out).mono ?_); rintro e w12 ⟨rfl, hb⟩; refine ⟨_, rfl, ?_⟩; have n0_ := Aside0.mk (below_step (by repeat (first | (with_reducible first | exact HB.out | apply below_alloc | apply pw_below_drewN | apply below_drew1) | exact HB.out)) hb); clear HB; have HB := n0_; clear n0_; (try clear hb); (try clear hb2); (try clear hk); (try clear hi); (try clear A4)) | ((with_reducible refine gate_callee (f := 18) rfl ?_); refine goesL_ (some 13) rfl rfl Try.func18 (by kernel_rfl) rfl #[.string a0] rfl (by (try simp only [List.map_toArray, List.map_cons, List.map_nil]); first | done | rfl | (simp only [List.length_drop, List.length_take]; rfl)) ?_; (with_reducible refine (isoglosslaw02_short.calls a0 t137 _ A5.out).mono ?_); rintro e w' ⟨rfl, ⟨nd, rfl⟩⟩; refine ⟨_, rfl, ?_⟩; (try clear A5)) | ((with_reducible refine gate_callee (f := 18) rfl ?_); refine goesL_ (some 15) rfl rfl Try.func18 (by kernel_rfl) rfl #[.string a1] rfl (by (try simp only [List.map_toArray, List.map_cons, List.map_nil]); first | done | rfl | (simp only [List.length_drop, List.length_take]; rfl)) ?_; (with_reducible refine (isoglosslaw02_short.calls a1 t138 _ A6.out).mono ?_); rintro e w' ⟨rfl, ⟨nd, rfl⟩⟩; refine ⟨_, rfl, ?_⟩; (try clear A6)) | ((with_reducible refine gate_callee (f := 18) rfl ?_); refine goesL_ (some 17) rfl rfl Try.func18 (by kernel_rfl) rfl #[.string a2] rfl (by (try simp only [List.map_toArray, List.map_cons, List.map_nil]); first | done | rfl | (simp only [List.length_drop, List.length_take]; rfl)) ?_; (with_reducible refine (isoglosslaw02_short.calls a2 t139 _ A7.out).mono ?_); rintro e w' ⟨rfl, ⟨nd, rfl⟩⟩; refine ⟨_, rfl, ?_⟩; (try clear A7)) | ((with_reducible refine gate_callee (f := 19) rfl ?_); refine goesL_ (some 20) rfl rfl Try.func19 (by kernel_rfl) rfl #[.string t137, .string t138] rfl (by (try simp only [List.map_toArray, List.map_cons, List.map_nil]); first | done | rfl | (simp only [List.length_drop, List.length_take]; rfl)) ?_; (with_reducible refine (ascii_Compare.calls k t137 t138 t140 _ A8.out).mono ?_); rintro e w13 ⟨rfl, hb⟩; refine ⟨_, rfl, ?_⟩; have n0_ := Aside0.mk (below_step (by repeat (first | (with_reducible first | exact HB.out | apply below_alloc | apply pw_below_drewN | apply below_drew1) | exact HB.out)) hb); clear HB; have HB := n0_; clear n0_; (try clear hb); (try clear hb2); (try clear hk); (try clear hi); (try clear A8)) | ((with_reducible refine gate_callee (f := 19) rfl ?_); refine goesL_ (some 23) rfl rfl Try.func19 (by kernel_rfl) rfl #[.string t138, .string t139] rfl (by (try simp only [List.map_toArray, List.map_cons, List.map_nil]); first | done | rfl | (simp only [List.length_drop, List.length_take]; rfl)) ?_; (with_reducible refine (ascii_Compare.calls k t138 t139 t141 _ A9.out).mono ?_); rintro e w14 ⟨rfl, hb⟩; refine ⟨_, rfl, ?_⟩; have n0_ := Aside0.mk (below_step (by repeat (first | (with_reducible first | exact HB.out | apply below_alloc | apply pw_below_drewN | apply below_drew1) | exact HB.out)) hb); clear HB; have HB := n0_; clear n0_; (try clear hb); (try clear hb2); (try clear hk); (try clear hi); (try clear A9)) | ((with_reducible refine gate_callee (f := 19) rfl ?_); refine goesL_ (some 26) rfl rfl Try.func19 (by kernel_rfl) rfl #[.string t137, .string t139] rfl (by (try simp only [List.map_toArray, List.map_cons, List.map_nil]); first | done | rfl | (simp only [List.length_drop, List.length_take]; rfl)) ?_; (with_reducible refine (ascii_Compare.calls k t137 t139 t142 _ A10.out).mono ?_); rintro e w15 ⟨rfl, hb⟩; refine ⟨_, rfl, ?_⟩; have n0_ := Aside0.mk (below_step (by repeat (first | (with_reducible first | exact HB.out | apply below_alloc | apply pw_below_drewN | apply below_drew1) | exact HB.out)) hb); clear HB; have HB := n0_; clear n0_; (try clear hb); (try clear hb2); (try clear hk); (try clear hi); (try clear A10)))
  (try simp only [Act.put, List.setIfInBounds_toArray, List.set_cons_zero, List.set_cons_succ])
  go_cut [57] (fun v57 wc => ∃ (kq : Nat) (x57_10 : Bool), v57 = .bool x57_10 ∧ Aside0 (isoglosslaw02_AsciiOrders.j0 kq t137 t138 t136 x57_10 = some r) ∧ Aside0 (kq ≤ k) ∧ Aside0 (Below w.heap.size w wc))
  case first =>
    have H := HC11.out
    clear HC11
    by_cases c16 : t140 ≤ 0
    · rw [if_pos c16] at H
      have c16b0 : decide (t140 ≤ 0) = true := decide_eq_true c16
      clear c16
      (first | rw [c16b0] | (simp only [i64_w, i32_w]; rw [c16b0]) | rw [c16b2] | skip)
      by_cases c17 : t141 ≤ 0
      · rw [if_pos c17] at H
        have c17b0 : decide (t141 ≤ 0) = true := decide_eq_true c17
        clear c17
        by_cases c18 : t142 > 0
        · rw [if_pos c18] at H
          have c18b0 : decide (0 < t142) = true := decide_eq_true c18
          clear c18
          have H' := Aside0.mk H
          clear H
          go_wp2
          go_meet
          case rel => exact ⟨_, (true), (by first | rfl | (simp; done) | (simp [*]; done)), H', ⟨by first | omega | exact Nat.le_refl _⟩, ⟨by repeat (first | (with_reducible first | exact HB.out | apply below_alloc | apply pw_below_drewN | apply below_drew1) | exact HB.out)⟩⟩
        · rw [if_neg c18] at H
          have c18b0 : decide (0 < t142) = false := decide_eq_false c18
          clear c18
          by_cases c19 : t140 ≥ 0
          · rw [if_pos c19] at H
            have c19b0 : decide (0 ≤ t140) = true := decide_eq_true c19
            clear c19
            by_cases c20 : t141 ≥ 0
            · rw [if_pos c20] at H
              have c20b0 : decide (0 ≤ t141) = true := decide_eq_true c20
              clear c20
              by_cases c21 : t142 < 0
              · rw [if_pos c21] at H
                have c21b0 : decide (t142 < 0) = true := decide_eq_true c21
                clear c21
                have H' := Aside0.mk H
                clear H
                go_wp2
                go_meet
                case rel => exact ⟨_, (true), (by first | rfl | (simp; done) | (simp [*]; done)), H', ⟨by first | omega | exact Nat.le_refl _⟩, ⟨by repeat (first | (with_reducible first | exact HB.out | apply below_alloc | apply pw_below_drewN | apply below_drew1) | exact HB.out)⟩⟩
              · rw [if_neg c21] at H
                have c21b0 : decide (t142 < 0) = false := decide_eq_false c21
                clear c21
                by_cases c22 : t140 = 0
                · rw [if_pos c22] at H
                  have c22b0 : (t140 == 0) = true := beq_iff_eq.mpr c22
                  have c22b1 : (t140 != 0) = false := bne_eq_false_iff_eq.mpr c22
                  clear c22
                  have H' := Aside0.mk H
                  clear H
                  go_wp2
                  go_meet
                  case rel => exact ⟨_, ((t141 != t142)), (by first | rfl | (simp; done) | (simp [*]; done)), H', ⟨by first | omega | exact Nat.le_refl _⟩, ⟨by repeat (first | (with_reducible first | exact HB.out | apply below_alloc | apply pw_below_drewN | apply below_drew1) | exact HB.out)⟩⟩
                · rw [if_neg c22] at H
                  have c22b0 : (t140 == 0) = false := beq_eq_false_iff_ne.mpr c22
                  have c22b1 : (t140 != 0) = true := bne_iff_ne.mpr c22
                  have H' := Aside0.mk H
                  clear H
                  go_wp2
                  go_meet
                  case rel => exact ⟨_, (false), (by first | rfl | (simp; done) | (simp [*]; done)), H', ⟨by first | omega | exact Nat.le_refl _⟩, ⟨by repeat (first | (with_reducible first | exact HB.out | apply below_alloc | apply pw_below_drewN | apply below_drew1) | exact HB.out)⟩⟩
            · rw [if_neg c20] at H
              have c20b0 : decide (0 ≤ t141) = false := decide_eq_false c20
              clear c20
              by_cases c23 : t140 = 0
              · rw [if_pos c23] at H
                have c23b0 : (t140 == 0) = true := beq_iff_eq.mpr c23
                have c23b1 : (t140 != 0) = false := bne_eq_false_iff_eq.mpr c23
                clear c23
                have H' := Aside0.mk H
                clear H
                go_wp2
                go_meet
                case rel => exact ⟨_, ((t141 != t142)), (by first | rfl | (simp; done) | (simp [*]; done)), H', ⟨by first | omega | exact Nat.le_refl _⟩, ⟨by repeat (first | (with_reducible first | exact HB.out | apply below_alloc | apply pw_below_drewN | apply below_drew1) | exact HB.out)⟩⟩
              · rw [if_neg c23] at H
                have c23b0 : (t140 == 0) = false := beq_eq_false_iff_ne.mpr c23
                have c23b1 : (t140 != 0) = true := bne_iff_ne.mpr c23
                have H' := Aside0.mk H
                clear H
                go_wp2
                go_meet
                case rel => exact ⟨_, (false), (by first | rfl | (simp; done) | (simp [*]; done)), H', ⟨by first | omega | exact Nat.le_refl _⟩, ⟨by repeat (first | (with_reducible first | exact HB.out | apply below_alloc | apply pw_below_drewN | apply below_drew1) | exact HB.out)⟩⟩
          · rw [if_neg c19] at H
            have c19b0 : decide (0 ≤ t140) = false := decide_eq_false c19
            clear c19
            by_cases c24 : t140 = 0
            · rw [if_pos c24] at H
              have c24b0 : (t140 == 0) = true := beq_iff_eq.mpr c24
              have c24b1 : (t140 != 0) = false := bne_eq_false_iff_eq.mpr c24
              clear c24
              have H' := Aside0.mk H
              clear H
              go_wp2
              go_meet
              case rel => exact ⟨_, ((t141 != t142)), (by first | rfl | (simp; done) | (simp [*]; done)), H', ⟨by first | omega | exact Nat.le_refl _⟩, ⟨by repeat (first | (with_reducible first | exact HB.out | apply below_alloc | apply pw_below_drewN | apply below_drew1) | exact HB.out)⟩⟩
            · rw [if_neg c24] at H
              have c24b0 : (t140 == 0) = false := beq_eq_false_iff_ne.mpr c24
              have c24b1 : (t140 != 0) = true := bne_iff_ne.mpr c24
              have H' := Aside0.mk H
              clear H
              go_wp2
              go_meet
              case rel => exact ⟨_, (false), (by first | rfl | (simp; done) | (simp [*]; done)), H', ⟨by first | omega | exact Nat.le_refl _⟩, ⟨by repeat (first | (with_reducible first | exact HB.out | apply below_alloc | apply pw_below_drewN | apply below_drew1) | exact HB.out)⟩⟩
      · rw [if_neg c17] at H
        have c17b0 : decide (t141 ≤ 0) = false := decide_eq_false c17
        clear c17
        by_cases c25 : t140 ≥ 0
        · rw [if_pos c25] at H
          have c25b0 : decide (0 ≤ t140) = true := decide_eq_true c25
          clear c25
          by_cases c26 : t141 ≥ 0
          · rw [if_pos c26] at H
            have c26b0 : decide (0 ≤ t141) = true := decide_eq_true c26
            clear c26
            by_cases c27 : t142 < 0
            · rw [if_pos c27] at H
              have c27b0 : decide (t142 < 0) = true := decide_eq_true c27
              clear c27
              have H' := Aside0.mk H
              clear H
              go_wp2
              go_meet
              case rel => exact ⟨_, (true), (by first | rfl | (simp; done) | (simp [*]; done)), H', ⟨by first | omega | exact Nat.le_refl _⟩, ⟨by repeat (first | (with_reducible first | exact HB.out | apply below_alloc | apply pw_below_drewN | apply below_drew1) | exact HB.out)⟩⟩
            · rw [if_neg c27] at H
              have c27b0 : decide (t142 < 0) = false := decide_eq_false c27
              clear c27
              by_cases c28 : t140 = 0
              · rw [if_pos c28] at H
                have c28b0 : (t140 == 0) = true := beq_iff_eq.mpr c28
                have c28b1 : (t140 != 0) = false := bne_eq_false_iff_eq.mpr c28
                clear c28
                have H' := Aside0.mk H
                clear H
                go_wp2
                go_meet
                case rel => exact ⟨_, ((t141 != t142)), (by first | rfl | (simp; done) | (simp [*]; done)), H', ⟨by first | omega | exact Nat.le_refl _⟩, ⟨by repeat (first | (with_reducible first | exact HB.out | apply below_alloc | apply pw_below_drewN | apply below_drew1) | exact HB.out)⟩⟩
              · rw [if_neg c28] at H
                have c28b0 : (t140 == 0) = false := beq_eq_false_iff_ne.mpr c28
                have c28b1 : (t140 != 0) = true := bne_iff_ne.mpr c28
                have H' := Aside0.mk H
                clear H
                go_wp2
                go_meet
                case rel => exact ⟨_, (false), (by first | rfl | (simp; done) | (simp [*]; done)), H', ⟨by first | omega | exact Nat.le_refl _⟩, ⟨by repeat (first | (with_reducible first | exact HB.out | apply below_alloc | apply pw_below_drewN | apply below_drew1) | exact HB.out)⟩⟩
          · rw [if_neg c26] at H
            have c26b0 : decide (0 ≤ t141) = false := decide_eq_false c26
            clear c26
            by_cases c29 : t140 = 0
            · rw [if_pos c29] at H
              have c29b0 : (t140 == 0) = true := beq_iff_eq.mpr c29
              have c29b1 : (t140 != 0) = false := bne_eq_false_iff_eq.mpr c29
              clear c29
              have H' := Aside0.mk H
              clear H
              go_wp2
              go_meet
              case rel => exact ⟨_, ((t141 != t142)), (by first | rfl | (simp; done) | (simp [*]; done)), H', ⟨by first | omega | exact Nat.le_refl _⟩, ⟨by repeat (first | (with_reducible first | exact HB.out | apply below_alloc | apply pw_below_drewN | apply below_drew1) | exact HB.out)⟩⟩
            · rw [if_neg c29] at H
              have c29b0 : (t140 == 0) = false := beq_eq_false_iff_ne.mpr c29
              have c29b1 : (t140 != 0) = true := bne_iff_ne.mpr c29
              have H' := Aside0.mk H
              clear H
              go_wp2
              go_meet
              case rel => exact ⟨_, (false), (by first | rfl | (simp; done) | (simp [*]; done)), H', ⟨by first | omega | exact Nat.le_refl _⟩, ⟨by repeat (first | (with_reducible first | exact HB.out | apply below_alloc | apply pw_below_drewN | apply below_drew1) | exact HB.out)⟩⟩
        · rw [if_neg c25] at H
          have c25b0 : decide (0 ≤ t140) = false := decide_eq_false c25
          clear c25
          by_cases c30 : t140 = 0
          · rw [if_pos c30] at H
            have c30b0 : (t140 == 0) = true := beq_iff_eq.mpr c30
            have c30b1 : (t140 != 0) = false := bne_eq_false_iff_eq.mpr c30
            clear c30
            have H' := Aside0.mk H
            clear H
            go_wp2
            go_meet
            case rel => exact ⟨_, ((t141 != t142)), (by first | rfl | (simp; done) | (simp [*]; done)), H', ⟨by first | omega | exact Nat.le_refl _⟩, ⟨by repeat (first | (with_reducible first | exact HB.out | apply below_alloc | apply pw_below_drewN | apply below_drew1) | exact HB.out)⟩⟩
          · rw [if_neg c30] at H
            have c30b0 : (t140 == 0) = false := beq_eq_false_iff_ne.mpr c30
            have c30b1 : (t140 != 0) = true := bne_iff_ne.mpr c30
            have H' := Aside0.mk H
            clear H
            go_wp2
            go_meet
            case rel => exact ⟨_, (false), (by first | rfl | (simp; done) | (simp [*]; done)), H', ⟨by first | omega | exact Nat.le_refl _⟩, ⟨by repeat (first | (with_reducible first | exact HB.out | apply below_alloc | apply pw_below_drewN | apply below_drew1) | exact HB.out)⟩⟩
    · rw [if_neg c16] at H
      have c16b0 : decide (t140 ≤ 0) = false := decide_eq_false c16
      clear c16
      (first | rw [c16b0] | (simp only [i64_w, i32_w]; rw [c16b0]) | rw [c16b2] | skip)
      by_cases c31 : t140 ≥ 0
      · rw [if_pos c31] at H
        have c31b0 : decide (0 ≤ t140) = true := decide_eq_true c31
        clear c31
        by_cases c32 : t141 ≥ 0
        · rw [if_pos c32] at H
          have c32b0 : decide (0 ≤ t141) = true := decide_eq_true c32
          clear c32
          by_cases c33 : t142 < 0
          · rw [if_pos c33] at H
            have c33b0 : decide (t142 < 0) = true := decide_eq_true c33
            clear c33
            have H' := Aside0.mk H
            clear H
            go_wp2
            go_meet
            case rel => exact ⟨_, (true), (by first | rfl | (simp; done) | (simp [*]; done)), H', ⟨by first | omega | exact Nat.le_refl _⟩, ⟨by repeat (first | (with_reducible first | exact HB.out | apply below_alloc | apply pw_below_drewN | apply below_drew1) | exact HB.out)⟩⟩
          · rw [if_neg c33] at H
            have c33b0 : decide (t142 < 0) = false := decide_eq_false c33
            clear c33
            by_cases c34 : t140 = 0
            · rw [if_pos c34] at H
              have c34b0 : (t140 == 0) = true := beq_iff_eq.mpr c34
              have c34b1 : (t140 != 0) = false := bne_eq_false_iff_eq.mpr c34
              clear c34
              have H' := Aside0.mk H
              clear H
              go_wp2
              go_meet
              case rel => exact ⟨_, ((t141 != t142)), (by first | rfl | (simp; done) | (simp [*]; done)), H', ⟨by first | omega | exact Nat.le_refl _⟩, ⟨by repeat (first | (with_reducible first | exact HB.out | apply below_alloc | apply pw_below_drewN | apply below_drew1) | exact HB.out)⟩⟩
            · rw [if_neg c34] at H
              have c34b0 : (t140 == 0) = false := beq_eq_false_iff_ne.mpr c34
              have c34b1 : (t140 != 0) = true := bne_iff_ne.mpr c34
              have H' := Aside0.mk H
              clear H
              go_wp2
              go_meet
              case rel => exact ⟨_, (false), (by first | rfl | (simp; done) | (simp [*]; done)), H', ⟨by first | omega | exact Nat.le_refl _⟩, ⟨by repeat (first | (with_reducible first | exact HB.out | apply below_alloc | apply pw_below_drewN | apply below_drew1) | exact HB.out)⟩⟩
        · rw [if_neg c32] at H
          have c32b0 : decide (0 ≤ t141) = false := decide_eq_false c32
          clear c32
          by_cases c35 : t140 = 0
          · rw [if_pos c35] at H
            have c35b0 : (t140 == 0) = true := beq_iff_eq.mpr c35
            have c35b1 : (t140 != 0) = false := bne_eq_false_iff_eq.mpr c35
            clear c35
            have H' := Aside0.mk H
            clear H
            go_wp2
            go_meet
            case rel => exact ⟨_, ((t141 != t142)), (by first | rfl | (simp; done) | (simp [*]; done)), H', ⟨by first | omega | exact Nat.le_refl _⟩, ⟨by repeat (first | (with_reducible first | exact HB.out | apply below_alloc | apply pw_below_drewN | apply below_drew1) | exact HB.out)⟩⟩
          · rw [if_neg c35] at H
            have c35b0 : (t140 == 0) = false := beq_eq_false_iff_ne.mpr c35
            have c35b1 : (t140 != 0) = true := bne_iff_ne.mpr c35
            have H' := Aside0.mk H
            clear H
            go_wp2
            go_meet
            case rel => exact ⟨_, (false), (by first | rfl | (simp; done) | (simp [*]; done)), H', ⟨by first | omega | exact Nat.le_refl _⟩, ⟨by repeat (first | (with_reducible first | exact HB.out | apply below_alloc | apply pw_below_drewN | apply below_drew1) | exact HB.out)⟩⟩
      · rw [if_neg c31] at H
        have c31b0 : decide (0 ≤ t140) = false := decide_eq_false c31
        clear c31
        by_cases c36 : t140 = 0
        · rw [if_pos c36] at H
          have c36b0 : (t140 == 0) = true := beq_iff_eq.mpr c36
          have c36b1 : (t140 != 0) = false := bne_eq_false_iff_eq.mpr c36
          clear c36
          have H' := Aside0.mk H
          clear H
          go_wp2
          go_meet
          case rel => exact ⟨_, ((t141 != t142)), (by first | rfl | (simp; done) | (simp [*]; done)), H', ⟨by first | omega | exact Nat.le_refl _⟩, ⟨by repeat (first | (with_reducible first | exact HB.out | apply below_alloc | apply pw_below_drewN | apply below_drew1) | exact HB.out)⟩⟩
        · rw [if_neg c36] at H
          have c36b0 : (t140 == 0) = false := beq_eq_false_iff_ne.mpr c36
          have c36b1 : (t140 != 0) = true := bne_iff_ne.mpr c36
          have H' := Aside0.mk H
          clear H
          go_wp2
          go_meet
          case rel => exact ⟨_, (false), (by first | rfl | (simp; done) | (simp [*]; done)), H', ⟨by first | omega | exact Nat.le_refl _⟩, ⟨by repeat (first | (with_reducible first | exact HB.out | apply below_alloc | apply pw_below_drewN | apply below_drew1) | exact HB.out)⟩⟩
  case rest =>
    clear HC11
    try clear c1
    try clear c2
    try clear p2
    try clear c3
    try clear c5
    try clear c16
    try clear c16b0
    try clear c17
    try clear c17b0
    try clear c18
    try clear c18b0
    try clear c19
    try clear c19b0
    try clear c20
    try clear c20b0
    try clear c21
    try clear c21b0
    try clear c22
    try clear c22b0
    try clear c22b1
    try clear c23
    try clear c23b0
    try clear c23b1
    try clear c24
    try clear c24b0
    try clear c24b1
    try clear c25
    try clear c25b0
    try clear c26
    try clear c26b0
    try clear c27
    try clear c27b0
    try clear c28
    try clear c28b0
    try clear c28b1
    try clear c29
    try clear c29b0
    try clear c29b1
    try clear c30
    try clear c30b0
    try clear c30b1
    try clear c31
    try clear c31b0
    try clear c32
    try clear c32b0
    try clear c33
    try clear c33b0
    try clear c34
    try clear c34b0
    try clear c34b1
    try clear c35
    try clear c35b0
    try clear c35b1
    try clear c36
    try clear c36b0
    try clear c36b1
    obtain ⟨kq, x57_10, rfl, HA, HJ10, HB⟩ := hcut
    cases kq with
    | zero => exact absurd HA.out (by simp [isoglosslaw02_AsciiOrders.j0])
    | succ kj10 =>
      have H := HA.out
      clear HA
      simp only [isoglosslaw02_AsciiOrders.j0] at H
      by_cases c37 : x57_10 = true
      · subst c37
        have H1 : (some false) = some r := by rw [if_pos rfl] at H; exact H
        clear H
        have H := H1
        clear H1
        obtain rfl := Option.some.inj H
        go_wp2
        go_ret
        exact ⟨by first | rfl | (simp [errW_none, errW_some] <;> rfl) | (simp [*, errW_none, errW_some] <;> rfl), by repeat (first | (with_reducible first | exact HB.out | apply below_alloc | apply pw_below_drewN | apply below_drew1) | exact HB.out)⟩
      · replace c37 := Bool.eq_false_iff.mpr c37
        subst c37
        have H1 : (if t136 = true then (if t138.toList = ([] : List UInt8) then (some true) else (if t137.size + t138.size ≤ 9223372036854775807 then ((ascii_Compare.f kj10 t137 (t137 ++ t138)).bind fun t143 => (some (t143 == (-1)))) else (none))) else (some false)) = some r := by rw [if_neg (show ¬ (false = true) by decide)] at H; exact H
        clear H
        have H := H1
        clear H1
        by_cases c38 : t136 = true
        · subst c38
          have H1 : (if t138.toList = ([] : List UInt8) then (some true) else (if t137.size + t138.size ≤ 9223372036854775807 then ((ascii_Compare.f kj10 t137 (t137 ++ t138)).bind fun t143 => (some (t143 == (-1)))) else (none))) = some r := by rw [if_pos rfl] at H; exact H
          clear H
          have H := H1
          clear H1
          by_cases c39 : t138.toList = ([] : List UInt8)
          · rw [if_pos c39] at H
            have c39b0 : (t138.toList == ([] : List UInt8)) = true := beq_iff_eq.mpr c39
            have c39b1 : (t138.toList != ([] : List UInt8)) = false := bne_eq_false_iff_eq.mpr c39
            have c39b2 : t138.toList.isEmpty = true := List.isEmpty_iff.mpr c39
            clear c39
            obtain rfl := Option.some.inj H
            go_wp2
            go_ret
            exact ⟨by first | rfl | (simp [errW_none, errW_some] <;> rfl) | (simp [*, errW_none, errW_some] <;> rfl), by repeat (first | (with_reducible first | exact HB.out | apply below_alloc | apply pw_below_drewN | apply below_drew1) | exact HB.out)⟩
          · rw [if_neg c39] at H
            have c39b0 : (t138.toList == ([] : List UInt8)) = false := beq_eq_false_iff_ne.mpr c39
            have c39b1 : (t138.toList != ([] : List UInt8)) = true := bne_iff_ne.mpr c39
            have c39b2 : t138.toList.isEmpty = false := List.isEmpty_eq_false_iff.mpr c39
            by_cases c40 : t137.size + t138.size ≤ 9223372036854775807
            · rw [if_pos c40] at H
              have c40b0 := eq_true c40
              have c40b1 : decide (t137.size + t138.size ≤ 9223372036854775807) = true := decide_eq_true c40
              try have c40b2 : (9223372036854775807 < t137.size + t138.size) = False := eq_false (Nat.not_lt.2 c40)
              replace H := Option.bind_eq_some_iff.mp H
              obtain ⟨t143, A410, H⟩ := H
              replace H : (some (t143 == (-1))) = some r := H
              have A41 := Aside0.mk A410
              clear A410
              obtain rfl := Option.some.inj H
              go_wp2_with (first | (go_at_call 19; (with_reducible refine (ascii_Compare.calls kj10 t137 (t137 ++ t138) t143 _ A41.out).mono ?_); rintro e w42 ⟨rfl, hb⟩; have n0_ := Aside0.mk (below_step (by repeat (first | (with_reducible first | exact HB.out | apply below_alloc | apply pw_below_drewN | apply below_drew1) | exact HB.out)) hb); clear HB; have HB := n0_; clear n0_; (try clear hb); (try clear hb2); (try clear hk); (try clear hi); (try clear A41)))
              go_ret
              exact ⟨by first | rfl | (simp [errW_none, errW_some] <;> rfl) | (simp [*, errW_none, errW_some] <;> rfl), by repeat (first | (with_reducible first | exact HB.out | apply below_alloc | apply pw_below_drewN | apply below_drew1) | exact HB.out)⟩
            · rw [if_neg c40] at H
              exact absurd H (by simp)
        · replace c38 := Bool.eq_false_iff.mpr c38
          subst c38
          have H1 : (some false) = some r := by rw [if_neg (show ¬ (false = true) by decide)] at H; exact H
          clear H
          have H := H1
          clear H1
          obtain rfl := Option.some.inj H
          go_wp2
          go_ret
          exact ⟨by first | rfl | (simp [errW_none, errW_some] <;> rfl) | (simp [*, errW_none, errW_some] <;> rfl), by repeat (first | (with_reducible first | exact HB.out | apply below_alloc | apply pw_below_drewN | apply below_drew1) | exact HB.out)⟩

/-- THE ONE PURE STATEMENT of isoglosslaw02_AsciiOrders: yours. -/
def isoglosslaw02_AsciiOrders.Pure : Prop := ∀ (a0 : ByteArray) (a1 : ByteArray) (a2 : ByteArray), a0.size ≤ 140737488351232 → a1.size ≤ 140737488351232 → a2.size ≤ 140737488351232 → ∃ k, isoglosslaw02_AsciiOrders.f k a0 a1 a2 = some true
theorem isoglosslaw02_AsciiOrders.walk (P : isoglosslaw02_AsciiOrders.Pure) (a0 : ByteArray) (a1 : ByteArray) (a2 : ByteArray) (w : World) (w0 : a0.size ≤ 140737488351232) (w1 : a1.size ≤ 140737488351232) (w2 : a2.size ≤ 140737488351232) :
    Calls Try.prog 5 #[.string a0, .string a1, .string a2] w fun e w' => e = .returned (.bool true) ∧ Below w.heap.size w w' := by
  obtain ⟨k, h⟩ := P a0 a1 a2 w0 w1 w2
  refine (isoglosslaw02_AsciiOrders.calls k a0 a1 a2 true w h).mono ?_
  rintro e w' ⟨rfl, hd⟩
  exact ⟨rfl, hd⟩

/-! ### ascii_Upper: function 21 -/
def ascii_Upper.f (a0 : ByteArray) : Option (ByteArray) := if a0.size ≤ 140737488351232 then some (strOfNums (Each.eachF Each.upF a0)) else none
theorem ascii_Upper.calls (a0 : ByteArray) (r : ByteArray) (w : World) (h : ascii_Upper.f a0 = some r) :
    Calls Try.prog 21 #[.string a0] w fun e w' => e = .returned (.string r) ∧ Below w.heap.size w w' := by
  unfold ascii_Upper.f at h
  by_cases hs : a0.size ≤ 140737488351232
  · rw [if_pos hs] at h
    obtain rfl := Option.some.inj h
    exact Each.case_up a0 w hs
  · rw [if_neg hs] at h
    cases h

/-! ### isoglosslaw02_AsciiCompares: function 6 -/
def isoglosslaw02_AsciiCompares.f (k : Nat) (a0 : ByteArray) (a1 : ByteArray) : Option (Bool) := (isoglosslaw02_awake.f k).bind fun t144 => ((isoglosslaw02_short.f a0).bind fun t145 => ((isoglosslaw02_short.f a1).bind fun t146 => ((ascii_Compare.f k t145 t146).bind fun t147 => (if t144 = true then ((isoglossref02_Compare.f k t145 t146).bind fun t148 => (if t147 = t148 then ((ascii_Compare.f k t146 t145).bind fun t149 => (if t149 = (wrap64 (-t147)) then ((ascii_Same.f k t145 t146).bind fun t150 => (if (t150 == (t147 == 0)) = true then ((ascii_Upper.f t145).bind fun t151 => ((ascii_Lower.f t146).bind fun t152 => ((ascii_Compare.f k t151 t152).bind fun t153 => (if t153 = t147 then ((ascii_Title.f t145).bind fun t154 => ((ascii_Same.f k t145 t154).bind fun t155 => (some t155))) else (some false))))) else (some false))) else (some false))) else (some false))) else (some false)))))
theorem isoglosslaw02_AsciiCompares.mono : ∀ a0 a1 k, LeO (isoglosslaw02_AsciiCompares.f k a0 a1) (isoglosslaw02_AsciiCompares.f (k + 1) a0 a1) := by
  intro a0 a1 k
  unfold isoglosslaw02_AsciiCompares.f
  repeat' first
      | (with_reducible exact ascii_Compare.mono _ _ _)
      | (with_reducible exact ascii_Same.mono _ _ _)
      | (with_reducible exact isoglosslaw02_awake.mono _)
      | (with_reducible exact isoglossref02_Compare.mono _ _ _)
      | (with_reducible exact LeO.refl _)
      | (with_reducible exact LeO.none _)
      | (with_reducible refine LeO.ite ?_ ?_)
      | (with_reducible refine LeO.bind ?_ (fun _ => ?_))
      | exact ascii_Compare.mono _ _ _
      | exact ascii_Same.mono _ _ _
      | exact isoglosslaw02_awake.mono _
      | exact isoglossref02_Compare.mono _ _ _
      | exact LeO.none _
      | refine LeO.ite ?_ ?_
      | refine LeO.bind ?_ (fun _ => ?_)
set_option maxHeartbeats 8000000 in
set_option maxRecDepth 100000 in
theorem isoglosslaw02_AsciiCompares.calls (k : Nat) (a0 : ByteArray) (a1 : ByteArray) (r : Bool) (w : World) (h : isoglosslaw02_AsciiCompares.f k a0 a1 = some r) :
    Calls Try.prog 6 #[.string a0, .string a1] w fun e w' => e = .returned (.bool r) ∧ Below w.heap.size w w' := by
  have HB := Aside0.mk (Below.refl w.heap.size w)
  have H : ((isoglosslaw02_awake.f k).bind fun t144 => ((isoglosslaw02_short.f a0).bind fun t145 => ((isoglosslaw02_short.f a1).bind fun t146 => ((ascii_Compare.f k t145 t146).bind fun t147 => (if t144 = true then ((isoglossref02_Compare.f k t145 t146).bind fun t148 => (if t147 = t148 then ((ascii_Compare.f k t146 t145).bind fun t149 => (if t149 = (wrap64 (-t147)) then ((ascii_Same.f k t145 t146).bind fun t150 => (if (t150 == (t147 == 0)) = true then ((ascii_Upper.f t145).bind fun t151 => ((ascii_Lower.f t146).bind fun t152 => ((ascii_Compare.f k t151 t152).bind fun t153 => (if t153 = t147 then ((ascii_Title.f t145).bind fun t154 => ((ascii_Same.f k t145 t154).bind fun t155 => (some t155))) else (some false))))) else (some false))) else (some false))) else (some false))) else (some false)))))) = some r := h
  clear h
  replace H := Option.bind_eq_some_iff.mp H
  obtain ⟨t144, A30, H⟩ := H
  replace H : ((isoglosslaw02_short.f a0).bind fun t145 => ((isoglosslaw02_short.f a1).bind fun t146 => ((ascii_Compare.f k t145 t146).bind fun t147 => (if t144 = true then ((isoglossref02_Compare.f k t145 t146).bind fun t148 => (if t147 = t148 then ((ascii_Compare.f k t146 t145).bind fun t149 => (if t149 = (wrap64 (-t147)) then ((ascii_Same.f k t145 t146).bind fun t150 => (if (t150 == (t147 == 0)) = true then ((ascii_Upper.f t145).bind fun t151 => ((ascii_Lower.f t146).bind fun t152 => ((ascii_Compare.f k t151 t152).bind fun t153 => (if t153 = t147 then ((ascii_Title.f t145).bind fun t154 => ((ascii_Same.f k t145 t154).bind fun t155 => (some t155))) else (some false))))) else (some false))) else (some false))) else (some false))) else (some false))))) = some r := H
  have A3 := Aside0.mk A30
  clear A30
  replace H := Option.bind_eq_some_iff.mp H
  obtain ⟨t145, A40, H⟩ := H
  replace H : ((isoglosslaw02_short.f a1).bind fun t146 => ((ascii_Compare.f k t145 t146).bind fun t147 => (if t144 = true then ((isoglossref02_Compare.f k t145 t146).bind fun t148 => (if t147 = t148 then ((ascii_Compare.f k t146 t145).bind fun t149 => (if t149 = (wrap64 (-t147)) then ((ascii_Same.f k t145 t146).bind fun t150 => (if (t150 == (t147 == 0)) = true then ((ascii_Upper.f t145).bind fun t151 => ((ascii_Lower.f t146).bind fun t152 => ((ascii_Compare.f k t151 t152).bind fun t153 => (if t153 = t147 then ((ascii_Title.f t145).bind fun t154 => ((ascii_Same.f k t145 t154).bind fun t155 => (some t155))) else (some false))))) else (some false))) else (some false))) else (some false))) else (some false)))) = some r := H
  have A4 := Aside0.mk A40
  clear A40
  replace H := Option.bind_eq_some_iff.mp H
  obtain ⟨t146, A50, H⟩ := H
  replace H : ((ascii_Compare.f k t145 t146).bind fun t147 => (if t144 = true then ((isoglossref02_Compare.f k t145 t146).bind fun t148 => (if t147 = t148 then ((ascii_Compare.f k t146 t145).bind fun t149 => (if t149 = (wrap64 (-t147)) then ((ascii_Same.f k t145 t146).bind fun t150 => (if (t150 == (t147 == 0)) = true then ((ascii_Upper.f t145).bind fun t151 => ((ascii_Lower.f t146).bind fun t152 => ((ascii_Compare.f k t151 t152).bind fun t153 => (if t153 = t147 then ((ascii_Title.f t145).bind fun t154 => ((ascii_Same.f k t145 t154).bind fun t155 => (some t155))) else (some false))))) else (some false))) else (some false))) else (some false))) else (some false))) = some r := H
  have A5 := Aside0.mk A50
  clear A50
  replace H := Option.bind_eq_some_iff.mp H
  obtain ⟨t147, A60, H⟩ := H
  replace H : (if t144 = true then ((isoglossref02_Compare.f k t145 t146).bind fun t148 => (if t147 = t148 then ((ascii_Compare.f k t146 t145).bind fun t149 => (if t149 = (wrap64 (-t147)) then ((ascii_Same.f k t145 t146).bind fun t150 => (if (t150 == (t147 == 0)) = true then ((ascii_Upper.f t145).bind fun t151 => ((ascii_Lower.f t146).bind fun t152 => ((ascii_Compare.f k t151 t152).bind fun t153 => (if t153 = t147 then ((ascii_Title.f t145).bind fun t154 => ((ascii_Same.f k t145 t154).bind fun t155 => (some t155))) else (some false))))) else (some false))) else (some false))) else (some false))) else (some false)) = some r := H
  have A6 := Aside0.mk A60
  clear A60
  by_cases c7 : t144 = true
  · subst c7
    have H1 : ((isoglossref02_Compare.f k t145 t146).bind fun t148 => (if t147 = t148 then ((ascii_Compare.f k t146 t145).bind fun t149 => (if t149 = (wrap64 (-t147)) then ((ascii_Same.f k t145 t146).bind fun t150 => (if (t150 == (t147 == 0)) = true then ((ascii_Upper.f t145).bind fun t151 => ((ascii_Lower.f t146).bind fun t152 => ((ascii_Compare.f k t151 t152).bind fun t153 => (if t153 = t147 then ((ascii_Title.f t145).bind fun t154 => ((ascii_Same.f k t145 t154).bind fun t155 => (some t155))) else (some false))))) else (some false))) else (some false))) else (some false))) = some r := by rw [if_pos rfl] at H; exact H
    clear H
    have H := H1
    clear H1
    replace H := Option.bind_eq_some_iff.mp H
    obtain ⟨t148, A80, H⟩ := H
    replace H : (if t147 = t148 then ((ascii_Compare.f k t146 t145).bind fun t149 => (if t149 = (wrap64 (-t147)) then ((ascii_Same.f k t145 t146).bind fun t150 => (if (t150 == (t147 == 0)) = true then ((ascii_Upper.f t145).bind fun t151 => ((ascii_Lower.f t146).bind fun t152 => ((ascii_Compare.f k t151 t152).bind fun t153 => (if t153 = t147 then ((ascii_Title.f t145).bind fun t154 => ((ascii_Same.f k t145 t154).bind fun t155 => (some t155))) else (some false))))) else (some false))) else (some false))) else (some false)) = some r := H
    have A8 := Aside0.mk A80
    clear A80
    by_cases c9 : t147 = t148
    · rw [if_pos c9] at H
      have c9b0 : (t147 == t148) = true := beq_iff_eq.mpr c9
      have c9b1 : (t147 != t148) = false := bne_eq_false_iff_eq.mpr c9
      clear c9
      replace H := Option.bind_eq_some_iff.mp H
      obtain ⟨t149, A100, H⟩ := H
      replace H : (if t149 = (wrap64 (-t147)) then ((ascii_Same.f k t145 t146).bind fun t150 => (if (t150 == (t147 == 0)) = true then ((ascii_Upper.f t145).bind fun t151 => ((ascii_Lower.f t146).bind fun t152 => ((ascii_Compare.f k t151 t152).bind fun t153 => (if t153 = t147 then ((ascii_Title.f t145).bind fun t154 => ((ascii_Same.f k t145 t154).bind fun t155 => (some t155))) else (some false))))) else (some false))) else (some false)) = some r := H
      have A10 := Aside0.mk A100
      clear A100
      by_cases c11 : t149 = (wrap64 (-t147))
      · rw [if_pos c11] at H
        have c11b0 : (t149 == (wrap64 (-t147))) = true := beq_iff_eq.mpr c11
        have c11b1 : (t149 != (wrap64 (-t147))) = false := bne_eq_false_iff_eq.mpr c11
        clear c11
        replace H := Option.bind_eq_some_iff.mp H
        obtain ⟨t150, A120, H⟩ := H
        replace H : (if (t150 == (t147 == 0)) = true then ((ascii_Upper.f t145).bind fun t151 => ((ascii_Lower.f t146).bind fun t152 => ((ascii_Compare.f k t151 t152).bind fun t153 => (if t153 = t147 then ((ascii_Title.f t145).bind fun t154 => ((ascii_Same.f k t145 t154).bind fun t155 => (some t155))) else (some false))))) else (some false)) = some r := H
        have A12 := Aside0.mk A120
        clear A120
        by_cases c13 : (t150 == (t147 == 0)) = true
        · rw [if_pos c13] at H
          have c13b0 : (t150 == (t147 == 0)) = true := c13
          (try (have c13b1 : decide (t150 = (t147 == 0)) = true := by simpa using c13))
          (try (have c13b2 : (t150 == (t147 == 0)) = true := by simpa using c13))
          clear c13
          replace H := Option.bind_eq_some_iff.mp H
          obtain ⟨t151, A140, H⟩ := H
          replace H : ((ascii_Lower.f t146).bind fun t152 => ((ascii_Compare.f k t151 t152).bind fun t153 => (if t153 = t147 then ((ascii_Title.f t145).bind fun t154 => ((ascii_Same.f k t145 t154).bind fun t155 => (some t155))) else (some false)))) = some r := H
          have A14 := Aside0.mk A140
          clear A140
          replace H := Option.bind_eq_some_iff.mp H
          obtain ⟨t152, A150, H⟩ := H
          replace H : ((ascii_Compare.f k t151 t152).bind fun t153 => (if t153 = t147 then ((ascii_Title.f t145).bind fun t154 => ((ascii_Same.f k t145 t154).bind fun t155 => (some t155))) else (some false))) = some r := H
          have A15 := Aside0.mk A150
          clear A150
          replace H := Option.bind_eq_some_iff.mp H
          obtain ⟨t153, A160, H⟩ := H
          replace H : (if t153 = t147 then ((ascii_Title.f t145).bind fun t154 => ((ascii_Same.f k t145 t154).bind fun t155 => (some t155))) else (some false)) = some r := H
          have A16 := Aside0.mk A160
          clear A160
          by_cases c17 : t153 = t147
          · rw [if_pos c17] at H
            have c17b0 : (t153 == t147) = true := beq_iff_eq.mpr c17
            have c17b1 : (t153 != t147) = false := bne_eq_false_iff_eq.mpr c17
            clear c17
            replace H := Option.bind_eq_some_iff.mp H
            obtain ⟨t154, A180, H⟩ := H
            replace H : ((ascii_Same.f k t145 t154).bind fun t155 => (some t155)) = some r := H
            have A18 := Aside0.mk A180
            clear A180
            replace H := Option.bind_eq_some_iff.mp H
            obtain ⟨t155, A190, H⟩ := H
            replace H : (some t155) = some r := H
            have A19 := Aside0.mk A190
            clear A190
            obtain rfl := Option.some.inj H
            go_enter Try.func6, Try.ntmps6
            go_wp2_with (first | ((with_reducible refine gate_callee (f := 17) rfl ?_); refine goesL_ (some 7) rfl rfl Try.func17 (by kernel_rfl) rfl #[] rfl (by (try simp only [List.map_toArray, List.map_cons, List.map_nil]); first | done | rfl | (simp only [List.length_drop, List.length_take]; rfl)) ?_; (with_reducible refine (isoglosslaw02_awake.calls k  true _ A3.out).mono ?_); rintro e w20 ⟨rfl, hb⟩; refine ⟨_, rfl, ?_⟩; have n0_ := Aside0.mk (below_step (by repeat (first | (with_reducible first | exact HB.out | apply below_alloc | apply pw_below_drewN | apply below_drew1) | exact HB.out)) hb); clear HB; have HB := n0_; clear n0_; (try clear hb); (try clear hb2); (try clear hk); (try clear hi); (try clear A3)) | ((with_reducible refine gate_callee (f := 18) rfl ?_); refine goesL_ (some 9) rfl rfl Try.func18 (by kernel_rfl) rfl #[.string a0] rfl (by (try simp only [List.map_toArray, List.map_cons, List.map_nil]); first | done | rfl | (simp only [List.length_drop, List.length_take]; rfl)) ?_; (with_reducible refine (isoglosslaw02_short.calls a0 t145 _ A4.out).mono ?_); rintro e w' ⟨rfl, ⟨nd, rfl⟩⟩; refine ⟨_, rfl, ?_⟩; (try clear A4)) | ((with_reducible refine gate_callee (f := 18) rfl ?_); refine goesL_ (some 11) rfl rfl Try.func18 (by kernel_rfl) rfl #[.string a1] rfl (by (try simp only [List.map_toArray, List.map_cons, List.map_nil]); first | done | rfl | (simp only [List.length_drop, List.length_take]; rfl)) ?_; (with_reducible refine (isoglosslaw02_short.calls a1 t146 _ A5.out).mono ?_); rintro e w' ⟨rfl, ⟨nd, rfl⟩⟩; refine ⟨_, rfl, ?_⟩; (try clear A5)) | ((with_reducible refine gate_callee (f := 19) rfl ?_); refine goesL_ (some 14) rfl rfl Try.func19 (by kernel_rfl) rfl #[.string t145, .string t146] rfl (by (try simp only [List.map_toArray, List.map_cons, List.map_nil]); first | done | rfl | (simp only [List.length_drop, List.length_take]; rfl)) ?_; (with_reducible refine (ascii_Compare.calls k t145 t146 t147 _ A6.out).mono ?_); rintro e w21 ⟨rfl, hb⟩; refine ⟨_, rfl, ?_⟩; have n0_ := Aside0.mk (below_step (by repeat (first | (with_reducible first | exact HB.out | apply below_alloc | apply pw_below_drewN | apply below_drew1) | exact HB.out)) hb); clear HB; have HB := n0_; clear n0_; (try clear hb); (try clear hb2); (try clear hk); (try clear hi); (try clear A6)) | (go_at_call 15; (with_reducible refine (isoglossref02_Compare.calls k t145 t146 t148 _ A8.out).mono ?_); rintro e w22 ⟨rfl, hb⟩; have n0_ := Aside0.mk (below_step (by repeat (first | (with_reducible first | exact HB.out | apply below_alloc | apply pw_below_drewN | apply below_drew1) | exact HB.out)) hb); clear HB; have HB := n0_; clear n0_; (try clear hb); (try clear hb2); (try clear hk); (try clear hi); (try clear A8)) | (go_at_call 19; (with_reducible refine (ascii_Compare.calls k t146 t145 t149 _ A10.out).mono ?_); rintro e w23 ⟨rfl, hb⟩; have n0_ := Aside0.mk (below_step (by repeat (first | (with_reducible first | exact HB.out | apply below_alloc | apply pw_below_drewN | apply below_drew1) | exact HB.out)) hb); clear HB; have HB := n0_; clear n0_; (try clear hb); (try clear hb2); (try clear hk); (try clear hi); (try clear A10)) | (go_at_call 20; (with_reducible refine (ascii_Same.calls k t145 t146 t150 _ A12.out).mono ?_); rintro e w24 ⟨rfl, hb⟩; have n0_ := Aside0.mk (below_step (by repeat (first | (with_reducible first | exact HB.out | apply below_alloc | apply pw_below_drewN | apply below_drew1) | exact HB.out)) hb); clear HB; have HB := n0_; clear n0_; (try clear hb); (try clear hb2); (try clear hk); (try clear hi); (try clear A12)) | (go_at_call 21; (with_reducible refine (ascii_Upper.calls t145 t151 _ A14.out).mono ?_); rintro e w25 ⟨rfl, hb⟩; have n0_ := Aside0.mk (below_step (by repeat (first | (with_reducible first | exact HB.out | apply below_alloc | apply pw_below_drewN | apply below_drew1) | exact HB.out)) hb); clear HB; have HB := n0_; clear n0_; (try clear hb); (try clear hb2); (try clear hk); (try clear hi); (try clear A14)) | (go_at_call 22; (with_reducible refine (ascii_Lower.calls t146 t152 _ A15.out).mono ?_); rintro e w26 ⟨rfl, hb⟩; have n0_ := Aside0.mk (below_step (by repeat (first | (with_reducible first | exact HB.out | apply below_alloc | apply pw_below_drewN | apply below_drew1) | exact HB.out)) hb); clear HB; have HB := n0_; clear n0_; (try clear hb); (try clear hb2); (try clear hk); (try clear hi); (try clear A15)) | (go_at_call 19; (with_reducible refine (ascii_Compare.calls k t151 t152 t153 _ A16.out).mono ?_); rintro e w27 ⟨rfl, hb⟩; have n0_ := Aside0.mk (below_step (by repeat (first | (with_reducible first | exact HB.out | apply below_alloc | apply pw_below_drewN | apply below_drew1) | exact HB.out)) hb); clear HB; have HB := n0_; clear n0_; (try clear hb); (try clear hb2); (try clear hk); (try clear hi); (try clear A16)) | (go_at_call 23; (with_reducible refine (ascii_Title.calls t145 t154 _ A18.out).mono ?_); rintro e w28 ⟨rfl, hb⟩; have n0_ := Aside0.mk (below_step (by repeat (first | (with_reducible first | exact HB.out | apply below_alloc | apply pw_below_drewN | apply below_drew1) | exact HB.out)) hb); clear HB; have HB := n0_; clear n0_; (try clear hb); (try clear hb2); (try clear hk); (try clear hi); (try clear A18)) | (go_at_call 20; (with_reducible refine (ascii_Same.calls k t145 t154 t155 _ A19.out).mono ?_); rintro e w29 ⟨rfl, hb⟩; have n0_ := Aside0.mk (below_step (by repeat (first | (with_reducible first | exact HB.out | apply below_alloc | apply pw_below_drewN | apply below_drew1) | exact HB.out)) hb); clear HB; have HB := n0_; clear n0_; (try clear hb); (try clear hb2); (try clear hk); (try clear hi); (try clear A19)))
            go_ret
            exact ⟨by first | rfl | (simp [errW_none, errW_some] <;> rfl) | (simp [*, errW_none, errW_some] <;> rfl), by repeat (first | (with_reducible first | exact HB.out | apply below_alloc | apply pw_below_drewN | apply below_drew1) | exact HB.out)⟩
          · rw [if_neg c17] at H
            have c17b0 : (t153 == t147) = false := beq_eq_false_iff_ne.mpr c17
            have c17b1 : (t153 != t147) = true := bne_iff_ne.mpr c17
            obtain rfl := Option.some.inj H
            go_enter Try.func6, Try.ntmps6
            go_wp2_with (first | ((with_reducible refine gate_callee (f := 17) rfl ?_); refine goesL_ (some 7) rfl rfl Try.func17 (by kernel_rfl) rfl #[] rfl (by (try simp only [List.map_toArray, List.map_cons, List.map_nil]); first | done | rfl | (simp only [List.length_drop, List.length_take]; rfl)) ?_; (with_reducible refine (isoglosslaw02_awake.calls k  true _ A3.out).mono ?_); rintro e w30 ⟨rfl, hb⟩; refine ⟨_, rfl, ?_⟩; have n0_ := Aside0.mk (below_step (by repeat (first | (with_reducible first | exact HB.out | apply below_alloc | apply pw_below_drewN | apply below_drew1) | exact HB.out)) hb); clear HB; have HB := n0_; clear n0_; (try clear hb); (try clear hb2); (try clear hk); (try clear hi); (try clear A3)) | ((with_reducible refine gate_callee (f := 18) rfl ?_); refine goesL_ (some 9) rfl rfl Try.func18 (by kernel_rfl) rfl #[.string a0] rfl (by (try simp only [List.map_toArray, List.map_cons, List.map_nil]); first | done | rfl | (simp only [List.length_drop, List.length_take]; rfl)) ?_; (with_reducible refine (isoglosslaw02_short.calls a0 t145 _ A4.out).mono ?_); rintro e w' ⟨rfl, ⟨nd, rfl⟩⟩; refine ⟨_, rfl, ?_⟩; (try clear A4)) | ((with_reducible refine gate_callee (f := 18) rfl ?_); refine goesL_ (some 11) rfl rfl Try.func18 (by kernel_rfl) rfl #[.string a1] rfl (by (try simp only [List.map_toArray, List.map_cons, List.map_nil]); first | done | rfl | (simp only [List.length_drop, List.length_take]; rfl)) ?_; (with_reducible refine (isoglosslaw02_short.calls a1 t146 _ A5.out).mono ?_); rintro e w' ⟨rfl, ⟨nd, rfl⟩⟩; refine ⟨_, rfl, ?_⟩; (try clear A5)) | ((with_reducible refine gate_callee (f := 19) rfl ?_); refine goesL_ (some 14) rfl rfl Try.func19 (by kernel_rfl) rfl #[.string t145, .string t146] rfl (by (try simp only [List.map_toArray, List.map_cons, List.map_nil]); first | done | rfl | (simp only [List.length_drop, List.length_take]; rfl)) ?_; (with_reducible refine (ascii_Compare.calls k t145 t146 t147 _ A6.out).mono ?_); rintro e w31 ⟨rfl, hb⟩; refine ⟨_, rfl, ?_⟩; have n0_ := Aside0.mk (below_step (by repeat (first | (with_reducible first | exact HB.out | apply below_alloc | apply pw_below_drewN | apply below_drew1) | exact HB.out)) hb); clear HB; have HB := n0_; clear n0_; (try clear hb); (try clear hb2); (try clear hk); (try clear hi); (try clear A6)) | (go_at_call 15; (with_reducible refine (isoglossref02_Compare.calls k t145 t146 t148 _ A8.out).mono ?_); rintro e w32 ⟨rfl, hb⟩; have n0_ := Aside0.mk (below_step (by repeat (first | (with_reducible first | exact HB.out | apply below_alloc | apply pw_below_drewN | apply below_drew1) | exact HB.out)) hb); clear HB; have HB := n0_; clear n0_; (try clear hb); (try clear hb2); (try clear hk); (try clear hi); (try clear A8)) | (go_at_call 19; (with_reducible refine (ascii_Compare.calls k t146 t145 t149 _ A10.out).mono ?_); rintro e w33 ⟨rfl, hb⟩; have n0_ := Aside0.mk (below_step (by repeat (first | (with_reducible first | exact HB.out | apply below_alloc | apply pw_below_drewN | apply below_drew1) | exact HB.out)) hb); clear HB; have HB := n0_; clear n0_; (try clear hb); (try clear hb2); (try clear hk); (try clear hi); (try clear A10)) | (go_at_call 20; (with_reducible refine (ascii_Same.calls k t145 t146 t150 _ A12.out).mono ?_); rintro e w34 ⟨rfl, hb⟩; have n0_ := Aside0.mk (below_step (by repeat (first | (with_reducible first | exact HB.out | apply below_alloc | apply pw_below_drewN | apply below_drew1) | exact HB.out)) hb); clear HB; have HB := n0_; clear n0_; (try clear hb); (try clear hb2); (try clear hk); (try clear hi); (try clear A12)) | (go_at_call 21; (with_reducible refine (ascii_Upper.calls t145 t151 _ A14.out).mono ?_); rintro e w35 ⟨rfl, hb⟩; have n0_ := Aside0.mk (below_step (by repeat (first | (with_reducible first | exact HB.out | apply below_alloc | apply pw_below_drewN | apply below_drew1) | exact HB.out)) hb); clear HB; have HB := n0_; clear n0_; (try clear hb); (try clear hb2); (try clear hk); (try clear hi); (try clear A14)) | (go_at_call 22; (with_reducible refine (ascii_Lower.calls t146 t152 _ A15.out).mono ?_); rintro e w36 ⟨rfl, hb⟩; have n0_ := Aside0.mk (below_step (by repeat (first | (with_reducible first | exact HB.out | apply below_alloc | apply pw_below_drewN | apply below_drew1) | exact HB.out)) hb); clear HB; have HB := n0_; clear n0_; (try clear hb); (try clear hb2); (try clear hk); (try clear hi); (try clear A15)) | (go_at_call 19; (with_reducible refine (ascii_Compare.calls k t151 t152 t153 _ A16.out).mono ?_); rintro e w37 ⟨rfl, hb⟩; have n0_ := Aside0.mk (below_step (by repeat (first | (with_reducible first | exact HB.out | apply below_alloc | apply pw_below_drewN | apply below_drew1) | exact HB.out)) hb); clear HB; have HB := n0_; clear n0_; (try clear hb); (try clear hb2); (try clear hk); (try clear hi); (try clear A16)))
            go_ret
            exact ⟨by first | rfl | (simp [errW_none, errW_some] <;> rfl) | (simp [*, errW_none, errW_some] <;> rfl), by repeat (first | (with_reducible first | exact HB.out | apply below_alloc | apply pw_below_drewN | apply below_drew1) | exact HB.out)⟩
        · rw [if_neg c13] at H
          have c13b0 : (t150 == (t147 == 0)) = false := by simpa using c13
          (try (have c13b1 : decide (t150 = (t147 == 0)) = false := by simpa using c13))
          (try (have c13b2 : (t150 == (t147 == 0)) = false := by simpa using c13))
          (try (have c13b3 : ¬ (t150 = (t147 == 0)) := by simpa using c13))
          clear c13
          obtain rfl := Option.some.inj H
          go_enter Try.func6, Try.ntmps6
          go_wp2_with (first | ((with_reducible refine gate_callee (f := 17) rfl ?_); refine goesL_ (some 7) rfl rfl Try.func17 (by kernel_rfl) rfl #[] rfl (by (try simp only [List.map_toArray, List.map_cons, List.map_nil]); first | done | rfl | (simp only [List.length_drop, List.length_take]; rfl)) ?_; (with_reducible refine (isoglosslaw02_awake.calls k  true _ A3.out).mono ?_); rintro e w38 ⟨rfl, hb⟩; refine ⟨_, rfl, ?_⟩; have n0_ := Aside0.mk (below_step (by repeat (first | (with_reducible first | exact HB.out | apply below_alloc | apply pw_below_drewN | apply below_drew1) | exact HB.out)) hb); clear HB; have HB := n0_; clear n0_; (try clear hb); (try clear hb2); (try clear hk); (try clear hi); (try clear A3)) | ((with_reducible refine gate_callee (f := 18) rfl ?_); refine goesL_ (some 9) rfl rfl Try.func18 (by kernel_rfl) rfl #[.string a0] rfl (by (try simp only [List.map_toArray, List.map_cons, List.map_nil]); first | done | rfl | (simp only [List.length_drop, List.length_take]; rfl)) ?_; (with_reducible refine (isoglosslaw02_short.calls a0 t145 _ A4.out).mono ?_); rintro e w' ⟨rfl, ⟨nd, rfl⟩⟩; refine ⟨_, rfl, ?_⟩; (try clear A4)) | ((with_reducible refine gate_callee (f := 18) rfl ?_); refine goesL_ (some 11) rfl rfl Try.func18 (by kernel_rfl) rfl #[.string a1] rfl (by (try simp only [List.map_toArray, List.map_cons, List.map_nil]); first | done | rfl | (simp only [List.length_drop, List.length_take]; rfl)) ?_; (with_reducible refine (isoglosslaw02_short.calls a1 t146 _ A5.out).mono ?_); rintro e w' ⟨rfl, ⟨nd, rfl⟩⟩; refine ⟨_, rfl, ?_⟩; (try clear A5)) | ((with_reducible refine gate_callee (f := 19) rfl ?_); refine goesL_ (some 14) rfl rfl Try.func19 (by kernel_rfl) rfl #[.string t145, .string t146] rfl (by (try simp only [List.map_toArray, List.map_cons, List.map_nil]); first | done | rfl | (simp only [List.length_drop, List.length_take]; rfl)) ?_; (with_reducible refine (ascii_Compare.calls k t145 t146 t147 _ A6.out).mono ?_); rintro e w39 ⟨rfl, hb⟩; refine ⟨_, rfl, ?_⟩; have n0_ := Aside0.mk (below_step (by repeat (first | (with_reducible first | exact HB.out | apply below_alloc | apply pw_below_drewN | apply below_drew1) | exact HB.out)) hb); clear HB; have HB := n0_; clear n0_; (try clear hb); (try clear hb2); (try clear hk); (try clear hi); (try clear A6)) | (go_at_call 15; (with_reducible refine (isoglossref02_Compare.calls k t145 t146 t148 _ A8.out).mono ?_); rintro e w40 ⟨rfl, hb⟩; have n0_ := Aside0.mk (below_step (by repeat (first | (with_reducible first | exact HB.out | apply below_alloc | apply pw_below_drewN | apply below_drew1) | exact HB.out)) hb); clear HB; have HB := n0_; clear n0_; (try clear hb); (try clear hb2); (try clear hk); (try clear hi); (try clear A8)) | (go_at_call 19; (with_reducible refine (ascii_Compare.calls k t146 t145 t149 _ A10.out).mono ?_); rintro e w41 ⟨rfl, hb⟩; have n0_ := Aside0.mk (below_step (by repeat (first | (with_reducible first | exact HB.out | apply below_alloc | apply pw_below_drewN | apply below_drew1) | exact HB.out)) hb); clear HB; have HB := n0_; clear n0_; (try clear hb); (try clear hb2); (try clear hk); (try clear hi); (try clear A10)) | (go_at_call 20; (with_reducible refine (ascii_Same.calls k t145 t146 t150 _ A12.out).mono ?_); rintro e w42 ⟨rfl, hb⟩; have n0_ := Aside0.mk (below_step (by repeat (first | (with_reducible first | exact HB.out | apply below_alloc | apply pw_below_drewN | apply below_drew1) | exact HB.out)) hb); clear HB; have HB := n0_; clear n0_; (try clear hb); (try clear hb2); (try clear hk); (try clear hi); (try clear A12)))
          go_ret
          exact ⟨by first | rfl | (simp [errW_none, errW_some] <;> rfl) | (simp [*, errW_none, errW_some] <;> rfl), by repeat (first | (with_reducible first | exact HB.out | apply below_alloc | apply pw_below_drewN | apply below_drew1) | exact HB.out)⟩
      · rw [if_neg c11] at H
        have c11b0 : (t149 == (wrap64 (-t147))) = false := beq_eq_false_iff_ne.mpr c11
        have c11b1 : (t149 != (wrap64 (-t147))) = true := bne_iff_ne.mpr c11
        obtain rfl := Option.some.inj H
        go_enter Try.func6, Try.ntmps6
        go_wp2_with (first | ((with_reducible refine gate_callee (f := 17) rfl ?_); refine goesL_ (some 7) rfl rfl Try.func17 (by kernel_rfl) rfl #[] rfl (by (try simp only [List.map_toArray, List.map_cons, List.map_nil]); first | done | rfl | (simp only [List.length_drop, List.length_take]; rfl)) ?_; (with_reducible refine (isoglosslaw02_awake.calls k  true _ A3.out).mono ?_); rintro e w43 ⟨rfl, hb⟩; refine ⟨_, rfl, ?_⟩; have n0_ := Aside0.mk (below_step (by repeat (first | (with_reducible first | exact HB.out | apply below_alloc | apply pw_below_drewN | apply below_drew1) | exact HB.out)) hb); clear HB; have HB := n0_; clear n0_; (try clear hb); (try clear hb2); (try clear hk); (try clear hi); (try clear A3)) | ((with_reducible refine gate_callee (f := 18) rfl ?_); refine goesL_ (some 9) rfl rfl Try.func18 (by kernel_rfl) rfl #[.string a0] rfl (by (try simp only [List.map_toArray, List.map_cons, List.map_nil]); first | done | rfl | (simp only [List.length_drop, List.length_take]; rfl)) ?_; (with_reducible refine (isoglosslaw02_short.calls a0 t145 _ A4.out).mono ?_); rintro e w' ⟨rfl, ⟨nd, rfl⟩⟩; refine ⟨_, rfl, ?_⟩; (try clear A4)) | ((with_reducible refine gate_callee (f := 18) rfl ?_); refine goesL_ (some 11) rfl rfl Try.func18 (by kernel_rfl) rfl #[.string a1] rfl (by (try simp only [List.map_toArray, List.map_cons, List.map_nil]); first | done | rfl | (simp only [List.length_drop, List.length_take]; rfl)) ?_; (with_reducible refine (isoglosslaw02_short.calls a1 t146 _ A5.out).mono ?_); rintro e w' ⟨rfl, ⟨nd, rfl⟩⟩; refine ⟨_, rfl, ?_⟩; (try clear A5)) | ((with_reducible refine gate_callee (f := 19) rfl ?_); refine goesL_ (some 14) rfl rfl Try.func19 (by kernel_rfl) rfl #[.string t145, .string t146] rfl (by (try simp only [List.map_toArray, List.map_cons, List.map_nil]); first | done | rfl | (simp only [List.length_drop, List.length_take]; rfl)) ?_; (with_reducible refine (ascii_Compare.calls k t145 t146 t147 _ A6.out).mono ?_); rintro e w44 ⟨rfl, hb⟩; refine ⟨_, rfl, ?_⟩; have n0_ := Aside0.mk (below_step (by repeat (first | (with_reducible first | exact HB.out | apply below_alloc | apply pw_below_drewN | apply below_drew1) | exact HB.out)) hb); clear HB; have HB := n0_; clear n0_; (try clear hb); (try clear hb2); (try clear hk); (try clear hi); (try clear A6)) | (go_at_call 15; (with_reducible refine (isoglossref02_Compare.calls k t145 t146 t148 _ A8.out).mono ?_); rintro e w45 ⟨rfl, hb⟩; have n0_ := Aside0.mk (below_step (by repeat (first | (with_reducible first | exact HB.out | apply below_alloc | apply pw_below_drewN | apply below_drew1) | exact HB.out)) hb); clear HB; have HB := n0_; clear n0_; (try clear hb); (try clear hb2); (try clear hk); (try clear hi); (try clear A8)) | (go_at_call 19; (with_reducible refine (ascii_Compare.calls k t146 t145 t149 _ A10.out).mono ?_); rintro e w46 ⟨rfl, hb⟩; have n0_ := Aside0.mk (below_step (by repeat (first | (with_reducible first | exact HB.out | apply below_alloc | apply pw_below_drewN | apply below_drew1) | exact HB.out)) hb); clear HB; have HB := n0_; clear n0_; (try clear hb); (try clear hb2); (try clear hk); (try clear hi); (try clear A10)))
        go_ret
        exact ⟨by first | rfl | (simp [errW_none, errW_some] <;> rfl) | (simp [*, errW_none, errW_some] <;> rfl), by repeat (first | (with_reducible first | exact HB.out | apply below_alloc | apply pw_below_drewN | apply below_drew1) | exact HB.out)⟩
    · rw [if_neg c9] at H
      have c9b0 : (t147 == t148) = false := beq_eq_false_iff_ne.mpr c9
      have c9b1 : (t147 != t148) = true := bne_iff_ne.mpr c9
      obtain rfl := Option.some.inj H
      go_enter Try.func6, Try.ntmps6
      go_wp2_with (first | ((with_reducible refine gate_callee (f := 17) rfl ?_); refine goesL_ (some 7) rfl rfl Try.func17 (by kernel_rfl) rfl #[] rfl (by (try simp only [List.map_toArray, List.map_cons, List.map_nil]); first | done | rfl | (simp only [List.length_drop, List.length_take]; rfl)) ?_; (with_reducible refine (isoglosslaw02_awake.calls k  true _ A3.out).mono ?_); rintro e w47 ⟨rfl, hb⟩; refine ⟨_, rfl, ?_⟩; have n0_ := Aside0.mk (below_step (by repeat (first | (with_reducible first | exact HB.out | apply below_alloc | apply pw_below_drewN | apply below_drew1) | exact HB.out)) hb); clear HB; have HB := n0_; clear n0_; (try clear hb); (try clear hb2); (try clear hk); (try clear hi); (try clear A3)) | ((with_reducible refine gate_callee (f := 18) rfl ?_); refine goesL_ (some 9) rfl rfl Try.func18 (by kernel_rfl) rfl #[.string a0] rfl (by (try simp only [List.map_toArray, List.map_cons, List.map_nil]); first | done | rfl | (simp only [List.length_drop, List.length_take]; rfl)) ?_; (with_reducible refine (isoglosslaw02_short.calls a0 t145 _ A4.out).mono ?_); rintro e w' ⟨rfl, ⟨nd, rfl⟩⟩; refine ⟨_, rfl, ?_⟩; (try clear A4)) | ((with_reducible refine gate_callee (f := 18) rfl ?_); refine goesL_ (some 11) rfl rfl Try.func18 (by kernel_rfl) rfl #[.string a1] rfl (by (try simp only [List.map_toArray, List.map_cons, List.map_nil]); first | done | rfl | (simp only [List.length_drop, List.length_take]; rfl)) ?_; (with_reducible refine (isoglosslaw02_short.calls a1 t146 _ A5.out).mono ?_); rintro e w' ⟨rfl, ⟨nd, rfl⟩⟩; refine ⟨_, rfl, ?_⟩; (try clear A5)) | ((with_reducible refine gate_callee (f := 19) rfl ?_); refine goesL_ (some 14) rfl rfl Try.func19 (by kernel_rfl) rfl #[.string t145, .string t146] rfl (by (try simp only [List.map_toArray, List.map_cons, List.map_nil]); first | done | rfl | (simp only [List.length_drop, List.length_take]; rfl)) ?_; (with_reducible refine (ascii_Compare.calls k t145 t146 t147 _ A6.out).mono ?_); rintro e w48 ⟨rfl, hb⟩; refine ⟨_, rfl, ?_⟩; have n0_ := Aside0.mk (below_step (by repeat (first | (with_reducible first | exact HB.out | apply below_alloc | apply pw_below_drewN | apply below_drew1) | exact HB.out)) hb); clear HB; have HB := n0_; clear n0_; (try clear hb); (try clear hb2); (try clear hk); (try clear hi); (try clear A6)) | (go_at_call 15; (with_reducible refine (isoglossref02_Compare.calls k t145 t146 t148 _ A8.out).mono ?_); rintro e w49 ⟨rfl, hb⟩; have n0_ := Aside0.mk (below_step (by repeat (first | (with_reducible first | exact HB.out | apply below_alloc | apply pw_below_drewN | apply below_drew1) | exact HB.out)) hb); clear HB; have HB := n0_; clear n0_; (try clear hb); (try clear hb2); (try clear hk); (try clear hi); (try clear A8)))
      go_ret
      exact ⟨by first | rfl | (simp [errW_none, errW_some] <;> rfl) | (simp [*, errW_none, errW_some] <;> rfl), by repeat (first | (with_reducible first | exact HB.out | apply below_alloc | apply pw_below_drewN | apply below_drew1) | exact HB.out)⟩
  · replace c7 := Bool.eq_false_iff.mpr c7
    subst c7
    have H1 : (some false) = some r := by rw [if_neg (show ¬ (false = true) by decide)] at H; exact H
    clear H
    have H := H1
    clear H1
    obtain rfl := Option.some.inj H
    go_enter Try.func6, Try.ntmps6
    go_wp2_with (first | ((with_reducible refine gate_callee (f := 17) rfl ?_); refine goesL_ (some 7) rfl rfl Try.func17 (by kernel_rfl) rfl #[] rfl (by (try simp only [List.map_toArray, List.map_cons, List.map_nil]); first | done | rfl | (simp only [List.length_drop, List.length_take]; rfl)) ?_; (with_reducible refine (isoglosslaw02_awake.calls k  false _ A3.out).mono ?_); rintro e w50 ⟨rfl, hb⟩; refine ⟨_, rfl, ?_⟩; have n0_ := Aside0.mk (below_step (by repeat (first | (with_reducible first | exact HB.out | apply below_alloc | apply pw_below_drewN | apply below_drew1) | exact HB.out)) hb); clear HB; have HB := n0_; clear n0_; (try clear hb); (try clear hb2); (try clear hk); (try clear hi); (try clear A3)) | ((with_reducible refine gate_callee (f := 18) rfl ?_); refine goesL_ (some 9) rfl rfl Try.func18 (by kernel_rfl) rfl #[.string a0] rfl (by (try simp only [List.map_toArray, List.map_cons, List.map_nil]); first | done | rfl | (simp only [List.length_drop, List.length_take]; rfl)) ?_; (with_reducible refine (isoglosslaw02_short.calls a0 t145 _ A4.out).mono ?_); rintro e w' ⟨rfl, ⟨nd, rfl⟩⟩; refine ⟨_, rfl, ?_⟩; (try clear A4)) | ((with_reducible refine gate_callee (f := 18) rfl ?_); refine goesL_ (some 11) rfl rfl Try.func18 (by kernel_rfl) rfl #[.string a1] rfl (by (try simp only [List.map_toArray, List.map_cons, List.map_nil]); first | done | rfl | (simp only [List.length_drop, List.length_take]; rfl)) ?_; (with_reducible refine (isoglosslaw02_short.calls a1 t146 _ A5.out).mono ?_); rintro e w' ⟨rfl, ⟨nd, rfl⟩⟩; refine ⟨_, rfl, ?_⟩; (try clear A5)) | ((with_reducible refine gate_callee (f := 19) rfl ?_); refine goesL_ (some 14) rfl rfl Try.func19 (by kernel_rfl) rfl #[.string t145, .string t146] rfl (by (try simp only [List.map_toArray, List.map_cons, List.map_nil]); first | done | rfl | (simp only [List.length_drop, List.length_take]; rfl)) ?_; (with_reducible refine (ascii_Compare.calls k t145 t146 t147 _ A6.out).mono ?_); rintro e w51 ⟨rfl, hb⟩; refine ⟨_, rfl, ?_⟩; have n0_ := Aside0.mk (below_step (by repeat (first | (with_reducible first | exact HB.out | apply below_alloc | apply pw_below_drewN | apply below_drew1) | exact HB.out)) hb); clear HB; have HB := n0_; clear n0_; (try clear hb); (try clear hb2); (try clear hk); (try clear hi); (try clear A6)))
    go_ret
    exact ⟨by first | rfl | (simp [errW_none, errW_some] <;> rfl) | (simp [*, errW_none, errW_some] <;> rfl), by repeat (first | (with_reducible first | exact HB.out | apply below_alloc | apply pw_below_drewN | apply below_drew1) | exact HB.out)⟩

/-- THE ONE PURE STATEMENT of isoglosslaw02_AsciiCompares: yours. -/
def isoglosslaw02_AsciiCompares.Pure : Prop := ∀ (a0 : ByteArray) (a1 : ByteArray), a0.size ≤ 140737488351232 → a1.size ≤ 140737488351232 → ∃ k, isoglosslaw02_AsciiCompares.f k a0 a1 = some true
theorem isoglosslaw02_AsciiCompares.walk (P : isoglosslaw02_AsciiCompares.Pure) (a0 : ByteArray) (a1 : ByteArray) (w : World) (w0 : a0.size ≤ 140737488351232) (w1 : a1.size ≤ 140737488351232) :
    Calls Try.prog 6 #[.string a0, .string a1] w fun e w' => e = .returned (.bool true) ∧ Below w.heap.size w w' := by
  obtain ⟨k, h⟩ := P a0 a1 w0 w1
  refine (isoglosslaw02_AsciiCompares.calls k a0 a1 true w h).mono ?_
  rintro e w' ⟨rfl, hd⟩
  exact ⟨rfl, hd⟩

end Go.Proofs.Ytccojdjmbilgcaa.P
