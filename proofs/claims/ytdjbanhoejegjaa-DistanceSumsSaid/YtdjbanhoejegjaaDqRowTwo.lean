/- The laws' arguments, opened: two tags by numbers. -/
import Derived.Test.YtdjbanhoejegjaaDqRowSeed
namespace Go.Proofs.Ytdjbanhoejegjaa.LikW
open Go.RowKit Go.Proofs.YtdjbanhoejegjaaW.PrintWords Go.Proofs.YtdjbanhoejegjaaW.PrintLast Go.Proofs.Ytdjbanhoejegjaa.P
set_option linter.unusedVariables false
set_option linter.unusedSimpArgs false

theorem c27 : Try.prog.cellsOf 27 = 8 := by kernel_rfl
theorem c28 : Try.prog.cellsOf 28 = 16 := by kernel_rfl
theorem ofLen8 {α : Type} (l : List α) (h : l.length = 8) : ∃ a b c d e f g i, l = [a, b, c, d, e, f, g, i] := by
  match l, h with
  | [a, b, c, d, e, f, g, i], _ => exact ⟨_, _, _, _, _, _, _, _, rfl⟩
theorem ofLen2 {α : Type} (l : List α) (h : l.length = 2) : ∃ a b, l = [a, b] := by
  match l, h with
  | [a, b], _ => exact ⟨_, _, rfl⟩
def IsTag (w : World) (cs : List Value) : Prop :=
  ∃ (a0 a1 a2 a3 a7 : Int) (A4 : Option Addr) (c4 : Nat) (l4 : List Int) (A5 : Option Addr) (c5 : Nat) (l5 : List Int) (A6 : Option Addr) (c6 : Nat) (l6 : List Int), cs = [.int .i64 a0, .int .i64 a1, .int .i64 a2, .int .i64 a3, .slice A4 l4.length c4, .slice A5 l5.length c5, .slice A6 l6.length c6, .int .i64 a7] ∧
    Kd.C (Kd.int .i64) w A4 l4.length l4 ∧ Kd.C (Kd.int .i64) w A5 l5.length l5 ∧ Kd.C (Kd.int .i64) w A6 l6.length l6
section
variable {H : Type} {enc : TypeId × Value → H} {w : World} {base : Nat} {sp : Nat → Bool} {held : Bool} {fuel : Nat} {cs : List Value} {x : DataW H × List MemPlace}
theorem cells_27 (h : DataW.trod enc Try.prog w base sp held fuel 27 cs = some x) : IsTag w cs := by
  obtain ⟨xs, m, rfl, rfl, hlen, hxl, hall⟩ := DataW.trod_struct Try.underlying27 h
  rw [c27] at hlen
  obtain ⟨a, b, c, d, e, f, g, i, rfl⟩ := ofLen8 cs hlen
  obtain ⟨x0, x1, x2, x3, x4, x5, x6, x7, rfl⟩ := ofLen8 xs (by simpa using hxl)
  obtain ⟨n0, e0⟩ := cells_int (by simpa [c3] using hall 0 _ rfl)
  obtain ⟨n1, e1⟩ := cells_int (by simpa [c3] using hall 1 _ rfl)
  obtain ⟨n2, e2⟩ := cells_int (by simpa [c3] using hall 2 _ rfl)
  obtain ⟨n3, e3⟩ := cells_int (by simpa [c3] using hall 3 _ rfl)
  obtain ⟨A4, k4, l4, e4, g4, h4⟩ := ints_slice (by simpa [c23] using hall 4 _ rfl)
  obtain ⟨A5, k5, l5, e5, g5, h5⟩ := ints_slice (by simpa [c23] using hall 5 _ rfl)
  obtain ⟨A6, k6, l6, e6, g6, h6⟩ := ints_slice (by simpa [c23] using hall 6 _ rfl)
  obtain ⟨n7, e7⟩ := cells_int (by simpa [c3] using hall 7 _ rfl)
  refine ⟨n0, n1, n2, n3, n7, A4, k4, l4, A5, k5, l5, A6, k6, l6, ?_, h4, h5, h6⟩
  cases e0; cases e1; cases e2; cases e3; cases e4; cases e5; cases e6; cases e7
  rfl
theorem cells_28 (h : DataW.trod enc Try.prog w base sp held fuel 28 cs = some x) : ∃ a b, cs = a ++ b ∧ IsTag w a ∧ IsTag w b := by
  obtain ⟨xs, m, rfl, rfl, hlen, hxl, hall⟩ := DataW.trod_array Try.underlying28 h
  rw [c28] at hlen
  obtain ⟨x0, x1, rfl⟩ := ofLen2 xs (by simpa using hxl)
  have h0 := cells_27 (by simpa [c27] using hall 0 (by decide))
  have h1 := cells_27 (by simpa [c27] using hall 1 (by decide))
  refine ⟨cs.take 8, cs.drop 8, (List.take_append_drop 8 cs).symm, h0, ?_⟩
  rwa [List.take_of_length_le (by rw [List.length_drop]; omega)] at h1
end
set_option maxRecDepth 100000 in
theorem open_two {H : Type} {enc : TypeId × Value → H} {w : World} {b0 : Nat} {r : Reach} {base : Nat} {sp : Nat → Bool} {held : Bool} {v : Value} {d : DataW H} {p : List MemPlace} (hv : Value.okWide Try.prog w r b0 28 v) (h : DataW.Trod enc Try.prog w base sp held 28 v d p) :
    ∃ (a b : List Value), v = .agg (a ++ b).toArray ∧ IsTag w a ∧ IsTag w b := by
  unfold Value.okWide at hv
  rw [Try.underlying28] at hv
  obtain ⟨cs, rfl, _, _⟩ := hv
  obtain ⟨fuel, hf⟩ := h
  obtain ⟨a, b, e, h0, h1⟩ := cells_28 hf
  have e2 : cs.toList = a ++ b := e
  exact ⟨a, b, by rw [← e2, Array.toArray_toList], h0, h1⟩
end Go.Proofs.Ytdjbanhoejegjaa.LikW
