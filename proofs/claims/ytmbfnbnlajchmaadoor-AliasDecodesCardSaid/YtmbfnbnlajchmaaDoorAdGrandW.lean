/- The grandfathered tags' table, as the memory holds it; what a walk reads there. -/
import Derived.Test.YtmbfnbnlajchmaaDoorAdEach
import Derived.Lib.LaidTab
import Derived.Outline
namespace Go.Proofs.YtmbfnbnlajchmaaDoor.GrandW
open Go.RowKit Go.Proofs.YtmbfnbnlajchmaaDoorW.PrintWords Go.Proofs.YtmbfnbnlajchmaaDoorW.PrintLast
set_option linter.unusedVariables false
set_option linter.unusedSimpArgs false

def namesB : List ByteArray := [
  ⟨#[97, 114, 116, 45, 108, 111, 106, 98, 97, 110]⟩,
  ⟨#[99, 101, 108, 45, 103, 97, 117, 108, 105, 115, 104]⟩,
  ⟨#[101, 110, 45, 103, 98, 45, 111, 101, 100]⟩,
  ⟨#[105, 45, 97, 109, 105]⟩,
  ⟨#[105, 45, 98, 110, 110]⟩,
  ⟨#[105, 45, 100, 101, 102, 97, 117, 108, 116]⟩,
  ⟨#[105, 45, 101, 110, 111, 99, 104, 105, 97, 110]⟩,
  ⟨#[105, 45, 104, 97, 107]⟩,
  ⟨#[105, 45, 107, 108, 105, 110, 103, 111, 110]⟩,
  ⟨#[105, 45, 108, 117, 120]⟩,
  ⟨#[105, 45, 109, 105, 110, 103, 111]⟩,
  ⟨#[105, 45, 110, 97, 118, 97, 106, 111]⟩,
  ⟨#[105, 45, 112, 119, 110]⟩,
  ⟨#[105, 45, 116, 97, 111]⟩,
  ⟨#[105, 45, 116, 97, 121]⟩,
  ⟨#[105, 45, 116, 115, 117]⟩,
  ⟨#[110, 111, 45, 98, 111, 107]⟩,
  ⟨#[110, 111, 45, 110, 121, 110]⟩,
  ⟨#[115, 103, 110, 45, 98, 101, 45, 102, 114]⟩,
  ⟨#[115, 103, 110, 45, 98, 101, 45, 110, 108]⟩,
  ⟨#[115, 103, 110, 45, 99, 104, 45, 100, 101]⟩,
  ⟨#[122, 104, 45, 103, 117, 111, 121, 117]⟩,
  ⟨#[122, 104, 45, 104, 97, 107, 107, 97]⟩,
  ⟨#[122, 104, 45, 109, 105, 110]⟩,
  ⟨#[122, 104, 45, 109, 105, 110, 45, 110, 97, 110]⟩,
  ⟨#[122, 104, 45, 120, 105, 97, 110, 103]⟩]
def nameAt (i : Int) : ByteArray := namesB.getD i.toNat ⟨#[]⟩
theorem namesB_length : namesB.length = 26 := rfl
def namesV : Array Value := (namesB.map Value.string).toArray
theorem namesV_at (i : Nat) (hi : i < 26) : namesV[i]? = some (.string (nameAt (i : Int))) := by
  unfold namesV
  rw [List.getElem?_toArray, List.getElem?_map, List.getElem?_eq_getElem (by rw [namesB_length]; exact hi)]
  simp [nameAt, List.getD_eq_getElem?_getD, List.getElem?_eq_getElem (show i < namesB.length by rw [namesB_length]; exact hi)]
def G (w : World) : Prop := ∃ t fr, w.heap[0]? = some (.cells namesV t fr)
theorem G.below {w w' : World} (h : G w) (hb : Below w.heap.size w w') : G w' := by
  obtain ⟨t, fr, h⟩ := h
  exact ⟨t, fr, (hb.block _ (Array.getElem?_eq_some_iff.1 h).1).trans h⟩
theorem G.alloc {w : World} (h : G w) (o : Obj) : G (w.alloc o) := h.below (below_alloc (Below.refl _ _) o)
theorem G.drewN {w : World} (h : G w) (n : Nat) : G (w.drewN n) := h
theorem G.drew {w : World} (h : G w) : G w.drew := h
theorem G.on {w W : World} (h : G w) (hb : Below w.heap.size w W := by repeat (first | with_reducible exact Aside0.out (by assumption) | with_reducible exact Below.refl _ _ | with_reducible apply below_alloc | with_reducible apply pw_below_drewN | with_reducible apply below_drew1 | with_reducible refine below_set ?_ (Aside0.out (by assumption)) | exact Aside0.out (by assumption))) : G W := h.below hb
theorem G.cell {w : World} (h : G w) (i : Nat) (hi : i < 26) : w.cell? ⟨0, i, none⟩ = some (.string (nameAt (i : Int))) := by
  obtain ⟨t, fr, h⟩ := h
  rw [Go.cell_of_row _ _ _ _ _ _ h, namesV_at i hi]
set_option maxHeartbeats 400000 in
theorem name_some (i : Int) (w : World) (hG : G w) (h0 : 0 ≤ i) (h1 : i < 26) :
    Calls Tryd.prog 21 #[.int .i64 i] w fun e w' => e = .returned (.tuple #[.string (nameAt i), .bool true]) ∧ w = w' := by
  have hc := hG.cell i.toNat (by omega)
  rw [Int.toNat_of_nonneg h0] at hc
  have d0 : decide (i < 0) = false := by simpa using h0
  have d1 : decide (26 ≤ i) = false := by simpa using h1
  go_enter Tryd.func21, Tryd.ntmps21
  go_wp2
  go_ret2
  exact ⟨rfl, rfl⟩
set_option maxHeartbeats 400000 in
theorem name_none (i : Int) (w : World) (h : ¬ (0 ≤ i ∧ i < 26)) :
    Calls Tryd.prog 21 #[.int .i64 i] w fun e w' => e = .returned (.tuple #[.string ⟨#[]⟩, .bool false]) ∧ w = w' := by
  rcases (show i < 0 ∨ (0 ≤ i ∧ 26 ≤ i) by omega) with h0 | ⟨h0, h1⟩
  · have d0 : decide (i < 0) = true := by simpa using h0
    go_enter Tryd.func21, Tryd.ntmps21
    go_wp2
    go_ret2
    exact ⟨rfl, rfl⟩
  · have d0 : decide (i < 0) = false := by simpa using h0
    have d1 : decide (26 ≤ i) = true := by simpa using h1
    go_enter Tryd.func21, Tryd.ntmps21
    go_wp2
    go_ret2
    exact ⟨rfl, rfl⟩
end Go.Proofs.YtmbfnbnlajchmaaDoor.GrandW
