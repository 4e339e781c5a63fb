/- From the row's list to the walks' fact: the tags lie in memory; a world for the witnesses. -/
import Derived.Test.YtmbfnbnlajchmaaDoorCards
import Derived.Test.YtmbfnbnlajchmaaDoorTie
import Derived.Test.YtmbfnbnlajchmaaDoorAdGrandW
import Derived.WalkKit
import Derived.ProofKit
import Derived.OpenShut
import Derived.Deep.DeepHandedRow
import Derived.Lib.LaidTab
namespace Go.Proofs.YtmbfnbnlajchmaaDoor.GrandLaid
open Go.ChangeShapes Go.WideShapes Go.ChangeAt Go.RowKit Go.Proofs.YtmbfnbnlajchmaaDoor.GrandW
set_option linter.unusedVariables false

theorem own : ownKnob Tryd.prog.godebug = none := by kernel_rfl
theorem gNames : Tryd.prog.globalNamed "isogloss/grand.names" = some 0 := by kernel_rfl
theorem gNamesType : (Tryd.prog.globals[0]?).map (·.type) = some 76 := by kernel_rfl
theorem cellsRow : Tryd.prog.cellsOf 76 = 26 := by kernel_rfl
theorem cellsOne : Tryd.prog.cellsOf 9 = 1 := by kernel_rfl

theorem laid_data {H : Type} : (Rows.laid_isogloss_grand_names : DataW H) = .agg (namesB.map fun s => .lit (.string s.data.toList)) := rfl

theorem bytes_eq {a b : ByteArray} (h : a.data.toList = b.data.toList) : a = b := by
  cases a; cases b
  simp only [ByteArray.mk.injEq]
  exact Array.toList_inj.mp h

theorem cells_of {H : Type} {enc : TypeId × Value → H} {w : World} {base : Nat} {sp : Nat → Bool} {held : Bool} {fuel : Nat} {cs : List Value} {p : List MemPlace}
    (h : DataW.trod enc Tryd.prog w base sp held fuel 76 cs = some (Rows.laid_isogloss_grand_names, p)) : cs = namesB.map Value.string := by
  obtain ⟨xs, m, rfl, hx, hlen, hxl, hall⟩ := DataW.trod_array Tryd.underlying76 h
  rw [cellsRow] at hlen
  have hxs : xs.map (·.1) = namesB.map fun s => (DataW.lit (.string s.data.toList) : DataW H) := by
    have := congrArg Prod.fst hx
    rw [laid_data] at this
    exact (DataW.agg.inj this).symm
  apply List.ext_getElem?
  intro i
  by_cases hi : i < 26
  · have hf := hall i hi
    rw [cellsOne, List.getElem?_eq_getElem (by omega)] at hf
    obtain ⟨s, hc, hs, _⟩ := DataW.trod_string Tryd.underlying9 hf
    have h1 : cs[i]? = some (.string s) := by
      have := congrArg (·[0]?) hc
      simpa [List.getElem?_take, List.getElem?_drop] using this
    have h2 : (xs.map (·.1))[i]? = some (DataW.lit (.string s.data.toList) : DataW H) := by
      rw [List.getElem?_map, List.getElem?_eq_getElem (by omega)]
      simp [hs]
    rw [hxs, List.getElem?_map, Option.map_eq_some_iff] at h2
    obtain ⟨s', hs', e⟩ := h2
    have e' : s'.data.toList = s.data.toList := by simpa using e
    rw [h1, List.getElem?_map, hs', ← bytes_eq e']
    rfl
  · rw [List.getElem?_eq_none (by omega), List.getElem?_eq_none (by rw [List.length_map, namesB_length]; omega)]

theorem gives {W : World} (h : laidMetH Tryd.prog [("isogloss/grand.names", Rows.laid_isogloss_grand_names)] W) : G W := by
  have h' : laidMet Tryd.prog [("isogloss/grand.names", Rows.laid_isogloss_grand_names)] W := h
  obtain ⟨ps, ⟨g', t', cs, fuel, p, q, hg', ht', hvar, hd, _, _⟩, _⟩ := h'
  obtain rfl := Option.some.inj (gNames.symm.trans hg')
  obtain rfl := Option.some.inj (gNamesType.symm.trans ht')
  have hcs := cells_of hd
  unfold World.var? at hvar
  rw [gNames] at hvar
  simp only [Option.bind_some] at hvar
  split at hvar
  · rename_i c t fr hb
    obtain rfl := Option.some.inj hvar
    refine ⟨t, fr, ?_⟩
    rw [hb]
    have : c = namesV := by
      unfold namesV
      rw [← hcs]
    rw [this]
  · cases hvar

noncomputable def laidWorld (os : Os) : World :=
  { World.holding Tryd.prog os ⟨#[], #[], []⟩ with heap := (World.holding Tryd.prog os ⟨#[], #[], []⟩).heap.modify 0 fun
      | .cells _ t frozen => .cells namesV t frozen
      | o => o }
set_option maxRecDepth 100000 in
theorem laid_met (os : Os) : laidMetH Tryd.prog [("isogloss/grand.names", Rows.laid_isogloss_grand_names)] ((laidWorld os).forCall (fun _ _ => 0) ⟨#[], #[], []⟩).memory :=
  laidMet_of_run' 30 (by kernel_rfl) (by kernel_rfl)
end Go.Proofs.YtmbfnbnlajchmaaDoor.GrandLaid
