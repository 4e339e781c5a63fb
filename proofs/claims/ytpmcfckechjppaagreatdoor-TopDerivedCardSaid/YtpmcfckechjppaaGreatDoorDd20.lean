/- Made by a program of this seat's own (shake.py, merge.py): what the claim leans on: LaidTop. -/
import Derived.Test.YtpmcfckechjppaaGreatDoorDd18
import Derived.Test.YtpmcfckechjppaaGreatDoorCards
import Derived.Test.YtpmcfckechjppaaGreatDoorTie
import Derived.WalkKit
import Derived.ProofKit
import Derived.OpenShut
import Derived.Deep.DeepHandedRow
import Derived.Lib.LaidTab
import Derived.LaidHandle
import Derived.Shelf.Vars
set_option linter.unusedVariables false
set_option linter.unusedSimpArgs false
set_option maxRecDepth 100000
set_option maxHeartbeats 8000000
namespace Go.Proofs.YtpmcfckechjppaaGreatDoor.GrandLaid
open Go.ChangeShapes Go.WideShapes Go.ChangeAt Go.RowKit Go.Proofs.YtpmcfckechjppaaGreatDoor.GrandW
theorem k4k : Tryz.prog.globalNamed "isogloss/grand.names" = some 0 := by kernel_rfl
theorem v4h : (Tryz.prog.globals[0]?).map (·.type) = some 141 := by kernel_rfl
theorem k2g : Tryz.prog.cellsOf 141 = 26 := by kernel_rfl
theorem k1u : Tryz.prog.cellsOf 9 = 1 := by kernel_rfl
theorem k0h {H : Type} : (Rows.laid_isogloss_grand_names : DataW H) = .agg (z0p.map fun s => .lit (.string s.data.toList)) := rfl
theorem k2h {a b : ByteArray} (h : a.data.toList = b.data.toList) : a = b := by
 cases a; cases b
 simp only [ByteArray.mk.injEq]
 exact Array.toList_inj.mp h
theorem k0s {H : Type} {enc : TypeId × Value → H} {w : World} {base : Nat} {sp : Nat → Bool} {held : Bool} {fuel : Nat} {cs : List Value} {p : List MemPlace}
 (h : DataW.trod enc Tryz.prog w base sp held fuel 141 cs = some (Rows.laid_isogloss_grand_names, p)) : cs = z0p.map Value.string := by
 obtain ⟨xs, m, rfl, hx, hlen, hxl, hall⟩ := DataW.trod_array Tryz.underlying141 h
 rw [k2g] at hlen
 have hxs : xs.map (·.1) = z0p.map fun s => (DataW.lit (.string s.data.toList) : DataW H) := by
  have := congrArg Prod.fst hx
  rw [k0h] at this
  exact (DataW.agg.inj this).symm
 apply List.ext_getElem?
 intro i
 by_cases hi : i < 26
 · have hf := hall i hi
   rw [k1u, List.getElem?_eq_getElem (by omega)] at hf
   obtain ⟨s, hc, hs, _⟩ := DataW.trod_string Tryz.underlying9 hf
   have h1 : cs[i]? = some (.string s) := by
    have := congrArg (·[0]?) hc
    simpa [List.getElem?_take, List.getElem?_drop] using this
   have h2 : (xs.map (·.1))[i]? = some (DataW.lit (.string s.data.toList) : DataW H) := by
    rw [List.getElem?_map, List.getElem?_eq_getElem (by omega)]
    simp [hs]
   rw [hxs, List.getElem?_map, Option.map_eq_some_iff] at h2
   obtain ⟨s', hs', e⟩ := h2
   have e' : s'.data.toList = s.data.toList := by simpa using e
   rw [h1, List.getElem?_map, hs', ← k2h e']
   rfl
 · rw [List.getElem?_eq_none (by omega), List.getElem?_eq_none (by rw [List.length_map, q7u]; omega)]
def LAID : List (String × DataW Unit) := Rows.topLookupRow.laid
theorem z5z : (LAID.filter fun x => x.2.handleName?.isNone) = [("math/bits.deBruijn32tab", Rows.laid_math_bits_deBruijn32tab), ("math/bits.deBruijn64tab", Rows.laid_math_bits_deBruijn64tab), ("internal/strconv.uint64pow10", Rows.laid_internal_strconv_uint64pow10), ("unicode/utf8.acceptRanges", Rows.laid_unicode_utf8_acceptRanges), ("isogloss/grand.names", Rows.laid_isogloss_grand_names), ("unicode/utf8.first", Rows.laid_unicode_utf8_first)] := by kernel_rfl
theorem z4n : (LAID.filter fun x => x.2.handleName?.isSome) = [("errors.errorType", Rows.laid_errors_errorType)] := by kernel_rfl
theorem halves {W : World} (h : laidMetH Tryz.prog LAID W) : laidMet Tryz.prog [("math/bits.deBruijn32tab", Rows.laid_math_bits_deBruijn32tab), ("math/bits.deBruijn64tab", Rows.laid_math_bits_deBruijn64tab), ("internal/strconv.uint64pow10", Rows.laid_internal_strconv_uint64pow10), ("unicode/utf8.acceptRanges", Rows.laid_unicode_utf8_acceptRanges), ("isogloss/grand.names", Rows.laid_isogloss_grand_names), ("unicode/utf8.first", Rows.laid_unicode_utf8_first)] W ∧ handlesMet Tryz.prog [("errors.errorType", Rows.laid_errors_errorType)] W := by
 unfold laidMetH at h
 rw [z4n, z5z] at h
 exact h
theorem gives {W : World} (h0 : laidMetH Tryz.prog LAID W) : G W := by
 obtain ⟨ps, ⟨_, _, _, _, _, _, _, _, _, _, ⟨_, _, _, _, _, _, _, _, _, _, ⟨_, _, _, _, _, _, _, _, _, _, ⟨_, _, _, _, _, _, _, _, _, _, ⟨g', t', cs, fuel, p, q, hg', ht', hvar, hd, _, _⟩, _⟩, _⟩, _⟩, _⟩, _⟩ := (halves h0).1
 obtain rfl := Option.some.inj (k4k.symm.trans hg')
 obtain rfl := Option.some.inj (v4h.symm.trans ht')
 have hcs := k0s hd
 unfold World.var? at hvar
 rw [k4k] at hvar
 simp only [Option.bind_some] at hvar
 split at hvar
 · rename_i c t fr hb
   obtain rfl := Option.some.inj hvar
   refine ⟨t, fr, ?_⟩
   rw [hb]
   have : c = z9v := by
    unfold z9v
    rw [← hcs]
   rw [this]
 · cases hvar
theorem et : Tryz.prog.globalNamed "errors.errorType" = some 1 := by kernel_rfl
theorem rt : (Tryz.prog.cutTypes.find? (·.1 == "internal/reflectlite.rtype")).map (·.2) = some 206 := by kernel_rfl
theorem j0v : ((List.range Tryz.prog.types.size).filter fun t => Tryz.prog.rowNamed t [101, 114, 114, 111, 114]) = [55] := by kernel_rfl
def EH (W : World) : Prop := W.cell? ⟨1, 0, none⟩ = some (.iface 206 (.agg #[typeHandle Tryz.prog 55]))
theorem v0u {W : World} (h0 : laidMetH Tryz.prog LAID W) : EH W := by
 have h' := (halves h0).2 _ (List.mem_singleton.2 rfl)
 obtain ⟨name, u, ty, e1, e2, e3, e4, e5⟩ := h'
 have en : name = [101, 114, 114, 111, 114] := (Option.some.inj e1).symm
 subst en
 obtain rfl := Option.some.inj (rt.symm.trans e2)
 have hm : ty ∈ (List.range Tryz.prog.types.size).filter fun t => Tryz.prog.rowNamed t [101, 114, 114, 111, 114] := List.mem_filter.2 ⟨List.mem_range.2 e3, e4⟩
 rw [j0v] at hm
 obtain rfl := List.mem_singleton.1 hm
 unfold EH
 simpa using World.var?_cell et e5 0
theorem zero_max : ((begin Tryz.prog (fun _ _ => 0) default).world.heap[2]?).bind Obj.row? = some (#[.int .i64 0], 3) := by kernel_rfl
theorem k3t : 2 < Tryz.prog.globals.size := of_decide_eq_true (by kernel_rfl)
theorem v8c {W : World} (h : W.ShapedOpen Tryz.prog) : Ps.GM W := by
 obtain ⟨m, hm⟩ := Go.Proofs.cell_of_shapedOpen_int h k3t zero_max rfl (by kernel_rfl) (by kernel_rfl) Tryz.underlying3
 obtain ⟨cs, hh, hs, _⟩ := h.1 _ _ _ k3t zero_max
 have h1 : cs.size = 1 := hs
 have hc : W.cell? ⟨2, 0, none⟩ = cs[0]? := by simp [World.cell?, hh]
 have e : cs = #[.int .i64 m] := by
  apply Array.ext
  · simpa using h1
  · intro i h2 h3
    have : i = 0 := by simpa using h3
    subst this
    have h4 := hc.symm.trans hm
    rw [Array.getElem?_eq_getElem h2] at h4
    simpa using h4
 exact ⟨m, 3, (0, 0), by rw [hh, e]⟩

def flat : Nat → DataW Unit → List Value
 | 0, _ => []
 | n + 1, .agg ps => ps.flatMap (flat n)
 | _ + 1, .lit (.int k i) => [.int k i]
 | _ + 1, .lit (.string b) => [.string ⟨b.toArray⟩]
 | _, _ => []
def k5m (cs : List Value) : Obj → Obj
 | .cells _ t frozen => .cells cs.toArray t frozen
 | o => o
noncomputable def z3n (os : Os) : World :=
 { World.holding Tryz.prog os ⟨#[], #[], []⟩ with heap := ((((((((World.holding Tryz.prog os ⟨#[], #[], []⟩).heap.modify 0 (k5m (flat 3 Rows.laid_isogloss_grand_names))).modify 1 (k5m [.iface 206 (.agg #[typeHandle Tryz.prog 55])])).modify 3 (k5m (flat 3 Rows.laid_unicode_utf8_first))).modify 4 (k5m (flat 3 Rows.laid_unicode_utf8_acceptRanges))).modify 5 (k5m (flat 3 Rows.laid_internal_strconv_uint64pow10))).modify 6 (k5m (flat 3 Rows.laid_math_bits_deBruijn32tab))).modify 7 (k5m (flat 3 Rows.laid_math_bits_deBruijn64tab))) }
theorem k3i (os : Os) (args : Array Value) : laidMetH Tryz.prog LAID ((z3n os).forCall (fun _ _ => 0) ⟨#[], args, []⟩).memory :=
 laidMetH_of_parts (by rw [z5z]; exact laidMet_of_run' 30 (by kernel_rfl) (by kernel_rfl)) (by rw [z4n]; kernel_rfl)
end Go.Proofs.YtpmcfckechjppaaGreatDoor.GrandLaid
