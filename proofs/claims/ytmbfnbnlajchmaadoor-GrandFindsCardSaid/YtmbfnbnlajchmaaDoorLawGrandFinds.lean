/- Proved here: the statement GrandFindsCardSaid of the given program: whatever the arguments, the law isogloss/isoglosslaw05.GrandFinds returns true, and each argument reads afterwards as it read before. No further condition. -/
import Derived.Test.YtmbfnbnlajchmaaDoorCards
import Derived.Test.YtmbfnbnlajchmaaDoorTie
import Derived.Test.YtmbfnbnlajchmaaDoorGrandLaid
import Derived.Test.YtmbfnbnlajchmaaDoorP3
import Derived.Test.YtmbfnbnlajchmaaDoorPureGrandFinds
import Derived.WalkKit
import Derived.ProofKit
import Derived.OpenShut
import Derived.ShutString
import Derived.ChangeOld
import Derived.Below
import Derived.SizedLaws
import Derived.Deep.DeepHandedRow
namespace Go.Proofs.YtmbfnbnlajchmaaDoor.grandFinds
open Go.ChangeShapes Go.WideShapes Go.ChangeAt Go.RowKit
open Go.ChangeMaps (open_string shut_string)
set_option linter.unusedVariables false
set_option linter.unusedSimpArgs false
theorem own : ownKnob Tryd.prog.godebug = none := by kernel_rfl
theorem laidOut : laidOutB Tryd.prog = true := by kernel_rfl
theorem len_3 {α : Type} (l : List α) (h : l.length = 3) : ∃ a0 a1 a2, l = [a0, a1, a2] := by
  match l, h with
  | [a0, a1, a2], _ => exact ⟨_, _, _, rfl⟩
theorem cellsOf3 : Tryd.prog.cellsOf 3 = 1 := by kernel_rfl
theorem cellsOf22 : Tryd.prog.cellsOf 22 = 3 := by kernel_rfl
theorem cells_22 {H : Type} {enc : TypeId × Value → H} {w : World} {base : Nat} {sp : Nat → Bool} {held : Bool} {fuel : Nat} {cs : List Value} {x : DataW H × List MemPlace} (h : DataW.trod enc Tryd.prog w base sp held fuel 22 cs = some x) :
    ∃ (n0 : Int) (n1 : Int) (n2 : Int), cs = [.int .i64 n0, .int .i64 n1, .int .i64 n2] ∧ x.2 = [] ∧ (Lit.int .i64 n0).wf = true ∧ (Lit.int .i64 n1).wf = true ∧ (Lit.int .i64 n2).wf = true := by
  obtain ⟨xs, m, rfl, rfl, hlen, hxl, hall⟩ := DataW.trod_array Tryd.underlying22 h
  rw [cellsOf22] at hlen
  obtain ⟨c0, c1, c2, rfl⟩ := len_3 cs hlen
  obtain ⟨x0, x1, x2, rfl⟩ := len_3 xs (by simpa using hxl)
  have f0 : DataW.trod enc Tryd.prog w base sp held m 3 [c0] = some x0 := by simpa [cellsOf3] using hall 0 (by decide)
  obtain ⟨n0, e0, rfl, w0⟩ := DataW.trod_int Tryd.underlying3 f0
  obtain ⟨rfl⟩ : c0 = .int .i64 n0 := by simpa using e0
  have f1 : DataW.trod enc Tryd.prog w base sp held m 3 [c1] = some x1 := by simpa [cellsOf3] using hall 1 (by decide)
  obtain ⟨n1, e1, rfl, w1⟩ := DataW.trod_int Tryd.underlying3 f1
  obtain ⟨rfl⟩ : c1 = .int .i64 n1 := by simpa using e1
  have f2 : DataW.trod enc Tryd.prog w base sp held m 3 [c2] = some x2 := by simpa [cellsOf3] using hall 2 (by decide)
  obtain ⟨n2, e2, rfl, w2⟩ := DataW.trod_int Tryd.underlying3 f2
  obtain ⟨rfl⟩ : c2 = .int .i64 n2 := by simpa using e2
  exact ⟨n0, n1, n2, rfl, by simp, w0, w1, w2⟩
set_option maxRecDepth 100000 in
theorem open_22 {H : Type} {enc : TypeId × Value → H} {w : World} {b0 : Nat} {r : Reach} {base : Nat} {sp : Nat → Bool} {held : Bool} {v : Value} {d : DataW H} {p : List MemPlace} (hv : Value.okWide Tryd.prog w r b0 22 v) (h : DataW.Trod enc Tryd.prog w base sp held 22 v d p) :
    ∃ (n0 : Int) (n1 : Int) (n2 : Int), v = .agg #[.int .i64 n0, .int .i64 n1, .int .i64 n2] ∧ p = [] ∧ (Lit.int .i64 n0).wf = true ∧ (Lit.int .i64 n1).wf = true ∧ (Lit.int .i64 n2).wf = true := by
  unfold Value.okWide at hv
  rw [Tryd.underlying22] at hv
  obtain ⟨cs, rfl, _, _⟩ := hv
  obtain ⟨fuel, hf⟩ := h
  obtain ⟨n0, n1, n2, e, z, w⟩ := cells_22 hf
  refine ⟨n0, n1, n2, ?_, z, w⟩
  have e2 : cs.toList = _ := e
  have e3 := congrArg List.toArray e2
  rw [Array.toArray_toList] at e3
  rw [e3]
set_option maxRecDepth 100000 in
theorem contract (H : Type) (enc : TypeId × Value → H) (W : World) (base : Nat) (args : Array Value) (ds gs : List (DataW H)) (before : List MemPlace)
    (hval0 : ∀ (j : Nat) t v, Tryd.f3.params[j]? = some t → args[j]? = some v → Value.okWide Tryd.prog W .any base t v)
    (hW : DataW.Whole enc Tryd.prog Tryd.f3.params.toList Rows.grandFindsSpec.vars false W args.toList ds gs before)
    (hsz0 : (DataW.weightsEach Tryd.prog (Tryd.f3.params.toList ++ Rows.grandFindsSpec.plain.varTypes Tryd.prog) (ds ++ gs)).all (· ≤ reachBytes) = true) (hL : laidMetH Tryd.prog Rows.grandFindsRow.laid W) :
    Calls Tryd.prog 3 args W fun e W' => ∃ v, e = .returned v ∧ Rows.grandFindsSpec.post enc Tryd.prog Tryd.f3 false true false false W args v W' := by
  have hG := GrandLaid.gives hL
  have hsz := hsz0
  have hval : ∀ (j : Nat) t v, Tryd.f3.params[j]? = some t → args[j]? = some v → Value.okWide Tryd.prog W .any base t v := hval0
  have hW' := hW
  obtain ⟨p, q, hA0, hV, rfl, hfz, hnd⟩ := hW
  have hA : DataW.TrodAll enc Tryd.prog W 0 (fun _ => true) true Tryd.f3.params.toList args.toList ds p := hA0
  rw [Tryd.params3] at hA hval hsz
  obtain ⟨v0, vs0, d0, ds0, p0, q0, hargs, rfl, rfl, h0, r0⟩ := trodAll_cons hA
  obtain ⟨v1, vs1, d1, ds1, p1, q1, rfl, rfl, rfl, h1, r1⟩ := trodAll_cons r0
  obtain ⟨v2, vs2, d2, ds2, p2, q2, rfl, rfl, rfl, h2, r2⟩ := trodAll_cons r1
  obtain ⟨rfl, rfl, rfl⟩ := trodAll_nil r2
  obtain rfl : args = #[v0, v1, v2] := by cases args; simp_all
  obtain ⟨rfl, rfl⟩ := trodVars_none hV
  obtain ⟨a0, rfl, rfl, rfl, y0⟩ := open_string Tryd.underlying9 (hval 0 9 v0 rfl rfl) h0
  have w0 : a0.size ≤ 140737488351232 := by
    have z := sized_string hsz (j := 0) (t := 9) rfl rfl
    rw [Array.length_toList] at z
    exact z
  obtain ⟨a1, rfl, rfl, rfl, w1⟩ := open_int Tryd.underlying3 (hval 1 3 v1 rfl rfl) h1
  have k2 := h2
  obtain ⟨a2_0, a2_1, a2_2, rfl, rfl, w2_0, w2_1, w2_2⟩ := open_22 (hval 2 22 v2 rfl rfl) h2
  clear hA0 hval0 hsz0 hsz
  refine (P.isoglosslaw05_GrandFinds.walk Pure.GrandFinds a0 a1 a2_0 a2_1 a2_2 W w0 w1 w2_0 w2_1 w2_2 hG).mono fun e W' ⟨he, bel⟩ => ?_
  subst he
  exact ⟨_, rfl, _, _, _, [], _, [], hW', trodAll_mk1 (shut_bool Tryd.underlying4 _), (trodAll_cons_mk (shut_string Tryd.underlying9 y0) (trodAll_cons_mk (shut_int Tryd.underlying3 w1) (trodAll_cons_mk (Below.trod laidOut (by kernel_rfl) (of_decide_eq_true (by kernel_rfl)) k2 bel (by simp)) trodAll_mk0))), rfl, bel.frame _, fun h => by cases h⟩
set_option maxRecDepth 100000 in
theorem laid_met (os : Os) : laidMetH Tryd.prog Rows.grandFindsRow.laid ((GrandLaid.laidWorld os).forCall (fun _ _ => 0) ⟨#[], #[.string ByteArray.empty, .int .i64 0, .agg #[.int .i64 0, .int .i64 0, .int .i64 0]], []⟩).memory :=
  GrandLaid.laid_met os
set_option maxRecDepth 100000 in
theorem reads (os : Os) {H : Type} (enc : TypeId × Value → H) : ∃ places, DataW.whole enc Tryd.prog ((GrandLaid.laidWorld os).forCall (fun _ _ => 0) ⟨#[], #[.string ByteArray.empty, .int .i64 0, .agg #[.int .i64 0, .int .i64 0, .int .i64 0]], []⟩).memory Tryd.f3.params.toList Rows.grandFindsSpec.vars false (#[.string ByteArray.empty, .int .i64 0, .agg #[.int .i64 0, .int .i64 0, .int .i64 0]] : Array Value).toList 8 = some ([.lit (.string []), .lit (.int .i64 0), .agg [.lit (.int .i64 0), .lit (.int .i64 0), .lit (.int .i64 0)]], [], places) :=
  ⟨[], by kernel_rfl⟩
set_option maxRecDepth 100000 in
theorem lifted (os : Os) (started : os.Started) (H : Type) (enc : TypeId × Value → H) (F : Stop.Interp) :
    ReturnsInHanded {} Tryd.checked os 3 .any ((OpenSpec.ofChange Rows.grandFindsSpec).preRow enc Tryd.prog Tryd.f3 Rows.grandFindsRow.domain false Rows.grandFindsRow.laid) (((OpenSpec.ofChange Rows.grandFindsSpec).at F).post enc Tryd.prog Tryd.f3 false true false false) := by
  obtain ⟨places, hx⟩ := reads os enc
  refine returnsInHanded_of_row (C := Tryd.checked) (s := OpenSpec.ofChange Rows.grandFindsSpec) own started (by kernel_rfl) Tryd.func3
    (witness_row_at (enc := enc) (C := Tryd.checked) false (GrandLaid.laidWorld os) #[.string ByteArray.empty, .int .i64 0, .agg #[.int .i64 0, .int .i64 0, .int .i64 0]] rfl (by kernel_rfl) (by kernel_rfl) (by kernel_rfl)
      (OpenSpec.preRow_of_cond 8 hx (by kernel_rfl) (fun k hk => by cases hk) (by kernel_rfl) (laid_met os))) ?_
  intro W base args ds gs before hval hW _ _ hsz hL _ _
  exact contract H enc W base args ds gs before hval hW hsz hL
theorem said : Rows.GrandFindsSaid :=
  OpenClaim.holds_of_cond 3 Tryd.f3 rfl rfl rfl rfl rfl rfl rfl ⟨rfl, rfl, rfl, rfl, rfl⟩ rfl rfl rfl rfl rfl (by kernel_rfl) Tryd.func3 (by kernel_rfl)
    (of_decide_eq_true (by kernel_rfl)) (by unfold Func.isWrapper; first | (rw [if_pos (by decide +kernel)]; kernel_rfl) | (rw [if_neg (by decide +kernel)]; exact ⟨rfl, rfl⟩))
    (fun os started H enc _ F => by rw [OpenClaim.pre_eq_preRow]; exact lifted os started H enc F)
theorem plain (f : FuncId) (fn : Func) (hf : Tryd.pinned.checked.prog.funcNamed "isogloss/isoglosslaw05.GrandFinds" = some f) (hfn : Tryd.pinned.checked.prog.funcs[f]? = some fn) :
    false = Tryd.pinned.checked.prog.looks [] ∧ ∀ (j : Nat) t, fn.params[j]? = some t → Tryd.pinned.checked.prog.wantsStandIn t = false := by
  obtain rfl : f = 3 := Option.some.inj ((show Tryd.prog.funcNamed "isogloss/isoglosslaw05.GrandFinds" = some 3 by kernel_rfl).symm.trans hf) |>.symm
  obtain rfl : fn = Tryd.f3 := (Option.some.inj (Tryd.func3.symm.trans hfn)).symm
  refine ⟨by kernel_rfl, fun j t ht => ?_⟩
  rw [Tryd.params3] at ht
  have hm := Array.mem_of_getElem? ht
  simp only [List.mem_toArray, List.mem_cons, List.not_mem_nil, or_false] at hm
  rcases hm with rfl | rfl | rfl
  · exact (show Tryd.prog.wantsStandIn 9 = false by kernel_rfl)
  · exact (show Tryd.prog.wantsStandIn 3 = false by kernel_rfl)
  · exact (show Tryd.prog.wantsStandIn 22 = false by kernel_rfl)
theorem proved : Rows.GrandFindsCardSaid :=
  Claim7.holds_tied_plain_at .later [] _ _ _ _ said (fun _ h => by cases h) (by kernel_rfl) (fun _ h => by cases h) grandFinds_row_tie rfl ⟨rfl, rfl⟩ (by kernel_rfl) rfl plain (by kernel_rfl)
#print axioms proved
end Go.Proofs.YtmbfnbnlajchmaaDoor.grandFinds
namespace Go.Proofs.YtmbfnbnlajchmaaDoor
/-- The row, under a short name, for the claim. -/
theorem grandFinds_holds : Rows.GrandFindsCardSaid := grandFinds.proved
end Go.Proofs.YtmbfnbnlajchmaaDoor
