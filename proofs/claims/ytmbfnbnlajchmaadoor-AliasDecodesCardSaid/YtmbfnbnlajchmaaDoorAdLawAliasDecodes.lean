/- Proved here: the statement AliasDecodesCardSaid of the given program: whatever the arguments, the law isogloss/isoglosslaw12.AliasDecodes returns true, and each argument reads afterwards as it read before. No further condition. -/
import Derived.Test.YtmbfnbnlajchmaaDoorCards
import Derived.Test.YtmbfnbnlajchmaaDoorTie
import Derived.Test.YtmbfnbnlajchmaaDoorAdGrandLaid
import Derived.Test.YtmbfnbnlajchmaaDoorAdP27
import Derived.Test.YtmbfnbnlajchmaaDoorAdPureAliasDecodes
import Derived.WalkKit
import Derived.ProofKit
import Derived.OpenShut
import Derived.ShutString
import Derived.ChangeOld
import Derived.Below
import Derived.SizedLaws
import Derived.Deep.DeepHandedRow
namespace Go.Proofs.YtmbfnbnlajchmaaDoor.aliasDecodes
open Go.ChangeShapes Go.WideShapes Go.ChangeAt Go.RowKit
open Go.ChangeMaps (open_string shut_string)
set_option linter.unusedVariables false
set_option linter.unusedSimpArgs false
theorem own : ownKnob Tryd.prog.godebug = none := by kernel_rfl
theorem laidOut : laidOutB Tryd.prog = true := by kernel_rfl
theorem len_7 {α : Type} (l : List α) (h : l.length = 7) : ∃ a0 a1 a2 a3 a4 a5 a6, l = [a0, a1, a2, a3, a4, a5, a6] := by
  match l, h with
  | [a0, a1, a2, a3, a4, a5, a6], _ => exact ⟨_, _, _, _, _, _, _, rfl⟩
theorem cellsOf3 : Tryd.prog.cellsOf 3 = 1 := by kernel_rfl
theorem cellsOf52 : Tryd.prog.cellsOf 52 = 7 := by kernel_rfl
theorem cells_52 {H : Type} {enc : TypeId × Value → H} {w : World} {base : Nat} {sp : Nat → Bool} {held : Bool} {fuel : Nat} {cs : List Value} {x : DataW H × List MemPlace} (h : DataW.trod enc Tryd.prog w base sp held fuel 52 cs = some x) :
    ∃ (n0 : Int) (n1 : Int) (n2 : Int) (n3 : Int) (n4 : Int) (n5 : Int) (n6 : Int), cs = [.int .i64 n0, .int .i64 n1, .int .i64 n2, .int .i64 n3, .int .i64 n4, .int .i64 n5, .int .i64 n6] ∧ x.2 = [] ∧ (Lit.int .i64 n0).wf = true ∧ (Lit.int .i64 n1).wf = true ∧ (Lit.int .i64 n2).wf = true ∧ (Lit.int .i64 n3).wf = true ∧ (Lit.int .i64 n4).wf = true ∧ (Lit.int .i64 n5).wf = true ∧ (Lit.int .i64 n6).wf = true := by
  obtain ⟨xs, m, rfl, rfl, hlen, hxl, hall⟩ := DataW.trod_struct Tryd.underlying52 h
  rw [cellsOf52] at hlen
  obtain ⟨c0, c1, c2, c3, c4, c5, c6, rfl⟩ := len_7 cs hlen
  obtain ⟨x0, x1, x2, x3, x4, x5, x6, rfl⟩ := len_7 xs (by simpa using hxl)
  have f0 : DataW.trod enc Tryd.prog w base sp held m 3 [c0] = some x0 := by simpa [cellsOf3] using hall 0 _ rfl
  obtain ⟨n0, e0, rfl, w0⟩ := DataW.trod_int Tryd.underlying3 f0
  obtain ⟨rfl⟩ : c0 = .int .i64 n0 := by simpa using e0
  have f1 : DataW.trod enc Tryd.prog w base sp held m 3 [c1] = some x1 := by simpa [cellsOf3] using hall 1 _ rfl
  obtain ⟨n1, e1, rfl, w1⟩ := DataW.trod_int Tryd.underlying3 f1
  obtain ⟨rfl⟩ : c1 = .int .i64 n1 := by simpa using e1
  have f2 : DataW.trod enc Tryd.prog w base sp held m 3 [c2] = some x2 := by simpa [cellsOf3] using hall 2 _ rfl
  obtain ⟨n2, e2, rfl, w2⟩ := DataW.trod_int Tryd.underlying3 f2
  obtain ⟨rfl⟩ : c2 = .int .i64 n2 := by simpa using e2
  have f3 : DataW.trod enc Tryd.prog w base sp held m 3 [c3] = some x3 := by simpa [cellsOf3] using hall 3 _ rfl
  obtain ⟨n3, e3, rfl, w3⟩ := DataW.trod_int Tryd.underlying3 f3
  obtain ⟨rfl⟩ : c3 = .int .i64 n3 := by simpa using e3
  have f4 : DataW.trod enc Tryd.prog w base sp held m 3 [c4] = some x4 := by simpa [cellsOf3] using hall 4 _ rfl
  obtain ⟨n4, e4, rfl, w4⟩ := DataW.trod_int Tryd.underlying3 f4
  obtain ⟨rfl⟩ : c4 = .int .i64 n4 := by simpa using e4
  have f5 : DataW.trod enc Tryd.prog w base sp held m 3 [c5] = some x5 := by simpa [cellsOf3] using hall 5 _ rfl
  obtain ⟨n5, e5, rfl, w5⟩ := DataW.trod_int Tryd.underlying3 f5
  obtain ⟨rfl⟩ : c5 = .int .i64 n5 := by simpa using e5
  have f6 : DataW.trod enc Tryd.prog w base sp held m 3 [c6] = some x6 := by simpa [cellsOf3] using hall 6 _ rfl
  obtain ⟨n6, e6, rfl, w6⟩ := DataW.trod_int Tryd.underlying3 f6
  obtain ⟨rfl⟩ : c6 = .int .i64 n6 := by simpa using e6
  exact ⟨n0, n1, n2, n3, n4, n5, n6, rfl, by simp, w0, w1, w2, w3, w4, w5, w6⟩
set_option maxRecDepth 100000 in
theorem open_52 {H : Type} {enc : TypeId × Value → H} {w : World} {b0 : Nat} {r : Reach} {base : Nat} {sp : Nat → Bool} {held : Bool} {v : Value} {d : DataW H} {p : List MemPlace} (hv : Value.okWide Tryd.prog w r b0 52 v) (h : DataW.Trod enc Tryd.prog w base sp held 52 v d p) :
    ∃ (n0 : Int) (n1 : Int) (n2 : Int) (n3 : Int) (n4 : Int) (n5 : Int) (n6 : Int), v = .agg #[.int .i64 n0, .int .i64 n1, .int .i64 n2, .int .i64 n3, .int .i64 n4, .int .i64 n5, .int .i64 n6] ∧ p = [] ∧ (Lit.int .i64 n0).wf = true ∧ (Lit.int .i64 n1).wf = true ∧ (Lit.int .i64 n2).wf = true ∧ (Lit.int .i64 n3).wf = true ∧ (Lit.int .i64 n4).wf = true ∧ (Lit.int .i64 n5).wf = true ∧ (Lit.int .i64 n6).wf = true := by
  unfold Value.okWide at hv
  rw [Tryd.underlying52] at hv
  obtain ⟨cs, rfl, _, _⟩ := hv
  obtain ⟨fuel, hf⟩ := h
  obtain ⟨n0, n1, n2, n3, n4, n5, n6, e, z, w⟩ := cells_52 hf
  refine ⟨n0, n1, n2, n3, n4, n5, n6, ?_, z, w⟩
  have e2 : cs.toList = _ := e
  have e3 := congrArg List.toArray e2
  rw [Array.toArray_toList] at e3
  rw [e3]
theorem len_2 {α : Type} (l : List α) (h : l.length = 2) : ∃ a0 a1, l = [a0, a1] := by
  match l, h with
  | [a0, a1], _ => exact ⟨_, _, rfl⟩
theorem cellsOf67 : Tryd.prog.cellsOf 67 = 2 := by kernel_rfl
theorem cells_67 {H : Type} {enc : TypeId × Value → H} {w : World} {base : Nat} {sp : Nat → Bool} {held : Bool} {fuel : Nat} {cs : List Value} {x : DataW H × List MemPlace} (h : DataW.trod enc Tryd.prog w base sp held fuel 67 cs = some x) :
    ∃ (n0 : Int) (n1 : Int), cs = [.int .i64 n0, .int .i64 n1] ∧ x.2 = [] ∧ (Lit.int .i64 n0).wf = true ∧ (Lit.int .i64 n1).wf = true := by
  obtain ⟨xs, m, rfl, rfl, hlen, hxl, hall⟩ := DataW.trod_array Tryd.underlying67 h
  rw [cellsOf67] at hlen
  obtain ⟨c0, c1, rfl⟩ := len_2 cs hlen
  obtain ⟨x0, x1, rfl⟩ := len_2 xs (by simpa using hxl)
  have f0 : DataW.trod enc Tryd.prog w base sp held m 3 [c0] = some x0 := by simpa [cellsOf3] using hall 0 (by decide)
  obtain ⟨n0, e0, rfl, w0⟩ := DataW.trod_int Tryd.underlying3 f0
  obtain ⟨rfl⟩ : c0 = .int .i64 n0 := by simpa using e0
  have f1 : DataW.trod enc Tryd.prog w base sp held m 3 [c1] = some x1 := by simpa [cellsOf3] using hall 1 (by decide)
  obtain ⟨n1, e1, rfl, w1⟩ := DataW.trod_int Tryd.underlying3 f1
  obtain ⟨rfl⟩ : c1 = .int .i64 n1 := by simpa using e1
  exact ⟨n0, n1, rfl, by simp, w0, w1⟩
set_option maxRecDepth 100000 in
theorem open_67 {H : Type} {enc : TypeId × Value → H} {w : World} {b0 : Nat} {r : Reach} {base : Nat} {sp : Nat → Bool} {held : Bool} {v : Value} {d : DataW H} {p : List MemPlace} (hv : Value.okWide Tryd.prog w r b0 67 v) (h : DataW.Trod enc Tryd.prog w base sp held 67 v d p) :
    ∃ (n0 : Int) (n1 : Int), v = .agg #[.int .i64 n0, .int .i64 n1] ∧ p = [] ∧ (Lit.int .i64 n0).wf = true ∧ (Lit.int .i64 n1).wf = true := by
  unfold Value.okWide at hv
  rw [Tryd.underlying67] at hv
  obtain ⟨cs, rfl, _, _⟩ := hv
  obtain ⟨fuel, hf⟩ := h
  obtain ⟨n0, n1, e, z, w⟩ := cells_67 hf
  refine ⟨n0, n1, ?_, z, w⟩
  have e2 : cs.toList = _ := e
  have e3 := congrArg List.toArray e2
  rw [Array.toArray_toList] at e3
  rw [e3]
set_option maxRecDepth 100000 in
theorem contract (H : Type) (enc : TypeId × Value → H) (W : World) (base : Nat) (args : Array Value) (ds gs : List (DataW H)) (before : List MemPlace)
    (hval0 : ∀ (j : Nat) t v, Tryd.f12.params[j]? = some t → args[j]? = some v → Value.okWide Tryd.prog W .any base t v)
    (hW : DataW.Whole enc Tryd.prog Tryd.f12.params.toList Rows.aliasDecodesSpec.vars false W args.toList ds gs before)
    (hsz0 : (DataW.weightsEach Tryd.prog (Tryd.f12.params.toList ++ Rows.aliasDecodesSpec.plain.varTypes Tryd.prog) (ds ++ gs)).all (· ≤ reachBytes) = true) (hL : laidMetH Tryd.prog Rows.aliasDecodesRow.laid W) :
    Calls Tryd.prog 12 args W fun e W' => ∃ v, e = .returned v ∧ Rows.aliasDecodesSpec.post enc Tryd.prog Tryd.f12 false true false false W args v W' := by
  have hG := GrandLaid.gives hL
  have hsz := hsz0
  have hval : ∀ (j : Nat) t v, Tryd.f12.params[j]? = some t → args[j]? = some v → Value.okWide Tryd.prog W .any base t v := hval0
  have hW' := hW
  obtain ⟨p, q, hA0, hV, rfl, hfz, hnd⟩ := hW
  have hA : DataW.TrodAll enc Tryd.prog W 0 (fun _ => true) true Tryd.f12.params.toList args.toList ds p := hA0
  rw [Tryd.params12] at hA hval hsz
  obtain ⟨v0, vs0, d0, ds0, p0, q0, hargs, rfl, rfl, h0, r0⟩ := trodAll_cons hA
  obtain ⟨v1, vs1, d1, ds1, p1, q1, rfl, rfl, rfl, h1, r1⟩ := trodAll_cons r0
  obtain ⟨v2, vs2, d2, ds2, p2, q2, rfl, rfl, rfl, h2, r2⟩ := trodAll_cons r1
  obtain ⟨rfl, rfl, rfl⟩ := trodAll_nil r2
  obtain rfl : args = #[v0, v1, v2] := by cases args; simp_all
  obtain ⟨rfl, rfl⟩ := trodVars_none hV
  have k0 := h0
  obtain ⟨a0_0, a0_1, a0_2, a0_3, a0_4, a0_5, a0_6, rfl, rfl, w0_0, w0_1, w0_2, w0_3, w0_4, w0_5, w0_6⟩ := open_52 (hval 0 52 v0 rfl rfl) h0
  obtain ⟨a1, rfl, rfl, rfl, y1⟩ := open_string Tryd.underlying9 (hval 1 9 v1 rfl rfl) h1
  have w1 : a1.size ≤ 140737488351232 := by
    have z := sized_string hsz (j := 1) (t := 9) rfl rfl
    rw [Array.length_toList] at z
    exact z
  have k2 := h2
  obtain ⟨a2_0, a2_1, rfl, rfl, w2_0, w2_1⟩ := open_67 (hval 2 67 v2 rfl rfl) h2
  clear hA0 hval0 hsz0 hsz
  refine (P.isoglosslaw12_AliasDecodes.walk Pure.AliasDecodes a0_0 a0_1 a0_2 a0_3 a0_4 a0_5 a0_6 a1 a2_0 a2_1 W w0_0 w0_1 w0_2 w0_3 w0_4 w0_5 w0_6 w1 w2_0 w2_1 hG).mono fun e W' ⟨he, bel⟩ => ?_
  subst he
  exact ⟨_, rfl, _, _, _, [], _, [], hW', trodAll_mk1 (shut_bool Tryd.underlying4 _), (trodAll_cons_mk (Below.trod laidOut (by kernel_rfl) (of_decide_eq_true (by kernel_rfl)) k0 bel (by simp)) (trodAll_cons_mk (shut_string Tryd.underlying9 y1) (trodAll_cons_mk (Below.trod laidOut (by kernel_rfl) (of_decide_eq_true (by kernel_rfl)) k2 bel (by simp)) trodAll_mk0))), rfl, bel.frame _, fun h => by cases h⟩
set_option maxRecDepth 100000 in
theorem laid_met (os : Os) : laidMetH Tryd.prog Rows.aliasDecodesRow.laid ((GrandLaid.laidWorld os).forCall (fun _ _ => 0) ⟨#[], #[.agg #[.int .i64 0, .int .i64 0, .int .i64 0, .int .i64 0, .int .i64 0, .int .i64 0, .int .i64 0], .string ByteArray.empty, .agg #[.int .i64 0, .int .i64 0]], []⟩).memory :=
  GrandLaid.laid_met os
set_option maxRecDepth 100000 in
theorem reads (os : Os) {H : Type} (enc : TypeId × Value → H) : ∃ places, DataW.whole enc Tryd.prog ((GrandLaid.laidWorld os).forCall (fun _ _ => 0) ⟨#[], #[.agg #[.int .i64 0, .int .i64 0, .int .i64 0, .int .i64 0, .int .i64 0, .int .i64 0, .int .i64 0], .string ByteArray.empty, .agg #[.int .i64 0, .int .i64 0]], []⟩).memory Tryd.f12.params.toList Rows.aliasDecodesSpec.vars false (#[.agg #[.int .i64 0, .int .i64 0, .int .i64 0, .int .i64 0, .int .i64 0, .int .i64 0, .int .i64 0], .string ByteArray.empty, .agg #[.int .i64 0, .int .i64 0]] : Array Value).toList 8 = some ([.agg [.lit (.int .i64 0), .lit (.int .i64 0), .lit (.int .i64 0), .lit (.int .i64 0), .lit (.int .i64 0), .lit (.int .i64 0), .lit (.int .i64 0)], .lit (.string []), .agg [.lit (.int .i64 0), .lit (.int .i64 0)]], [], places) :=
  ⟨[], by kernel_rfl⟩
set_option maxRecDepth 100000 in
theorem lifted (os : Os) (started : os.Started) (H : Type) (enc : TypeId × Value → H) (F : Stop.Interp) :
    ReturnsInHanded {} Tryd.checked os 12 .any ((OpenSpec.ofChange Rows.aliasDecodesSpec).preRow enc Tryd.prog Tryd.f12 Rows.aliasDecodesRow.domain false Rows.aliasDecodesRow.laid) (((OpenSpec.ofChange Rows.aliasDecodesSpec).at F).post enc Tryd.prog Tryd.f12 false true false false) := by
  obtain ⟨places, hx⟩ := reads os enc
  refine returnsInHanded_of_row (C := Tryd.checked) (s := OpenSpec.ofChange Rows.aliasDecodesSpec) own started (by kernel_rfl) Tryd.func12
    (witness_row_at (enc := enc) (C := Tryd.checked) false (GrandLaid.laidWorld os) #[.agg #[.int .i64 0, .int .i64 0, .int .i64 0, .int .i64 0, .int .i64 0, .int .i64 0, .int .i64 0], .string ByteArray.empty, .agg #[.int .i64 0, .int .i64 0]] rfl (by kernel_rfl) (by kernel_rfl) (by kernel_rfl)
      (OpenSpec.preRow_of_cond 8 hx (by kernel_rfl) (fun k hk => by cases hk) (by kernel_rfl) (laid_met os))) ?_
  intro W base args ds gs before hval hW _ _ hsz hL _ _
  exact contract H enc W base args ds gs before hval hW hsz hL
theorem said : Rows.AliasDecodesSaid :=
  OpenClaim.holds_of_cond 12 Tryd.f12 rfl rfl rfl rfl rfl rfl rfl ⟨rfl, rfl, rfl, rfl, rfl⟩ rfl rfl rfl rfl rfl (by kernel_rfl) Tryd.func12 (by kernel_rfl)
    (of_decide_eq_true (by kernel_rfl)) (by unfold Func.isWrapper; first | (rw [if_pos (by decide +kernel)]; kernel_rfl) | (rw [if_neg (by decide +kernel)]; exact ⟨rfl, rfl⟩))
    (fun os started H enc _ F => by rw [OpenClaim.pre_eq_preRow]; exact lifted os started H enc F)
theorem plain (f : FuncId) (fn : Func) (hf : Tryd.pinned.checked.prog.funcNamed "isogloss/isoglosslaw12.AliasDecodes" = some f) (hfn : Tryd.pinned.checked.prog.funcs[f]? = some fn) :
    false = Tryd.pinned.checked.prog.looks [] ∧ ∀ (j : Nat) t, fn.params[j]? = some t → Tryd.pinned.checked.prog.wantsStandIn t = false := by
  obtain rfl : f = 12 := Option.some.inj ((show Tryd.prog.funcNamed "isogloss/isoglosslaw12.AliasDecodes" = some 12 by kernel_rfl).symm.trans hf) |>.symm
  obtain rfl : fn = Tryd.f12 := (Option.some.inj (Tryd.func12.symm.trans hfn)).symm
  refine ⟨by kernel_rfl, fun j t ht => ?_⟩
  rw [Tryd.params12] at ht
  have hm := Array.mem_of_getElem? ht
  simp only [List.mem_toArray, List.mem_cons, List.not_mem_nil, or_false] at hm
  rcases hm with rfl | rfl | rfl
  · exact (show Tryd.prog.wantsStandIn 52 = false by kernel_rfl)
  · exact (show Tryd.prog.wantsStandIn 9 = false by kernel_rfl)
  · exact (show Tryd.prog.wantsStandIn 67 = false by kernel_rfl)
theorem proved : Rows.AliasDecodesCardSaid :=
  Claim7.holds_tied_plain_at .later [] _ _ _ _ said (fun _ h => by cases h) (by kernel_rfl) (fun _ h => by cases h) aliasDecodes_row_tie rfl ⟨rfl, rfl⟩ (by kernel_rfl) rfl plain (by kernel_rfl)
#print axioms proved
end Go.Proofs.YtmbfnbnlajchmaaDoor.aliasDecodes
namespace Go.Proofs.YtmbfnbnlajchmaaDoor
theorem aliasDecodes_holds : Rows.AliasDecodesCardSaid := aliasDecodes.proved
end Go.Proofs.YtmbfnbnlajchmaaDoor
