/- The likely rows' map, walked: its keys are rows of three texts. -/
import Derived.Test.YtdjbanhoejegjaaDqP0
import Derived.Outline
import Derived.WalkKit
import Derived.MapKept
import Derived.WideMake
import Derived.RangeFuncRecord
import Derived.RangeFuncBox
import Derived.RangeFuncFrom
namespace Go.Proofs.Ytdjbanhoejegjaa.LikW
open Go.RowKit Go.Proofs.YtdjbanhoejegjaaW.PrintWords Go.Proofs.YtdjbanhoejegjaaW.PrintLast Go.Proofs.Ytdjbanhoejegjaa.P
set_option linter.unusedVariables false
set_option linter.unusedSimpArgs false

abbrev K3 := ByteArray × ByteArray × ByteArray
def keyV (k : K3) : Value := .agg #[.string k.1, .string k.2.1, .string k.2.2]
theorem check_key (e : Bool) (k : K3) (W : World) : (Instr.checkKey e 10000 30 (keyV k)).run Try.prog W = .ok () W := by kernel_rfl
theorem equal_key (a b : K3) (W : World) : (Op.equal 30 (keyV a) (keyV b)).run Try.prog W = .ok (a.1 == b.1 && (a.2.1 == b.2.1 && a.2.2 == b.2.2)) W := by
  have hs : Try.prog.cellsOf 9 = 1 := by kernel_rfl
  have e0 : ∀ (s t : ByteArray) (d : Nat), (Op.equalIn (d + 1) 9 (.string s) (.string t)).run Try.prog W = .ok (s == t) W := by
    intro s t d
    simp [Op.equalIn, run_underlying Try.underlying9, Result.andThen]
  unfold Op.equal keyV
  show (Op.equalIn 10000 _ _ _).run _ _ = _
  rw [Op.equalIn]
  cases h0 : a.1 == b.1 <;> cases h1 : a.2.1 == b.2.1 <;> cases h2 : a.2.2 == b.2.2 <;>
    simp [run_underlying Try.underlying30, Result.andThen, List.range', go_sem, part, hs, e0, h0, h1, h2]
def askL (k : K3) : List (K3 × Value × Nat) → Nat → Option (Nat × Value)
  | [], _ => none
  | e :: l, i => if (k.1 == e.1.1 && (k.2.1 == e.1.2.1 && k.2.2 == e.1.2.2)) = true then some (i, e.2.1) else askL k l (i + 1)
def entry (e : K3 × Value × Nat) : MapEntry := { key := keyV e.1, val := e.2.1, born := e.2.2 }
theorem ask_run (k : K3) (W : World) : ∀ (l : List (K3 × Value × Nat)) (i : Nat), (Instr.findAsking 30 (keyV k) (l.map entry) i).run Try.prog W = .ok (askL k l i) W
  | [], i => rfl
  | e :: l, i => by
    have ih := ask_run k W l (i + 1)
    have he := equal_key k e.1 W
    simp only [List.map_cons, Instr.findAsking, askL]
    show (Sem.run Try.prog (do if ← Op.equal 30 (keyV k) (keyV e.1) then pure (some (i, e.2.1)) else Instr.findAsking 30 (keyV k) (l.map entry) (i + 1)) W) = _
    simp only [Sem.run_bind, he, Result.andThen_ok]
    split
    · rfl
    · exact ih
theorem find_run (k : K3) (W : World) (l : List (K3 × Value × Nat)) : (Instr.findKey 30 (keyV k) (l.map entry)).run Try.prog W = .ok (askL k l 0) W := by
  have hn : Instr.findNow (.array 3 9) (keyV k) (l.map entry) 0 = none ∨ l = [] := by
    cases l with
    | nil => exact .inr rfl
    | cons e l => exact .inl rfl
  rcases hn with hn | rfl
  · have := ask_run k W l 0
    simp [Instr.findKey, run_underlying Try.underlying30, hn, this, Result.andThen]
  · simp [Instr.findKey, run_underlying Try.underlying30, Instr.findNow, askL, Result.andThen]
def MapIs (W : World) (b : Nat) (ps : List (K3 × Value)) : Prop := ∃ (l : List (K3 × Value × Nat)) (c : Nat), l.map (fun e => (e.1, e.2.1)) = ps ∧ W.heap[b]? = some (.map (l.map entry).toArray c)
def findP (k : K3) : List (K3 × Value) → Option Value
  | [] => none
  | e :: l => if (k.1 == e.1.1 && (k.2.1 == e.1.2.1 && k.2.2 == e.1.2.2)) = true then some e.2 else findP k l
theorem ask_find (k : K3) : ∀ (l : List (K3 × Value × Nat)) (i : Nat), (askL k l i).map (·.2) = findP k (l.map fun e => (e.1, e.2.1))
  | [], _ => rfl
  | e :: l, i => by
    have ih := ask_find k l (i + 1)
    simp only [askL, List.map_cons, findP]
    split
    · rfl
    · exact ih
theorem MapIs.below {W W' : World} {b : Nat} {ps : List (K3 × Value)} (h : MapIs W b ps) (hb : Below W.heap.size W W') : MapIs W' b ps := by
  obtain ⟨l, c, e, h⟩ := h
  exact ⟨l, c, e, (hb.block _ (Array.getElem?_eq_some_iff.1 h).1).trans h⟩
theorem MapIs.same {W W' : World} {b : Nat} {ps : List (K3 × Value)} (h : MapIs W b ps) (hb : W'.heap[b]? = W.heap[b]?) : MapIs W' b ps := by
  obtain ⟨l, c, e, h⟩ := h
  exact ⟨l, c, e, hb.trans h⟩
theorem run_look {W : World} {b : Nat} {ps : List (K3 × Value)} (h : MapIs W b ps) (k : K3) {T E : TypeId} (hT : Try.prog.underlying T = some (.map 30 E)) {z : Value} (hz : (zeroValue E).run Try.prog W = .ok z W) (ok : Bool) :
    (Instr.lookup T (.map (some b)) (keyV k) ok).run Try.prog W = .ok (if ok = true then .tuple #[(findP k ps).getD z, .bool (findP k ps).isSome] else (findP k ps).getD z) W := by
  obtain ⟨l, c, e, h⟩ := h
  have hf := find_run k W l
  have hc := fun x => check_key x k W
  have ha := ask_find k l 0
  rw [e] at ha
  rw [← ha]
  cases ht : askL k l 0 with
  | none =>
    rw [ht] at hf
    cases ok <;> simp [Instr.lookup, run_underlying hT, MapKept.run_getObj_map h, hc, hf, Result.andThen, hz]
  | some x =>
    rw [ht] at hf
    cases ok <;> simp [Instr.lookup, run_underlying hT, MapKept.run_getObj_map h, hc, hf, Result.andThen]
theorem run_upd {W : World} {b : Nat} {ps : List (K3 × Value)} (h : MapIs W b ps) (k : K3) (v : Value) {T E : TypeId} (hT : Try.prog.underlying T = some (.map 30 E)) (hn : findP k ps = none) :
    ∃ W', (Instr.mapUpdate T (.map (some b)) (keyV k) v).run Try.prog W = .ok () W' ∧ MapIs W' b (ps ++ [(k, v)]) ∧ W.grownBy W' (some b) := by
  obtain ⟨l, c, e, h⟩ := h
  have hf := find_run k W l
  have hc := check_key false k W
  have ha := ask_find k l 0
  rw [e, hn] at ha
  have ha0 : askL k l 0 = none := by
    cases g : askL k l 0 with
    | none => rfl
    | some x => rw [g] at ha; cases ha
  rw [ha0] at hf
  refine ⟨W.putObj b (.map ((l.map entry).toArray.push { key := keyV k, val := v, born := c }) (c + 1)), ?_, ?_, grownBy_putObj' W b _⟩
  · simp [Instr.mapUpdate, run_underlying hT, MapKept.run_getObj_map h, hc, hf, MapKept.run_setObj_map _ h, Result.andThen, World.putObj]
  · refine ⟨l ++ [(k, v, c)], c + 1, by simp [e], ?_⟩
    have hp : (W.putObj b (.map ((l.map entry).toArray.push { key := keyV k, val := v, born := c }) (c + 1))).heap[b]? = some (.map ((l.map entry).toArray.push { key := keyV k, val := v, born := c }) (c + 1)) := (MapKept.heap_set h).1
    rw [hp]
    simp [entry]
section
variable {P : Program} {ops : Array Oper} {rest : List Oper} {o : Oper} {a : Act} {w : World} {Q : Exit → Act → World → Prop}
theorem wpList_look (hg : o.guard = none) (m x : Operand) (T E : TypeId) (ok : Bool) (hop : o.op = Op.lookup T m x ok) (hT : Try.prog.underlying T = some (.map 30 E)) (b : Nat) (hm : a.eval m = .map (some b)) (ps : List (K3 × Value)) (hM : MapIs w b ps) (k : K3) (hx : a.eval x = keyV k)
    (z : Value) (hz : (zeroValue E).run Try.prog w = .ok z w) (h : wpList Try.prog ops Q rest (a.put o.dst (if ok = true then .tuple #[(findP k ps).getD z, .bool (findP k ps).isSome] else (findP k ps).getD z)) w) : wpList Try.prog ops Q (o :: rest) a w := by
  refine wpList_plain hg fun K' hK' => ?_
  have hrun := run_look hM k hT hz ok
  unfold Oper.wp
  simp only [execOp, hop, hm, hx]
  simp only [Sem.run_bind, hrun, Result.andThen_ok, Sem.run_pure]
  exact hK' _ _ h
theorem wpList_upd (hg : o.guard = none) (m x v : Operand) (T E : TypeId) (hop : o.op = Op.mapUpdate T m x v) (hT : Try.prog.underlying T = some (.map 30 E)) (b : Nat) (hm : a.eval m = .map (some b)) (ps : List (K3 × Value)) (hM : MapIs w b ps) (k : K3) (hx : a.eval x = keyV k) (u : Value) (hv : a.eval v = u)
    (hn : findP k ps = none) (h : ∀ w', MapIs w' b (ps ++ [(k, u)]) → w.grownBy w' (some b) → wpList Try.prog ops Q rest (a.put o.dst undef) w') : wpList Try.prog ops Q (o :: rest) a w := by
  refine wpList_plain hg fun K' hK' => ?_
  obtain ⟨w', hrun, h1, h2⟩ := run_upd hM k u hT hn
  unfold Oper.wp
  simp [execOp, hop, hm, hx, hv, hrun, Result.andThen]
  exact hK' _ _ (h w' h1 h2)
end
end Go.Proofs.Ytdjbanhoejegjaa.LikW
