/- The aliases' table of rules (a map of closures), walked; an alias's texts by their places. -/
import Derived.Test.YtmbfnbnlajchmaaDoorAdEach
import Derived.Outline
import Derived.WalkKit
import Derived.MapKept
import Derived.WideMake
import Derived.RangeFuncRecord
import Derived.RangeFuncBox
import Derived.RangeFuncFrom
namespace Go.Proofs.YtmbfnbnlajchmaaDoor.AliasW
open Go.RowKit Go.Proofs.YtmbfnbnlajchmaaDoorW.PrintWords Go.Proofs.YtmbfnbnlajchmaaDoorW.PrintLast
set_option linter.unusedVariables false
set_option linter.unusedSimpArgs false

theorem run_upd {W : World} {b : Nat} {es : Array MapEntry} {c : Nat} (h : W.heap[b]? = some (.map es c)) (k : Int) (v : Value) (hn : Instr.findNow (.int .i64) (.int .i64 k) es.toList 0 = some none) :
    (Instr.mapUpdate 110 (.map (some b)) (.int .i64 k) v).run Tryd.prog W = .ok () (W.putObj b (.map (es.push { key := .int .i64 k, val := v, born := c }) (c + 1))) := by
  have hc : (Instr.checkKey false 10000 3 (.int .i64 k)).run Tryd.prog W = .ok () W := MapKept.run_checkKey (k := .int .i64 k) Tryd.underlying3 (by simp [MapKept.IsKey]) false 9999
  simp [Instr.mapUpdate, run_underlying Tryd.underlying110, MapKept.run_getObj_map h, hc, MapKept.run_findKey Tryd.underlying3 hn, MapKept.run_setObj_map _ h, Result.andThen, World.putObj]
theorem zero_rule (W : World) : (zeroValue 54).run Tryd.prog W = .ok .nilFunc W := by kernel_rfl
def ansV : Option (Nat × Value) → Value
  | some (_, v) => v
  | none => .nilFunc
theorem run_look {W : World} {b : Nat} {es : Array MapEntry} {c : Nat} (h : W.heap[b]? = some (.map es c)) (k : Int) (r : Option (Nat × Value)) (hf : Instr.findNow (.int .i64) (.int .i64 k) es.toList 0 = some r) :
    (Instr.lookup 110 (.map (some b)) (.int .i64 k) false).run Tryd.prog W = .ok (ansV r) W := by
  have hc : (Instr.checkKey es.isEmpty 10000 3 (.int .i64 k)).run Tryd.prog W = .ok () W := MapKept.run_checkKey (k := .int .i64 k) Tryd.underlying3 (by simp [MapKept.IsKey]) _ 9999
  cases r with
  | none => simp [Instr.lookup, run_underlying Tryd.underlying110, MapKept.run_getObj_map h, hc, MapKept.run_findKey Tryd.underlying3 hf, Result.andThen, zero_rule, ansV]
  | some x => simp [Instr.lookup, run_underlying Tryd.underlying110, MapKept.run_getObj_map h, hc, MapKept.run_findKey Tryd.underlying3 hf, Result.andThen, ansV]

def ruleV (k : Int) : Value := if k = 1 then .func (.func 92) #[] #[] else if k = 2 then .func (.func 96) #[] #[] else if k = 3 then .func (.func 99) #[] #[] else if k = 4 then .func (.func 100) #[] #[] else if k = 5 then .func (.func 102) #[] #[] else if k = 6 then .func (.func 103) #[] #[] else if k = 7 then .func (.func 105) #[] #[] else .nilFunc
def ruleE : Array MapEntry := #[
  { key := .int .i64 1, val := .func (.func 92) #[] #[], born := 0 },
  { key := .int .i64 2, val := .func (.func 96) #[] #[], born := 1 },
  { key := .int .i64 3, val := .func (.func 99) #[] #[], born := 2 },
  { key := .int .i64 4, val := .func (.func 100) #[] #[], born := 3 },
  { key := .int .i64 5, val := .func (.func 102) #[] #[], born := 4 },
  { key := .int .i64 6, val := .func (.func 103) #[] #[], born := 5 },
  { key := .int .i64 7, val := .func (.func 105) #[] #[], born := 6 }]
theorem rule_now (k : Int) : ∃ r, Instr.findNow (.int .i64) (.int .i64 k) ruleE.toList 0 = some r ∧ ansV r = ruleV k := by
  by_cases h1 : k = 1
  · subst h1; exact ⟨_, rfl, rfl⟩
  by_cases h2 : k = 2
  · subst h2; exact ⟨_, rfl, rfl⟩
  by_cases h3 : k = 3
  · subst h3; exact ⟨_, rfl, rfl⟩
  by_cases h4 : k = 4
  · subst h4; exact ⟨_, rfl, rfl⟩
  by_cases h5 : k = 5
  · subst h5; exact ⟨_, rfl, rfl⟩
  by_cases h6 : k = 6
  · subst h6; exact ⟨_, rfl, rfl⟩
  by_cases h7 : k = 7
  · subst h7; exact ⟨_, rfl, rfl⟩
  have e1 : (k == 1) = false := by simpa using h1
  have e2 : (k == 2) = false := by simpa using h2
  have e3 : (k == 3) = false := by simpa using h3
  have e4 : (k == 4) = false := by simpa using h4
  have e5 : (k == 5) = false := by simpa using h5
  have e6 : (k == 6) = false := by simpa using h6
  have e7 : (k == 7) = false := by simpa using h7
  refine ⟨none, by simp [ruleE, Instr.findNow, Instr.sameNow, e1, e2, e3, e4, e5, e6, e7], ?_⟩
  show Value.nilFunc = _
  unfold ruleV
  rw [if_neg h1, if_neg h2, if_neg h3, if_neg h4, if_neg h5, if_neg h6, if_neg h7]

theorem put_heap {W : World} {b : Nat} {o : Obj} (h : W.heap[b]? = some o) (o2 : Obj) : (W.putObj b o2).heap[b]? = some o2 := (MapKept.heap_set h).1
theorem below_put {w W : World} {b : Nat} (hb : w.heap.size ≤ b) (h : Below w.heap.size w W) (o : Obj) : Below w.heap.size w (W.putObj b o) :=
  pw_below_grown h (some b) h.size (grownBy_putObj' W b o) (fun k e => by cases e; exact hb)
theorem step_upd {w W : World} {es : Array MapEntry} {c : Nat} (h : W.heap[w.heap.size]? = some (.map es c)) (hB : Below w.heap.size w W) (k : Int) (v : Value) (hn : Instr.findNow (.int .i64) (.int .i64 k) es.toList 0 = some none) :
    ∃ W2, (Instr.mapUpdate 110 (.map (some w.heap.size)) (.int .i64 k) v).run Tryd.prog W = .ok () W2 ∧ W2.heap[w.heap.size]? = some (.map (es.push { key := .int .i64 k, val := v, born := c }) (c + 1)) ∧ Below w.heap.size w W2 :=
  ⟨_, run_upd h k v hn, put_heap h _, below_put (Nat.le_refl _) hB _⟩

set_option maxRecDepth 100000 in
set_option maxHeartbeats 2000000 in
theorem rule_calls (kind : Int) (w : World) :
    Calls Tryd.prog 66 #[.int .i64 kind] w fun e w' => e = .returned (ruleV kind) ∧ Below w.heap.size w w' := by
  have h0 : (w.alloc (.map #[] 0)).heap[w.heap.size]? = some (.map #[] 0) := World.alloc_heap_new w _
  have B0 : Below w.heap.size w (w.alloc (.map #[] 0)) := (Below.refl _ w).alloc (Nat.le_refl _) _
  obtain ⟨W1, u1, h1, B1⟩ := step_upd h0 B0 1 (.func (.func 92) #[] #[]) rfl
  obtain ⟨W2, u2, h2, B2⟩ := step_upd h1 B1 2 (.func (.func 96) #[] #[]) rfl
  obtain ⟨W3, u3, h3, B3⟩ := step_upd h2 B2 3 (.func (.func 99) #[] #[]) rfl
  obtain ⟨W4, u4, h4, B4⟩ := step_upd h3 B3 4 (.func (.func 100) #[] #[]) rfl
  obtain ⟨W5, u5, h5, B5⟩ := step_upd h4 B4 5 (.func (.func 102) #[] #[]) rfl
  obtain ⟨W6, u6, h6, B6⟩ := step_upd h5 B5 6 (.func (.func 103) #[] #[]) rfl
  obtain ⟨W7, u7, h7, B7⟩ := step_upd h6 B6 7 (.func (.func 105) #[] #[]) rfl
  obtain ⟨r, hr, er⟩ := rule_now kind
  have hl := run_look (c := 7) (es := ruleE) h7 kind r hr
  rw [er] at hl
  have hm : ∀ W : World, (Instr.makeMap 110 none).run Tryd.prog W = .ok (.map (some W.heap.size)) (W.alloc (.map #[] 0)) := fun W => run_makeMap_plain W _
  have HB := Aside0.mk B7
  clear h0 h1 h2 h3 h4 h5 h6 h7 B0 B1 B2 B3 B4 B5 B6 B7 er hr
  go_enter Tryd.func66, Tryd.ntmps66
  go_wp2
  go_ret
  exact ⟨rfl, HB.out⟩

def B (n b : Nat) : Array Bool := ((List.range n).map fun i => b.testBit i).toArray
theorem pv {P : Program} {md : Region.Mode} {ops : Array Oper} {Q : Exit → Act → World → Prop} {S : World → Prop} {ds : List Nat} (i : Nat) (N : Option Tmp) {oi : Oper} {v : Value} {fuel : Nat} {l : Array Bool} {a a' : Act} {w : World} (l' : Array Bool)
    (h : wpAnyLast P md ops Q S ds fuel l' a' w) (hi : ops[i]? = some oi := by rfl) (hN : oi.dst = N := by rfl) (hc : anyB md ops l l' i = true := by kernel_rfl)
    (hQ : ∀ c a w, Q (.panic c) (a.put oi.dst v) w → Q (.panic c) a w := by exact fun _ _ _ h => h) (hw : Region.wanted oi (yielded ops a.tmps) = true := by rfl) (hr : ∀ w', (execOp a.eval oi).run P w' = .ok (.value v) w' := by intro w'; go_simp; with_reducible rfl)
    (ha : a.put N v = a' := by simp only [Act.put, List.setIfInBounds_toArray, List.set_cons_zero, List.set_cons_succ, i64_w, i32_w]; rfl) : wpAnyLast P md ops Q S ds (fuel + 1) l a w :=
  pure_ (i := i) (N := N) l' hi hN hc hQ (Or.inl ⟨hw, hr⟩) ha h
def ptrsV (b : Nat) : Array Value := #[.pointer (some ⟨b, 1, none⟩), .pointer (some ⟨b, 2, none⟩), .pointer (some ⟨b, 3, none⟩), .pointer (some ⟨b, 4, none⟩), .pointer (some ⟨b, 5, none⟩)]
set_option maxRecDepth 100000 in
set_option maxHeartbeats 2000000 in
theorem fields_calls (b : Nat) (w : World) :
    Calls Tryd.prog 64 #[.pointer (some ⟨b, 0, none⟩)] w fun e w' => e = .returned (.agg (ptrsV b)) ∧ Below w.heap.size w w' := by
  have hu := Tryd.underlying50
  go_enter Tryd.func64, Tryd.ntmps64
  go_wp2
  obtain ⟨W0, hW0⟩ : ∃ W0, W0 = w.alloc (.cells #[.pointer none, .pointer none, .pointer none, .pointer none, .pointer none] 86) := ⟨_, rfl⟩
  have h0 : W0.heap[w.heap.size]? = some (.cells #[.pointer none, .pointer none, .pointer none, .pointer none, .pointer none] 86 (0, 0)) := by rw [hW0]; exact World.alloc_heap_new w _
  have B0 : Below w.heap.size w W0 := by rw [hW0]; exact (Below.refl _ w).alloc (Nat.le_refl _) _
  rw [← hW0]
  clear hW0
  refine start_ (n := 17) (S := fun _ => True) (ds := []) #[false, false, false, false, false, false, false, false, false, false, false, false, false, false, false, false, false] (by kernel_rfl) rfl rfl trivial (fun _ => ?_)
  have HW : Aside0 (W0.drew.heap[w.heap.size]? = some (.cells #[.pointer none, .pointer none, .pointer none, .pointer none, .pointer none] 86 (0, 0))) := ⟨h0⟩
  have HB : Aside0 (Below w.heap.size w W0.drew) := ⟨B0.drew⟩
  clear h0 B0
  generalize W0.drew = W1 at HW HB ⊢
  refine pv 0 (some 3) (B 17 1) ?_
  refine pv 1 (some 4) (B 17 3) ?_
  refine pv 2 (some 5) (B 17 7) ?_
  refine pv 3 (some 6) (B 17 15) ?_
  refine pv 4 (some 7) (B 17 31) ?_
  refine pv 5 (some 8) (B 17 63) ?_
  refine pv 6 (some 9) (B 17 127) ?_
  refine pv 7 (some 10) (B 17 255) ?_
  refine pv 8 (some 11) (B 17 511) ?_
  refine pv 9 (some 12) (B 17 1023) ?_
  refine pv 10 (some 13) (B 17 2047) ?_
  refine pv 11 (some 14) (B 17 4095) ?_
  refine pv 12 (some 15) (B 17 8191) ?_
  refine pv 13 (some 16) (B 17 16383) ?_
  refine pv 14 (some 17) (B 17 32767) ?_
  refine pv 15 (some 18) (B 17 65535) ?_
  refine one_ (i := 16) (N := none) #[true, true, true, true, true, true, true, true, true, true, true, true, true, true, true, true, true] rfl rfl (by kernel_rfl) (by decide) (fun K hK_ => ?_)
  have hs0 : W1.cell? ⟨w.heap.size, 0, none⟩ = some (.pointer none) := (blk_cell HW.out 0).trans rfl
  have hs1 : W1.cell? ⟨w.heap.size, 1, none⟩ = some (.pointer none) := (blk_cell HW.out 1).trans rfl
  have hs2 : W1.cell? ⟨w.heap.size, 2, none⟩ = some (.pointer none) := (blk_cell HW.out 2).trans rfl
  have hs3 : W1.cell? ⟨w.heap.size, 3, none⟩ = some (.pointer none) := (blk_cell HW.out 3).trans rfl
  have hs4 : W1.cell? ⟨w.heap.size, 4, none⟩ = some (.pointer none) := (blk_cell HW.out 4).trans rfl
  have hf0 : W1.frozen? ⟨w.heap.size, 0, none⟩ = false := blk_frozen HW.out 0
  have hf1 : W1.frozen? ⟨w.heap.size, 1, none⟩ = false := blk_frozen HW.out 1
  have hf2 : W1.frozen? ⟨w.heap.size, 2, none⟩ = false := blk_frozen HW.out 2
  have hf3 : W1.frozen? ⟨w.heap.size, 3, none⟩ = false := blk_frozen HW.out 3
  have hf4 : W1.frozen? ⟨w.heap.size, 4, none⟩ = false := blk_frozen HW.out 4
  refine skip_ (w1 := ?_) (by rfl) rfl ?_ ?_
  rotate_left
  · go_simp
    rfl
  refine hK_.out _ _ trivial (fun _ => ?_)
  clear hK_ K
  refine done_ (by kernel_rfl) ?_
  go_wp2
  refine bodyPost_ret (results_cell_row rfl _ _ w.heap.size 86 (ptrsV b) (0, 0) _ rfl ?_ Tryd.underlying86 rfl (by kernel_rfl)) rfl ⟨rfl, ?_⟩
  · refine blk_put (cs := #[.pointer (some ⟨b, 1, none⟩), .pointer (some ⟨b, 2, none⟩), .pointer (some ⟨b, 3, none⟩), .pointer (some ⟨b, 4, none⟩), .pointer none]) ?_ 4 _ rfl
    refine blk_put (cs := #[.pointer (some ⟨b, 1, none⟩), .pointer (some ⟨b, 2, none⟩), .pointer (some ⟨b, 3, none⟩), .pointer none, .pointer none]) ?_ 3 _ rfl
    refine blk_put (cs := #[.pointer (some ⟨b, 1, none⟩), .pointer (some ⟨b, 2, none⟩), .pointer none, .pointer none, .pointer none]) ?_ 2 _ rfl
    refine blk_put (cs := #[.pointer (some ⟨b, 1, none⟩), .pointer none, .pointer none, .pointer none, .pointer none]) ?_ 1 _ rfl
    refine blk_put (cs := #[.pointer none, .pointer none, .pointer none, .pointer none, .pointer none]) ?_ 0 _ rfl
    exact HW.out
  · exact below_set (below_set (below_set (below_set (below_set HB.out (Nat.le_refl _)) (Nat.le_refl _)) (Nat.le_refl _)) (Nat.le_refl _)) (Nat.le_refl _)

theorem ptrsV_at (b : Nat) : ∀ i : Nat, i < 5 → (ptrsV b)[i]? = some (.pointer (some ⟨b, i + 1, none⟩))
  | 0, _ => rfl
  | 1, _ => rfl
  | 2, _ => rfl
  | 3, _ => rfl
  | 4, _ => rfl
  | i + 5, h => absurd h (by omega)
theorem ptr_at (b : Nat) (W : World) (i : Nat) (hi : i < 5) : (Instr.index 86 (.agg (ptrsV b)) (.int .i64 (i : Int))).run Tryd.prog W = .ok (.pointer (some ⟨b, i + 1, none⟩)) W := by
  have hv := ptrsV_at b i hi
  have hs : Tryd.prog.cellsOf 85 = 1 := by kernel_rfl
  simp [Instr.index, run_underlying Tryd.underlying86, asIntOf, hi, go_sem, part, hv, hs]
end Go.Proofs.YtmbfnbnlajchmaaDoor.AliasW
