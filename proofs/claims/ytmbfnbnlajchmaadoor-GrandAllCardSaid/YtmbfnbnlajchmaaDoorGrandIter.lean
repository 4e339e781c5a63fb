/- The tags' iterator: for every loop body; how many tags there are. -/
import Derived.Test.YtmbfnbnlajchmaaDoorGrandW
import Derived.RangeFuncNested
import Derived.RangeFuncBound
import Derived.RangeFuncCalls
import Derived.RangeFuncLeaves
import Derived.Shelf.Abstract
import Derived.Shelf.RegionOpen
import Derived.WalkKit
import Derived.OwnWalkIn
import Derived.TacticsInMore
import Derived.LoopNIn
import Derived.LoopIn
namespace Go.Proofs.YtmbfnbnlajchmaaDoor.GrandIter
open Go.RowKit Go.Shelf Go.Proofs.YtmbfnbnlajchmaaDoorW.PrintWords Go.Proofs.YtmbfnbnlajchmaaDoorW.PrintLast
open Go.Proofs.YtmbfnbnlajchmaaDoor.GrandW
attribute [local go_sem] Oper.semAt_some
set_option linter.unusedVariables false
set_option linter.unusedSimpArgs false

theorem index_at (w : World) (i : Nat) (hi : i < 26) : (Instr.index 76 (.agg namesV) (.int .i64 (i : Int))).run Tryd.prog w = .ok (.string (nameAt (i : Int))) w := by
  have hv := namesV_at i hi
  have hs : Tryd.prog.cellsOf 9 = 1 := by kernel_rfl
  simp [Instr.index, run_underlying Tryd.underlying76, asIntOf, hi, go_sem, part, hv, hs]
theorem load_all (w : World) (hG : G w) : (loadVar 76 ⟨0, 0, none⟩).run Tryd.prog w = .ok (.agg namesV) w := by
  obtain ⟨tt, fr, hg⟩ := hG
  exact run_loadVar_row w _ tt 76 namesV fr _ hg Tryd.underlying76 rfl (by rw [namesV_size]; kernel_rfl)

/-- A whole array is loaded, inside a fence. -/
theorem load_row_in {F : Fence} {n : Nat} {P : Program} {ops : Array Oper} {rest : List Oper} {o : Oper} {a : Act} {w : World} {Q : Exit → Act → World → Prop} (hro : F.round = none) (hgd : o.guard = none) (ty : TypeId) (x : Operand) (ho : o.op = .load ty x)
    (p : Addr) (hx : a.eval x = .pointer (some p)) (v : Value) (hl : (loadVar ty p).run P w = .ok v w)
    (h : wpListIn F n P ops Q rest (a.put o.dst v) w) : wpListIn F n P ops Q (o :: rest) a w := by
  refine wpListIn_plain hgd fun K hK => ⟨fun f hf => ?_, ?_⟩
  · simp [Oper.about, ho] at hf
  · rw [hro]
    have e : (o.semAt none a.eval).run P w = .ok (.value v) w := by
      unfold Oper.semAt execOp
      simp only [ho, hx, Instr.loadAt, Instr.sureAddr, Sem.run_bind, Sem.run_pure, Result.andThen_ok, hl]
    rw [e]
    exact hK _ _ h

set_option maxRecDepth 100000 in
set_option maxHeartbeats 1000000 in
theorem all1_in (F : Fence) (n : Nat) (hf : F.fn 47) (hro : F.round = none) (hn : 1 ≤ n) (l n₀ : Nat) (J Jx : List Nat → World → Prop)
    (hY : ∀ pre x W, J pre W → pre.length < 26 → YieldAt F (n - 1) Tryd.prog l #[.int .i64 ((x : Nat) : Int), .string (nameAt ((x : Nat) : Int))] W fun e W' =>
      (e = .returned (.bool true) ∧ J (pre ++ [x]) W' ∧ Below n₀ W W') ∨ (e = .returned (.bool false) ∧ Jx (pre ++ [x]) W'))
    (W : World) (hG : G W) (h0 : J [] W) :
    CallsIn F n Tryd.prog 47 #[.func (.yield l) #[] #[]] W fun e W' => (∃ v, e = .returned v) ∧
      ((∃ ys, ys = List.range 26 ∧ J ys W') ∨ (∃ pre, (∃ k, k ≤ 26 ∧ pre = List.range k) ∧ Jx pre W')) := by
  have hld := load_all W hG
  have hix := fun W => index_at W
  clear hG
  refine callsIn_of_wp Tryd.func47 rfl hf ?_ hro
  simp only [Tryd.ntmps47, List.size_toArray, List.length_cons, List.length_nil, Nat.reduceAdd, Nat.reduceSub, Array.replicate_succ, Array.replicate_zero, List.push_toArray, List.append_toArray, List.nil_append, List.cons_append]
  gi_wp2_with (refine load_row_in hro rfl 76 _ rfl ⟨0, 0, none⟩ rfl _ hld ?_)
  clear hld
  gi_loopw [5] (fun i wr => ∃ k : Nat, k ≤ 26 ∧ i = .int .i64 k ∧ J (List.range k) wr) (fun i _ => 26 - (intOf i).toNat)
  case atStart => exact ⟨0, Nat.zero_le _, rfl, h0⟩
  case round =>
    obtain ⟨k, hk, rfl, hJs⟩ := hrel
    by_cases hlt : k < 26
    · obtain ⟨fn, tmps, assign, body, hy, hR⟩ := hY _ k wr hJs (by rw [List.length_range]; exact hlt)
      have hi := fun W => hix W k hlt
      clear hix
      gi_wp2
      refine hR.mono ?_
      rintro e W3 (⟨rfl, hJ3, hk3⟩ | ⟨rfl, hJx3⟩)
      · gi_wp2
        go_roundw
        case rel => exact ⟨k + 1, by omega, by simp, by rw [List.range_succ]; exact hJ3⟩
        case measure => simp [intOf]; omega
      · gi_wp2
        refine bodyPost_ret (results_none rfl _ _ _) rfl ?_
        exact ⟨⟨_, rfl⟩, .inr ⟨_, ⟨k + 1, by omega, List.range_succ.symm⟩, hJx3⟩⟩
    · obtain rfl : k = 26 := by omega
      gi_wp2
      go_end0
      exact ⟨⟨_, rfl⟩, .inl ⟨_, rfl, hJs⟩⟩

/-- The iterator's contract. -/
theorem all_stops (F : Fence) (n : Nat) (hf : F.fn 47) (hro : F.round = none) (hn : 1 ≤ n) (n₀ : Nat) (w : World) (hG : G w) (hn₀ : n₀ ≤ w.heap.size) :
    SeqStopsK F n Tryd.prog 47 #[] (fun x : Nat => #[Value.int .i64 (x : Int), Value.string (nameAt (x : Int))]) (Below n₀) (fun ys => ys = List.range 26)
      (fun pre => ∃ k, k ≤ 26 ∧ pre = List.range k) 26 w := fun l J Jx W hW _ _ hY h0 =>
  all1_in F n hf hro hn l n₀ J Jx hY W (hG.below hW) h0

set_option maxRecDepth 100000 in
set_option maxHeartbeats 1000000 in
theorem all_in (F : Fence) (n : Nat) (hf : F.fn 20) (hro : F.round = none) (w : World) :
    CallsIn F n Tryd.prog 20 #[] w fun e w' => e = .returned (.func (.func 47) #[] #[]) ∧ w' = w := by
  refine callsIn_of_wp Tryd.func20 rfl hf ?_ hro
  simp only [Tryd.ntmps20, List.size_toArray, List.length_cons, List.length_nil, Nat.reduceAdd, Nat.reduceSub, Array.replicate_succ, Array.replicate_zero, List.push_toArray, List.append_toArray, List.nil_append, List.cons_append]
  gi_wp2
  go_ret
  exact ⟨rfl, rfl⟩

set_option maxRecDepth 100000 in
set_option maxHeartbeats 2000000 in
/-- How many tags there are. -/
theorem len_in (F : Fence) (n : Nat) (h1 : F.fn 23) (h2 : F.fn 20) (h3 : F.fn 47) (hro : F.round = none) (hn : 3 ≤ n) (w : World) (hG : G w) :
    CallsIn F n Tryd.prog 23 #[] w fun e W' => e = .returned (.int .i64 26) ∧ Below w.heap.size w W' := by
  have hn1 : 1 ≤ n := by omega
  have hG2 := Aside0.mk hG
  clear hG
  refine callsIn_of_wp_marks Tryd.func23 rfl h1 ?_ hro
  simp only [Tryd.ntmps23, List.size_toArray, List.length_cons, List.length_nil, Nat.reduceAdd, Nat.reduceSub, Array.replicate_succ, Array.replicate_zero, List.push_toArray, List.append_toArray, List.nil_append, List.cons_append]
  gi_wp2_with (gi_at_call 20; refine (all_in F (n - 1) h2 hro _).mono ?_; rintro e w' ⟨rfl, rfl⟩)
  have bS := Boxed.new w 3 (.int .i64 0)
  have hB0 : Below w.heap.size w (w.alloc (.cells #[.int .i64 0] 3)) := (Below.refl _ w).alloc (Nat.le_refl _) _
  refine wpIn_rangeFunc_ownG hro hn1 (gf := 47) (lb := #[]) rfl h3 (enters_of Tryd.func47 (by kernel_rfl) rfl)
    (all_stops F (n - 1) h3 hro (by omega) w.heap.size _ (hG2.out.below hB0) (by simp)) belowK_t (belowK_b (by simp)) (Below.refl _ _) (fun _ => rfl)
    (fun pre W => (W.cell? ⟨w.heap.size, 0, none⟩ = some (.int .i64 (pre.length : Int)) ∧ W.frozen? ⟨w.heap.size, 0, none⟩ = false) ∧ Below w.heap.size w W)
    (fun _ _ _ => False)
    (OwnFrom.and (Own.from (fun s A B row hs hg hr => ⟨cell_kept hs.1 hg hr, (frozen_kept hs.1 hg hr).trans hs.2⟩) _) (ownFrom_below (Nat.le_refl _) (by simp)))
    (fun _ _ _ _ _ hs _ _ => hs)
    ⟨⟨bS.cell, bS.frozen⟩, hB0⟩
    (fun x => { tmps := #[.int .i64 0, .pointer (some ⟨w.heap.size, 0, none⟩), .func (.func 47) #[] #[], .int .i64 ((x : Nat) : Int), .string (nameAt ((x : Nat) : Int)), undef, undef, undef], defers := [] }) ?assign ?body ?done ?stop
  case assign =>
    intro l x W K hK
    gi_wp2
    simpa using hK
  case body =>
    rintro l pre x W ⟨⟨hc, hf⟩, hB⟩ hl
    gi_wp2
    exact ⟨(KeepsOthers.setCell _ _ _).from _, (Below.refl w.heap.size W).setCell (p := ⟨w.heap.size, 0, none⟩) (Nat.le_refl _) _, ⟨by rw [List.length_append]; exact World.cell?_setCell_same' _ _ _ (by rw [hc]; rfl), by rw [World.frozen?_setCell]; exact hf⟩, hB.setCell (p := ⟨w.heap.size, 0, none⟩) (Nat.le_refl _) _⟩
  case done =>
    rintro D ys W hD rfl ⟨⟨hc, _⟩, hB⟩ hK
    gi_wp2
    refine ⟨by simp, .inl ⟨_, _, rfl, run_takeDeferred hK, ?_⟩⟩
    exact ⟨_, results_tmp rfl _ _ _, rfl, hB.trans (belowK_b (w := w) (Nat.le_refl _) W D _ _ (by simp at hD; omega) hK rfl rfl)⟩
  case stop =>
    rintro D c pre W _ _ h _
    exact h.elim
/-- .. in words of no fence. -/
theorem len_any (w : World) (hG : G w) : Calls Tryd.prog 23 #[] w fun e W' => e = .returned (.int .i64 26) ∧ Below w.heap.size w W' :=
  (callsIn_wide (n := 3)).1 (len_in _ 3 trivial trivial trivial rfl (by decide) w hG)
end Go.Proofs.YtmbfnbnlajchmaaDoor.GrandIter
