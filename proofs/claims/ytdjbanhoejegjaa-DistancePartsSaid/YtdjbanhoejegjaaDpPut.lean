/- Stores into boxes, as events of a walk. -/
import Derived.Test.YtdjbanhoejegjaaDpRun
import Derived.Test.YtdjbanhoejegjaaDpTight
namespace Go.Proofs.Ytdjbanhoejegjaa.LikW
open Go.RowKit Go.Proofs.YtdjbanhoejegjaaW.PrintWords Go.Proofs.YtdjbanhoejegjaaW.PrintLast Go.Proofs.Ytdjbanhoejegjaa.P
set_option linter.unusedVariables false
set_option linter.unusedSimpArgs false

structure Put (g : Nat) (W W1 : World) : Prop where
  os : W1.os = W.os
  tape : W1.tape = W.tape
  output : W1.output = W.output
  size : W1.heap.size = W.heap.size
  far : ∀ k, k ≠ g → W1.heap[k]? = W.heap[k]?
theorem Put.below {g n : Nat} {w0 W W1 : World} (h : Put g W W1) (hB : Below n w0 W) (hg : n ≤ g) : Below n w0 W1 :=
  ⟨h.os.trans hB.os, h.tape.trans hB.tape, h.output.trans hB.output, by rw [h.size]; exact hB.size, fun k hk => (h.far k (by omega)).trans (hB.block k hk)⟩
theorem Put.refl (g : Nat) (W : World) : Put g W W := ⟨rfl, rfl, rfl, rfl, fun _ _ => rfl⟩
theorem Put.trans {g : Nat} {A B C : World} (h : Put g A B) (k : Put g B C) : Put g A C := ⟨k.os.trans h.os, k.tape.trans h.tape, k.output.trans h.output, k.size.trans h.size, fun i hi => (k.far i hi).trans (h.far i hi)⟩
theorem lt_blk {W : World} {g : Nat} {o : Obj} (h : W.heap[g]? = some o) : g < W.heap.size := (Array.getElem?_eq_some_iff.1 h).1
section
variable {P : Program} {ops : Array Oper} {rest : List Oper} {o : Oper} {a : Act} {Q : Exit → Act → World → Prop} {W : World}
theorem wpList_put {g off : Nat} {cur new : Array Value} {seg : List Value} {e t : TypeId} {p x : Operand} {u : Value} (ho : o.op = .store t p x) (hgd : o.guard = none) (hN : o.dst = none) (haddr : a.eval p = .pointer (some ⟨g, off, none⟩)) (hx : a.eval x = u) (hu : u.cells.toList = seg)
    (ht : (P.info? t).map (·.size) = some seg.length) (h1 : (seg.all fun q => q.oneCell') = true) (hnew : new.toList = cur.toList.take off ++ seg ++ cur.toList.drop (off + seg.length)) (hfit : off + seg.length ≤ cur.size) (hh : W.heap[g]? = some (.cells cur e (0, 0)))
    (h : ∀ w1, w1.heap[g]? = some (.cells new e (0, 0)) → Put g W w1 → wpList P ops Q rest a w1) : wpList P ops Q (o :: rest) a W := by
  obtain ⟨cur', h3, h4, h5⟩ := setCells_row seg off W cur hh hfit
  obtain ⟨s1, s2, s3, s4⟩ := setCells_same g seg off W
  have hrun : (Instr.storeAt t (.pointer (some ⟨g, off, none⟩)) u).run P W = .ok () (W.setCells g off seg) := run_store_run t u seg hh hu ht hfit (fun q hq => List.all_eq_true.1 h1 q hq)
  have hc : cur' = new := Array.toList_inj.1 (h5.trans hnew.symm)
  refine wpList_plain hgd fun K hK => ?_
  unfold Oper.wp execOp
  simp only [ho, haddr, hx, Sem.run_bind, Sem.run_pure, Result.andThen_ok, hrun]
  show K (a.put o.dst undef) _
  rw [hN]
  exact hK _ _ (h _ (by rw [h3, hc]) ⟨s1, s2, s3, s4, fun k hk => setCells_far seg off k hk⟩)
theorem lit_event {cs : Array Value} {e : TypeId} {n : Nat} (hgd : o.guard = none) {N : Tmp} (_hd : o.dst = some N) (hrun : (execOp a.eval o).run P W = .ok (.value (.slice (some ⟨W.heap.size, 0, none⟩) n n)) (W.alloc (.cells cs e (0, 0))))
    (h : ∀ g, g = W.heap.size → ∀ w1, w1.heap[g]? = some (.cells cs e (0, 0)) → Below W.heap.size W w1 → wpList P ops Q rest (a.put o.dst (.slice (some ⟨g, 0, none⟩) n n)) w1) : wpList P ops Q (o :: rest) a W :=
  Kd.event_run hgd hrun (h _ rfl _ (blk_new W _) (below_alloc (Below.refl _ _) _))
theorem put_step {Kc : Act → World → Prop} {g off : Nat} {cur new : Array Value} {seg : List Value} {e t : TypeId} {p x : Operand} {u : Value} (ho : o.op = .store t p x) (hgd : o.guard = none) (hN : o.dst = none) (haddr : a.eval p = .pointer (some ⟨g, off, none⟩)) (hx : a.eval x = u) (hu : u.cells.toList = seg) (hw : Region.wanted o (yielded ops a.tmps) = true)
    (ht : (P.info? t).map (·.size) = some seg.length) (h1 : (seg.all fun q => q.oneCell') = true) (hnew : new.toList = cur.toList.take off ++ seg ++ cur.toList.drop (off + seg.length)) (hfit : off + seg.length ≤ cur.size) (hh : W.heap[g]? = some (.cells cur e (0, 0)))
    (h : ∀ w1, w1.heap[g]? = some (.cells new e (0, 0)) → Put g W w1 → Kc a w1) : if Region.wanted o (yielded ops a.tmps) = true then Oper.wp P o a W Kc Q else Kc (a.put none undef) W := by
  obtain ⟨cur', h3, h4, h5⟩ := setCells_row seg off W cur hh hfit
  obtain ⟨s1, s2, s3, s4⟩ := setCells_same g seg off W
  have hrun : (Instr.storeAt t (.pointer (some ⟨g, off, none⟩)) u).run P W = .ok () (W.setCells g off seg) := run_store_run t u seg hh hu ht hfit (fun q hq => List.all_eq_true.1 h1 q hq)
  have hc : cur' = new := Array.toList_inj.1 (h5.trans hnew.symm)
  rw [if_pos hw]
  unfold Oper.wp execOp
  simp only [ho, haddr, hx, Sem.run_bind, Sem.run_pure, Result.andThen_ok, hrun]
  show Kc (a.put o.dst undef) _
  rw [hN]
  exact h _ (by rw [h3, hc]) ⟨s1, s2, s3, s4, fun k hk => setCells_far seg off k hk⟩
end
def encS (x : ByteArray) : List Value := [.string x]
theorem CStr {W : World} {B : Nat} {T : TypeId} {m : Nat × Nat} (xs : List ByteArray) (hn : xs.length ≤ 9223372036854775807) (h : W.heap[B]? = some (.cells (xs.flatMap encS).toArray T m)) : Kd.C Kd.string W (some ⟨B, 0, none⟩) xs.length xs := C_blk Kd.string encS (fun _ => rfl) (fun w x => rfl) xs hn h
def encB (x : Int) : List Value := [.int .u8 x]
theorem CByte {W : World} {B : Nat} {T : TypeId} {m : Nat × Nat} (xs : List Int) (hn : xs.length ≤ 9223372036854775807) (h : W.heap[B]? = some (.cells (xs.flatMap encB).toArray T m)) : Kd.C (Kd.int .u8) W (some ⟨B, 0, none⟩) xs.length xs := C_blk (Kd.int .u8) encB (fun _ => rfl) (fun w x => rfl) xs hn h
end Go.Proofs.Ytdjbanhoejegjaa.LikW
