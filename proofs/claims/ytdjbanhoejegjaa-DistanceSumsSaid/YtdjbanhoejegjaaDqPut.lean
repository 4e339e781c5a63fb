/- Stores into boxes, as events of a walk. -/
import Derived.Test.YtdjbanhoejegjaaDqRun
import Derived.Test.YtdjbanhoejegjaaDqTight
namespace Go.Proofs.Ytdjbanhoejegjaa.LikW
open Go.RowKit Go.Proofs.YtdjbanhoejegjaaW.PrintWords Go.Proofs.YtdjbanhoejegjaaW.PrintLast Go.Proofs.Ytdjbanhoejegjaa.P
set_option linter.unusedVariables false
set_option linter.unusedSimpArgs false

structure Put (g : Nat) (W W1 : World) : Prop where
  os : W1.os = W.os
  tape : W1.tape = W.tape
  output : W1.output = W.output
  size : W1.heap.size = W.heap.size
  far : ∀ k, k ≠ g → W1.heap[k]? = W.heap[k]?
theorem Put.below {g n : Nat} {w0 W W1 : World} (h : Put g W W1) (hB : Below n w0 W) (hg : n ≤ g) : Below n w0 W1 :=
  ⟨h.os.trans hB.os, h.tape.trans hB.tape, h.output.trans hB.output, by rw [h.size]; exact hB.size, fun k hk => (h.far k (by omega)).trans (hB.block k hk)⟩
theorem Put.refl (g : Nat) (W : World) : Put g W W := ⟨rfl, rfl, rfl, rfl, fun _ _ => rfl⟩
theorem Put.trans {g : Nat} {A B C : World} (h : Put g A B) (k : Put g B C) : Put g A C := ⟨k.os.trans h.os, k.tape.trans h.tape, k.output.trans h.output, k.size.trans h.size, fun i hi => (k.far i hi).trans (h.far i hi)⟩
theorem lt_blk {W : World} {g : Nat} {o : Obj} (h : W.heap[g]? = some o) : g < W.heap.size := (Array.getElem?_eq_some_iff.1 h).1
section
variable {P : Program} {ops : Array Oper} {rest : List Oper} {o : Oper} {a : Act} {Q : Exit → Act → World → Prop} {W : World}
theorem wpList_put {g off : Nat} {cur new : Array Value} {seg : List Value} {e t : TypeId} {p x : Operand} {u : Value} (ho : o.op = .store t p x) (hgd : o.guard = none) (hN : o.dst = none) (haddr : a.eval p = .pointer (some ⟨g, off, none⟩)) (hx : a.eval x = u) (hu : u.cells.toList = seg)
    (ht : (P.info? t).map (·.size) = some seg.length) (h1 : (seg.all fun q => q.oneCell') = true) (hnew : new.toList = cur.toList.take off ++ seg ++ cur.toList.drop (off + seg.length)) (hfit : off + seg.length ≤ cur.size) (hh : W.heap[g]? = some (.cells cur e (0, 0)))
    (h : ∀ w1, w1.heap[g]? = some (.cells new e (0, 0)) → Put g W w1 → wpList P ops Q rest a w1) : wpList P ops Q (o :: rest) a W := by
  obtain ⟨cur', h3, h4, h5⟩ := setCells_row seg off W cur hh hfit
  obtain ⟨s1, s2, s3, s4⟩ := setCells_same g seg off W
  have hrun : (Instr.storeAt t (.pointer (some ⟨g, off, none⟩)) u).run P W = .ok () (W.setCells g off seg) := run_store_run t u seg hh hu ht hfit (fun q hq => List.all_eq_true.1 h1 q hq)
  have hc : cur' = new := Array.toList_inj.1 (h5.trans hnew.symm)
  refine wpList_plain hgd fun K hK => ?_
  unfold Oper.wp execOp
  simp only [ho, haddr, hx, Sem.run_bind, Sem.run_pure, Result.andThen_ok, hrun]
  show K (a.put o.dst undef) _
  rw [hN]
  exact hK _ _ (h _ (by rw [h3, hc]) ⟨s1, s2, s3, s4, fun k hk => setCells_far seg off k hk⟩)
theorem pe (g off : Nat) (new : Array Value) (seg : List Value) {cur : Array Value} {e t : TypeId} {p x : Operand} {u : Value} (hh : W.heap[g]? = some (.cells cur e (0, 0)))
    (h : ∀ w1, w1.heap[g]? = some (.cells new e (0, 0)) → Put g W w1 → wpList P ops Q rest a w1) (ho : o.op = .store t p x := by rfl) (hgd : o.guard = none := by rfl) (hN : o.dst = none := by rfl) (haddr : a.eval p = .pointer (some ⟨g, off, none⟩) := by rfl) (hx : a.eval x = u := by rfl) (hu : u.cells.toList = seg := by rfl)
    (ht : (P.info? t).map (·.size) = some seg.length := by kernel_rfl) (h1 : (seg.all fun q => q.oneCell') = true := by rfl) (hnew : new.toList = cur.toList.take off ++ seg ++ cur.toList.drop (off + seg.length) := by rfl) (hfit : off + seg.length ≤ cur.size := by exact Nat.le_of_ble_eq_true rfl) : wpList P ops Q (o :: rest) a W := wpList_put ho hgd hN haddr hx hu ht h1 hnew hfit hh h
theorem lit_event {cs : Array Value} {e : TypeId} {n : Nat} (hgd : o.guard = none) {N : Tmp} (_hd : o.dst = some N) (hrun : (execOp a.eval o).run P W = .ok (.value (.slice (some ⟨W.heap.size, 0, none⟩) n n)) (W.alloc (.cells cs e (0, 0))))
    (h : ∀ g, g = W.heap.size → ∀ w1, w1.heap[g]? = some (.cells cs e (0, 0)) → Below W.heap.size W w1 → wpList P ops Q rest (a.put o.dst (.slice (some ⟨g, 0, none⟩) n n)) w1) : wpList P ops Q (o :: rest) a W :=
  Kd.event_run hgd hrun (h _ rfl _ (blk_new W _) (below_alloc (Below.refl _ _) _))
theorem put_step {Kc : Act → World → Prop} {g off : Nat} {cur new : Array Value} {seg : List Value} {e t : TypeId} {p x : Operand} {u : Value} (ho : o.op = .store t p x) (hgd : o.guard = none) (hN : o.dst = none) (haddr : a.eval p = .pointer (some ⟨g, off, none⟩)) (hx : a.eval x = u) (hu : u.cells.toList = seg) (hw : Region.wanted o (yielded ops a.tmps) = true)
    (ht : (P.info? t).map (·.size) = some seg.length) (h1 : (seg.all fun q => q.oneCell') = true) (hnew : new.toList = cur.toList.take off ++ seg ++ cur.toList.drop (off + seg.length)) (hfit : off + seg.length ≤ cur.size) (hh : W.heap[g]? = some (.cells cur e (0, 0)))
    (h : ∀ w1, w1.heap[g]? = some (.cells new e (0, 0)) → Put g W w1 → Kc a w1) : if Region.wanted o (yielded ops a.tmps) = true then Oper.wp P o a W Kc Q else Kc (a.put none undef) W := by
  obtain ⟨cur', h3, h4, h5⟩ := setCells_row seg off W cur hh hfit
  obtain ⟨s1, s2, s3, s4⟩ := setCells_same g seg off W
  have hrun : (Instr.storeAt t (.pointer (some ⟨g, off, none⟩)) u).run P W = .ok () (W.setCells g off seg) := run_store_run t u seg hh hu ht hfit (fun q hq => List.all_eq_true.1 h1 q hq)
  have hc : cur' = new := Array.toList_inj.1 (h5.trans hnew.symm)
  rw [if_pos hw]
  unfold Oper.wp execOp
  simp only [ho, haddr, hx, Sem.run_bind, Sem.run_pure, Result.andThen_ok, hrun]
  show Kc (a.put o.dst undef) _
  rw [hN]
  exact h _ (by rw [h3, hc]) ⟨s1, s2, s3, s4, fun k hk => setCells_far seg off k hk⟩
end
theorem kb {W W1 : World} {g : Nat} {o : Obj} (K : Aside0 (W.heap[g]? = some o)) (hb : Below W.heap.size W W1) : Aside0 (W1.heap[g]? = some o) := ⟨(hb.block _ (lt_blk K.out)).trans K.out⟩
theorem bb {w W W1 : World} (B : Aside0 (Below w.heap.size w W)) (hb : Below W.heap.size W W1) : Aside0 (Below w.heap.size w W1) := ⟨B.out.trans (hb.mono B.out.size)⟩
theorem kp {W W1 : World} {x g : Nat} {o : Obj} (K : Aside0 (W.heap[x]? = some o)) (hp : Put g W W1) (h : x ≠ g) : Aside0 (W1.heap[x]? = some o) := ⟨(hp.far _ h).trans K.out⟩
theorem bp {g n : Nat} {w W W1 : World} (B : Aside0 (Below n w W)) (hp : Put g W W1) (h : n ≤ g) : Aside0 (Below n w W1) := ⟨Put.below hp B.out h⟩
theorem kn {W : World} {x g : Nat} {o : Obj} (K : Aside0 (W.heap[x]? = some o)) (hg : g = W.heap.size) : Aside0 (x ≠ g) := ⟨by rw [hg]; exact Nat.ne_of_lt (lt_blk K.out)⟩
section
variable {P : Program} {ops : Array Oper} {rest : List Oper} {o : Oper} {a : Act} {Q : Exit → Act → World → Prop} {W : World}
theorem be (N : Tmp) (cs : Array Value) (t : TypeId) (h : ∀ g, g = W.heap.size → ∀ w1, w1.heap[g]? = some (.cells cs t (0, 0)) → Below W.heap.size W w1 → wpList P ops Q rest (a.put o.dst (.pointer (some ⟨g, 0, none⟩))) w1)
    (hgd : o.guard = none := by rfl) (hd : o.dst = some N := by rfl) (hrun : (execOp a.eval o).run P W = .ok (.value (.pointer (some ⟨W.heap.size, 0, none⟩))) (W.alloc (.cells cs t (0, 0))) := by first | (go_simp; done) | (go_simp; rfl)) : wpList P ops Q (o :: rest) a W :=
  box_event hgd hd hrun h
end
section
variable {P : Program} {md : Region.Mode} {ops : Array Oper} {Q : Exit → Act → World → Prop} {S : World → Prop} {ds : List Nat} {oi : Oper} {v : Value} {fuel : Nat} {l : Array Bool} {a a' : Act} {w : World}
theorem pw (i N : Nat) (l' : Array Bool) (h : wpAnyLast P md ops Q S ds fuel l' a' w) (hi : ops[i]? = some oi := by rfl) (hN : oi.dst = some N := by rfl) (hc : anyB md ops l l' i = true := by kernel_rfl)
    (hQ : ∀ c a w, Q (.panic c) (a.put oi.dst v) w → Q (.panic c) a w := by exact fun _ _ _ h => h) (hw : Region.wanted oi (yielded ops a.tmps) = true := by rfl) (hr : ∀ w', (execOp a.eval oi).run P w' = .ok (.value v) w' := by intro w'; go_simp; with_reducible rfl)
    (ha : a.put (some N) v = a' := by simp only [Act.put, List.setIfInBounds_toArray, List.set_cons_zero, List.set_cons_succ, i64_w, i32_w]; rfl) : wpAnyLast P md ops Q S ds (fuel + 1) l a w :=
  pure_ (i := i) (N := some N) l' hi hN hc hQ (Or.inl ⟨hw, hr⟩) ha h
theorem tw (i N : Nat) (l' : Array Bool) (hS : S w) (h : wpAnyLast P md ops Q S ds fuel l' a' w) (hi : ops[i]? = some oi := by rfl) (hN : oi.dst = some N := by rfl) (hc : takeB md ops ds l l' i = true := by kernel_rfl)
    (hQ : ∀ c a w, Q (.panic c) (a.put oi.dst v) w → Q (.panic c) a w := by exact fun _ _ _ h => h) (hw : Region.wanted oi (yielded ops a.tmps) = true := by rfl) (hr : ∀ w', S w' → (execOp a.eval oi).run P w' = .ok (.value v) w' := by (intro w' hs; (repeat (obtain ⟨_, hs⟩ := hs)); go_simp; with_reducible rfl))
    (ha : a.put (some N) v = a' := by simp only [Act.put, List.setIfInBounds_toArray, List.set_cons_zero, List.set_cons_succ, i64_w, i32_w]; rfl) : wpAnyLast P md ops Q S ds (fuel + 1) l a w :=
  take_ (i := i) (N := some N) l' hi hN hc hQ (Or.inl ⟨hw, hr⟩) hS ha h
theorem ow (i : Nat) (N : Option Tmp) (l' : Array Bool) (h : ∀ K : Act → World → Prop, Shut (∀ a' w', S w' → (S w' → wpAnyLast P md ops Q S ds fuel l' a' w') → K a' w') → if Region.wanted oi (yielded ops a.tmps) = true then Oper.wp P oi a w K Q else K (a.put N undef) w)
    (hi : ops[i]? = some oi := by rfl) (hN : oi.dst = N := by rfl) (hc : readyB md ops l l' i = true := by kernel_rfl) (hd : i ∉ ds := by decide) : wpAnyLast P md ops Q S ds (fuel + 1) l a w :=
  one_ (i := i) (N := N) l' hi hN hc hd h
theorem gow {N : Option Tmp} {K : Act → World → Prop} {f : FuncId} {ar : Array Operand} {ts : Array TypeId} {fn : Func} (hf : P.funcs[f]? = some fn) (args : Array Value)
    (h : Calls P f args w fun e w' => ∃ v, e = .returned v ∧ K (a.put N v) w') (hop : oi.op = .call { callee := .value (.func f), args := ar, argTypes := ts } := by rfl) (hname : (fn.name == "runtime.NumGoroutine") = false := by kernel_rfl) (hb : fn.body.isSome = true := by rfl)
    (hw : Region.wanted oi (yielded ops a.tmps) = true := by rfl) (hN : oi.dst = N := by rfl) (hargs : ar.map a.eval = args := by (try simp only [List.map_toArray, List.map_cons, List.map_nil]); first | done | rfl) : if Region.wanted oi (yielded ops a.tmps) = true then Oper.wp P oi a w K Q else K (a.put N undef) w :=
  goes_ hf hname hb args hw hN hop hargs h
end
def encS (x : ByteArray) : List Value := [.string x]
theorem CStr {W : World} {B : Nat} {T : TypeId} {m : Nat × Nat} (xs : List ByteArray) (hn : xs.length ≤ 9223372036854775807) (h : W.heap[B]? = some (.cells (xs.flatMap encS).toArray T m)) : Kd.C Kd.string W (some ⟨B, 0, none⟩) xs.length xs := C_blk Kd.string encS (fun _ => rfl) (fun w x => rfl) xs hn h
def encB (x : Int) : List Value := [.int .u8 x]
theorem CByte {W : World} {B : Nat} {T : TypeId} {m : Nat × Nat} (xs : List Int) (hn : xs.length ≤ 9223372036854775807) (h : W.heap[B]? = some (.cells (xs.flatMap encB).toArray T m)) : Kd.C (Kd.int .u8) W (some ⟨B, 0, none⟩) xs.length xs := C_blk (Kd.int .u8) encB (fun _ => rfl) (fun w x => rfl) xs hn h
end Go.Proofs.Ytdjbanhoejegjaa.LikW
