/- Rows of the call's own, of which no more is said than that they are there; appends to them. -/
import Derived.Test.YtdjbanhoejegjaaDqPut
namespace Go.Proofs.Ytdjbanhoejegjaa.LikW
open Go.RowKit Go.Proofs.YtdjbanhoejegjaaW.PrintWords Go.Proofs.YtdjbanhoejegjaaW.PrintLast Go.Proofs.Ytdjbanhoejegjaa.P
set_option linter.unusedVariables false
set_option linter.unusedSimpArgs false

def OwnP (W : World) (base : Nat) (e : TypeId) (size n : Nat) (p : Value → Prop) (v : Value) : Prop := ∃ xs, W.ownsRow base e size v n xs ∧ ∀ u ∈ xs, p u
def isStr (u : Value) : Prop := ∃ s, u = .string s
def anyV (u : Value) : Prop := True
section
variable {W W1 : World} {base n size : Nat} {e : TypeId} {p : Value → Prop} {v v' : Value}
theorem OwnP.nil (W : World) (base : Nat) (e : TypeId) (size : Nat) (p : Value → Prop) : OwnP W base e size 0 p (.slice none 0 0) := ⟨[], own_nil W base e size, fun _ h => absurd h List.not_mem_nil⟩
theorem OwnP.below (h : OwnP W base e size n p v) (hb : Below W.heap.size W W1) : OwnP W1 base e size n p v := by
  obtain ⟨xs, ho, hp⟩ := h
  exact ⟨xs, pw_own_below ho hb, hp⟩
theorem OwnP.apart {g : Nat} {t : TypeId} {cs : Array Value} (h : OwnP W base e size n p v) (hg : W.heap[g]? = some (.cells cs t (0, 0))) (hne : e ≠ t) : some g ≠ v.ownBlock := by
  obtain ⟨xs, ho, hp⟩ := h
  exact own_ne ho hg hne
theorem OwnP.put {g : Nat} {t : TypeId} {cs : Array Value} (h : OwnP W base e size n p v) (hk : Put g W W1) (hg : W.heap[g]? = some (.cells cs t (0, 0))) (hne : e ≠ t) : OwnP W1 base e size n p v := by
  have ha := h.apart hg hne
  obtain ⟨xs, ho, hp⟩ := h
  exact ⟨xs, own_move ho (fun k hv => hk.far k (fun e => ha (by rw [hv, e]))), hp⟩
theorem OwnP.fresh {g : Nat} (h : OwnP W base e size n p v) (hg : g = W.heap.size) : some g ≠ v.ownBlock := by
  obtain ⟨xs, ho, hp⟩ := h
  intro he
  have := own_lt ho g he.symm
  omega
theorem OwnP.put2 {g : Nat} (h : OwnP W base e size n p v) (hk : Put g W W1) (ha : some g ≠ v.ownBlock) : OwnP W1 base e size n p v := by
  obtain ⟨xs, ho, hp⟩ := h
  exact ⟨xs, own_move ho (fun k hv => hk.far k (fun e => ha (by rw [hv, e]))), hp⟩
theorem OwnP.grown {row : Value} (h : OwnP W base e size n p v) (hg : W.grownBy W1 row.ownBlock) (hne : NeRow v row) : OwnP W1 base e size n p v := by
  obtain ⟨xs, ho, hp⟩ := h
  exact ⟨xs, own_move ho (fun k hv => hg.block k (own_lt ho k hv) (fun e => hne k hv e.symm)), hp⟩
theorem OwnP.ne {b' s' n' : Nat} {e' : TypeId} {p' : Value → Prop} (h : OwnP W base e size n p v) (h' : OwnP W b' e' s' n' p' v') (hne : e ≠ e') : NeRow v v' := by
  obtain ⟨xs, ho, _⟩ := h
  obtain ⟨ys, ho', _⟩ := h'
  exact ne_types ho ho' hne
theorem OwnP.ne_grown {v1 : Value} (h : NeRow v v') (hat : v1.ownBlock = v.ownBlock ∨ ∃ b, v1.ownBlock = some b ∧ W.heap.size ≤ b) (ho : OwnP W base e size n p v') : NeRow v1 v' := by
  obtain ⟨xs, ho, _⟩ := ho
  exact ne_append h hat ho
theorem OwnP.slice (h : OwnP W base e size n p v) : ∃ A c, v = .slice A n c := by
  obtain ⟨xs, ho, _⟩ := h
  exact own_slice ho
theorem OwnP.any (h : OwnP W base e size n p v) : OwnP W base e size n anyV v := by
  obtain ⟨xs, ho, _⟩ := h
  exact ⟨xs, ho, fun _ _ => trivial⟩
theorem OwnP.at_ {A : Option Addr} {c : Nat} (h : OwnP W base e 1 n isStr (.slice A n c)) (i : Nat) (hi : i < n) : ∃ (g : Nat) (s : ByteArray), A = some ⟨g, 0, none⟩ ∧ n ≤ 9223372036854775807 ∧ W.cell? ⟨g, i, none⟩ = some (.string s) := by
  obtain ⟨xs, ⟨hl, ho⟩, hp⟩ := h
  rcases ho with ⟨_, rfl⟩ | ⟨g, cap, cur, he, hb, hh, h1, h2, h3, h4⟩
  · omega
  · injection he with hA hn hc
    have hx : i < xs.length := by omega
    obtain ⟨s, hs⟩ := hp _ (List.getElem_mem hx)
    refine ⟨g, s, hA, by simp only [maxLen] at h2; omega, ?_⟩
    have hcur : cur.toList[i]? = some (.string s) := by
      have : xs[i]? = some (.string s) := by rw [List.getElem?_eq_getElem hx, hs]
      rw [← h4, List.getElem?_take] at this
      split at this
      · exact this
      · cases this
    rw [Array.getElem?_toList] at hcur
    exact (blk_cell hh i).trans hcur
end
section
variable {P : Program} {ops : Array Oper} {rest : List Oper} {o : Oper} {a : Act} {Q : Exit → Act → World → Prop} {Kc : Act → World → Prop} {p : Value → Prop}
theorem wpList_grow {w0 W : World} (base m : Nat) (hgd : o.guard = none) (s x : Operand) (t e : TypeId) (z : Value) (size bytes : Nat)
    (ho : o.op = .call { callee := .builtin .append, args := #[s, x], argTypes := #[t, t] })
    (ht : P.underlying t = some (.slice e)) (hinfo : (P.info? e).map (fun i => (i.zero, i.size, i.bytes)) = some (some z, size, bytes)) (hz : z.cells.size = size) (hs0 : 0 < size) (hb0 : 0 < bytes)
    (v : Value) (n : Nat) (ys : List Value) (hs : a.eval s = v) (hx : a.eval x = .slice (some ⟨W.heap.size, 0, none⟩) m m) (hys : ys.length = m * size) (h1 : ∀ u ∈ ys, u.oneCell' = true ∧ p u)
    (HO : OwnP W base e size n p v) (HB : Below base w0 W) (hbase : base ≤ W.heap.size) (hl : (n + m) * bytes ≤ 140737488355328)
    (h : ∀ A c w1, OwnP w1 base e size (n + m) p (.slice A (n + m) c) → Below base w0 w1 → W.grownBy w1 v.ownBlock → ((Value.slice A (n + m) c).ownBlock = v.ownBlock ∨ ∃ b, (Value.slice A (n + m) c).ownBlock = some b ∧ W.heap.size ≤ b) → wpList P ops Q rest (a.put o.dst (.slice A (n + m) c)) w1) :
    wpList P ops Q (o :: rest) a (W.alloc (.cells ys.toArray e)) := by
  obtain ⟨xs, hO, hp⟩ := HO
  obtain ⟨i0, hi, hzz⟩ := Option.map_eq_some_iff.1 hinfo
  simp only [Prod.mk.injEq] at hzz
  obtain ⟨hz0, hz1, hz2⟩ := hzz
  have hlen : n + m ≤ 140737488355328 := Nat.le_trans (Nat.le_mul_of_pos_right _ hb0) hl
  refine wpList_append_own_at (W.alloc (.cells ys.toArray e)) hgd s x t ho base e i0 z size bytes ht hi hz0 hz1 hz2 hz hs0 v n xs hs (hO.alloc _) ⟨W.heap.size, 0, none⟩ m m ys hx hys
    (by simpa using World.news_of_block (cs := ys.toArray) (t := e) (fr := (0, 0)) (heap_alloc_new W (.cells ys.toArray e))) (fun u hu => (h1 u hu).1) (by simp only [maxLen]; omega) hl (by simp; omega) ?_
  intro v1 w1 hown hg _ hat
  obtain ⟨A, c, rfl⟩ := own_slice hown
  refine h A c w1 ⟨_, hown, fun u hu => (List.mem_append.1 hu).elim (hp u) (fun hu => (h1 u hu).2)⟩ ((HB.alloc hbase _).grown hg (by simp; omega) (own_base hO)) (World.grownBy.trans (World.grownBy_alloc W _ _) hg) ?_
  rcases hat with hat | hat
  · exact .inl hat
  · exact .inr ⟨_, hat, by simp⟩
theorem step_grow {w0 W : World} (base : Nat) (hw : Region.wanted o (yielded ops a.tmps) = true) (s x : Operand) (t e : TypeId) (z : Value) (size bytes : Nat)
    (ho : o.op = .call { callee := .builtin .append, args := #[s, x], argTypes := #[t, t] })
    (ht : P.underlying t = some (.slice e)) (hinfo : (P.info? e).map (fun i => (i.zero, i.size, i.bytes)) = some (some z, size, bytes)) (hz : z.cells.size = size) (hs0 : 0 < size) (hb0 : 0 < bytes)
    (v : Value) (n : Nat) (ys : List Value) (hs : a.eval s = v) (hx : a.eval x = .slice (some ⟨W.heap.size, 0, none⟩) 1 1) (hys : ys.length = size) (h1 : ∀ u ∈ ys, u.oneCell' = true ∧ p u)
    (HO : OwnP W base e size n p v) (HB : Below base w0 W) (hbase : base ≤ W.heap.size) (hl : (n + 1) * bytes ≤ 140737488355328)
    (h : ∀ A c w1, OwnP w1 base e size (n + 1) p (.slice A (n + 1) c) → Below base w0 w1 → W.grownBy w1 v.ownBlock → ((Value.slice A (n + 1) c).ownBlock = v.ownBlock ∨ ∃ b, (Value.slice A (n + 1) c).ownBlock = some b ∧ W.heap.size ≤ b) → Kc (a.put o.dst (.slice A (n + 1) c)) w1) :
    if Region.wanted o (yielded ops a.tmps) = true then Oper.wp P o a (W.alloc (.cells ys.toArray e)) Kc Q else Kc (a.put o.dst undef) (W.alloc (.cells ys.toArray e)) := by
  obtain ⟨xs, hO, hp⟩ := HO
  refine step_append_cells base hw s x t e z size bytes ho ht hinfo hz hs0 hb0 v n xs ys hs hx hys (fun u hu => (h1 u hu).1) hO HB hbase hl ?_
  intro v1 w1 hown hb hg hat
  obtain ⟨A, c, rfl⟩ := own_slice hown
  exact h A c w1 ⟨_, hown, fun u hu => (List.mem_append.1 hu).elim (hp u) (fun hu => (h1 u hu).2)⟩ hb hg hat
end
end Go.Proofs.Ytdjbanhoejegjaa.LikW
