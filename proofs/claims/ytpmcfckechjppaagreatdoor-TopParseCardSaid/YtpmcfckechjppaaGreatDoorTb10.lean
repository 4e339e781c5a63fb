/- Made by a program of this seat's own (shake.py, merge.py): what the claim leans on: RowS, Spoilt06, SubR, Render, AsFacts, Kind, Parses. -/
import Derived.Test.YtpmcfckechjppaaGreatDoorTb09
import Derived.Deep.CutRange
import Derived.Deep.CutBlock
import Derived.Stop.Asserts
import Derived.RowKitTokens
namespace Go.Proofs.YtpmcfckechjppaaGreatDoor.Ps
open Go.RowKit Go.Shelf Go.Proofs.YtpmcfckechjppaaGreatDoorW.PrintWords Go.Proofs.YtpmcfckechjppaaGreatDoorW.PrintLast Go.Proofs.YtpmcfckechjppaaGreatDoorW.PrintMore Go.Proofs.YtpmcfckechjppaaGreatDoor.P Go.Proofs.YtpmcfckechjppaaGreatDoor.LikW
set_option linter.unusedVariables false
set_option linter.unusedSimpArgs false
set_option maxRecDepth 100000
set_option maxHeartbeats 8000000
def isS (u : Value) : Prop := ∃ s : ByteArray, u = .string s ∧ s.size ≤ 9
abbrev XL := List (ByteArray × Value × List ByteArray)
abbrev TEX : TypeId := 65
abbrev TST : TypeId := 9
def SmallX (xs : XL) : Prop := ∀ x ∈ xs, x.1.size ≤ 9 ∧ x.2.2.length ≤ 4 ∧ ∀ y ∈ x.2.2, y.size ≤ 9
def OwnX (W : World) (base n : Nat) (r1 r2 v : Value) : Prop := ∃ xs : XL, xs.length = n ∧ ExtsG W base v xs ∧ SmallX xs ∧ ∀ x ∈ xs, NeRow x.2.1 r1 ∧ NeRow x.2.1 r2
theorem ne_nil2 (v : Value) : NeRow v (.slice none 0 0) := ne_symm (ne_nil v)
theorem OwnX.nil (W : World) (base : Nat) (r1 r2 : Value) : OwnX W base 0 r1 r2 (.slice none 0 0) := ⟨[], rfl, ⟨own_nil _ _ _ _, fun x h => absurd h List.not_mem_nil⟩, fun x h => absurd h List.not_mem_nil, fun x h => absurd h List.not_mem_nil⟩
section
variable {W W1 : World} {base n : Nat} {r1 r2 v : Value}
theorem OwnX.toP (h : OwnX W base n r1 r2 v) : OwnP W base TEX 2 n anyV v := by
 obtain ⟨xs, rfl, h, _⟩ := h
 exact ⟨_, h.1, fun _ _ => trivial⟩
theorem OwnX.below (h : OwnX W base n r1 r2 v) (hb : Below W.heap.size W W1) : OwnX W1 base n r1 r2 v := by
 obtain ⟨xs, h1, h2, h3⟩ := h
 exact ⟨xs, h1, h2.below hb, h3⟩
theorem OwnX.put {g : Nat} {t : TypeId} {cs : Array Value} (h : OwnX W base n r1 r2 v) (hk : Put g W W1) (hg : W.heap[g]? = some (.cells cs t (0, 0))) (h1 : TEX ≠ t) (h2 : TST ≠ t) : OwnX W1 base n r1 r2 v := by
 obtain ⟨xs, e, hx, h3⟩ := h
 have hm : ∀ {e : TypeId} {size m : Nat} {u : Value} {ys : List Value}, e ≠ t → W.ownsRow base e size u m ys → W1.ownsRow base e size u m ys := fun hne ho => own_move ho fun k hv => hk.far k (fun q => own_ne ho hg hne (by rw [hv, q]))
 exact ⟨xs, e, ⟨hm h1 hx.1, fun x hxm => hm h2 (hx.2 x hxm)⟩, h3⟩
theorem OwnX.fresh {g : Nat} (h : OwnX W base n r1 r2 v) (hg : g = W.heap.size) : some g ≠ v.ownBlock := h.toP.fresh hg
theorem OwnX.put2 {g : Nat} {t : TypeId} {cs : Array Value} (h : OwnX W base n r1 r2 v) (hk : Put g W W1) (hg : W.heap[g]? = some (.cells cs t (0, 0))) (h2 : TST ≠ t) (ha : some g ≠ v.ownBlock) : OwnX W1 base n r1 r2 v := by
 obtain ⟨xs, e, hx, h3⟩ := h
 exact ⟨xs, e, ⟨own_move hx.1 fun k hv => hk.far k (fun q => ha (by rw [hv, q])), fun x hxm => own_move (hx.2 x hxm) fun k hv => hk.far k (fun q => own_ne (hx.2 x hxm) hg h2 (by rw [hv, q]))⟩, h3⟩
theorem OwnX.grown1 {r1' : Value} (h : OwnX W base n r1 r2 v) (hg : W.grownBy W1 r1.ownBlock) (hat : r1'.ownBlock = r1.ownBlock ∨ ∃ b, r1'.ownBlock = some b ∧ W.heap.size ≤ b) (hne : NeRow v r1) : OwnX W1 base n r1' r2 v := by
 obtain ⟨xs, e, hx, h3, h4⟩ := h
 refine ⟨xs, e, ⟨own_move hx.1 fun k hk => hg.block k (own_lt hx.1 k hk) (fun q => hne k hk q.symm), fun x hxm => own_move (hx.2 x hxm) fun k hk => hg.block k (own_lt (hx.2 x hxm) k hk) (fun q => (h4 x hxm).1 k hk q.symm)⟩, h3, fun x hxm => ⟨?_, (h4 x hxm).2⟩⟩
 exact ne_symm (ne_append (ne_symm (h4 x hxm).1) hat (hx.2 x hxm))
theorem OwnX.swap (h : OwnX W base n r1 r2 v) : OwnX W base n r2 r1 v := by
 obtain ⟨xs, e, hx, h3, h4⟩ := h
 exact ⟨xs, e, hx, h3, fun x hxm => ⟨(h4 x hxm).2, (h4 x hxm).1⟩⟩
theorem OwnX.grown2 {r2' : Value} (h : OwnX W base n r1 r2 v) (hg : W.grownBy W1 r2.ownBlock) (hat : r2'.ownBlock = r2.ownBlock ∨ ∃ b, r2'.ownBlock = some b ∧ W.heap.size ≤ b) (hne : NeRow v r2) : OwnX W1 base n r1 r2' v := (h.swap.grown1 hg hat hne).swap
theorem OwnX.reset (h : OwnX W base n r1 r2 v) : OwnX W base n r1 (.slice none 0 0) v := by
 obtain ⟨xs, e, hx, h3, h4⟩ := h
 exact ⟨xs, e, hx, h3, fun x hxm => ⟨(h4 x hxm).1, ne_nil2 _⟩⟩
theorem OwnP.texts (h : OwnP W base TST 1 n isS v) : ∃ L : List ByteArray, L.length = n ∧ Own W base v L ∧ ∀ y ∈ L, y.size ≤ 9 := by
 obtain ⟨xs, ho, hp⟩ := h
 have : ∀ l : List Value, (∀ u ∈ l, isS u) → ∃ L : List ByteArray, l = L.map Value.string ∧ ∀ y ∈ L, y.size ≤ 9 := by
  intro l
  induction l with
  | nil => exact fun _ => ⟨[], rfl, fun y h => absurd h List.not_mem_nil⟩
  | cons a l ih =>
   intro hl
   obtain ⟨s, rfl, hs⟩ := hl a List.mem_cons_self
   obtain ⟨L, rfl, hL⟩ := ih fun u hu => hl u (List.mem_cons_of_mem _ hu)
   exact ⟨s :: L, rfl, fun y hy => (List.mem_cons.1 hy).elim (fun e => e ▸ hs) (hL y)⟩
 obtain ⟨L, rfl, hL⟩ := this xs hp
 have hn : L.length = n := by have := ho.1; rw [List.length_map] at this; omega
 subst hn
 exact ⟨L, rfl, ho, hL⟩
end
theorem OwnP.str {W : World} {base n : Nat} {v : Value} (h : OwnP W base TST 1 n isS v) : OwnP W base TST 1 n isStr v := by
 obtain ⟨xs, ho, hp⟩ := h
 exact ⟨xs, ho, fun u hu => by obtain ⟨s, hs, _⟩ := hp u hu; exact ⟨s, hs⟩⟩
theorem OwnP.ofTexts {W : World} {base : Nat} {v : Value} {L : List ByteArray} (h : Own W base v L) (hL : ∀ y ∈ L, y.size ≤ 9) : OwnP W base TST 1 L.length isS v :=
 ⟨_, h, fun u hu => by obtain ⟨s, hs, rfl⟩ := List.mem_map.1 hu; exact ⟨s, rfl, hL s hs⟩⟩
theorem own_lit {W : World} {g base : Nat} (L : List ByteArray) (h0 : L ≠ []) (hm : L.length ≤ 1000) (hb : base ≤ g) (h : W.heap[g]? = some (.cells (L.map Value.string).toArray TST (0, 0))) : Own W base (.slice (some ⟨g, 0, none⟩) L.length L.length) L :=
 ⟨by simp, .inr ⟨g, L.length, _, rfl, hb, h, Nat.le_refl _, Nat.le_trans hm (by decide), by simp, by rw [Nat.mul_one]; exact List.take_of_length_le (by simp)⟩⟩
theorem ne_fresh {W : World} {g m c base n size : Nat} {e : TypeId} {v : Value} {xs : List Value} (hg : W.heap.size ≤ g) (ho : W.ownsRow base e size v n xs) : NeRow (.slice (some ⟨g, 0, none⟩) m c) v := fun k hk hk' => by
 have := own_lt ho k hk'
 have : g = k := by simpa [Value.ownBlock] using hk
 omega
section
variable {ops : Array Oper} {rest : List Oper} {o : Oper} {a : Act} {Q : Exit → Act → World → Prop}
theorem wpList_growX {w0 W : World} (base m : Nat) (hgd : o.guard = none) (s x : Operand) (ho : o.op = .call { callee := .builtin .append, args := #[s, x], argTypes := #[31, 31] })
 (v r1 r2 : Value) (n : Nat) (ys : XL) (cs : List Value) (hcs : cellsX ys = cs) (hs : a.eval s = v) (hx : a.eval x = .slice (some ⟨W.heap.size, 0, none⟩) m m) (hm : ys.length = m) (h1 : ∀ u ∈ cs, u.oneCell' = true)
 (HO : OwnX W base n r1 r2 v) (HY : ∀ y ∈ ys, Own W base y.2.1 y.2.2 ∧ NeRow y.2.1 r1 ∧ NeRow y.2.1 r2) (HS : SmallX ys) (HB : Below base w0 W) (hbase : base ≤ W.heap.size) (hl : n + m ≤ 1000)
 (h : ∀ A c w1, OwnX w1 base (n + m) r1 r2 (.slice A (n + m) c) → Below base w0 w1 → W.grownBy w1 v.ownBlock → ((Value.slice A (n + m) c).ownBlock = v.ownBlock ∨ ∃ b, (Value.slice A (n + m) c).ownBlock = some b ∧ W.heap.size ≤ b) → wpList Tryz.prog ops Q rest (a.put o.dst (.slice A (n + m) c)) w1) :
 wpList Tryz.prog ops Q (o :: rest) a (W.alloc (.cells cs.toArray TEX)) := by
 obtain ⟨xs, hn, hX, hS, hN⟩ := HO
 have hinfo : (Tryz.prog.info? TEX).map (fun i => (i.zero, i.size, i.bytes)) = some (some (.agg #[.string ⟨#[]⟩, .slice none 0 0]), 2, 40) := by kernel_rfl
 obtain ⟨i0, hi, hzz⟩ := Option.map_eq_some_iff.1 hinfo
 simp only [Prod.mk.injEq] at hzz
 obtain ⟨hz0, hz1, hz2⟩ := hzz
 subst hn
 have hlc : ∀ l : XL, (cellsX l).length = l.length * 2 := fun l => by
  induction l with
  | nil => rfl
  | cons y l ih => unfold cellsX at ih ⊢; rw [List.flatMap_cons, List.length_append, ih, List.length_cons]; simp only [List.length_cons, List.length_nil]; omega
 refine wpList_append_own_at (W.alloc (.cells cs.toArray TEX)) hgd s x 31 ho base TEX i0 (.agg #[.string ⟨#[]⟩, .slice none 0 0]) 2 40 Tryz.underlying31 hi hz0 hz1 hz2 rfl (by decide) v xs.length (cellsX xs) hs (hX.1.alloc _) ⟨W.heap.size, 0, none⟩ m m cs hx (by rw [← hcs, hlc, hm])
  (by simpa using World.news_of_block (cs := cs.toArray) (t := TEX) (fr := (0, 0)) (heap_alloc_new W (.cells cs.toArray TEX))) h1 (by simp only [maxLen]; omega) (by omega) (by simp; omega) ?_
 intro v1 w1 hown hg _ hat
 obtain ⟨A, c, rfl⟩ := own_slice hown
 have hg2 : W.grownBy w1 v.ownBlock := World.grownBy.trans (World.grownBy_alloc W _ _) hg
 have mv : ∀ y : ByteArray × Value × List ByteArray, Own W base y.2.1 y.2.2 → Own w1 base y.2.1 y.2.2 := fun y hy => own_move hy fun k hk => hg2.block k (own_lt hy k hk) (fun q => ne_types hy hX.1 (by decide) k hk q.symm)
 refine h A c w1 ⟨xs ++ ys, by rw [List.length_append, hm], ⟨?_, fun y hy => (List.mem_append.1 hy).elim (fun q => mv y (hX.2 y q)) (fun q => mv y (HY y q).1)⟩, fun y hy => (List.mem_append.1 hy).elim (hS y) (HS y), fun y hy => (List.mem_append.1 hy).elim (hN y) (fun q => (HY y q).2)⟩ ((HB.alloc hbase _).grown hg (by simp; omega) (own_base hX.1)) hg2 ?_
 · have e : cellsX (xs ++ ys) = cellsX xs ++ cs := by rw [← hcs]; exact List.flatMap_append
   rw [e, List.length_append, hm]
   exact hown
 · rcases hat with hat | hat
   · exact .inl hat
   · exact .inr ⟨_, hat, by simp⟩
end
def Rw (W : World) (R n1 : Nat) (v1 : Value) (n4 : Nat) (v4 : Value) (n5 : Nat) (v5 : Value) (n6 : Nat) (v6 : Value) : Prop := OwnP W R TST 1 n1 isS v1 ∧ OwnP W R TST 1 n4 isS v4 ∧ OwnX W R n5 v4 v6 v5 ∧ OwnP W R TST 1 n6 isS v6 ∧ NeRow v6 v4 ∧ NeRow v6 v1 ∧ NeRow v4 v1
section
variable {W W1 : World} {R n1 n4 n5 n6 g : Nat} {v1 v4 v5 v6 : Value}
theorem rw0 (h : OwnP W R TST 1 n1 isS v1) : Rw W R n1 v1 0 (.slice none 0 0) 0 (.slice none 0 0) 0 (.slice none 0 0) := ⟨h, OwnP.nil _ _ _ _ _, OwnX.nil _ _ _ _, OwnP.nil _ _ _ _ _, ne_nil _, ne_nil _, ne_nil _⟩
theorem rb (h : Aside0 (Rw W R n1 v1 n4 v4 n5 v5 n6 v6)) (hb : Below W.heap.size W W1) : Aside0 (Rw W1 R n1 v1 n4 v4 n5 v5 n6 v6) := ⟨h.out.1.below hb, h.out.2.1.below hb, h.out.2.2.1.below hb, h.out.2.2.2.1.below hb, h.out.2.2.2.2⟩
theorem rp {t : TypeId} {cs : Array Value} (h : Aside0 (Rw W R n1 v1 n4 v4 n5 v5 n6 v6)) (hp : Put g W W1) (hg : W.heap[g]? = some (.cells cs t (0, 0))) (h1 : TEX ≠ t := by decide) (h2 : TST ≠ t := by decide) : Aside0 (Rw W1 R n1 v1 n4 v4 n5 v5 n6 v6) :=
 ⟨h.out.1.put hp hg h2, h.out.2.1.put hp hg h2, h.out.2.2.1.put hp hg h1 h2, h.out.2.2.2.1.put hp hg h2, h.out.2.2.2.2⟩
theorem rp2 {t : TypeId} {cs : Array Value} (h : Aside0 (Rw W R n1 v1 n4 v4 n5 v5 n6 v6)) (hp : Put g W W1) (hg : W.heap[g]? = some (.cells cs t (0, 0))) (ha : some g ≠ v5.ownBlock) (h2 : TST ≠ t := by decide) : Aside0 (Rw W1 R n1 v1 n4 v4 n5 v5 n6 v6) :=
 ⟨h.out.1.put hp hg h2, h.out.2.1.put hp hg h2, h.out.2.2.1.put2 hp hg h2 ha, h.out.2.2.2.1.put hp hg h2, h.out.2.2.2.2⟩
theorem rg4 {m : Nat} {v : Value} (h : Aside0 (Rw W R n1 v1 n4 v4 n5 v5 n6 v6)) (ho : OwnP W1 R TST 1 m isS v) (hg : W.grownBy W1 v4.ownBlock) (hat : v.ownBlock = v4.ownBlock ∨ ∃ b, v.ownBlock = some b ∧ W.heap.size ≤ b) : Aside0 (Rw W1 R n1 v1 m v n5 v5 n6 v6) :=
 ⟨h.out.1.grown hg (ne_symm h.out.2.2.2.2.2.2), ho, h.out.2.2.1.grown1 hg hat (h.out.2.2.1.toP.ne h.out.2.1 (by decide)), h.out.2.2.2.1.grown hg h.out.2.2.2.2.1, ne_symm (OwnP.ne_grown (ne_symm h.out.2.2.2.2.1) hat h.out.2.2.2.1), h.out.2.2.2.2.2.1, OwnP.ne_grown h.out.2.2.2.2.2.2 hat h.out.1⟩
theorem rg6 {m : Nat} {v : Value} (h : Aside0 (Rw W R n1 v1 n4 v4 n5 v5 n6 v6)) (ho : OwnP W1 R TST 1 m isS v) (hg : W.grownBy W1 v6.ownBlock) (hat : v.ownBlock = v6.ownBlock ∨ ∃ b, v.ownBlock = some b ∧ W.heap.size ≤ b) : Aside0 (Rw W1 R n1 v1 n4 v4 n5 v5 m v) :=
 ⟨h.out.1.grown hg (ne_symm h.out.2.2.2.2.2.1), h.out.2.1.grown hg (ne_symm h.out.2.2.2.2.1), h.out.2.2.1.grown2 hg hat (h.out.2.2.1.toP.ne h.out.2.2.2.1 (by decide)), ho, OwnP.ne_grown h.out.2.2.2.2.1 hat h.out.2.1, OwnP.ne_grown h.out.2.2.2.2.2.1 hat h.out.1, h.out.2.2.2.2.2.2⟩
theorem rg5 {m : Nat} {v : Value} (h : Aside0 (Rw W R n1 v1 n4 v4 n5 v5 n6 v6)) (ho : OwnX W1 R m v4 v6 v) (hg : W.grownBy W1 v5.ownBlock) : Aside0 (Rw W1 R n1 v1 n4 v4 m v n6 v6) :=
 ⟨h.out.1.grown hg (h.out.1.ne h.out.2.2.1.toP (by decide)), h.out.2.1.grown hg (h.out.2.1.ne h.out.2.2.1.toP (by decide)), ho, h.out.2.2.2.1.grown hg (h.out.2.2.2.1.ne h.out.2.2.1.toP (by decide)), h.out.2.2.2.2⟩
theorem rz (h : Aside0 (Rw W R n1 v1 n4 v4 n5 v5 n6 v6)) : Aside0 (Rw W R n1 v1 n4 v4 n5 v5 0 (.slice none 0 0)) := ⟨h.out.1, h.out.2.1, h.out.2.2.1.reset, OwnP.nil _ _ _ _ _, ne_nil _, ne_nil _, h.out.2.2.2.2.2.2⟩
theorem kg {base e size n g : Nat} {t : TypeId} {cs : Array Value} {p : Value → Prop} {v : Value} (ho : OwnP W base e size n p v) (hg : W.grownBy W1 v.ownBlock) (K : Aside0 (W.heap[g]? = some (.cells cs t (0, 0)))) (hne : e ≠ t := by decide) : Aside0 (W1.heap[g]? = some (.cells cs t (0, 0))) := ⟨(hg.block _ (lt_blk K.out) (ho.apart K.out hne)).trans K.out⟩
end
theorem h1S {s : ByteArray} (h : s.size ≤ 9) : ∀ u ∈ [Value.string s], u.oneCell' = true ∧ isS u := fun u hu => by
 obtain rfl := List.mem_singleton.1 hu
 exact ⟨rfl, _, rfl, h⟩
section
variable {ops : Array Oper} {rest : List Oper} {o : Oper} {a : Act} {Q : Exit → Act → World → Prop} {Kc : Act → World → Prop}
theorem g1 {w0 W : World} {base : Nat} (m : Nat) (s x : Operand) (v : Value) (n : Nat) (ys : List Value) (hm : ys.length = m) (h1 : ∀ u ∈ ys, u.oneCell' = true ∧ isS u) (HO : OwnP W base TST 1 n isS v) (HB : Below base w0 W) (hbase : base ≤ W.heap.size) (hl : n + m ≤ 1000000)
 (h : ∀ A c w1, OwnP w1 base TST 1 (n + m) isS (.slice A (n + m) c) → Below base w0 w1 → W.grownBy w1 v.ownBlock → ((Value.slice A (n + m) c).ownBlock = v.ownBlock ∨ ∃ b, (Value.slice A (n + m) c).ownBlock = some b ∧ W.heap.size ≤ b) → wpList Tryz.prog ops Q rest (a.put o.dst (.slice A (n + m) c)) w1)
 (hgd : o.guard = none := by rfl) (ho : o.op = .call { callee := .builtin .append, args := #[s, x], argTypes := #[26, 26] } := by rfl) (hs : a.eval s = v := by rfl) (hx : a.eval x = .slice (some ⟨W.heap.size, 0, none⟩) m m := by rfl) :
 wpList Tryz.prog ops Q (o :: rest) a (W.alloc (.cells ys.toArray TST)) :=
 wpList_grow (p := isS) base m hgd s x 26 TST (.string ⟨#[]⟩) 1 16 ho Tryz.underlying26 (by kernel_rfl) rfl (by decide) (by decide) v n ys hs hx (by omega) h1 HO HB hbase (by omega) h
theorem s1 {w0 W : World} {base : Nat} (s x : Operand) (v : Value) (n : Nat) (y : ByteArray) (h9 : y.size ≤ 9) (HO : OwnP W base TST 1 n isS v) (HB : Below base w0 W) (hbase : base ≤ W.heap.size) (hl : n + 1 ≤ 1000000)
 (h : ∀ A c w1, OwnP w1 base TST 1 (n + 1) isS (.slice A (n + 1) c) → Below base w0 w1 → W.grownBy w1 v.ownBlock → ((Value.slice A (n + 1) c).ownBlock = v.ownBlock ∨ ∃ b, (Value.slice A (n + 1) c).ownBlock = some b ∧ W.heap.size ≤ b) → Kc (a.put o.dst (.slice A (n + 1) c)) w1)
 (hw : Region.wanted o (yielded ops a.tmps) = true := by rfl) (ho : o.op = .call { callee := .builtin .append, args := #[s, x], argTypes := #[26, 26] } := by rfl) (hs : a.eval s = v := by rfl) (hx : a.eval x = .slice (some ⟨W.heap.size, 0, none⟩) 1 1 := by rfl) :
 if Region.wanted o (yielded ops a.tmps) = true then Oper.wp Tryz.prog o a (W.alloc (.cells #[.string y] TST)) Kc Q else Kc (a.put o.dst undef) (W.alloc (.cells #[.string y] TST)) :=
 step_grow (p := isS) base hw s x 26 TST (.string ⟨#[]⟩) 1 16 ho Tryz.underlying26 (by kernel_rfl) rfl (by decide) (by decide) v n [.string y] hs hx rfl (h1S h9) HO HB hbase (by omega) h
end
def MadeT (base : Nat) (w0 : World) (e : Ending) (w' : World) : Prop :=
 ∃ (L : ByteArray) (A1 : Option Addr) (n1 c1 : Nat) (S R : ByteArray) (A4 : Option Addr) (n4 c4 : Nat) (A5 : Option Addr) (n5 c5 : Nat) (A6 : Option Addr) (n6 c6 : Nat) (G : ByteArray), e = .returned (.agg #[.string L, .slice A1 n1 c1, .string S, .string R, .slice A4 n4 c4, .slice A5 n5 c5, .slice A6 n6 c6, .string G]) ∧
  (L.size ≤ 9 ∧ S.size ≤ 9 ∧ R.size ≤ 9 ∧ G.size ≤ 9 ∧ n1 ≤ 1 ∧ n4 ≤ 6 ∧ n5 ≤ 6 ∧ n6 ≤ 5) ∧ Rw w' base n1 (.slice A1 n1 c1) n4 (.slice A4 n4 c4) n5 (.slice A5 n5 c5) n6 (.slice A6 n6 c6) ∧ Below base w0 w'
theorem lit_row {W W1 : World} {R n1 n4 n5 n6 g : Nat} {v1 v4 v5 v6 : Value} (h : Aside0 (Rw W R n1 v1 n4 v4 n5 v5 n6 v6)) (x : ByteArray) (hg : g = W.heap.size) (hb : R ≤ g) (hbox : W1.heap[g]? = some (.cells #[.string x] TST (0, 0))) : Aside0 (Own W1 R (.slice (some ⟨g, 0, none⟩) 1 1) [x] ∧ NeRow (.slice (some ⟨g, 0, none⟩) 1 1) v4 ∧ NeRow (.slice (some ⟨g, 0, none⟩) 1 1) v6) := by
 refine ⟨own_lit [x] (by simp) (by simp) hb hbox, ?_, ?_⟩
 · obtain ⟨_, ho, _⟩ := h.out.2.1
   exact ne_fresh (Nat.le_of_eq hg.symm) ho
 · obtain ⟨_, ho, _⟩ := h.out.2.2.2.1
   exact ne_fresh (Nat.le_of_eq hg.symm) ho
theorem lit_on {W W1 : World} {R : Nat} {v a b : Value} {l : List ByteArray} (h : Aside0 (Own W R v l ∧ NeRow v a ∧ NeRow v b)) (hb : Below W.heap.size W W1) : Aside0 (Own W1 R v l ∧ NeRow v a ∧ NeRow v b) := ⟨pw_own_below h.out.1 hb, h.out.2⟩
theorem spoilt06_calls (L S R G : ByteArray) (A1 A4 A5 A6 : Option Addr) (n1 c1 n4 c4 n5 c5 n6 c6 : Nat) (od : Int) (w0 w : World) (hB : Below w0.heap.size w0 w) (hn1 : n1 ≤ 1) (hn : n4 ≤ 4 ∧ n5 ≤ 4 ∧ n6 ≤ 4) (hz : L.size ≤ 9 ∧ S.size ≤ 9 ∧ R.size ≤ 9 ∧ G.size ≤ 9) (hr : Rw w w0.heap.size n1 (.slice A1 n1 c1) n4 (.slice A4 n4 c4) n5 (.slice A5 n5 c5) n6 (.slice A6 n6 c6)) (hT : ∃ y, isoglossref02_Title.f 20 L = some y ∧ y.size ≤ 9) (b0 : Nat) (cs0 : Array Value) (h0 : w.heap[b0]? = some (.cells cs0 33 (0, 0))) :
 Calls Tryz.prog 40 #[.agg #[.string L, .slice A1 n1 c1, .string S, .string R, .slice A4 n4 c4, .slice A5 n5 c5, .slice A6 n6 c6, .string G], .int .i64 od] w fun e w' => MadeT w0.heap.size w0 e w' ∧ w'.heap[b0]? = some (.cells cs0 33 (0, 0)) := by
 have hu44 := Tryz.underlying33
 obtain ⟨L2, ht, hl2⟩ := hT
 have HT := Aside0.mk ht
 have HL2 := Aside0.mk hl2
 have HN := Aside0.mk hn
 have HZ := Aside0.mk hz
 have RR := Aside0.mk hr
 have B0 := Aside0.mk hB
 have K_b0 := Aside0.mk h0
 clear ht hl2 hn hz hr hB h0
 go_enter Tryz.func40, Tryz.ntmps40
 go_upto_block 0 with (first
  | ((with_reducible refine gate_dst (N := 2) rfl ?_); refine be 2 #[.string L, .slice A1 n1 c1, .string S, .string R, .slice A4 n4 c4, .slice A5 n5 c5, .slice A6 n6 c6, .string G] 33 ?_; intro b2 hg v1 hbox hb; have N_b0_b2 := kn K_b0 hg; have G_b2 := Aside0.mk (show w0.heap.size ≤ b2 by rw [hg]; exact B0.out.size); replace RR := rb RR hb; replace K_b0 := kb K_b0 hb; replace B0 := bb B0 hb; have K_b2 := Aside0.mk hbox; clear hb hbox hg)
  | ((with_reducible refine gate_dst (N := 4) rfl ?_); refine be 4 #[.string ⟨#[]⟩, .slice none 0 0, .string ⟨#[]⟩, .string ⟨#[]⟩, .slice none 0 0, .slice none 0 0, .slice none 0 0, .string ⟨#[]⟩] 33 ?_; intro b4 hg v2 hbox hb; have N_b0_b4 := kn K_b0 hg; have N_b2_b4 := kn K_b2 hg; have G_b4 := Aside0.mk (show w0.heap.size ≤ b4 by rw [hg]; exact B0.out.size); replace RR := rb RR hb; replace K_b0 := kb K_b0 hb; replace K_b2 := kb K_b2 hb; replace B0 := bb B0 hb; have K_b4 := Aside0.mk hbox; clear hb hbox hg))
 go_cut [] from 5 to 53 (fun wr => ∃ (L S R G : ByteArray) (n4 : Nat) (A4 : Option Addr) (c4 n5 : Nat) (A5 : Option Addr) (c5 n6 : Nat) (A6 : Option Addr) (c6 : Nat), Aside0 ((L.size ≤ 9 ∧ S.size ≤ 9 ∧ R.size ≤ 9 ∧ G.size ≤ 9) ∧ n4 ≤ 6 ∧ n5 ≤ 6 ∧ n6 ≤ 5) ∧ Aside0 (Rw wr w0.heap.size n1 (.slice A1 n1 c1) n4 (.slice A4 n4 c4) n5 (.slice A5 n5 c5) n6 (.slice A6 n6 c6)) ∧ Aside0 (Below w0.heap.size w0 wr) ∧ Aside0 (wr.heap[b0]? = some (.cells cs0 33 (0, 0))) ∧ Aside0 (wr.heap[b2]? = some (.cells #[.string L, .slice A1 n1 c1, .string S, .string R, .slice A4 n4 c4, .slice A5 n5 c5, .slice A6 n6 c6, .string G] 33 (0, 0))) ∧ Aside0 (wr.heap[b4]? = some (.cells #[.string ⟨#[]⟩, .slice none 0 0, .string ⟨#[]⟩, .string ⟨#[]⟩, .slice none 0 0, .slice none 0 0, .slice none 0 0, .string ⟨#[]⟩] 33 (0, 0))))
 case first =>
  by_cases e1 : od = 1
  · have d1 : (od == 1) = true := by simp [e1]
    clear e1
    obtain ⟨y_b2_0, y_b2_1, y_b2_2, y_b2_3, y_b2_4, y_b2_5, y_b2_6, y_b2_7⟩ := cz8 K_b2.out
    go_wp2_with (first
     | ((with_reducible refine gate_builtin (b := .append) (xs := #[.tmp 9, .tmp 10]) rfl ?_); at_builtin; refine g1 (w0 := w0) 2 (.tmp 9) (.tmp 10) (.slice A4 n4 c4) (n4) [.string ⟨#[102, 111, 110, 105, 112, 97]⟩, .string ⟨#[102, 111, 110, 105, 112, 97]⟩] rfl (fun u hu => by (simp only [List.mem_cons, List.not_mem_nil, or_false] at hu; rcases hu with rfl | rfl <;> exact ⟨rfl, _, rfl, by decide⟩)) (RR.out.2.1) B0.out B0.out.size ?hl ?_; (case hl => have := HN.out; omega); intro A7 c7 v3 ho hb hg hat; clear y_b2_0 y_b2_1 y_b2_2 y_b2_3 y_b2_4 y_b2_5 y_b2_6 y_b2_7; replace K_b0 := kg (RR.out.2.1) hg K_b0; replace K_b2 := kg (RR.out.2.1) hg K_b2; replace K_b4 := kg (RR.out.2.1) hg K_b4; replace RR := rg4 RR ho hg hat; replace B0 := Aside0.mk hb; clear ho hb hg hat)
     | ((with_reducible refine gate_ (.store 26 (.tmp 12) (.tmp 11)) rfl ?_); refine pe b2 4 #[.string L, .slice A1 n1 c1, .string S, .string R, .slice A7 (n4 + 2) c7, .slice A5 n5 c5, .slice A6 n6 c6, .string G] [.slice A7 (n4 + 2) c7] K_b2.out ?_; intro v4 hk hp; replace RR := rp RR hp K_b2.out; replace K_b0 := kp K_b0 hp N_b0_b2.out; replace K_b4 := kp K_b4 hp (Ne.symm N_b2_b4.out); replace B0 := bp B0 hp G_b2.out; replace K_b2 := Aside0.mk hk; clear hk hp))
    go_meet
    have hn := HN.out
    exact ⟨_, _, _, _, _, _, _, _, _, _, _, _, _, ⟨⟨HZ.out.1, HZ.out.2.1, HZ.out.2.2.1, HZ.out.2.2.2⟩, by omega, by omega, by omega⟩, RR, B0, K_b0, K_b2, K_b4⟩
  have d1 : (od == 1) = false := by simp [e1]
  clear e1
  by_cases e2 : od = 2
  · have d2 : (od == 2) = true := by simp [e2]
    clear e2
    obtain ⟨y_b2_0, y_b2_1, y_b2_2, y_b2_3, y_b2_4, y_b2_5, y_b2_6, y_b2_7⟩ := cz8 K_b2.out
    go_wp2_with (first
     | ((with_reducible refine gate_callee (f := 72) rfl ?_); refine goesL_ (some 17) rfl rfl Tryz.func72 (by kernel_rfl) rfl #[.string L] rfl mq ?_; (with_reducible refine (isoglossref02_Title.calls 20 L L2 _ HT.out).mono ?_); rintro e v5 ⟨rfl, hb⟩; refine ⟨_, rfl, ?_⟩; clear y_b2_0 y_b2_1 y_b2_2 y_b2_3 y_b2_4 y_b2_5 y_b2_6 y_b2_7; replace RR := rb RR hb; replace K_b0 := kb K_b0 hb; replace K_b2 := kb K_b2 hb; replace K_b4 := kb K_b4 hb; replace B0 := bb B0 hb; clear hb)
     | ((with_reducible refine gate_ (.store 9 (.tmp 18) (.tmp 17)) rfl ?_); refine pe b2 0 #[.string L2, .slice A1 n1 c1, .string S, .string R, .slice A4 n4 c4, .slice A5 n5 c5, .slice A6 n6 c6, .string G] [.string L2] K_b2.out ?_; intro v6 hk hp; replace RR := rp RR hp K_b2.out; replace K_b0 := kp K_b0 hp N_b0_b2.out; replace K_b4 := kp K_b4 hp (Ne.symm N_b2_b4.out); replace B0 := bp B0 hp G_b2.out; replace K_b2 := Aside0.mk hk; clear hk hp))
    go_meet
    have hn := HN.out
    exact ⟨_, _, _, _, _, _, _, _, _, _, _, _, _, ⟨⟨HL2.out, HZ.out.2.1, HZ.out.2.2.1, HZ.out.2.2.2⟩, by omega, by omega, by omega⟩, RR, B0, K_b0, K_b2, K_b4⟩
  have d2 : (od == 2) = false := by simp [e2]
  clear e2
  by_cases e3 : od = 3
  · have d3 : (od == 3) = true := by simp [e3]
    clear e3
    obtain ⟨y_b2_0, y_b2_1, y_b2_2, y_b2_3, y_b2_4, y_b2_5, y_b2_6, y_b2_7⟩ := cz8 K_b2.out
    go_wp2_with (first
     | ((with_reducible refine gate_builtin (b := .append) (xs := #[.tmp 22, .tmp 24]) rfl ?_); at_builtin; refine wpList_growX (w0 := w0) (w0.heap.size) 1 rfl (.tmp 22) (.tmp 24) rfl (.slice A5 n5 c5) (.slice A4 n4 c4) (.slice A6 n6 c6) (n5) [(⟨#[98]⟩, .slice none 0 0, [])] [.string ⟨#[98]⟩, .slice none 0 0] rfl rfl ?hx rfl ?h1 RR.out.2.2.1 ?HY ?HS B0.out B0.out.size ?hl ?_; (case hx => rfl); (case h1 => simp [Value.oneCell']); (case HY => exact fun y hy => by (obtain rfl := List.mem_singleton.1 hy; exact ⟨own_nil _ _ _ _, ne_nil _, ne_nil _⟩)); (case HS => exact fun y hy => by (obtain rfl := List.mem_singleton.1 hy; exact ⟨by decide, by decide, fun z hz => by cases hz⟩)); (case hl => have := HN.out; omega); intro A7 c7 v7 ho hb hg hat; clear y_b2_0 y_b2_1 y_b2_2 y_b2_3 y_b2_4 y_b2_5 y_b2_6 y_b2_7; replace K_b0 := kg (RR.out.2.2.1.toP) hg K_b0; replace K_b2 := kg (RR.out.2.2.1.toP) hg K_b2; replace K_b4 := kg (RR.out.2.2.1.toP) hg K_b4; replace RR := rg5 RR ho hg; replace B0 := Aside0.mk hb; clear ho hb hg hat)
     | ((with_reducible refine gate_ (.store 31 (.tmp 26) (.tmp 25)) rfl ?_); refine pe b2 5 #[.string L, .slice A1 n1 c1, .string S, .string R, .slice A4 n4 c4, .slice A7 (n5 + 1) c7, .slice A6 n6 c6, .string G] [.slice A7 (n5 + 1) c7] K_b2.out ?_; intro v8 hk hp; replace RR := rp RR hp K_b2.out; replace K_b0 := kp K_b0 hp N_b0_b2.out; replace K_b4 := kp K_b4 hp (Ne.symm N_b2_b4.out); replace B0 := bp B0 hp G_b2.out; replace K_b2 := Aside0.mk hk; clear hk hp))
    go_meet
    have hn := HN.out
    exact ⟨_, _, _, _, _, _, _, _, _, _, _, _, _, ⟨⟨HZ.out.1, HZ.out.2.1, HZ.out.2.2.1, HZ.out.2.2.2⟩, by omega, by omega, by omega⟩, RR, B0, K_b0, K_b2, K_b4⟩
  have d3 : (od == 3) = false := by simp [e3]
  clear e3
  by_cases e4 : od = 4
  · have d4 : (od == 4) = true := by simp [e4]
    clear e4
    obtain ⟨y_b2_0, y_b2_1, y_b2_2, y_b2_3, y_b2_4, y_b2_5, y_b2_6, y_b2_7⟩ := cz8 K_b2.out
    go_wp2_with (first
     | ((with_reducible refine gate_ (.store 9 (.tmp 29) (.const (.string ⟨#[108, 97, 116]⟩))) rfl ?_); refine pe b2 2 #[.string L, .slice A1 n1 c1, .string ⟨#[108, 97, 116]⟩, .string R, .slice A4 n4 c4, .slice A5 n5 c5, .slice A6 n6 c6, .string G] [.string ⟨#[108, 97, 116]⟩] K_b2.out ?_; intro v9 hk hp; clear y_b2_0 y_b2_1 y_b2_2 y_b2_3 y_b2_4 y_b2_5 y_b2_6 y_b2_7; replace RR := rp RR hp K_b2.out; replace K_b0 := kp K_b0 hp N_b0_b2.out; replace K_b4 := kp K_b4 hp (Ne.symm N_b2_b4.out); replace B0 := bp B0 hp G_b2.out; replace K_b2 := Aside0.mk hk; clear hk hp))
    go_meet
    have hn := HN.out
    exact ⟨_, _, _, _, _, _, _, _, _, _, _, _, _, ⟨⟨HZ.out.1, by decide, HZ.out.2.2.1, HZ.out.2.2.2⟩, by omega, by omega, by omega⟩, RR, B0, K_b0, K_b2, K_b4⟩
  have d4 : (od == 4) = false := by simp [e4]
  clear e4
  by_cases e5 : od = 5
  · have d5 : (od == 5) = true := by simp [e5]
    clear e5
    obtain ⟨y_b2_0, y_b2_1, y_b2_2, y_b2_3, y_b2_4, y_b2_5, y_b2_6, y_b2_7⟩ := cz8 K_b2.out
    go_wp2_with (first
     | ((with_reducible refine gate_ (.store 9 (.tmp 32) (.const (.string ⟨#[105, 45, 97, 109, 105]⟩))) rfl ?_); refine pe b2 7 #[.string L, .slice A1 n1 c1, .string S, .string R, .slice A4 n4 c4, .slice A5 n5 c5, .slice A6 n6 c6, .string ⟨#[105, 45, 97, 109, 105]⟩] [.string ⟨#[105, 45, 97, 109, 105]⟩] K_b2.out ?_; intro v10 hk hp; clear y_b2_0 y_b2_1 y_b2_2 y_b2_3 y_b2_4 y_b2_5 y_b2_6 y_b2_7; replace RR := rp RR hp K_b2.out; replace K_b0 := kp K_b0 hp N_b0_b2.out; replace K_b4 := kp K_b4 hp (Ne.symm N_b2_b4.out); replace B0 := bp B0 hp G_b2.out; replace K_b2 := Aside0.mk hk; clear hk hp))
    go_meet
    have hn := HN.out
    exact ⟨_, _, _, _, _, _, _, _, _, _, _, _, _, ⟨⟨HZ.out.1, HZ.out.2.1, HZ.out.2.2.1, by decide⟩, by omega, by omega, by omega⟩, RR, B0, K_b0, K_b2, K_b4⟩
  have d5 : (od == 5) = false := by simp [e5]
  clear e5
  by_cases e6 : od = 6
  · have d6 : (od == 6) = true := by simp [e6]
    clear e6
    obtain ⟨y_b2_0, y_b2_1, y_b2_2, y_b2_3, y_b2_4, y_b2_5, y_b2_6, y_b2_7⟩ := cz8 K_b2.out
    go_wp2_with (first
     | ((with_reducible refine gate_builtin (b := .append) (xs := #[.tmp 36, .tmp 37]) rfl ?_); at_builtin; refine g1 (w0 := w0) 1 (.tmp 36) (.tmp 37) (.slice A6 n6 c6) (n6) [.string ⟨#[97, 98, 99, 100, 101, 102, 103, 104, 105]⟩] rfl (h1S (by decide)) (RR.out.2.2.2.1) B0.out B0.out.size ?hl ?_; (case hl => have := HN.out; omega); intro A7 c7 v11 ho hb hg hat; clear y_b2_0 y_b2_1 y_b2_2 y_b2_3 y_b2_4 y_b2_5 y_b2_6 y_b2_7; replace K_b0 := kg (RR.out.2.2.2.1) hg K_b0; replace K_b2 := kg (RR.out.2.2.2.1) hg K_b2; replace K_b4 := kg (RR.out.2.2.2.1) hg K_b4; replace RR := rg6 RR ho hg hat; replace B0 := Aside0.mk hb; clear ho hb hg hat)
     | ((with_reducible refine gate_ (.store 26 (.tmp 39) (.tmp 38)) rfl ?_); refine pe b2 6 #[.string L, .slice A1 n1 c1, .string S, .string R, .slice A4 n4 c4, .slice A5 n5 c5, .slice A7 (n6 + 1) c7, .string G] [.slice A7 (n6 + 1) c7] K_b2.out ?_; intro v12 hk hp; replace RR := rp RR hp K_b2.out; replace K_b0 := kp K_b0 hp N_b0_b2.out; replace K_b4 := kp K_b4 hp (Ne.symm N_b2_b4.out); replace B0 := bp B0 hp G_b2.out; replace K_b2 := Aside0.mk hk; clear hk hp))
    go_meet
    have hn := HN.out
    exact ⟨_, _, _, _, _, _, _, _, _, _, _, _, _, ⟨⟨HZ.out.1, HZ.out.2.1, HZ.out.2.2.1, HZ.out.2.2.2⟩, by omega, by omega, by omega⟩, RR, B0, K_b0, K_b2, K_b4⟩
  have d6 : (od == 6) = false := by simp [e6]
  clear e6
  by_cases e7 : od = 7
  · have d7 : (od == 7) = true := by simp [e7]
    clear e7
    obtain ⟨y_b2_0, y_b2_1, y_b2_2, y_b2_3, y_b2_4, y_b2_5, y_b2_6, y_b2_7⟩ := cz8 K_b2.out
    go_wp2_with (first
     | ((with_reducible refine gate_dst (N := 44) rfl ?_); refine lit_event ?hg (N := 44) ?hd (cs := #[.string ⟨#[97, 98]⟩]) (e := 9) (n := 1) ?hr ?_; (case hd => rfl); (case hg => rfl); (case hr => first | (go_simp; done) | (go_simp; rfl)); intro g1 hg v13 hbox hb; clear y_b2_0 y_b2_1 y_b2_2 y_b2_3 y_b2_4 y_b2_5 y_b2_6 y_b2_7; have I_g1 := lit_row RR ⟨#[97, 98]⟩ hg (by rw [hg]; exact B0.out.size) hbox; replace RR := rb RR hb; replace K_b0 := kb K_b0 hb; replace K_b2 := kb K_b2 hb; replace K_b4 := kb K_b4 hb; replace B0 := bb B0 hb; clear hb hbox hg)
     | ((with_reducible refine gate_dst (N := 46) rfl ?_); refine lit_event ?hg (N := 46) ?hd (cs := #[.string ⟨#[99, 100]⟩]) (e := 9) (n := 1) ?hr ?_; (case hd => rfl); (case hg => rfl); (case hr => first | (go_simp; done) | (go_simp; rfl)); intro g2 hg v14 hbox hb; have I_g2 := lit_row RR ⟨#[99, 100]⟩ hg (by rw [hg]; exact B0.out.size) hbox; replace I_g1 := lit_on I_g1 hb; replace RR := rb RR hb; replace K_b0 := kb K_b0 hb; replace K_b2 := kb K_b2 hb; replace K_b4 := kb K_b4 hb; replace B0 := bb B0 hb; clear hb hbox hg)
     | ((with_reducible refine gate_builtin (b := .append) (xs := #[.tmp 43, .tmp 48]) rfl ?_); at_builtin; refine wpList_growX (w0 := w0) (w0.heap.size) 2 rfl (.tmp 43) (.tmp 48) rfl (.slice A5 n5 c5) (.slice A4 n4 c4) (.slice A6 n6 c6) (n5) [(⟨#[99]⟩, .slice (some ⟨g1, 0, none⟩) 1 1, [⟨#[97, 98]⟩]), (⟨#[99]⟩, .slice (some ⟨g2, 0, none⟩) 1 1, [⟨#[99, 100]⟩])] [.string ⟨#[99]⟩, .slice (some ⟨g1, 0, none⟩) 1 1, .string ⟨#[99]⟩, .slice (some ⟨g2, 0, none⟩) 1 1] rfl rfl ?hx rfl ?h1 RR.out.2.2.1 ?HY ?HS B0.out B0.out.size ?hl ?_; (case hx => rfl); (case h1 => simp [Value.oneCell']); (case HY => exact fun y hy => by (rcases List.mem_cons.1 hy with rfl | hy; (· exact I_g1.out); obtain rfl := List.mem_singleton.1 hy; exact I_g2.out)); (case HS => exact fun y hy => by (rcases List.mem_cons.1 hy with rfl | hy; (· exact ⟨Nat.le_of_ble_eq_true rfl, Nat.le_of_ble_eq_true rfl, fun z hz => by (obtain rfl := List.mem_singleton.1 hz; exact Nat.le_of_ble_eq_true rfl)⟩); obtain rfl := List.mem_singleton.1 hy; exact ⟨Nat.le_of_ble_eq_true rfl, Nat.le_of_ble_eq_true rfl, fun z hz => by (obtain rfl := List.mem_singleton.1 hz; exact Nat.le_of_ble_eq_true rfl)⟩)); (case hl => have := HN.out; omega); intro A7 c7 v15 ho hb hg hat; replace K_b0 := kg (RR.out.2.2.1.toP) hg K_b0; replace K_b2 := kg (RR.out.2.2.1.toP) hg K_b2; replace K_b4 := kg (RR.out.2.2.1.toP) hg K_b4; replace RR := rg5 RR ho hg; replace B0 := Aside0.mk hb; clear ho hb hg hat)
     | ((with_reducible refine gate_ (.store 31 (.tmp 50) (.tmp 49)) rfl ?_); refine pe b2 5 #[.string L, .slice A1 n1 c1, .string S, .string R, .slice A4 n4 c4, .slice A7 (n5 + 2) c7, .slice A6 n6 c6, .string G] [.slice A7 (n5 + 2) c7] K_b2.out ?_; intro v16 hk hp; replace RR := rp RR hp K_b2.out; replace K_b0 := kp K_b0 hp N_b0_b2.out; replace K_b4 := kp K_b4 hp (Ne.symm N_b2_b4.out); replace B0 := bp B0 hp G_b2.out; replace K_b2 := Aside0.mk hk; clear hk hp))
    go_meet
    have hn := HN.out
    exact ⟨_, _, _, _, _, _, _, _, _, _, _, _, _, ⟨⟨HZ.out.1, HZ.out.2.1, HZ.out.2.2.1, HZ.out.2.2.2⟩, by omega, by omega, by omega⟩, RR, B0, K_b0, K_b2, K_b4⟩
  have d7 : (od == 7) = false := by simp [e7]
  clear e7
  by_cases e8 : od = 8
  · have d8 : (od == 8) = true := by simp [e8]
    clear e8
    obtain ⟨y_b2_0, y_b2_1, y_b2_2, y_b2_3, y_b2_4, y_b2_5, y_b2_6, y_b2_7⟩ := cz8 K_b2.out
    go_wp2_with (first
     | ((with_reducible refine gate_ (.store 9 (.tmp 53) (.const (.string ⟨#[]⟩))) rfl ?_); refine pe b2 0 #[.string ⟨#[]⟩, .slice A1 n1 c1, .string S, .string R, .slice A4 n4 c4, .slice A5 n5 c5, .slice A6 n6 c6, .string G] [.string ⟨#[]⟩] K_b2.out ?_; intro v17 hk hp; clear y_b2_0 y_b2_1 y_b2_2 y_b2_3 y_b2_4 y_b2_5 y_b2_6 y_b2_7; replace RR := rp RR hp K_b2.out; replace K_b0 := kp K_b0 hp N_b0_b2.out; replace K_b4 := kp K_b4 hp (Ne.symm N_b2_b4.out); replace B0 := bp B0 hp G_b2.out; replace K_b2 := Aside0.mk hk; clear hk hp))
    go_meet
    have hn := HN.out
    exact ⟨_, _, _, _, _, _, _, _, _, _, _, _, _, ⟨⟨by decide, HZ.out.2.1, HZ.out.2.2.1, HZ.out.2.2.2⟩, by omega, by omega, by omega⟩, RR, B0, K_b0, K_b2, K_b4⟩
  have d8 : (od == 8) = false := by simp [e8]
  clear e8
  go_wp2
  go_meet
  have hn := HN.out
  exact ⟨_, _, _, _, _, _, _, _, _, _, _, _, _, ⟨⟨HZ.out.1, HZ.out.2.1, HZ.out.2.2.1, HZ.out.2.2.2⟩, by omega, by omega, by omega⟩, RR, B0, K_b0, K_b2, K_b4⟩
 case rest =>
 clear RR B0 K_b0 K_b2 K_b4 HZ HN
 obtain ⟨L, S, R, G, n4, A4, c4, n5, A5, c5, n6, A6, c6, HZ, RR, B0, K_b0, K_b2, K_b4⟩ := hcut
 generalize wc = z1 at *
 obtain ⟨y_b2_0, y_b2_1, y_b2_2, y_b2_3, y_b2_4, y_b2_5, y_b2_6, y_b2_7⟩ := cz8 K_b2.out
 go_wp2_with (first
  | ((with_reducible refine gate_ (.store 33 (.tmp 4) (.tmp 54)) rfl ?_); refine pe b4 0 #[.string L, .slice A1 n1 c1, .string S, .string R, .slice A4 n4 c4, .slice A5 n5 c5, .slice A6 n6 c6, .string G] [.string L, .slice A1 n1 c1, .string S, .string R, .slice A4 n4 c4, .slice A5 n5 c5, .slice A6 n6 c6, .string G] K_b4.out ?_; intro v99 hk hp; clear y_b2_0 y_b2_1 y_b2_2 y_b2_3 y_b2_4 y_b2_5 y_b2_6 y_b2_7; replace RR := rp RR hp K_b4.out; replace K_b0 := kp K_b0 hp N_b0_b4.out; replace K_b2 := kp K_b2 hp N_b2_b4.out; replace B0 := bp B0 hp G_b4.out; replace K_b4 := Aside0.mk hk; clear hk hp))
 refine bodyPost_ret (results_cell_row rfl _ _ b4 33 #[.string L, .slice A1 n1 c1, .string S, .string R, .slice A4 n4 c4, .slice A5 n5 c5, .slice A6 n6 c6, .string G] (0, 0) _ rfl K_b4.out hu44 rfl (by kernel_rfl)) rfl ?_
 exact ⟨⟨_, _, _, _, _, _, _, _, _, _, _, _, _, _, _, _, rfl, ⟨HZ.out.1.1, HZ.out.1.2.1, HZ.out.1.2.2.1, HZ.out.1.2.2.2, hn1, HZ.out.2⟩, RR.out, B0.out⟩, K_b0.out⟩
theorem OwnP.at9 {W : World} {base n c : Nat} {A : Option Addr} (h : OwnP W base TST 1 n isS (.slice A n c)) (i : Nat) (hi : i < n) : ∃ (g : Nat) (s : ByteArray), A = some ⟨g, 0, none⟩ ∧ W.cell? ⟨g, i, none⟩ = some (.string s) ∧ s.size ≤ 9 := by
 obtain ⟨L, rfl, hO, hL⟩ := OwnP.texts h
 obtain ⟨A', c', e, hc, hn | ⟨b, rfl, hb, hat⟩⟩ := own_at hO
 · rw [hn] at hi; simp at hi
 · cases e
   have hx := List.getElem?_eq_getElem hi
   have := hat i _ hx
   rw [Nat.zero_add] at this
   exact ⟨b, _, rfl, this, hL _ (List.mem_of_getElem? hx)⟩
theorem subr_c (R : Nat) (L Sc Rg G : ByteArray) (A1 A4 A5 A6 : Option Addr) (n1 c1 n4 c4 c5 n6 c6 : Nat) (xs : XL) (w : World) (hz : L.size ≤ 9 ∧ Sc.size ≤ 9 ∧ Rg.size ≤ 9 ∧ n1 ≤ 1 ∧ n4 ≤ 6 ∧ n6 ≤ 5) (hn : xs.length ≤ 6) (h1 : OwnP w R TST 1 n1 isS (.slice A1 n1 c1)) (h4 : OwnP w R TST 1 n4 isS (.slice A4 n4 c4)) (hX : ExtsG w R (.slice A5 xs.length c5) xs) (hS : SmallX xs) (h6 : OwnP w R TST 1 n6 isS (.slice A6 n6 c6)) (hG : G.size = 0) :
 Calls Tryz.prog 33 #[.agg #[.string L, .slice A1 n1 c1, .string Sc, .string Rg, .slice A4 n4 c4, .slice A5 xs.length c5, .slice A6 n6 c6, .string G]] w fun e w' => ∃ (n : Nat) (A : Option Addr) (c : Nat), e = .returned (.slice A n c) ∧ n ≤ 46 ∧ OwnP w' w.heap.size TST 1 n isS (.slice A n c) ∧ Below w.heap.size w w' := by
 have hut := Tryz.underlying33
 have hge : G.toList.isEmpty = true := by rw [List.isEmpty_iff_length_eq_zero, ByteArray.toList_eq, Array.length_toList]; exact hG
 have HZ := Aside0.mk hz
 have HN := Aside0.mk hn
 have O1 := Aside0.mk h1
 have O4 := Aside0.mk h4
 have O6 := Aside0.mk h6
 have HX := Aside0.mk hX
 have HS := Aside0.mk hS
 have B0 := Aside0.mk (Below.refl w.heap.size w)
 have z1 : n1 ≤ 1 := hz.2.2.2.1
 have z4 : n4 ≤ 6 := hz.2.2.2.2.1
 have z6 : n6 ≤ 5 := hz.2.2.2.2.2
 clear hz hn h1 h4 h6 hX hS hG
 go_enter Tryz.func33, Tryz.ntmps33
 go_upto_if 17 with (first
  | ((with_reducible refine gate_dst (N := 1) rfl ?_); refine be 1 #[.string L, .slice A1 n1 c1, .string Sc, .string Rg, .slice A4 n4 c4, .slice A5 xs.length c5, .slice A6 n6 c6, .string G] 33 ?_; intro b1 hg v0 hbox hb; have G_b1 := Aside0.mk (show w.heap.size ≤ b1 by rw [hg]; exact B0.out.size); replace B0 := bb B0 hb; have K_b1 := Aside0.mk hbox; clear hb hbox hg; obtain ⟨y_b1_0, y_b1_1, y_b1_2, y_b1_3, y_b1_4, y_b1_5, y_b1_6, y_b1_7⟩ := cz8 K_b1.out))
 clear y_b1_0 y_b1_1 y_b1_2 y_b1_3 y_b1_4 y_b1_5 y_b1_6 y_b1_7
 have O_O := Aside0.mk (OwnP.nil v0 w.heap.size TST 1 isS)
 obtain ⟨q17, hq17⟩ : ∃ q, q = L.toList.isEmpty := ⟨_, rfl⟩
 rw [← hq17]
 clear hq17
 go_cut [3] from 18 to 22 (fun s3 wr => ∃ (n : Nat) (A : Option Addr) (c : Nat), n ≤ 1 ∧ s3 = .slice A n c ∧ Aside0 (OwnP wr w.heap.size TST 1 n isS (.slice A n c)) ∧ Aside0 (Below w.heap.size w wr) ∧ Aside0 (wr.heap[b1]? = some (.cells #[.string L, .slice A1 n1 c1, .string Sc, .string Rg, .slice A4 n4 c4, .slice A5 xs.length c5, .slice A6 n6 c6, .string G] 33 (0, 0))))
 case first =>
  cases q17 with
  | true =>
   go_wp2; go_meet; exact ⟨0, none, 0, by omega, rfl, O_O, B0, K_b1⟩
  | false =>
   obtain ⟨y_b1_0, y_b1_1, y_b1_2, y_b1_3, y_b1_4, y_b1_5, y_b1_6, y_b1_7⟩ := cz8 K_b1.out
   go_wp2_with (first
    | ((with_reducible refine gate_builtin (b := .append) (xs := #[.tmp 18, .tmp 21]) rfl ?_); at_builtin; refine g1 (w0 := w) 1 (.tmp 18) (.tmp 21) (.slice none 0 0) (0) [.string L] rfl (h1S (HZ.out.1)) O_O.out B0.out B0.out.size ?hl ?_; (case hl => have := trivial; omega); intro A2 c2 v1 ho hb hg hat; clear y_b1_0 y_b1_1 y_b1_2 y_b1_3 y_b1_4 y_b1_5 y_b1_6 y_b1_7; replace K_b1 := kg O_O.out hg K_b1; replace B0 := Aside0.mk hb; replace O_O := Aside0.mk ho; clear ho hb hg hat))
   go_meet
   exact ⟨_, _, _, by omega, rfl, O_O, B0, K_b1⟩
 case rest =>
 clear O_O B0 K_b1
 obtain ⟨n, A, c, hn, rfl, O_O, B0, K_b1⟩ := hcut
 generalize wc = wq1 at *
 go_upto_block 0 with fail
 go_cut [3] from 23 to 37 (fun s3 wr => ∃ (n : Nat) (A : Option Addr) (c : Nat), n ≤ 2 ∧ s3 = .slice A n c ∧ Aside0 (OwnP wr w.heap.size TST 1 n isS (.slice A n c)) ∧ Aside0 (Below w.heap.size w wr) ∧ Aside0 (wr.heap[b1]? = some (.cells #[.string L, .slice A1 n1 c1, .string Sc, .string Rg, .slice A4 n4 c4, .slice A5 xs.length c5, .slice A6 n6 c6, .string G] 33 (0, 0))))
 case first =>
  go_wp2_with fail
  go_loopw [3, 4] (fun vo vi wr => ∃ (i n : Nat) (A : Option Addr) (c : Nat), vo = .slice A n c ∧ vi = .int .i64 (i : Int) ∧ i ≤ n1 ∧ n ≤ 1 + i ∧ Aside0 (OwnP wr w.heap.size TST 1 n isS (.slice A n c)) ∧ Aside0 (Below w.heap.size w wr) ∧ Aside0 (wr.heap[b1]? = some (.cells #[.string L, .slice A1 n1 c1, .string Sc, .string Rg, .slice A4 n4 c4, .slice A5 xs.length c5, .slice A6 n6 c6, .string G] 33 (0, 0)))) (fun _ vi _ => n1 - (intOf vi).toNat)
  case atStart => exact ⟨0, n, A, c, rfl, rfl, by omega, by omega, O_O, B0, K_b1⟩
  case round =>
   clear O_O B0 K_b1 hn
   obtain ⟨i, n, A, c, rfl, rfl, hi, hn, O_O, B0, K_b1⟩ := hrel
   generalize wr = z2 at *
   by_cases hlt : i < n1
   · obtain ⟨g, s, hA, hc, hsz⟩ := OwnP.at9 (O1.out.below B0.out) i hlt
     cases hA
     have d1 : decide ((i : Int) < (n1 : Int)) = true := decide_eq_true (by omega)
     have SZ := Aside0.mk hsz
     have HC := Aside0.mk hc
     have hl9 : n + 1 ≤ 100 := by omega
     clear hsz
     obtain ⟨y_b1_0, y_b1_1, y_b1_2, y_b1_3, y_b1_4, y_b1_5, y_b1_6, y_b1_7⟩ := cz8 K_b1.out
     go_wp2_with (first
      | ((with_reducible refine gate_builtin (b := .append) (xs := #[.tmp 30, .tmp 36]) rfl ?_); at_builtin; refine g1 (w0 := w) 1 (.tmp 30) (.tmp 36) (.slice A n c) (n) [.string s] rfl (h1S (SZ.out)) O_O.out B0.out B0.out.size ?hl ?_; (case hl => have := hl9; omega); intro A2 c2 v2 ho hb hg hat; clear y_b1_0 y_b1_1 y_b1_2 y_b1_3 y_b1_4 y_b1_5 y_b1_6 y_b1_7 hc; replace K_b1 := kg O_O.out hg K_b1; replace B0 := Aside0.mk hb; replace O_O := Aside0.mk ho; clear ho hb hg hat))
     go_roundw
     case rel => exact ⟨i + 1, n + 1, A2, c2, rfl, by simp, by omega, by omega, O_O, B0, K_b1⟩
     case measure => simp [intOf]; omega
   · have d1 : decide ((i : Int) < (n1 : Int)) = false := decide_eq_false (by omega)
     obtain ⟨y_b1_0, y_b1_1, y_b1_2, y_b1_3, y_b1_4, y_b1_5, y_b1_6, y_b1_7⟩ := cz8 K_b1.out
     go_wp2
     go_meet
     exact ⟨n, A, c, by omega, rfl, O_O, B0, K_b1⟩
 case rest =>
 clear O_O B0 K_b1
 obtain ⟨n, A, c, hn, rfl, O_O, B0, K_b1⟩ := hcut
 generalize wc = wq2 at *
 obtain ⟨y_b1_0, y_b1_1, y_b1_2, y_b1_3, y_b1_4, y_b1_5, y_b1_6, y_b1_7⟩ := cz8 K_b1.out
 go_upto_if 40 with fail
 clear y_b1_0 y_b1_1 y_b1_2 y_b1_3 y_b1_4 y_b1_5 y_b1_6 y_b1_7
 obtain ⟨q40, hq40⟩ : ∃ q, q = Sc.toList.isEmpty := ⟨_, rfl⟩
 rw [← hq40]
 clear hq40
 go_cut [3] from 41 to 45 (fun s3 wr => ∃ (n : Nat) (A : Option Addr) (c : Nat), n ≤ 3 ∧ s3 = .slice A n c ∧ Aside0 (OwnP wr w.heap.size TST 1 n isS (.slice A n c)) ∧ Aside0 (Below w.heap.size w wr) ∧ Aside0 (wr.heap[b1]? = some (.cells #[.string L, .slice A1 n1 c1, .string Sc, .string Rg, .slice A4 n4 c4, .slice A5 xs.length c5, .slice A6 n6 c6, .string G] 33 (0, 0))))
 case first =>
  cases q40 with
  | true =>
   go_wp2; go_meet; exact ⟨n, A, c, by omega, rfl, O_O, B0, K_b1⟩
  | false =>
   obtain ⟨y_b1_0, y_b1_1, y_b1_2, y_b1_3, y_b1_4, y_b1_5, y_b1_6, y_b1_7⟩ := cz8 K_b1.out
   go_wp2_with (first
    | ((with_reducible refine gate_builtin (b := .append) (xs := #[.tmp 41, .tmp 44]) rfl ?_); at_builtin; refine g1 (w0 := w) 1 (.tmp 41) (.tmp 44) (.slice A n c) (n) [.string Sc] rfl (h1S (HZ.out.2.1)) O_O.out B0.out B0.out.size ?hl ?_; (case hl => have := hn; omega); intro A2 c2 v3 ho hb hg hat; clear y_b1_0 y_b1_1 y_b1_2 y_b1_3 y_b1_4 y_b1_5 y_b1_6 y_b1_7; replace K_b1 := kg O_O.out hg K_b1; replace B0 := Aside0.mk hb; replace O_O := Aside0.mk ho; clear ho hb hg hat))
   go_meet
   exact ⟨_, _, _, by omega, rfl, O_O, B0, K_b1⟩
 case rest =>
 clear O_O B0 K_b1
 obtain ⟨n, A, c, hn, rfl, O_O, B0, K_b1⟩ := hcut
 generalize wc = wq3 at *
 obtain ⟨y_b1_0, y_b1_1, y_b1_2, y_b1_3, y_b1_4, y_b1_5, y_b1_6, y_b1_7⟩ := cz8 K_b1.out
 go_upto_if 48 with fail
 clear y_b1_0 y_b1_1 y_b1_2 y_b1_3 y_b1_4 y_b1_5 y_b1_6 y_b1_7
 obtain ⟨q48, hq48⟩ : ∃ q, q = Rg.toList.isEmpty := ⟨_, rfl⟩
 rw [← hq48]
 clear hq48
 go_cut [3] from 49 to 53 (fun s3 wr => ∃ (n : Nat) (A : Option Addr) (c : Nat), n ≤ 4 ∧ s3 = .slice A n c ∧ Aside0 (OwnP wr w.heap.size TST 1 n isS (.slice A n c)) ∧ Aside0 (Below w.heap.size w wr) ∧ Aside0 (wr.heap[b1]? = some (.cells #[.string L, .slice A1 n1 c1, .string Sc, .string Rg, .slice A4 n4 c4, .slice A5 xs.length c5, .slice A6 n6 c6, .string G] 33 (0, 0))))
 case first =>
  cases q48 with
  | true =>
   go_wp2; go_meet; exact ⟨n, A, c, by omega, rfl, O_O, B0, K_b1⟩
  | false =>
   obtain ⟨y_b1_0, y_b1_1, y_b1_2, y_b1_3, y_b1_4, y_b1_5, y_b1_6, y_b1_7⟩ := cz8 K_b1.out
   go_wp2_with (first
    | ((with_reducible refine gate_builtin (b := .append) (xs := #[.tmp 49, .tmp 52]) rfl ?_); at_builtin; refine g1 (w0 := w) 1 (.tmp 49) (.tmp 52) (.slice A n c) (n) [.string Rg] rfl (h1S (HZ.out.2.2.1)) O_O.out B0.out B0.out.size ?hl ?_; (case hl => have := hn; omega); intro A2 c2 v4 ho hb hg hat; clear y_b1_0 y_b1_1 y_b1_2 y_b1_3 y_b1_4 y_b1_5 y_b1_6 y_b1_7; replace K_b1 := kg O_O.out hg K_b1; replace B0 := Aside0.mk hb; replace O_O := Aside0.mk ho; clear ho hb hg hat))
   go_meet
   exact ⟨_, _, _, by omega, rfl, O_O, B0, K_b1⟩
 case rest =>
 clear O_O B0 K_b1
 obtain ⟨n, A, c, hn, rfl, O_O, B0, K_b1⟩ := hcut
 generalize wc = wq4 at *
 go_upto_block 2 with fail
 go_cut [3] from 54 to 68 (fun s3 wr => ∃ (n : Nat) (A : Option Addr) (c : Nat), n ≤ 10 ∧ s3 = .slice A n c ∧ Aside0 (OwnP wr w.heap.size TST 1 n isS (.slice A n c)) ∧ Aside0 (Below w.heap.size w wr) ∧ Aside0 (wr.heap[b1]? = some (.cells #[.string L, .slice A1 n1 c1, .string Sc, .string Rg, .slice A4 n4 c4, .slice A5 xs.length c5, .slice A6 n6 c6, .string G] 33 (0, 0))))
 case first =>
  go_wp2_with fail
  go_loopw [3, 5] (fun vo vi wr => ∃ (i n : Nat) (A : Option Addr) (c : Nat), vo = .slice A n c ∧ vi = .int .i64 (i : Int) ∧ i ≤ n4 ∧ n ≤ 4 + i ∧ Aside0 (OwnP wr w.heap.size TST 1 n isS (.slice A n c)) ∧ Aside0 (Below w.heap.size w wr) ∧ Aside0 (wr.heap[b1]? = some (.cells #[.string L, .slice A1 n1 c1, .string Sc, .string Rg, .slice A4 n4 c4, .slice A5 xs.length c5, .slice A6 n6 c6, .string G] 33 (0, 0)))) (fun _ vi _ => n4 - (intOf vi).toNat)
  case atStart => exact ⟨0, n, A, c, rfl, rfl, by omega, by omega, O_O, B0, K_b1⟩
  case round =>
   clear O_O B0 K_b1 hn
   obtain ⟨i, n, A, c, rfl, rfl, hi, hn, O_O, B0, K_b1⟩ := hrel
   generalize wr = z5 at *
   by_cases hlt : i < n4
   · obtain ⟨g, s, hA, hc, hsz⟩ := OwnP.at9 (O4.out.below B0.out) i hlt
     cases hA
     have d1 : decide ((i : Int) < (n4 : Int)) = true := decide_eq_true (by omega)
     have SZ := Aside0.mk hsz
     have HC := Aside0.mk hc
     have hl9 : n + 1 ≤ 100 := by omega
     clear hsz
     obtain ⟨y_b1_0, y_b1_1, y_b1_2, y_b1_3, y_b1_4, y_b1_5, y_b1_6, y_b1_7⟩ := cz8 K_b1.out
     go_wp2_with (first
      | ((with_reducible refine gate_builtin (b := .append) (xs := #[.tmp 61, .tmp 67]) rfl ?_); at_builtin; refine g1 (w0 := w) 1 (.tmp 61) (.tmp 67) (.slice A n c) (n) [.string s] rfl (h1S (SZ.out)) O_O.out B0.out B0.out.size ?hl ?_; (case hl => have := hl9; omega); intro A2 c2 v5 ho hb hg hat; clear y_b1_0 y_b1_1 y_b1_2 y_b1_3 y_b1_4 y_b1_5 y_b1_6 y_b1_7 hc; replace K_b1 := kg O_O.out hg K_b1; replace B0 := Aside0.mk hb; replace O_O := Aside0.mk ho; clear ho hb hg hat))
     go_roundw
     case rel => exact ⟨i + 1, n + 1, A2, c2, rfl, by simp, by omega, by omega, O_O, B0, K_b1⟩
     case measure => simp [intOf]; omega
   · have d1 : decide ((i : Int) < (n4 : Int)) = false := decide_eq_false (by omega)
     obtain ⟨y_b1_0, y_b1_1, y_b1_2, y_b1_3, y_b1_4, y_b1_5, y_b1_6, y_b1_7⟩ := cz8 K_b1.out
     go_wp2
     go_meet
     exact ⟨n, A, c, by omega, rfl, O_O, B0, K_b1⟩
 case rest =>
 clear O_O B0 K_b1
 obtain ⟨n, A, c, hn, rfl, O_O, B0, K_b1⟩ := hcut
 generalize wc = wq5 at *
 go_upto_block 4 with fail
 go_cut [3] from 69 to 107 (fun s3 wr => ∃ (n : Nat) (A : Option Addr) (c : Nat), n ≤ 40 ∧ s3 = .slice A n c ∧ Aside0 (OwnP wr w.heap.size TST 1 n isS (.slice A n c)) ∧ Aside0 (Below w.heap.size w wr) ∧ Aside0 (wr.heap[b1]? = some (.cells #[.string L, .slice A1 n1 c1, .string Sc, .string Rg, .slice A4 n4 c4, .slice A5 xs.length c5, .slice A6 n6 c6, .string G] 33 (0, 0))))
 case first =>
  go_wp2_with fail
  go_loopw [3, 6] (fun vo vi wr => ∃ (i n : Nat) (A : Option Addr) (c : Nat), vo = .slice A n c ∧ vi = .int .i64 (i : Int) ∧ i ≤ xs.length ∧ n ≤ 10 + 5 * i ∧ Aside0 (OwnP wr w.heap.size TST 1 n isS (.slice A n c)) ∧ Aside0 (Below w.heap.size w wr) ∧ Aside0 (wr.heap[b1]? = some (.cells #[.string L, .slice A1 n1 c1, .string Sc, .string Rg, .slice A4 n4 c4, .slice A5 xs.length c5, .slice A6 n6 c6, .string G] 33 (0, 0)))) (fun _ vi _ => xs.length - (intOf vi).toNat)
  case atStart => exact ⟨0, n, A, c, rfl, rfl, by omega, by omega, O_O, B0, K_b1⟩
  case round =>
   clear O_O B0 K_b1 hn
   obtain ⟨i, n, A, c, rfl, rfl, hi, hn, O_O, B0, K_b1⟩ := hrel
   generalize wr = z6 at *
   by_cases hlt : i < xs.length
   · obtain ⟨x, hx⟩ : ∃ x, xs[i]? = some x := ⟨_, List.getElem?_eq_getElem hlt⟩
     have hxm := List.mem_of_getElem? hx
     obtain ⟨s1, s2, s3⟩ := HS.out x hxm
     have hsub := HX.out.2 x hxm
     have HSB := Aside0.mk hsub
     have S2 := Aside0.mk s2
     have S3 := Aside0.mk s3
     rcases extsX_cell (HX.out.below B0.out).1 with h0 | ⟨gx, hA5, hgx, hcap, hcell⟩
     · rw [h0] at hlt; simp at hlt
     obtain ⟨q1, q2⟩ := hcell i x hx
     cases hA5
     have SZ := Aside0.mk s1
     have d1 : decide ((i : Int) < (xs.length : Int)) = true := decide_eq_true (by omega)
     have hx6 : i < 6 := by have := HN.out; omega
     have hl9 : n + 1 ≤ 100 := by omega
     obtain ⟨k, v, sl⟩ := x
     simp only at q1 q2 s1 SZ
     rw [Nat.mul_comm] at q1 q2
     obtain ⟨AV, cV, hv⟩ := own_slice hsub
     simp only at hv
     subst hv
     have HCELL := Aside0.mk hcell
     have HX0 := Aside0.mk hx
     clear s1 s2 s3 hsub hxm hcell hx
     obtain ⟨y_b1_0, y_b1_1, y_b1_2, y_b1_3, y_b1_4, y_b1_5, y_b1_6, y_b1_7⟩ := cz8 K_b1.out
     go_wp2_with (first
      | ((with_reducible refine gate_builtin (b := .append) (xs := #[.tmp 76, .tmp 83]) rfl ?_); at_builtin; refine g1 (w0 := w) 1 (.tmp 76) (.tmp 83) (.slice A n c) (n) [.string k] rfl (h1S (SZ.out)) O_O.out B0.out B0.out.size ?hl ?_; (case hl => have := hl9; omega); intro A2 c2 v6 ho hb hg hat; clear y_b1_0 y_b1_1 y_b1_2 y_b1_3 y_b1_4 y_b1_5 y_b1_6 y_b1_7; replace K_b1 := kg O_O.out hg K_b1; replace B0 := Aside0.mk hb; replace O_O := Aside0.mk ho; clear ho hb hg hat))
     clear q1 q2 d1
     go_loopw [3, 7] (fun vo vk wr => ∃ (k n' : Nat) (A : Option Addr) (c : Nat), vo = .slice A n' c ∧ vk = .int .i64 (k : Int) ∧ k ≤ sl.length ∧ n' ≤ n + 1 + k ∧ Aside0 (OwnP wr w.heap.size TST 1 n' isS (.slice A n' c)) ∧ Aside0 (Below w.heap.size w wr) ∧ Aside0 (wr.heap[b1]? = some (.cells #[.string L, .slice A1 n1 c1, .string Sc, .string Rg, .slice A4 n4 c4, .slice (some ⟨gx, 0, none⟩) xs.length c5, .slice A6 n6 c6, .string G] 33 (0, 0)))) (fun _ vk _ => sl.length - (intOf vk).toNat)
     case atStart => exact ⟨0, n + 1, A2, c2, rfl, rfl, by omega, by omega, O_O, B0, K_b1⟩
     case round =>
      clear O_O B0 K_b1
      obtain ⟨j, n', A, c, rfl, rfl, hj, hn', O_O, B0, K_b1⟩ := hrel
      generalize wr = z7 at *
      have hX7 := HX.out.below B0.out
      rcases extsX_cell hX7.1 with h0 | ⟨gx', hA5', hgx', hcap', hcell'⟩
      · rw [h0] at hlt; simp at hlt
      cases hA5'
      obtain ⟨q1, q2⟩ := hcell' i _ HX0.out
      simp only at q1 q2
      rw [Nat.mul_comm] at q1 q2
      have d1 : decide ((i : Int) < (xs.length : Int)) = true := decide_eq_true (by omega)
      have l4 : sl.length ≤ 4 := S2.out
      clear hcell' hX7
      by_cases hlj : j < sl.length
      · obtain ⟨_, _, hv2, hcv, hq | ⟨gv, hgv, hgl, hat⟩⟩ := own_at (pw_own_below HSB.out B0.out)
        · (try simp only at hq); rw [hq] at hlj; simp at hlj
        (try simp only at hv2)
        cases hv2
        cases hgv
        obtain ⟨s, hs⟩ : ∃ s, sl[j]? = some s := ⟨_, List.getElem?_eq_getElem hlj⟩
        have hc := hat j s hs
        rw [Nat.zero_add] at hc
        have SZ := Aside0.mk (S3.out s (List.mem_of_getElem? hs))
        have e1 : decide ((j : Int) < (sl.length : Int)) = true := decide_eq_true (by omega)
        have hl9 : n' + 1 ≤ 100 := by omega
        clear hat hs
        obtain ⟨y_b1_0, y_b1_1, y_b1_2, y_b1_3, y_b1_4, y_b1_5, y_b1_6, y_b1_7⟩ := cz8 K_b1.out
        go_wp2_with (first
         | ((with_reducible refine gate_builtin (b := .append) (xs := #[.tmp 96, .tmp 106]) rfl ?_); at_builtin; refine g1 (w0 := w) 1 (.tmp 96) (.tmp 106) (.slice A n' c) (n') [.string s] rfl (h1S (SZ.out)) O_O.out B0.out B0.out.size ?hl ?_; (case hl => have := hl9; omega); intro A3 c3 v7 ho hb hg hat; clear y_b1_0 y_b1_1 y_b1_2 y_b1_3 y_b1_4 y_b1_5 y_b1_6 y_b1_7; replace K_b1 := kg O_O.out hg K_b1; replace B0 := Aside0.mk hb; replace O_O := Aside0.mk ho; clear ho hb hg hat))
        go_roundw
        case rel => exact ⟨j + 1, n' + 1, A3, c3, rfl, by simp, by omega, by omega, O_O, B0, K_b1⟩
        case measure => simp [intOf]; omega
      · have e1 : decide ((j : Int) < (sl.length : Int)) = false := decide_eq_false (by omega)
        obtain ⟨y_b1_0, y_b1_1, y_b1_2, y_b1_3, y_b1_4, y_b1_5, y_b1_6, y_b1_7⟩ := cz8 K_b1.out
        go_wp2
        go_roundw
        case rel => exact ⟨i + 1, n', A, c, rfl, by simp, by omega, by omega, O_O, B0, K_b1⟩
        case measure => simp [intOf]; omega
   · have d1 : decide ((i : Int) < (xs.length : Int)) = false := decide_eq_false (by omega)
     obtain ⟨y_b1_0, y_b1_1, y_b1_2, y_b1_3, y_b1_4, y_b1_5, y_b1_6, y_b1_7⟩ := cz8 K_b1.out
     have hx6 : i ≤ 6 := by have := HN.out; omega
     go_wp2
     go_meet
     exact ⟨n, A, c, by omega, rfl, O_O, B0, K_b1⟩
 case rest =>
 clear O_O B0 K_b1
 obtain ⟨n, A, c, hn, rfl, O_O, B0, K_b1⟩ := hcut
 generalize wc = wq6 at *
 obtain ⟨y_b1_0, y_b1_1, y_b1_2, y_b1_3, y_b1_4, y_b1_5, y_b1_6, y_b1_7⟩ := cz8 K_b1.out
 go_upto_if 111 with fail
 clear y_b1_0 y_b1_1 y_b1_2 y_b1_3 y_b1_4 y_b1_5 y_b1_6 y_b1_7
 generalize decide (0 < n6) = q111
 go_cut [3] from 112 to 114 (fun s3 wr => ∃ (n : Nat) (A : Option Addr) (c : Nat), n ≤ 41 ∧ s3 = .slice A n c ∧ Aside0 (OwnP wr w.heap.size TST 1 n isS (.slice A n c)) ∧ Aside0 (Below w.heap.size w wr) ∧ Aside0 (wr.heap[b1]? = some (.cells #[.string L, .slice A1 n1 c1, .string Sc, .string Rg, .slice A4 n4 c4, .slice A5 xs.length c5, .slice A6 n6 c6, .string G] 33 (0, 0))))
 case first =>
  cases q111 with
  | false => go_wp2; go_meet; exact ⟨n, A, c, by omega, rfl, O_O, B0, K_b1⟩
  | true =>
   go_wp2_with (first
    | ((with_reducible refine gate_builtin (b := .append) (xs := #[.tmp 112, .tmp 113]) rfl ?_); at_builtin; refine g1 (w0 := w) 1 (.tmp 112) (.tmp 113) (.slice A n c) (n) [.string ⟨#[120]⟩] rfl (h1S (by decide)) O_O.out B0.out B0.out.size ?hl ?_; (case hl => have := hn; omega); intro A2 c2 v8 ho hb hg hat; replace K_b1 := kg O_O.out hg K_b1; replace B0 := Aside0.mk hb; replace O_O := Aside0.mk ho; clear ho hb hg hat))
   go_meet
   exact ⟨_, _, _, by omega, rfl, O_O, B0, K_b1⟩
 case rest =>
 clear O_O B0 K_b1
 obtain ⟨n, A, c, hn, rfl, O_O, B0, K_b1⟩ := hcut
 generalize wc = wq7 at *
 go_upto_block 8 with fail
 go_cut [3] from 115 to 129 (fun s3 wr => ∃ (n : Nat) (A : Option Addr) (c : Nat), n ≤ 46 ∧ s3 = .slice A n c ∧ Aside0 (OwnP wr w.heap.size TST 1 n isS (.slice A n c)) ∧ Aside0 (Below w.heap.size w wr) ∧ Aside0 (wr.heap[b1]? = some (.cells #[.string L, .slice A1 n1 c1, .string Sc, .string Rg, .slice A4 n4 c4, .slice A5 xs.length c5, .slice A6 n6 c6, .string G] 33 (0, 0))))
 case first =>
  go_wp2_with fail
  go_loopw [3, 8] (fun vo vi wr => ∃ (i n : Nat) (A : Option Addr) (c : Nat), vo = .slice A n c ∧ vi = .int .i64 (i : Int) ∧ i ≤ n6 ∧ n ≤ 41 + i ∧ Aside0 (OwnP wr w.heap.size TST 1 n isS (.slice A n c)) ∧ Aside0 (Below w.heap.size w wr) ∧ Aside0 (wr.heap[b1]? = some (.cells #[.string L, .slice A1 n1 c1, .string Sc, .string Rg, .slice A4 n4 c4, .slice A5 xs.length c5, .slice A6 n6 c6, .string G] 33 (0, 0)))) (fun _ vi _ => n6 - (intOf vi).toNat)
  case atStart => exact ⟨0, n, A, c, rfl, rfl, by omega, by omega, O_O, B0, K_b1⟩
  case round =>
   clear O_O B0 K_b1 hn
   obtain ⟨i, n, A, c, rfl, rfl, hi, hn, O_O, B0, K_b1⟩ := hrel
   generalize wr = z8 at *
   by_cases hlt : i < n6
   · obtain ⟨g, s, hA, hc, hsz⟩ := OwnP.at9 (O6.out.below B0.out) i hlt
     cases hA
     have d1 : decide ((i : Int) < (n6 : Int)) = true := decide_eq_true (by omega)
     have SZ := Aside0.mk hsz
     have HC := Aside0.mk hc
     have hl9 : n + 1 ≤ 100 := by omega
     clear hsz
     obtain ⟨y_b1_0, y_b1_1, y_b1_2, y_b1_3, y_b1_4, y_b1_5, y_b1_6, y_b1_7⟩ := cz8 K_b1.out
     go_wp2_with (first
      | ((with_reducible refine gate_builtin (b := .append) (xs := #[.tmp 122, .tmp 128]) rfl ?_); at_builtin; refine g1 (w0 := w) 1 (.tmp 122) (.tmp 128) (.slice A n c) (n) [.string s] rfl (h1S (SZ.out)) O_O.out B0.out B0.out.size ?hl ?_; (case hl => have := hl9; omega); intro A2 c2 v9 ho hb hg hat; clear y_b1_0 y_b1_1 y_b1_2 y_b1_3 y_b1_4 y_b1_5 y_b1_6 y_b1_7 hc; replace K_b1 := kg O_O.out hg K_b1; replace B0 := Aside0.mk hb; replace O_O := Aside0.mk ho; clear ho hb hg hat))
     go_roundw
     case rel => exact ⟨i + 1, n + 1, A2, c2, rfl, by simp, by omega, by omega, O_O, B0, K_b1⟩
     case measure => simp [intOf]; omega
   · have d1 : decide ((i : Int) < (n6 : Int)) = false := decide_eq_false (by omega)
     obtain ⟨y_b1_0, y_b1_1, y_b1_2, y_b1_3, y_b1_4, y_b1_5, y_b1_6, y_b1_7⟩ := cz8 K_b1.out
     go_wp2
     go_meet
     exact ⟨n, A, c, by omega, rfl, O_O, B0, K_b1⟩
 case rest =>
 clear O_O B0 K_b1
 obtain ⟨n, A, c, hn, rfl, O_O, B0, K_b1⟩ := hcut
 generalize wc = wq8 at *
 obtain ⟨y_b1_0, y_b1_1, y_b1_2, y_b1_3, y_b1_4, y_b1_5, y_b1_6, y_b1_7⟩ := cz8 K_b1.out
 go_wp2
 go_ret
 exact ⟨_, _, _, rfl, hn, O_O.out, B0.out⟩
theorem lower_c (a b c : ByteArray) (hs : (Lib.join ((full1 [a, b, c]).map (·.data.toList)) [45]).length ≤ 140737488355328) (w : World) : Calls Tryz.prog 43 #[T3 a b c] w fun e w' => e = .returned (.string (joinS (full1 [a, b, c]))) ∧ Below w.heap.size w w' := by
 have hl : (full1 [a, b, c]).length ≤ 1000000 := Nat.le_trans (List.length_filter_le _ _) (by simp)
 have hut := Tryz.underlying33
 unfold T3
 go_enter Tryz.func43, Tryz.ntmps43
 go_wp2_with (first
  | (go_at_call 75; refine (subtags_c a b c _).mono ?_; rintro e w1 ⟨v, rfl, hO, hB⟩; have O_V := Aside0.mk hO; have HB := Aside0.mk hB; clear hO hB)
  | (go_at_call 74; refine (join_c _ v _ _ O_V.out hl hs).mono ?_; rintro e w2 ⟨rfl, hB2⟩))
 go_ret
 exact ⟨rfl, (below_alloc (Below.refl _ _) _).trans ((HB.out.mono (by simp)).trans (hB2.mono (Nat.le_trans (by simp) HB.out.size)))⟩
theorem string_c (a b c : ByteArray) (hs : (Lib.join ((full1 [a, b, c]).map (·.data.toList)) [45]).length ≤ 140737488355328) (hz : (joinS (full1 [a, b, c])).size ≤ 900000) (sg : Bool) (out : List ByteArray) (ht : (eachP (joinS (full1 [a, b, c]))).all caseOk = true) (ho : caseL (eachP (joinS (full1 [a, b, c]))) (false, []) = some (sg, out)) (hj : (Lib.join (out.map (·.data.toList)) [45]).length ≤ 140737488355328) (w : World) : Calls Tryz.prog 44 #[T3 a b c] w fun e w' => e = .returned (.string (joinS out)) ∧ Below w.heap.size w w' := by
 have hut := Tryz.underlying33
 unfold T3
 have HT := Aside0.mk ht
 have HO := Aside0.mk ho
 have HZ := Aside0.mk hz
 clear ht ho hz
 go_enter Tryz.func44, Tryz.ntmps44
 go_wp2_with (first
  | (go_at_call 43; refine (lower_c a b c hs _).mono ?_; rintro e w1 ⟨rfl, hB⟩; have HB := Aside0.mk hB; clear hB)
  | (go_at_call 45; refine (case_c _ HZ.out sg out HT.out HO.out hj _).mono ?_; rintro e w2 ⟨rfl, hB2⟩))
 go_ret
 exact ⟨rfl, (below_alloc (Below.refl _ _) _).trans ((HB.out.mono (by simp)).trans (hB2.mono (Nat.le_trans (by simp) HB.out.size)))⟩
end Go.Proofs.YtpmcfckechjppaaGreatDoor.Ps
namespace Go.Proofs.YtpmcfckechjppaaGreatDoor.Ps
open Go.RowKit Go.Extern.Stop Go.Stop Go.Extern
set_option linter.unusedVariables false
set_option linter.unusedSimpArgs false
set_option maxRecDepth 100000
set_option maxHeartbeats 8000000
abbrev hdl (t : TypeId) : Value := .pointer (some ⟨8, t, none⟩)
theorem a_valueOf101 (t : Addr) (w : World) : (ReflectliteValue.unpack (.iface 101 (.pointer (some t)))).run Tryz.prog w
 = .ok (.agg #[.pointer (some ⟨8, 101, none⟩), .pointer (some ⟨w.heap.size, 0, none⟩), .int .u64 150]) (w.alloc (.cells #[.pointer (some t)] 101)) := by kernel_rfl
theorem a_type101 (a : Addr) (w : World) : (ReflectliteValue.methodAny (ReflectliteValue.valueError "reflectlite.Value.Type" 0) (fun t _ _ _ => ReflectliteType.toType t) #[.agg #[.pointer (some ⟨8, 101, none⟩), .pointer (some a), .int .u64 150]]).run Tryz.prog w
 = .ok (.iface 206 (.agg #[.pointer (some ⟨8, 101, none⟩)])) w := by kernel_rfl
theorem a_methodKind (h : Value) (w : World) : (Go.method 496 206 (.agg #[h]) "Kind").run Tryz.prog w = .ok (370, h) w := by kernel_rfl
theorem a_kind101 (w : World) : ((ReflectliteType.abiMethod fun t => (fun a : Nat => Value.int IntKind.u8 (a : Int)) <$> Rtype.kind t) #[.pointer (some ⟨8, 101, none⟩)]).run Tryz.prog w = .ok (.int .u8 22) w := by kernel_rfl
theorem a_kind59 (w : World) : ((ReflectliteType.abiMethod fun t => (fun a : Nat => Value.int IntKind.u8 (a : Int)) <$> Rtype.kind t) #[.pointer (some ⟨8, 59, none⟩)]).run Tryz.prog w = .ok (.int .u8 2) w := by kernel_rfl
theorem a_rlm (z : Sem Value) (f : TypeId → Addr → Nat → Nat → Sem Value) (v : Value) :
 ReflectliteValue.method z f #[v] = (do match ← ReflectliteValue.parts v with | none => z | some (t, a, fl) => f t a fl (fl % 32)) := rfl
theorem a_parts101 (a : Addr) (w : World) : (ReflectliteValue.parts (.agg #[.pointer (some ⟨8, 101, none⟩), .pointer (some a), .int .u64 150])).run Tryz.prog w = .ok (some (101, a, 150)) w := by kernel_rfl
theorem a_isNil101 (a p : Addr) (W : World) (ha : W.cell? a = some (.pointer (some p))) :
 (ReflectliteValue.method (ReflectliteValue.valueError "reflectlite.Value.IsNil" 0) ReflectliteValue.isNil #[.agg #[.pointer (some ⟨8, 101, none⟩), .pointer (some a), .int .u64 150]]).run Tryz.prog W = .ok (.bool false) W := by
 rw [a_rlm]
 simp only [Sem.run_bind, a_parts101, Result.andThen]
 simp [ReflectliteValue.isNil, loadVar, isAgg, underlying, Tryz.underlying101, ha, Result.andThen]
theorem a_methodElem (h : Value) (w : World) : (Go.method 496 206 (.agg #[h]) "Elem").run Tryz.prog w = .ok (384, .agg #[h]) w := by kernel_rfl
theorem a_methodImplements (h : Value) (w : World) : (Go.method 496 206 (.agg #[h]) "Implements").run Tryz.prog w = .ok (385, .agg #[h]) w := by kernel_rfl
theorem a_methodAssignableTo (h : Value) (w : World) : (Go.method 496 206 (.agg #[h]) "AssignableTo").run Tryz.prog w = .ok (382, .agg #[h]) w := by kernel_rfl
theorem a_elem101 (w : World) : (ReflectliteType.method ReflectliteType.elem #[.agg #[.pointer (some ⟨8, 101, none⟩)]]).run Tryz.prog w = .ok (.iface 206 (.agg #[.pointer (some ⟨8, 59, none⟩)])) w := by kernel_rfl
theorem a_implements59 (w : World) : (ReflectliteType.relation "Implements" ReflectliteType.implements_ #[.agg #[.pointer (some ⟨8, 59, none⟩)], .iface 206 (.agg #[.pointer (some ⟨8, 55, none⟩)])]).run Tryz.prog w = .ok (.bool true) w := by kernel_rfl
theorem a_typeOf105 (v : Value) (w : World) : (ReflectliteType.typeOf #[.iface 105 v]).run Tryz.prog w = .ok (.iface 206 (.agg #[.pointer (some ⟨8, 105, none⟩)])) w := by kernel_rfl
theorem a_typeOf59 (v : Value) (w : World) : (ReflectliteType.typeOf #[.iface 59 v]).run Tryz.prog w = .ok (.iface 206 (.agg #[.pointer (some ⟨8, 59, none⟩)])) w := by kernel_rfl
theorem a_assignable105 (w : World) : (ReflectliteType.relation "AssignableTo" ReflectliteType.assignableTo #[.agg #[.pointer (some ⟨8, 105, none⟩)], .iface 206 (.agg #[.pointer (some ⟨8, 59, none⟩)])]).run Tryz.prog w = .ok (.bool false) w := by kernel_rfl
theorem a_assignable59 (w : World) : (ReflectliteType.relation "AssignableTo" ReflectliteType.assignableTo #[.agg #[.pointer (some ⟨8, 59, none⟩)], .iface 206 (.agg #[.pointer (some ⟨8, 59, none⟩)])]).run Tryz.prog w = .ok (.bool true) w := by kernel_rfl
theorem a_valueOf59 (k : Int) (w : World) : (ReflectliteValue.unpack (.iface 59 (.int .i64 k))).run Tryz.prog w
 = .ok (.agg #[.pointer (some ⟨8, 59, none⟩), .pointer (some ⟨w.heap.size, 0, none⟩), .int .u64 130]) (w.alloc (.cells #[.int .i64 k] 59)) := by kernel_rfl
theorem a_elemOf101 (w : World) : (Rtype.elem? 101).run Tryz.prog w = .ok (some 59) w := by kernel_rfl
theorem a_mk59 (p : Addr) (w : World) : (ReflectliteValue.mk 59 p ReflectliteValue.flagAddr).run Tryz.prog w = .ok (.agg #[.pointer (some ⟨8, 59, none⟩), .pointer (some p), .int .u64 386]) w := by kernel_rfl
theorem a_elemV101 (a p : Addr) (W : World) (ha : W.cell? a = some (.pointer (some p))) :
 (ReflectliteValue.method (ReflectliteValue.valueError "reflectlite.Value.Elem" 0) ReflectliteValue.elem #[.agg #[.pointer (some ⟨8, 101, none⟩), .pointer (some a), .int .u64 150]]).run Tryz.prog W
  = .ok (.agg #[.pointer (some ⟨8, 59, none⟩), .pointer (some p), .int .u64 386]) W := by
 rw [a_rlm]
 simp only [Sem.run_bind, a_parts101, Result.andThen]
 simp [ReflectliteValue.elem, loadVar, isAgg, underlying, Tryz.underlying101, ha, Result.andThen, a_elemOf101, a_mk59]
theorem a_rls (v x : Value) : ReflectliteValue.set #[v, x] = (do
 let (some (dst, a, fl), some (src, b, _)) := (← ReflectliteValue.parts v, ← ReflectliteValue.parts x)
  | unsupported (.noEntry "extern/(internal/reflectlite.Value).Set.zeroValue")
 if fl / ReflectliteValue.flagAddr % 2 == 0 then unsupported (.noEntry "extern/(internal/reflectlite.Value).Set.unaddressable")
 let val ← loadVar src b
 if ← Rtype.directlyAssignable dst src then storeVar dst a val
 else if ← Rtype.implements dst src then
  if (← Rtype.kind src) == 20 then
   match val with
   | .nilIface => unsupported (.noEntry "extern/reflectlite: a nil value of one interface type handed on as a value of another")
   | _ => storeVar dst a val
  else storeVar dst a (.iface src val)
 else panicString ("reflectlite.Set: value of type " ++ (← Rtype.spelt src) ++ " is not assignable to type " ++ (← Rtype.spelt dst))
 pure (.tuple #[])) := rfl
theorem a_parts59a (a : Addr) (w : World) : (ReflectliteValue.parts (.agg #[.pointer (some ⟨8, 59, none⟩), .pointer (some a), .int .u64 386])).run Tryz.prog w = .ok (some (59, a, 386)) w := by kernel_rfl
theorem a_parts59 (a : Addr) (w : World) : (ReflectliteValue.parts (.agg #[.pointer (some ⟨8, 59, none⟩), .pointer (some a), .int .u64 130])).run Tryz.prog w = .ok (some (59, a, 130)) w := by kernel_rfl
theorem a_direct59 (w : World) : (Rtype.directlyAssignable 59 59).run Tryz.prog w = .ok true w := by kernel_rfl
theorem a_set59 (ta b : Addr) (k : Int) (old : Value) (W : World) (hb : W.cell? b = some (.int .i64 k)) (ht : W.cell? ta = some old) (hf : W.frozen? ta = false) :
 (ReflectliteValue.set #[.agg #[.pointer (some ⟨8, 59, none⟩), .pointer (some ta), .int .u64 386], .agg #[.pointer (some ⟨8, 59, none⟩), .pointer (some b), .int .u64 130]]).run Tryz.prog W
  = .ok (.tuple #[]) (W.setCell ta (.int .i64 k)) := by
 rw [a_rls]
 simp only [Sem.run_bind, a_parts59a, a_parts59, Result.andThen]
 simp [ReflectliteValue.flagAddr, loadVar, isAgg, underlying, Tryz.underlying59, hb, Result.andThen, a_direct59, storeVar, Value.cells, storeCells, Addr.add]
 rw [run_store Tryz.prog W ta _ _ (by rfl)]
 simp [ht, hf]
theorem a_noAs (v : Value) (w : World) : (Instr.typeAssert (.iface 105 v) 55 211 true).run Tryz.prog w = .ok (.tuple #[.nilIface, .bool false]) w := run_typeAssert_lacksB Tryz.underlying211 (by kernel_rfl) (by kernel_rfl) v _ w
theorem a_unwraps (v : Value) (w : World) : (Instr.typeAssert (.iface 105 v) 55 163 true).run Tryz.prog w = .ok (.tuple #[.iface 105 v, .bool true]) w := run_typeAssert_hasB Tryz.underlying163 (by kernel_rfl) v _ w
theorem a_methodUnwrap (v : Value) (w : World) : (Go.method 496 105 v "Unwrap").run Tryz.prog w = .ok (376, v) w := by kernel_rfl
end Go.Proofs.YtpmcfckechjppaaGreatDoor.Ps
namespace Go.Proofs.YtpmcfckechjppaaGreatDoor.Ps
open Go.RowKit Go.Shelf Go.Proofs.YtpmcfckechjppaaGreatDoorW.PrintWords Go.Proofs.YtpmcfckechjppaaGreatDoorW.PrintLast Go.Proofs.YtpmcfckechjppaaGreatDoorW.PrintMore Go.Proofs.YtpmcfckechjppaaGreatDoor.P Go.Proofs.YtpmcfckechjppaaGreatDoor.LikW Go.Extern.Stop Go.Stop Go.Extern
attribute [local go_sem] Oper.semAt_some
set_option linter.unusedVariables false
set_option linter.unusedSimpArgs false
set_option maxRecDepth 100000
set_option maxHeartbeats 8000000
theorem unwrap_c (p : Nat) (x : Int × Int) (w : World) (hF : FaultAt w p x) : Calls Tryz.prog 376 #[.pointer (some ⟨p, 0, none⟩)] w fun e w' => e = .returned (.iface 59 (.int .i64 x.2)) ∧ w' = w := by
 have huf := Tryz.underlying107
 obtain ⟨what, hF⟩ := hF
 have h2 := (blk_cell hF 2).trans rfl
 clear hF
 go_enter Tryz.func376, Tryz.ntmps376
 go_wp2_with (fail)
 go_ret
 exact ⟨rfl, rfl⟩
theorem as2_c (p t a : Nat) (x : Int × Int) (w : World) (hF : FaultAt w p x) (ht : w.heap[t]? = some (.cells #[.int .i64 0] 59 (0, 0))) (ha : w.cell? ⟨a, 0, none⟩ = some (.pointer (some ⟨t, 0, none⟩))) :
 Calls Tryz.prog 144 #[.iface 105 (.pointer (some ⟨p, 0, none⟩)), .iface 101 (.pointer (some ⟨t, 0, none⟩)), .agg #[.pointer (some ⟨8, 101, none⟩), .pointer (some ⟨a, 0, none⟩), .int .u64 150], .iface 206 (.agg #[.pointer (some ⟨8, 59, none⟩)])] w fun e w' => e = .returned (.bool true) ∧ Below t w w' ∧ w'.heap[t]? = some (.cells #[.int .i64 x.2] 59 (0, 0)) := by
 have h141 := @run_callFunc_extern Tryz.prog 141 _ (fun args => ReflectliteValue.unpack (args.getD 0 (.tuple #[]))) Tryz.func141 (by kernel_rfl) (by kernel_rfl) (by kernel_rfl) (by kernel_rfl)
 have h190 := @run_callFunc_extern Tryz.prog 190 _ ReflectliteType.typeOf Tryz.func190 (by kernel_rfl) (by kernel_rfl) (by kernel_rfl) (by kernel_rfl)
 have h382 := @run_callFunc_extern Tryz.prog 382 _ (ReflectliteType.relation "AssignableTo" ReflectliteType.assignableTo) Tryz.func382 (by kernel_rfl) (by kernel_rfl) (by kernel_rfl) (by kernel_rfl)
 have h191 := @run_callFunc_extern Tryz.prog 191 _ (ReflectliteValue.method (ReflectliteValue.valueError "reflectlite.Value.Elem" 0) ReflectliteValue.elem) Tryz.func191 (by kernel_rfl) (by kernel_rfl) (by kernel_rfl) (by kernel_rfl)
 have h192 := @run_callFunc_extern Tryz.prog 192 _ ReflectliteValue.set Tryz.func192 (by kernel_rfl) (by kernel_rfl) (by kernel_rfl) (by kernel_rfl)
 have q1 := a_typeOf105
 have q2 := a_typeOf59
 have q3 := a_methodAssignableTo
 have q4 := a_assignable105
 have q5 := a_assignable59
 have q6 := a_valueOf59
 have q16 := a_noAs
 have q17 := a_unwraps
 have q18 := a_methodUnwrap
 have htl := lt_blk ht
 have hal : a < w.heap.size := by
  rcases Nat.lt_or_ge a w.heap.size with h | h
  · exact h
  · simp [World.cell?, Array.getElem?_eq_none h] at ha
 obtain ⟨V3, hV3⟩ : ∃ V3, V3 = w.alloc (.cells #[.pointer (some ⟨8, 101, none⟩), .pointer (some ⟨a, 0, none⟩), .int .u64 150] 152) := ⟨_, rfl⟩
 have s3 : V3.heap.size = w.heap.size + 1 := by rw [hV3]; simp
 have b3 : Below w.heap.size w V3 := by rw [hV3]; exact below_alloc (Below.refl _ _) _
 have HF : Aside0 (FaultAt V3 p x) := ⟨by obtain ⟨what, h⟩ := hF; exact ⟨what, (b3.block _ (lt_blk h)).trans h⟩⟩
 have el := a_elemV101 ⟨a, 0, none⟩ ⟨t, 0, none⟩ V3 (by rw [hV3, World.cell?_alloc_lt _ _ ⟨a, 0, none⟩ hal]; exact ha)
 have T3 : V3.heap[t]? = some (.cells #[.int .i64 0] 59 (0, 0)) := (b3.block _ htl).trans ht
 obtain ⟨V4, hV4⟩ : ∃ V4, V4 = V3.alloc (.cells #[.int .i64 x.2] 59) := ⟨_, rfl⟩
 have T4 : V4.heap[t]? = some (.cells #[.int .i64 0] 59 (0, 0)) := by rw [hV4]; exact ((below_alloc (Below.refl _ _) _).block _ (by omega)).trans T3
 have B4 : Below t w V4 := by rw [hV4]; exact (b3.mono (by omega)).trans ((below_alloc (Below.refl _ _) _).mono (by omega))
 have st := a_set59 ⟨t, 0, none⟩ ⟨w.heap.size + 1, 0, none⟩ x.2 _ V4
  (by rw [hV4, World.cell?_alloc_at _ _ _ _ (by simp [s3])]; rfl)
  ((blk_cell T4 0).trans rfl) (blk_frozen T4 0)
 have HT := Aside0.mk T4
 have HB := Aside0.mk B4
 have H4 := Aside0.mk hV4
 have H3 := Aside0.mk hV3
 rw [hV4, hV3] at st
 rw [hV3] at el
 clear hF htl ht ha hal T3 T4 s3 b3 B4 hV4 hV3
 go_enter Tryz.func144, Tryz.ntmps144
 go_wp2_with (fail)
 refine wp_loop_rounds 2 ?_
 rw [rounds_succ]
 go_wp2_with (first
  | (go_at_call 376; refine (unwrap_c p x _ (H3.out ▸ HF.out)).mono ?_; rintro e w1 ⟨rfl, rfl⟩))
 rw [rounds_succ]
 go_wp2_with (fail)
 go_ret
 have e4 := H4.out
 rw [H3.out] at e4
 rw [← e4]
 exact ⟨rfl, HB.out.setCell (Nat.le_refl t) _, blk_put HT.out 0 _ rfl⟩
theorem as_c (p t : Nat) (x : Int × Int) (w : World) (hg : w.cell? ⟨1, 0, none⟩ = some (.iface 206 (.agg #[.pointer (some ⟨8, 55, none⟩)]))) (hF : FaultAt w p x) (ht : w.heap[t]? = some (.cells #[.int .i64 0] 59 (0, 0))) :
 Calls Tryz.prog 71 #[faultV p, .iface 101 (.pointer (some ⟨t, 0, none⟩))] w fun e w' => e = .returned (.bool true) ∧ Below t w w' ∧ w'.heap[t]? = some (.cells #[.int .i64 x.2] 59 (0, 0)) := by
 unfold faultV
 have h141 := @run_callFunc_extern Tryz.prog 141 _ (fun args => ReflectliteValue.unpack (args.getD 0 (.tuple #[]))) Tryz.func141 (by kernel_rfl) (by kernel_rfl) (by kernel_rfl) (by kernel_rfl)
 have h142 := @run_callFunc_extern Tryz.prog 142 _ (ReflectliteValue.methodAny (ReflectliteValue.valueError "reflectlite.Value.Type" 0) (fun t _ _ _ => ReflectliteType.toType t)) Tryz.func142 (by kernel_rfl) (by kernel_rfl) (by kernel_rfl) (by kernel_rfl)
 have h143 := @run_callFunc_extern Tryz.prog 143 _ (ReflectliteValue.method (ReflectliteValue.valueError "reflectlite.Value.IsNil" 0) ReflectliteValue.isNil) Tryz.func143 (by kernel_rfl) (by kernel_rfl) (by kernel_rfl) (by kernel_rfl)
 have h370 := @run_callFunc_extern Tryz.prog 370 _ (ReflectliteType.abiMethod fun t => do pure (.int .u8 (← Rtype.kind t))) Tryz.func370 (by kernel_rfl) (by kernel_rfl) (by kernel_rfl) (by kernel_rfl)
 have h384 := @run_callFunc_extern Tryz.prog 384 _ (ReflectliteType.method ReflectliteType.elem) Tryz.func384 (by kernel_rfl) (by kernel_rfl) (by kernel_rfl) (by kernel_rfl)
 have h385 := @run_callFunc_extern Tryz.prog 385 _ (ReflectliteType.relation "Implements" ReflectliteType.implements_) Tryz.func385 (by kernel_rfl) (by kernel_rfl) (by kernel_rfl) (by kernel_rfl)
 have h190 := @run_callFunc_extern Tryz.prog 190 _ ReflectliteType.typeOf Tryz.func190 (by kernel_rfl) (by kernel_rfl) (by kernel_rfl) (by kernel_rfl)
 have h382 := @run_callFunc_extern Tryz.prog 382 _ (ReflectliteType.relation "AssignableTo" ReflectliteType.assignableTo) Tryz.func382 (by kernel_rfl) (by kernel_rfl) (by kernel_rfl) (by kernel_rfl)
 have h191 := @run_callFunc_extern Tryz.prog 191 _ (ReflectliteValue.method (ReflectliteValue.valueError "reflectlite.Value.Elem" 0) ReflectliteValue.elem) Tryz.func191 (by kernel_rfl) (by kernel_rfl) (by kernel_rfl) (by kernel_rfl)
 have h192 := @run_callFunc_extern Tryz.prog 192 _ ReflectliteValue.set Tryz.func192 (by kernel_rfl) (by kernel_rfl) (by kernel_rfl) (by kernel_rfl)
 have q1 := a_typeOf105
 have q2 := a_typeOf59
 have q3 := a_methodAssignableTo
 have q4 := a_assignable105
 have q5 := a_assignable59
 have q6 := a_valueOf59
 have q7 := a_valueOf101
 have q8 := a_type101
 have q9 := a_methodKind
 have q10 := a_methodElem
 have q11 := a_methodImplements
 have q12 := a_kind101
 have q13 := a_kind59
 have q14 := a_elem101
 have q15 := a_implements59
 have q16 := a_noAs
 have q17 := a_unwraps
 have q18 := a_methodUnwrap
 have htl := lt_blk ht
 have ht0 := (blk_cell ht 0).trans rfl
 have hf0 := blk_frozen ht 0
 obtain ⟨V2, hV2⟩ : ∃ V2, V2 = ((w.alloc (.cells #[.pointer (some ⟨t, 0, none⟩)] 101)).alloc (.cells #[.pointer (some ⟨8, 101, none⟩), .pointer (some ⟨w.heap.size, 0, none⟩), .int .u64 150] 152)) := ⟨_, rfl⟩
 have s2 : V2.heap.size = w.heap.size + 1 + 1 := by rw [hV2]; simp
 have b2 : Below w.heap.size w V2 := by rw [hV2]; exact below_alloc (below_alloc (Below.refl _ _) _) _
 have hlt : 1 < w.heap.size := by
  rcases Nat.lt_or_ge 1 w.heap.size with h | h
  · exact h
  · simp [World.cell?, Array.getElem?_eq_none h] at hg
 have n8 := a_isNil101 ⟨w.heap.size, 0, none⟩ ⟨t, 0, none⟩ V2 (by rw [hV2, World.cell?_alloc_lt _ _ ⟨w.heap.size, 0, none⟩ (by simp)]; simp)
 have hg2 : V2.cell? ⟨1, 0, none⟩ = some (.iface 206 (.agg #[.pointer (some ⟨8, 55, none⟩)])) := by
  rw [hV2, World.cell?_alloc_lt _ _ ⟨1, 0, none⟩ (by simp; omega), World.cell?_alloc_lt _ _ ⟨1, 0, none⟩ hlt]; exact hg
 obtain ⟨b3, hF2⟩ : True ∧ FaultAt V2 p x := ⟨trivial, by obtain ⟨what, h⟩ := hF; exact ⟨what, (b2.block _ (lt_blk h)).trans h⟩⟩
 have HF := Aside0.mk hF2
 have HT := Aside0.mk ((b2.block _ htl).trans ht)
 have HA := Aside0.mk (show V2.cell? ⟨w.heap.size, 0, none⟩ = some (.pointer (some ⟨t, 0, none⟩)) from by rw [hV2, World.cell?_alloc_lt _ _ ⟨w.heap.size, 0, none⟩ (by simp)]; simp)
 have HB := Aside0.mk (b2.mono (Nat.le_of_lt htl))
 subst hV2
 clear hF htl ht ht0 hf0 s2 b2 b3 hF2
 go_enter Tryz.func71, Tryz.ntmps71
 go_wp2_with (first
  | (go_at_call 144; refine (as2_c p t w.heap.size x _ HF.out HT.out HA.out).mono ?_; rintro e w1 ⟨rfl, hb, hh⟩))
 go_ret
 exact ⟨rfl, HB.out.trans hb, hh⟩
theorem fkind_c (p : Nat) (x : Int × Int) (w : World) (hg : w.cell? ⟨1, 0, none⟩ = some (.iface 206 (.agg #[.pointer (some ⟨8, 55, none⟩)]))) (hF : FaultAt w p x) :
 Calls Tryz.prog 31 #[faultV p] w fun e w' => e = .returned (.int .i64 x.2) ∧ Below w.heap.size w w' := by
 have hmi : ∀ (u : Value) (W : World), (Instr.makeInterface 101 u).run Tryz.prog W = .ok (.iface 101 u) W := fun u W => by kernel_rfl
 obtain ⟨V, hV⟩ : ∃ V, V = w.alloc (.cells #[.int .i64 0] 59) := ⟨_, rfl⟩
 have bV : Below w.heap.size w V := by rw [hV]; exact below_alloc (Below.refl _ _) _
 have HG : Aside0 (V.cell? ⟨1, 0, none⟩ = some (.iface 206 (.agg #[.pointer (some ⟨8, 55, none⟩)]))) := ⟨by
  have hlt : 1 < w.heap.size := by
   rcases Nat.lt_or_ge 1 w.heap.size with h | h
   · exact h
   · simp [World.cell?, Array.getElem?_eq_none h] at hg
  rw [hV, World.cell?_alloc_lt _ _ ⟨1, 0, none⟩ hlt]; exact hg⟩
 have HF : Aside0 (FaultAt V p x) := ⟨by obtain ⟨what, h⟩ := hF; exact ⟨what, (bV.block _ (lt_blk h)).trans h⟩⟩
 have HT : Aside0 (V.heap[w.heap.size]? = some (.cells #[.int .i64 0] 59 (0, 0))) := ⟨by rw [hV]; exact World.alloc_heap_new _ _⟩
 have HB := Aside0.mk bV
 subst hV
 clear hg hF bV
 unfold faultV
 go_enter Tryz.func31, Tryz.ntmps31
 go_wp2_with (first
  | (go_at_call 71; refine (as_c p w.heap.size x _ HG.out HF.out HT.out).mono ?_; rintro e w1 ⟨rfl, hb, hh⟩; have h0 := (blk_cell hh 0).trans rfl; have HH := Aside0.mk hb; clear hb hh))
 go_ret
 exact ⟨rfl, HB.out.trans HH.out⟩
end Go.Proofs.YtpmcfckechjppaaGreatDoor.Ps
namespace Go.Proofs.YtpmcfckechjppaaGreatDoor.Ps
open Go.RowKit Go.Shelf Go.Proofs.YtpmcfckechjppaaGreatDoorW.PrintWords Go.Proofs.YtpmcfckechjppaaGreatDoorW.PrintLast Go.Proofs.YtpmcfckechjppaaGreatDoorW.PrintMore Go.Proofs.YtpmcfckechjppaaGreatDoor.P Go.Proofs.YtpmcfckechjppaaGreatDoor.LikW
open Go.Proofs.YtpmcfckechjppaaGreatDoor.Each Go.Proofs.YtpmcfckechjppaaGreatDoor.Base Go.Proofs.YtpmcfckechjppaaGreatDoor.Pure
attribute [local go_sem] Oper.semAt_some
set_option linter.unusedVariables false
set_option linter.unusedSimpArgs false
set_option maxRecDepth 100000
set_option maxHeartbeats 8000000
def EHw (w : World) : Prop := w.cell? ⟨1, 0, none⟩ = some (.iface 206 (.agg #[.pointer (some ⟨8, 55, none⟩)]))
theorem EHw.below {w W : World} (h : EHw w) (hb : Below w.heap.size w W) : EHw W := (hb.cell (World.block_lt_of_cell? w _ h)).trans h
theorem FaultAt.below {w W : World} {p : Nat} {x : Int × Int} (h : FaultAt w p x) (hb : Below w.heap.size w W) : FaultAt W p x := by
 obtain ⟨what, h⟩ := h
 exact ⟨what, (hb.block _ (lt_blk h)).trans h⟩
theorem same0_x (w : World) : Calls Tryz.prog 41 #[.agg #[.string ⟨#[]⟩, .slice none 0 0, .string ⟨#[]⟩, .string ⟨#[]⟩, .slice none 0 0, .slice none 0 0, .slice none 0 0, .string ⟨#[]⟩], .agg #[.string ⟨#[]⟩, .slice none 0 0, .string ⟨#[]⟩, .string ⟨#[]⟩, .slice none 0 0, .slice none 0 0, .slice none 0 0, .string ⟨#[]⟩]] w fun e w' => e = .returned (.bool true) ∧ Below w.heap.size w w' := same0_c w
def Cry (w w1 : World) (p : Nat) (x : Int × Int) : Prop := Below w.heap.size w w1 ∧ EHw w1 ∧ FaultAt w1 p x
theorem Cry.on {w w1 w2 : World} {p : Nat} {x : Int × Int} (h : Cry w w1 p x) (hb : Below w1.heap.size w1 w2) : Cry w w2 p x := ⟨h.1.trans (hb.mono h.1.size), h.2.1.below hb, h.2.2.below hb⟩
theorem parses_err (k : Nat) (s : ByteArray) (hs : s.size ≤ 800) (w : World) (hG : GrandW.G w) (hE : EHw w) (i : Int) (hf : grand_Find.f k s = some (i, false)) (x : Int × Int) (hr : allP s.size ((eachP s).map lowPc) = .error x) :
 Calls Tryz.prog 14 #[.string s] w fun e w' => e = .returned (.bool true) ∧ Below w.heap.size w w' := by
 have hut := Tryz.underlying33
 have hpc := parse_g k s (Nat.le_trans hs (by decide)) w hG i hf _ (each_lowP s (Nat.le_trans hs (by decide)))
 rw [hr] at hpc
 have HPC := Aside0.mk hpc
 obtain ⟨x1, x2, x3⟩ := all_err s x hr
 obtain ⟨xa, xb⟩ := x
 simp only at x1 x2 x3
 have HE := Aside0.mk hE
 clear hpc hE hr hf hG
 have hd1 : decide (xa ≥ 0) = true := decide_eq_true x1
 have hd2 : decide (xa ≤ (s.size : Int)) = true := decide_eq_true x2
 rcases x3 with rfl | rfl
 all_goals
  go_enter Tryz.func14, Tryz.ntmps14
  go_wp2_with (first
   | (go_at_call 26; refine HPC.out.mono ?_; rintro e w1 ⟨hb, ⟨_, _, hh, _⟩ | ⟨x', p, hx', rfl, hF, hp⟩⟩; (· cases hh); cases hx'; have HC := Aside0.mk (show Cry w w1 p _ from ⟨hb, HE.out.below hb, hF⟩); clear hb hF hp; unfold tag0)
   | (go_at_call 41; refine (same0_x _).mono ?_; rintro e w2 ⟨rfl, hb2⟩; have HC2 := Aside0.mk ((HC.out.on (below_alloc (Below.refl _ _) _)).on hb2); clear hb2)
   | (go_at_call 42; refine (place_c p _ _ HC2.out.2.2).mono ?_; rintro e w3 ⟨rfl, hb3⟩; have HC3 := Aside0.mk (HC2.out.on hb3); clear hb3)
   | (go_at_call 31; refine (fkind_c p _ _ HC3.out.2.1 HC3.out.2.2).mono ?_; rintro e w4 ⟨rfl, hb4⟩; have HC4 := Aside0.mk (HC3.out.on hb4); clear hb4))
  go_ret
  exact ⟨rfl, HC4.out.1⟩
theorem tail_len (M : Nat) : ∀ r : List (List UInt8), (∀ x ∈ r, x.length ≤ M) → (Lib.joinTail [45] r).length ≤ r.length * (M + 1)
 | [], _ => by simp [Lib.joinTail]
 | x :: r, h => by
  have ih := tail_len M r fun y hy => h y (List.mem_cons_of_mem _ hy)
  have h1 := h x List.mem_cons_self
  have e : Lib.joinTail [45] (x :: r) = ([45] ++ x) ++ Lib.joinTail [45] r := rfl
  rw [e, List.length_append, List.length_append, List.length_cons, List.length_cons, List.length_nil, Nat.add_mul]
  omega
theorem join_len (M : Nat) (l : List (List UInt8)) (h : ∀ x ∈ l, x.length ≤ M) : (Lib.join l [45]).length ≤ l.length * (M + 1) := by
 cases l with
 | nil => simp [Lib.join_nil]
 | cons x r =>
  have h1 := h x List.mem_cons_self
  have h2 := tail_len M r fun y hy => h y (List.mem_cons_of_mem _ hy)
  rw [Lib.join_cons, List.length_append, List.length_cons, Nat.add_mul]
  omega
theorem step_some (st : Bool × List ByteArray) (x : Pc) (h : x.2.size ≤ 900000) : ∃ q, caseStep st x = some q ∧ ∃ y, q.2 = st.2 ++ [y] ∧ y.size = x.2.size := by
 unfold caseStep
 rw [Lower_eq x.2 (by omega), Option.bind_some, Upper_eq _ (by rw [lowS_size]; omega), Title_eq _ (by rw [lowS_size]; omega)]
 split
 · split
   · exact ⟨_, rfl, _, rfl, by rw [upS_size, lowS_size]⟩
   · split
     · exact ⟨_, rfl, _, rfl, by rw [titS_size, lowS_size]⟩
     · exact ⟨_, rfl, _, rfl, lowS_size _⟩
 · exact ⟨_, rfl, _, rfl, lowS_size _⟩
theorem case_some (M : Nat) : ∀ (l : List Pc) (st : Bool × List ByteArray), (∀ x ∈ l, x.2.size ≤ 900000 ∧ x.2.size ≤ M) → (∀ y ∈ st.2, y.size ≤ M) → ∃ q, caseL l st = some q ∧ ∀ y ∈ q.2, y.size ≤ M
 | [], st, _, h => ⟨st, rfl, h⟩
 | x :: l, st, hl, h => by
  obtain ⟨q, h1, y, h2, h3⟩ := step_some st x (hl x List.mem_cons_self).1
  obtain ⟨q', h4, h5⟩ := case_some M l q (fun z hz => hl z (List.mem_cons_of_mem _ hz)) (by
   intro z hz
   rw [h2, List.mem_append] at hz
   rcases hz with hz | hz
   · exact h z hz
   · rw [List.mem_singleton] at hz
     rw [hz, h3]
     exact (hl x List.mem_cons_self).2)
  exact ⟨q', by rw [caseL, h1, Option.bind_some, h4], h5⟩
theorem case_all (s : ByteArray) (hs : s.size ≤ 800) : ∃ sg out, caseL (eachP s) (false, []) = some (sg, out) ∧ (Lib.join (out.map (·.data.toList)) [45]).length ≤ 140737488355328 := by
 obtain ⟨⟨sg, out⟩, h1, h2⟩ := case_some 800 (eachP s) (false, []) (fun x hx => by have := eachF_size s _ _ x hx; omega) (by simp)
 refine ⟨sg, out, h1, Nat.le_trans (join_len 800 _ ?_) ?_⟩
 · intro x hx
   obtain ⟨y, hy, rfl⟩ := List.mem_map.1 hx
   exact h2 y hy
 · have h3 := caseL_len _ _ _ _ h1
   have h4 := eachF_len s (s.size + 1) 0
   rw [List.length_map, h3]
   unfold eachP
   simp only [List.length_nil]
   omega
theorem parses_ok (k : Nat) (s : ByteArray) (hs : s.size ≤ 800) (w : World) (hG : GrandW.G w) (i : Int) (hf : grand_Find.f k s = some (i, false)) (t : TagL) (hr : allP s.size ((eachP s).map lowPc) = .ok t) (kl : Nat) (hlow : isoglossref02_Lower.f kl s = some (lowS s)) :
 Calls Tryz.prog 14 #[.string s] w fun e w' => e = .returned (.bool true) ∧ Below w.heap.size w w' := by
 have hut := Tryz.underlying33
 have hpc := parse_g k s (Nat.le_trans hs (by decide)) w hG i hf _ (each_lowP s (Nat.le_trans hs (by decide)))
 rw [hr] at hpc
 have HPC := Aside0.mk hpc
 have hj := subs_low s t hr
 have hn : t.subs.length ≤ 900 := by have := subs_len s t hr; omega
 have hjs : (Lib.join (t.subs.map (·.data.toList)) [45]).length ≤ 140737488355328 := by
  have h1 : (joinS t.subs).size = s.size := by rw [hj, lowS_size]
  have h2 : (joinS t.subs).size = (Lib.join (t.subs.map (·.data.toList)) [45]).length := by unfold joinS; exact List.size_toArray
  omega
 obtain ⟨sg, out, hc, hjo⟩ := case_all s hs
 have hs9 : s.size ≤ 900000 := Nat.le_trans hs (by decide)
 have hcl := case_low s hs9 (false, [])
 have HL := Aside0.mk (fun (s' : RS) (R : Nat) (W : World) (hT : TagG W R s' t) => hj ▸ lower_g s' t R W hT hn hjs)
 have HS := Aside0.mk (fun (s' : RS) (R : Nat) (W : World) (hT : TagG W R s' t) => string_g s' t R W hT hn hjs (by rw [hj, lowS_size]; exact hs9) sg out (by rw [hj]; exact caseOk_all _ (by rw [lowS_size]; exact hs9)) (by rw [hj, hcl]; exact hc) hjo)
 have HCC := Aside0.mk (fun W => case_c s hs9 sg out (caseOk_all s hs9) hc hjo W)
 have HR := Aside0.mk (fun W => isoglossref02_Lower.calls kl s (lowS s) W hlow)
 clear hpc hr hf hG hj hn hjs hc hjo hcl hlow
 go_enter Tryz.func14, Tryz.ntmps14
 go_wp2_with (first
  | (go_at_call 26; refine HPC.out.mono ?_; rintro e w1 ⟨hb, ⟨t', s', hh, rfl, hT⟩ | ⟨x', p, hx', _⟩⟩; rotate_left; (· cases hx'); cases hh; obtain ⟨l', vE, sc, rg, vV, vX, vR⟩ := s'; obtain ⟨AE, cE, eE⟩ := own_slice hT.2.2.2.1; obtain ⟨AV, cV, eV⟩ := own_slice hT.2.2.2.2.1; obtain ⟨xs, _, hX⟩ := hT.2.2.2.2.2.1; obtain ⟨AX, cX, eX⟩ := own_slice hX.1; obtain ⟨AR, cR, eR⟩ := own_slice hT.2.2.2.2.2.2; simp only at eE eV eX eR; subst eE eV eX eR; have HB := Aside0.mk hb; have HT := Aside0.mk hT; clear hb hT hX; unfold tagV; simp only)
  | (go_at_call 43; refine (HL.out _ w.heap.size _ (HT.out.below (by repeat (first | exact Below.refl _ _ | apply below_alloc | refine below_set ?_ (by simp))))).mono ?_; rintro e w2 ⟨rfl, hb2⟩; have K2 := Aside0.mk ((hb2.block w1.heap.size (by simp)).trans (aZ rfl)); have HT2 := Aside0.mk ((HT.out.below (by repeat (first | exact Below.refl _ _ | apply below_alloc | refine below_set ?_ (by simp)))).below hb2); have HB2 := Aside0.mk ((HB.out.trans ((below_alloc (Below.refl _ _) _).mono HB.out.size)).trans (hb2.mono (by have := HB.out.size; simp; omega))); clear hb2)
  | (go_at_call 29; refine (HR.out _).mono ?_; rintro e w3 ⟨rfl, hb3⟩; have k3 := (hb3.block _ (lt_blk K2.out)).trans K2.out; have HT3 := Aside0.mk (HT2.out.below hb3); have HB3 := Aside0.mk (HB2.out.trans (hb3.mono HB2.out.size)); obtain ⟨z0, z1, z2, z3, z4, z5, z6, z7⟩ := cz8 k3; clear hb3 k3)
  | (go_at_call 44; refine (HS.out _ w.heap.size _ HT3.out).mono ?_; rintro e w4 ⟨rfl, hb4⟩; have HB4 := Aside0.mk (HB3.out.trans (hb4.mono HB3.out.size)); clear hb4)
  | (go_at_call 45; refine (HCC.out _).mono ?_; rintro e w5 ⟨rfl, hb5⟩; have HB5 := Aside0.mk (HB4.out.trans (hb5.mono HB4.out.size)); clear hb5))
 go_ret
 exact ⟨rfl, HB5.out⟩
theorem parses_free (k : Nat) (s : ByteArray) (hs : s.size ≤ 800) (w : World) (hG : GrandW.G w) (hE : EHw w) (i : Int) (hf : grand_Find.f k s = some (i, false)) :
 Calls Tryz.prog 14 #[.string s] w fun e w' => e = .returned (.bool true) ∧ Below w.heap.size w w' := by
 cases hr : allP s.size ((eachP s).map lowPc) with
 | error x => exact parses_err k s hs w hG hE i hf x hr
 | ok t =>
  obtain ⟨kl, hl⟩ := rLower_ev s (by omega)
  exact parses_ok k s hs w hG i hf t hr kl (hl kl (Nat.le_refl _))
end Go.Proofs.YtpmcfckechjppaaGreatDoor.Ps
