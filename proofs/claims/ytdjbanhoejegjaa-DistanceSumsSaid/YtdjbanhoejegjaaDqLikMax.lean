/- likely.Maximize: a range over likely.Ladder's iterator whose body returns. -/
import Derived.Test.YtdjbanhoejegjaaDqLikLad
import Derived.RangeFuncNested
namespace Go.Proofs.Ytdjbanhoejegjaa.LikW
open Go.RowKit Go.Shelf Go.Proofs.YtdjbanhoejegjaaW.PrintWords Go.Proofs.YtdjbanhoejegjaaW.PrintLast Go.Proofs.Ytdjbanhoejegjaa.P
attribute [local go_sem] Oper.semAt_some
set_option linter.unusedVariables false
set_option linter.unusedSimpArgs false

def fillP (x : S66) (t : K3) : K3 := (if t.1 = undB then x.f3 else t.1, if t.2.1 = empS then x.f4 else t.2.1, if t.2.2 = empS then x.f5 else t.2.2)
def tK (x : S66) (t : K3) (k : Nat) : K3 := (if 1 ≤ k then (fillP x t).1 else t.1, if 2 ≤ k then (fillP x t).2.1 else t.2.1, if 3 ≤ k then (fillP x t).2.2 else t.2.2)
def maxP (l : List S66) (t : K3) : K3 × Bool := match (ladL t.1 t.2.1 t.2.2).findSome? (rowOf l) with
 | some x => (fillP x t, true)
 | none => (t, false)
theorem max_none (l : List S66) (L S R : ByteArray) (h : ∀ y ∈ ladL L S R, rowOf l y = none) : maxP l (L, S, R) = ((L, S, R), false) := by
 unfold maxP
 rw [List.findSome?_eq_none_iff.2 h]
theorem max_some (l : List S66) (L S R : ByteArray) (pr : List K3) (k : K3) (x : S66) (h : pr ++ [k] <+: ladL L S R) (hn : ∀ y ∈ pr, rowOf l y = none) (hk : rowOf l k = some x) : maxP l (L, S, R) = (fillP x (L, S, R), true) := by
 unfold maxP
 obtain ⟨rest, e⟩ := h
 rw [← e, List.findSome?_append, List.findSome?_append, List.findSome?_eq_none_iff.2 hn]
 simp [List.findSome?, hk]
def Blk (W : World) (B : Nat) (vs : Array Value) (T : TypeId) : Prop := W.heap[B]? = some (.cells vs T (0, 0))
theorem Blk.lt {W : World} {B : Nat} {vs : Array Value} {T : TypeId} (h : Blk W B vs T) : B < W.heap.size := (Array.getElem?_eq_some_iff.1 h).1
theorem Blk.cell {W : World} {B : Nat} {vs : Array Value} {T : TypeId} (h : Blk W B vs T) (i : Nat) : W.cell? ⟨B, i, none⟩ = vs[i]? := blk_cell h i
theorem Blk.below {n0 : Nat} {W W' : World} {B : Nat} {vs : Array Value} {T : TypeId} (h : Blk W B vs T) (hB : B < n0) (hb : Below n0 W W') : Blk W' B vs T := (hb.block B hB).trans h
theorem blk_own {β : Type} (B : Nat) (T : TypeId) (f : β → Array Value) : Own (fun s W => Blk W B (f s) T) := fun s X Y row hs hg hrow =>
 (hg.block B (Blk.lt hs) (fun e' => by obtain ⟨o, ho, hc⟩ := hrow B e'.symm; rw [show X.heap[B]? = _ from hs] at ho; cases ho; cases hc)).trans hs
theorem Blk.kept {W W' : World} {row : Option Nat} {B : Nat} {vs : Array Value} {T : TypeId} (h : Blk W B vs T) (hg : W.grownBy W' row) (hne : some B ≠ row) : Blk W' B vs T := (hg.block B h.lt hne).trans h
theorem Blk.alloc {W : World} {B : Nat} {vs : Array Value} {T : TypeId} (h : Blk W B vs T) (o : Obj) : Blk (W.alloc o) B vs T := h.kept (World.grownBy_alloc W o none) (by simp)
theorem Blk.set {W : World} {B : Nat} {vs : Array Value} {T : TypeId} (h : Blk W B vs T) (i : Nat) (v' : Value) : Blk (W.setCell ⟨B, i, none⟩ v') B (vs.set! i v') T := by
 obtain ⟨hlt, hk⟩ := Array.getElem?_eq_some_iff.1 h
 show (W.heap.modify B _)[B]? = _
 rw [Array.getElem?_eq_getElem (by rw [Array.size_modify]; exact hlt), Array.getElem_modify_self, hk]
 simp
theorem grown_setCell (W : World) (b i : Nat) (v : Value) : W.grownBy (W.setCell ⟨b, i, none⟩ v) (some b) :=
 ⟨rfl, rfl, rfl, (KeepsWalks.setCell W _ v).size, fun k _ hk => Below.heap_setCell _ _ _ k (fun e => hk (by rw [e]))⟩
theorem Blk.other {W : World} {B B' : Nat} {vs : Array Value} {T : TypeId} (h : Blk W B vs T) (hne : B ≠ B') (i : Nat) (u : Value) : Blk (W.setCell ⟨B', i, none⟩ u) B vs T := h.kept (grown_setCell W B' i u) (fun e => hne (by cases e; rfl))
theorem Blk.new (W : World) (vs : Array Value) (T : TypeId) : Blk (W.alloc (.cells vs T)) W.heap.size vs T := World.alloc_heap_new W _
section
variable {F : Fence} {n : Nat} {ops : Array Oper} {rest : List Oper} {o : Oper} {a : Act} {w : World} {Q : Exit → Act → World → Prop}
theorem wpListIn_lookR (lp : Nat) (hro : F.round = some lp) (hg : o.guard = none) (m x : Operand) (T E : TypeId) (ok : Bool) (hop : o.op = Op.lookup T m x ok) (hT : Try.prog.underlying T = some (.map 30 E)) (b : Nat) (hm : a.eval m = .map (some b)) (ps : List (K3 × Value)) (hM : MapIs w b ps) (k : K3) (hx : a.eval x = keyV k)
 (z : Value) (hz : (zeroValue E).run Try.prog w = .ok z w) (h : wpListIn F n Try.prog ops Q rest (a.put o.dst (if ok = true then .tuple #[(findP k ps).getD z, .bool (findP k ps).isSome] else (findP k ps).getD z)) w) : wpListIn F n Try.prog ops Q (o :: rest) a w := by
 refine wpListIn_plain hg fun K' hK' => ⟨fun f hf => ?_, ?_⟩
 · simp [Oper.about, hop] at hf
 · rw [hro, Oper.semAt_some _ _ _ (by rw [hop]; intro c h; cases h)]
   have hrun := run_look hM k hT hz ok
   have e : (execOp a.eval o).run Try.prog w = .ok (.value (if ok = true then .tuple #[(findP k ps).getD z, .bool (findP k ps).isSome] else (findP k ps).getD z)) w := by
    unfold execOp
    simp only [hop, hm, hx, Sem.run_bind, Sem.run_pure, Result.andThen_ok, hrun]
   rw [e]
   exact hK' _ _ h
end
set_option maxHeartbeats 1000000 in
theorem ladder_in (F : Fence) (n : Nat) (hf : F.fn 59) (hro : F.round = none) (c0 c1 c2 c3 c4 c5 c6 c7 : Value) (w : World) :
 CallsIn F n Try.prog 59 #[.agg #[c0, c1, c2, c3, c4, c5, c6, c7]] w fun e w' => e = .returned (.func (.func 66) #[] #[.pointer (some ⟨w.heap.size, 0, none⟩)]) ∧ w' = w.alloc (.cells #[c0, c1, c2, c3, c4, c5, c6, c7] 44) := by
 have hu44 := Try.underlying44
 refine callsIn_of_wp Try.func59 rfl hf ?_ hro
 simp only [Try.ntmps59, List.size_toArray, List.length_cons, List.length_nil, Nat.reduceAdd, Nat.reduceSub, Array.replicate_succ, Array.replicate_zero, List.push_toArray, List.append_toArray, List.nil_append, List.cons_append]
 gi_wp2
 go_ret
 exact ⟨rfl, rfl⟩

set_option maxRecDepth 100000 in
set_option maxHeartbeats 4000000 in
theorem max_calls (A0 : Option Addr) (n0 c0 : Nat) (A1 : Option Addr) (c1 : Nat) (l : List S66) (A2 : Option Addr) (n2 c2 : Nat) (A3 : Option Addr) (n3 c3 : Nat) (p q : Int)
 (L S R G : ByteArray) (E0 : Option Addr) (m0 d0 : Nat) (E1 : Option Addr) (m1 d1 : Nat) (E2 : Option Addr) (m2 d2 : Nat) (E3 : Option Addr) (m3 d3 : Nat) (w : World) (hC : Kd.C k66 w A1 l.length l) :
 Calls Try.prog 52 #[.agg #[.slice A0 n0 c0, .slice A1 l.length c1, .slice A2 n2 c2, .slice A3 n3 c3, .int .i64 p, .int .i64 q], .agg #[.string L, .slice E0 m0 d0, .string S, .string R, .slice E1 m1 d1, .slice E2 m2 d2, .slice E3 m3 d3, .string G]] w fun e w' =>
  e = .returned (.tuple #[.agg #[.string (maxP l (L, S, R)).1.1, .slice E0 m0 d0, .string (maxP l (L, S, R)).1.2.1, .string (maxP l (L, S, R)).1.2.2, .slice E1 m1 d1, .slice E2 m2 d2, .slice E3 m3 d3, .string G], .bool (maxP l (L, S, R)).2]) ∧ Below w.heap.size w w' := by
 have hu39 := Try.underlying39
 have hu44 := Try.underlying44
 have hu66 := Try.underlying66
 have hu30 := Try.underlying30
 have hmo : Try.prog.follows .mixedOrders = true := by kernel_rfl
 have HC := Aside0.mk hC
 clear hC
 obtain ⟨V, hV⟩ : ∃ V, V = (((w.alloc (.cells #[.slice A0 n0 c0, .slice A1 l.length c1, .slice A2 n2 c2, .slice A3 n3 c3, .int .i64 p, .int .i64 q] 39)).alloc (.cells #[.string L, .slice E0 m0 d0, .string S, .string R, .slice E1 m1 d1, .slice E2 m2 d2, .slice E3 m3 d3, .string G] 44)).alloc (.cells #[.string ⟨#[]⟩, .slice none 0 0, .string ⟨#[]⟩, .string ⟨#[]⟩, .slice none 0 0, .slice none 0 0, .slice none 0 0, .string ⟨#[]⟩] 44)).alloc (.cells #[.bool false] 4) := ⟨_, rfl⟩
 have vs : V.heap.size = w.heap.size + 4 := by rw [hV]; simp
 have vT : Blk V (w.heap.size + 1) #[.string L, .slice E0 m0 d0, .string S, .string R, .slice E1 m1 d1, .slice E2 m2 d2, .slice E3 m3 d3, .string G] 44 := by rw [hV]; exact Blk.alloc (Blk.alloc (by have := World.alloc_heap_new (w.alloc (.cells #[.slice A0 n0 c0, .slice A1 l.length c1, .slice A2 n2 c2, .slice A3 n3 c3, .int .i64 p, .int .i64 q] 39)) (.cells #[.string L, .slice E0 m0 d0, .string S, .string R, .slice E1 m1 d1, .slice E2 m2 d2, .slice E3 m3 d3, .string G] 44); unfold Blk; simpa using this) _) _
 have v4 : Blk V (w.heap.size + 2) #[.string ⟨#[]⟩, .slice none 0 0, .string ⟨#[]⟩, .string ⟨#[]⟩, .slice none 0 0, .slice none 0 0, .slice none 0 0, .string ⟨#[]⟩] 44 := by rw [hV]; exact Blk.alloc (by have := World.alloc_heap_new ((w.alloc (.cells #[.slice A0 n0 c0, .slice A1 l.length c1, .slice A2 n2 c2, .slice A3 n3 c3, .int .i64 p, .int .i64 q] 39)).alloc (.cells #[.string L, .slice E0 m0 d0, .string S, .string R, .slice E1 m1 d1, .slice E2 m2 d2, .slice E3 m3 d3, .string G] 44)) (.cells #[.string ⟨#[]⟩, .slice none 0 0, .string ⟨#[]⟩, .string ⟨#[]⟩, .slice none 0 0, .slice none 0 0, .slice none 0 0, .string ⟨#[]⟩] 44); unfold Blk; simpa using this) _
 have v5 : Boxed V (w.heap.size + 3) 4 (.bool false) := by rw [hV]; have := World.alloc_heap_new (((w.alloc (.cells #[.slice A0 n0 c0, .slice A1 l.length c1, .slice A2 n2 c2, .slice A3 n3 c3, .int .i64 p, .int .i64 q] 39)).alloc (.cells #[.string L, .slice E0 m0 d0, .string S, .string R, .slice E1 m1 d1, .slice E2 m2 d2, .slice E3 m3 d3, .string G] 44)).alloc (.cells #[.string ⟨#[]⟩, .slice none 0 0, .string ⟨#[]⟩, .string ⟨#[]⟩, .slice none 0 0, .slice none 0 0, .slice none 0 0, .string ⟨#[]⟩] 44)) (.cells #[.bool false] 4); unfold Boxed; simpa using this
 have vB : Below w.heap.size w V := by rw [hV]; repeat (first | exact Below.refl _ _ | apply below_alloc)
 have vI : k66.C V A1 l.length l := Kd.C_below HC.out vB
 have HV := Aside0.mk hV
 clear hV
 have HI := Aside0.mk vI
 clear vI HC
 refine (callsIn_wide (n := 3)).1 ?_
 refine callsIn_of_wp_marks Try.func52 rfl trivial ?_ rfl
 simp only [Try.ntmps52, List.size_toArray, List.length_cons, List.length_nil, Nat.reduceAdd, Nat.reduceSub, Array.replicate_succ, Array.replicate_zero, List.push_toArray, List.append_toArray, List.nil_append, List.cons_append]
 gi_wp2_with (first | (refine ⟨trivial, ?_⟩; gi_at_call 58; rw [← HV.out]; refine (callsIn_wide.2 (rows_calls A0 n0 c0 A1 c1 l A2 n2 c2 A3 n3 c3 p q V HI.out)).mono ?_; rintro e w1 ⟨b, rfl, hb, hM, hB⟩; rw [vs] at hb; replace vT := vT.below (by omega) hB; replace v4 := v4.below (by omega) hB; replace v5 : Boxed w1 (w.heap.size + 3) 4 (.bool false) := Blk.below v5 (by omega) hB; have s1 := hB.size; rw [vs] at s1; replace vB := vB.trans (hB.mono vB.size); have t0 := vT.cell 0; have t1 := vT.cell 1; have t2 := vT.cell 2; have t3 := vT.cell 3; have t4 := vT.cell 4; have t5 := vT.cell 5; have t6 := vT.cell 6; have t7 := vT.cell 7; simp only [List.getElem?_toArray, List.getElem?_cons_zero, List.getElem?_cons_succ] at t0 t1 t2 t3 t4 t5 t6 t7; have HB := Aside0.mk hB; clear hB HI; have HM := Aside0.mk hM; clear hM; have H4 := Aside0.mk v4; clear v4; have HT := Aside0.mk vT; clear vT; have H5 := Aside0.mk v5; clear v5; have HB2 := Aside0.mk vB; clear vB; have sT : w.heap.size + 1 < w1.heap.size := by omega) | (refine ⟨trivial, ?_⟩; gi_at_call 59; refine (ladder_in Fence.wide _ trivial rfl _ _ _ _ _ _ _ _ _).mono ?_; rintro e w2 ⟨rfl, rfl⟩))
 have HVV := HV
 clear HV
 obtain ⟨W0, hW0⟩ : ∃ W0, (w1.alloc (.cells #[.map (some b)] 93)).alloc (.cells #[.string L, .slice E0 m0 d0, .string S, .string R, .slice E1 m1 d1, .slice E2 m2 d2, .slice E3 m3 d3, .string G] 44) = W0 := ⟨_, rfl⟩
 have B1 : Below w1.heap.size w1 W0 := by rw [← hW0]; exact below_alloc (below_alloc (Below.refl _ _) _) _
 have s0 : W0.heap.size = w1.heap.size + 2 := by rw [← hW0]; simp
 have bM : Blk W0 w1.heap.size #[.map (some b)] 93 := by rw [← hW0]; exact (Blk.new w1 _ _).alloc _
 have bL : Blk W0 (w1.heap.size + 1) #[.string L, .slice E0 m0 d0, .string S, .string R, .slice E1 m1 d1, .slice E2 m2 d2, .slice E3 m3 d3, .string G] 44 := by rw [← hW0]; have := Blk.new (w1.alloc (.cells #[.map (some b)] 93)) #[.string L, .slice E0 m0 d0, .string S, .string R, .slice E1 m1 d1, .slice E2 m2 d2, .slice E3 m3 d3, .string G] 44; rwa [World.size_alloc] at this
 have B0 : Below w.heap.size w W0 := HB2.out.trans (B1.mono HB2.out.size)
 have bT := HT.out.below (by omega) B1
 have b4 := H4.out.below (by omega) B1
 have b5 : Boxed W0 (w.heap.size + 3) 4 (.bool false) := Blk.below H5.out (by omega) B1
 have mM := HM.out.below B1
 rw [hW0]
 clear hW0 HB HM HT H4 H5 HB2 HVV t0 t1 t2 t3 t4 t5 t6 t7 B1
 refine wpIn_rangeFunc_ownH rfl (by omega) (gf := 66) (lb := #[.pointer (some ⟨w1.heap.size + 1, 0, none⟩)]) rfl trivial (enters_of Try.func66 (by kernel_rfl) rfl)
  (lad_stops Fence.wide _ trivial rfl (by omega) (w1.heap.size + 1) L S R W0 (bL.cell 0) (bL.cell 2) (bL.cell 3)) (fun h k => Kp.trans h k) (fun W lw o o' _ h h1 h2 => Kp.put W lw o o' h h1 h2) (Below.refl _ _) (fun _ => rfl)
  (fun pre W => (∀ y ∈ pre, rowOf l y = none) ∧ Below W0.heap.size W0 W)
  (fun c pre W => (∃ x, (c = .ret ∧ ∃ pr k, pre = pr ++ [k] ∧ (∀ y ∈ pr, rowOf l y = none) ∧ rowOf l k = some x) ∧ Blk W (w.heap.size + 2) #[.string (fillP x (L, S, R)).1, .slice E0 m0 d0, .string (fillP x (L, S, R)).2.1, .string (fillP x (L, S, R)).2.2, .slice E1 m1 d1, .slice E2 m2 d2, .slice E3 m3 d3, .string G] 44 ∧ Boxed W (w.heap.size + 3) 4 (.bool true)) ∧ Below w.heap.size w W)
  (OwnFrom.and (ownFrom_pure _ _) (ownFrom_below (Nat.le_refl _) (Nat.le_refl _)))
  (fun c => OwnFrom.and (fun s A B row ⟨x, h1, h2, h3⟩ hg hr => ⟨x, h1, blk_own (β := Unit) _ _ (fun _ => _) () A B row h2 hg (fun r e => (hr r e).2), boxed_own (β := Unit) _ _ (fun _ => _) () A B row h3 hg (fun r e => (hr r e).2)⟩) (ownFrom_below (Nat.le_refl _) (by omega)))
  ⟨by simp, Below.refl _ _⟩
  (fun x a' W => ∃ Bx, W0.heap.size ≤ Bx ∧ Blk W Bx #[.string x.1, .string x.2.1, .string x.2.2] 30 ∧ a' = { tmps := #[.agg #[.slice A0 n0 c0, .slice A1 l.length c1, .slice A2 n2 c2, .slice A3 n3 c3, .int .i64 p, .int .i64 q], .agg #[.string L, .slice E0 m0 d0, .string S, .string R, .slice E1 m1 d1, .slice E2 m2 d2, .slice E3 m3 d3, .string G], .pointer (some ⟨w.heap.size, 0, none⟩), .pointer (some ⟨w.heap.size + 1, 0, none⟩), .pointer (some ⟨w.heap.size + 1 + 1, 0, none⟩), .pointer (some ⟨w.heap.size + 1 + 1 + 1, 0, none⟩), .pointer (some ⟨w1.heap.size, 0, none⟩), .pointer (some ⟨Bx, 0, none⟩), undef, undef, undef, undef, .agg #[.slice A0 n0 c0, .slice A1 l.length c1, .slice A2 n2 c2, .slice A3 n3 c3, .int .i64 p, .int .i64 q], .map (some b), .agg #[.string L, .slice E0 m0 d0, .string S, .string R, .slice E1 m1 d1, .slice E2 m2 d2, .slice E3 m3 d3, .string G], .func (.func 66) #[] #[.pointer (some ⟨w1.heap.size + 1, 0, none⟩)], keyV x, undef, undef, undef, undef, undef, undef, undef, undef, undef, undef, undef, undef, undef, undef, undef, undef, undef, undef, undef, undef, undef, undef, undef, undef, undef, undef, undef, undef, undef, undef, undef, undef, undef, undef, undef, undef, undef, undef, undef, undef, undef], defers := [] })
  (fun x a' _ X Y row hs hg hr => by obtain ⟨Bx, e1, e2, e3⟩ := hs; exact ⟨Bx, e1, blk_own (β := Unit) _ _ (fun _ => _) () X Y row e2 hg (fun r e => (hr r e).2), e3⟩)
  ?assign ?body ?done ?stop
 case assign =>
  rintro lp pre x W K ⟨hp, hb1⟩ hK
  simp only [keyV]
  gi_wp2
  exact hK _ _ ((KeepsOthers.alloc _ _).from _) (Kp.alloc _ _) ⟨hp, hb1.alloc hb1.size _⟩ ⟨W.heap.size, hb1.size, Blk.new W _ _, rfl⟩
 case body =>
  rintro lp pre x a' W hl ⟨r, hr⟩ ⟨hp, hb1⟩ ⟨Bx, hBx, bX, rfl⟩ hlt
  simp only [keyV]
  have cM := (bM.below (by omega) hb1).cell 0
  have q0 := bX.cell 0
  have q1 := bX.cell 1
  have q2 := bX.cell 2
  simp only [List.getElem?_toArray, List.getElem?_cons_zero, List.getElem?_cons_succ] at cM q0 q1 q2
  have mW : MapIs W b (rowsP l []) := mM.below hb1
  have HMW := Aside0.mk mW
  have hf := find_rows x _ l rfl
  have HF := Aside0.mk hf
  have HX := Aside0.mk bX
  have HB1 := Aside0.mk hb1
  have HP := Aside0.mk hp
  have sW := hb1.size
  have HR := Aside0.mk hr
  clear mW hf bX hb1 hp hr
  cases hr : rowOf l x with
  | none =>
   rw [hr] at HF
   gi_wp2_with (gi_at_lookup; refine wpListIn_lookR lp rfl rfl _ _ 93 66 true rfl Try.underlying93 b rfl (rowsP l []) HMW.out x rfl _ (zero_lik _) ?_; rw [HF.out]; simp only [Option.map_none, Option.getD_none, Option.isSome_none, if_true, likV])
   exact ⟨(KeepsOthers.alloc _ _).from _, Kp.alloc _ _, fun y hy => (List.mem_append.1 hy).elim (HP.out y) (fun e => by simp at e; subst e; exact hr), HB1.out.alloc HB1.out.size _⟩
  | some y =>
   rw [hr] at HF
   have hr2 := Aside0.mk hr
   clear hr
   gi_wp2_with (gi_at_lookup; refine wpListIn_lookR lp rfl rfl _ _ 93 66 true rfl Try.underlying93 b rfl (rowsP l []) HMW.out x rfl _ (zero_lik _) ?_; rw [HF.out]; simp only [Option.map_some, Option.getD_some, Option.isSome_some, if_true, likV])
   have wT := bT.below (by omega) HB1.out
   have w4 := b4.below (by omega) HB1.out
   have w5 : Boxed W (w.heap.size + 3) 4 (.bool false) := Blk.below b5 (by omega) HB1.out
   have wB : Below w.heap.size w W := B0.trans (HB1.out.mono B0.size)
   clear q0 q1 q2 cM bM bL bT b4 b5 B0 mM HMW HX HF HR
   obtain ⟨W5, hW5⟩ : ∃ W5, (W.alloc (.cells #[.string y.f0, .string y.f1, .string y.f2, .string y.f3, .string y.f4, .string y.f5] 66)).alloc (.cells #[.pointer (some ⟨w.heap.size + 1, 0, none⟩), .string ⟨#[117, 110, 100]⟩, .string y.f3, .pointer (some ⟨w.heap.size + 1, 2, none⟩), .string ⟨#[]⟩, .string y.f4, .pointer (some ⟨w.heap.size + 1, 3, none⟩), .string ⟨#[]⟩, .string y.f5] 100) = W5 := ⟨_, rfl⟩
   have s5 : W5.heap.size = W.heap.size + 2 := by rw [← hW5]; simp
   have B5 : Below W.heap.size W W5 := by rw [← hW5]; exact below_alloc (below_alloc (Below.refl _ _) _) _
   have k5 : KeepsFrom W0.heap.size W W5 := by rw [← hW5]; exact ((KeepsOthers.alloc _ _).trans (KeepsOthers.alloc _ _)).from _
   have bS : Blk W5 (W.heap.size + 1) #[.pointer (some ⟨w.heap.size + 1, 0, none⟩), .string ⟨#[117, 110, 100]⟩, .string y.f3, .pointer (some ⟨w.heap.size + 1, 2, none⟩), .string ⟨#[]⟩, .string y.f4, .pointer (some ⟨w.heap.size + 1, 3, none⟩), .string ⟨#[]⟩, .string y.f5] 100 := by
    rw [← hW5]
    have := Blk.new (W.alloc (.cells #[.string y.f0, .string y.f1, .string y.f2, .string y.f3, .string y.f4, .string y.f5] 66)) #[.pointer (some ⟨w.heap.size + 1, 0, none⟩), .string ⟨#[117, 110, 100]⟩, .string y.f3, .pointer (some ⟨w.heap.size + 1, 2, none⟩), .string ⟨#[]⟩, .string y.f4, .pointer (some ⟨w.heap.size + 1, 3, none⟩), .string ⟨#[]⟩, .string y.f5] 100
    rwa [World.size_alloc] at this
   replace wT : Blk W5 (w.heap.size + 1) #[.string (tK y (L, S, R) 0).1, .slice E0 m0 d0, .string (tK y (L, S, R) 0).2.1, .string (tK y (L, S, R) 0).2.2, .slice E1 m1 d1, .slice E2 m2 d2, .slice E3 m3 d3, .string G] 44 := wT.below (by omega) B5
   replace w4 := w4.below (by omega) B5
   replace w5 : Boxed W5 (w.heap.size + 3) 4 (.bool false) := Blk.below w5 (by omega) B5
   replace wB : Below w.heap.size w W5 := wB.trans (B5.mono wB.size)
   rw [hW5]
   clear hW5 B5
   gi_loopw [39] (fun i wr => ∃ k : Nat, k ≤ 3 ∧ i = .int .i64 (k : Int) ∧ Aside0 (Blk wr (w.heap.size + 1) #[.string (tK y (L, S, R) k).1, .slice E0 m0 d0, .string (tK y (L, S, R) k).2.1, .string (tK y (L, S, R) k).2.2, .slice E1 m1 d1, .slice E2 m2 d2, .slice E3 m3 d3, .string G] 44) ∧ Aside0 (Blk wr (W.heap.size + 1) #[.pointer (some ⟨w.heap.size + 1, 0, none⟩), .string ⟨#[117, 110, 100]⟩, .string y.f3, .pointer (some ⟨w.heap.size + 1, 2, none⟩), .string ⟨#[]⟩, .string y.f4, .pointer (some ⟨w.heap.size + 1, 3, none⟩), .string ⟨#[]⟩, .string y.f5] 100) ∧ Aside0 (Blk wr (w.heap.size + 2) #[.string ⟨#[]⟩, .slice none 0 0, .string ⟨#[]⟩, .string ⟨#[]⟩, .slice none 0 0, .slice none 0 0, .slice none 0 0, .string ⟨#[]⟩] 44) ∧ Aside0 (Boxed wr (w.heap.size + 3) 4 (.bool false)) ∧ Aside0 (Below w.heap.size w wr) ∧ Aside0 (KeepsFrom W0.heap.size W wr)) (fun i _ => 3 - (intOf i).toNat)
   case atStart => exact ⟨0, by omega, rfl, ⟨wT⟩, ⟨bS⟩, ⟨w4⟩, ⟨w5⟩, ⟨wB⟩, ⟨k5⟩⟩
   case round =>
    clear wT bS w4 w5 wB k5
    obtain ⟨k, hk, rfl, hT, hS, h4, h5, hB, hKF⟩ := hrel
    have hs := hKF.out.1
    by_cases hlt3 : k < 3
    · have t0 := hT.out.cell 0
      have t2 := hT.out.cell 2
      have t3 := hT.out.cell 3
      have e0 := hS.out.cell 0
      have e1 := hS.out.cell 1
      have e2 := hS.out.cell 2
      have e3 := hS.out.cell 3
      have e4 := hS.out.cell 4
      have e5 := hS.out.cell 5
      have e6 := hS.out.cell 6
      have e7 := hS.out.cell 7
      have e8 := hS.out.cell 8
      simp only [List.getElem?_toArray, List.getElem?_cons_zero, List.getElem?_cons_succ] at t0 t2 t3 e0 e1 e2 e3 e4 e5 e6 e7 e8
      have sS := hS.out.lt
      have sT2 : w.heap.size + 1 < wr.heap.size := hT.out.lt
      obtain rfl | rfl | rfl : k = 0 ∨ k = 1 ∨ k = 2 := by omega
      · simp only [tK] at t0 t2 t3
        simp only [Nat.le_refl, reduceIte, show ¬(1 ≤ 0) by omega, show ¬(2 ≤ 0) by omega, show ¬(3 ≤ 0) by omega, show ¬(2 ≤ 1) by omega, show ¬(3 ≤ 1) by omega, show ¬(3 ≤ 2) by omega, show 1 ≤ 2 by omega] at t0 t2 t3
        have f0 := blk_frozen hT.out 0
        by_cases hu : L = undB
        · have g0 : (L.toList == [117, 110, 100]) = true := by rw [hu, ByteArray.toList_eq]; rfl
          have e : (#[.string (tK y (L, S, R) 1).1, .slice E0 m0 d0, .string (tK y (L, S, R) 1).2.1, .string (tK y (L, S, R) 1).2.2, .slice E1 m1 d1, .slice E2 m2 d2, .slice E3 m3 d3, .string G] : Array Value) = (#[.string (tK y (L, S, R) 0).1, .slice E0 m0 d0, .string (tK y (L, S, R) 0).2.1, .string (tK y (L, S, R) 0).2.2, .slice E1 m1 d1, .slice E2 m2 d2, .slice E3 m3 d3, .string G] : Array Value).set! 0 (.string y.f3) := by simp [tK, fillP, hu]
          have E := Aside0.mk e
          clear e hu
          gi_wp2
          gi_region_elder_o
          all_goals gi_wp2
          all_goals go_roundw
          all_goals first
           | (case measure => simp [intOf])
           | (case rel =>
            refine ⟨1, by omega, rfl, ⟨?_⟩, ⟨?_⟩, ⟨?_⟩, ⟨?_⟩, ⟨?_⟩, ⟨?_⟩⟩
            · rw [E.out]; exact Blk.alloc (hT.out.set 0 _) _
            · exact Blk.alloc (hS.out.other (by omega) _ _) _
            · exact Blk.alloc (h4.out.other (by omega) _ _) _
            · exact Blk.alloc (Blk.other h5.out (by omega) _ _) _
            · exact ((hB.out.setCell (p := ⟨w.heap.size + 1, 0, none⟩) (by simp) _).alloc (by have := hB.out.size; simpa using this) _).drew
            · exact hKF.out.trans (((KeepsOthers.setCell _ _ _).trans ((KeepsOthers.alloc _ _).trans (KeepsOthers.drew _))).from _))
        · have g0 : (L.toList == [117, 110, 100]) = false := by first | (rw [beq_eq_false_iff_ne]; intro e; apply hu; rw [ByteArray.toList_eq] at e; exact ByteArray.ext (Array.toList_inj.1 (by rw [e]; rfl))) | (rw [List.isEmpty_eq_false_iff]; intro e; apply hu; rw [ByteArray.toList_eq] at e; exact ByteArray.ext (Array.toList_inj.1 (by rw [e]; rfl)))
          have e : (#[.string (tK y (L, S, R) 1).1, .slice E0 m0 d0, .string (tK y (L, S, R) 1).2.1, .string (tK y (L, S, R) 1).2.2, .slice E1 m1 d1, .slice E2 m2 d2, .slice E3 m3 d3, .string G] : Array Value) = #[.string (tK y (L, S, R) 0).1, .slice E0 m0 d0, .string (tK y (L, S, R) 0).2.1, .string (tK y (L, S, R) 0).2.2, .slice E1 m1 d1, .slice E2 m2 d2, .slice E3 m3 d3, .string G] := by simp [tK, fillP, hu]
          have E := Aside0.mk e
          clear e hu
          gi_wp2
          gi_region_elder_o
          all_goals gi_wp2
          all_goals go_roundw
          all_goals first
           | (case measure => simp [intOf])
           | (case rel =>
            refine ⟨1, by omega, rfl, ⟨?_⟩, ⟨?_⟩, ⟨?_⟩, ⟨?_⟩, ⟨?_⟩, ⟨?_⟩⟩
            · rw [E.out]; exact Blk.alloc hT.out _
            · exact Blk.alloc hS.out _
            · exact Blk.alloc h4.out _
            · exact Blk.alloc h5.out _
            · exact (hB.out.alloc hB.out.size _).drew
            · exact hKF.out.trans (((KeepsOthers.alloc _ _).trans (KeepsOthers.drew _)).from _))
      · simp only [tK] at t0 t2 t3
        simp only [Nat.le_refl, reduceIte, show ¬(1 ≤ 0) by omega, show ¬(2 ≤ 0) by omega, show ¬(3 ≤ 0) by omega, show ¬(2 ≤ 1) by omega, show ¬(3 ≤ 1) by omega, show ¬(3 ≤ 2) by omega, show 1 ≤ 2 by omega] at t0 t2 t3
        have f0 := blk_frozen hT.out 2
        by_cases hu : S = empS
        · have g0 : S.toList.isEmpty = true := by rw [hu, ByteArray.toList_eq]; rfl
          have g1 : (S.toList == []) = true := by rw [hu, ByteArray.toList_eq]; rfl
          have e : (#[.string (tK y (L, S, R) 2).1, .slice E0 m0 d0, .string (tK y (L, S, R) 2).2.1, .string (tK y (L, S, R) 2).2.2, .slice E1 m1 d1, .slice E2 m2 d2, .slice E3 m3 d3, .string G] : Array Value) = (#[.string (tK y (L, S, R) 1).1, .slice E0 m0 d0, .string (tK y (L, S, R) 1).2.1, .string (tK y (L, S, R) 1).2.2, .slice E1 m1 d1, .slice E2 m2 d2, .slice E3 m3 d3, .string G] : Array Value).set! 2 (.string y.f4) := by simp [tK, fillP, hu]
          have E := Aside0.mk e
          clear e hu
          gi_wp2
          gi_region_elder_o
          all_goals gi_wp2
          all_goals go_roundw
          all_goals first
           | (case measure => simp [intOf])
           | (case rel =>
            refine ⟨2, by omega, rfl, ⟨?_⟩, ⟨?_⟩, ⟨?_⟩, ⟨?_⟩, ⟨?_⟩, ⟨?_⟩⟩
            · rw [E.out]; exact Blk.alloc (hT.out.set 2 _) _
            · exact Blk.alloc (hS.out.other (by omega) _ _) _
            · exact Blk.alloc (h4.out.other (by omega) _ _) _
            · exact Blk.alloc (Blk.other h5.out (by omega) _ _) _
            · exact ((hB.out.setCell (p := ⟨w.heap.size + 1, 2, none⟩) (by simp) _).alloc (by have := hB.out.size; simpa using this) _).drew
            · exact hKF.out.trans (((KeepsOthers.setCell _ _ _).trans ((KeepsOthers.alloc _ _).trans (KeepsOthers.drew _))).from _))
        · have g0 : S.toList.isEmpty = false := by first | (rw [beq_eq_false_iff_ne]; intro e; apply hu; rw [ByteArray.toList_eq] at e; exact ByteArray.ext (Array.toList_inj.1 (by rw [e]; rfl))) | (rw [List.isEmpty_eq_false_iff]; intro e; apply hu; rw [ByteArray.toList_eq] at e; exact ByteArray.ext (Array.toList_inj.1 (by rw [e]; rfl)))
          have g1 : (S.toList == []) = false := by first | (rw [beq_eq_false_iff_ne]; intro e; apply hu; rw [ByteArray.toList_eq] at e; exact ByteArray.ext (Array.toList_inj.1 (by rw [e]; rfl))) | (rw [List.isEmpty_eq_false_iff]; intro e; apply hu; rw [ByteArray.toList_eq] at e; exact ByteArray.ext (Array.toList_inj.1 (by rw [e]; rfl)))
          have e : (#[.string (tK y (L, S, R) 2).1, .slice E0 m0 d0, .string (tK y (L, S, R) 2).2.1, .string (tK y (L, S, R) 2).2.2, .slice E1 m1 d1, .slice E2 m2 d2, .slice E3 m3 d3, .string G] : Array Value) = #[.string (tK y (L, S, R) 1).1, .slice E0 m0 d0, .string (tK y (L, S, R) 1).2.1, .string (tK y (L, S, R) 1).2.2, .slice E1 m1 d1, .slice E2 m2 d2, .slice E3 m3 d3, .string G] := by simp [tK, fillP, hu]
          have E := Aside0.mk e
          clear e hu
          gi_wp2
          gi_region_elder_o
          all_goals gi_wp2
          all_goals go_roundw
          all_goals first
           | (case measure => simp [intOf])
           | (case rel =>
            refine ⟨2, by omega, rfl, ⟨?_⟩, ⟨?_⟩, ⟨?_⟩, ⟨?_⟩, ⟨?_⟩, ⟨?_⟩⟩
            · rw [E.out]; exact Blk.alloc hT.out _
            · exact Blk.alloc hS.out _
            · exact Blk.alloc h4.out _
            · exact Blk.alloc h5.out _
            · exact (hB.out.alloc hB.out.size _).drew
            · exact hKF.out.trans (((KeepsOthers.alloc _ _).trans (KeepsOthers.drew _)).from _))
      · simp only [tK] at t0 t2 t3
        simp only [Nat.le_refl, reduceIte, show ¬(1 ≤ 0) by omega, show ¬(2 ≤ 0) by omega, show ¬(3 ≤ 0) by omega, show ¬(2 ≤ 1) by omega, show ¬(3 ≤ 1) by omega, show ¬(3 ≤ 2) by omega, show 1 ≤ 2 by omega] at t0 t2 t3
        have f0 := blk_frozen hT.out 3
        by_cases hu : R = empS
        · have g0 : R.toList.isEmpty = true := by rw [hu, ByteArray.toList_eq]; rfl
          have g1 : (R.toList == []) = true := by rw [hu, ByteArray.toList_eq]; rfl
          have e : (#[.string (tK y (L, S, R) 3).1, .slice E0 m0 d0, .string (tK y (L, S, R) 3).2.1, .string (tK y (L, S, R) 3).2.2, .slice E1 m1 d1, .slice E2 m2 d2, .slice E3 m3 d3, .string G] : Array Value) = (#[.string (tK y (L, S, R) 2).1, .slice E0 m0 d0, .string (tK y (L, S, R) 2).2.1, .string (tK y (L, S, R) 2).2.2, .slice E1 m1 d1, .slice E2 m2 d2, .slice E3 m3 d3, .string G] : Array Value).set! 3 (.string y.f5) := by simp [tK, fillP, hu]
          have E := Aside0.mk e
          clear e hu
          gi_wp2
          gi_region_elder_o
          all_goals gi_wp2
          all_goals go_roundw
          all_goals first
           | (case measure => simp [intOf])
           | (case rel =>
            refine ⟨3, by omega, rfl, ⟨?_⟩, ⟨?_⟩, ⟨?_⟩, ⟨?_⟩, ⟨?_⟩, ⟨?_⟩⟩
            · rw [E.out]; exact Blk.alloc (hT.out.set 3 _) _
            · exact Blk.alloc (hS.out.other (by omega) _ _) _
            · exact Blk.alloc (h4.out.other (by omega) _ _) _
            · exact Blk.alloc (Blk.other h5.out (by omega) _ _) _
            · exact ((hB.out.setCell (p := ⟨w.heap.size + 1, 3, none⟩) (by simp) _).alloc (by have := hB.out.size; simpa using this) _).drew
            · exact hKF.out.trans (((KeepsOthers.setCell _ _ _).trans ((KeepsOthers.alloc _ _).trans (KeepsOthers.drew _))).from _))
        · have g0 : R.toList.isEmpty = false := by first | (rw [beq_eq_false_iff_ne]; intro e; apply hu; rw [ByteArray.toList_eq] at e; exact ByteArray.ext (Array.toList_inj.1 (by rw [e]; rfl))) | (rw [List.isEmpty_eq_false_iff]; intro e; apply hu; rw [ByteArray.toList_eq] at e; exact ByteArray.ext (Array.toList_inj.1 (by rw [e]; rfl)))
          have g1 : (R.toList == []) = false := by first | (rw [beq_eq_false_iff_ne]; intro e; apply hu; rw [ByteArray.toList_eq] at e; exact ByteArray.ext (Array.toList_inj.1 (by rw [e]; rfl))) | (rw [List.isEmpty_eq_false_iff]; intro e; apply hu; rw [ByteArray.toList_eq] at e; exact ByteArray.ext (Array.toList_inj.1 (by rw [e]; rfl)))
          have e : (#[.string (tK y (L, S, R) 3).1, .slice E0 m0 d0, .string (tK y (L, S, R) 3).2.1, .string (tK y (L, S, R) 3).2.2, .slice E1 m1 d1, .slice E2 m2 d2, .slice E3 m3 d3, .string G] : Array Value) = #[.string (tK y (L, S, R) 2).1, .slice E0 m0 d0, .string (tK y (L, S, R) 2).2.1, .string (tK y (L, S, R) 2).2.2, .slice E1 m1 d1, .slice E2 m2 d2, .slice E3 m3 d3, .string G] := by simp [tK, fillP, hu]
          have E := Aside0.mk e
          clear e hu
          gi_wp2
          gi_region_elder_o
          all_goals gi_wp2
          all_goals go_roundw
          all_goals first
           | (case measure => simp [intOf])
           | (case rel =>
            refine ⟨3, by omega, rfl, ⟨?_⟩, ⟨?_⟩, ⟨?_⟩, ⟨?_⟩, ⟨?_⟩, ⟨?_⟩⟩
            · rw [E.out]; exact Blk.alloc hT.out _
            · exact Blk.alloc hS.out _
            · exact Blk.alloc h4.out _
            · exact Blk.alloc h5.out _
            · exact (hB.out.alloc hB.out.size _).drew
            · exact hKF.out.trans (((KeepsOthers.alloc _ _).trans (KeepsOthers.drew _)).from _))
    · obtain rfl : k = 3 := by omega
      have hTT : Blk wr (w.heap.size + 1) #[.string (fillP y (L, S, R)).1, .slice E0 m0 d0, .string (fillP y (L, S, R)).2.1, .string (fillP y (L, S, R)).2.2, .slice E1 m1 d1, .slice E2 m2 d2, .slice E3 m3 d3, .string G] 44 := hT.out
      have dd : decide (((3 : Nat) : Int) < 3) = false := by decide
      have t0 := hTT.cell 0
      have t1 := hTT.cell 1
      have t2 := hTT.cell 2
      have t3 := hTT.cell 3
      have t4 := hTT.cell 4
      have t5 := hTT.cell 5
      have t6 := hTT.cell 6
      have t7 := hTT.cell 7
      simp only [List.getElem?_toArray, List.getElem?_cons_zero, List.getElem?_cons_succ] at t0 t1 t2 t3 t4 t5 t6 t7
      have h44 : Blk wr (w.heap.size + 1 + 1) #[.string ⟨#[]⟩, .slice none 0 0, .string ⟨#[]⟩, .string ⟨#[]⟩, .slice none 0 0, .slice none 0 0, .slice none 0 0, .string ⟨#[]⟩] 44 := h4.out
      have h55 : Boxed wr (w.heap.size + 1 + 1 + 1) 4 (.bool false) := h5.out
      have f0 := blk_frozen h44 0
      have r0 := h44.cell 0
      have f1 := blk_frozen h44 1
      have r1 := h44.cell 1
      have f2 := blk_frozen h44 2
      have r2 := h44.cell 2
      have f3 := blk_frozen h44 3
      have r3 := h44.cell 3
      have f4 := blk_frozen h44 4
      have r4 := h44.cell 4
      have f5 := blk_frozen h44 5
      have r5 := h44.cell 5
      have f6 := blk_frozen h44 6
      have r6 := h44.cell 6
      have f7 := blk_frozen h44 7
      have r7 := h44.cell 7
      simp only [List.getElem?_toArray, List.getElem?_cons_zero, List.getElem?_cons_succ] at r0 r1 r2 r3 r4 r5 r6 r7
      have f8 := h55.frozen
      have r8 := h55.cell
      have s4 := h44.lt
      have s5b := h55.lt
      have H44 := Aside0.mk h44
      have H55 := Aside0.mk h55
      clear hTT h44 h55
      gi_wp2
      refine ⟨hKF.out.trans ((((((((((KeepsOthers.setCell _ _ _).trans (KeepsOthers.setCell _ _ _)).trans (KeepsOthers.setCell _ _ _)).trans (KeepsOthers.setCell _ _ _)).trans (KeepsOthers.setCell _ _ _)).trans (KeepsOthers.setCell _ _ _)).trans (KeepsOthers.setCell _ _ _)).trans (KeepsOthers.setCell _ _ _)).trans (KeepsOthers.setCell _ _ _)).from _), ⟨y, ⟨rfl, pre, x, rfl, HP.out, hr2.out⟩, ?_, ?_⟩, ?_⟩
      · have := Blk.other (Blk.set (Blk.set (Blk.set (Blk.set (Blk.set (Blk.set (Blk.set (Blk.set H44.out 0 (.string (fillP y (L, S, R)).1)) 1 (.slice E0 m0 d0)) 2 (.string (fillP y (L, S, R)).2.1)) 3 (.string (fillP y (L, S, R)).2.2)) 4 (.slice E1 m1 d1)) 5 (.slice E2 m2 d2)) 6 (.slice E3 m3 d3)) 7 (.string G)) (show w.heap.size + 1 + 1 ≠ w.heap.size + 1 + 1 + 1 by omega) 0 (.bool true)
        simpa using this
      · refine Boxed.set (v := .bool false) _ ?_
        exact Blk.other (Blk.other (Blk.other (Blk.other (Blk.other (Blk.other (Blk.other (Blk.other H55.out (by omega) _ _) (by omega) _ _) (by omega) _ _) (by omega) _ _) (by omega) _ _) (by omega) _ _) (by omega) _ _) (by omega) _ _
      · exact (((((((((hB.out.setCell (p := ⟨w.heap.size + 1 + 1, 0, none⟩) (show w.heap.size ≤ w.heap.size + 1 + 1 by omega) _).setCell (p := ⟨w.heap.size + 1 + 1, 1, none⟩) (show w.heap.size ≤ w.heap.size + 1 + 1 by omega) _).setCell (p := ⟨w.heap.size + 1 + 1, 2, none⟩) (show w.heap.size ≤ w.heap.size + 1 + 1 by omega) _).setCell (p := ⟨w.heap.size + 1 + 1, 3, none⟩) (show w.heap.size ≤ w.heap.size + 1 + 1 by omega) _).setCell (p := ⟨w.heap.size + 1 + 1, 4, none⟩) (show w.heap.size ≤ w.heap.size + 1 + 1 by omega) _).setCell (p := ⟨w.heap.size + 1 + 1, 5, none⟩) (show w.heap.size ≤ w.heap.size + 1 + 1 by omega) _).setCell (p := ⟨w.heap.size + 1 + 1, 6, none⟩) (show w.heap.size ≤ w.heap.size + 1 + 1 by omega) _).setCell (p := ⟨w.heap.size + 1 + 1, 7, none⟩) (show w.heap.size ≤ w.heap.size + 1 + 1 by omega) _).setCell (p := ⟨w.heap.size + 1 + 1 + 1, 0, none⟩) (show w.heap.size ≤ w.heap.size + 1 + 1 + 1 by omega) _)
 case done =>
  rintro D zs W hD rfl ⟨hp, hb1⟩ hK
  have h44 : Blk W (w.heap.size + 1 + 1) #[.string ⟨#[]⟩, .slice none 0 0, .string ⟨#[]⟩, .string ⟨#[]⟩, .slice none 0 0, .slice none 0 0, .slice none 0 0, .string ⟨#[]⟩] 44 := b4.below (by omega) hb1
  have h55 : Boxed W (w.heap.size + 1 + 1 + 1) 4 (.bool false) := Blk.below b5 (by omega) hb1
  have hTT := bT.below (by omega) hb1
  have hBB : Below w.heap.size w W := B0.trans (hb1.mono B0.size)
  have t0 := hTT.cell 0
  have f0 := blk_frozen h44 0
  have r0 := h44.cell 0
  have t1 := hTT.cell 1
  have f1 := blk_frozen h44 1
  have r1 := h44.cell 1
  have t2 := hTT.cell 2
  have f2 := blk_frozen h44 2
  have r2 := h44.cell 2
  have t3 := hTT.cell 3
  have f3 := blk_frozen h44 3
  have r3 := h44.cell 3
  have t4 := hTT.cell 4
  have f4 := blk_frozen h44 4
  have r4 := h44.cell 4
  have t5 := hTT.cell 5
  have f5 := blk_frozen h44 5
  have r5 := h44.cell 5
  have t6 := hTT.cell 6
  have f6 := blk_frozen h44 6
  have r6 := h44.cell 6
  have t7 := hTT.cell 7
  have f7 := blk_frozen h44 7
  have r7 := h44.cell 7
  simp only [List.getElem?_toArray, List.getElem?_cons_zero, List.getElem?_cons_succ] at r0 r1 r2 r3 r4 r5 r6 r7 t0 t1 t2 t3 t4 t5 t6 t7
  have f8 := h55.frozen
  have r8 := h55.cell
  have s4 := h44.lt
  have s5b := h55.lt
  have H44 := Aside0.mk h44
  have H55 := Aside0.mk h55
  have HP := Aside0.mk hp
  have HBB := Aside0.mk hBB
  have HK := Aside0.mk hK
  clear hTT h44 h55 hp hBB hb1 hK bT bL bM b4 b5 mM B0
  gi_wp2
  obtain ⟨X, hX⟩ : ∃ X, X = (((((((((W.setCell ⟨w.heap.size + 1 + 1, 0, none⟩ (.string L)).setCell ⟨w.heap.size + 1 + 1, 1, none⟩ (.slice E0 m0 d0)).setCell ⟨w.heap.size + 1 + 1, 2, none⟩ (.string S)).setCell ⟨w.heap.size + 1 + 1, 3, none⟩ (.string R)).setCell ⟨w.heap.size + 1 + 1, 4, none⟩ (.slice E1 m1 d1)).setCell ⟨w.heap.size + 1 + 1, 5, none⟩ (.slice E2 m2 d2)).setCell ⟨w.heap.size + 1 + 1, 6, none⟩ (.slice E3 m3 d3)).setCell ⟨w.heap.size + 1 + 1, 7, none⟩ (.string G)).setCell ⟨w.heap.size + 1 + 1 + 1, 0, none⟩ (.bool false)) := ⟨_, rfl⟩
  have x4 : Blk X (w.heap.size + 1 + 1) #[.string L, .slice E0 m0 d0, .string S, .string R, .slice E1 m1 d1, .slice E2 m2 d2, .slice E3 m3 d3, .string G] 44 := by
   have := Blk.other (Blk.set (Blk.set (Blk.set (Blk.set (Blk.set (Blk.set (Blk.set (Blk.set H44.out 0 (.string L)) 1 (.slice E0 m0 d0)) 2 (.string S)) 3 (.string R)) 4 (.slice E1 m1 d1)) 5 (.slice E2 m2 d2)) 6 (.slice E3 m3 d3)) 7 (.string G)) (show w.heap.size + 1 + 1 ≠ w.heap.size + 1 + 1 + 1 by omega) 0 (.bool false)
   rw [hX]
   simpa using this
  have x5 : Boxed X (w.heap.size + 1 + 1 + 1) 4 (.bool false) := by
   rw [hX]
   refine Boxed.set (v := .bool false) _ ?_
   exact Blk.other (Blk.other (Blk.other (Blk.other (Blk.other (Blk.other (Blk.other (Blk.other H55.out (by omega) _ _) (by omega) _ _) (by omega) _ _) (by omega) _ _) (by omega) _ _) (by omega) _ _) (by omega) _ _) (by omega) _ _
  have xK : X.heap[D]? = some (.deferred (some [])) := by rw [hX]; exact ((((((((((KeepsOthers.setCell _ _ _).trans (KeepsOthers.setCell _ _ _)).trans (KeepsOthers.setCell _ _ _)).trans (KeepsOthers.setCell _ _ _)).trans (KeepsOthers.setCell _ _ _)).trans (KeepsOthers.setCell _ _ _)).trans (KeepsOthers.setCell _ _ _)).trans (KeepsOthers.setCell _ _ _)).trans (KeepsOthers.setCell _ _ _))).same D _ HK.out rfl
  have xB : Below w.heap.size w X := by rw [hX]; exact (((((((((HBB.out.setCell (p := ⟨w.heap.size + 1 + 1, 0, none⟩) (show w.heap.size ≤ w.heap.size + 1 + 1 by omega) _).setCell (p := ⟨w.heap.size + 1 + 1, 1, none⟩) (show w.heap.size ≤ w.heap.size + 1 + 1 by omega) _).setCell (p := ⟨w.heap.size + 1 + 1, 2, none⟩) (show w.heap.size ≤ w.heap.size + 1 + 1 by omega) _).setCell (p := ⟨w.heap.size + 1 + 1, 3, none⟩) (show w.heap.size ≤ w.heap.size + 1 + 1 by omega) _).setCell (p := ⟨w.heap.size + 1 + 1, 4, none⟩) (show w.heap.size ≤ w.heap.size + 1 + 1 by omega) _).setCell (p := ⟨w.heap.size + 1 + 1, 5, none⟩) (show w.heap.size ≤ w.heap.size + 1 + 1 by omega) _).setCell (p := ⟨w.heap.size + 1 + 1, 6, none⟩) (show w.heap.size ≤ w.heap.size + 1 + 1 by omega) _).setCell (p := ⟨w.heap.size + 1 + 1, 7, none⟩) (show w.heap.size ≤ w.heap.size + 1 + 1 by omega) _).setCell (p := ⟨w.heap.size + 1 + 1 + 1, 0, none⟩) (show w.heap.size ≤ w.heap.size + 1 + 1 + 1 by omega) _)
  rw [← hX]
  clear hX r0 r1 r2 r3 r4 r5 r6 r7 r8
  refine ⟨by simp, .inl ⟨_, _, rfl, run_takeDeferred xK, ?_⟩⟩
  have y0 := cell_kept (x4.cell 0) (grownBy_putObj' _ D (.deferred none)) (fun r e => by cases e; exact ⟨_, xK, rfl⟩)
  have y1 := cell_kept (x4.cell 1) (grownBy_putObj' _ D (.deferred none)) (fun r e => by cases e; exact ⟨_, xK, rfl⟩)
  have y2 := cell_kept (x4.cell 2) (grownBy_putObj' _ D (.deferred none)) (fun r e => by cases e; exact ⟨_, xK, rfl⟩)
  have y3 := cell_kept (x4.cell 3) (grownBy_putObj' _ D (.deferred none)) (fun r e => by cases e; exact ⟨_, xK, rfl⟩)
  have y4 := cell_kept (x4.cell 4) (grownBy_putObj' _ D (.deferred none)) (fun r e => by cases e; exact ⟨_, xK, rfl⟩)
  have y5 := cell_kept (x4.cell 5) (grownBy_putObj' _ D (.deferred none)) (fun r e => by cases e; exact ⟨_, xK, rfl⟩)
  have y6 := cell_kept (x4.cell 6) (grownBy_putObj' _ D (.deferred none)) (fun r e => by cases e; exact ⟨_, xK, rfl⟩)
  have y7 := cell_kept (x4.cell 7) (grownBy_putObj' _ D (.deferred none)) (fun r e => by cases e; exact ⟨_, xK, rfl⟩)
  have y8 := cell_kept x5.cell (grownBy_putObj' _ D (.deferred none)) (fun r e => by cases e; exact ⟨_, xK, rfl⟩)
  refine ⟨.tuple #[.agg #[.string L, .slice E0 m0 d0, .string S, .string R, .slice E1 m1 d1, .slice E2 m2 d2, .slice E3 m3 d3, .string G], .bool false], ?_, ?_, xB.trans (belowK_b (w := w) (Nat.le_refl _) _ D _ _ (by omega) xK rfl rfl)⟩
  · simp [results, Try.f52, go_sem, hu44, y0, y1, y2, y3, y4, y5, y6, y7, y8]
  · rw [max_none l L S R HP.out]
 case stop =>
  rintro D c pre W hD hpre ⟨⟨x, ⟨rfl, pr, k, rfl, hn, hk⟩, x4, x5⟩, xB⟩ xK
  replace x4 : Blk W (w.heap.size + 1 + 1) #[.string (fillP x (L, S, R)).1, .slice E0 m0 d0, .string (fillP x (L, S, R)).2.1, .string (fillP x (L, S, R)).2.2, .slice E1 m1 d1, .slice E2 m2 d2, .slice E3 m3 d3, .string G] 44 := x4
  replace x5 : Boxed W (w.heap.size + 1 + 1 + 1) 4 (.bool true) := x5
  gi_wp2
  refine ⟨by simp, .inl ⟨_, _, rfl, run_takeDeferred xK, ?_⟩⟩
  have y0 := cell_kept (x4.cell 0) (grownBy_putObj' _ D (.deferred none)) (fun r e => by cases e; exact ⟨_, xK, rfl⟩)
  have y1 := cell_kept (x4.cell 1) (grownBy_putObj' _ D (.deferred none)) (fun r e => by cases e; exact ⟨_, xK, rfl⟩)
  have y2 := cell_kept (x4.cell 2) (grownBy_putObj' _ D (.deferred none)) (fun r e => by cases e; exact ⟨_, xK, rfl⟩)
  have y3 := cell_kept (x4.cell 3) (grownBy_putObj' _ D (.deferred none)) (fun r e => by cases e; exact ⟨_, xK, rfl⟩)
  have y4 := cell_kept (x4.cell 4) (grownBy_putObj' _ D (.deferred none)) (fun r e => by cases e; exact ⟨_, xK, rfl⟩)
  have y5 := cell_kept (x4.cell 5) (grownBy_putObj' _ D (.deferred none)) (fun r e => by cases e; exact ⟨_, xK, rfl⟩)
  have y6 := cell_kept (x4.cell 6) (grownBy_putObj' _ D (.deferred none)) (fun r e => by cases e; exact ⟨_, xK, rfl⟩)
  have y7 := cell_kept (x4.cell 7) (grownBy_putObj' _ D (.deferred none)) (fun r e => by cases e; exact ⟨_, xK, rfl⟩)
  have y8 := cell_kept x5.cell (grownBy_putObj' _ D (.deferred none)) (fun r e => by cases e; exact ⟨_, xK, rfl⟩)
  refine ⟨.tuple #[.agg #[.string (fillP x (L, S, R)).1, .slice E0 m0 d0, .string (fillP x (L, S, R)).2.1, .string (fillP x (L, S, R)).2.2, .slice E1 m1 d1, .slice E2 m2 d2, .slice E3 m3 d3, .string G], .bool true], ?_, ?_, xB.trans (belowK_b (w := w) (Nat.le_refl _) _ D _ _ (by omega) xK rfl rfl)⟩
  · simp [results, Try.f52, go_sem, hu44, y0, y1, y2, y3, y4, y5, y6, y7, y8]
  · rw [max_some l L S R pr k x hpre hn hk]
end Go.Proofs.Ytdjbanhoejegjaa.LikW
