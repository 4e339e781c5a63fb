/- Made by a program of this seat's own (shake.py, merge.py): what the claim leans on: HeapP, Canon, Case, Split, Trim, Seq, All, Trace. -/
import Derived.Test.YtpmcfckechjppaaGreatDoorTa13
import Derived.Laws.EntriesVeiled
import Derived.Handy
import Derived.LoopN
namespace Go.Proofs.YtpmcfckechjppaaGreatDoor.Ps
open Go.RowKit Go.Shelf Go.Proofs.YtpmcfckechjppaaGreatDoorW.PrintWords Go.Proofs.YtpmcfckechjppaaGreatDoorW.PrintLast Go.Proofs.YtpmcfckechjppaaGreatDoorW.PrintMore Go.Proofs.YtpmcfckechjppaaGreatDoor.P Go.Proofs.YtpmcfckechjppaaGreatDoor.LikW
set_option linter.unusedVariables false
set_option linter.unusedSimpArgs false
set_option maxRecDepth 100000
set_option maxHeartbeats 8000000
theorem meth_Len (p : Nat) (W : World) (v : Value) (h : W.cell? ⟨p, 0, none⟩ = some v) : (method 496 312 (.pointer (some ⟨p, 0, none⟩)) "Len").run Tryz.prog W = .ok (395, v) W := by
 have e : (method 496 312 (.pointer (some ⟨p, 0, none⟩)) "Len").run Tryz.prog W = (Sem.load .plain ⟨p, 0, none⟩ (fun v => Sem.pure (395, v))).run Tryz.prog W := by kernel_rfl
 rw [e]
 simp [Sem.run, h]
theorem meth_Less (p : Nat) (W : World) (v : Value) (h : W.cell? ⟨p, 0, none⟩ = some v) : (method 496 312 (.pointer (some ⟨p, 0, none⟩)) "Less").run Tryz.prog W = .ok (396, v) W := by
 have e : (method 496 312 (.pointer (some ⟨p, 0, none⟩)) "Less").run Tryz.prog W = (Sem.load .plain ⟨p, 0, none⟩ (fun v => Sem.pure (396, v))).run Tryz.prog W := by kernel_rfl
 rw [e]
 simp [Sem.run, h]
theorem meth_Swap (p : Nat) (W : World) (v : Value) (h : W.cell? ⟨p, 0, none⟩ = some v) : (method 496 312 (.pointer (some ⟨p, 0, none⟩)) "Swap").run Tryz.prog W = .ok (399, v) W := by
 have e : (method 496 312 (.pointer (some ⟨p, 0, none⟩)) "Swap").run Tryz.prog W = (Sem.load .plain ⟨p, 0, none⟩ (fun v => Sem.pure (399, v))).run Tryz.prog W := by kernel_rfl
 rw [e]
 simp [Sem.run, h]
theorem up0_c (h : Value) (w : World) : Calls Tryz.prog 342 #[h, .int .i64 0] w fun e w' => (∃ x, e = .returned x) ∧ w' = w := by
 go_enter Tryz.func342, Tryz.ntmps342
 go_wp2
 refine wp_loop_once ?_
 go_wp2
 go_end0
 exact ⟨⟨_, rfl⟩, rfl⟩
theorem up1_c (p b c : Nat) (a0 a1 a2 b0 b1 b2 : Int) (hv : b2 < a2) (w : World) (hp : w.cell? ⟨p, 0, none⟩ = some (.slice (some ⟨b, 0, none⟩) 2 c)) (hc : w.cell? ⟨b, 0, none⟩ = some (.int .i64 b0) ∧ w.cell? ⟨b, 1, none⟩ = some (.int .i64 b1) ∧ w.cell? ⟨b, 2, none⟩ = some (.int .i64 b2) ∧ w.cell? ⟨b, 3, none⟩ = some (.int .i64 a0) ∧ w.cell? ⟨b, 4, none⟩ = some (.int .i64 a1) ∧ w.cell? ⟨b, 5, none⟩ = some (.int .i64 a2)) :
 Calls Tryz.prog 342 #[.iface 312 (.pointer (some ⟨p, 0, none⟩)), .int .i64 1] w fun e w' => (∃ x, e = .returned x) ∧ Below w.heap.size w w' := by
 have HC := Aside0.mk hc
 have hm := meth_Less p w _ hp
 clear hc
 go_enter Tryz.func342, Tryz.ntmps342
 go_wp2
 refine wp_loop_once ?_
 go_wp2_with (first
  | (go_at_call 396; refine (less_no b c a0 a1 a2 b0 b1 b2 hv _ HC.out).mono ?_; rintro e w1 ⟨rfl, hB⟩))
 go_end0
 exact ⟨⟨_, rfl⟩, hB⟩
theorem two_at {W : World} {base : Nat} {v : Value} {b0 b1 b2 a0 a1 a2 : Int} (h : W.ownsRow base 247 3 v 2 ([(b0, b1, b2), (a0, a1, a2)].flatMap enc3)) : ∃ b c cur, v = .slice (some ⟨b, 0, none⟩) 2 c ∧ 2 ≤ c ∧ base ≤ b ∧ W.heap[b]? = some (.cells cur 247 (0, 0)) ∧ cur.toList.take 6 = [.int .i64 b0, .int .i64 b1, .int .i64 b2, .int .i64 a0, .int .i64 a1, .int .i64 a2] ∧
 (W.cell? ⟨b, 0, none⟩ = some (.int .i64 b0) ∧ W.cell? ⟨b, 1, none⟩ = some (.int .i64 b1) ∧ W.cell? ⟨b, 2, none⟩ = some (.int .i64 b2) ∧ W.cell? ⟨b, 3, none⟩ = some (.int .i64 a0) ∧ W.cell? ⟨b, 4, none⟩ = some (.int .i64 a1) ∧ W.cell? ⟨b, 5, none⟩ = some (.int .i64 a2)) := by
 obtain ⟨hl, ⟨e, e0⟩ | ⟨g, cap, cur, e, h1, h2, h3, h4, h5, h6⟩⟩ := h
 · omega
 · subst e
   have h6' : cur.toList.take 6 = [.int .i64 b0, .int .i64 b1, .int .i64 b2, .int .i64 a0, .int .i64 a1, .int .i64 a2] := h6
   have hk : ∀ (j : Nat) (u : Value), j < 6 → ([.int .i64 b0, .int .i64 b1, .int .i64 b2, .int .i64 a0, .int .i64 a1, .int .i64 a2] : List Value)[j]? = some u → W.cell? ⟨g, j, none⟩ = some u := fun j u hj hu => by
    rw [← h6', List.getElem?_take, if_pos hj, Array.getElem?_toList] at hu
    exact (blk_cell h2 j).trans hu
   exact ⟨g, cap, cur, rfl, h3, h1, h2, h6', hk 0 _ (by decide) rfl, hk 1 _ (by decide) rfl, hk 2 _ (by decide) rfl, hk 3 _ (by decide) rfl, hk 4 _ (by decide) rfl, hk 5 _ (by decide) rfl⟩
theorem push1_c (base p : Nat) (v : Value) (m0 m1 m2 : Int) (w0 w : World) (hB : Below base w0 w) (hb : base ≤ p) (hq : PQ w base p v []) :
 Calls Tryz.prog 324 #[.iface 312 (.pointer (some ⟨p, 0, none⟩)), .iface 247 (.agg #[.int .i64 m0, .int .i64 m1, .int .i64 m2])] w fun e w' => (∃ x, e = .returned x) ∧ ∃ v', PQ w' base p v' [(m0, m1, m2)] ∧ Below base w0 w' ∧ KeepBut w w' p v.ownBlock ∧ (v'.ownBlock = v.ownBlock ∨ ∃ b, v'.ownBlock = some b ∧ w.heap.size ≤ b) := by
 have HQ := Aside0.mk hq
 have HB := Aside0.mk hB
 clear hq hB
 go_enter Tryz.func324, Tryz.ntmps324
 go_wp2_with (first
  | (go_at_call 398; refine (pushM_c base p v [] m0 m1 m2 (by simp) w0 _ HB.out hb HQ.out).mono ?_; rintro e w1 ⟨⟨x, rfl⟩, v1, hq, hb1, hk, ho⟩; have Q1 := Aside0.mk hq; have B1 := Aside0.mk hb1; have K1 := Aside0.mk hk; have O1 := Aside0.mk ho; obtain ⟨A1, c1, rfl⟩ := own_slice hq.2; have z1 := meth_Len p w1 _ ((blk_cell hq.1 0).trans rfl); clear hq hb1 hk ho)
  | (go_at_call 395; refine (len_c _ _ _ _).mono ?_; rintro e w2 ⟨rfl, rfl⟩)
  | (go_at_call 342; refine (up0_c _ _).mono ?_; rintro e w2 ⟨⟨x, rfl⟩, rfl⟩))
 go_end0
 exact ⟨⟨_, rfl⟩, _, Q1.out, B1.out, K1.out, O1.out⟩
theorem push2_c (base p : Nat) (v : Value) (b0 b1 b2 m0 m1 m2 : Int) (hv : b2 < m2) (w0 w : World) (hB : Below base w0 w) (hb : base ≤ p) (hq : PQ w base p v [(b0, b1, b2)]) :
 Calls Tryz.prog 324 #[.iface 312 (.pointer (some ⟨p, 0, none⟩)), .iface 247 (.agg #[.int .i64 m0, .int .i64 m1, .int .i64 m2])] w fun e w' => (∃ x, e = .returned x) ∧ ∃ v', PQ w' base p v' [(b0, b1, b2), (m0, m1, m2)] ∧ Below base w0 w' ∧ KeepBut w w' p v.ownBlock ∧ (v'.ownBlock = v.ownBlock ∨ ∃ b, v'.ownBlock = some b ∧ w.heap.size ≤ b) := by
 have HQ := Aside0.mk hq
 have HB := Aside0.mk hB
 clear hq hB
 go_enter Tryz.func324, Tryz.ntmps324
 go_wp2_with (first
  | (go_at_call 398; refine (pushM_c base p v [(b0, b1, b2)] m0 m1 m2 (by simp) w0 _ HB.out hb HQ.out).mono ?_; rintro e w1 ⟨⟨x, rfl⟩, v1, hq, hb1, hk, ho⟩; have Q1 := Aside0.mk hq; have B1 := Aside0.mk hb1; have K1 := Aside0.mk hk; have O1 := Aside0.mk ho; obtain ⟨bb, c1, cur, rfl, hc1, -, -, -, h6⟩ := two_at hq.2; have H6 := Aside0.mk h6; have P1 := Aside0.mk ((blk_cell hq.1 0).trans rfl); have z1 := meth_Len p w1 _ ((blk_cell hq.1 0).trans rfl); clear hq hb1 hk ho h6)
  | (go_at_call 395; refine (len_c _ _ _ _).mono ?_; rintro e w2 ⟨rfl, hw2⟩; rw [hw2]; clear hw2)
  | (go_at_call 342; refine (up1_c p bb c1 m0 m1 m2 b0 b1 b2 hv _ P1.out H6.out).mono ?_; rintro e w3 ⟨⟨x, rfl⟩, hb3⟩))
 go_end0
 have hq := Q1.out
 exact ⟨⟨_, rfl⟩, _, ⟨(hb3.block _ (lt_blk hq.1)).trans hq.1, pw_own_below hq.2 hb3⟩, B1.out.trans (hb3.mono (by have := lt_blk hq.1; omega)), ⟨Nat.le_trans K1.out.1 hb3.size, fun k hk n1 n2 => (hb3.block k (Nat.lt_of_lt_of_le hk K1.out.1)).trans (K1.out.2 k hk n1 n2)⟩, O1.out⟩
theorem down1_c (h : Value) (w : World) : Calls Tryz.prog 325 #[h, .int .i64 0, .int .i64 1] w fun e w' => e = .returned (.bool false) ∧ w' = w := by
 go_enter Tryz.func325, Tryz.ntmps325
 go_wp2
 refine wp_loop_once ?_
 go_wp2
 go_ret
 exact ⟨rfl, rfl⟩
theorem pop2_c (base p : Nat) (v : Value) (b0 b1 b2 m0 m1 m2 : Int) (w0 w : World) (hB : Below base w0 w) (hb : base ≤ p) (hq : PQ w base p v [(b0, b1, b2), (m0, m1, m2)]) :
 Calls Tryz.prog 305 #[.iface 312 (.pointer (some ⟨p, 0, none⟩))] w fun e w' => e = .returned (.iface 247 (.agg #[.int .i64 b0, .int .i64 b1, .int .i64 b2])) ∧ Below base w0 w' := by
 obtain ⟨bb, c1, cur, rfl, hc1, hbb, hcur, h6, hx⟩ := two_at hq.2
 have hbp : bb ≠ p := fun e => own_ne hq.2 hq.1 (by decide) (by rw [← e]; rfl)
 have HQ := Aside0.mk hq.1
 have HB := Aside0.mk hB
 have HC := Aside0.mk hcur
 have H6 := Aside0.mk h6
 have HP := Aside0.mk hbp
 have HBB := Aside0.mk hbb
 have z1 := meth_Len p w _ ((blk_cell hq.1 0).trans rfl)
 have z2 := meth_Swap p w _ ((blk_cell hq.1 0).trans rfl)
 clear hq hB hcur h6 hx hbp
 go_enter Tryz.func305, Tryz.ntmps305
 go_wp2_with (first
  | (go_at_call 395; refine (len_c _ _ _ _).mono ?_; rintro e w2 ⟨rfl, hw2⟩; rw [hw2]; clear hw2)
  | (go_at_call 399; refine (swapM_c bb c1 cur m0 m1 m2 b0 b1 b2 _ HC.out H6.out).mono ?_; rintro e w3 ⟨⟨x, rfl⟩, hs, hp⟩; have P3 := Aside0.mk ((hp.far _ HP.out.symm).trans HQ.out); have B3 := Aside0.mk (hp.below HB.out HBB.out); have c3 := (blk_cell hs 3).trans rfl; have c4 := (blk_cell hs 4).trans rfl; have c5 := (blk_cell hs 5).trans rfl; clear hs hp)
  | (go_at_call 325; refine (down1_c _ _).mono ?_; rintro e w4 ⟨rfl, hw4⟩; rw [hw4]; clear hw4)
  | (go_at_call 397; refine (popM_c base p bb c1 b0 b1 b2 w0 _ B3.out hb hc1 P3.out HP.out c3 c4 c5).mono ?_; rintro e w5 ⟨rfl, hb5⟩))
 go_ret
 exact ⟨rfl, hb5⟩
theorem cloneE_nil (w : World) : Calls Tryz.prog 258 #[.slice none 0 0] w fun e w' => e = .returned (.slice none 0 0) ∧ w' = w := by
 have he : ∀ W : World, (binOp BinOp.eql 31 (.slice none 0 0) (.slice none 0 0)).run Tryz.prog W = .ok (.bool true) W := fun W => by kernel_rfl
 go_enter Tryz.func258, Tryz.ntmps258
 go_wp2
 go_ret
 exact ⟨rfl, rfl⟩
theorem insertE_nil (g : Value) (k : Int) (hk : 0 ≤ k) (w : World) : Calls Tryz.prog 301 #[.slice none 0 0, .int .i64 0, .int .i64 0, g] w fun e w' => (∃ v, e = .returned v) ∧ w' = w := by
 go_enter Tryz.func301, Tryz.ntmps301
 go_wp2
 refine wp_loop_once ?_
 go_wp2
 go_end0
 exact ⟨⟨_, rfl⟩, rfl⟩
theorem stableE_nil (g : Value) (w : World) : Calls Tryz.prog 261 #[.slice none 0 0, .int .i64 0, g] w fun e w' => (∃ v, e = .returned v) ∧ w' = w := by
 go_enter Tryz.func261, Tryz.ntmps261
 go_wp2
 refine wp_loop_once ?_
 go_wp2_with (first | (go_at_call 301; refine (insertE_nil _ 0 (by decide) _).mono ?_; rintro e w' ⟨⟨v, rfl⟩, rfl⟩))
 refine wp_loop_once ?_
 go_wp2
 go_end0
 exact ⟨⟨_, rfl⟩, rfl⟩
theorem sortE_nil (g : Value) (w : World) : Calls Tryz.prog 213 #[.slice none 0 0, g] w fun e w' => (∃ v, e = .returned v) ∧ w' = w := by
 go_enter Tryz.func213, Tryz.ntmps213
 go_wp2_with (first | (go_at_call 261; refine (stableE_nil _ _).mono ?_; rintro e w' ⟨⟨v, rfl⟩, rfl⟩))
 go_end0
 exact ⟨⟨_, rfl⟩, rfl⟩
theorem clone_c (x y z : ByteArray) (w : World) : Calls Tryz.prog 211 #[T3 x y z] w fun e w' => e = .returned (T3 x y z) ∧ Below w.heap.size w w' := by
 have hut := Tryz.underlying33
 unfold T3
 go_enter Tryz.func211, Tryz.ntmps211
 go_wp2
 obtain ⟨W0, hW0⟩ : ∃ W0, W0 = ((w.alloc (.cells (T3c x y z) 33)).alloc (.cells (T3c ⟨#[]⟩ ⟨#[]⟩ ⟨#[]⟩) 33)) := ⟨_, rfl⟩
 have KT : Aside0 (W0.heap[w.heap.size]? = some (.cells (T3c x y z) 33 (0, 0))) := ⟨by rw [hW0]; exact aN (aZ rfl)⟩
 have KZ : Aside0 (W0.heap[w.heap.size + 1]? = some (.cells (T3c ⟨#[]⟩ ⟨#[]⟩ ⟨#[]⟩) 33 (0, 0))) := ⟨by rw [hW0]; exact aZ (by simp)⟩
 have KB : Aside0 (Below w.heap.size w W0) := ⟨by rw [hW0]; exact below_alloc (below_alloc (Below.refl _ _) _) _⟩
 unfold T3c at hW0 KT
 try rw [← hW0]
 clear hW0
 refine start_ (n := 20) (S := fun w' => w'.cell? ⟨w.heap.size, 1, none⟩ = some (.slice none 0 0) ∧ w'.cell? ⟨w.heap.size, 4, none⟩ = some (.slice none 0 0) ∧ w'.cell? ⟨w.heap.size, 5, none⟩ = some (.slice none 0 0) ∧ w'.cell? ⟨w.heap.size, 6, none⟩ = some (.slice none 0 0)) (ds := []) (M 20 0) (by kernel_rfl) rfl rfl ⟨(blk_cell (w := W0.drew) KT.out 1).trans rfl, (blk_cell (w := W0.drew) KT.out 4).trans rfl, (blk_cell (w := W0.drew) KT.out 5).trans rfl, (blk_cell (w := W0.drew) KT.out 6).trans rfl⟩ (fun hHeld => ?_)
 obtain ⟨W1, hW1⟩ : ∃ W1, W1 = W0.drew := ⟨_, rfl⟩
 rw [← hW1] at hHeld ⊢
 replace KT := dwK KT hW1
 replace KZ := dwK KZ hW1
 replace KB : Aside0 (Below w.heap.size w W1) := by rw [hW1]; exact ⟨below_drew1 KB.out⟩
 clear hW1
 refine pw 0 5 (M 20 1) ?_
 refine pw 3 8 (M 20 9) ?_
 refine pw 6 11 (M 20 73) ?_
 refine pw 9 14 (M 20 585) ?_
 refine tw 1 6 (M 20 587) hHeld ?_
 refine tw 4 9 (M 20 603) hHeld ?_
 refine tw 7 12 (M 20 731) hHeld ?_
 refine tw 10 15 (M 20 1755) hHeld ?_
 refine ow 2 (some 7) (M 20 1759) fun K hK => ?_
 refine gow Tryz.func244 #[.slice none 0 0] ?_
 refine (Tryz.slices_Clone_string_nil 0 0 _).mono ?_
 rintro e W3 ⟨rfl, rfl⟩
 refine ⟨_, rfl, ?_⟩
 refine hK.out _ _ ⟨(blk_cell KT.out 1).trans rfl, (blk_cell KT.out 4).trans rfl, (blk_cell KT.out 5).trans rfl, (blk_cell KT.out 6).trans rfl⟩ (fun hHeld => ?_)
 clear hK K
 refine norm_ (a' := ?_) ?_ ?_
 rotate_left
 · show Act.put _ (some 7) _ = _
   simp only [Act.put, List.setIfInBounds_toArray, List.set_cons_zero, List.set_cons_succ, i64_w, i32_w]
   rfl
 refine pw 12 17 (M 20 5855) ?_
 refine ow 5 (some 10) (M 20 5887) fun K hK => ?_
 refine gow Tryz.func244 #[.slice none 0 0] ?_
 refine (Tryz.slices_Clone_string_nil 0 0 _).mono ?_
 rintro e W3 ⟨rfl, rfl⟩
 refine ⟨_, rfl, ?_⟩
 refine hK.out _ _ ⟨(blk_cell KT.out 1).trans rfl, (blk_cell KT.out 4).trans rfl, (blk_cell KT.out 5).trans rfl, (blk_cell KT.out 6).trans rfl⟩ (fun hHeld => ?_)
 clear hK K
 refine norm_ (a' := ?_) ?_ ?_
 rotate_left
 · show Act.put _ (some 10) _ = _
   simp only [Act.put, List.setIfInBounds_toArray, List.set_cons_zero, List.set_cons_succ, i64_w, i32_w]
   rfl
 refine ow 8 (some 13) (M 20 6143) fun K hK => ?_
 refine gow Tryz.func244 #[.slice none 0 0] ?_
 refine (Tryz.slices_Clone_string_nil 0 0 _).mono ?_
 rintro e W3 ⟨rfl, rfl⟩
 refine ⟨_, rfl, ?_⟩
 refine hK.out _ _ ⟨(blk_cell KT.out 1).trans rfl, (blk_cell KT.out 4).trans rfl, (blk_cell KT.out 5).trans rfl, (blk_cell KT.out 6).trans rfl⟩ (fun hHeld => ?_)
 clear hK K
 refine norm_ (a' := ?_) ?_ ?_
 rotate_left
 · show Act.put _ (some 13) _ = _
   simp only [Act.put, List.setIfInBounds_toArray, List.set_cons_zero, List.set_cons_succ, i64_w, i32_w]
   rfl
 refine ow 11 (some 16) (M 20 8191) fun K hK => ?_
 refine gow Tryz.func258 #[.slice none 0 0] ?_
 refine (cloneE_nil _).mono ?_
 rintro e W3 ⟨rfl, rfl⟩
 refine ⟨_, rfl, ?_⟩
 refine hK.out _ _ ⟨(blk_cell KT.out 1).trans rfl, (blk_cell KT.out 4).trans rfl, (blk_cell KT.out 5).trans rfl, (blk_cell KT.out 6).trans rfl⟩ (fun hHeld => ?_)
 clear hK K
 refine norm_ (a' := ?_) ?_ ?_
 rotate_left
 · show Act.put _ (some 16) _ = _
   simp only [Act.put, List.setIfInBounds_toArray, List.set_cons_zero, List.set_cons_succ, i64_w, i32_w]
   rfl
 refine ow 13 (none) (M 20 16383) fun K hK => ?_
 refine put_step (g := w.heap.size) (off := 1) (cur := #[.string x, .slice none 0 0, .string y, .string z, .slice none 0 0, .slice none 0 0, .slice none 0 0, .string ⟨#[]⟩]) (new := #[.string x, .slice none 0 0, .string y, .string z, .slice none 0 0, .slice none 0 0, .slice none 0 0, .string ⟨#[]⟩]) (seg := [.slice none 0 0]) (u := .slice none 0 0) rfl rfl rfl rfl rfl rfl (by rfl) (by kernel_rfl) rfl rfl (Nat.le_of_ble_eq_true rfl) KT.out ?_
 intro W3 hk hp
 replace KZ := kp KZ hp (by omega)
 replace KB := bp KB hp (Nat.le_refl _)
 replace KT := Aside0.mk hk
 clear hk hp
 refine hK.out _ _ ⟨(blk_cell KT.out 1).trans rfl, (blk_cell KT.out 4).trans rfl, (blk_cell KT.out 5).trans rfl, (blk_cell KT.out 6).trans rfl⟩ (fun hHeld => ?_)
 clear hK K
 refine pw 14 18 (M 20 32767) ?_
 refine ow 15 (none) (M 20 65535) fun K hK => ?_
 refine put_step (g := w.heap.size) (off := 4) (cur := #[.string x, .slice none 0 0, .string y, .string z, .slice none 0 0, .slice none 0 0, .slice none 0 0, .string ⟨#[]⟩]) (new := #[.string x, .slice none 0 0, .string y, .string z, .slice none 0 0, .slice none 0 0, .slice none 0 0, .string ⟨#[]⟩]) (seg := [.slice none 0 0]) (u := .slice none 0 0) rfl rfl rfl rfl rfl rfl (by rfl) (by kernel_rfl) rfl rfl (Nat.le_of_ble_eq_true rfl) KT.out ?_
 intro W3 hk hp
 replace KZ := kp KZ hp (by omega)
 replace KB := bp KB hp (Nat.le_refl _)
 replace KT := Aside0.mk hk
 clear hk hp
 refine hK.out _ _ ⟨(blk_cell KT.out 1).trans rfl, (blk_cell KT.out 4).trans rfl, (blk_cell KT.out 5).trans rfl, (blk_cell KT.out 6).trans rfl⟩ (fun hHeld => ?_)
 clear hK K
 refine pw 16 19 (M 20 131071) ?_
 refine ow 17 (none) (M 20 262143) fun K hK => ?_
 refine put_step (g := w.heap.size) (off := 6) (cur := #[.string x, .slice none 0 0, .string y, .string z, .slice none 0 0, .slice none 0 0, .slice none 0 0, .string ⟨#[]⟩]) (new := #[.string x, .slice none 0 0, .string y, .string z, .slice none 0 0, .slice none 0 0, .slice none 0 0, .string ⟨#[]⟩]) (seg := [.slice none 0 0]) (u := .slice none 0 0) rfl rfl rfl rfl rfl rfl (by rfl) (by kernel_rfl) rfl rfl (Nat.le_of_ble_eq_true rfl) KT.out ?_
 intro W3 hk hp
 replace KZ := kp KZ hp (by omega)
 replace KB := bp KB hp (Nat.le_refl _)
 replace KT := Aside0.mk hk
 clear hk hp
 refine hK.out _ _ ⟨(blk_cell KT.out 1).trans rfl, (blk_cell KT.out 4).trans rfl, (blk_cell KT.out 5).trans rfl, (blk_cell KT.out 6).trans rfl⟩ (fun hHeld => ?_)
 clear hK K
 refine pw 18 20 (M 20 524287) ?_
 refine ow 19 (none) (M 20 1048575) fun K hK => ?_
 refine put_step (g := w.heap.size) (off := 5) (cur := #[.string x, .slice none 0 0, .string y, .string z, .slice none 0 0, .slice none 0 0, .slice none 0 0, .string ⟨#[]⟩]) (new := #[.string x, .slice none 0 0, .string y, .string z, .slice none 0 0, .slice none 0 0, .slice none 0 0, .string ⟨#[]⟩]) (seg := [.slice none 0 0]) (u := .slice none 0 0) rfl rfl rfl rfl rfl rfl (by rfl) (by kernel_rfl) rfl rfl (Nat.le_of_ble_eq_true rfl) KT.out ?_
 intro W3 hk hp
 replace KZ := kp KZ hp (by omega)
 replace KB := bp KB hp (Nat.le_refl _)
 replace KT := Aside0.mk hk
 clear hk hp
 refine hK.out _ _ ⟨(blk_cell KT.out 1).trans rfl, (blk_cell KT.out 4).trans rfl, (blk_cell KT.out 5).trans rfl, (blk_cell KT.out 6).trans rfl⟩ (fun hHeld => ?_)
 clear hK K
 refine done_ (by kernel_rfl) ?_
 obtain ⟨z0, z1, z2, z3, z4, z5, z6, z7⟩ := cz8t KT.out
 go_wp2
 refine wp_loop_once ?_
 obtain ⟨y0, y1, y2, y3, y4, y5, y6, y7⟩ := cz8t KZ.out
 obtain ⟨f0, f1, f2, f3, f4, f5, f6, f7⟩ := fz8t KZ.out
 go_wp2
 rw [putTag_eq]
 obtain ⟨c0, c1, c2, c3, c4, c5, c6, c7⟩ := cz8t (put_tag KZ.out x y z)
 refine bodyPost_ret (v := .agg #[.string x, .slice none 0 0, .string y, .string z, .slice none 0 0, .slice none 0 0, .slice none 0 0, .string ⟨#[]⟩]) ?_ rfl ⟨rfl, putTag_below KB.out (by omega) _ _ _⟩
 simp [results, Tryz.results211, asAddr, c0, c1, c2, c3, c4, c5, c6, c7, hut, go_sem]
theorem order_c (x y z : ByteArray) (w : World) : Calls Tryz.prog 163 #[T3 x y z] w fun e w' => e = .returned (T3 x y z) ∧ Below w.heap.size w w' := by
 have hut := Tryz.underlying33
 have hm : ∀ W : World, (Instr.makeMap 238 none).run Tryz.prog W = .ok (.map (some W.heap.size)) (W.alloc (.map #[] 0)) := fun W => run_makeMap_plain W _
 obtain ⟨W0, hW0⟩ : ∃ W0, W0 = ((w.alloc (.cells (T3c x y z) 33)).alloc (.cells (T3c ⟨#[]⟩ ⟨#[]⟩ ⟨#[]⟩) 33)) := ⟨_, rfl⟩
 have K0 : W0.heap[w.heap.size]? = some (.cells (T3c x y z) 33 (0, 0)) := by rw [hW0]; exact aN (aZ rfl)
 have Z0 : W0.heap[w.heap.size + 1]? = some (.cells (T3c ⟨#[]⟩ ⟨#[]⟩ ⟨#[]⟩) 33 (0, 0)) := by rw [hW0]; exact aZ (by simp)
 have B0 : Below w.heap.size w W0 := by rw [hW0]; exact below_alloc (below_alloc (Below.refl _ _) _) _
 have s0 : W0.heap.size = w.heap.size + 1 + 1 := by rw [hW0]; simp
 have h0 : (W0.alloc (.map #[] 0)).heap[W0.heap.size]? = some (.map #[] 0) := World.alloc_heap_new _ _
 have B1 : Below W0.heap.size W0 (W0.alloc (.map #[] 0)) := (Below.refl _ _).alloc (Nat.le_refl _) _
 obtain ⟨W1, u1, h1, B1, q1, -⟩ := step_updG (b := W0.heap.size) Tryz.underlying238 Tryz.underlying9 h0 B1 (Nat.le_refl _) (.string ⟨#[117]⟩) (.func (.func 203) #[] #[]) (by simp [MapKept.IsKey]) rfl
 obtain ⟨W2, u2, h2, B2, q2, -⟩ := step_updG (b := W0.heap.size) Tryz.underlying238 Tryz.underlying9 h1 B1 (Nat.le_refl _) (.string ⟨#[116]⟩) (.func (.func 207) #[] #[]) (by simp [MapKept.IsKey]) rfl
 have KT : Aside0 (W2.heap[w.heap.size]? = some (.cells (T3c x y z) 33 (0, 0))) := ⟨(B2.block _ (by omega)).trans K0⟩
 have KZ : Aside0 (W2.heap[w.heap.size + 1]? = some (.cells (T3c ⟨#[]⟩ ⟨#[]⟩ ⟨#[]⟩) 33 (0, 0))) := ⟨(B2.block _ (by omega)).trans Z0⟩
 have KB : Aside0 (Below w.heap.size w W2) := ⟨B0.trans (B2.mono B0.size)⟩
 obtain ⟨z0, z1, z2, z3, z4, z5, z6, z7⟩ := cz8t KT.out
 unfold T3c at hW0
 have HW := Aside0.mk hW0
 clear hW0 K0 Z0 B0 s0 h0 h1 B1 h2 B2 q1 q2
 unfold T3
 go_enter Tryz.func163, Tryz.ntmps163
 go_wp2_with (first
  | (rw [← HW.out])
  | (go_at_call 211; refine (clone_c x y z _).mono ?_; rintro e w3 ⟨rfl, hB⟩; unfold T3; have K3 := kb KT hB; have Z3 := kb KZ hB; have B3 := bb KB hB; clear z0 z1 z2 z3 z4 z5 z6 z7 hB; obtain ⟨z0, z1, z2, z3, z4, z5, z6, z7⟩ := cz8t K3.out; obtain ⟨f0, f1, f2, f3, f4, f5, f6, f7⟩ := fz8t K3.out)
  | (go_at_call 212; rw [putTag_eq]; obtain ⟨W4, hW4⟩ : ∃ W4, W4 = putTag w3 w.heap.size x y z := ⟨_, rfl⟩; have K4 : Aside0 (W4.heap[w.heap.size]? = some (.cells (T3c x y z) 33 (0, 0))) := ⟨by rw [hW4]; exact put_tag K3.out x y z⟩; have Z4 : Aside0 (W4.heap[w.heap.size + 1]? = some (.cells (T3c ⟨#[]⟩ ⟨#[]⟩ ⟨#[]⟩) 33 (0, 0))) := ⟨by rw [hW4]; exact (putTag_far x y z (by omega)).trans Z3.out⟩; have B4 : Aside0 (Below w.heap.size w W4) := ⟨by rw [hW4]; exact putTag_below B3.out (Nat.le_refl _) x y z⟩; rw [← hW4]; clear hW4 z0 z1 z2 z3 z4 z5 z6 z7 f0 f1 f2 f3 f4 f5 f6 f7; obtain ⟨z0, z1, z2, z3, z4, z5, z6, z7⟩ := cz8t K4.out; refine (Tryz.slices_Sort_string_none none 0 _).mono ?_; rintro e w5 ⟨rfl, rfl⟩)
  | (go_at_call 213; refine (sortE_nil _ _).mono ?_; rintro e w6 ⟨⟨v, rfl⟩, rfl⟩))
 refine wp_loop_once ?_
 obtain ⟨y0, y1, y2, y3, y4, y5, y6, y7⟩ := cz8t Z4.out
 obtain ⟨f0, f1, f2, f3, f4, f5, f6, f7⟩ := fz8t Z4.out
 go_wp2
 rw [putTag_eq]
 obtain ⟨c0, c1, c2, c3, c4, c5, c6, c7⟩ := cz8t (put_tag Z4.out x y z)
 refine bodyPost_ret (v := .agg #[.string x, .slice none 0 0, .string y, .string z, .slice none 0 0, .slice none 0 0, .slice none 0 0, .string ⟨#[]⟩]) ?_ rfl ⟨rfl, putTag_below B4.out (by omega) _ _ _⟩
 simp [results, Tryz.results163, asAddr, c0, c1, c2, c3, c4, c5, c6, c7, hut, go_sem]
end Go.Proofs.YtpmcfckechjppaaGreatDoor.Ps
namespace Go.Proofs.YtpmcfckechjppaaGreatDoor.Ps
open Go.RowKit Go.Shelf Go.Proofs.YtpmcfckechjppaaGreatDoorW.PrintWords Go.Proofs.YtpmcfckechjppaaGreatDoorW.PrintLast Go.Proofs.YtpmcfckechjppaaGreatDoorW.PrintMore Go.Proofs.YtpmcfckechjppaaGreatDoor.P Go.Proofs.YtpmcfckechjppaaGreatDoor.LikW
attribute [local go_sem] Oper.semAt_some
set_option linter.unusedVariables false
set_option linter.unusedSimpArgs false
set_option maxRecDepth 100000
set_option maxHeartbeats 8000000
def caseStep (st : Bool × List ByteArray) (x : Int × ByteArray) : Option (Bool × List ByteArray) :=
 (ascii_Lower.f x.2).bind fun low =>
  if (decide (0 < x.1) && !(st.1 || ((x.2.size : Int) == 1))) = true then
   (if (low.size : Int) = 2 then (ascii_Upper.f low).bind fun u => some (st.1 || ((x.2.size : Int) == 1), st.2 ++ [u])
    else if (low.size : Int) = 4 then (ascii_Title.f low).bind fun u => some (st.1 || ((x.2.size : Int) == 1), st.2 ++ [u])
    else some (st.1 || ((x.2.size : Int) == 1), st.2 ++ [low]))
  else some (st.1 || ((x.2.size : Int) == 1), st.2 ++ [low])
def caseL : List (Int × ByteArray) → Bool × List ByteArray → Option (Bool × List ByteArray)
 | [], st => some st
 | x :: l, st => (caseStep st x).bind (caseL l)
theorem caseL_snoc : ∀ (l : List (Int × ByteArray)) (x : Int × ByteArray) (st st' : Bool × List ByteArray), caseL l st = some st' → caseL (l ++ [x]) st = caseStep st' x
 | [], x, st, st', h => by cases h; simp only [List.nil_append, caseL]; cases caseStep st x <;> rfl
 | y :: l, x, st, st', h => by
  simp only [caseL, List.cons_append] at h ⊢
  obtain ⟨s2, h2, h⟩ := Option.bind_eq_some_iff.1 h
  rw [h2, Option.bind_some]
  exact caseL_snoc l x s2 st' h
def caseOk (x : Int × ByteArray) : Bool := match ascii_Lower.f x.2 with | some q => (ascii_Upper.f q).isSome && (ascii_Title.f q).isSome | none => false
theorem caseOk_mem {l : List (Int × ByteArray)} (h : l.all caseOk = true) {x : Int × ByteArray} (hx : x ∈ l) : ∃ q u y, ascii_Lower.f x.2 = some q ∧ ascii_Upper.f q = some u ∧ ascii_Title.f q = some y := by
 have := List.all_eq_true.1 h x hx
 unfold caseOk at this
 split at this
 · rename_i q hq
   simp only [Bool.and_eq_true, Option.isSome_iff_exists] at this
   obtain ⟨⟨u, hu⟩, y, hy⟩ := this
   exact ⟨q, u, y, hq, hu, hy⟩
 · cases this
theorem caseStep_len {st st' : Bool × List ByteArray} {x : Int × ByteArray} (h : caseStep st x = some st') : st'.2.length = st.2.length + 1 := by
 unfold caseStep at h
 obtain ⟨low, _, h⟩ := Option.bind_eq_some_iff.1 h
 split at h
 · split at h
   · obtain ⟨_, _, h⟩ := Option.bind_eq_some_iff.1 h; cases h; simp
   · split at h
     · obtain ⟨_, _, h⟩ := Option.bind_eq_some_iff.1 h; cases h; simp
     · cases h; simp
 · cases h; simp
theorem caseL_len : ∀ (l : List (Int × ByteArray)) (st : Bool × List ByteArray) (a : Bool) (b : List ByteArray), caseL l st = some (a, b) → b.length = st.2.length + l.length
 | [], st, a, b, h => by cases h; simp
 | x :: l, st, a, b, h => by
  unfold caseL at h
  obtain ⟨s2, h2, h⟩ := Option.bind_eq_some_iff.1 h
  have := caseL_len l s2 a b h
  have := caseStep_len h2
  simp
  omega
def casesE : Array MapEntry := #[{ key := .int .i64 2, val := .func (.func 76) #[] #[], born := 0 }, { key := .int .i64 4, val := .func (.func 77) #[] #[], born := 1 }]
def casesV (k : Int) : Value := if k = 2 then .func (.func 76) #[] #[] else if k = 4 then .func (.func 77) #[] #[] else .nilFunc
structure CI (M : Nat) (W0 : World) (s : ByteArray) (v : Value) (sg : Bool) (out : List ByteArray) (W : World) : Prop where
 m : W.heap[M]? = some (.map casesE 2)
 a : W.heap[M + 1]? = some (.cells #[.map (some M)] 109 (0, 0))
 b : W.heap[M + 1 + 1]? = some (.cells #[v] 26 (0, 0))
 c : W.heap[M + 1 + 1 + 1]? = some (.cells #[.bool sg] 4 (0, 0))
 d : W.heap[M + 1 + 1 + 1 + 1]? = some (.cells #[.string s] 9 (0, 0))
 o : Own W (M + 5) v out
 B : Below M W0 W
theorem CI.ne {M : Nat} {W0 W : World} {s : ByteArray} {v : Value} {sg : Bool} {out : List ByteArray} (h : CI M W0 s v sg out W) {j : Nat} (hj : j < M + 5) : some j ≠ v.ownBlock := fun e => by have := own_base h.o j e.symm; omega
theorem CI.set3 {M : Nat} {W0 W : World} {s : ByteArray} {v : Value} {sg : Bool} {out : List ByteArray} (h : CI M W0 s v sg out W) (sg' : Bool) : CI M W0 s v sg' out (W.setCell ⟨M + 1 + 1 + 1, 0, none⟩ (.bool sg')) :=
 ⟨(Below.heap_setCell W _ _ M (by show M ≠ M + 1 + 1 + 1; omega)).trans h.m, blk_far h.a (by simp) _, blk_far h.b (by simp) _, blk_put h.c 0 _ rfl, blk_far h.d (by simp) _, own_move h.o fun k hv => Below.heap_setCell _ _ _ _ (fun e => h.ne (j := k) (by rw [e]; simp) hv.symm), h.B.setCell (by simp; omega) _⟩
theorem CI.below {M : Nat} {W0 W W1 : World} {s : ByteArray} {v : Value} {sg : Bool} {out : List ByteArray} (h : CI M W0 s v sg out W) (hb : Below W.heap.size W W1) : CI M W0 s v sg out W1 :=
 ⟨(hb.block _ (lt_blk h.m)).trans h.m, (hb.block _ (lt_blk h.a)).trans h.a, (hb.block _ (lt_blk h.b)).trans h.b, (hb.block _ (lt_blk h.c)).trans h.c, (hb.block _ (lt_blk h.d)).trans h.d, pw_own_below h.o hb, h.B.trans (hb.mono (Nat.le_of_lt (lt_blk h.m)))⟩
theorem CI.app {M : Nat} {W0 W W1 : World} {s : ByteArray} {v v1 : Value} {sg : Bool} {out out1 : List ByteArray} (h : CI M W0 s v sg out W) (ho : Own W1 (M + 5) v1 out1) (hg : W.grownBy W1 v.ownBlock) : CI M W0 s v1 sg out1 (W1.setCell ⟨M + 1 + 1, 0, none⟩ v1) := by
 have b1 := blk_grown h.b hg (h.ne (by omega))
 exact ⟨(Below.heap_setCell W1 _ _ M (by show M ≠ M + 1 + 1; omega)).trans ((hg.block _ (lt_blk h.m) (h.ne (by omega))).trans h.m), blk_far (blk_grown h.a hg (h.ne (by omega))) (by show M + 1 ≠ M + 1 + 1; omega) _, blk_put b1 0 _ rfl, blk_far (blk_grown h.c hg (h.ne (by omega))) (by show _ ≠ M + 1 + 1; omega) _, blk_far (blk_grown h.d hg (h.ne (by omega))) (by show _ ≠ M + 1 + 1; omega) _, own_move ho fun k hv => Below.heap_setCell _ _ _ _ (fun e => by have := own_base ho k hv; have e : k = M + 1 + 1 := e; omega), (h.B.grown hg (Nat.le_of_lt (lt_blk h.m)) (fun r e => by have := own_base h.o r e; omega)).setCell (by show M ≤ M + 1 + 1; omega) _⟩
theorem CI.ko {M : Nat} {W0 W W1 W2 : World} {s : ByteArray} {v : Value} {sg : Bool} {out : List ByteArray} (h : CI M W0 s v sg out W1) (k : KeepsOthers W W1) (hg : W1.grownBy W2 v.ownBlock) : KeepsOthers W W2 :=
 k.trans (KeepsOthers.of_grownBy hg (fun k o e ho2 => by obtain ⟨cur, hc⟩ := own_blk h.o k e; rw [hc] at ho2; cases ho2; rfl))
theorem cases_now (k : Int) : ∃ r, Instr.findNow (.int .i64) (.int .i64 k) casesE.toList 0 = some r ∧ ansF r = casesV k := by
 by_cases h1 : k = 2
 · subst h1; exact ⟨_, rfl, rfl⟩
 by_cases h2 : k = 4
 · subst h2; exact ⟨_, rfl, rfl⟩
 have e1 : (k == 2) = false := by simpa using h1
 have e2 : (k == 4) = false := by simpa using h2
 refine ⟨none, by simp [casesE, Instr.findNow, Instr.sameNow, e1, e2], ?_⟩
 show Value.nilFunc = _
 unfold casesV
 rw [if_neg h1, if_neg h2]
theorem cases_look {W : World} {b : Nat} (h : W.heap[b]? = some (.map casesE 2)) (k : Int) : (Instr.lookup 109 (.map (some b)) (.int .i64 k) false).run Tryz.prog W = .ok (casesV k) W := by
 obtain ⟨r, h1, h2⟩ := cases_now k
 rw [← h2]
 exact run_lookG Tryz.underlying109 Tryz.underlying3 (by simp [MapKept.IsKey]) (by kernel_rfl) h r h1
theorem case_c (s : ByteArray) (hs : s.size ≤ 900000) (sg : Bool) (out : List ByteArray) (ht : (eachP s).all caseOk = true) (ho : caseL (eachP s) (false, []) = some (sg, out)) (hj : (Lib.join (out.map (·.data.toList)) [45]).length ≤ 140737488355328) (w : World) :
 Calls Tryz.prog 45 #[.string s] w fun e w' => e = .returned (.string (joinS out)) ∧ Below w.heap.size w w' := by
 have hm : ∀ W : World, (Instr.makeMap 109 none).run Tryz.prog W = .ok (.map (some W.heap.size)) (W.alloc (.map #[] 0)) := fun W => run_makeMap_plain W _
 have h0 : (w.alloc (.map #[] 0)).heap[w.heap.size]? = some (.map #[] 0) := World.alloc_heap_new w _
 have B0 : Below w.heap.size w (w.alloc (.map #[] 0)) := (Below.refl _ w).alloc (Nat.le_refl _) _
 obtain ⟨W1, u1, h1, B1, z1, -⟩ := step_updG (b := w.heap.size) Tryz.underlying109 Tryz.underlying3 h0 B0 (Nat.le_refl _) (.int .i64 2) (.func (.func 76) #[] #[]) (by simp [MapKept.IsKey]) rfl
 obtain ⟨W2, u2, h2, B2, z2, -⟩ := step_updG (b := w.heap.size) Tryz.underlying109 Tryz.underlying3 h1 B1 (Nat.le_refl _) (.int .i64 4) (.func (.func 77) #[] #[]) (by simp [MapKept.IsKey]) rfl
 have H2 := Aside0.mk h2
 have HB2 := Aside0.mk B2
 have s2 : W2.heap.size = w.heap.size + 1 := by rw [z2, z1]; simp
 clear h0 B0 h1 B1 h2 B2 z1 z2
 refine (callsIn_wide (n := 4)).1 ?_
 refine callsIn_of_wp_marks Tryz.func45 rfl trivial ?_ rfl
 simp only [Tryz.ntmps45, List.size_toArray, List.length_cons, List.length_nil, Nat.reduceAdd, Nat.reduceSub, Array.replicate_succ, Array.replicate_zero, List.push_toArray, List.append_toArray, List.nil_append, List.cons_append]
 gi_wp2_with (first
  | (refine ⟨trivial, ?_⟩; gi_at_call 63; refine (each_in _ s _).mono ?_; rintro e w2 ⟨rfl, rfl⟩))
 obtain ⟨M, hM⟩ : ∃ M, M = w.heap.size := ⟨_, rfl⟩
 obtain ⟨W0, hW0⟩ : ∃ W0, ((((W2.alloc (.cells #[.map (some w.heap.size)] 109)).alloc (.cells #[.slice none 0 0] 26)).alloc (.cells #[.bool false] 4)).alloc (.cells #[.string s] 9)) = W0 := ⟨_, rfl⟩
 have b0 : W0.heap[M]? = some (.map casesE 2) := by rw [← hW0, hM]; exact aN (aN (aN (aN H2.out)))
 have b1 : W0.heap[M + 1]? = some (.cells #[.map (some M)] 109 (0, 0)) := by rw [← hW0, hM]; exact aN (aN (aN (aZ (by omega))))
 have b2 : W0.heap[M + 1 + 1]? = some (.cells #[.slice none 0 0] 26 (0, 0)) := by rw [← hW0, hM]; exact aN (aN (aZ (by simp; omega)))
 have b3 : W0.heap[M + 1 + 1 + 1]? = some (.cells #[.bool false] 4 (0, 0)) := by rw [← hW0, hM]; exact aN (aZ (by simp; omega))
 have b4 : W0.heap[M + 1 + 1 + 1 + 1]? = some (.cells #[.string s] 9 (0, 0)) := by rw [← hW0, hM]; exact aZ (by simp; omega)
 have B0 : Below M w W0 := by rw [← hW0, hM]; exact below_alloc (below_alloc (below_alloc (below_alloc HB2.out _) _) _) _
 rw [hW0, ← hM]
 have HM := Aside0.mk hM
 have HB0 := Aside0.mk B0
 have HO := Aside0.mk ho
 have HT := Aside0.mk ht
 clear hW0 hM H2 HB2 B0 ho ht
 refine wpIn_rangeFunc_ownG rfl (by omega) (gf := 121) (lb := #[.pointer (some ⟨M + 1 + 1 + 1 + 1, 0, none⟩)]) rfl trivial (enters_of Tryz.func121 (by kernel_rfl) rfl)
  (each_stops _ (by omega) (M + 1 + 1 + 1 + 1) s (by omega) W0 ((blk_cell b4 0).trans rfl)) KB.trans (fun W lw o o' _ h h1 _ => KB.put _ W lw o o' h h1) (Below.refl _ _) (fun _ => rfl)
  (fun (pre : List (PieceOf s)) W => ∃ v sg out, caseL (pre.map Subtype.val) (false, []) = some (sg, out) ∧ W.heap[M]? = some (.map casesE 2) ∧ W.heap[M + 1]? = some (.cells #[.map (some M)] 109 (0, 0)) ∧ W.heap[M + 1 + 1]? = some (.cells #[v] 26 (0, 0)) ∧ W.heap[M + 1 + 1 + 1]? = some (.cells #[.bool sg] 4 (0, 0)) ∧ W.heap[M + 1 + 1 + 1 + 1]? = some (.cells #[.string s] 9 (0, 0)) ∧ Own W (M + 5) v out ∧ Below M W0 W)
  (fun _ _ _ => False)
  (fun pre A B row ⟨v, sg, out, i0, i1, i2, i3, i4, i5, i6, i7⟩ hg hr => ⟨v, sg, out, i0, (hg.block M (Array.getElem?_eq_some_iff.1 i1).1 (fun e => by have h1 := (hr M e.symm).1; have h2 := (Array.getElem?_eq_some_iff.1 b4).1; omega)).trans i1, blkG i2 rfl hg (fun r e => (hr r e).2), blkG i3 rfl hg (fun r e => (hr r e).2), blkG i4 rfl hg (fun r e => (hr r e).2), blkG i5 rfl hg (fun r e => (hr r e).2), ownG i6 hg (fun r e => (hr r e).2), i7.grown hg (by have := (Array.getElem?_eq_some_iff.1 i1).1; omega) (fun r e => by have := (hr r e).1; have h2 := (Array.getElem?_eq_some_iff.1 b4).1; omega)⟩)
  (fun _ _ _ _ _ hs _ _ => hs)
  ⟨_, false, [], rfl, b0, b1, b2, b3, b4, own_nil _ _ _ _, Below.refl _ _⟩
  (fun x' : PieceOf s => let x := x'.1; { tmps := #[.string s, undef, .string ⟨#[]⟩, .pointer (some ⟨M + 1, 0, none⟩), .pointer (some ⟨M + 1 + 1, 0, none⟩), .pointer (some ⟨M + 1 + 1 + 1, 0, none⟩), .int .i64 x.1, .string x.2, undef, .map (some M), .map (some M), .string s, .func (.func 121) #[] #[.pointer (some ⟨M + 1 + 1 + 1 + 1, 0, none⟩)], .int .i64 x.1, .string x.2, undef, undef, undef, undef, undef, undef, undef, undef, undef, undef, undef, undef, undef, undef, undef, undef, undef, undef, undef, undef, undef, undef, undef, undef, undef, undef, undef, undef, undef, undef, undef], defers := [] }) ?assign ?body ?done ?stop
 case assign =>
  rintro lp ⟨x, hxm⟩ W K hK
  simp only [encP] at hK ⊢
  gi_wp2
  simpa using hK
 case body =>
  rintro lp pre ⟨x, hxm⟩ W ⟨v, sg, out', i0, i1, i2, i3, i4, i5, i6, i7⟩ hlen
  obtain ⟨A, c, rfl⟩ := own_slice i6
  have hmap := Tryz.underlying109
  refine wpIn_block ?_
  obtain ⟨q, u, y, hq, hu, hy⟩ := caseOk_mem HT.out hxm
  have K_0 := Aside0.mk i1
  have K_1 := Aside0.mk i2
  have K_2 := Aside0.mk i3
  have K_3 := Aside0.mk i4
  have K_4 := Aside0.mk i5
  have O_V := Aside0.mk i6
  have B_W := Aside0.mk i7
  have H0 := Aside0.mk i0
  have HQ := Aside0.mk hq
  have HU := Aside0.mk hu
  have HY := Aside0.mk hy
  have c3 := (blk_cell i4 0).trans rfl
  have f3 := blk_frozen i4 0
  have hk0 : out'.length ≤ 1000000 := by
   have h1 := caseL_len _ _ _ _ i0
   have h2 := eachF_len s (s.size + 1) 0
   unfold eachP at hlen
   simp at h1
   omega
  have HLN := Aside0.mk hk0
  clear i0 i1 i2 i3 i4 i5 i6 i7 hlen hk0
  obtain ⟨sg2, hs2⟩ : ∃ sg2, sg2 = (sg || ((x.2.size : Int) == 1)) := ⟨_, rfl⟩
  have hbU : ∀ W : World, (binOp .neq 29 (.func (.func 76) #[] #[]) .nilFunc).run Tryz.prog W = .ok (.bool true) W := fun W => by kernel_rfl
  have hbT : ∀ W : World, (binOp .neq 29 (.func (.func 77) #[] #[]) .nilFunc).run Tryz.prog W = .ok (.bool true) W := fun W => by kernel_rfl
  have hbN : ∀ W : World, (binOp .neq 29 .nilFunc .nilFunc).run Tryz.prog W = .ok (.bool false) W := fun W => by kernel_rfl
  obtain ⟨z, hz⟩ : ∃ z, ((x.2.size : Int) == 1) = z := ⟨_, rfl⟩
  obtain ⟨d, hd⟩ : ∃ d, decide ((0 : Int) < x.1) = d := ⟨_, rfl⟩
  have eU := enters_of Tryz.func76 (by kernel_rfl) rfl
  have eT := enters_of Tryz.func77 (by kernel_rfl) rfl
  unfold Enters at eU eT
  obtain ⟨t, v8, hst, hv8, ht⟩ : ∃ t v8, caseStep (sg, out') x = some (sg2, out' ++ [t]) ∧ casesV (q.size : Int) = v8 ∧ (((d && !sg2) = false ∧ t = q) ∨ ((d = true ∧ sg2 = false) ∧ ((v8 = .func (.func 76) #[] #[] ∧ t = u) ∨ (v8 = .func (.func 77) #[] #[] ∧ t = y) ∨ (v8 = .nilFunc ∧ t = q)))) := by
   unfold caseStep casesV
   simp only [hq, hu, hy, Option.bind_some, hd, ← hs2]
   cases d <;> cases sg2
   case true.false =>
    by_cases h2 : (q.size : Int) = 2
    · exact ⟨u, _, by simp [h2], rfl, .inr ⟨⟨rfl, rfl⟩, .inl ⟨by simp [h2], rfl⟩⟩⟩
    · by_cases h4 : (q.size : Int) = 4
      · exact ⟨y, _, by simp [h4], rfl, .inr ⟨⟨rfl, rfl⟩, .inr (.inl ⟨by simp [h4], rfl⟩)⟩⟩
      · exact ⟨q, _, by simp [h2, h4], rfl, .inr ⟨⟨rfl, rfl⟩, .inr (.inr ⟨by simp [h2, h4], rfl⟩)⟩⟩
   all_goals exact ⟨q, _, by simp, rfl, .inl ⟨rfl, rfl⟩⟩
  rw [hz] at hs2
  clear hq hu hy
  have HST := Aside0.mk hst
  clear hst
  have hlook : ∀ W, W.heap[M]? = some (.map casesE 2) → (Instr.lookup 109 (.map (some M)) (.int .i64 (q.size : Int)) false).run Tryz.prog W = .ok v8 W := fun W h => hv8 ▸ cases_look h _
  have C0 := Aside0.mk (CI.mk K_0.out K_1.out K_2.out K_3.out K_4.out O_V.out B_W.out)
  clear K_0 K_1 K_2 K_3 K_4 O_V B_W
  cases sg <;> cases z <;> cases d
  all_goals
   subst hs2
   simp only [Bool.or_true, Bool.or_false, Bool.true_or, Bool.false_or] at HST ht
   rcases ht with ⟨h0, rfl⟩ | ⟨⟨h1, h2⟩, ⟨rfl, rfl⟩ | ⟨rfl, rfl⟩ | ⟨rfl, rfl⟩⟩
  all_goals (try (exfalso; first | exact absurd h0 (by decide) | exact absurd h1 (by decide) | exact absurd h2 (by decide)))
  all_goals
   gi_wp2_with (fail)
   refine ⟨trivial, CallsIn.inRound lp (callsIn_wide.2 (Calls.mono (ascii_Lower.calls x.2 _ _ HQ.out) ?_))⟩
   rintro e w1 ⟨rfl, hb1⟩
   have C1 := Aside0.mk (CI.below (CI.set3 C0.out _) hb1)
   have KO := Aside0.mk ((KeepsOthers.setCell W _ _).trans (ko_below hb1))
   have hl := hlook w1 C1.out.m
   have c1 := (blk_cell C1.out.a 0).trans rfl
   have c2 := (blk_cell C1.out.b 0).trans rfl
   have f2 := blk_frozen C1.out.b 0
   replace c3 := (blk_cell C1.out.c 0).trans rfl
   clear hb1 f3
   gi_wp2_with (first
    | (refine ⟨trivial, CallsIn.inRound lp (callsIn_wide.2 (Calls.mono (ascii_Upper.calls _ _ _ HU.out) ?_))⟩; rintro e w2 ⟨rfl, hb2⟩; replace C1 := Aside0.mk (C1.out.below hb2); replace KO := Aside0.mk (KO.out.trans (ko_below hb2)); replace c2 := (blk_cell C1.out.b 0).trans rfl; replace f2 := blk_frozen C1.out.b 0; clear hb2 c1 c3 hl)
    | (refine ⟨trivial, CallsIn.inRound lp (callsIn_wide.2 (Calls.mono (ascii_Title.calls _ _ _ HY.out) ?_))⟩; rintro e w2 ⟨rfl, hb2⟩; replace C1 := Aside0.mk (C1.out.below hb2); replace KO := Aside0.mk (KO.out.trans (ko_below hb2)); replace c2 := (blk_cell C1.out.b 0).trans rfl; replace f2 := blk_frozen C1.out.b 0; clear hb2 c1 c3 hl)
    | (gi_at_builtin; refine Hold.on ?_))
   refine Hold.of ?_
   refine app_in (w0 := _) (M + 5) rfl (.tmp 40) (.tmp 42) rfl (.slice A out'.length c) _ _ rfl rfl C1.out.o (Below.refl _ _) (by have := lt_blk C1.out.d; omega) HLN.out ?_
   intro V2 c2 w3 ho hb hg hat
   have C2 := Aside0.mk (C1.out.app ho hg)
   have K2 := Aside0.mk ((C1.out.ko KO.out hg).trans (KeepsOthers.setCell w3 ⟨M + 1 + 1, 0, none⟩ (.slice V2 (out'.length + 1) c2)))
   have f4 := blk_frozen (blk_grown C1.out.b hg (C1.out.ne (by omega))) 0
   have cb := (blk_cell (blk_grown C1.out.b hg (C1.out.ne (by omega))) 0).trans rfl
   clear ho hb hg hat f2 C1 KO
   gi_wp2
   exact ⟨K2.out.from _, fun v hv => by
    have h1 : W.cell? ⟨M + 1 + 1 + 1 + 1, 0, none⟩ = some (.string s) := (blk_cell C0.out.d 0).trans rfl
    rw [h1] at hv
    exact ((blk_cell C2.out.d 0).trans rfl).trans hv, _, _, _, by rw [List.map_append]; exact (caseL_snoc _ _ _ _ H0.out).trans HST.out, C2.out.m, C2.out.a, C2.out.b, C2.out.c, C2.out.d, C2.out.o, C2.out.B⟩
 case done =>
  rintro D ys W hD hys ⟨v, sg', out', i0, i1, i2, i3, i4, i5, i6, i7⟩ hK
  rw [hys, HO.out] at i0
  cases i0
  have c2 := (blk_cell i3 0).trans rfl
  have O6 := Aside0.mk i6
  have BW := Aside0.mk (HB0.out.trans (i7.mono (by omega)))
  have hD2 := Aside0.mk hK
  have hL := Aside0.mk hj
  have HLN : Aside0 (out.length ≤ 1000000) := ⟨by
   have h1 := caseL_len _ _ _ _ HO.out
   have h2 := eachF_len s (s.size + 1) 0
   unfold eachP at h1
   simp at h1
   omega⟩
  clear i1 i2 i3 i4 i5 i6 i7 hK hj
  gi_wp2_with (first
   | (refine ⟨trivial, callsIn_wide.2 (Calls.mono (join_c (M + 5) v out _ O6.out HLN.out hL.out) ?_)⟩; rintro e w5 ⟨rfl, hb5⟩))
  have D7 := (hb5.block _ (lt_blk hD2.out)).trans hD2.out
  have B7 : Below w.heap.size w w5 := by
   rw [← HM.out]
   exact BW.out.trans (hb5.mono (by have := BW.out.size; have := HM.out; omega))
  refine ⟨by simp, .inl ⟨D, _, rfl, run_takeDeferred D7, ?_⟩⟩
  obtain ⟨W8, hW8⟩ : ∃ W8, W8 = w5.putObj D (.deferred none) := ⟨_, rfl⟩
  have B8 : Below w.heap.size w W8 := by
   rw [hW8]
   exact B7.trans (belowK_b (w := w) (Nat.le_refl _) _ D _ _ (by have h1 := HB0.out.size; have h2 := HM.out; omega) D7 rfl rfl)
  rw [← hW8]
  show ∃ v, _ ∧ _
  refine ⟨.string (joinS out), ?_, rfl, B8⟩
  simp [results, Tryz.results45, asAddr, go_sem]
 case stop =>
  rintro D c pre W _ _ h _
  exact h.elim
theorem own_low {W : World} {base base' n size : Nat} {e : TypeId} {v : Value} {xs : List Value} (h : W.ownsRow base e size v n xs) (hb : base' ≤ base) : W.ownsRow base' e size v n xs := by
 obtain ⟨hk, h | ⟨g, cap, cur, e1, h1, h⟩⟩ := h
 · exact ⟨hk, .inl h⟩
 · exact ⟨hk, .inr ⟨g, cap, cur, e1, Nat.le_trans hb h1, h⟩⟩
theorem split_c (s : ByteArray) (hs : s.size ≤ 900000) (w : World) :
 Calls Tryz.prog 84 #[.string s] w fun e w' => ∃ v, e = .returned v ∧ Own w' w.heap.size v ((eachP s).map Prod.snd) ∧ Below w.heap.size w w' := by
 refine (callsIn_wide (n := 4)).1 ?_
 refine callsIn_of_wp_marks Tryz.func84 rfl trivial ?_ rfl
 simp only [Tryz.ntmps84, List.size_toArray, List.length_cons, List.length_nil, Nat.reduceAdd, Nat.reduceSub, Array.replicate_succ, Array.replicate_zero, List.push_toArray, List.append_toArray, List.nil_append, List.cons_append]
 gi_wp2_with (first
  | (refine ⟨trivial, ?_⟩; gi_at_call 63; refine (each_in _ s _).mono ?_; rintro e w2 ⟨rfl, rfl⟩))
 obtain ⟨M, hM⟩ : ∃ M, M = w.heap.size := ⟨_, rfl⟩
 obtain ⟨W0, hW0⟩ : ∃ W0, ((w.alloc (.cells #[.slice none 0 0] 26)).alloc (.cells #[.string s] 9)) = W0 := ⟨_, rfl⟩
 have b2 : W0.heap[M]? = some (.cells #[.slice none 0 0] 26 (0, 0)) := by rw [← hW0, hM]; exact aN (aZ (by omega))
 have b4 : W0.heap[M + 1]? = some (.cells #[.string s] 9 (0, 0)) := by rw [← hW0, hM]; exact aZ (by simp)
 have B0 : Below M w W0 := by rw [← hW0, hM]; exact below_alloc (below_alloc (Below.refl _ _) _) _
 have e1 : (w.alloc (.cells #[.slice none 0 0] 26)).heap.size = M + 1 := by rw [hM]; simp
 try rw [e1]
 rw [hW0, ← hM]
 have HM := Aside0.mk hM
 have HB0 := Aside0.mk B0
 clear hW0 hM B0 e1
 refine wpIn_rangeFunc_ownG rfl (by omega) (gf := 121) (lb := #[.pointer (some ⟨M + 1, 0, none⟩)]) rfl trivial (enters_of Tryz.func121 (by kernel_rfl) rfl)
  (each_stops _ (by omega) (M + 1) s (by omega) W0 ((blk_cell b4 0).trans rfl)) KB.trans (fun W lw o o' _ h h1 _ => KB.put _ W lw o o' h h1) (Below.refl _ _) (fun _ => rfl)
  (fun (pre : List (PieceOf s)) W => ∃ v out, out = (pre.map Subtype.val).map Prod.snd ∧ W.heap[M]? = some (.cells #[v] 26 (0, 0)) ∧ W.heap[M + 1]? = some (.cells #[.string s] 9 (0, 0)) ∧ Own W (M + 2) v out ∧ Below M W0 W)
  (fun _ _ _ => False)
  (fun pre A B row ⟨v, out, i0, i3, i5, i6, i7⟩ hg hr => ⟨v, out, i0, blkG i3 rfl hg (fun r e => (hr r e).2), blkG i5 rfl hg (fun r e => (hr r e).2), ownG i6 hg (fun r e => (hr r e).2), i7.grown hg (by have := (Array.getElem?_eq_some_iff.1 i3).1; omega) (fun r e => by have := (hr r e).1; have h2 := (Array.getElem?_eq_some_iff.1 b4).1; omega)⟩)
  (fun _ _ _ _ _ hs _ _ => hs)
  ⟨_, [], rfl, b2, b4, own_nil _ _ _ _, Below.refl _ _⟩
  (fun x' : PieceOf s => let x := x'.1; { tmps := #[.string s, undef, .slice none 0 0, .pointer (some ⟨M, 0, none⟩), undef, .string x.2, .string s, .func (.func 121) #[] #[.pointer (some ⟨M + 1, 0, none⟩)], .int .i64 x.1, .string x.2, undef, undef, undef, undef, undef], defers := [] }) ?assign ?body ?done ?stop
 case assign =>
  rintro lp ⟨x, hxm⟩ W K hK
  simp only [encP] at hK ⊢
  gi_wp2
  simpa using hK
 case body =>
  rintro lp pre ⟨x, hxm⟩ W ⟨v, out, i0, i3, i5, i6, i7⟩ hlen
  obtain ⟨A, c, rfl⟩ := own_slice i6
  have c3 := (blk_cell i3 0).trans rfl
  have f3 := blk_frozen i3 0
  have hk0 : out.length ≤ 1000000 := by
   have h2 := eachF_len s (s.size + 1) 0
   unfold eachP at hlen
   rw [i0]
   simp
   omega
  have HLN := Aside0.mk hk0
  have hne : ∀ j, j < M + 2 → some j ≠ (Value.slice A out.length c).ownBlock := fun j hj e => by have := own_base i6 j e.symm; omega
  have HNE := Aside0.mk hne
  have K3 := Aside0.mk i3
  have K5 := Aside0.mk i5
  have K6 := Aside0.mk i6
  have K7 := Aside0.mk i7
  have K0 := Aside0.mk i0
  clear i0 i3 i5 i6 i7 hlen hk0 hne
  gi_wp2_with (first | (gi_at_builtin; refine Hold.on ?_))
  refine Hold.of ?_
  refine app_in (w0 := _) (M + 2) rfl (.tmp 10) (.tmp 12) rfl (.slice A out.length c) _ _ rfl rfl K6.out (Below.refl _ _) (by have := lt_blk K5.out; omega) HLN.out ?_
  intro V2 c2 w3 ho hb hg hat
  have f4 := blk_frozen (blk_grown K3.out hg (HNE.out _ (by omega))) 0
  have cb := (blk_cell (blk_grown K3.out hg (HNE.out _ (by omega))) 0).trans rfl
  have H3 := Aside0.mk (blk_grown K3.out hg (HNE.out _ (by omega)))
  have H5 := Aside0.mk (blk_grown K5.out hg (HNE.out _ (by omega)))
  have H6 := Aside0.mk ho
  have H7 := Aside0.mk (K7.out.grown hg (Nat.le_of_lt (lt_blk K3.out)) (fun r e => by have := own_base K6.out r e; omega))
  have HK : Aside0 (KeepsOthers W w3) := ⟨KeepsOthers.of_grownBy hg (fun k o e ho2 => by obtain ⟨cur, hc⟩ := own_blk K6.out k e; rw [hc] at ho2; cases ho2; rfl)⟩
  clear ho hb hg hat c3 f3
  gi_wp2
  refine ⟨(HK.out.trans (KeepsOthers.setCell w3 ⟨M, 0, none⟩ _)).from _, fun v hv => ?_, _, out ++ [x.snd], ?_, blk_put H3.out 0 _ rfl, blk_far H5.out (by show M + 1 ≠ M; omega) _, ?_, H7.out.setCell (by show M ≤ M; omega) _⟩
  · rw [show W.cell? ⟨M + 1, 0, none⟩ = some (.string s) from (blk_cell K5.out 0).trans rfl] at hv
    exact ((blk_cell (blk_far H5.out (by show M + 1 ≠ M; omega) _) 0).trans rfl).trans hv
  · rw [K0.out]; simp
  · exact own_move H6.out fun k hv => Below.heap_setCell _ _ _ _ (fun e => by have := own_base H6.out k hv; have e : k = M := e; omega)
 case done =>
  rintro D ys W hD hys ⟨v, out, i0, i3, i5, i6, i7⟩ hK
  rw [hys] at i0
  subst i0
  have c2 := (blk_cell i3 0).trans rfl
  have O6 := Aside0.mk i6
  have BW : Aside0 (Below w.heap.size w W) := ⟨by rw [← HM.out]; exact HB0.out.trans (i7.mono (by omega))⟩
  have hD2 := Aside0.mk hK
  clear i3 i5 i6 i7 hK
  gi_wp2
  refine ⟨by simp, .inl ⟨D, _, rfl, run_takeDeferred hD2.out, ?_⟩⟩
  obtain ⟨W8, hW8⟩ : ∃ W8, W8 = W.putObj D (.deferred none) := ⟨_, rfl⟩
  have hk : Below w.heap.size w W8 := by
   rw [hW8]
   exact BW.out.trans (belowK_b (w := w) (Nat.le_refl _) _ D _ _ (by have h1 := HB0.out.size; have h2 := HM.out; omega) hD2.out rfl rfl)
  have ho : Own W8 (M + 2) v ((eachP s).map Prod.snd) := by
   rw [hW8]
   exact ownsRow_putObj O6.out _ hD2.out rfl
  rw [← hW8]
  show ∃ v, _ ∧ _
  refine ⟨v, ?_, v, rfl, ?_, hk⟩
  · simp [results, Tryz.results84, asAddr, go_sem]
  · exact own_low ho (by have := HM.out; omega)
 case stop =>
  rintro D c pre W _ _ h _
  exact h.elim
def txtOf : Value → ByteArray | .string s => s | _ => ⟨#[]⟩
def trimF : Nat → ByteArray → ByteArray
 | 0, s => s
 | f + 1, s =>
  if Lib.lastIndexByte s 45 < 0 then ⟨#[]⟩
  else if Lib.lastIndexByte (s.extract 0 (Lib.lastIndexByte s 45).toNat) 45 < 0 then s.extract 0 (Lib.lastIndexByte s 45).toNat
  else if (Lib.lastIndexByte s 45).toNat = (Lib.lastIndexByte (s.extract 0 (Lib.lastIndexByte s 45).toNat) 45).toNat + 2 then trimF f (s.extract 0 (Lib.lastIndexByte s 45).toNat)
  else s.extract 0 (Lib.lastIndexByte s 45).toNat
def trimP (s : ByteArray) : ByteArray := trimF (s.size + 1) s
theorem last_lt (s : ByteArray) (n : Nat) (h : Lib.lastIndexByte s 45 = (n : Int)) : n < s.size := by
 rcases Lib.lastIndexByte_spec s 45 with ⟨h1, _⟩ | ⟨i, hi, h1, _⟩ <;> omega
theorem last_ge (s : ByteArray) : -1 ≤ Lib.lastIndexByte s 45 := by
 rcases Lib.lastIndexByte_spec s 45 with ⟨h1, _⟩ | ⟨i, hi, h1, _⟩ <;> omega
theorem trim_c (s : ByteArray) (hs : s.size ≤ 900000) (w : World) :
 Calls Tryz.prog 158 #[.string s] w fun e w' => e = .returned (.string (trimP s)) ∧ w' = w := by
 go_enter Tryz.func158, Tryz.ntmps158
 go_wp2
 go_loopw [0] (fun v0 wr => ∃ (f : Nat) (t : ByteArray), v0 = .string t ∧ t.size ≤ 900000 ∧ t.size < f ∧ Aside0 (trimF f t = trimP s) ∧ wr = w) (fun v0 _ => (txtOf v0).size)
 case atStart => exact ⟨s.size + 1, s, rfl, hs, by omega, ⟨rfl⟩, rfl⟩
 case round =>
  obtain ⟨f, t, rfl, ht, hf, HT, rfl⟩ := hrel
  obtain ⟨f, rfl⟩ : ∃ f', f = f' + 1 := ⟨f - 1, by omega⟩
  have h45 : ∀ q : ByteArray, q.size ≤ 900000 → ∀ W, Calls Tryz.prog 197 #[.string q, .string ⟨#[45]⟩] W fun e w' => e = .returned (.int .i64 (Lib.lastIndexByte q 45)) ∧ w' = W := fun q hq W => Tryz.strings_LastIndex_one q ⟨#[45]⟩ rfl (by omega) W
  have hT := HT.out
  unfold trimF at hT
  by_cases h1 : Lib.lastIndexByte t 45 < 0
  · rw [if_pos h1] at hT
    have d1 : decide (Lib.lastIndexByte t 45 < 0) = true := decide_eq_true h1
    have HT2 := Aside0.mk hT
    clear hT h1
    go_wp2_with (first | (with_reducible refine (h45 t ht _).mono ?_; rintro e w1 ⟨rfl, rfl⟩))
    go_ret
    exact ⟨by rw [← HT2.out]; rfl, rfl⟩
  · rw [if_neg h1] at hT
    have hge := last_ge t
    obtain ⟨n, hn⟩ := Int.eq_ofNat_of_zero_le (show 0 ≤ Lib.lastIndexByte t 45 by omega)
    have hlt := last_lt t n hn
    rw [hn] at hT
    simp only [Int.toNat_natCast] at hT
    obtain ⟨u, hu⟩ : ∃ u, t.extract 0 n = u := ⟨_, rfl⟩
    have hus : u.size = n := by rw [← hu, ByteArray.size_extract]; omega
    rw [hu] at hT
    have hge2 := last_ge u
    have HU := Aside0.mk hu
    have HN := Aside0.mk hn
    have d0 : decide ((n : Int) < 0) = false := decide_eq_false (by omega)
    have m0 : (0 : Int) ≤ (n : Int) := by omega
    have m1 : (n : Int) ≤ (t.size : Int) := by omega
    by_cases h2 : Lib.lastIndexByte u 45 < 0
    · rw [if_pos h2] at hT
      have HT2 := Aside0.mk hT
      have d1 : decide (Lib.lastIndexByte u 45 < 0) = true := decide_eq_true h2
      clear hT h1 h2 hu hn hge hge2
      go_wp2_with (first | (with_reducible refine (h45 t ht _).mono ?_; rintro e w1 ⟨rfl, rfl⟩; rw [HN.out]) | (rw [HU.out]; with_reducible refine (h45 u (by omega) _).mono ?_; rintro e w1 ⟨rfl, rfl⟩))
      go_ret
      exact ⟨by rw [← HT2.out]; rfl, rfl⟩
    · rw [if_neg h2] at hT
      obtain ⟨m, hm⟩ := Int.eq_ofNat_of_zero_le (show 0 ≤ Lib.lastIndexByte u 45 by omega)
      have hlt2 := last_lt u m hm
      rw [hm] at hT
      simp only [Int.toNat_natCast] at hT
      have HM := Aside0.mk hm
      have d1 : decide ((m : Int) < 0) = false := decide_eq_false (by omega)
      have m2 : (0 : Int) ≤ (m : Int) := by omega
      have m3 : (m : Int) < (u.size : Int) := by omega
      have e1 : wrap64 ((u.size : Int) - (m : Int)) = (u.size : Int) - (m : Int) := by unfold wrap64; omega
      have e2 : wrap64 ((u.size : Int) - (m : Int) - 1) = (u.size : Int) - (m : Int) - 1 := by unfold wrap64; omega
      have HUS := Aside0.mk hus
      clear h1 h2 hu hn hm hge hge2 hus
      by_cases h3 : n = m + 2
      · rw [if_pos h3] at hT
        have HT2 := Aside0.mk hT
        have d3 : ((u.size : Int) - (m : Int) - 1 != 1) = false := by have := HUS.out; rw [bne_eq_false_iff_eq]; omega
        have H3 := Aside0.mk h3
        clear hT h3
        go_wp2_with (first | (with_reducible refine (h45 t ht _).mono ?_; rintro e w1 ⟨rfl, rfl⟩; rw [HN.out]) | (rw [HU.out]; with_reducible refine (h45 u (by have := HUS.out; omega) _).mono ?_; rintro e w1 ⟨rfl, rfl⟩; rw [HM.out]))
        go_roundw
        case rel => exact ⟨f, u, rfl, by have := HUS.out; omega, by have := HUS.out; omega, HT2, trivial⟩
        case measure => simp [txtOf]; have := HUS.out; omega
      · rw [if_neg h3] at hT
        have HT2 := Aside0.mk hT
        have d3 : ((u.size : Int) - (m : Int) - 1 != 1) = true := by have := HUS.out; rw [bne_iff_ne]; omega
        have H3 := Aside0.mk h3
        clear hT h3
        go_wp2_with (first | (with_reducible refine (h45 t ht _).mono ?_; rintro e w1 ⟨rfl, rfl⟩; rw [HN.out]) | (rw [HU.out]; with_reducible refine (h45 u (by have := HUS.out; omega) _).mono ?_; rintro e w1 ⟨rfl, rfl⟩; rw [HM.out]))
        go_ret
        exact ⟨by rw [← HT2.out]; rfl, rfl⟩
def seqF : Nat → ByteArray → List ByteArray
 | 0, _ => []
 | f + 1, s => if s.size = 0 then [] else s :: seqF f (trimP s)
def seqP (s : ByteArray) : List ByteArray := seqF (s.size + 1) s
theorem trimF_size : ∀ (f : Nat) (s : ByteArray), s.size < f → (trimF f s).size ≤ s.size - 1
 | 0, s, h => by omega
 | f + 1, s, h => by
  unfold trimF
  split
  · exact Nat.zero_le _
  · rename_i h1
    obtain ⟨n, hn⟩ := Int.eq_ofNat_of_zero_le (show 0 ≤ Lib.lastIndexByte s 45 by omega)
    have hlt := last_lt s n hn
    rw [hn, Int.toNat_natCast]
    have hz : (s.extract 0 n).size = n := by rw [ByteArray.size_extract]; omega
    split
    · omega
    · split
      · have := trimF_size f (s.extract 0 n) (by omega)
        omega
      · omega
theorem trimP_size (s : ByteArray) (h : s.size ≠ 0) : (trimP s).size < s.size := by
 have := trimF_size (s.size + 1) s (by omega)
 unfold trimP
 omega
def encS (s : ByteArray) : Array Value := #[.string s]
theorem empty_is (s : ByteArray) : s.toList.isEmpty = decide (s.size = 0) := by
 have h : s.data.toList.length = s.size := by rw [Array.length_toList]; rfl
 rw [ByteArray.toList_eq, Bool.eq_iff_iff, decide_eq_true_iff, List.isEmpty_iff_length_eq_zero, h]
theorem seq1_in (n : Nat) (hn : 1 ≤ n) (y Bt : Nat) (s : ByteArray) (hs : s.size ≤ 900000) (J Jx : List ByteArray → World → Prop) (W : World)
 (hY : ∀ pre x W1, J pre W1 → pre ++ [x] <+: seqP s → YieldAt Fence.wide (n - 1) Tryz.prog y (encS x) W1 fun e W' =>
  (e = .returned (.bool true) ∧ J (pre ++ [x]) W' ∧ KB Bt W1 W') ∨ (e = .returned (.bool false) ∧ Jx (pre ++ [x]) W'))
 (z0 : W.cell? ⟨Bt, 0, none⟩ = some (.string s)) (h0 : J [] W) :
 CallsIn Fence.wide n Tryz.prog 157 #[.func (.yield y) #[] #[], .pointer (some ⟨Bt, 0, none⟩)] W fun e W' => (∃ v, e = .returned v) ∧
  ((∃ ys, ys = seqP s ∧ J ys W') ∨ (∃ pre, pre <+: seqP s ∧ Jx pre W')) := by
 refine callsIn_of_wp Tryz.func157 rfl trivial ?_ rfl
 simp only [Tryz.ntmps157, List.size_toArray, List.length_cons, List.length_nil, Nat.reduceAdd, Nat.reduceSub, Array.replicate_succ, Array.replicate_zero, List.push_toArray, List.append_toArray, List.nil_append, List.cons_append]
 gi_wp2
 have AY := Aside0.mk hY
 clear hY
 gi_loopw [3] (fun v wr => ∃ (f : Nat) (t : ByteArray) (pre : List ByteArray), v = .string t ∧ t.size ≤ 900000 ∧ t.size < f ∧ Aside0 (pre ++ seqF f t = seqP s) ∧ Aside0 (J pre wr)) (fun v _ => (txtOf v).size)
 case atStart => exact ⟨s.size + 1, s, [], rfl, hs, by omega, ⟨rfl⟩, ⟨h0⟩⟩
 case round =>
  clear h0 z0
  obtain ⟨f, t, pre, rfl, ht, hf, HE, HJ⟩ := hrel
  obtain ⟨f, rfl⟩ : ∃ f', f = f' + 1 := ⟨f - 1, by omega⟩
  have he := HE.out
  unfold seqF at he
  by_cases h : t.size = 0
  · rw [if_pos h] at he
    have d0 : t.toList.isEmpty = true := by rw [empty_is, decide_eq_true h]
    have HE2 := Aside0.mk he
    clear he
    gi_wp2
    refine ⟨fun f h => (by cases h), ?_⟩
    gi_wp2
    go_end0
    exact ⟨⟨_, rfl⟩, .inl ⟨_, by rw [← HE2.out]; simp, HJ.out⟩⟩
  · rw [if_neg h] at he
    have d0 : t.toList.isEmpty = false := by rw [empty_is, decide_eq_false h]
    have he2 : (pre ++ [t]) ++ seqF f (trimP t) = seqP s := by rw [← he]; simp
    have HE2 := Aside0.mk he2
    have hlt := trimP_size t h
    obtain ⟨fn, tmps, assign, body, hy, hR⟩ := AY.out pre t _ HJ.out (by rw [← HE2.out]; exact List.prefix_append _ _)
    simp only [encS] at hy
    have HR := Aside0.mk hR
    clear hR he he2
    gi_wp2_with (fail)
    refine HR.out.mono ?_
    rintro e W3 (⟨rfl, hJ3, hk3⟩ | ⟨rfl, hJx3⟩)
    · have HJ3 := Aside0.mk hJ3
      clear hJ3 hk3
      gi_wp2_with (first | (refine ⟨trivial, ?_⟩; gi_at_call 158; refine (callsIn_wide.2 (trim_c t ht _)).mono ?_; rintro e w' ⟨rfl, rfl⟩))
      exact ⟨⟨f, trimP t, _, rfl, by omega, by omega, HE2, HJ3⟩, hlt⟩
    · have HJ3 := Aside0.mk hJx3
      clear hJx3
      gi_wp2
      go_end0
      exact ⟨⟨_, rfl⟩, .inr ⟨_, by rw [← HE2.out]; exact List.prefix_append _ _, HJ3.out⟩⟩
abbrev SeqOf (s : ByteArray) : Type := { x : ByteArray // x ∈ seqP s }
theorem seq_stops (n : Nat) (hn : 1 ≤ n) (Bt : Nat) (s : ByteArray) (hs : s.size ≤ 900000) (w : World) (z0 : w.cell? ⟨Bt, 0, none⟩ = some (.string s)) :
 SeqStopsK Fence.wide n Tryz.prog 157 #[.pointer (some ⟨Bt, 0, none⟩)] (fun x : SeqOf s => encS x.1) (KB Bt) (fun ys => ys.map Subtype.val = seqP s) (fun pre => pre.map Subtype.val <+: seqP s) (seqP s).length w := fun y J Jx W hW _ _ hY h0 => by
 refine (seq1_in n hn y Bt s hs (fun l W => ∃ l' : List (SeqOf s), l'.map Subtype.val = l ∧ J l' W) (fun l W => ∃ l' : List (SeqOf s), l'.map Subtype.val = l ∧ Jx l' W) W ?_ ((hW.cell (World.block_lt_of_cell? w _ z0)).trans z0) ⟨[], rfl, h0⟩).mono ?_
 · rintro pre x W1 ⟨pre', rfl, hJ⟩ hp
   have hx : x ∈ seqP s := hp.subset (by simp)
   have hlen : pre'.length < (seqP s).length := by
    have := hp.length_le
    simp at this
    omega
   obtain ⟨fn, tmps, assign, body, h1, h2⟩ := hY pre' ⟨x, hx⟩ W1 hJ hlen
   refine ⟨fn, tmps, assign, body, h1, h2.mono ?_⟩
   rintro e W' (⟨a, b, c⟩ | ⟨a, b⟩)
   · exact .inl ⟨a, ⟨_, by simp, b⟩, c⟩
   · exact .inr ⟨a, ⟨_, by simp, b⟩⟩
 · rintro e W' ⟨hv, ⟨ys, rfl, l', hl, hJ⟩ | ⟨pre, hp, l', hl, hJ⟩⟩
   · exact ⟨hv, .inl ⟨l', hl, hJ⟩⟩
   · exact ⟨hv, .inr ⟨l', by show l'.map Subtype.val <+: _; rw [hl]; exact hp, hJ⟩⟩
theorem sequence_in (n : Nat) (s : ByteArray) (w : World) : CallsIn Fence.wide n Tryz.prog 87 #[.string s] w fun e w' => e = .returned (.func (.func 157) #[] #[.pointer (some ⟨w.heap.size, 0, none⟩)]) ∧ w' = w.alloc (.cells #[.string s] 9) := by
 refine callsIn_of_wp Tryz.func87 rfl trivial ?_ rfl
 simp only [Tryz.ntmps87, List.size_toArray, List.length_cons, List.length_nil, Nat.reduceAdd, Nat.reduceSub, Array.replicate_succ, Array.replicate_zero, List.push_toArray, List.append_toArray, List.nil_append, List.cons_append]
 gi_wp2
 go_ret
 exact ⟨rfl, rfl⟩
theorem pieces_c (s : ByteArray) (hs : s.size ≤ 900000) (so : Nat) (eso : ∀ args W, (callFunc so args).run Tryz.prog W = .ok (.enter so args) W) (g : Int × ByteArray → Bool)
 (hso : ∀ x ∈ eachP s, ∀ W, Calls Tryz.prog so #[.int .i64 x.1, .string x.2] W fun e w' => e = .returned (.bool (g x)) ∧ Below W.heap.size W w') (w : World) :
 Calls Tryz.prog 154 #[.string s, .func (.func so) #[] #[]] w fun e w' => e = .returned (.bool ((eachP s).all g)) ∧ Below w.heap.size w w' := by
 refine (callsIn_wide (n := 4)).1 ?_
 refine callsIn_of_wp_marks Tryz.func154 rfl trivial ?_ rfl
 simp only [Tryz.ntmps154, List.size_toArray, List.length_cons, List.length_nil, Nat.reduceAdd, Nat.reduceSub, Array.replicate_succ, Array.replicate_zero, List.push_toArray, List.append_toArray, List.nil_append, List.cons_append]
 gi_wp2_with (first
  | (refine ⟨trivial, ?_⟩; gi_at_call 63; refine (each_in _ s _).mono ?_; rintro e w2 ⟨rfl, rfl⟩))
 obtain ⟨M, hM⟩ : ∃ M, M = w.heap.size := ⟨_, rfl⟩
 obtain ⟨W0, hW0⟩ : ∃ W0, (((w.alloc (.cells #[.func (.func so) #[] #[]] 145)).alloc (.cells #[.bool false] 4)).alloc (.cells #[.string s] 9)) = W0 := ⟨_, rfl⟩
 have b2 : W0.heap[M]? = some (.cells #[.func (.func so) #[] #[]] 145 (0, 0)) := by rw [← hW0, hM]; exact aN (aN (aZ (by omega)))
 have b3 : W0.heap[M + 1]? = some (.cells #[.bool false] 4 (0, 0)) := by rw [← hW0, hM]; exact aN (aZ (by simp))
 have b4 : W0.heap[M + 1 + 1]? = some (.cells #[.string s] 9 (0, 0)) := by rw [← hW0, hM]; exact aZ (by simp)
 have B0 : Below M w W0 := by rw [← hW0, hM]; exact below_alloc (below_alloc (below_alloc (Below.refl _ _) _) _) _
 try simp only [World.size_alloc]
 rw [hW0, ← hM]
 have HM := Aside0.mk hM
 have HB0 := Aside0.mk B0
 clear hW0 hM B0
 refine wpIn_rangeFunc_ownG rfl (by omega) (gf := 121) (lb := #[.pointer (some ⟨M + 1 + 1, 0, none⟩)]) rfl trivial (enters_of Tryz.func121 (by kernel_rfl) rfl)
  (each_stops _ (by omega) (M + 1 + 1) s (by omega) W0 ((blk_cell b4 0).trans rfl)) KB.trans (fun W lw o o' _ h h1 _ => KB.put _ W lw o o' h h1) (Below.refl _ _) (fun _ => rfl)
  (fun (pre : List (PieceOf s)) W => (pre.map Subtype.val).all g = true ∧ W.heap[M]? = some (.cells #[.func (.func so) #[] #[]] 145 (0, 0)) ∧ W.heap[M + 1]? = some (.cells #[.bool false] 4 (0, 0)) ∧ W.heap[M + 1 + 1]? = some (.cells #[.string s] 9 (0, 0)) ∧ Below M W0 W)
  (fun c (pre : List (PieceOf s)) W => c = .ret ∧ (eachP s).all g = false ∧ W.heap[M + 1]? = some (.cells #[.bool false] 4 (0, 0)) ∧ Below M W0 W)
  (fun pre A B row ⟨i0, i3, i4, i5, i7⟩ hg hr => ⟨i0, blkG i3 rfl hg (fun r e => (hr r e).2), blkG i4 rfl hg (fun r e => (hr r e).2), blkG i5 rfl hg (fun r e => (hr r e).2), i7.grown hg (by have := (Array.getElem?_eq_some_iff.1 i3).1; omega) (fun r e => by have := (hr r e).1; have h2 := (Array.getElem?_eq_some_iff.1 b4).1; omega)⟩)
  (fun c pre A B row ⟨i0, i1, i4, i7⟩ hg hr => ⟨i0, i1, blkG i4 rfl hg (fun r e => (hr r e).2), i7.grown hg (by have := (Array.getElem?_eq_some_iff.1 i4).1; omega) (fun r e => by have := (hr r e).1; have h2 := (Array.getElem?_eq_some_iff.1 b4).1; omega)⟩)
  ⟨rfl, b2, b3, b4, Below.refl _ _⟩
  (fun x' : PieceOf s => let x := x'.1; { tmps := #[.string s, .func (.func so) #[] #[], undef, .pointer (some ⟨M, 0, none⟩), .pointer (some ⟨M + 1, 0, none⟩), .int .i64 x.1, .string x.2, .string s, .func (.func 121) #[] #[.pointer (some ⟨M + 1 + 1, 0, none⟩)], .int .i64 x.1, .string x.2, undef, undef, undef, undef, undef], defers := [] }) ?assign ?body ?done ?stop
 case assign =>
  rintro lp ⟨x, hxm⟩ W K hK
  simp only [encP] at hK ⊢
  gi_wp2
  simpa using hK
 case body =>
  rintro lp pre ⟨x, hxm⟩ W ⟨i0, i3, i4, i5, i7⟩ hlen
  have c3 := (blk_cell i3 0).trans rfl
  have K0 := Aside0.mk i0
  have K3 := Aside0.mk i3
  have K4 := Aside0.mk i4
  have K5 := Aside0.mk i5
  have K7 := Aside0.mk i7
  have HX := Aside0.mk (hso x hxm)
  have eg := eso
  clear i0 i3 i4 i5 i7 hlen hso
  cases hv : g x with
  | true =>
   have HV := Aside0.mk hv
   clear hv
   gi_wp2_with (first
    | (refine ⟨trivial, CallsIn.inRound lp (callsIn_wide.2 (Calls.mono (HX.out _) ?_))⟩; rintro e w2 ⟨rfl, hb⟩; rw [HV.out]))
   refine ⟨(ko_below hb).from _, fun v hv => ?_, ?_, (hb.block _ (lt_blk K3.out)).trans K3.out, (hb.block _ (lt_blk K4.out)).trans K4.out, (hb.block _ (lt_blk K5.out)).trans K5.out, K7.out.trans (hb.mono (Nat.le_of_lt (lt_blk K3.out)))⟩
   · rw [show W.cell? ⟨M + 1 + 1, 0, none⟩ = some (.string s) from (blk_cell K5.out 0).trans rfl] at hv
     exact ((blk_cell ((hb.block _ (lt_blk K5.out)).trans K5.out) 0).trans rfl).trans hv
   · rw [List.map_append, List.all_append, K0.out]
     simp [HV.out]
  | false =>
   have HV := Aside0.mk hv
   have hall : (eachP s).all g = false := by
    rw [List.all_eq_false]
    exact ⟨x, hxm, by rw [hv]; simp⟩
   have HA := Aside0.mk hall
   clear hv hall
   gi_wp2_with (first
    | (refine ⟨trivial, CallsIn.inRound lp (callsIn_wide.2 (Calls.mono (HX.out _) ?_))⟩; rintro e w2 ⟨rfl, hb⟩; rw [HV.out]; have c4 := (blk_cell ((hb.block _ (lt_blk K4.out)).trans K4.out) 0).trans rfl; have f4 := blk_frozen ((hb.block _ (lt_blk K4.out)).trans K4.out) 0))
   refine ⟨((ko_below hb).trans (KeepsOthers.setCell w2 ⟨M + 1, 0, none⟩ _)).from _, rfl, HA.out, blk_put ((hb.block _ (lt_blk K4.out)).trans K4.out) 0 _ rfl, (K7.out.trans (hb.mono (Nat.le_of_lt (lt_blk K3.out)))).setCell (by show M ≤ M + 1; omega) _⟩
 case done =>
  rintro D ys W hD hys ⟨i0, i3, i4, i5, i7⟩ hK
  rw [hys] at i0
  have c4 := (blk_cell i4 0).trans rfl
  have f4 := blk_frozen i4 0
  have I0 := Aside0.mk i0
  have I4 := Aside0.mk i4
  have BW : Aside0 (Below w.heap.size w W) := ⟨by rw [← HM.out]; exact HB0.out.trans (i7.mono (by omega))⟩
  have hD2 := Aside0.mk hK
  have hDM : M + 1 ≠ D := by have h1 := HB0.out.size; have h2 := HM.out; have := lt_blk b4; omega
  clear i0 i3 i4 i5 i7 hK
  gi_wp2
  have D2 : (W.setCell ⟨M + 1, 0, none⟩ (.bool true)).heap[D]? = some (.deferred (some [])) := (Below.heap_setCell _ _ _ _ (by show D ≠ M + 1; omega)).trans hD2.out
  have B2 : Below w.heap.size w (W.setCell ⟨M + 1, 0, none⟩ (.bool true)) := BW.out.setCell (by have := HM.out; show w.heap.size ≤ M + 1; omega) _
  refine ⟨by simp, .inl ⟨D, _, rfl, run_takeDeferred D2, ?_⟩⟩
  have z4 := blk_put I4.out 0 (.bool true) rfl
  obtain ⟨W8, hW8⟩ : ∃ W8, W8 = (W.setCell ⟨M + 1, 0, none⟩ (.bool true)).putObj D (.deferred none) := ⟨_, rfl⟩
  have B8 : Below w.heap.size w W8 := by
   rw [hW8]
   exact B2.trans (belowK_b (w := w) (Nat.le_refl _) _ D _ _ (by have h1 := HB0.out.size; have h2 := HM.out; omega) D2 rfl rfl)
  have z8 : W8.cell? ⟨M + 1, 0, none⟩ = some (.bool true) := by
   rw [hW8]
   exact (World.cell?_of_block (World.putObj_heap_other hDM)).trans ((blk_cell z4 0).trans rfl)
  rw [← hW8]
  show ∃ v, _ ∧ _
  refine ⟨.bool true, ?_, by rw [I0.out], B8⟩
  simp [results, Tryz.results154, asAddr, go_sem, z8]
 case stop =>
  rintro D c pre W hD hpre ⟨rfl, i0, i4, i7⟩ hK
  have z4 := i4
  have hDM : M + 1 ≠ D := by have h1 := HB0.out.size; have h2 := HM.out; have := lt_blk b4; omega
  have BW : Below w.heap.size w W := by rw [← HM.out]; exact HB0.out.trans (i7.mono (by omega))
  have I0 := Aside0.mk i0
  have HK := Aside0.mk hK
  clear i0 hK
  gi_wp2
  refine ⟨by simp, .inl ⟨D, _, rfl, run_takeDeferred HK.out, ?_⟩⟩
  obtain ⟨W8, hW8⟩ : ∃ W8, W8 = W.putObj D (.deferred none) := ⟨_, rfl⟩
  have B8 : Below w.heap.size w W8 := by
   rw [hW8]
   exact BW.trans (belowK_b (w := w) (Nat.le_refl _) _ D _ _ (by have h1 := HB0.out.size; have h2 := HM.out; omega) HK.out rfl rfl)
  have z8 : W8.cell? ⟨M + 1, 0, none⟩ = some (.bool false) := by
   rw [hW8]
   exact (World.cell?_of_block (World.putObj_heap_other hDM)).trans ((blk_cell z4 0).trans rfl)
  rw [← hW8]
  show ∃ v, _ ∧ _
  refine ⟨.bool false, ?_, by rw [I0.out], B8⟩
  simp [results, Tryz.results154, asAddr, go_sem, z8]
structure KC (L : Nat) (W W' : World) : Prop where
 size : W.heap.size ≤ W'.heap.size
 same : ∀ k o, k ≠ L → W.heap[k]? = some o → o.isCells = true → W'.heap[k]? = some o
theorem KC.trans {L : Nat} {A B C : World} (h : KC L A B) (k : KC L B C) : KC L A C := ⟨Nat.le_trans h.size k.size, fun i o hi ho hc => k.same i o hi (h.same i o hi ho hc) hc⟩
theorem KC.put (L : Nat) (W : World) (l : Nat) (o o' : Obj) (hl : W.heap[l]? = some o) (h1 : o.isCells = false) : KC L W (W.putObj l o') := ⟨by simp, fun k q hk hq hc => by
 refine (World.putObj_heap_other ?_).trans hq
 rintro rfl
 rw [hl] at hq
 cases hq
 rw [h1] at hc
 cases hc⟩
theorem KC.below {L : Nat} {W W' : World} (h : Below W.heap.size W W') : KC L W W' := ⟨h.size, fun k o _ ho _ => (h.block _ (lt_blk ho)).trans ho⟩
theorem KC.G {L : Nat} {W W' : World} (h : KC L W W') (hL : L ≠ 0) (hG : GrandW.G W) : GrandW.G W' := by
 obtain ⟨t, fr, hg⟩ := hG
 exact ⟨t, fr, h.same 0 _ (fun e => hL e.symm) hg rfl⟩
theorem KC.C {L B1 : Nat} {W W' : World} (h : KC L W W') (hL : B1 ≠ L) (hC : Kd.C k59 W (some ⟨B1, 0, none⟩) dAliases.length dAliases) : Kd.C k59 W' (some ⟨B1, 0, none⟩) dAliases.length dAliases := by
 obtain ⟨ad, e, x0, -⟩ := at_T59 hC 0 (by omega) (by rw [len_dAliases]; decide)
 cases e
 obtain ⟨q, hq, hc⟩ := cells_of_cell x0
 have hB : ((⟨B1, 0, none⟩ : Addr).add ((0 : Int).toNat * 6)).block = B1 := by simp [Addr.add]
 rw [hB] at hq
 exact C_same flat59 hC fun a e => by cases e; exact (h.same B1 q hL hq hc).trans hq.symm
theorem C_lt {w : World} {B1 : Nat} (hC : Kd.C k59 w (some ⟨B1, 0, none⟩) dAliases.length dAliases) : B1 < w.heap.size := by
 obtain ⟨ad, e, x0, -⟩ := at_T59 hC 0 (by omega) (by rw [len_dAliases]; decide)
 cases e
 have h := World.block_lt_of_cell? w _ x0
 simpa [Addr.add] using h
def encT (x : Int × K3) : Array Value := #[.int .i64 x.1, T3 x.2.1 x.2.2.1 x.2.2.2]
theorem full1_three (a b c : ByteArray) : (full1 [a, b, c]).length ≤ 3 := List.length_filter_le _ _
theorem trace_none (n : Nat) (k : Nat) (B1 B2 B3 B4 pt pi L : Nat) (x y z : ByteArray) (hN : NoStep k x y z) (w0 : World) (hG : GrandW.G w0) (hC : Kd.C k59 w0 (some ⟨B1, 0, none⟩) dAliases.length dAliases)
 (ht : w0.heap[pt]? = some (.cells (T3c x y z) 33 (0, 0))) (hi : w0.heap[pi]? = some (.cells (imgC B1 B2 B3 B4) 51 (0, 0))) :
 SeqAll Fence.wide n Tryz.prog 201 #[.pointer (some ⟨pt, 0, none⟩), .pointer (some ⟨pi, 0, none⟩)] encT (KC L) [] w0 := fun l J Jx W hW hJ hJx hY h0 => by
 have key : Calls Tryz.prog 201 #[.func (.yield l) #[] #[], .pointer (some ⟨pt, 0, none⟩), .pointer (some ⟨pi, 0, none⟩)] W fun e W' => (∃ v, e = .returned v) ∧ Below W.heap.size W W' := by
  have hu := Tryz.underlying33
  have hui := Tryz.underlying51
  have HT := Aside0.mk ((hW.block _ (lt_blk ht)).trans ht)
  have HI := Aside0.mk ((hW.block _ (lt_blk hi)).trans hi)
  have HG := Aside0.mk (hG.below hW)
  have HC := Aside0.mk (Kd.C_below hC hW)
  have HN := Aside0.mk hN
  clear hG hC ht hi hN h0 hY hJ hJx hW
  obtain ⟨z0, z1, z2, z3, z4, z5, z6, z7⟩ := cz8 HT.out
  obtain ⟨W1, hW1⟩ : ∃ W1, W.alloc (.cells (T3c x y z) 33) = W1 := ⟨_, rfl⟩
  have a1 : W1.heap[W.heap.size]? = some (.cells (T3c x y z) 33 (0, 0)) := by rw [← hW1]; exact aZ rfl
  have B1w : Below W.heap.size W W1 := by rw [← hW1]; exact below_alloc (Below.refl _ _) _
  have HA := Aside0.mk a1
  have H1 := Aside0.mk B1w
  unfold T3c at hW1
  have HW := Aside0.mk hW1
  clear hW1 a1 B1w
  obtain ⟨y0, y1, y2, y3, y4, y5, y6, y7⟩ := cz8 ((H1.out.block _ (lt_blk HT.out)).trans HT.out)
  go_enter Tryz.func201, Tryz.ntmps201
  go_wp2_with (first
   | (rw [HW.out])
   | (go_at_call 75; refine (subtags_c x y z _).mono ?_; rintro e w2 ⟨v, rfl, hO, hB⟩; obtain ⟨A, c, rfl⟩ := own_slice hO; have H2 := Aside0.mk (H1.out.trans (hB.mono H1.out.size)); have HA2 := Aside0.mk ((hB.block _ (lt_blk HA.out)).trans HA.out); clear hO hB))
  obtain ⟨m, hm⟩ : ∃ m, m = (full1 [x, y, z]).length := ⟨_, rfl⟩
  have hm3 : m ≤ 3 := by rw [hm]; exact full1_three x y z
  rw [← hm]
  clear hm
  have d1 : decide ((0 : Int) < wrap64 (10 + (m : Int))) = true := by
   obtain rfl | rfl | rfl | rfl : m = 0 ∨ m = 1 ∨ m = 2 ∨ m = 3 := by omega
   all_goals kernel_rfl
  obtain ⟨z0, z1, z2, z3, z4, z5, z6, z7⟩ := cz8 HA2.out
  obtain ⟨i0, i1, i2, i3, i4, i5⟩ := cz6 (show w2.heap[pi]? = some (.cells #[.slice (some ⟨B1, 0, none⟩) 54 54, .slice (some ⟨B2, 0, none⟩) 32 32, .slice (some ⟨B3, 0, none⟩) 15 15, .slice (some ⟨B4, 0, none⟩) 7 7, .int .i64 40, .int .i64 5] 51 (0, 0)) from (H2.out.block _ (lt_blk HI.out)).trans HI.out)
  clear y0 y1 y2 y3 y4 y5 y6 y7
  refine wp_loop_rounds 1 ?_
  rw [rounds_succ]
  go_wp2_with (first
   | (go_at_call 202; refine (step_no k B1 B2 B3 B4 x y z HN.out _ (HG.out.below H2.out) (Kd.C_below HC.out H2.out)).mono ?_; rintro e w3 ⟨rfl, hB⟩; unfold T3; have H3 := Aside0.mk (H2.out.trans (hB.mono H2.out.size)); clear hB))
  refine bodyPost_ret (results_none rfl _ _ _) rfl ?_
  exact ⟨⟨_, rfl⟩, by
   have h : Below W.heap.size W w3 := H3.out
   repeat (first | exact h | refine below_alloc ?_ _ | refine below_set' ?_ (by have := H3.out.size; simp; omega))⟩
 refine callsIn_wide.2 (key.mono ?_)
 rintro e W' ⟨hv, hb⟩
 exact ⟨hv, .inl (hJ _ _ _ none h0 (grown_of_below hb none) (fun r e => by cases e))⟩
theorem trace_one (n : Nat) (hn : 1 ≤ n) (k : Nat) (B1 B2 B3 B4 pt pi L : Nat) (hL0 : L ≠ 0) (hLB : B1 ≠ L) (hLp : pi ≠ L) (x y z : ByteArray) (i1 i2 : Int) (hl : (Lib.join ((full1 [x, y, z]).map (·.data.toList)) [45]).length ≤ 140737488355328) (hi1 : grand_Find.f k (joinS (full1 [x, y, z])) = some (i1, false)) (hi2 : grand_Find.f k ⟨#[]⟩ = some (i2, false)) (i : Nat) (r : S59) (hi : dAliases[i]? = some r) (hf : foundP 2 x z = ((i : Int), true))
 (hN : NoStep k r.f3 y ⟨#[]⟩) (w0 : World) (hL : L < w0.heap.size) (hG : GrandW.G w0) (hC : Kd.C k59 w0 (some ⟨B1, 0, none⟩) dAliases.length dAliases)
 (ht : w0.heap[pt]? = some (.cells (T3c x y z) 33 (0, 0))) (hpi : w0.heap[pi]? = some (.cells (imgC B1 B2 B3 B4) 51 (0, 0))) :
 SeqAll Fence.wide n Tryz.prog 201 #[.pointer (some ⟨pt, 0, none⟩), .pointer (some ⟨pi, 0, none⟩)] encT (KC L) [((i : Int), r.f3, y, ⟨#[]⟩)] w0 := fun l J Jx W hW hJ hJx hY h0 => by
 have hu := Tryz.underlying33
 have hui := Tryz.underlying51
 have HT := Aside0.mk ((hW.block _ (lt_blk ht)).trans ht)
 have HI := Aside0.mk ((hW.block _ (lt_blk hpi)).trans hpi)
 have HG := Aside0.mk (hG.below hW)
 have HC := Aside0.mk (Kd.C_below hC hW)
 have HN := Aside0.mk hN
 have HF := Aside0.mk hf
 have HI1 := Aside0.mk hi1
 have HI2 := Aside0.mk hi2
 have HIr := Aside0.mk hi
 have HY := Aside0.mk hY
 have H0 := Aside0.mk h0
 have HJ := Aside0.mk hJ
 have HLW := Aside0.mk (Nat.lt_of_lt_of_le hL hW.size)
 clear hG hC ht hpi hN h0 hY hJ hJx hW hf hi1 hi2 hi hL
 obtain ⟨z0, z1, z2, z3, z4, z5, z6, z7⟩ := cz8 HT.out
 obtain ⟨W1, hW1⟩ : ∃ W1, W.alloc (.cells (T3c x y z) 33) = W1 := ⟨_, rfl⟩
 have a1 : W1.heap[W.heap.size]? = some (.cells (T3c x y z) 33 (0, 0)) := by rw [← hW1]; exact aZ rfl
 have B1w : Below W.heap.size W W1 := by rw [← hW1]; exact below_alloc (Below.refl _ _) _
 have HA := Aside0.mk a1
 have H1 := Aside0.mk B1w
 unfold T3c at hW1
 have HW := Aside0.mk hW1
 clear hW1 a1 B1w
 obtain ⟨y0, y1, y2, y3, y4, y5, y6, y7⟩ := cz8 ((H1.out.block _ (lt_blk HT.out)).trans HT.out)
 refine callsIn_of_wp Tryz.func201 rfl trivial ?_ rfl
 simp only [Tryz.ntmps201, List.size_toArray, List.length_cons, List.length_nil, Nat.reduceAdd, Nat.reduceSub, Array.replicate_succ, Array.replicate_zero, List.push_toArray, List.append_toArray, List.nil_append, List.cons_append]
 gi_wp2_with (first
  | (rw [HW.out])
  | (refine ⟨trivial, callsIn_wide.2 (Calls.mono (subtags_c x y z _) ?_)⟩; rintro e w2 ⟨v, rfl, hO, hB⟩; obtain ⟨A, c, rfl⟩ := own_slice hO; have H2 := Aside0.mk (H1.out.trans (hB.mono H1.out.size)); have HA2 := Aside0.mk ((hB.block _ (lt_blk HA.out)).trans HA.out); clear hO hB))
 obtain ⟨m, hm⟩ : ∃ m, m = (full1 [x, y, z]).length := ⟨_, rfl⟩
 have hm3 : m ≤ 3 := by rw [hm]; exact full1_three x y z
 rw [← hm]
 clear hm
 have d1 : decide ((0 : Int) < wrap64 (10 + (m : Int))) = true := by
  obtain rfl | rfl | rfl | rfl : m = 0 ∨ m = 1 ∨ m = 2 ∨ m = 3 := by omega
  all_goals kernel_rfl
 have d2 : decide ((1 : Int) < wrap64 (10 + (m : Int))) = true := by
  obtain rfl | rfl | rfl | rfl : m = 0 ∨ m = 1 ∨ m = 2 ∨ m = 3 := by omega
  all_goals kernel_rfl
 obtain ⟨z0, z1, z2, z3, z4, z5, z6, z7⟩ := cz8 HA2.out
 obtain ⟨i0, i1, i2, i3, i4, i5⟩ := cz6 (show w2.heap[pi]? = some (.cells #[.slice (some ⟨B1, 0, none⟩) 54 54, .slice (some ⟨B2, 0, none⟩) 32 32, .slice (some ⟨B3, 0, none⟩) 15 15, .slice (some ⟨B4, 0, none⟩) 7 7, .int .i64 40, .int .i64 5] 51 (0, 0)) from (H2.out.block _ (lt_blk HI.out)).trans HI.out)
 clear y0 y1 y2 y3 y4 y5 y6 y7
 refine wpIn_loop_rounds 2 ?_
 rw [roundsIn_succ]
 gi_wp2_with (fail)
 refine ⟨trivial, callsIn_wide.2 (Calls.mono (step_pair k B1 B2 B3 B4 x y z _ _ hl HI1.out HI2.out i r HIr.out HF.out _ (HG.out.below H2.out) (Kd.C_below HC.out H2.out)) ?_)⟩
 rintro e w3 ⟨rfl, hB⟩
 unfold T3
 have H3 := Aside0.mk (H2.out.trans (hB.mono H2.out.size))
 have HA3 := Aside0.mk ((hB.block _ (lt_blk HA2.out)).trans HA2.out)
 clear hB
 obtain ⟨w4, hw4⟩ : ∃ w4, w4 = w3.alloc (.cells (T3c r.f3 y ⟨#[]⟩) 33) := ⟨_, rfl⟩
 have X4 : Below w3.heap.size w3 w4 := by rw [hw4]; exact below_alloc (Below.refl _ _) _
 have U4 : w4.heap[w3.heap.size]? = some (.cells (T3c r.f3 y ⟨#[]⟩) 33 (0, 0)) := by rw [hw4]; exact aZ rfl
 have J4 : J [] w4 := HJ.out _ _ _ none H0.out (grown_of_below (H3.out.trans (X4.mono H3.out.size)) none) (fun r e => by cases e)
 obtain ⟨fn, tmps, assign, body, hy, hR⟩ := HY.out [] ((i : Int), r.f3, y, ⟨#[]⟩) w4 J4 (List.prefix_refl _)
 have HX4 := Aside0.mk X4
 have HU4 := Aside0.mk U4
 have HR := Aside0.mk hR
 have HW4 := Aside0.mk hw4
 rw [hw4] at hy
 unfold encT T3 T3c at hy
 clear hR X4 U4 J4 hw4 z0 z1 z2 z3 z4 z5 z6 z7 i0 i1 i2 i3 i4 i5
 gi_wp2_with (fail)
 have hw5 := HW4.out
 unfold T3c at hw5
 rw [← hw5]
 clear hw5
 refine HR.out.mono ?_
 have hN3 : w3.heap.size ≠ L := by have h1 := HLW.out; have h2 := H3.out.size; omega
 have hNW : W.heap.size ≠ L := by have h1 := HLW.out; omega
 have hlt3 : W.heap.size < w3.heap.size := lt_blk HA3.out
 have B4 : Below W.heap.size W w4 := H3.out.trans (HX4.out.mono H3.out.size)
 rintro e W5 (⟨rfl, hJ5, hk5⟩ | ⟨rfl, hJ5⟩)
 · have U5 := Aside0.mk (hk5.same _ _ hN3 HU4.out rfl)
   have A5 := Aside0.mk (hk5.same _ _ hNW ((HX4.out.block _ hlt3).trans HA3.out) rfl)
   have P5 := Aside0.mk (hk5.same _ _ hLp ((B4.block _ (lt_blk HI.out)).trans HI.out) rfl)
   have G5 := Aside0.mk (hk5.G hL0 (HG.out.below B4))
   have C5 := Aside0.mk (hk5.C hLB (Kd.C_below HC.out B4))
   have HJ5 := Aside0.mk hJ5
   have N5 := Aside0.mk hNW
   have M5 := Aside0.mk hlt3
   have S5 := Aside0.mk hk5.size
   have Lp := Aside0.mk hLp
   have npi := Aside0.mk (show pi ≠ W.heap.size from fun e => by have := lt_blk HI.out; omega)
   clear hJ5 hk5 hN3 hNW hlt3 B4 hy
   obtain ⟨z0, z1, z2, z3, z4, z5, z6, z7⟩ := cz8t U5.out
   obtain ⟨y0, y1, y2, y3, y4, y5, y6, y7⟩ := cz8t A5.out
   obtain ⟨f0, f1, f2, f3, f4, f5, f6, f7⟩ := fz8t A5.out
   gi_wp2_with (fail)
   have s5 : W.heap.size < W5.heap.size := lt_blk A5.out
   have b56 := putTag_grown W5 W.heap.size r.f3 y ⟨#[]⟩
   have hA6 := put_tag A5.out r.f3 y ⟨#[]⟩
   have hP6 := (putTag_far (W := W5) r.f3 y ⟨#[]⟩ npi.out).trans P5.out
   have hG6 : GrandW.G (putTag W5 W.heap.size r.f3 y ⟨#[]⟩) := by
    obtain ⟨t, fr, hg⟩ := G5.out
    exact ⟨t, fr, (putTag_far _ _ _ (fun e => by have h1 := HLW.out; omega)).trans hg⟩
   have hC6 := C_same flat59 C5.out (W' := putTag W5 W.heap.size r.f3 y ⟨#[]⟩) fun a e => by cases e; exact putTag_far _ _ _ (Nat.ne_of_lt (C_lt HC.out))
   have hJ6 := HJ.out _ _ _ _ HJ5.out b56 (fun r e => by cases e; exact Nat.le_refl _)
   have hs6 : W.heap.size ≤ (putTag W5 W.heap.size r.f3 y ⟨#[]⟩).heap.size := by rw [putTag_size]; exact Nat.le_of_lt s5
   obtain ⟨W6, hW6⟩ : ∃ W6, putTag W5 W.heap.size r.f3 y ⟨#[]⟩ = W6 := ⟨_, rfl⟩
   rw [putTag_eq]
   rw [hW6] at hA6 hP6 hG6 hC6 hJ6 hs6 ⊢
   have J6 := Aside0.mk hJ6
   have G6 := Aside0.mk hG6
   have C6 := Aside0.mk hC6
   have S6 := Aside0.mk hs6
   clear hW6 b56 hG6 hC6 hJ6 s5 hs6 z0 z1 z2 z3 z4 z5 z6 z7 y0 y1 y2 y3 y4 y5 y6 y7 f0 f1 f2 f3 f4 f5 f6 f7
   obtain ⟨z0, z1, z2, z3, z4, z5, z6, z7⟩ := cz8t hA6
   obtain ⟨i0, i1, i2, i3, i4, i5⟩ := cz6 (show W6.heap[pi]? = some (.cells #[.slice (some ⟨B1, 0, none⟩) 54 54, .slice (some ⟨B2, 0, none⟩) 32 32, .slice (some ⟨B3, 0, none⟩) 15 15, .slice (some ⟨B4, 0, none⟩) 7 7, .int .i64 40, .int .i64 5] 51 (0, 0)) from hP6)
   clear hA6 hP6
   rw [roundsIn_succ]
   gi_wp2_with (first
    | (refine ⟨trivial, callsIn_wide.2 (Calls.mono (step_no k B1 B2 B3 B4 r.f3 y ⟨#[]⟩ HN.out _ G6.out C6.out) ?_)⟩; rintro e w7 ⟨rfl, hB⟩; unfold T3; have B7 := Aside0.mk hB; clear hB))
   refine ⟨fun f h => by simp at h, ?_⟩
   gi_wp2_with (fail)
   refine bodyPost_ret (results_none rfl _ _ _) rfl ?_
   refine ⟨⟨_, rfl⟩, .inl ?_⟩
   have hJ7 := HJ.out.below J6.out B7.out
   have hs7 := Nat.le_trans S6.out B7.out.size
   repeat (first | exact hJ7 | refine HJ.out.alloc _ ?_ | refine HJ.out.set ?_ hs7)
 · have HJ5 := Aside0.mk hJ5
   clear hJ5 hy
   gi_wp2_with (fail)
   refine bodyPost_ret (results_none rfl _ _ _) rfl ?_
   exact ⟨⟨_, rfl⟩, .inr ⟨_, List.prefix_refl _, HJ5.out⟩⟩
end Go.Proofs.YtpmcfckechjppaaGreatDoor.Ps
