/- data.Image, walked. -/
import Derived.Test.YtdjbanhoejegjaaDqData
import Derived.Test.YtdjbanhoejegjaaDqLikMax
namespace Go.Proofs.Ytdjbanhoejegjaa.LikW
open Go.RowKit Go.Proofs.YtdjbanhoejegjaaW.PrintWords Go.Proofs.YtdjbanhoejegjaaW.PrintLast Go.Proofs.Ytdjbanhoejegjaa.P
set_option linter.unusedVariables false
set_option linter.unusedSimpArgs false

theorem len_dRows : dRows.length = 32 := by kernel_rfl
theorem len_dRules : dRules.length = 15 := by kernel_rfl
theorem len_dMembers : dMembers.length = 7 := by kernel_rfl
theorem aliases_lit (w : World) : Calls Try.prog 34 #[] w fun e W => (∃ B, e = .returned (.slice (some ⟨B, 0, none⟩) 54 54)) ∧ Below w.heap.size w W := by
  refine (aliases_calls w).mono ?_
  rintro e W ⟨rfl, rfl⟩
  exact ⟨⟨_, rfl⟩, below_alloc (Below.refl _ _) _⟩
theorem drows_lit (w : World) : Calls Try.prog 35 #[] w fun e W => (∃ B, e = .returned (.slice (some ⟨B, 0, none⟩) 32 32) ∧ w.heap.size ≤ B ∧ Kd.C k66 W (some ⟨B, 0, none⟩) dRows.length dRows) ∧ Below w.heap.size w W := by
  refine (drows_calls w).mono ?_
  rintro e W ⟨rfl, rfl⟩
  exact ⟨⟨_, rfl, Nat.le_refl _, C66 dRows (by rw [len_dRows]; decide) (World.alloc_heap_new w _)⟩, below_alloc (Below.refl _ _) _⟩
theorem drules_lit (w : World) : Calls Try.prog 36 #[] w fun e W => (∃ B, e = .returned (.slice (some ⟨B, 0, none⟩) 15 15) ∧ w.heap.size ≤ B ∧ Kd.C k53 W (some ⟨B, 0, none⟩) dRules.length dRules) ∧ Below w.heap.size w W := by
  refine (drules_calls w).mono ?_
  rintro e W ⟨rfl, rfl⟩
  exact ⟨⟨_, rfl, Nat.le_refl _, C53 dRules (by rw [len_dRules]; decide) (World.alloc_heap_new w _)⟩, below_alloc (Below.refl _ _) _⟩
theorem dmembers_lit (w : World) : Calls Try.prog 37 #[] w fun e W => (∃ B, e = .returned (.slice (some ⟨B, 0, none⟩) 7 7) ∧ w.heap.size ≤ B ∧ Kd.C k69 W (some ⟨B, 0, none⟩) dMembers.length dMembers) ∧ Below w.heap.size w W := by
  refine (dmembers_calls w).mono ?_
  rintro e W ⟨rfl, rfl⟩
  exact ⟨⟨_, rfl, Nat.le_refl _, C69 dMembers (by rw [len_dMembers]; decide) (World.alloc_heap_new w _)⟩, below_alloc (Below.refl _ _) _⟩
def imgV (B1 B2 B3 B4 : Nat) : Value := .agg #[.slice (some ⟨B1, 0, none⟩) 54 54, .slice (some ⟨B2, 0, none⟩) 32 32, .slice (some ⟨B3, 0, none⟩) 15 15, .slice (some ⟨B4, 0, none⟩) 7 7, .int .i64 40, .int .i64 5]
set_option maxRecDepth 100000 in
set_option maxHeartbeats 4000000 in
theorem image_calls (w : World) : Calls Try.prog 12 #[] w fun e W => (∃ B1 B2 B3 B4, e = .returned (imgV B1 B2 B3 B4) ∧ Kd.C k66 W (some ⟨B2, 0, none⟩) dRows.length dRows ∧ Kd.C k53 W (some ⟨B3, 0, none⟩) dRules.length dRules ∧ Kd.C k69 W (some ⟨B4, 0, none⟩) dMembers.length dMembers) ∧ Below w.heap.size w W := by
  have hu39 := Try.underlying39
  obtain ⟨V, hV⟩ : ∃ V, V = w.alloc (.cells #[.slice none 0 0, .slice none 0 0, .slice none 0 0, .slice none 0 0, .int .i64 0, .int .i64 0] 39) := ⟨_, rfl⟩
  have vT : Blk V w.heap.size #[.slice none 0 0, .slice none 0 0, .slice none 0 0, .slice none 0 0, .int .i64 0, .int .i64 0] 39 := by rw [hV]; exact Blk.new w _ _
  have vB : Below w.heap.size w V := by rw [hV]; exact below_alloc (Below.refl _ _) _
  have HV := Aside0.mk hV
  have HT := Aside0.mk vT
  have HB := Aside0.mk vB
  clear hV vT vB
  go_enter Try.func12, Try.ntmps12
  go_wp2_with (first
    | (go_at_call 34; rw [← HV.out]; refine (aliases_lit V).mono ?_; rintro e w1 ⟨⟨B1, rfl⟩, hb⟩; have T1 := Aside0.mk (HT.out.below HT.out.lt hb); have P1 := Aside0.mk (HB.out.trans (hb.mono HB.out.size)); clear hb)
    | (go_at_call 35; refine (drows_lit w1).mono ?_; rintro e w2 ⟨⟨B2, rfl, hl, hc⟩, hb⟩; have L2 := Aside0.mk (show B2 ≠ w.heap.size by have := T1.out.lt; omega); have T2 := Aside0.mk (T1.out.below T1.out.lt hb); have P2 := Aside0.mk (P1.out.trans (hb.mono P1.out.size)); have C2 := Aside0.mk hc; clear hb hc hl)
    | (go_at_call 36; refine (drules_lit w2).mono ?_; rintro e w3 ⟨⟨B3, rfl, hl, hc⟩, hb⟩; have L3 := Aside0.mk (show B3 ≠ w.heap.size by have := T2.out.lt; omega); have T3 := Aside0.mk (T2.out.below T2.out.lt hb); have P3 := Aside0.mk (P2.out.trans (hb.mono P2.out.size)); have C2b := Aside0.mk (Kd.C_below C2.out hb); have C3 := Aside0.mk hc; clear hb hc hl)
    | (go_at_call 37; refine (dmembers_lit w3).mono ?_; rintro e w4 ⟨⟨B4, rfl, hl, hc⟩, hb⟩; have L4 := Aside0.mk (show B4 ≠ w.heap.size by have := T3.out.lt; omega); have T4 := Aside0.mk (T3.out.below T3.out.lt hb); have P4 := Aside0.mk (P3.out.trans (hb.mono P3.out.size)); have C2c := Aside0.mk (Kd.C_below C2b.out hb); have C3b := Aside0.mk (Kd.C_below C3.out hb); have C4 := Aside0.mk hc; obtain ⟨y0, y1, y2, y3, y4, y5⟩ := cz6 (show w4.heap[w.heap.size]? = _ from T4.out); obtain ⟨z0, z1, z2, z3, z4, z5⟩ := fz6 (show w4.heap[w.heap.size]? = _ from T4.out); clear hb hc hl))
  refine bodyPost_ret (results_cell_row rfl _ _ w.heap.size 39 #[.slice (some ⟨B1, 0, none⟩) 54 54, .slice (some ⟨B2, 0, none⟩) 32 32, .slice (some ⟨B3, 0, none⟩) 15 15, .slice (some ⟨B4, 0, none⟩) 7 7, .int .i64 40, .int .i64 5] (0, 0) _ rfl (bx (blk_put (cs := #[.slice (some ⟨B1, 0, none⟩) 54 54, .slice (some ⟨B2, 0, none⟩) 32 32, .slice (some ⟨B3, 0, none⟩) 15 15, .slice (some ⟨B4, 0, none⟩) 7 7, .int .i64 40, .int .i64 0]) (bx (blk_put (cs := #[.slice (some ⟨B1, 0, none⟩) 54 54, .slice (some ⟨B2, 0, none⟩) 32 32, .slice (some ⟨B3, 0, none⟩) 15 15, .slice (some ⟨B4, 0, none⟩) 7 7, .int .i64 0, .int .i64 0]) (bx (blk_put (cs := #[.slice (some ⟨B1, 0, none⟩) 54 54, .slice (some ⟨B2, 0, none⟩) 32 32, .slice (some ⟨B3, 0, none⟩) 15 15, .slice none 0 0, .int .i64 0, .int .i64 0]) (bx (blk_put (cs := #[.slice (some ⟨B1, 0, none⟩) 54 54, .slice (some ⟨B2, 0, none⟩) 32 32, .slice none 0 0, .slice none 0 0, .int .i64 0, .int .i64 0]) (bx (blk_put (cs := #[.slice (some ⟨B1, 0, none⟩) 54 54, .slice none 0 0, .slice none 0 0, .slice none 0 0, .int .i64 0, .int .i64 0]) (bx (blk_put (cs := #[.slice none 0 0, .slice none 0 0, .slice none 0 0, .slice none 0 0, .int .i64 0, .int .i64 0]) (T4.out) 0 _ rfl)) 1 _ rfl)) 2 _ rfl)) 3 _ rfl)) 4 _ rfl)) 5 _ rfl)) Try.underlying39 rfl (by kernel_rfl)) rfl ?_
  exact ⟨⟨B1, B2, B3, B4, rfl, C_same flat66 C2c.out (fun a e => by cases e; (repeat rw [set_heap _ _ _ _ _ L2.out])), C_same flat53 C3b.out (fun a e => by cases e; (repeat rw [set_heap _ _ _ _ _ L3.out])), C_same flat69 C4.out (fun a e => by cases e; (repeat rw [set_heap _ _ _ _ _ L4.out]))⟩, by repeat (first | (with_reducible first | exact P4.out | apply wA | apply wN | apply wD | refine wS ?_ (Nat.le_refl _)) | exact P4.out)⟩
end Go.Proofs.Ytdjbanhoejegjaa.LikW
