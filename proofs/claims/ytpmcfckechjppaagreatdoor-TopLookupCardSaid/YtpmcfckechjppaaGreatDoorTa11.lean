/- Made by a program of this seat's own (shake.py, merge.py): what the claim leans on: DistDist, Image. -/
import Derived.Test.YtpmcfckechjppaaGreatDoorTa09
import Derived.Test.YtpmcfckechjppaaGreatDoorTa10
namespace Go.Proofs.YtpmcfckechjppaaGreatDoor.LikW
open Go.RowKit Go.Proofs.YtpmcfckechjppaaGreatDoorW.PrintWords Go.Proofs.YtpmcfckechjppaaGreatDoorW.PrintLast Go.Proofs.YtpmcfckechjppaaGreatDoor.P
set_option linter.unusedVariables false
set_option linter.unusedSimpArgs false
set_option maxRecDepth 100000
set_option maxHeartbeats 8000000
def dist_T : Bool × List (List Nat × List Nat) := (true, [([], []), ([], []), ([0, 1], [0, 1]), ([], []), ([], []), ([3, 4, 2], [3, 4]), ([], []), ([], []), ([6, 2, 5, 0, 1, 2, 6, 7], [2, 6]), ([7, 5, 8, 0, 1, 2, 3, 4, 5, 6, 7, 8], [5, 7])])
def dist_B : List Nat := [0, 0, 3, 0, 0, 31, 0, 0, 255, 511]
theorem dist_tab : rtab .any (opsOf Tryz.f341 1) = dist_T := by kernel_rfl
theorem dist_bits : waitsOk dist_T.2 dist_B = true := by kernel_rfl
theorem wS3 {n g : Nat} {w W : World} {v0 v1 v2 : Value} (h : Below n w W) (hg : n ≤ g) : Below n w (((W.setCell ⟨g, 0, none⟩ v0).setCell ⟨g, 1, none⟩ v1).setCell ⟨g, 2, none⟩ v2) :=
 ((h.setCell (p := ⟨g, 0, none⟩) hg v0).setCell (p := ⟨g, 1, none⟩) hg v1).setCell (p := ⟨g, 2, none⟩) hg v2
def sumP (rs : List S53) (ms : List S69) (d s : K3) : Nat → Int
 | 0 => 0
 | k + 1 => wrap64 (sumP rs ms d s k + costP rs ms ((k : Int) + 1) d s)
theorem dist_calls (A0 : Option Addr) (n0 c0 : Nat) (A1 : Option Addr) (c1 : Nat) (l : List S66) (A2 : Option Addr) (c2 : Nat) (rs : List S53) (A3 : Option Addr) (c3 : Nat) (ms : List S69) (p q : Int) (aL aS aR aG : ByteArray) (Ea0 : Option Addr) (ma0 da0 : Nat) (Ea1 : Option Addr) (ma1 da1 : Nat) (Ea2 : Option Addr) (ma2 da2 : Nat) (Ea3 : Option Addr) (ma3 da3 : Nat) (bL bS bR bG : ByteArray) (Eb0 : Option Addr) (mb0 db0 : Nat) (Eb1 : Option Addr) (mb1 db1 : Nat) (Eb2 : Option Addr) (mb2 db2 : Nat) (Eb3 : Option Addr) (mb3 db3 : Nat) (w : World) (hL : Kd.C k66 w A1 l.length l) (hR : Kd.C k53 w A2 rs.length rs) (hM : Kd.C k69 w A3 ms.length ms) :
 Calls Tryz.prog 341 #[.agg #[.slice A0 n0 c0, .slice A1 l.length c1, .slice A2 rs.length c2, .slice A3 ms.length c3, .int .i64 p, .int .i64 q], .agg #[.string aL, .slice Ea0 ma0 da0, .string aS, .string aR, .slice Ea1 ma1 da1, .slice Ea2 ma2 da2, .slice Ea3 ma3 da3, .string aG], .agg #[.string bL, .slice Eb0 mb0 db0, .string bS, .string bR, .slice Eb1 mb1 db1, .slice Eb2 mb2 db2, .slice Eb3 mb3 db3, .string bG]] w fun e w' => e = .returned (.int .i64 (sumP rs ms (plP l (aL, aS, aR)) (plP l (bL, bS, bR)) 3)) ∧ Below w.heap.size w w' := by
 have hu39 := Tryz.underlying51
 have hu44 := Tryz.underlying33
 have hu30 := Tryz.underlying123
 obtain ⟨V, hV⟩ : ∃ V, V = (((w.alloc (.cells #[.slice A0 n0 c0, .slice A1 l.length c1, .slice A2 rs.length c2, .slice A3 ms.length c3, .int .i64 p, .int .i64 q] 51)).alloc (.cells #[.string aL, .slice Ea0 ma0 da0, .string aS, .string aR, .slice Ea1 ma1 da1, .slice Ea2 ma2 da2, .slice Ea3 ma3 da3, .string aG] 33)).alloc (.cells #[.string bL, .slice Eb0 mb0 db0, .string bS, .string bR, .slice Eb1 mb1 db1, .slice Eb2 mb2 db2, .slice Eb3 mb3 db3, .string bG] 33)).drew := ⟨_, rfl⟩
 have vs : V.heap.size = w.heap.size + 3 := by rw [hV]; simp
 have vB : Below w.heap.size w V := by rw [hV]; exact below_drew1 (by repeat (first | exact Below.refl _ _ | apply below_alloc))
 have vI : V.heap[w.heap.size]? = some (.cells #[.slice A0 n0 c0, .slice A1 l.length c1, .slice A2 rs.length c2, .slice A3 ms.length c3, .int .i64 p, .int .i64 q] 51 (0, 0)) := by rw [hV]; exact (below_drew1 (below_alloc (below_alloc (Below.refl _ _) _) _) : Below (w.alloc (.cells #[.slice A0 n0 c0, .slice A1 l.length c1, .slice A2 rs.length c2, .slice A3 ms.length c3, .int .i64 p, .int .i64 q] 51)).heap.size (w.alloc (.cells #[.slice A0 n0 c0, .slice A1 l.length c1, .slice A2 rs.length c2, .slice A3 ms.length c3, .int .i64 p, .int .i64 q] 51)) _).block _ (by simp) |>.trans (World.alloc_heap_new w _)
 have vD : V.heap[w.heap.size + 1]? = some (.cells #[.string aL, .slice Ea0 ma0 da0, .string aS, .string aR, .slice Ea1 ma1 da1, .slice Ea2 ma2 da2, .slice Ea3 ma3 da3, .string aG] 33 (0, 0)) := by
  have := World.alloc_heap_new (w.alloc (.cells #[.slice A0 n0 c0, .slice A1 l.length c1, .slice A2 rs.length c2, .slice A3 ms.length c3, .int .i64 p, .int .i64 q] 51)) (.cells #[.string aL, .slice Ea0 ma0 da0, .string aS, .string aR, .slice Ea1 ma1 da1, .slice Ea2 ma2 da2, .slice Ea3 ma3 da3, .string aG] 33)
  rw [World.size_alloc] at this
  rw [hV]; exact (below_drew1 (below_alloc (Below.refl _ _) _) : Below ((w.alloc (.cells #[.slice A0 n0 c0, .slice A1 l.length c1, .slice A2 rs.length c2, .slice A3 ms.length c3, .int .i64 p, .int .i64 q] 51)).alloc (.cells #[.string aL, .slice Ea0 ma0 da0, .string aS, .string aR, .slice Ea1 ma1 da1, .slice Ea2 ma2 da2, .slice Ea3 ma3 da3, .string aG] 33)).heap.size ((w.alloc (.cells #[.slice A0 n0 c0, .slice A1 l.length c1, .slice A2 rs.length c2, .slice A3 ms.length c3, .int .i64 p, .int .i64 q] 51)).alloc (.cells #[.string aL, .slice Ea0 ma0 da0, .string aS, .string aR, .slice Ea1 ma1 da1, .slice Ea2 ma2 da2, .slice Ea3 ma3 da3, .string aG] 33)) _).block _ (by simp) |>.trans this
 have vE : V.heap[w.heap.size + 1 + 1]? = some (.cells #[.string bL, .slice Eb0 mb0 db0, .string bS, .string bR, .slice Eb1 mb1 db1, .slice Eb2 mb2 db2, .slice Eb3 mb3 db3, .string bG] 33 (0, 0)) := by
  have := World.alloc_heap_new ((w.alloc (.cells #[.slice A0 n0 c0, .slice A1 l.length c1, .slice A2 rs.length c2, .slice A3 ms.length c3, .int .i64 p, .int .i64 q] 51)).alloc (.cells #[.string aL, .slice Ea0 ma0 da0, .string aS, .string aR, .slice Ea1 ma1 da1, .slice Ea2 ma2 da2, .slice Ea3 ma3 da3, .string aG] 33)) (.cells #[.string bL, .slice Eb0 mb0 db0, .string bS, .string bR, .slice Eb1 mb1 db1, .slice Eb2 mb2 db2, .slice Eb3 mb3 db3, .string bG] 33)
  rw [World.size_alloc, World.size_alloc] at this
  rw [hV]; exact this
 have HC := Aside0.mk (Kd.C_below hL vB)
 have HR := Aside0.mk (Kd.C_below hR vB)
 have HM := Aside0.mk (Kd.C_below hM vB)
 have I0 := Aside0.mk vI
 have D0 := Aside0.mk vD
 have E0 := Aside0.mk vE
 have HVB := Aside0.mk vB
 have HB := Aside0.mk (Below.refl V.heap.size V)
 have HV := Aside0.mk hV
 clear hL hR hM vI vD vE vB hV
 go_enter Tryz.func341, Tryz.ntmps341
 go_wp2
 refine start_ (n := 10) (S := fun w' => True) (ds := []) #[false, false, false, false, false, false, false, false, false, false] (by kernel_rfl) rfl rfl trivial (fun hHeld => ?_); refine with_tabW dist_tab dist_bits (fun HT_ HW_ => ?_)
 rw [← HV.out]
 refine inv_at [0, 1, 2, 3, 4, 5, 6, 7, 8, 9] (fun a0_ b a w' => ∃ (g7 : Nat) (g8 : Nat) (m6_ : Value) (m7_ : Value), a = putSel a0_ b [(0, 11, .agg #[.slice A0 n0 c0, .slice A1 l.length c1, .slice A2 rs.length c2, .slice A3 ms.length c3, .int .i64 p, .int .i64 q]), (1, 12, .agg #[.string aL, .slice Ea0 ma0 da0, .string aS, .string aR, .slice Ea1 ma1 da1, .slice Ea2 ma2 da2, .slice Ea3 ma3 da3, .string aG]), (2, 13, .agg #[.string (plP l (aL, aS, aR)).1, .string (plP l (aL, aS, aR)).2.1, .string (plP l (aL, aS, aR)).2.2]), (3, 14, .agg #[.slice A0 n0 c0, .slice A1 l.length c1, .slice A2 rs.length c2, .slice A3 ms.length c3, .int .i64 p, .int .i64 q]), (4, 15, .agg #[.string bL, .slice Eb0 mb0 db0, .string bS, .string bR, .slice Eb1 mb1 db1, .slice Eb2 mb2 db2, .slice Eb3 mb3 db3, .string bG]), (5, 16, .agg #[.string (plP l (bL, bS, bR)).1, .string (plP l (bL, bS, bR)).2.1, .string (plP l (bL, bS, bR)).2.2]), (6, 7, m6_), (7, 8, m7_)] ∧ (Below V.heap.size V w') ∧ (b 6 = true → b 8 = false → w'.heap[g7]? = some (.cells #[.string ⟨#[]⟩, .string ⟨#[]⟩, .string ⟨#[]⟩] 123 (0, 0)) ∧ V.heap.size ≤ g7) ∧ (b 7 = true → b 9 = false → w'.heap[g8]? = some (.cells #[.string ⟨#[]⟩, .string ⟨#[]⟩, .string ⟨#[]⟩] 123 (0, 0)) ∧ V.heap.size ≤ g8) ∧ (b 6 = true → b 7 = true → g7 ≠ g8) ∧ (b 8 = true → w'.heap[g7]? = some (.cells #[.string (plP l (aL, aS, aR)).1, .string (plP l (aL, aS, aR)).2.1, .string (plP l (aL, aS, aR)).2.2] 123 (0, 0)) ∧ V.heap.size ≤ g7) ∧ (b 9 = true → w'.heap[g8]? = some (.cells #[.string (plP l (bL, bS, bR)).1, .string (plP l (bL, bS, bR)).2.1, .string (plP l (bL, bS, bR)).2.2] 123 (0, 0)) ∧ V.heap.size ≤ g8) ∧ (b 6 = true → (m6_ : Value) = .pointer (some ⟨g7, 0, none⟩)) ∧ (b 7 = true → (m7_ : Value) = .pointer (some ⟨g8, 0, none⟩))) HT_.out HW_.out (by kernel_rfl) (by kernel_rfl) ?_ ?_ ?_
 · exact ⟨0, 0, .bool false, .bool false, by simp only [putSel, Bool.false_eq_true, if_false], HB.out, fun h_ => absurd h_ (by decide), fun h_ => absurd h_ (by decide), fun h_ => absurd h_ (by decide), fun h_ => absurd h_ (by decide), fun h_ => absurd h_ (by decide), fun h_ => absurd h_ (by decide), fun h_ => absurd h_ (by decide)⟩
 · skip
   clear HB
   refine steps_cons ?_ ?_
   · rintro b a w' ⟨g7, g8, m6_, m7_, ha, Q_HB, Q_A7, Q_A8, Q_N78, Q_B7, Q_B8, Q_X6_, Q_X7_⟩ hb_ hon hoff
     refine ⟨_, rfl, fun K hK => ?_⟩
     have e3 : a.tmps[3]? = some (.pointer (some ⟨w.heap.size, 0, none⟩)) := by rw [ha]; exact (putSel_off rfl).trans rfl
     replace ha := Aside0.mk ha
     have HB := Aside0.mk Q_HB
     have hV_ := (HB.out.block _ (by omega)).trans I0.out
     obtain ⟨y0, y1, y2, y3, y4, y5⟩ := cz6 hV_
     clear hV_
     refine value_ (w1 := w') (v := .agg #[.slice A0 n0 c0, .slice A1 l.length c1, .slice A2 rs.length c2, .slice A3 ms.length c3, .int .i64 p, .int .i64 q]) (by rfl) rfl ?_ ?_
     · go_simp
       (try simp only [i64_w])
       try rfl
     refine hK.out _ _ ⟨g7, g8, m6_, m7_, (by rw [ha.out]; exact putSel_upk 0 hb_ rfl rfl rfl), Q_HB, Q_A7, Q_A8, Q_N78, fun h0_ => absurd ((hoff 8 (by kernel_rfl)).symm.trans h0_) (by decide), fun h0_ => absurd ((hoff 9 (by kernel_rfl)).symm.trans h0_) (by decide), Q_X6_, Q_X7_⟩
   refine steps_cons ?_ ?_
   · rintro b a w' ⟨g7, g8, m6_, m7_, ha, Q_HB, Q_A7, Q_A8, Q_N78, Q_B7, Q_B8, Q_X6_, Q_X7_⟩ hb_ hon hoff
     refine ⟨_, rfl, fun K hK => ?_⟩
     have e4 : a.tmps[4]? = some (.pointer (some ⟨w.heap.size + 1, 0, none⟩)) := by rw [ha]; exact (putSel_off rfl).trans rfl
     replace ha := Aside0.mk ha
     have HB := Aside0.mk Q_HB
     have hV_ := (HB.out.block _ (by omega)).trans D0.out
     obtain ⟨y0, y1, y2, y3, y4, y5, y6, y7⟩ := cz8 hV_
     clear hV_
     refine value_ (w1 := w') (v := .agg #[.string aL, .slice Ea0 ma0 da0, .string aS, .string aR, .slice Ea1 ma1 da1, .slice Ea2 ma2 da2, .slice Ea3 ma3 da3, .string aG]) (by rfl) rfl ?_ ?_
     · go_simp
       (try simp only [i64_w])
       try rfl
     refine hK.out _ _ ⟨g7, g8, m6_, m7_, (by rw [ha.out]; exact putSel_upk 1 hb_ rfl rfl rfl), Q_HB, Q_A7, Q_A8, Q_N78, fun h0_ => absurd ((hoff 8 (by kernel_rfl)).symm.trans h0_) (by decide), fun h0_ => absurd ((hoff 9 (by kernel_rfl)).symm.trans h0_) (by decide), Q_X6_, Q_X7_⟩
   refine steps_cons ?_ ?_
   · rintro b a w' ⟨g7, g8, m6_, m7_, ha, Q_HB, Q_A7, Q_A8, Q_N78, Q_B7, Q_B8, Q_X6_, Q_X7_⟩ hb_ hon hoff
     refine ⟨_, rfl, fun K hK => ?_⟩
     have e11 : a.tmps[11]? = some (.agg #[.slice A0 n0 c0, .slice A1 l.length c1, .slice A2 rs.length c2, .slice A3 ms.length c3, .int .i64 p, .int .i64 q]) := by rw [ha]; exact putSel_on (e := (0, 11, .agg #[.slice A0 n0 c0, .slice A1 l.length c1, .slice A2 rs.length c2, .slice A3 ms.length c3, .int .i64 p, .int .i64 q])) 0 rfl rfl (hon 0 (by kernel_rfl)) rfl
     have e12 : a.tmps[12]? = some (.agg #[.string aL, .slice Ea0 ma0 da0, .string aS, .string aR, .slice Ea1 ma1 da1, .slice Ea2 ma2 da2, .slice Ea3 ma3 da3, .string aG]) := by rw [ha]; exact putSel_on (e := (1, 12, .agg #[.string aL, .slice Ea0 ma0 da0, .string aS, .string aR, .slice Ea1 ma1 da1, .slice Ea2 ma2 da2, .slice Ea3 ma3 da3, .string aG])) 1 rfl rfl (hon 1 (by kernel_rfl)) rfl
     replace ha := Aside0.mk ha
     have HB := Aside0.mk Q_HB
     refine goes_ Tryz.func348 (by kernel_rfl) rfl #[.agg #[.slice A0 n0 c0, .slice A1 l.length c1, .slice A2 rs.length c2, .slice A3 ms.length c3, .int .i64 p, .int .i64 q], .agg #[.string aL, .slice Ea0 ma0 da0, .string aS, .string aR, .slice Ea1 ma1 da1, .slice Ea2 ma2 da2, .slice Ea3 ma3 da3, .string aG]] (by rfl) rfl rfl (by first | (simp only [List.map_toArray, List.map_cons, List.map_nil, Act.eval, Array.getD_eq_getD_getElem?, Option.getD_some, e11, e12]; done) | (simp only [List.map_toArray, List.map_cons, List.map_nil, Act.eval, Array.getD_eq_getD_getElem?, Option.getD_some, e11, e12]; rfl)) ?_
     with_reducible refine (places_calls A0 n0 c0 A1 c1 l A2 rs.length c2 A3 ms.length c3 p q aL aS aR aG Ea0 ma0 da0 Ea1 ma1 da1 Ea2 ma2 da2 Ea3 ma3 da3 w' (Kd.C_below HC.out HB.out)).mono ?_
     rintro e w3 ⟨rfl, hb⟩
     refine ⟨_, rfl, ?_⟩
     refine hK.out _ _ ⟨g7, g8, m6_, m7_, (by rw [ha.out]; exact putSel_upk 2 hb_ rfl rfl rfl), HB.out.trans (hb.mono HB.out.size), fun h0_ h1_ => ⟨(hb.block _ (Array.getElem?_eq_some_iff.1 (Q_A7 h0_ h1_).1).1).trans (Q_A7 h0_ h1_).1, (Q_A7 h0_ h1_).2⟩, fun h0_ h1_ => ⟨(hb.block _ (Array.getElem?_eq_some_iff.1 (Q_A8 h0_ h1_).1).1).trans (Q_A8 h0_ h1_).1, (Q_A8 h0_ h1_).2⟩, Q_N78, fun h0_ => absurd ((hoff 8 (by kernel_rfl)).symm.trans h0_) (by decide), fun h0_ => absurd ((hoff 9 (by kernel_rfl)).symm.trans h0_) (by decide), Q_X6_, Q_X7_⟩
   refine steps_cons ?_ ?_
   · rintro b a w' ⟨g7, g8, m6_, m7_, ha, Q_HB, Q_A7, Q_A8, Q_N78, Q_B7, Q_B8, Q_X6_, Q_X7_⟩ hb_ hon hoff
     refine ⟨_, rfl, fun K hK => ?_⟩
     have e3 : a.tmps[3]? = some (.pointer (some ⟨w.heap.size, 0, none⟩)) := by rw [ha]; exact (putSel_off rfl).trans rfl
     replace ha := Aside0.mk ha
     have HB := Aside0.mk Q_HB
     have hV_ := (HB.out.block _ (by omega)).trans I0.out
     obtain ⟨y0, y1, y2, y3, y4, y5⟩ := cz6 hV_
     clear hV_
     refine value_ (w1 := w') (v := .agg #[.slice A0 n0 c0, .slice A1 l.length c1, .slice A2 rs.length c2, .slice A3 ms.length c3, .int .i64 p, .int .i64 q]) (by rfl) rfl ?_ ?_
     · go_simp
       (try simp only [i64_w])
       try rfl
     refine hK.out _ _ ⟨g7, g8, m6_, m7_, (by rw [ha.out]; exact putSel_upk 3 hb_ rfl rfl rfl), Q_HB, Q_A7, Q_A8, Q_N78, fun h0_ => absurd ((hoff 8 (by kernel_rfl)).symm.trans h0_) (by decide), fun h0_ => absurd ((hoff 9 (by kernel_rfl)).symm.trans h0_) (by decide), Q_X6_, Q_X7_⟩
   refine steps_cons ?_ ?_
   · rintro b a w' ⟨g7, g8, m6_, m7_, ha, Q_HB, Q_A7, Q_A8, Q_N78, Q_B7, Q_B8, Q_X6_, Q_X7_⟩ hb_ hon hoff
     refine ⟨_, rfl, fun K hK => ?_⟩
     have e5 : a.tmps[5]? = some (.pointer (some ⟨w.heap.size + 1 + 1, 0, none⟩)) := by rw [ha]; exact (putSel_off rfl).trans rfl
     replace ha := Aside0.mk ha
     have HB := Aside0.mk Q_HB
     have hV_ := (HB.out.block _ (by omega)).trans E0.out
     obtain ⟨y0, y1, y2, y3, y4, y5, y6, y7⟩ := cz8 hV_
     clear hV_
     refine value_ (w1 := w') (v := .agg #[.string bL, .slice Eb0 mb0 db0, .string bS, .string bR, .slice Eb1 mb1 db1, .slice Eb2 mb2 db2, .slice Eb3 mb3 db3, .string bG]) (by rfl) rfl ?_ ?_
     · go_simp
       (try simp only [i64_w])
       try rfl
     refine hK.out _ _ ⟨g7, g8, m6_, m7_, (by rw [ha.out]; exact putSel_upk 4 hb_ rfl rfl rfl), Q_HB, Q_A7, Q_A8, Q_N78, fun h0_ => absurd ((hoff 8 (by kernel_rfl)).symm.trans h0_) (by decide), fun h0_ => absurd ((hoff 9 (by kernel_rfl)).symm.trans h0_) (by decide), Q_X6_, Q_X7_⟩
   refine steps_cons ?_ ?_
   · rintro b a w' ⟨g7, g8, m6_, m7_, ha, Q_HB, Q_A7, Q_A8, Q_N78, Q_B7, Q_B8, Q_X6_, Q_X7_⟩ hb_ hon hoff
     refine ⟨_, rfl, fun K hK => ?_⟩
     have e14 : a.tmps[14]? = some (.agg #[.slice A0 n0 c0, .slice A1 l.length c1, .slice A2 rs.length c2, .slice A3 ms.length c3, .int .i64 p, .int .i64 q]) := by rw [ha]; exact putSel_on (e := (3, 14, .agg #[.slice A0 n0 c0, .slice A1 l.length c1, .slice A2 rs.length c2, .slice A3 ms.length c3, .int .i64 p, .int .i64 q])) 3 rfl rfl (hon 3 (by kernel_rfl)) rfl
     have e15 : a.tmps[15]? = some (.agg #[.string bL, .slice Eb0 mb0 db0, .string bS, .string bR, .slice Eb1 mb1 db1, .slice Eb2 mb2 db2, .slice Eb3 mb3 db3, .string bG]) := by rw [ha]; exact putSel_on (e := (4, 15, .agg #[.string bL, .slice Eb0 mb0 db0, .string bS, .string bR, .slice Eb1 mb1 db1, .slice Eb2 mb2 db2, .slice Eb3 mb3 db3, .string bG])) 4 rfl rfl (hon 4 (by kernel_rfl)) rfl
     replace ha := Aside0.mk ha
     have HB := Aside0.mk Q_HB
     refine goes_ Tryz.func348 (by kernel_rfl) rfl #[.agg #[.slice A0 n0 c0, .slice A1 l.length c1, .slice A2 rs.length c2, .slice A3 ms.length c3, .int .i64 p, .int .i64 q], .agg #[.string bL, .slice Eb0 mb0 db0, .string bS, .string bR, .slice Eb1 mb1 db1, .slice Eb2 mb2 db2, .slice Eb3 mb3 db3, .string bG]] (by rfl) rfl rfl (by first | (simp only [List.map_toArray, List.map_cons, List.map_nil, Act.eval, Array.getD_eq_getD_getElem?, Option.getD_some, e14, e15]; done) | (simp only [List.map_toArray, List.map_cons, List.map_nil, Act.eval, Array.getD_eq_getD_getElem?, Option.getD_some, e14, e15]; rfl)) ?_
     with_reducible refine (places_calls A0 n0 c0 A1 c1 l A2 rs.length c2 A3 ms.length c3 p q bL bS bR bG Eb0 mb0 db0 Eb1 mb1 db1 Eb2 mb2 db2 Eb3 mb3 db3 w' (Kd.C_below HC.out HB.out)).mono ?_
     rintro e w3 ⟨rfl, hb⟩
     refine ⟨_, rfl, ?_⟩
     refine hK.out _ _ ⟨g7, g8, m6_, m7_, (by rw [ha.out]; exact putSel_upk 5 hb_ rfl rfl rfl), HB.out.trans (hb.mono HB.out.size), fun h0_ h1_ => ⟨(hb.block _ (Array.getElem?_eq_some_iff.1 (Q_A7 h0_ h1_).1).1).trans (Q_A7 h0_ h1_).1, (Q_A7 h0_ h1_).2⟩, fun h0_ h1_ => ⟨(hb.block _ (Array.getElem?_eq_some_iff.1 (Q_A8 h0_ h1_).1).1).trans (Q_A8 h0_ h1_).1, (Q_A8 h0_ h1_).2⟩, Q_N78, fun h0_ => absurd ((hoff 8 (by kernel_rfl)).symm.trans h0_) (by decide), fun h0_ => absurd ((hoff 9 (by kernel_rfl)).symm.trans h0_) (by decide), Q_X6_, Q_X7_⟩
   refine steps_cons ?_ ?_
   · rintro b a w' ⟨g7, g8, m6_, m7_, ha, Q_HB, Q_A7, Q_A8, Q_N78, Q_B7, Q_B8, Q_X6_, Q_X7_⟩ hb_ hon hoff
     refine ⟨_, rfl, fun K hK => ?_⟩
     replace ha := Aside0.mk ha
     have HB := Aside0.mk Q_HB
     refine box_step ?hg (N := 7) ?hd (cs := #[.string ⟨#[]⟩, .string ⟨#[]⟩, .string ⟨#[]⟩]) (t := 123) ?hr ?_; (case hd => rfl); (case hg => rfl); (case hr => first | (go_simp; done) | (go_simp; rfl))
     intro gb hg w3 hbox hb
     refine hK.out _ _ ⟨gb, g8, (.pointer (some ⟨gb, 0, none⟩)), m7_, (by rw [ha.out]; exact putSel_upk 6 hb_ rfl rfl rfl), HB.out.trans (hb.mono HB.out.size), fun _ _ => ⟨hbox, by rw [hg]; exact HB.out.size⟩, fun h0_ h1_ => ⟨(hb.block _ (Array.getElem?_eq_some_iff.1 (Q_A8 h0_ h1_).1).1).trans (Q_A8 h0_ h1_).1, (Q_A8 h0_ h1_).2⟩, fun _ _ => by rename_i h6_ h7_; have h_ := (Array.getElem?_eq_some_iff.1 (Q_A8 h7_ (hoff 9 (by kernel_rfl))).1).1; rw [hg]; exact Nat.ne_of_gt h_, fun h0_ => absurd ((hoff 8 (by kernel_rfl)).symm.trans h0_) (by decide), fun h0_ => absurd ((hoff 9 (by kernel_rfl)).symm.trans h0_) (by decide), fun _ => rfl, Q_X7_⟩
   refine steps_cons ?_ ?_
   · rintro b a w' ⟨g7, g8, m6_, m7_, ha, Q_HB, Q_A7, Q_A8, Q_N78, Q_B7, Q_B8, Q_X6_, Q_X7_⟩ hb_ hon hoff
     refine ⟨_, rfl, fun K hK => ?_⟩
     replace ha := Aside0.mk ha
     have HB := Aside0.mk Q_HB
     refine box_step ?hg (N := 8) ?hd (cs := #[.string ⟨#[]⟩, .string ⟨#[]⟩, .string ⟨#[]⟩]) (t := 123) ?hr ?_; (case hd => rfl); (case hg => rfl); (case hr => first | (go_simp; done) | (go_simp; rfl))
     intro gb hg w3 hbox hb
     refine hK.out _ _ ⟨g7, gb, m6_, (.pointer (some ⟨gb, 0, none⟩)), (by rw [ha.out]; exact putSel_upk 7 hb_ rfl rfl rfl), HB.out.trans (hb.mono HB.out.size), fun h0_ h1_ => ⟨(hb.block _ (Array.getElem?_eq_some_iff.1 (Q_A7 h0_ h1_).1).1).trans (Q_A7 h0_ h1_).1, (Q_A7 h0_ h1_).2⟩, fun _ _ => ⟨hbox, by rw [hg]; exact HB.out.size⟩, fun _ _ => by rename_i h6_ h7_; have h_ := (Array.getElem?_eq_some_iff.1 (Q_A7 h6_ (hoff 8 (by kernel_rfl))).1).1; rw [hg]; exact Nat.ne_of_lt h_, fun h0_ => absurd ((hoff 8 (by kernel_rfl)).symm.trans h0_) (by decide), fun h0_ => absurd ((hoff 9 (by kernel_rfl)).symm.trans h0_) (by decide), Q_X6_, fun _ => rfl⟩
   refine steps_cons ?_ ?_
   · rintro b a w' ⟨g7, g8, m6_, m7_, ha, Q_HB, Q_A7, Q_A8, Q_N78, Q_B7, Q_B8, Q_X6_, Q_X7_⟩ hb_ hon hoff
     refine ⟨_, rfl, fun K hK => ?_⟩
     have e7 : a.tmps[7]? = some (m6_) := by rw [ha]; exact putSel_on (e := (6, 7, m6_)) 6 rfl rfl (hon 6 (by kernel_rfl)) rfl
     rw [Q_X6_ (hon 6 (by kernel_rfl))] at e7
     have e13 : a.tmps[13]? = some (.agg #[.string (plP l (aL, aS, aR)).1, .string (plP l (aL, aS, aR)).2.1, .string (plP l (aL, aS, aR)).2.2]) := by rw [ha]; exact putSel_on (e := (2, 13, .agg #[.string (plP l (aL, aS, aR)).1, .string (plP l (aL, aS, aR)).2.1, .string (plP l (aL, aS, aR)).2.2])) 2 rfl rfl (hon 2 (by kernel_rfl)) rfl
     replace ha := Aside0.mk ha
     have HB := Aside0.mk Q_HB
     have A7 := Aside0.mk (Q_A7 (hon 6 (by kernel_rfl)) hb_)
     have A8 := Aside0.mk (Q_A8 (hon 7 (by kernel_rfl)) (hoff 9 (by kernel_rfl)))
     have N78 := Aside0.mk (Q_N78 (hon 6 (by kernel_rfl)) (hon 7 (by kernel_rfl)))
     obtain ⟨y0, y1, y2⟩ := cz3 A7.out.1
     obtain ⟨z0, z1, z2⟩ := fz3 A7.out.1
     refine skip_ (w1 := ?_) (by rfl) rfl ?_ ?_
     rotate_left
     · go_simp
       rfl
     refine hK.out _ _ ⟨g7, g8, m6_, m7_, (by rw [ha.out]; exact putSel_none (v := undef) rfl), wS3 HB.out A7.out.2, fun _ h1_ => absurd ((up_self b 8).symm.trans h1_) (by decide), fun _ _ => ⟨(blk_far ((blk_far ((blk_far (A8.out.1) (Ne.symm N78.out) _)) (Ne.symm N78.out) _)) (Ne.symm N78.out) _), A8.out.2⟩, Q_N78, fun _ => ⟨(bx (blk_put (cs := #[.string (plP l (aL, aS, aR)).1, .string (plP l (aL, aS, aR)).2.1, .string ⟨#[]⟩]) ((bx (blk_put (cs := #[.string (plP l (aL, aS, aR)).1, .string ⟨#[]⟩, .string ⟨#[]⟩]) ((bx (blk_put (cs := #[.string ⟨#[]⟩, .string ⟨#[]⟩, .string ⟨#[]⟩]) (A7.out.1) 0 _ rfl))) 1 _ rfl))) 2 _ rfl)), A7.out.2⟩, fun h0_ => absurd ((hoff 9 (by kernel_rfl)).symm.trans h0_) (by decide), Q_X6_, Q_X7_⟩
   refine steps_cons ?_ ?_
   · rintro b a w' ⟨g7, g8, m6_, m7_, ha, Q_HB, Q_A7, Q_A8, Q_N78, Q_B7, Q_B8, Q_X6_, Q_X7_⟩ hb_ hon hoff
     refine ⟨_, rfl, fun K hK => ?_⟩
     have e8 : a.tmps[8]? = some (m7_) := by rw [ha]; exact putSel_on (e := (7, 8, m7_)) 7 rfl rfl (hon 7 (by kernel_rfl)) rfl
     rw [Q_X7_ (hon 7 (by kernel_rfl))] at e8
     have e16 : a.tmps[16]? = some (.agg #[.string (plP l (bL, bS, bR)).1, .string (plP l (bL, bS, bR)).2.1, .string (plP l (bL, bS, bR)).2.2]) := by rw [ha]; exact putSel_on (e := (5, 16, .agg #[.string (plP l (bL, bS, bR)).1, .string (plP l (bL, bS, bR)).2.1, .string (plP l (bL, bS, bR)).2.2])) 5 rfl rfl (hon 5 (by kernel_rfl)) rfl
     replace ha := Aside0.mk ha
     have HB := Aside0.mk Q_HB
     have A8 := Aside0.mk (Q_A8 (hon 7 (by kernel_rfl)) hb_)
     have N78 := Aside0.mk (Q_N78 (hon 6 (by kernel_rfl)) (hon 7 (by kernel_rfl)))
     have B7 := Aside0.mk (Q_B7 (hon 8 (by kernel_rfl)))
     obtain ⟨y0, y1, y2⟩ := cz3 A8.out.1
     obtain ⟨z0, z1, z2⟩ := fz3 A8.out.1
     refine skip_ (w1 := ?_) (by rfl) rfl ?_ ?_
     rotate_left
     · go_simp
       rfl
     refine hK.out _ _ ⟨g7, g8, m6_, m7_, (by rw [ha.out]; exact putSel_none (v := undef) rfl), wS3 HB.out A8.out.2, fun _ h1_ => absurd ((hon 8 (by kernel_rfl)).symm.trans h1_) (by decide), fun _ h1_ => absurd ((up_self b 9).symm.trans h1_) (by decide), Q_N78, fun _ => ⟨(blk_far ((blk_far ((blk_far (B7.out.1) N78.out _)) N78.out _)) N78.out _), B7.out.2⟩, fun _ => ⟨(bx (blk_put (cs := #[.string (plP l (bL, bS, bR)).1, .string (plP l (bL, bS, bR)).2.1, .string ⟨#[]⟩]) ((bx (blk_put (cs := #[.string (plP l (bL, bS, bR)).1, .string ⟨#[]⟩, .string ⟨#[]⟩]) ((bx (blk_put (cs := #[.string ⟨#[]⟩, .string ⟨#[]⟩, .string ⟨#[]⟩]) (A8.out.1) 0 _ rfl))) 1 _ rfl))) 2 _ rfl)), A8.out.2⟩, Q_X6_, Q_X7_⟩
   exact steps_nil
 · rintro b a w' hall ⟨g7, g8, m6_, m7_, ha, Q_HB, Q_A7, Q_A8, Q_N78, Q_B7, Q_B8, Q_X6_, Q_X7_⟩
   clear HB
   have hb0_ := hall 0 (by kernel_rfl)
   have hb1_ := hall 1 (by kernel_rfl)
   have hb2_ := hall 2 (by kernel_rfl)
   have hb3_ := hall 3 (by kernel_rfl)
   have hb4_ := hall 4 (by kernel_rfl)
   have hb5_ := hall 5 (by kernel_rfl)
   have hb6_ := hall 6 (by kernel_rfl)
   have hb7_ := hall 7 (by kernel_rfl)
   have hb8_ := hall 8 (by kernel_rfl)
   have hb9_ := hall 9 (by kernel_rfl)
   subst ha
   obtain rfl := Q_X6_ hb6_
   obtain rfl := Q_X7_ hb7_
   simp only [putSel, hb0_, hb1_, hb2_, hb3_, hb4_, hb5_, hb6_, hb7_, hb8_, hb9_, if_true, Act.put, List.setIfInBounds_toArray, List.set_cons_zero, List.set_cons_succ]
   have HB := Aside0.mk Q_HB
   clear Q_HB
   clear Q_A7
   clear Q_A8
   have N78 := Aside0.mk (Q_N78 hb6_ hb7_)
   clear Q_N78
   have B7 := Aside0.mk (Q_B7 hb8_)
   clear Q_B7
   have B8 := Aside0.mk (Q_B8 hb9_)
   clear Q_B8
   clear hall hb0_ hb1_ hb2_ hb3_ hb4_ hb5_ hb6_ hb7_ hb8_ hb9_
   clear Q_X6_ Q_X7_
   have HF := HB
   clear HB
   have HB := Aside0.mk (Below.refl w'.heap.size w')
   have I1 := Aside0.mk ((HF.out.block _ (by omega)).trans I0.out)
   have i1 : w.heap.size < w'.heap.size := by have := HF.out.size; omega
   have HC1 := Aside0.mk (Kd.C_below HR.out HF.out)
   have HM1 := Aside0.mk (Kd.C_below HM.out HF.out)
   have HWB := Aside0.mk (HVB.out.trans (HF.out.mono HVB.out.size))
   clear HC HR HM I0 D0 E0 HVB HF HV N78
   go_wp2
   go_loopw [9, 17] (fun vs vi wr => ∃ k : Nat, k ≤ 3 ∧ vi = .int .i64 (k : Int) ∧ vs = .int .i64 (sumP rs ms (plP l (aL, aS, aR)) (plP l (bL, bS, bR)) k) ∧ Aside0 (Below w'.heap.size w' wr)) (fun vs vi _ => 3 - (intOf vi).toNat)
   case atStart => exact ⟨0, by omega, rfl, rfl, ⟨Below.refl _ _⟩⟩
   case round =>
    obtain ⟨k, hk, rfl, rfl, hB⟩ := hrel
    by_cases hlt : k < 3
    · have d1 : decide ((k : Int) < 3) = true := decide_eq_true (by omega)
      have hI := (hB.out.block _ i1).trans I1.out
      have h7 := (hB.out.block _ (Array.getElem?_eq_some_iff.1 B7.out.1).1).trans B7.out.1
      have h8 := (hB.out.block _ (Array.getElem?_eq_some_iff.1 B8.out.1).1).trans B8.out.1
      obtain ⟨y0, y1, y2, y3, y4, y5⟩ := cz6 hI
      obtain ⟨u0, u1, u2⟩ := cz3 h7
      obtain ⟨v0, v1, v2⟩ := cz3 h8
      clear hI h7 h8
      have hw : wrap64 ((k : Int) + 1) = (k : Int) + 1 := by unfold wrap64; omega
      go_wp2_with (go_at_call 349; (try rw [hw]); refine (cost_calls A0 n0 c0 A1 l.length c1 A2 c2 A3 c3 rs ms p q ((k : Int) + 1) (plP l (aL, aS, aR)) (plP l (bL, bS, bR)) wr (Kd.C_below HC1.out hB.out) (Kd.C_below HM1.out hB.out)).mono ?_; rintro e w3 ⟨rfl, hb⟩; have HB3 := Aside0.mk hb; clear hb)
      go_roundw
      case rel => exact ⟨k + 1, by omega, by simp, rfl, ⟨hB.out.trans (HB3.out.mono hB.out.size)⟩⟩
      case measure => simp [intOf]; omega
    · obtain rfl : k = 3 := by omega
      go_wp2
      go_ret
      exact ⟨rfl, HWB.out.trans (hB.out.mono HWB.out.size)⟩
theorem len_dAliases : dAliases.length = 54 := by kernel_rfl
theorem C59 {W : World} {B : Nat} {T : TypeId} {m : Nat × Nat} (xs : List S59) (hn : xs.length ≤ 9223372036854775807) (h : W.heap[B]? = some (.cells (xs.flatMap enc59).toArray T m)) : Kd.C k59 W (some ⟨B, 0, none⟩) xs.length xs := C_blk k59 enc59 (fun _ => rfl) (fun w x => k59_mk w x) xs hn h
theorem len_dRows : dRows.length = 32 := by kernel_rfl
theorem len_dRules : dRules.length = 15 := by kernel_rfl
theorem len_dMembers : dMembers.length = 7 := by kernel_rfl
theorem aliases_lit (w : World) : Calls Tryz.prog 54 #[] w fun e W => (∃ B, e = .returned (.slice (some ⟨B, 0, none⟩) 54 54) ∧ w.heap.size ≤ B ∧ Kd.C k59 W (some ⟨B, 0, none⟩) dAliases.length dAliases) ∧ Below w.heap.size w W := by
 refine (aliases_calls w).mono ?_
 rintro e W ⟨rfl, rfl⟩
 exact ⟨⟨_, rfl, Nat.le_refl _, C59 dAliases (by rw [len_dAliases]; decide) (World.alloc_heap_new w _)⟩, below_alloc (Below.refl _ _) _⟩
theorem drows_lit (w : World) : Calls Tryz.prog 55 #[] w fun e W => (∃ B, e = .returned (.slice (some ⟨B, 0, none⟩) 32 32) ∧ w.heap.size ≤ B ∧ Kd.C k66 W (some ⟨B, 0, none⟩) dRows.length dRows) ∧ Below w.heap.size w W := by
 refine (drows_calls w).mono ?_
 rintro e W ⟨rfl, rfl⟩
 exact ⟨⟨_, rfl, Nat.le_refl _, C66 dRows (by rw [len_dRows]; decide) (World.alloc_heap_new w _)⟩, below_alloc (Below.refl _ _) _⟩
theorem drules_lit (w : World) : Calls Tryz.prog 56 #[] w fun e W => (∃ B, e = .returned (.slice (some ⟨B, 0, none⟩) 15 15) ∧ w.heap.size ≤ B ∧ Kd.C k53 W (some ⟨B, 0, none⟩) dRules.length dRules) ∧ Below w.heap.size w W := by
 refine (drules_calls w).mono ?_
 rintro e W ⟨rfl, rfl⟩
 exact ⟨⟨_, rfl, Nat.le_refl _, C53 dRules (by rw [len_dRules]; decide) (World.alloc_heap_new w _)⟩, below_alloc (Below.refl _ _) _⟩
theorem dmembers_lit (w : World) : Calls Tryz.prog 57 #[] w fun e W => (∃ B, e = .returned (.slice (some ⟨B, 0, none⟩) 7 7) ∧ w.heap.size ≤ B ∧ Kd.C k69 W (some ⟨B, 0, none⟩) dMembers.length dMembers) ∧ Below w.heap.size w W := by
 refine (dmembers_calls w).mono ?_
 rintro e W ⟨rfl, rfl⟩
 exact ⟨⟨_, rfl, Nat.le_refl _, C69 dMembers (by rw [len_dMembers]; decide) (World.alloc_heap_new w _)⟩, below_alloc (Below.refl _ _) _⟩
def imgV (B1 B2 B3 B4 : Nat) : Value := .agg #[.slice (some ⟨B1, 0, none⟩) 54 54, .slice (some ⟨B2, 0, none⟩) 32 32, .slice (some ⟨B3, 0, none⟩) 15 15, .slice (some ⟨B4, 0, none⟩) 7 7, .int .i64 40, .int .i64 5]
theorem image_calls (w : World) : Calls Tryz.prog 24 #[] w fun e W => (∃ B1 B2 B3 B4, e = .returned (imgV B1 B2 B3 B4) ∧ Kd.C k59 W (some ⟨B1, 0, none⟩) dAliases.length dAliases ∧ Kd.C k66 W (some ⟨B2, 0, none⟩) dRows.length dRows ∧ Kd.C k53 W (some ⟨B3, 0, none⟩) dRules.length dRules ∧ Kd.C k69 W (some ⟨B4, 0, none⟩) dMembers.length dMembers) ∧ Below w.heap.size w W := by
 have hu39 := Tryz.underlying51
 obtain ⟨V, hV⟩ : ∃ V, V = w.alloc (.cells #[.slice none 0 0, .slice none 0 0, .slice none 0 0, .slice none 0 0, .int .i64 0, .int .i64 0] 51) := ⟨_, rfl⟩
 have vT : Blk V w.heap.size #[.slice none 0 0, .slice none 0 0, .slice none 0 0, .slice none 0 0, .int .i64 0, .int .i64 0] 51 := by rw [hV]; exact Blk.new w _ _
 have vB : Below w.heap.size w V := by rw [hV]; exact below_alloc (Below.refl _ _) _
 have HV := Aside0.mk hV
 have HT := Aside0.mk vT
 have HB := Aside0.mk vB
 clear hV vT vB
 go_enter Tryz.func24, Tryz.ntmps24
 go_wp2_with (first
  | (go_at_call 54; rw [← HV.out]; refine (aliases_lit V).mono ?_; rintro e w1 ⟨⟨B1, rfl, hl, hc⟩, hb⟩; have L1 := Aside0.mk (show B1 ≠ w.heap.size by have := HT.out.lt; omega); have C1 := Aside0.mk hc; have T1 := Aside0.mk (HT.out.below HT.out.lt hb); have P1 := Aside0.mk (HB.out.trans (hb.mono HB.out.size)); clear hb hc hl)
  | (go_at_call 55; refine (drows_lit w1).mono ?_; rintro e w2 ⟨⟨B2, rfl, hl, hc⟩, hb⟩; have L2 := Aside0.mk (show B2 ≠ w.heap.size by have := T1.out.lt; omega); have T2 := Aside0.mk (T1.out.below T1.out.lt hb); have P2 := Aside0.mk (P1.out.trans (hb.mono P1.out.size)); have C1b := Aside0.mk (Kd.C_below C1.out hb); have C2 := Aside0.mk hc; clear hb hc hl)
  | (go_at_call 56; refine (drules_lit w2).mono ?_; rintro e w3 ⟨⟨B3, rfl, hl, hc⟩, hb⟩; have L3 := Aside0.mk (show B3 ≠ w.heap.size by have := T2.out.lt; omega); have T3 := Aside0.mk (T2.out.below T2.out.lt hb); have P3 := Aside0.mk (P2.out.trans (hb.mono P2.out.size)); have C1c := Aside0.mk (Kd.C_below C1b.out hb); have C2b := Aside0.mk (Kd.C_below C2.out hb); have C3 := Aside0.mk hc; clear hb hc hl)
  | (go_at_call 57; refine (dmembers_lit w3).mono ?_; rintro e w4 ⟨⟨B4, rfl, hl, hc⟩, hb⟩; have L4 := Aside0.mk (show B4 ≠ w.heap.size by have := T3.out.lt; omega); have T4 := Aside0.mk (T3.out.below T3.out.lt hb); have P4 := Aside0.mk (P3.out.trans (hb.mono P3.out.size)); have C1d := Aside0.mk (Kd.C_below C1c.out hb); have C2c := Aside0.mk (Kd.C_below C2b.out hb); have C3b := Aside0.mk (Kd.C_below C3.out hb); have C4 := Aside0.mk hc; obtain ⟨y0, y1, y2, y3, y4, y5⟩ := cz6 (show w4.heap[w.heap.size]? = _ from T4.out); obtain ⟨z0, z1, z2, z3, z4, z5⟩ := fz6 (show w4.heap[w.heap.size]? = _ from T4.out); clear hb hc hl))
 refine bodyPost_ret (results_cell_row rfl _ _ w.heap.size 51 #[.slice (some ⟨B1, 0, none⟩) 54 54, .slice (some ⟨B2, 0, none⟩) 32 32, .slice (some ⟨B3, 0, none⟩) 15 15, .slice (some ⟨B4, 0, none⟩) 7 7, .int .i64 40, .int .i64 5] (0, 0) _ rfl (bx (blk_put (cs := #[.slice (some ⟨B1, 0, none⟩) 54 54, .slice (some ⟨B2, 0, none⟩) 32 32, .slice (some ⟨B3, 0, none⟩) 15 15, .slice (some ⟨B4, 0, none⟩) 7 7, .int .i64 40, .int .i64 0]) (bx (blk_put (cs := #[.slice (some ⟨B1, 0, none⟩) 54 54, .slice (some ⟨B2, 0, none⟩) 32 32, .slice (some ⟨B3, 0, none⟩) 15 15, .slice (some ⟨B4, 0, none⟩) 7 7, .int .i64 0, .int .i64 0]) (bx (blk_put (cs := #[.slice (some ⟨B1, 0, none⟩) 54 54, .slice (some ⟨B2, 0, none⟩) 32 32, .slice (some ⟨B3, 0, none⟩) 15 15, .slice none 0 0, .int .i64 0, .int .i64 0]) (bx (blk_put (cs := #[.slice (some ⟨B1, 0, none⟩) 54 54, .slice (some ⟨B2, 0, none⟩) 32 32, .slice none 0 0, .slice none 0 0, .int .i64 0, .int .i64 0]) (bx (blk_put (cs := #[.slice (some ⟨B1, 0, none⟩) 54 54, .slice none 0 0, .slice none 0 0, .slice none 0 0, .int .i64 0, .int .i64 0]) (bx (blk_put (cs := #[.slice none 0 0, .slice none 0 0, .slice none 0 0, .slice none 0 0, .int .i64 0, .int .i64 0]) (T4.out) 0 _ rfl)) 1 _ rfl)) 2 _ rfl)) 3 _ rfl)) 4 _ rfl)) 5 _ rfl)) Tryz.underlying51 rfl (by kernel_rfl)) rfl ?_
 exact ⟨⟨B1, B2, B3, B4, rfl, C_same flat59 C1d.out (fun a e => by cases e; (repeat rw [set_heap _ _ _ _ _ L1.out])), C_same flat66 C2c.out (fun a e => by cases e; (repeat rw [set_heap _ _ _ _ _ L2.out])), C_same flat53 C3b.out (fun a e => by cases e; (repeat rw [set_heap _ _ _ _ _ L3.out])), C_same flat69 C4.out (fun a e => by cases e; (repeat rw [set_heap _ _ _ _ _ L4.out]))⟩, by repeat (first | (with_reducible first | exact P4.out | apply wA | apply wN | apply wD | refine wS ?_ (Nat.le_refl _)) | exact P4.out)⟩
end Go.Proofs.YtpmcfckechjppaaGreatDoor.LikW
