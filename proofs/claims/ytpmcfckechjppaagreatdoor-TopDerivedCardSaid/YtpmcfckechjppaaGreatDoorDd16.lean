/- Made by a program of this seat's own (shake.py, merge.py): what the claim leans on: DistDist, Image, Find, Steps, Step, TagP. -/
import Derived.Test.YtpmcfckechjppaaGreatDoorDd07
import Derived.Test.YtpmcfckechjppaaGreatDoorDd15
import Derived.StillTailTactics
import Derived.LoopN
set_option linter.unusedVariables false
set_option linter.unusedSimpArgs false
set_option maxRecDepth 100000
set_option maxHeartbeats 8000000
namespace Go.Proofs.YtpmcfckechjppaaGreatDoor.LikW
open Go.RowKit Go.Proofs.YtpmcfckechjppaaGreatDoorW.PrintWords Go.Proofs.YtpmcfckechjppaaGreatDoorW.PrintLast Go.Proofs.YtpmcfckechjppaaGreatDoor.P
def k4f : Bool × List (List Nat × List Nat) := (true, [([], []), ([], []), ([0, 1], [0, 1]), ([], []), ([], []), ([3, 4, 2], [3, 4]), ([], []), ([], []), ([6, 2, 5, 0, 1, 2, 6, 7], [2, 6]), ([7, 5, 8, 0, 1, 2, 3, 4, 5, 6, 7, 8], [5, 7])])
def k8e : List Nat := [0, 0, 3, 0, 0, 31, 0, 0, 255, 511]
theorem k0y : q9c .any (opsOf Tryz.f341 1) = k4f := by kernel_rfl
theorem v6t : q6y k4f.2 k8e = true := by kernel_rfl
theorem wS3 {n g : Nat} {w W : World} {v0 v1 v2 : Value} (h : Below n w W) (hg : n ≤ g) : Below n w (((W.setCell ⟨g, 0, none⟩ v0).setCell ⟨g, 1, none⟩ v1).setCell ⟨g, 2, none⟩ v2) :=
 ((h.setCell (p := ⟨g, 0, none⟩) hg v0).setCell (p := ⟨g, 1, none⟩) hg v1).setCell (p := ⟨g, 2, none⟩) hg v2
def j0y (rs : List S53) (ms : List S69) (d s : K3) : Nat → Int
 | 0 => 0
 | k + 1 => wrap64 (j0y rs ms d s k + z3o rs ms ((k : Int) + 1) d s)
theorem v5t (A0 : Option Addr) (n0 c0 : Nat) (A1 : Option Addr) (c1 : Nat) (l : List S66) (A2 : Option Addr) (c2 : Nat) (rs : List S53) (A3 : Option Addr) (c3 : Nat) (ms : List S69) (p q : Int) (aL aS aR aG : ByteArray) (Ea0 : Option Addr) (ma0 da0 : Nat) (Ea1 : Option Addr) (ma1 da1 : Nat) (Ea2 : Option Addr) (ma2 da2 : Nat) (Ea3 : Option Addr) (ma3 da3 : Nat) (bL bS bR bG : ByteArray) (Eb0 : Option Addr) (mb0 db0 : Nat) (Eb1 : Option Addr) (mb1 db1 : Nat) (Eb2 : Option Addr) (mb2 db2 : Nat) (Eb3 : Option Addr) (mb3 db3 : Nat) (w : World) (hL : Kd.C k66 w A1 l.length l) (hR : Kd.C k53 w A2 rs.length rs) (hM : Kd.C k69 w A3 ms.length ms) :
 Calls Tryz.prog 341 #[.agg #[.slice A0 n0 c0, .slice A1 l.length c1, .slice A2 rs.length c2, .slice A3 ms.length c3, .int .i64 p, .int .i64 q], .agg #[.string aL, .slice Ea0 ma0 da0, .string aS, .string aR, .slice Ea1 ma1 da1, .slice Ea2 ma2 da2, .slice Ea3 ma3 da3, .string aG], .agg #[.string bL, .slice Eb0 mb0 db0, .string bS, .string bR, .slice Eb1 mb1 db1, .slice Eb2 mb2 db2, .slice Eb3 mb3 db3, .string bG]] w fun e w' => e = .returned (.int .i64 (j0y rs ms (plP l (aL, aS, aR)) (plP l (bL, bS, bR)) 3)) ∧ Below w.heap.size w w' := by
 have hu39 := Tryz.underlying51
 have hu44 := Tryz.underlying33
 have hu30 := Tryz.underlying123
 obtain ⟨V, hV⟩ : ∃ V, V = (((w.alloc (.cells #[.slice A0 n0 c0, .slice A1 l.length c1, .slice A2 rs.length c2, .slice A3 ms.length c3, .int .i64 p, .int .i64 q] 51)).alloc (.cells #[.string aL, .slice Ea0 ma0 da0, .string aS, .string aR, .slice Ea1 ma1 da1, .slice Ea2 ma2 da2, .slice Ea3 ma3 da3, .string aG] 33)).alloc (.cells #[.string bL, .slice Eb0 mb0 db0, .string bS, .string bR, .slice Eb1 mb1 db1, .slice Eb2 mb2 db2, .slice Eb3 mb3 db3, .string bG] 33)).drew := ⟨_, rfl⟩
 have vs : V.heap.size = w.heap.size + 3 := by rw [hV]; simp
 have vB : Below w.heap.size w V := by rw [hV]; exact q0m (by repeat (first | exact Below.refl _ _ | apply q0b))
 have vI : V.heap[w.heap.size]? = some (.cells #[.slice A0 n0 c0, .slice A1 l.length c1, .slice A2 rs.length c2, .slice A3 ms.length c3, .int .i64 p, .int .i64 q] 51 (0, 0)) := by rw [hV]; exact (q0m (q0b (q0b (Below.refl _ _) _) _) : Below (w.alloc (.cells #[.slice A0 n0 c0, .slice A1 l.length c1, .slice A2 rs.length c2, .slice A3 ms.length c3, .int .i64 p, .int .i64 q] 51)).heap.size (w.alloc (.cells #[.slice A0 n0 c0, .slice A1 l.length c1, .slice A2 rs.length c2, .slice A3 ms.length c3, .int .i64 p, .int .i64 q] 51)) _).block _ (by simp) |>.trans (World.alloc_heap_new w _)
 have vD : V.heap[w.heap.size + 1]? = some (.cells #[.string aL, .slice Ea0 ma0 da0, .string aS, .string aR, .slice Ea1 ma1 da1, .slice Ea2 ma2 da2, .slice Ea3 ma3 da3, .string aG] 33 (0, 0)) := by
  have := World.alloc_heap_new (w.alloc (.cells #[.slice A0 n0 c0, .slice A1 l.length c1, .slice A2 rs.length c2, .slice A3 ms.length c3, .int .i64 p, .int .i64 q] 51)) (.cells #[.string aL, .slice Ea0 ma0 da0, .string aS, .string aR, .slice Ea1 ma1 da1, .slice Ea2 ma2 da2, .slice Ea3 ma3 da3, .string aG] 33)
  rw [World.size_alloc] at this
  rw [hV]; exact (q0m (q0b (Below.refl _ _) _) : Below ((w.alloc (.cells #[.slice A0 n0 c0, .slice A1 l.length c1, .slice A2 rs.length c2, .slice A3 ms.length c3, .int .i64 p, .int .i64 q] 51)).alloc (.cells #[.string aL, .slice Ea0 ma0 da0, .string aS, .string aR, .slice Ea1 ma1 da1, .slice Ea2 ma2 da2, .slice Ea3 ma3 da3, .string aG] 33)).heap.size ((w.alloc (.cells #[.slice A0 n0 c0, .slice A1 l.length c1, .slice A2 rs.length c2, .slice A3 ms.length c3, .int .i64 p, .int .i64 q] 51)).alloc (.cells #[.string aL, .slice Ea0 ma0 da0, .string aS, .string aR, .slice Ea1 ma1 da1, .slice Ea2 ma2 da2, .slice Ea3 ma3 da3, .string aG] 33)) _).block _ (by simp) |>.trans this
 have vE : V.heap[w.heap.size + 1 + 1]? = some (.cells #[.string bL, .slice Eb0 mb0 db0, .string bS, .string bR, .slice Eb1 mb1 db1, .slice Eb2 mb2 db2, .slice Eb3 mb3 db3, .string bG] 33 (0, 0)) := by
  have := World.alloc_heap_new ((w.alloc (.cells #[.slice A0 n0 c0, .slice A1 l.length c1, .slice A2 rs.length c2, .slice A3 ms.length c3, .int .i64 p, .int .i64 q] 51)).alloc (.cells #[.string aL, .slice Ea0 ma0 da0, .string aS, .string aR, .slice Ea1 ma1 da1, .slice Ea2 ma2 da2, .slice Ea3 ma3 da3, .string aG] 33)) (.cells #[.string bL, .slice Eb0 mb0 db0, .string bS, .string bR, .slice Eb1 mb1 db1, .slice Eb2 mb2 db2, .slice Eb3 mb3 db3, .string bG] 33)
  rw [World.size_alloc, World.size_alloc] at this
  rw [hV]; exact this
 have HC := aq (Kd.q0h hL vB)
 have HR := aq (Kd.q0h hR vB)
 have HM := aq (Kd.q0h hM vB)
 have I0 := aq vI
 have D0 := aq vD
 have E0 := aq vE
 have HVB := aq vB
 have HB := aq (Below.refl V.heap.size V)
 have HV := aq hV
 clear hL hR hM vI vD vE vB hV
 go_enter Tryz.func341, Tryz.ntmps341
 go_wp2
 refine q2w (n := 10) (S := fun w' => True) (ds := []) (M 10 0) (by kernel_rfl) rfl rfl trivial (fun hHeld => ?_); refine z3d k0y v6t (fun HT_ HW_ => ?_)
 rw [← HV.out]
 refine k3n [0, 1, 2, 3, 4, 5, 6, 7, 8, 9] (fun a0_ b a w' => ∃ (g7 : Nat) (g8 : Nat) (m6_ : Value) (m7_ : Value), a = q3j a0_ b [(0, 11, .agg #[.slice A0 n0 c0, .slice A1 l.length c1, .slice A2 rs.length c2, .slice A3 ms.length c3, .int .i64 p, .int .i64 q]), (1, 12, .agg #[.string aL, .slice Ea0 ma0 da0, .string aS, .string aR, .slice Ea1 ma1 da1, .slice Ea2 ma2 da2, .slice Ea3 ma3 da3, .string aG]), (2, 13, .agg #[.string (plP l (aL, aS, aR)).1, .string (plP l (aL, aS, aR)).2.1, .string (plP l (aL, aS, aR)).2.2]), (3, 14, .agg #[.slice A0 n0 c0, .slice A1 l.length c1, .slice A2 rs.length c2, .slice A3 ms.length c3, .int .i64 p, .int .i64 q]), (4, 15, .agg #[.string bL, .slice Eb0 mb0 db0, .string bS, .string bR, .slice Eb1 mb1 db1, .slice Eb2 mb2 db2, .slice Eb3 mb3 db3, .string bG]), (5, 16, .agg #[.string (plP l (bL, bS, bR)).1, .string (plP l (bL, bS, bR)).2.1, .string (plP l (bL, bS, bR)).2.2]), (6, 7, m6_), (7, 8, m7_)] ∧ (Below V.heap.size V w') ∧ (b 6 = true → b 8 = false → w'.heap[g7]? = some (.cells #[.string ⟨#[]⟩, .string ⟨#[]⟩, .string ⟨#[]⟩] 123 (0, 0)) ∧ V.heap.size ≤ g7) ∧ (b 7 = true → b 9 = false → w'.heap[g8]? = some (.cells #[.string ⟨#[]⟩, .string ⟨#[]⟩, .string ⟨#[]⟩] 123 (0, 0)) ∧ V.heap.size ≤ g8) ∧ (b 6 = true → b 7 = true → g7 ≠ g8) ∧ (b 8 = true → w'.heap[g7]? = some (.cells #[.string (plP l (aL, aS, aR)).1, .string (plP l (aL, aS, aR)).2.1, .string (plP l (aL, aS, aR)).2.2] 123 (0, 0)) ∧ V.heap.size ≤ g7) ∧ (b 9 = true → w'.heap[g8]? = some (.cells #[.string (plP l (bL, bS, bR)).1, .string (plP l (bL, bS, bR)).2.1, .string (plP l (bL, bS, bR)).2.2] 123 (0, 0)) ∧ V.heap.size ≤ g8) ∧ (b 6 = true → (m6_ : Value) = .pointer (some ⟨g7, 0, none⟩)) ∧ (b 7 = true → (m7_ : Value) = .pointer (some ⟨g8, 0, none⟩))) HT_.out HW_.out (by kernel_rfl) (by kernel_rfl) ?_ ?_ ?_
 · exact ⟨0, 0, .bool false, .bool false, by simp only [q3j, Bool.false_eq_true, if_false], HB.out, fun h_ => absurd h_ (by decide), fun h_ => absurd h_ (by decide), fun h_ => absurd h_ (by decide), fun h_ => absurd h_ (by decide), fun h_ => absurd h_ (by decide), fun h_ => absurd h_ (by decide), fun h_ => absurd h_ (by decide)⟩
 · skip
   clear HB
   refine q1k ?_ ?_
   · rintro b a w' ⟨g7, g8, m6_, m7_, ha, Q_HB, Q_A7, Q_A8, Q_N78, Q_B7, Q_B8, Q_X6_, Q_X7_⟩ hb_ hon hoff
     refine ⟨_, rfl, fun K hK => ?_⟩
     have e3 : a.tmps[3]? = some (.pointer (some ⟨w.heap.size, 0, none⟩)) := by rw [ha]; exact (q3t rfl).trans rfl
     replace ha := aq ha
     have HB := aq Q_HB
     have hV_ := (HB.out.block _ (by omega)).trans I0.out
     obtain ⟨y0, y1, y2, y3, y4, y5⟩ := cz6 hV_
     clear hV_
     refine q2x (w1 := w') (v := .agg #[.slice A0 n0 c0, .slice A1 l.length c1, .slice A2 rs.length c2, .slice A3 ms.length c3, .int .i64 p, .int .i64 q]) (by rfl) rfl ?_ ?_
     · go_simp
       (try simp only [q6g])
       try rfl
     refine hK.out _ _ ⟨g7, g8, m6_, m7_, (by rw [ha.out]; exact q1p 0 hb_ rfl rfl rfl), Q_HB, Q_A7, Q_A8, Q_N78, fun h0_ => absurd ((hoff 8 (by kernel_rfl)).symm.trans h0_) (by decide), fun h0_ => absurd ((hoff 9 (by kernel_rfl)).symm.trans h0_) (by decide), Q_X6_, Q_X7_⟩
   refine q1k ?_ ?_
   · rintro b a w' ⟨g7, g8, m6_, m7_, ha, Q_HB, Q_A7, Q_A8, Q_N78, Q_B7, Q_B8, Q_X6_, Q_X7_⟩ hb_ hon hoff
     refine ⟨_, rfl, fun K hK => ?_⟩
     have e4 : a.tmps[4]? = some (.pointer (some ⟨w.heap.size + 1, 0, none⟩)) := by rw [ha]; exact (q3t rfl).trans rfl
     replace ha := aq ha
     have HB := aq Q_HB
     have hV_ := (HB.out.block _ (by omega)).trans D0.out
     obtain ⟨y0, y1, y2, y3, y4, y5, y6, y7⟩ := cz8 hV_
     clear hV_
     refine q2x (w1 := w') (v := .agg #[.string aL, .slice Ea0 ma0 da0, .string aS, .string aR, .slice Ea1 ma1 da1, .slice Ea2 ma2 da2, .slice Ea3 ma3 da3, .string aG]) (by rfl) rfl ?_ ?_
     · go_simp
       (try simp only [q6g])
       try rfl
     refine hK.out _ _ ⟨g7, g8, m6_, m7_, (by rw [ha.out]; exact q1p 1 hb_ rfl rfl rfl), Q_HB, Q_A7, Q_A8, Q_N78, fun h0_ => absurd ((hoff 8 (by kernel_rfl)).symm.trans h0_) (by decide), fun h0_ => absurd ((hoff 9 (by kernel_rfl)).symm.trans h0_) (by decide), Q_X6_, Q_X7_⟩
   refine q1k ?_ ?_
   · rintro b a w' ⟨g7, g8, m6_, m7_, ha, Q_HB, Q_A7, Q_A8, Q_N78, Q_B7, Q_B8, Q_X6_, Q_X7_⟩ hb_ hon hoff
     refine ⟨_, rfl, fun K hK => ?_⟩
     have e11 : a.tmps[11]? = some (.agg #[.slice A0 n0 c0, .slice A1 l.length c1, .slice A2 rs.length c2, .slice A3 ms.length c3, .int .i64 p, .int .i64 q]) := by rw [ha]; exact q1w (e := (0, 11, .agg #[.slice A0 n0 c0, .slice A1 l.length c1, .slice A2 rs.length c2, .slice A3 ms.length c3, .int .i64 p, .int .i64 q])) 0 rfl rfl (hon 0 (by kernel_rfl)) rfl
     have e12 : a.tmps[12]? = some (.agg #[.string aL, .slice Ea0 ma0 da0, .string aS, .string aR, .slice Ea1 ma1 da1, .slice Ea2 ma2 da2, .slice Ea3 ma3 da3, .string aG]) := by rw [ha]; exact q1w (e := (1, 12, .agg #[.string aL, .slice Ea0 ma0 da0, .string aS, .string aR, .slice Ea1 ma1 da1, .slice Ea2 ma2 da2, .slice Ea3 ma3 da3, .string aG])) 1 rfl rfl (hon 1 (by kernel_rfl)) rfl
     replace ha := aq ha
     have HB := aq Q_HB
     refine q5j Tryz.func348 (by kernel_rfl) rfl #[.agg #[.slice A0 n0 c0, .slice A1 l.length c1, .slice A2 rs.length c2, .slice A3 ms.length c3, .int .i64 p, .int .i64 q], .agg #[.string aL, .slice Ea0 ma0 da0, .string aS, .string aR, .slice Ea1 ma1 da1, .slice Ea2 ma2 da2, .slice Ea3 ma3 da3, .string aG]] (by rfl) rfl rfl (by first | (simp only [List.map_toArray, List.map_cons, List.map_nil, Act.eval, Array.getD_eq_getD_getElem?, Option.getD_some, e11, e12]; done) | (simp only [List.map_toArray, List.map_cons, List.map_nil, Act.eval, Array.getD_eq_getD_getElem?, Option.getD_some, e11, e12]; rfl)) ?_
     with_reducible refine (z1l A0 n0 c0 A1 c1 l A2 rs.length c2 A3 ms.length c3 p q aL aS aR aG Ea0 ma0 da0 Ea1 ma1 da1 Ea2 ma2 da2 Ea3 ma3 da3 w' (Kd.q0h HC.out HB.out)).mono ?_
     rintro e w3 ⟨rfl, hb⟩
     refine ⟨_, rfl, ?_⟩
     refine hK.out _ _ ⟨g7, g8, m6_, m7_, (by rw [ha.out]; exact q1p 2 hb_ rfl rfl rfl), HB.out.trans (hb.mono HB.out.size), fun h0_ h1_ => ⟨(hb.block _ (Array.getElem?_eq_some_iff.1 (Q_A7 h0_ h1_).1).1).trans (Q_A7 h0_ h1_).1, (Q_A7 h0_ h1_).2⟩, fun h0_ h1_ => ⟨(hb.block _ (Array.getElem?_eq_some_iff.1 (Q_A8 h0_ h1_).1).1).trans (Q_A8 h0_ h1_).1, (Q_A8 h0_ h1_).2⟩, Q_N78, fun h0_ => absurd ((hoff 8 (by kernel_rfl)).symm.trans h0_) (by decide), fun h0_ => absurd ((hoff 9 (by kernel_rfl)).symm.trans h0_) (by decide), Q_X6_, Q_X7_⟩
   refine q1k ?_ ?_
   · rintro b a w' ⟨g7, g8, m6_, m7_, ha, Q_HB, Q_A7, Q_A8, Q_N78, Q_B7, Q_B8, Q_X6_, Q_X7_⟩ hb_ hon hoff
     refine ⟨_, rfl, fun K hK => ?_⟩
     have e3 : a.tmps[3]? = some (.pointer (some ⟨w.heap.size, 0, none⟩)) := by rw [ha]; exact (q3t rfl).trans rfl
     replace ha := aq ha
     have HB := aq Q_HB
     have hV_ := (HB.out.block _ (by omega)).trans I0.out
     obtain ⟨y0, y1, y2, y3, y4, y5⟩ := cz6 hV_
     clear hV_
     refine q2x (w1 := w') (v := .agg #[.slice A0 n0 c0, .slice A1 l.length c1, .slice A2 rs.length c2, .slice A3 ms.length c3, .int .i64 p, .int .i64 q]) (by rfl) rfl ?_ ?_
     · go_simp
       (try simp only [q6g])
       try rfl
     refine hK.out _ _ ⟨g7, g8, m6_, m7_, (by rw [ha.out]; exact q1p 3 hb_ rfl rfl rfl), Q_HB, Q_A7, Q_A8, Q_N78, fun h0_ => absurd ((hoff 8 (by kernel_rfl)).symm.trans h0_) (by decide), fun h0_ => absurd ((hoff 9 (by kernel_rfl)).symm.trans h0_) (by decide), Q_X6_, Q_X7_⟩
   refine q1k ?_ ?_
   · rintro b a w' ⟨g7, g8, m6_, m7_, ha, Q_HB, Q_A7, Q_A8, Q_N78, Q_B7, Q_B8, Q_X6_, Q_X7_⟩ hb_ hon hoff
     refine ⟨_, rfl, fun K hK => ?_⟩
     have e5 : a.tmps[5]? = some (.pointer (some ⟨w.heap.size + 1 + 1, 0, none⟩)) := by rw [ha]; exact (q3t rfl).trans rfl
     replace ha := aq ha
     have HB := aq Q_HB
     have hV_ := (HB.out.block _ (by omega)).trans E0.out
     obtain ⟨y0, y1, y2, y3, y4, y5, y6, y7⟩ := cz8 hV_
     clear hV_
     refine q2x (w1 := w') (v := .agg #[.string bL, .slice Eb0 mb0 db0, .string bS, .string bR, .slice Eb1 mb1 db1, .slice Eb2 mb2 db2, .slice Eb3 mb3 db3, .string bG]) (by rfl) rfl ?_ ?_
     · go_simp
       (try simp only [q6g])
       try rfl
     refine hK.out _ _ ⟨g7, g8, m6_, m7_, (by rw [ha.out]; exact q1p 4 hb_ rfl rfl rfl), Q_HB, Q_A7, Q_A8, Q_N78, fun h0_ => absurd ((hoff 8 (by kernel_rfl)).symm.trans h0_) (by decide), fun h0_ => absurd ((hoff 9 (by kernel_rfl)).symm.trans h0_) (by decide), Q_X6_, Q_X7_⟩
   refine q1k ?_ ?_
   · rintro b a w' ⟨g7, g8, m6_, m7_, ha, Q_HB, Q_A7, Q_A8, Q_N78, Q_B7, Q_B8, Q_X6_, Q_X7_⟩ hb_ hon hoff
     refine ⟨_, rfl, fun K hK => ?_⟩
     have e14 : a.tmps[14]? = some (.agg #[.slice A0 n0 c0, .slice A1 l.length c1, .slice A2 rs.length c2, .slice A3 ms.length c3, .int .i64 p, .int .i64 q]) := by rw [ha]; exact q1w (e := (3, 14, .agg #[.slice A0 n0 c0, .slice A1 l.length c1, .slice A2 rs.length c2, .slice A3 ms.length c3, .int .i64 p, .int .i64 q])) 3 rfl rfl (hon 3 (by kernel_rfl)) rfl
     have e15 : a.tmps[15]? = some (.agg #[.string bL, .slice Eb0 mb0 db0, .string bS, .string bR, .slice Eb1 mb1 db1, .slice Eb2 mb2 db2, .slice Eb3 mb3 db3, .string bG]) := by rw [ha]; exact q1w (e := (4, 15, .agg #[.string bL, .slice Eb0 mb0 db0, .string bS, .string bR, .slice Eb1 mb1 db1, .slice Eb2 mb2 db2, .slice Eb3 mb3 db3, .string bG])) 4 rfl rfl (hon 4 (by kernel_rfl)) rfl
     replace ha := aq ha
     have HB := aq Q_HB
     refine q5j Tryz.func348 (by kernel_rfl) rfl #[.agg #[.slice A0 n0 c0, .slice A1 l.length c1, .slice A2 rs.length c2, .slice A3 ms.length c3, .int .i64 p, .int .i64 q], .agg #[.string bL, .slice Eb0 mb0 db0, .string bS, .string bR, .slice Eb1 mb1 db1, .slice Eb2 mb2 db2, .slice Eb3 mb3 db3, .string bG]] (by rfl) rfl rfl (by first | (simp only [List.map_toArray, List.map_cons, List.map_nil, Act.eval, Array.getD_eq_getD_getElem?, Option.getD_some, e14, e15]; done) | (simp only [List.map_toArray, List.map_cons, List.map_nil, Act.eval, Array.getD_eq_getD_getElem?, Option.getD_some, e14, e15]; rfl)) ?_
     with_reducible refine (z1l A0 n0 c0 A1 c1 l A2 rs.length c2 A3 ms.length c3 p q bL bS bR bG Eb0 mb0 db0 Eb1 mb1 db1 Eb2 mb2 db2 Eb3 mb3 db3 w' (Kd.q0h HC.out HB.out)).mono ?_
     rintro e w3 ⟨rfl, hb⟩
     refine ⟨_, rfl, ?_⟩
     refine hK.out _ _ ⟨g7, g8, m6_, m7_, (by rw [ha.out]; exact q1p 5 hb_ rfl rfl rfl), HB.out.trans (hb.mono HB.out.size), fun h0_ h1_ => ⟨(hb.block _ (Array.getElem?_eq_some_iff.1 (Q_A7 h0_ h1_).1).1).trans (Q_A7 h0_ h1_).1, (Q_A7 h0_ h1_).2⟩, fun h0_ h1_ => ⟨(hb.block _ (Array.getElem?_eq_some_iff.1 (Q_A8 h0_ h1_).1).1).trans (Q_A8 h0_ h1_).1, (Q_A8 h0_ h1_).2⟩, Q_N78, fun h0_ => absurd ((hoff 8 (by kernel_rfl)).symm.trans h0_) (by decide), fun h0_ => absurd ((hoff 9 (by kernel_rfl)).symm.trans h0_) (by decide), Q_X6_, Q_X7_⟩
   refine q1k ?_ ?_
   · rintro b a w' ⟨g7, g8, m6_, m7_, ha, Q_HB, Q_A7, Q_A8, Q_N78, Q_B7, Q_B8, Q_X6_, Q_X7_⟩ hb_ hon hoff
     refine ⟨_, rfl, fun K hK => ?_⟩
     replace ha := aq ha
     have HB := aq Q_HB
     refine z6q ?hg (N := 7) ?hd (cs := #[.string ⟨#[]⟩, .string ⟨#[]⟩, .string ⟨#[]⟩]) (t := 123) ?hr ?_; (case hd => rfl); (case hg => rfl); (case hr => first | (go_simp; done) | (go_simp; rfl))
     intro gb hg w3 hbox hb
     refine hK.out _ _ ⟨gb, g8, (.pointer (some ⟨gb, 0, none⟩)), m7_, (by rw [ha.out]; exact q1p 6 hb_ rfl rfl rfl), HB.out.trans (hb.mono HB.out.size), fun _ _ => ⟨hbox, by rw [hg]; exact HB.out.size⟩, fun h0_ h1_ => ⟨(hb.block _ (Array.getElem?_eq_some_iff.1 (Q_A8 h0_ h1_).1).1).trans (Q_A8 h0_ h1_).1, (Q_A8 h0_ h1_).2⟩, fun _ _ => by rename_i h6_ h7_; have h_ := (Array.getElem?_eq_some_iff.1 (Q_A8 h7_ (hoff 9 (by kernel_rfl))).1).1; rw [hg]; exact Nat.ne_of_gt h_, fun h0_ => absurd ((hoff 8 (by kernel_rfl)).symm.trans h0_) (by decide), fun h0_ => absurd ((hoff 9 (by kernel_rfl)).symm.trans h0_) (by decide), fun _ => rfl, Q_X7_⟩
   refine q1k ?_ ?_
   · rintro b a w' ⟨g7, g8, m6_, m7_, ha, Q_HB, Q_A7, Q_A8, Q_N78, Q_B7, Q_B8, Q_X6_, Q_X7_⟩ hb_ hon hoff
     refine ⟨_, rfl, fun K hK => ?_⟩
     replace ha := aq ha
     have HB := aq Q_HB
     refine z6q ?hg (N := 8) ?hd (cs := #[.string ⟨#[]⟩, .string ⟨#[]⟩, .string ⟨#[]⟩]) (t := 123) ?hr ?_; (case hd => rfl); (case hg => rfl); (case hr => first | (go_simp; done) | (go_simp; rfl))
     intro gb hg w3 hbox hb
     refine hK.out _ _ ⟨g7, gb, m6_, (.pointer (some ⟨gb, 0, none⟩)), (by rw [ha.out]; exact q1p 7 hb_ rfl rfl rfl), HB.out.trans (hb.mono HB.out.size), fun h0_ h1_ => ⟨(hb.block _ (Array.getElem?_eq_some_iff.1 (Q_A7 h0_ h1_).1).1).trans (Q_A7 h0_ h1_).1, (Q_A7 h0_ h1_).2⟩, fun _ _ => ⟨hbox, by rw [hg]; exact HB.out.size⟩, fun _ _ => by rename_i h6_ h7_; have h_ := (Array.getElem?_eq_some_iff.1 (Q_A7 h6_ (hoff 8 (by kernel_rfl))).1).1; rw [hg]; exact Nat.ne_of_lt h_, fun h0_ => absurd ((hoff 8 (by kernel_rfl)).symm.trans h0_) (by decide), fun h0_ => absurd ((hoff 9 (by kernel_rfl)).symm.trans h0_) (by decide), Q_X6_, fun _ => rfl⟩
   refine q1k ?_ ?_
   · rintro b a w' ⟨g7, g8, m6_, m7_, ha, Q_HB, Q_A7, Q_A8, Q_N78, Q_B7, Q_B8, Q_X6_, Q_X7_⟩ hb_ hon hoff
     refine ⟨_, rfl, fun K hK => ?_⟩
     have e7 : a.tmps[7]? = some (m6_) := by rw [ha]; exact q1w (e := (6, 7, m6_)) 6 rfl rfl (hon 6 (by kernel_rfl)) rfl
     rw [Q_X6_ (hon 6 (by kernel_rfl))] at e7
     have e13 : a.tmps[13]? = some (.agg #[.string (plP l (aL, aS, aR)).1, .string (plP l (aL, aS, aR)).2.1, .string (plP l (aL, aS, aR)).2.2]) := by rw [ha]; exact q1w (e := (2, 13, .agg #[.string (plP l (aL, aS, aR)).1, .string (plP l (aL, aS, aR)).2.1, .string (plP l (aL, aS, aR)).2.2])) 2 rfl rfl (hon 2 (by kernel_rfl)) rfl
     replace ha := aq ha
     have HB := aq Q_HB
     have A7 := aq (Q_A7 (hon 6 (by kernel_rfl)) hb_)
     have A8 := aq (Q_A8 (hon 7 (by kernel_rfl)) (hoff 9 (by kernel_rfl)))
     have N78 := aq (Q_N78 (hon 6 (by kernel_rfl)) (hon 7 (by kernel_rfl)))
     obtain ⟨y0, y1, y2⟩ := cz3 A7.out.1
     obtain ⟨z0, z1, z2⟩ := fz3 A7.out.1
     refine k9q (w1 := ?_) (by rfl) rfl ?_ ?_
     rotate_left
     · go_simp
       rfl
     refine hK.out _ _ ⟨g7, g8, m6_, m7_, (by rw [ha.out]; exact q9p (v := undef) rfl), wS3 HB.out A7.out.2, fun _ h1_ => absurd ((q7b b 8).symm.trans h1_) (by decide), fun _ _ => ⟨(q1e ((q1e ((q1e (A8.out.1) (Ne.symm N78.out) _)) (Ne.symm N78.out) _)) (Ne.symm N78.out) _), A8.out.2⟩, Q_N78, fun _ => ⟨(bx (q0l (cs := #[.string (plP l (aL, aS, aR)).1, .string (plP l (aL, aS, aR)).2.1, .string ⟨#[]⟩]) ((bx (q0l (cs := #[.string (plP l (aL, aS, aR)).1, .string ⟨#[]⟩, .string ⟨#[]⟩]) ((bx (q0l (cs := #[.string ⟨#[]⟩, .string ⟨#[]⟩, .string ⟨#[]⟩]) (A7.out.1) 0 _ rfl))) 1 _ rfl))) 2 _ rfl)), A7.out.2⟩, fun h0_ => absurd ((hoff 9 (by kernel_rfl)).symm.trans h0_) (by decide), Q_X6_, Q_X7_⟩
   refine q1k ?_ ?_
   · rintro b a w' ⟨g7, g8, m6_, m7_, ha, Q_HB, Q_A7, Q_A8, Q_N78, Q_B7, Q_B8, Q_X6_, Q_X7_⟩ hb_ hon hoff
     refine ⟨_, rfl, fun K hK => ?_⟩
     have e8 : a.tmps[8]? = some (m7_) := by rw [ha]; exact q1w (e := (7, 8, m7_)) 7 rfl rfl (hon 7 (by kernel_rfl)) rfl
     rw [Q_X7_ (hon 7 (by kernel_rfl))] at e8
     have e16 : a.tmps[16]? = some (.agg #[.string (plP l (bL, bS, bR)).1, .string (plP l (bL, bS, bR)).2.1, .string (plP l (bL, bS, bR)).2.2]) := by rw [ha]; exact q1w (e := (5, 16, .agg #[.string (plP l (bL, bS, bR)).1, .string (plP l (bL, bS, bR)).2.1, .string (plP l (bL, bS, bR)).2.2])) 5 rfl rfl (hon 5 (by kernel_rfl)) rfl
     replace ha := aq ha
     have HB := aq Q_HB
     have A8 := aq (Q_A8 (hon 7 (by kernel_rfl)) hb_)
     have N78 := aq (Q_N78 (hon 6 (by kernel_rfl)) (hon 7 (by kernel_rfl)))
     have B7 := aq (Q_B7 (hon 8 (by kernel_rfl)))
     obtain ⟨y0, y1, y2⟩ := cz3 A8.out.1
     obtain ⟨z0, z1, z2⟩ := fz3 A8.out.1
     refine k9q (w1 := ?_) (by rfl) rfl ?_ ?_
     rotate_left
     · go_simp
       rfl
     refine hK.out _ _ ⟨g7, g8, m6_, m7_, (by rw [ha.out]; exact q9p (v := undef) rfl), wS3 HB.out A8.out.2, fun _ h1_ => absurd ((hon 8 (by kernel_rfl)).symm.trans h1_) (by decide), fun _ h1_ => absurd ((q7b b 9).symm.trans h1_) (by decide), Q_N78, fun _ => ⟨(q1e ((q1e ((q1e (B7.out.1) N78.out _)) N78.out _)) N78.out _), B7.out.2⟩, fun _ => ⟨(bx (q0l (cs := #[.string (plP l (bL, bS, bR)).1, .string (plP l (bL, bS, bR)).2.1, .string ⟨#[]⟩]) ((bx (q0l (cs := #[.string (plP l (bL, bS, bR)).1, .string ⟨#[]⟩, .string ⟨#[]⟩]) ((bx (q0l (cs := #[.string ⟨#[]⟩, .string ⟨#[]⟩, .string ⟨#[]⟩]) (A8.out.1) 0 _ rfl))) 1 _ rfl))) 2 _ rfl)), A8.out.2⟩, Q_X6_, Q_X7_⟩
   exact z8i
 · rintro b a w' hall ⟨g7, g8, m6_, m7_, ha, Q_HB, Q_A7, Q_A8, Q_N78, Q_B7, Q_B8, Q_X6_, Q_X7_⟩
   clear HB
   have hb0_ := hall 0 (by kernel_rfl)
   have hb1_ := hall 1 (by kernel_rfl)
   have hb2_ := hall 2 (by kernel_rfl)
   have hb3_ := hall 3 (by kernel_rfl)
   have hb4_ := hall 4 (by kernel_rfl)
   have hb5_ := hall 5 (by kernel_rfl)
   have hb6_ := hall 6 (by kernel_rfl)
   have hb7_ := hall 7 (by kernel_rfl)
   have hb8_ := hall 8 (by kernel_rfl)
   have hb9_ := hall 9 (by kernel_rfl)
   subst ha
   obtain rfl := Q_X6_ hb6_
   obtain rfl := Q_X7_ hb7_
   simp only [q3j, hb0_, hb1_, hb2_, hb3_, hb4_, hb5_, hb6_, hb7_, hb8_, hb9_, if_true, Act.put, List.setIfInBounds_toArray, List.set_cons_zero, List.set_cons_succ]
   have HB := aq Q_HB
   clear Q_HB
   clear Q_A7
   clear Q_A8
   have N78 := aq (Q_N78 hb6_ hb7_)
   clear Q_N78
   have B7 := aq (Q_B7 hb8_)
   clear Q_B7
   have B8 := aq (Q_B8 hb9_)
   clear Q_B8
   clear hall hb0_ hb1_ hb2_ hb3_ hb4_ hb5_ hb6_ hb7_ hb8_ hb9_
   clear Q_X6_ Q_X7_
   have HF := HB
   clear HB
   have HB := aq (Below.refl w'.heap.size w')
   have I1 := aq ((HF.out.block _ (by omega)).trans I0.out)
   have i1 : w.heap.size < w'.heap.size := by have := HF.out.size; omega
   have HC1 := aq (Kd.q0h HR.out HF.out)
   have HM1 := aq (Kd.q0h HM.out HF.out)
   have HWB := aq (HVB.out.trans (HF.out.mono HVB.out.size))
   clear HC HR HM I0 D0 E0 HVB HF HV N78
   go_wp2
   go_loopw [9, 17] (fun vs vi wr => ∃ k : Nat, k ≤ 3 ∧ vi = .int .i64 (k : Int) ∧ vs = .int .i64 (j0y rs ms (plP l (aL, aS, aR)) (plP l (bL, bS, bR)) k) ∧ q0c (Below w'.heap.size w' wr)) (fun vs vi _ => 3 - (intOf vi).toNat)
   case atStart => exact ⟨0, by omega, rfl, rfl, ⟨Below.refl _ _⟩⟩
   case round =>
    obtain ⟨k, hk, rfl, rfl, hB⟩ := hrel
    by_cases hlt : k < 3
    · have d1 : decide ((k : Int) < 3) = true := decide_eq_true (by omega)
      have hI := (hB.out.block _ i1).trans I1.out
      have h7 := (hB.out.block _ (Array.getElem?_eq_some_iff.1 B7.out.1).1).trans B7.out.1
      have h8 := (hB.out.block _ (Array.getElem?_eq_some_iff.1 B8.out.1).1).trans B8.out.1
      obtain ⟨y0, y1, y2, y3, y4, y5⟩ := cz6 hI
      obtain ⟨u0, u1, u2⟩ := cz3 h7
      obtain ⟨v0, v1, v2⟩ := cz3 h8
      clear hI h7 h8
      have hw : wrap64 ((k : Int) + 1) = (k : Int) + 1 := by unfold wrap64; omega
      go_wp2_with (go_at_call 349; (try rw [hw]); refine (v4o A0 n0 c0 A1 l.length c1 A2 c2 A3 c3 rs ms p q ((k : Int) + 1) (plP l (aL, aS, aR)) (plP l (bL, bS, bR)) wr (Kd.q0h HC1.out hB.out) (Kd.q0h HM1.out hB.out)).mono ?_; rintro e w3 ⟨rfl, hb⟩; have HB3 := aq hb; clear hb)
      go_roundw
      case rel => exact ⟨k + 1, by omega, by simp, rfl, ⟨hB.out.trans (HB3.out.mono hB.out.size)⟩⟩
      case measure => simp [intOf]; omega
    · obtain rfl : k = 3 := by omega
      go_wp2
      go_ret
      exact ⟨rfl, HWB.out.trans (hB.out.mono HWB.out.size)⟩
theorem q5s : q0p.length = 54 := by kernel_rfl
theorem C59 {W : World} {B : Nat} {T : TypeId} {m : Nat × Nat} (xs : List S59) (hn : xs.length ≤ 9223372036854775807) (h : W.heap[B]? = some (.cells (xs.flatMap k5h).toArray T m)) : Kd.C k59 W (some ⟨B, 0, none⟩) xs.length xs := v6y k59 k5h (fun _ => rfl) (fun w x => k3o w x) xs hn h
theorem z4g : q3x.length = 32 := by kernel_rfl
theorem z5n : q7k.length = 15 := by kernel_rfl
theorem z1m : q4h.length = 7 := by kernel_rfl
theorem v2h (w : World) : Calls Tryz.prog 54 #[] w fun e W => (∃ B, e = .returned (.slice (some ⟨B, 0, none⟩) 54 54) ∧ w.heap.size ≤ B ∧ Kd.C k59 W (some ⟨B, 0, none⟩) q0p.length q0p) ∧ Below w.heap.size w W := by
 refine (z7x w).mono ?_
 rintro e W ⟨rfl, rfl⟩
 exact ⟨⟨_, rfl, Nat.le_refl _, C59 q0p (by rw [q5s]; decide) (World.alloc_heap_new w _)⟩, q0b (Below.refl _ _) _⟩
theorem v9r (w : World) : Calls Tryz.prog 55 #[] w fun e W => (∃ B, e = .returned (.slice (some ⟨B, 0, none⟩) 32 32) ∧ w.heap.size ≤ B ∧ Kd.C k66 W (some ⟨B, 0, none⟩) q3x.length q3x) ∧ Below w.heap.size w W := by
 refine (v2f w).mono ?_
 rintro e W ⟨rfl, rfl⟩
 exact ⟨⟨_, rfl, Nat.le_refl _, C66 q3x (by rw [z4g]; decide) (World.alloc_heap_new w _)⟩, q0b (Below.refl _ _) _⟩
theorem v4s (w : World) : Calls Tryz.prog 56 #[] w fun e W => (∃ B, e = .returned (.slice (some ⟨B, 0, none⟩) 15 15) ∧ w.heap.size ≤ B ∧ Kd.C k53 W (some ⟨B, 0, none⟩) q7k.length q7k) ∧ Below w.heap.size w W := by
 refine (z8j w).mono ?_
 rintro e W ⟨rfl, rfl⟩
 exact ⟨⟨_, rfl, Nat.le_refl _, C53 q7k (by rw [z5n]; decide) (World.alloc_heap_new w _)⟩, q0b (Below.refl _ _) _⟩
theorem v0b (w : World) : Calls Tryz.prog 57 #[] w fun e W => (∃ B, e = .returned (.slice (some ⟨B, 0, none⟩) 7 7) ∧ w.heap.size ≤ B ∧ Kd.C k69 W (some ⟨B, 0, none⟩) q4h.length q4h) ∧ Below w.heap.size w W := by
 refine (z5h w).mono ?_
 rintro e W ⟨rfl, rfl⟩
 exact ⟨⟨_, rfl, Nat.le_refl _, C69 q4h (by rw [z1m]; decide) (World.alloc_heap_new w _)⟩, q0b (Below.refl _ _) _⟩
def q6h (B1 B2 B3 B4 : Nat) : Value := .agg #[.slice (some ⟨B1, 0, none⟩) 54 54, .slice (some ⟨B2, 0, none⟩) 32 32, .slice (some ⟨B3, 0, none⟩) 15 15, .slice (some ⟨B4, 0, none⟩) 7 7, .int .i64 40, .int .i64 5]
theorem v0s (w : World) : Calls Tryz.prog 24 #[] w fun e W => (∃ B1 B2 B3 B4, e = .returned (q6h B1 B2 B3 B4) ∧ Kd.C k59 W (some ⟨B1, 0, none⟩) q0p.length q0p ∧ Kd.C k66 W (some ⟨B2, 0, none⟩) q3x.length q3x ∧ Kd.C k53 W (some ⟨B3, 0, none⟩) q7k.length q7k ∧ Kd.C k69 W (some ⟨B4, 0, none⟩) q4h.length q4h) ∧ Below w.heap.size w W := by
 have hu39 := Tryz.underlying51
 obtain ⟨V, hV⟩ : ∃ V, V = w.alloc (.cells #[.slice none 0 0, .slice none 0 0, .slice none 0 0, .slice none 0 0, .int .i64 0, .int .i64 0] 51) := ⟨_, rfl⟩
 have vT : Blk V w.heap.size #[.slice none 0 0, .slice none 0 0, .slice none 0 0, .slice none 0 0, .int .i64 0, .int .i64 0] 51 := by rw [hV]; exact Blk.new w _ _
 have vB : Below w.heap.size w V := by rw [hV]; exact q0b (Below.refl _ _) _
 have HV := aq hV
 have HT := aq vT
 have HB := aq vB
 clear hV vT vB
 go_enter Tryz.func24, Tryz.ntmps24
 go_wp2_with (first
  | (go_at_call 54; rw [← HV.out]; refine (v2h V).mono ?_; rintro e w1 ⟨⟨B1, rfl, hl, hc⟩, hb⟩; have L1 := aq (show B1 ≠ w.heap.size by have := HT.out.lt; omega); have C1 := aq hc; have T1 := aq (HT.out.below HT.out.lt hb); have P1 := aq (HB.out.trans (hb.mono HB.out.size)); clear hb hc hl)
  | (go_at_call 55; refine (v9r w1).mono ?_; rintro e w2 ⟨⟨B2, rfl, hl, hc⟩, hb⟩; have L2 := aq (show B2 ≠ w.heap.size by have := T1.out.lt; omega); have T2 := aq (T1.out.below T1.out.lt hb); have P2 := aq (P1.out.trans (hb.mono P1.out.size)); have C1b := aq (Kd.q0h C1.out hb); have C2 := aq hc; clear hb hc hl)
  | (go_at_call 56; refine (v4s w2).mono ?_; rintro e w3 ⟨⟨B3, rfl, hl, hc⟩, hb⟩; have L3 := aq (show B3 ≠ w.heap.size by have := T2.out.lt; omega); have T3 := aq (T2.out.below T2.out.lt hb); have P3 := aq (P2.out.trans (hb.mono P2.out.size)); have C1c := aq (Kd.q0h C1b.out hb); have C2b := aq (Kd.q0h C2.out hb); have C3 := aq hc; clear hb hc hl)
  | (go_at_call 57; refine (v0b w3).mono ?_; rintro e w4 ⟨⟨B4, rfl, hl, hc⟩, hb⟩; have L4 := aq (show B4 ≠ w.heap.size by have := T3.out.lt; omega); have T4 := aq (T3.out.below T3.out.lt hb); have P4 := aq (P3.out.trans (hb.mono P3.out.size)); have C1d := aq (Kd.q0h C1c.out hb); have C2c := aq (Kd.q0h C2b.out hb); have C3b := aq (Kd.q0h C3.out hb); have C4 := aq hc; obtain ⟨y0, y1, y2, y3, y4, y5⟩ := cz6 (show w4.heap[w.heap.size]? = _ from T4.out); obtain ⟨z0, z1, z2, z3, z4, z5⟩ := fz6 (show w4.heap[w.heap.size]? = _ from T4.out); clear hb hc hl))
 refine bodyPost_ret (results_cell_row rfl _ _ w.heap.size 51 #[.slice (some ⟨B1, 0, none⟩) 54 54, .slice (some ⟨B2, 0, none⟩) 32 32, .slice (some ⟨B3, 0, none⟩) 15 15, .slice (some ⟨B4, 0, none⟩) 7 7, .int .i64 40, .int .i64 5] (0, 0) _ rfl (bx (q0l (cs := #[.slice (some ⟨B1, 0, none⟩) 54 54, .slice (some ⟨B2, 0, none⟩) 32 32, .slice (some ⟨B3, 0, none⟩) 15 15, .slice (some ⟨B4, 0, none⟩) 7 7, .int .i64 40, .int .i64 0]) (bx (q0l (cs := #[.slice (some ⟨B1, 0, none⟩) 54 54, .slice (some ⟨B2, 0, none⟩) 32 32, .slice (some ⟨B3, 0, none⟩) 15 15, .slice (some ⟨B4, 0, none⟩) 7 7, .int .i64 0, .int .i64 0]) (bx (q0l (cs := #[.slice (some ⟨B1, 0, none⟩) 54 54, .slice (some ⟨B2, 0, none⟩) 32 32, .slice (some ⟨B3, 0, none⟩) 15 15, .slice none 0 0, .int .i64 0, .int .i64 0]) (bx (q0l (cs := #[.slice (some ⟨B1, 0, none⟩) 54 54, .slice (some ⟨B2, 0, none⟩) 32 32, .slice none 0 0, .slice none 0 0, .int .i64 0, .int .i64 0]) (bx (q0l (cs := #[.slice (some ⟨B1, 0, none⟩) 54 54, .slice none 0 0, .slice none 0 0, .slice none 0 0, .int .i64 0, .int .i64 0]) (bx (q0l (cs := #[.slice none 0 0, .slice none 0 0, .slice none 0 0, .slice none 0 0, .int .i64 0, .int .i64 0]) (T4.out) 0 _ rfl)) 1 _ rfl)) 2 _ rfl)) 3 _ rfl)) 4 _ rfl)) 5 _ rfl)) Tryz.underlying51 rfl (by kernel_rfl)) rfl ?_
 exact ⟨⟨B1, B2, B3, B4, rfl, z6b v8a C1d.out (fun a e => by cases e; (repeat rw [z2g _ _ _ _ _ L1.out])), z6b j0g C2c.out (fun a e => by cases e; (repeat rw [z2g _ _ _ _ _ L2.out])), z6b k8w C3b.out (fun a e => by cases e; (repeat rw [z2g _ _ _ _ _ L3.out])), z6b j0a C4.out (fun a e => by cases e; (repeat rw [z2g _ _ _ _ _ L4.out]))⟩, by repeat (first | (with_reducible first | exact P4.out | apply wA | apply wN | apply wD | refine wS ?_ (Nat.le_refl _)) | exact P4.out)⟩
end Go.Proofs.YtpmcfckechjppaaGreatDoor.LikW
namespace Go.Proofs.YtpmcfckechjppaaGreatDoor.Ps
open Go.RowKit Go.Shelf Go.Proofs.YtpmcfckechjppaaGreatDoorW.PrintWords Go.Proofs.YtpmcfckechjppaaGreatDoorW.PrintLast Go.Proofs.YtpmcfckechjppaaGreatDoorW.PrintMore Go.Proofs.YtpmcfckechjppaaGreatDoor.P Go.Proofs.YtpmcfckechjppaaGreatDoor.LikW
def j2g (x : S59) : Value := .agg #[.int .i64 x.f0, .string x.f1, .string x.f2, .string x.f3, .string x.f4, .string x.f5]
def ofP (k : Int) : Bool := k == 2 || k == 7
def isP (k : Int) (a b : ByteArray) (x : S59) : Bool := x.f0 == k && (x.f1.toList == a.toList && (x.f2.toList == b.toList || !ofP k))
theorem j0c (k : Int) (w : World) : Calls Tryz.prog 312 #[.int .i64 k] w fun e w' => e = .returned (.bool (ofP k)) ∧ w' = w := by
 cases h2 : (k == 2)
 · cases h7 : (k == 7)
   · go_enter Tryz.func312, Tryz.ntmps312
     go_wp2
     go_ret
     exact ⟨by unfold ofP; rw [h2, h7]; rfl, rfl⟩
   · go_enter Tryz.func312, Tryz.ntmps312
     go_wp2
     go_ret
     exact ⟨by unfold ofP; rw [h2, h7]; rfl, rfl⟩
 · go_enter Tryz.func312, Tryz.ntmps312
   go_wp2
   go_ret
   exact ⟨by unfold ofP; rw [h2]; rfl, rfl⟩
theorem v7q (x : S59) (k : Int) (a b : ByteArray) (p q r : Nat) (w : World) (hp : w.heap[p]? = some (.cells #[.int .i64 k] 3 (0, 0))) (hq : w.heap[q]? = some (.cells #[.string a] 9 (0, 0))) (hr : w.heap[r]? = some (.cells #[.string b] 9 (0, 0))) :
 Calls Tryz.prog 311 #[j2g x, .pointer (some ⟨p, 0, none⟩), .pointer (some ⟨q, 0, none⟩), .pointer (some ⟨r, 0, none⟩)] w fun e w' => e = .returned (.bool (isP k a b x)) ∧ Below w.heap.size w w' := by
 have hu := Tryz.underlying120
 have z1 : ∀ o, (w.alloc o).cell? ⟨p, 0, none⟩ = some (.int .i64 k) := fun o => (q0a (aN hp) 0).trans rfl
 have z2 : ∀ o, (w.alloc o).cell? ⟨q, 0, none⟩ = some (.string a) := fun o => (q0a (aN hq) 0).trans rfl
 have z3 : ∀ o, (w.alloc o).cell? ⟨r, 0, none⟩ = some (.string b) := fun o => (q0a (aN hr) 0).trans rfl
 clear hp hq hr
 unfold j2g
 cases e0 : (x.f0 == k)
 · go_enter Tryz.func311, Tryz.ntmps311
   go_wp2_with (first
    | (go_at_call 312; refine (j0c k _).mono ?_; rintro e w1 ⟨rfl, rfl⟩))
   go_ret
   exact ⟨by unfold isP; rw [e0]; rfl, q0b (Below.refl _ _) _⟩
 cases e1 : (x.f1.toList == a.toList)
 · go_enter Tryz.func311, Tryz.ntmps311
   go_wp2_with (first
    | (go_at_call 312; refine (j0c k _).mono ?_; rintro e w1 ⟨rfl, rfl⟩))
   go_ret
   exact ⟨by unfold isP; rw [e0, e1]; rfl, q0b (Below.refl _ _) _⟩
 cases e2 : (x.f2.toList == b.toList)
 · cases e3 : ofP k
   · go_enter Tryz.func311, Tryz.ntmps311
     go_wp2_with (first
      | (go_at_call 312; refine (j0c k _).mono ?_; rintro e w1 ⟨rfl, rfl⟩; rw [e3]))
     go_ret
     exact ⟨by unfold isP; rw [e0, e1, e2, e3]; rfl, q0b (Below.refl _ _) _⟩
   · go_enter Tryz.func311, Tryz.ntmps311
     go_wp2_with (first
      | (go_at_call 312; refine (j0c k _).mono ?_; rintro e w1 ⟨rfl, rfl⟩; rw [e3]))
     go_ret
     exact ⟨by unfold isP; rw [e0, e1, e2, e3]; rfl, q0b (Below.refl _ _) _⟩
 · go_enter Tryz.func311, Tryz.ntmps311
   go_wp2_with (first
    | (go_at_call 312; refine (j0c k _).mono ?_; rintro e w1 ⟨rfl, rfl⟩))
   go_ret
   exact ⟨by unfold isP; rw [e0, e1, e2]; rfl, q0b (Below.refl _ _) _⟩
def k7z (f : S59 → Bool) (l : List S59) : Int := match l.findIdx? f with | some i => (i : Int) | none => -1
theorem q7i {f : S59 → Bool} : ∀ (l : List S59) (n : Nat), n < l.length → (l.take n).findIdx? f = none → (∀ x, l[n]? = some x → f x = true → l.findIdx? f = some n) ∧ (∀ x, l[n]? = some x → f x = false → (l.take (n + 1)).findIdx? f = none)
 | [], n, hn, _ => by simp at hn
 | y :: l, 0, hn, h => by
  refine ⟨fun x hx hf => ?_, fun x hx hf => ?_⟩
  · cases hx; simp [List.findIdx?_cons, hf]
  · cases hx; simp [List.findIdx?_cons, hf]
 | y :: l, n + 1, hn, h => by
  simp only [List.take_succ_cons, List.findIdx?_cons] at h
  cases hy : f y with
  | true => rw [hy] at h; simp at h
  | false =>
   rw [hy] at h
   simp only [Bool.false_eq_true, if_false, Option.map_eq_none_iff] at h
   obtain ⟨h1, h2⟩ := q7i l n (by simpa using hn) h
   refine ⟨fun x hx hf => ?_, fun x hx hf => ?_⟩
   · rw [List.findIdx?_cons, hy, h1 x (by simpa using hx) hf]; rfl
   · rw [List.take_succ_cons, List.findIdx?_cons, hy, h2 x (by simpa using hx) hf]; rfl
theorem k4z (A : Option Addr) (c : Nat) (l : List S59) (k : Int) (a b : ByteArray) (p q r : Nat) (w : World) (hC : Kd.C k59 w A l.length l) (hp : w.heap[p]? = some (.cells #[.int .i64 k] 3 (0, 0))) (hq : w.heap[q]? = some (.cells #[.string a] 9 (0, 0))) (hr : w.heap[r]? = some (.cells #[.string b] 9 (0, 0))) :
 Calls Tryz.prog 310 #[.slice A l.length c, .func (.func 311) #[] #[.pointer (some ⟨p, 0, none⟩), .pointer (some ⟨q, 0, none⟩), .pointer (some ⟨r, 0, none⟩)]] w fun e w' => e = .returned (.int .i64 (k7z (isP k a b) l)) ∧ Below w.heap.size w w' := by
 have hu := Tryz.underlying120
 have eg := enters_of Tryz.func311 (by kernel_rfl) rfl
 unfold Enters at eg
 have HC := aq hC
 have hmax := Kd.v2m hC
 have HP := aq hp
 have HQ := aq hq
 have HR := aq hr
 clear hC hp hq hr
 go_enter Tryz.func310, Tryz.ntmps310
 go_wp2
 go_loopw [8] (fun vi wr => ∃ i : Nat, vi = .int .i64 (i : Int) ∧ i ≤ l.length ∧ q0c ((l.take i).findIdx? (isP k a b) = none) ∧ q0c (Below w.heap.size w wr)) (fun vi _ => l.length - (intOf vi).toNat)
 case atStart => exact ⟨0, rfl, Nat.zero_le _, ⟨rfl⟩, ⟨Below.refl _ _⟩⟩
 case round =>
  obtain ⟨i, rfl, hi, HN, HB⟩ := hrel
  by_cases hlt : i < l.length
  · obtain ⟨ad, e, x0, x1, x2, x3, x4, x5⟩ := v2r HC.out (i : Int) (by omega) (by omega)
    cases e
    replace x0 := (HB.out.cell (World.block_lt_of_cell? w _ x0)).trans x0
    replace x1 := (HB.out.cell (World.block_lt_of_cell? w _ x1)).trans x1
    replace x2 := (HB.out.cell (World.block_lt_of_cell? w _ x2)).trans x2
    replace x3 := (HB.out.cell (World.block_lt_of_cell? w _ x3)).trans x3
    replace x4 := (HB.out.cell (World.block_lt_of_cell? w _ x4)).trans x4
    replace x5 := (HB.out.cell (World.block_lt_of_cell? w _ x5)).trans x5
    obtain ⟨x, hx⟩ : ∃ x, x = q9j l (i : Int) := ⟨_, rfl⟩
    rw [← hx] at x0 x1 x2 x3 x4 x5
    simp only [Int.toNat_natCast] at x0 x1 x2 x3 x4 x5
    have hx2 : l[i]? = some x := by rw [hx]; simp [q9j, List.getD_eq_getElem?_getD, List.getElem?_eq_getElem hlt]
    obtain ⟨n1, n2⟩ := q7i l i hlt HN.out
    replace n1 := n1 x hx2
    replace n2 := n2 x hx2
    have N1 := aq n1
    have N2 := aq n2
    clear n1 n2 hx hx2
    have d1 : decide ((i : Int) < (l.length : Int)) = true := decide_eq_true (by omega)
    have m0 : (0 : Int) ≤ (i : Int) := by omega
    have m1 : (i : Int) < (l.length : Int) := by omega
    have m2 : i < l.length := hlt
    cases hv : isP k a b x with
    | true =>
     have HV := aq hv
     go_wp2_with (first
      | (refine (v7q x k a b p q r _ (by exact (HB.out.block _ (q0g HP.out)).trans HP.out) (by exact (HB.out.block _ (q0g HQ.out)).trans HQ.out) (by exact (HB.out.block _ (q0g HR.out)).trans HR.out)).mono ?_; rintro e w1 ⟨rfl, hb⟩; rw [HV.out]))
     go_ret
     exact ⟨by unfold k7z; rw [N1.out HV.out]; rfl, HB.out.trans (hb.mono HB.out.size)⟩
    | false =>
     have HV := aq hv
     go_wp2_with (first
      | (refine (v7q x k a b p q r _ (by exact (HB.out.block _ (q0g HP.out)).trans HP.out) (by exact (HB.out.block _ (q0g HQ.out)).trans HQ.out) (by exact (HB.out.block _ (q0g HR.out)).trans HR.out)).mono ?_; rintro e w1 ⟨rfl, hb⟩; rw [HV.out]))
     go_roundw
     case rel => exact ⟨i + 1, by simp, by omega, ⟨N2.out HV.out⟩, ⟨HB.out.trans (hb.mono HB.out.size)⟩⟩
     case measure => simp [intOf]; omega
  · obtain rfl : i = l.length := by omega
    have d1 : decide ((l.length : Int) < (l.length : Int)) = false := decide_eq_false (by omega)
    go_wp2
    go_ret
    have h := HN.out
    rw [List.take_length] at h
    exact ⟨by unfold k7z; rw [h]; rfl, HB.out⟩
def stA (n : Nat) : Value := .slice (some ⟨n, 0, none⟩) 54 54
def stC (B1 B2 B3 B4 : Nat) (a b c : ByteArray) : Array Value := #[.slice (some ⟨B1, 0, none⟩) 54 54, .slice (some ⟨B2, 0, none⟩) 32 32, .slice (some ⟨B3, 0, none⟩) 15 15, .slice (some ⟨B4, 0, none⟩) 7 7, .int .i64 40, .int .i64 5, .string a, .slice none 0 0, .string b, .string c, .slice none 0 0, .slice none 0 0, .slice none 0 0, .string ⟨#[]⟩]
def q6c (k : Int) (a b : ByteArray) : Int × Bool := (k7z (isP k a b) q0p, decide (k7z (isP k a b) q0p ≥ 0) && !a.toList.isEmpty)
theorem z9f (g B1 B2 B3 B4 : Nat) (x y z : ByteArray) (k : Int) (a b : ByteArray) (w : World) (hS : w.heap[g]? = some (.cells (stC B1 B2 B3 B4 x y z) 259 (0, 0))) (hC : Kd.C k59 w (some ⟨B1, 0, none⟩) q0p.length q0p) :
 Calls Tryz.prog 276 #[.pointer (some ⟨g, 0, none⟩), .int .i64 k, .string a, .string b] w fun e w' => e = .returned (.tuple #[.int .i64 (q6c k a b).1, .bool (q6c k a b).2]) ∧ Below w.heap.size w w' := by
 have hmf : ∀ (fn : Fn) (first cap : Array Value) (w : World), (Instr.makeFunc fn first cap).run Tryz.prog w = .ok (.func fn first cap) w := fun _ _ _ _ => rfl
 have HS := aq hS
 have HC := aq hC
 clear hS hC
 obtain ⟨W3, hW3⟩ : ∃ W3, W3 = (((w.alloc (.cells #[.int .i64 k] 3)).alloc (.cells #[.string a] 9)).alloc (.cells #[.string b] 9)) := ⟨_, rfl⟩
 have p3 : W3.heap[w.heap.size]? = some (.cells #[.int .i64 k] 3 (0, 0)) := by rw [hW3]; exact aN (aN (aZ rfl))
 have q3 : W3.heap[w.heap.size + 1]? = some (.cells #[.string a] 9 (0, 0)) := by rw [hW3]; exact aN (aZ (by simp))
 have r3 : W3.heap[w.heap.size + 1 + 1]? = some (.cells #[.string b] 9 (0, 0)) := by rw [hW3]; exact aZ (by simp)
 have B3w : Below w.heap.size w W3 := by rw [hW3]; exact q0b (q0b (q0b (Below.refl _ _) _) _) _
 have s3 : W3.cell? ⟨g, 0, none⟩ = some (stA B1) := by rw [hW3]; exact (q0a (aN (aN (aN HS.out))) 0).trans rfl
 unfold stA at s3
 have HW := aq hW3
 have Q3 := aq q3
 have R3 := aq r3
 have P3 := aq p3
 have HB := aq B3w
 clear hW3 q3 r3 p3 B3w
 go_enter Tryz.func276, Tryz.ntmps276
 go_wp2_with (first
  | (rw [← HW.out])
  | (go_at_call 310; refine (k4z _ 54 q0p k a b _ _ _ _ (Kd.q0h HC.out HB.out) P3.out Q3.out R3.out).mono ?_; rintro e w4 ⟨rfl, hb⟩; have z5 := (q0a ((hb.block _ (q0g Q3.out)).trans Q3.out) 0).trans rfl))
 have hb2 := aq (HB.out.trans (hb.mono HB.out.size))
 clear hb
 obtain ⟨i, hi⟩ : ∃ i, k7z (isP k a b) q0p = i := ⟨_, rfl⟩
 have hf : q6c k a b = (i, decide (i ≥ 0) && !a.toList.isEmpty) := by unfold q6c; rw [hi]
 rw [hi]
 have HF := aq hf
 clear hi hf
 cases hd : decide (i ≥ 0)
 · go_still (by kernel_rfl)
   go_wp2
   go_ret2
   exact ⟨by rw [HF.out, hd]; first | rfl | simp, (q1a (hb2.out))⟩
 · go_still (by kernel_rfl)
   go_wp2
   go_ret2
   exact ⟨by rw [HF.out, hd]; first | rfl | simp, (q1a (hb2.out))⟩
theorem v3x {W : World} {g : Nat} {t : TypeId} {v0 v1 v2 v3 v4 v5 v6 v7 v8 v9 v10 v11 v12 v13 : Value} (h : W.heap[g]? = some (.cells #[v0, v1, v2, v3, v4, v5, v6, v7, v8, v9, v10, v11, v12, v13] t (0, 0))) : W.cell? ⟨g, 0, none⟩ = some v0 ∧ W.cell? ⟨g, 1, none⟩ = some v1 ∧ W.cell? ⟨g, 2, none⟩ = some v2 ∧ W.cell? ⟨g, 3, none⟩ = some v3 ∧ W.cell? ⟨g, 4, none⟩ = some v4 ∧ W.cell? ⟨g, 5, none⟩ = some v5 ∧ W.cell? ⟨g, 6, none⟩ = some v6 ∧ W.cell? ⟨g, 7, none⟩ = some v7 ∧ W.cell? ⟨g, 8, none⟩ = some v8 ∧ W.cell? ⟨g, 9, none⟩ = some v9 ∧ W.cell? ⟨g, 10, none⟩ = some v10 ∧ W.cell? ⟨g, 11, none⟩ = some v11 ∧ W.cell? ⟨g, 12, none⟩ = some v12 ∧ W.cell? ⟨g, 13, none⟩ = some v13 := ⟨(q0a h 0).trans rfl, (q0a h 1).trans rfl, (q0a h 2).trans rfl, (q0a h 3).trans rfl, (q0a h 4).trans rfl, (q0a h 5).trans rfl, (q0a h 6).trans rfl, (q0a h 7).trans rfl, (q0a h 8).trans rfl, (q0a h 9).trans rfl, (q0a h 10).trans rfl, (q0a h 11).trans rfl, (q0a h 12).trans rfl, (q0a h 13).trans rfl⟩
theorem j2h {W : World} {g : Nat} {t : TypeId} {v0 v1 v2 v3 v4 v5 v6 v7 v8 v9 v10 v11 v12 v13 : Value} (h : W.heap[g]? = some (.cells #[v0, v1, v2, v3, v4, v5, v6, v7, v8, v9, v10, v11, v12, v13] t (0, 0))) : W.frozen? ⟨g, 0, none⟩ = false ∧ W.frozen? ⟨g, 1, none⟩ = false ∧ W.frozen? ⟨g, 2, none⟩ = false ∧ W.frozen? ⟨g, 3, none⟩ = false ∧ W.frozen? ⟨g, 4, none⟩ = false ∧ W.frozen? ⟨g, 5, none⟩ = false ∧ W.frozen? ⟨g, 6, none⟩ = false ∧ W.frozen? ⟨g, 7, none⟩ = false ∧ W.frozen? ⟨g, 8, none⟩ = false ∧ W.frozen? ⟨g, 9, none⟩ = false ∧ W.frozen? ⟨g, 10, none⟩ = false ∧ W.frozen? ⟨g, 11, none⟩ = false ∧ W.frozen? ⟨g, 12, none⟩ = false ∧ W.frozen? ⟨g, 13, none⟩ = false := ⟨q0e h 0, q0e h 1, q0e h 2, q0e h 3, q0e h 4, q0e h 5, q0e h 6, q0e h 7, q0e h 8, q0e h 9, q0e h 10, q0e h 11, q0e h 12, q0e h 13⟩
theorem q1y {n : Nat} {w W : World} {g j : Nat} {v : Value} (h : Below n w W) (hg : n ≤ g) : Below n w (W.setCell ⟨g, j, none⟩ v) := h.setCell hg _
def St (w : World) (g B1 B2 B3 B4 : Nat) (x y z : ByteArray) : Prop := w.heap[g]? = some (.cells (stC B1 B2 B3 B4 x y z) 259 (0, 0))
theorem St.below {w w1 : World} {g B1 B2 B3 B4 : Nat} {x y z : ByteArray} (h : St w g B1 B2 B3 B4 x y z) (hb : Below w.heap.size w w1) : St w1 g B1 B2 B3 B4 x y z := (hb.block _ (q0g h)).trans h
theorem v7e (g B1 B2 B3 B4 : Nat) (x y z : ByteArray) (w : World) (hS : St w g B1 B2 B3 B4 x y z) (hC : Kd.C k59 w (some ⟨B1, 0, none⟩) q0p.length q0p) (k : Nat) (hG : GrandW.G w) (i : Int) (hl : (Lib.join ((q3i [x, y, z]).map (·.data.toList)) [45]).length ≤ 140737488355328) (hf : q0t.f k (q8d (q3i [x, y, z])) = some (i, false)) :
 Calls Tryz.prog 235 #[.pointer (some ⟨g, 0, none⟩)] w fun e w' => (∃ i, e = .returned (.tuple #[.int .i64 i, .bool false])) ∧ Below w.heap.size w w' := by
 have hu := Tryz.underlying259
 have hut := Tryz.underlying33
 have hui := Tryz.underlying51
 have HS := aq hS
 have HC := aq hC
 obtain ⟨z0, z1, z2, z3, z4, z5, z6, z7, z8, z9, z10, z11, z12, z13⟩ := v3x hS
 clear hS hC
 have HG := aq hG
 have HL := aq hl
 have HF := aq hf
 clear hG hl hf
 go_enter Tryz.func235, Tryz.ntmps235
 go_wp2_with (first
  | (go_at_call 75; refine (z0n x y z _).mono ?_; rintro e w1 ⟨v, rfl, hO, hB⟩; have O_V := aq hO; have HB := aq hB; clear hO hB)
  | (go_at_call 74; refine (v7y _ v _ _ O_V.out (Nat.le_trans (List.length_filter_le _ _) (by simp)) HL.out).mono ?_; rintro e w2 ⟨rfl, hB⟩; have HB2 := aq (HB.out.trans (hB.mono HB.out.size)); clear hB)
  | (go_at_call 61; refine (q0t.calls k _ i false _ HF.out (HG.out.below HB2.out)).mono ?_; rintro e w3 ⟨rfl, hB⟩; have HB3 := aq (HB2.out.trans (hB.mono HB2.out.size)); obtain ⟨y0, y1, y2, y3, y4, y5, y6, y7, y8, y9, y10, y11, y12, y13⟩ := v3x (HS.out.below HB3.out); clear hB))
 go_ret2
 exact ⟨⟨_, rfl⟩, HB3.out⟩
theorem v0f (g B1 B2 B3 B4 : Nat) (x y z : ByteArray) (w : World) (hS : St w g B1 B2 B3 B4 x y z) (hC : Kd.C k59 w (some ⟨B1, 0, none⟩) q0p.length q0p) :
 Calls Tryz.prog 236 #[.pointer (some ⟨g, 0, none⟩)] w fun e w' => (∃ i, e = .returned (.tuple #[.int .i64 i, .bool false])) ∧ Below w.heap.size w w' := by
 have hu := Tryz.underlying259
 have hut := Tryz.underlying33
 have hui := Tryz.underlying51
 have HS := aq hS
 have HC := aq hC
 obtain ⟨z0, z1, z2, z3, z4, z5, z6, z7, z8, z9, z10, z11, z12, z13⟩ := v3x hS
 clear hS hC
 go_enter Tryz.func236, Tryz.ntmps236
 go_wp2
 go_ret2
 exact ⟨⟨_, rfl⟩, Below.refl _ _⟩
theorem v7t (g B1 B2 B3 B4 : Nat) (x y z : ByteArray) (w : World) (hS : St w g B1 B2 B3 B4 x y z) (hC : Kd.C k59 w (some ⟨B1, 0, none⟩) q0p.length q0p) (k : Nat) (hG : GrandW.G w) (i : Int) (hf : q0t.f k ⟨#[]⟩ = some (i, false)) :
 Calls Tryz.prog 237 #[.pointer (some ⟨g, 0, none⟩)] w fun e w' => (∃ i, e = .returned (.tuple #[.int .i64 i, .bool false])) ∧ Below w.heap.size w w' := by
 have hu := Tryz.underlying259
 have hut := Tryz.underlying33
 have hui := Tryz.underlying51
 have HS := aq hS
 have HC := aq hC
 obtain ⟨z0, z1, z2, z3, z4, z5, z6, z7, z8, z9, z10, z11, z12, z13⟩ := v3x hS
 clear hS hC
 have HG := aq hG
 have HF := aq hf
 clear hG hf
 go_enter Tryz.func237, Tryz.ntmps237
 go_wp2_with (first
  | (go_at_call 61; refine (q0t.calls k _ i false _ HF.out HG.out).mono ?_; rintro e w3 ⟨rfl, hB⟩))
 go_ret2
 exact ⟨⟨_, rfl⟩, hB⟩
theorem k6s (g B1 B2 B3 B4 : Nat) (x y z : ByteArray) (w : World) (hS : St w g B1 B2 B3 B4 x y z) (hC : Kd.C k59 w (some ⟨B1, 0, none⟩) q0p.length q0p) (hf : (q6c 2 x z).2 = false) :
 Calls Tryz.prog 238 #[.pointer (some ⟨g, 0, none⟩)] w fun e w' => (∃ i, e = .returned (.tuple #[.int .i64 i, .bool false])) ∧ Below w.heap.size w w' := by
 have hu := Tryz.underlying259
 have hut := Tryz.underlying33
 have hui := Tryz.underlying51
 have HS := aq hS
 have HC := aq hC
 obtain ⟨z0, z1, z2, z3, z4, z5, z6, z7, z8, z9, z10, z11, z12, z13⟩ := v3x hS
 clear hS hC
 have HF := aq hf
 clear hf
 go_enter Tryz.func238, Tryz.ntmps238
 go_wp2
 refine q2w (n := 17) (S := fun w' => w'.cell? ⟨g, 6, none⟩ = some (.string x) ∧ w'.cell? ⟨g, 9, none⟩ = some (.string z)) (ds := []) (M 17 0) (by kernel_rfl) rfl rfl ⟨z6, z9⟩ (fun hHeld => ?_)
 refine pw 0 7 (M 17 1) ?_
 refine pw 1 8 (M 17 3) ?_
 refine pw 2 9 (M 17 7) ?_
 refine pw 3 10 (M 17 15) ?_
 refine pw 4 11 (M 17 31) ?_
 refine pw 6 13 (M 17 95) ?_
 refine pw 7 14 (M 17 223) ?_
 refine pw 8 15 (M 17 479) ?_
 refine pw 9 16 (M 17 991) ?_
 refine tw 5 12 (M 17 1023) hHeld ?_
 refine tw 10 17 (M 17 2047) hHeld ?_
 refine ow 11 (some 18) (M 17 4095) fun K hK => ?_
 refine gow Tryz.func276 #[.pointer (some ⟨g, 0, none⟩), .int .i64 2, .string x, .string z] ?_
 refine (z9f g B1 B2 B3 B4 x y z 2 x z _ (by exact HS.out) (Kd.q0h HC.out (q1a (Below.refl _ _)))).mono ?_
 rintro e w1 ⟨rfl, hb⟩
 rw [HF.out]
 have HB1 := aq (Below.trans (q1a (Below.refl w.heap.size w)) hb)
 have K1 := aq (HS.out.below HB1.out)
 clear hb
 refine ⟨_, rfl, ?_⟩
 refine hK.out _ _ ⟨(q0a K1.out 6).trans rfl, (q0a K1.out 9).trans rfl⟩ (fun hHeld => ?_)
 clear hK K
 refine nw 18 ?_
 refine pw 12 6 (M 17 8191) ?_
 refine pw 13 19 (M 17 16383) ?_
 refine pw 14 20 (M 17 32767) ?_
 refine pw 15 4 (M 17 65535) ?_
 refine pw 16 5 (M 17 131071) ?_
 refine q4t (by kernel_rfl) ?_
 go_wp2
 go_ret2
 exact ⟨⟨_, rfl⟩, HB1.out⟩
theorem k2u (g B1 B2 B3 B4 : Nat) (x y z : ByteArray) (w : World) (hS : St w g B1 B2 B3 B4 x y z) (hC : Kd.C k59 w (some ⟨B1, 0, none⟩) q0p.length q0p) (i : Nat) (r : S59) (hi : q0p[i]? = some r) (hf : q6c 2 x z = ((i : Int), true)) (base : Nat) (w0 : World) (hB : Below base w0 w) (hg : base ≤ g) :
 Calls Tryz.prog 238 #[.pointer (some ⟨g, 0, none⟩)] w fun e w' => e = .returned (.tuple #[.int .i64 (i : Int), .bool true]) ∧ St w' g B1 B2 B3 B4 r.f3 y ⟨#[]⟩ ∧ Below base w0 w' := by
 have hu := Tryz.underlying259
 have hut := Tryz.underlying33
 have hui := Tryz.underlying51
 have HS := aq hS
 have HC := aq hC
 obtain ⟨z0, z1, z2, z3, z4, z5, z6, z7, z8, z9, z10, z11, z12, z13⟩ := v3x hS
 clear hS hC
 have HF := aq hf
 have HI := aq hi
 have BB := aq hB
 have HG := aq hg
 clear hf hi hB hg
 go_enter Tryz.func238, Tryz.ntmps238
 go_wp2
 refine q2w (n := 17) (S := fun w' => w'.cell? ⟨g, 6, none⟩ = some (.string x) ∧ w'.cell? ⟨g, 9, none⟩ = some (.string z)) (ds := []) (M 17 0) (by kernel_rfl) rfl rfl ⟨z6, z9⟩ (fun hHeld => ?_)
 refine pw 0 7 (M 17 1) ?_
 refine pw 1 8 (M 17 3) ?_
 refine pw 2 9 (M 17 7) ?_
 refine pw 3 10 (M 17 15) ?_
 refine pw 4 11 (M 17 31) ?_
 refine pw 6 13 (M 17 95) ?_
 refine pw 7 14 (M 17 223) ?_
 refine pw 8 15 (M 17 479) ?_
 refine pw 9 16 (M 17 991) ?_
 refine tw 5 12 (M 17 1023) hHeld ?_
 refine tw 10 17 (M 17 2047) hHeld ?_
 refine ow 11 (some 18) (M 17 4095) fun K hK => ?_
 refine gow Tryz.func276 #[.pointer (some ⟨g, 0, none⟩), .int .i64 2, .string x, .string z] ?_
 refine (z9f g B1 B2 B3 B4 x y z 2 x z _ (by exact HS.out) (Kd.q0h HC.out (q1a (Below.refl _ _)))).mono ?_
 rintro e w1 ⟨rfl, hb⟩
 rw [HF.out]
 have HB1 := aq (Below.trans (q1a (Below.refl w.heap.size w)) hb)
 have K1 := aq (HS.out.below HB1.out)
 clear hb
 refine ⟨_, rfl, ?_⟩
 refine hK.out _ _ ⟨(q0a K1.out 6).trans rfl, (q0a K1.out 9).trans rfl⟩ (fun hHeld => ?_)
 clear hK K
 refine nw 18 ?_
 refine pw 12 6 (M 17 8191) ?_
 refine pw 13 19 (M 17 16383) ?_
 refine pw 14 20 (M 17 32767) ?_
 refine pw 15 4 (M 17 65535) ?_
 refine pw 16 5 (M 17 131071) ?_
 refine q4t (by kernel_rfl) ?_
 obtain ⟨y0, y1, y2, y3, y4, y5, y6, y7, y8, y9, y10, y11, y12, y13⟩ := v3x K1.out
 obtain ⟨u0, u1, u2, u3, u4, u5, u6, u7, u8, u9, u10, u11, u12, u13⟩ := j2h K1.out
 have hlt : i < q0p.length := (List.getElem?_eq_some_iff.1 HI.out).1
 obtain ⟨ad, e, x0, x1, x2, x3, x4, x5⟩ := v2r (Kd.q0h HC.out HB1.out) (i : Int) (by omega) (by omega)
 cases e
 have hx : q9j q0p (i : Int) = r := by
  have h := HI.out
  rw [List.getElem?_eq_getElem hlt] at h
  cases h
  simp [q9j, List.getD_eq_getElem?_getD, List.getElem?_eq_getElem hlt]
 rw [hx] at x0 x1 x2 x3 x4 x5
 simp only [Int.toNat_natCast] at x0 x1 x2 x3 x4 x5
 have m0 : (0 : Int) ≤ (i : Int) := by omega
 have m1 : (i : Int) < (54 : Int) := by rw [q5s] at hlt; omega
 have m2 : i < 54 := by rw [q5s] at hlt; omega
 clear hx hlt
 have ea : (⟨B1, 0, none⟩ : Addr).add (i * 6) = ⟨B1, i * 6, none⟩ := by unfold Addr.add; split <;> simp_all
 rw [ea] at x3
 clear x0 x1 x2 x4 x5 ea
 go_wp2
 go_ret2
 exact ⟨rfl, q0l (q0l K1.out 6 _ rfl) 9 _ rfl, q1y (q1y (BB.out.trans (HB1.out.mono (Nat.le_trans HG.out (Nat.le_of_lt (q0g HS.out))))) HG.out) HG.out⟩
theorem v1e (g B1 B2 B3 B4 : Nat) (x y z : ByteArray) (w : World) (hS : St w g B1 B2 B3 B4 x y z) (hC : Kd.C k59 w (some ⟨B1, 0, none⟩) q0p.length q0p) (hf : (q6c 3 x ⟨#[]⟩).2 = false) :
 Calls Tryz.prog 239 #[.pointer (some ⟨g, 0, none⟩)] w fun e w' => (∃ i, e = .returned (.tuple #[.int .i64 i, .bool false])) ∧ Below w.heap.size w w' := by
 have hu := Tryz.underlying259
 have hut := Tryz.underlying33
 have hui := Tryz.underlying51
 have HS := aq hS
 have HC := aq hC
 obtain ⟨z0, z1, z2, z3, z4, z5, z6, z7, z8, z9, z10, z11, z12, z13⟩ := v3x hS
 clear hS hC
 have HF := aq hf
 clear hf
 go_enter Tryz.func239, Tryz.ntmps239
 go_wp2_with (first
  | (go_at_call 276; refine (z9f g B1 B2 B3 B4 x y z 3 _ _ _ (by exact HS.out) (by exact HC.out)).mono ?_; rintro e w1 ⟨rfl, hb⟩; rw [HF.out]))
 go_ret2
 exact ⟨⟨_, rfl⟩, hb⟩
theorem v9c (g B1 B2 B3 B4 : Nat) (x y z : ByteArray) (w : World) (hS : St w g B1 B2 B3 B4 x y z) (hC : Kd.C k59 w (some ⟨B1, 0, none⟩) q0p.length q0p) (hf : (q6c 4 y ⟨#[]⟩).2 = false) :
 Calls Tryz.prog 240 #[.pointer (some ⟨g, 0, none⟩)] w fun e w' => (∃ i, e = .returned (.tuple #[.int .i64 i, .bool false])) ∧ Below w.heap.size w w' := by
 have hu := Tryz.underlying259
 have hut := Tryz.underlying33
 have hui := Tryz.underlying51
 have HS := aq hS
 have HC := aq hC
 obtain ⟨z0, z1, z2, z3, z4, z5, z6, z7, z8, z9, z10, z11, z12, z13⟩ := v3x hS
 clear hS hC
 have HF := aq hf
 clear hf
 go_enter Tryz.func240, Tryz.ntmps240
 go_wp2_with (first
  | (go_at_call 276; refine (z9f g B1 B2 B3 B4 x y z 4 _ _ _ (by exact HS.out) (by exact HC.out)).mono ?_; rintro e w1 ⟨rfl, hb⟩; rw [HF.out]))
 go_ret2
 exact ⟨⟨_, rfl⟩, hb⟩
theorem v7i (g B1 B2 B3 B4 : Nat) (x y z : ByteArray) (w : World) (hS : St w g B1 B2 B3 B4 x y z) (hC : Kd.C k59 w (some ⟨B1, 0, none⟩) q0p.length q0p) (hf : (q6c 5 z ⟨#[]⟩).2 = false) :
 Calls Tryz.prog 241 #[.pointer (some ⟨g, 0, none⟩)] w fun e w' => (∃ i, e = .returned (.tuple #[.int .i64 i, .bool false])) ∧ Below w.heap.size w w' := by
 have hu := Tryz.underlying259
 have hut := Tryz.underlying33
 have hui := Tryz.underlying51
 have HS := aq hS
 have HC := aq hC
 obtain ⟨z0, z1, z2, z3, z4, z5, z6, z7, z8, z9, z10, z11, z12, z13⟩ := v3x hS
 clear hS hC
 have HF := aq hf
 clear hf
 go_enter Tryz.func241, Tryz.ntmps241
 go_wp2_with (first
  | (go_at_call 276; refine (z9f g B1 B2 B3 B4 x y z 5 _ _ _ (by exact HS.out) (by exact HC.out)).mono ?_; rintro e w1 ⟨rfl, hb⟩; rw [HF.out]))
 go_ret2
 exact ⟨⟨_, rfl⟩, hb⟩
theorem v9f (g B1 B2 B3 B4 : Nat) (x y z : ByteArray) (w : World) (hS : St w g B1 B2 B3 B4 x y z) (hC : Kd.C k59 w (some ⟨B1, 0, none⟩) q0p.length q0p) :
 Calls Tryz.prog 242 #[.pointer (some ⟨g, 0, none⟩)] w fun e w' => (∃ i, e = .returned (.tuple #[.int .i64 i, .bool false])) ∧ Below w.heap.size w w' := by
 have hu := Tryz.underlying259
 have hut := Tryz.underlying33
 have hui := Tryz.underlying51
 have HS := aq hS
 have HC := aq hC
 obtain ⟨z0, z1, z2, z3, z4, z5, z6, z7, z8, z9, z10, z11, z12, z13⟩ := v3x hS
 clear hS hC
 go_enter Tryz.func242, Tryz.ntmps242
 go_wp2
 refine wp_loop_once ?_
 go_wp2
 go_ret2
 exact ⟨⟨_, rfl⟩, Below.refl _ _⟩
theorem j0p (g B1 B2 B3 B4 : Nat) (x y z : ByteArray) (w : World) (hS : St w g B1 B2 B3 B4 x y z) (hC : Kd.C k59 w (some ⟨B1, 0, none⟩) q0p.length q0p) :
 Calls Tryz.prog 243 #[.pointer (some ⟨g, 0, none⟩)] w fun e w' => (∃ i, e = .returned (.tuple #[.int .i64 i, .bool false])) ∧ Below w.heap.size w w' := by
 have hu := Tryz.underlying259
 have hut := Tryz.underlying33
 have hui := Tryz.underlying51
 have HS := aq hS
 have HC := aq hC
 obtain ⟨z0, z1, z2, z3, z4, z5, z6, z7, z8, z9, z10, z11, z12, z13⟩ := v3x hS
 clear hS hC
 go_enter Tryz.func243, Tryz.ntmps243
 go_wp2
 refine wp_loop_once ?_
 go_wp2
 go_ret2
 exact ⟨⟨_, rfl⟩, Below.refl _ _⟩
structure q3d (k : Nat) (x y z : ByteArray) : Prop where
 len : (Lib.join ((q3i [x, y, z]).map (·.data.toList)) [45]).length ≤ 140737488355328
 grand : ∃ i, q0t.f k (q8d (q3i [x, y, z])) = some (i, false)
 whole : ∃ i, q0t.f k ⟨#[]⟩ = some (i, false)
 pair : (q6c 2 x z).2 = false
 lang : (q6c 3 x ⟨#[]⟩).2 = false
 script : (q6c 4 y ⟨#[]⟩).2 = false
 region : (q6c 5 z ⟨#[]⟩).2 = false
theorem ix9 (g : Nat) (F : Value) (h : F = (.agg #[.func (.func 235) #[.pointer (some ⟨g, 0, none⟩)] #[], .func (.func 236) #[.pointer (some ⟨g, 0, none⟩)] #[], .func (.func 237) #[.pointer (some ⟨g, 0, none⟩)] #[], .func (.func 238) #[.pointer (some ⟨g, 0, none⟩)] #[], .func (.func 239) #[.pointer (some ⟨g, 0, none⟩)] #[], .func (.func 240) #[.pointer (some ⟨g, 0, none⟩)] #[], .func (.func 241) #[.pointer (some ⟨g, 0, none⟩)] #[], .func (.func 242) #[.pointer (some ⟨g, 0, none⟩)] #[], .func (.func 243) #[.pointer (some ⟨g, 0, none⟩)] #[]])) (W : World) : (Instr.index 261 F (.int .i64 0)).run Tryz.prog W = .ok (.func (.func 235) #[.pointer (some ⟨g, 0, none⟩)] #[]) W ∧ (Instr.index 261 F (.int .i64 1)).run Tryz.prog W = .ok (.func (.func 236) #[.pointer (some ⟨g, 0, none⟩)] #[]) W ∧ (Instr.index 261 F (.int .i64 2)).run Tryz.prog W = .ok (.func (.func 237) #[.pointer (some ⟨g, 0, none⟩)] #[]) W ∧ (Instr.index 261 F (.int .i64 3)).run Tryz.prog W = .ok (.func (.func 238) #[.pointer (some ⟨g, 0, none⟩)] #[]) W ∧ (Instr.index 261 F (.int .i64 4)).run Tryz.prog W = .ok (.func (.func 239) #[.pointer (some ⟨g, 0, none⟩)] #[]) W ∧ (Instr.index 261 F (.int .i64 5)).run Tryz.prog W = .ok (.func (.func 240) #[.pointer (some ⟨g, 0, none⟩)] #[]) W ∧ (Instr.index 261 F (.int .i64 6)).run Tryz.prog W = .ok (.func (.func 241) #[.pointer (some ⟨g, 0, none⟩)] #[]) W ∧ (Instr.index 261 F (.int .i64 7)).run Tryz.prog W = .ok (.func (.func 242) #[.pointer (some ⟨g, 0, none⟩)] #[]) W ∧ (Instr.index 261 F (.int .i64 8)).run Tryz.prog W = .ok (.func (.func 243) #[.pointer (some ⟨g, 0, none⟩)] #[]) W := by subst h; exact ⟨by kernel_rfl, by kernel_rfl, by kernel_rfl, by kernel_rfl, by kernel_rfl, by kernel_rfl, by kernel_rfl, by kernel_rfl, by kernel_rfl⟩
theorem v7h (k : Nat) (B1 B2 B3 B4 : Nat) (x y z : ByteArray) (hN : q3d k x y z) (w : World) (hG : GrandW.G w) (hC : Kd.C k59 w (some ⟨B1, 0, none⟩) q0p.length q0p) :
 Calls Tryz.prog 202 #[q6h B1 B2 B3 B4, T3 x y z] w fun e w' => e = .returned (.tuple #[T3 x y z, .int .i64 0, .bool false]) ∧ Below w.heap.size w w' := by
 have HN := aq hN
 clear hN
 have hmf : ∀ (fn : Fn) (first cap : Array Value) (w : World), (Instr.makeFunc fn first cap).run Tryz.prog w = .ok (.func fn first cap) w := fun _ _ _ _ => rfl
 have hu := Tryz.underlying259
 have hut := Tryz.underlying33
 have hui := Tryz.underlying51
 have hua := Tryz.underlying261
 have e0 := enters_of Tryz.func235 (by kernel_rfl) rfl
 have e1 := enters_of Tryz.func236 (by kernel_rfl) rfl
 have e2 := enters_of Tryz.func237 (by kernel_rfl) rfl
 have e3 := enters_of Tryz.func238 (by kernel_rfl) rfl
 have e4 := enters_of Tryz.func239 (by kernel_rfl) rfl
 have e5 := enters_of Tryz.func240 (by kernel_rfl) rfl
 have e6 := enters_of Tryz.func241 (by kernel_rfl) rfl
 have e7 := enters_of Tryz.func242 (by kernel_rfl) rfl
 have e8 := enters_of Tryz.func243 (by kernel_rfl) rfl
 unfold Enters at e0 e1 e2 e3 e4 e5 e6 e7 e8
 obtain ⟨g, hg⟩ : ∃ g, g = w.heap.size + 1 + 1 + 1 := ⟨_, rfl⟩
 have x0 := fun W => (ix9 g _ rfl W).1
 have x1 := fun W => (ix9 g _ rfl W).2.1
 have x2 := fun W => (ix9 g _ rfl W).2.2.1
 have x3 := fun W => (ix9 g _ rfl W).2.2.2.1
 have x4 := fun W => (ix9 g _ rfl W).2.2.2.2.1
 have x5 := fun W => (ix9 g _ rfl W).2.2.2.2.2.1
 have x6 := fun W => (ix9 g _ rfl W).2.2.2.2.2.2.1
 have x7 := fun W => (ix9 g _ rfl W).2.2.2.2.2.2.2.1
 have x8 := fun W => (ix9 g _ rfl W).2.2.2.2.2.2.2.2
 obtain ⟨W0, hW0⟩ : ∃ W0, W0 = ((((w.alloc (.cells #[.slice (some ⟨B1, 0, none⟩) 54 54, .slice (some ⟨B2, 0, none⟩) 32 32, .slice (some ⟨B3, 0, none⟩) 15 15, .slice (some ⟨B4, 0, none⟩) 7 7, .int .i64 40, .int .i64 5] 51)).alloc (.cells (T3c x y z) 33)).alloc (.cells (T3c ⟨#[]⟩ ⟨#[]⟩ ⟨#[]⟩) 33)).alloc (.cells (stC B1 B2 B3 B4 x y z) 259)) := ⟨_, rfl⟩
 have St0 : St W0 g B1 B2 B3 B4 x y z := by unfold St; rw [hW0, hg]; exact aZ (by simp)
 have R0 : W0.heap[w.heap.size + 1 + 1]? = some (.cells (T3c ⟨#[]⟩ ⟨#[]⟩ ⟨#[]⟩) 33 (0, 0)) := by rw [hW0]; exact aN (aZ (by simp))
 have T0 : W0.heap[w.heap.size + 1]? = some (.cells (T3c x y z) 33 (0, 0)) := by rw [hW0]; exact aN (aN (aZ (by simp)))
 have B0 : Below w.heap.size w W0 := by rw [hW0]; exact q0b (q0b (q0b (q0b (Below.refl _ _) _) _) _) _
 have C0 := Kd.q0h hC B0
 have G0 := hG.below B0
 have HW := aq hW0.symm
 have HS := aq St0
 have HR := aq R0
 have HT := aq T0
 have HB := aq B0
 have HC := aq C0
 have HG := aq G0
 have Hg := aq hg.symm
 clear hW0 St0 R0 T0 B0 C0 G0 hC hG hg
 unfold q6h T3
 go_enter Tryz.func202, Tryz.ntmps202
 go_wp2
 have h1 := HW.out
 unfold T3c stC at h1
 rw [h1, Hg.out]
 clear h1
 obtain ⟨i1, hi1⟩ := HN.out.grand
 obtain ⟨i2, hi2⟩ := HN.out.whole
 have X0 := aq (Below.refl W0.heap.size W0)
 have I1 := aq hi1
 have I2 := aq hi2
 clear hi1 hi2
 refine wp_loop_rounds 10 ?_
 rw [rounds_succ]
 go_wp2_with (first
  | (go_at_call 235; refine (v7e g B1 B2 B3 B4 x y z _ (HS.out.below X0.out) (Kd.q0h HC.out X0.out) k (HG.out.below X0.out) i1 HN.out.len I1.out).mono ?_; rintro e v1 ⟨⟨j0, rfl⟩, hb⟩; have X1 := aq (X0.out.trans (hb.mono X0.out.size)); clear hb))
 rw [rounds_succ]
 go_wp2_with (first
  | (go_at_call 236; refine (v0f g B1 B2 B3 B4 x y z _ (HS.out.below X1.out) (Kd.q0h HC.out X1.out)).mono ?_; rintro e v2 ⟨⟨j1, rfl⟩, hb⟩; have X2 := aq (X1.out.trans (hb.mono X1.out.size)); clear hb))
 rw [rounds_succ]
 go_wp2_with (first
  | (go_at_call 237; refine (v7t g B1 B2 B3 B4 x y z _ (HS.out.below X2.out) (Kd.q0h HC.out X2.out) k (HG.out.below X2.out) i2 I2.out).mono ?_; rintro e v3 ⟨⟨j2, rfl⟩, hb⟩; have X3 := aq (X2.out.trans (hb.mono X2.out.size)); clear hb))
 rw [rounds_succ]
 go_wp2_with (first
  | (go_at_call 238; refine (k6s g B1 B2 B3 B4 x y z _ (HS.out.below X3.out) (Kd.q0h HC.out X3.out) HN.out.pair).mono ?_; rintro e v4 ⟨⟨j3, rfl⟩, hb⟩; have X4 := aq (X3.out.trans (hb.mono X3.out.size)); clear hb))
 rw [rounds_succ]
 go_wp2_with (first
  | (go_at_call 239; refine (v1e g B1 B2 B3 B4 x y z _ (HS.out.below X4.out) (Kd.q0h HC.out X4.out) HN.out.lang).mono ?_; rintro e v5 ⟨⟨j4, rfl⟩, hb⟩; have X5 := aq (X4.out.trans (hb.mono X4.out.size)); clear hb))
 rw [rounds_succ]
 go_wp2_with (first
  | (go_at_call 240; refine (v9c g B1 B2 B3 B4 x y z _ (HS.out.below X5.out) (Kd.q0h HC.out X5.out) HN.out.script).mono ?_; rintro e v6 ⟨⟨j5, rfl⟩, hb⟩; have X6 := aq (X5.out.trans (hb.mono X5.out.size)); clear hb))
 rw [rounds_succ]
 go_wp2_with (first
  | (go_at_call 241; refine (v7i g B1 B2 B3 B4 x y z _ (HS.out.below X6.out) (Kd.q0h HC.out X6.out) HN.out.region).mono ?_; rintro e v7 ⟨⟨j6, rfl⟩, hb⟩; have X7 := aq (X6.out.trans (hb.mono X6.out.size)); clear hb))
 rw [rounds_succ]
 go_wp2_with (first
  | (go_at_call 242; refine (v9f g B1 B2 B3 B4 x y z _ (HS.out.below X7.out) (Kd.q0h HC.out X7.out)).mono ?_; rintro e v8 ⟨⟨j7, rfl⟩, hb⟩; have X8 := aq (X7.out.trans (hb.mono X7.out.size)); clear hb))
 rw [rounds_succ]
 go_wp2_with (first
  | (go_at_call 243; refine (j0p g B1 B2 B3 B4 x y z _ (HS.out.below X8.out) (Kd.q0h HC.out X8.out)).mono ?_; rintro e v9 ⟨⟨j8, rfl⟩, hb⟩; have X9 := aq (X8.out.trans (hb.mono X8.out.size)); clear hb))
 rw [rounds_succ]
 obtain ⟨z0, z1, z2, z3, z4, z5, z6, z7⟩ := cz8 ((X9.out.block _ (q0g HT.out)).trans HT.out)
 obtain ⟨y0, y1, y2, y3, y4, y5, y6, y7⟩ := cz8 ((X9.out.block _ (q0g HR.out)).trans HR.out)
 obtain ⟨f0, f1, f2, f3, f4, f5, f6, f7⟩ := fz8 ((X9.out.block _ (q0g HR.out)).trans HR.out)
 go_wp2
 have R9 := q0l (q0l (q0l (q0l (q0l (q0l (q0l (q0l ((X9.out.block _ (q0g HR.out)).trans HR.out) 0 (.string x) rfl) 1 (.slice none 0 0) rfl) 2 (.string y) rfl) 3 (.string z) rfl) 4 (.slice none 0 0) rfl) 5 (.slice none 0 0) rfl) 6 (.slice none 0 0) rfl) 7 (.string ⟨#[]⟩) rfl
 obtain ⟨c0, c1, c2, c3, c4, c5, c6, c7⟩ := cz8 R9
 refine bodyPost_ret (v := .tuple #[.agg #[.string x, .slice none 0 0, .string y, .string z, .slice none 0 0, .slice none 0 0, .slice none 0 0, .string ⟨#[]⟩], .int .i64 0, .bool false]) ?_ rfl ⟨rfl, ?_⟩
 · simp [results, Tryz.results202, asAddr, c0, c1, c2, c3, c4, c5, c6, c7, hut, go_sem]
 · have B9 : Below w.heap.size w v9 := HB.out.trans (X9.out.mono HB.out.size)
   iterate 8 refine q1y ?_ (by omega)
   exact B9
theorem v6u (k : Nat) (B1 B2 B3 B4 : Nat) (x y z : ByteArray) (i1 i2 : Int) (hl : (Lib.join ((q3i [x, y, z]).map (·.data.toList)) [45]).length ≤ 140737488355328) (hi1 : q0t.f k (q8d (q3i [x, y, z])) = some (i1, false)) (hi2 : q0t.f k ⟨#[]⟩ = some (i2, false)) (i : Nat) (r : S59) (hi : q0p[i]? = some r) (hf : q6c 2 x z = ((i : Int), true)) (w : World) (hG : GrandW.G w) (hC : Kd.C k59 w (some ⟨B1, 0, none⟩) q0p.length q0p) :
 Calls Tryz.prog 202 #[q6h B1 B2 B3 B4, T3 x y z] w fun e w' => e = .returned (.tuple #[T3 r.f3 y ⟨#[]⟩, .int .i64 (i : Int), .bool true]) ∧ Below w.heap.size w w' := by
 have HF := aq hf
 have HI := aq hi
 have HL := aq hl
 clear hf hi hl
 have hmf : ∀ (fn : Fn) (first cap : Array Value) (w : World), (Instr.makeFunc fn first cap).run Tryz.prog w = .ok (.func fn first cap) w := fun _ _ _ _ => rfl
 have hu := Tryz.underlying259
 have hut := Tryz.underlying33
 have hui := Tryz.underlying51
 have hua := Tryz.underlying261
 have e0 := enters_of Tryz.func235 (by kernel_rfl) rfl
 have e1 := enters_of Tryz.func236 (by kernel_rfl) rfl
 have e2 := enters_of Tryz.func237 (by kernel_rfl) rfl
 have e3 := enters_of Tryz.func238 (by kernel_rfl) rfl
 unfold Enters at e0 e1 e2 e3
 obtain ⟨g, hg⟩ : ∃ g, g = w.heap.size + 1 + 1 + 1 := ⟨_, rfl⟩
 have x0 := fun W => (ix9 g _ rfl W).1
 have x1 := fun W => (ix9 g _ rfl W).2.1
 have x2 := fun W => (ix9 g _ rfl W).2.2.1
 have x3 := fun W => (ix9 g _ rfl W).2.2.2.1
 obtain ⟨W0, hW0⟩ : ∃ W0, W0 = ((((w.alloc (.cells #[.slice (some ⟨B1, 0, none⟩) 54 54, .slice (some ⟨B2, 0, none⟩) 32 32, .slice (some ⟨B3, 0, none⟩) 15 15, .slice (some ⟨B4, 0, none⟩) 7 7, .int .i64 40, .int .i64 5] 51)).alloc (.cells (T3c x y z) 33)).alloc (.cells (T3c ⟨#[]⟩ ⟨#[]⟩ ⟨#[]⟩) 33)).alloc (.cells (stC B1 B2 B3 B4 x y z) 259)) := ⟨_, rfl⟩
 have St0 : St W0 g B1 B2 B3 B4 x y z := by unfold St; rw [hW0, hg]; exact aZ (by simp)
 have R0 : W0.heap[w.heap.size + 1 + 1]? = some (.cells (T3c ⟨#[]⟩ ⟨#[]⟩ ⟨#[]⟩) 33 (0, 0)) := by rw [hW0]; exact aN (aZ (by simp))
 have T0 : W0.heap[w.heap.size + 1]? = some (.cells (T3c x y z) 33 (0, 0)) := by rw [hW0]; exact aN (aN (aZ (by simp)))
 have B0 : Below w.heap.size w W0 := by rw [hW0]; exact q0b (q0b (q0b (q0b (Below.refl _ _) _) _) _) _
 have C0 := Kd.q0h hC B0
 have G0 := hG.below B0
 have HW := aq hW0.symm
 have HS := aq St0
 have HR := aq R0
 have HT := aq T0
 have HB := aq B0
 have HC := aq C0
 have HG := aq G0
 have Hg := aq hg.symm
 clear hW0 St0 R0 T0 B0 C0 G0 hC hG hg
 unfold q6h T3
 go_enter Tryz.func202, Tryz.ntmps202
 go_wp2
 have h1 := HW.out
 unfold T3c stC at h1
 rw [h1, Hg.out]
 clear h1
 have X0 := aq (Below.refl W0.heap.size W0)
 have I1 := aq hi1
 have I2 := aq hi2
 clear hi1 hi2
 refine wp_loop_rounds 10 ?_
 rw [rounds_succ]
 go_wp2_with (first
  | (go_at_call 235; refine (v7e g B1 B2 B3 B4 x y z _ (HS.out.below X0.out) (Kd.q0h HC.out X0.out) k (HG.out.below X0.out) i1 HL.out I1.out).mono ?_; rintro e v1 ⟨⟨j0, rfl⟩, hb⟩; have X1 := aq (X0.out.trans (hb.mono X0.out.size)); clear hb))
 rw [rounds_succ]
 go_wp2_with (first
  | (go_at_call 236; refine (v0f g B1 B2 B3 B4 x y z _ (HS.out.below X1.out) (Kd.q0h HC.out X1.out)).mono ?_; rintro e v2 ⟨⟨j1, rfl⟩, hb⟩; have X2 := aq (X1.out.trans (hb.mono X1.out.size)); clear hb))
 rw [rounds_succ]
 go_wp2_with (first
  | (go_at_call 237; refine (v7t g B1 B2 B3 B4 x y z _ (HS.out.below X2.out) (Kd.q0h HC.out X2.out) k (HG.out.below X2.out) i2 I2.out).mono ?_; rintro e v3 ⟨⟨j2, rfl⟩, hb⟩; have X3 := aq (X2.out.trans (hb.mono X2.out.size)); clear hb))
 rw [rounds_succ]
 go_wp2_with (first
  | (go_at_call 238; refine (k2u g B1 B2 B3 B4 x y z _ (HS.out.below X3.out) (Kd.q0h HC.out X3.out) i r HI.out HF.out g _ (by exact Below.refl _ _) (Nat.le_refl _)).mono ?_; rintro e v4 ⟨rfl, hs, hb⟩; have Y4 := aq hs; have Z4 := aq hb; have R4 := aq ((hb.block _ (by have := Hg.out; omega)).trans ((X3.out.block _ (q0g HR.out)).trans HR.out)); obtain ⟨y0, y1, y2, y3, y4, y5, y6, y7⟩ := cz8 R4.out; obtain ⟨f0, f1, f2, f3, f4, f5, f6, f7⟩ := fz8 R4.out; obtain ⟨z0, z1, z2, z3, z4, z5, z6, z7, z8, z9, z10, z11, z12, z13⟩ := v3x hs; clear hs hb))
 have R9 := q0l (q0l (q0l (q0l (q0l (q0l (q0l (q0l R4.out 0 (.string r.f3) rfl) 1 (.slice none 0 0) rfl) 2 (.string y) rfl) 3 (.string ⟨#[]⟩) rfl) 4 (.slice none 0 0) rfl) 5 (.slice none 0 0) rfl) 6 (.slice none 0 0) rfl) 7 (.string ⟨#[]⟩) rfl
 obtain ⟨c0, c1, c2, c3, c4, c5, c6, c7⟩ := cz8 R9
 refine bodyPost_ret (v := .tuple #[.agg #[.string r.f3, .slice none 0 0, .string y, .string ⟨#[]⟩, .slice none 0 0, .slice none 0 0, .slice none 0 0, .string ⟨#[]⟩], .int .i64 (i : Int), .bool true]) ?_ rfl ⟨rfl, ?_⟩
 · simp [results, Tryz.results202, asAddr, c0, c1, c2, c3, c4, c5, c6, c7, hut, go_sem]
 · have B3 : Below w.heap.size w v3 := HB.out.trans (X3.out.mono HB.out.size)
   have B9 : Below w.heap.size w v4 := B3.trans (Z4.out.mono (by have := Hg.out; omega))
   iterate 8 refine q1y ?_ (by omega)
   exact B9
def q4k (B1 B2 B3 B4 : Nat) : Array Value := #[.slice (some ⟨B1, 0, none⟩) 54 54, .slice (some ⟨B2, 0, none⟩) 32 32, .slice (some ⟨B3, 0, none⟩) 15 15, .slice (some ⟨B4, 0, none⟩) 7 7, .int .i64 40, .int .i64 5]
def q6f (W : World) (g : Nat) (x y z : ByteArray) : World := (((((((W.setCell ⟨g, 0, none⟩ (.string x)).setCell ⟨g, 1, none⟩ (.slice none 0 0)).setCell ⟨g, 2, none⟩ (.string y)).setCell ⟨g, 3, none⟩ (.string z)).setCell ⟨g, 4, none⟩ (.slice none 0 0)).setCell ⟨g, 5, none⟩ (.slice none 0 0)).setCell ⟨g, 6, none⟩ (.slice none 0 0)).setCell ⟨g, 7, none⟩ (.string ⟨#[]⟩)
theorem q5y {W : World} {g : Nat} {t : TypeId} {a b c : ByteArray} (h : W.heap[g]? = some (.cells (T3c a b c) t (0, 0))) (x y z : ByteArray) : (q6f W g x y z).heap[g]? = some (.cells (T3c x y z) t (0, 0)) := by
 have h0 : W.heap[g]? = some (.cells #[.string a, .slice none 0 0, .string b, .string c, .slice none 0 0, .slice none 0 0, .slice none 0 0, .string ⟨#[]⟩] t (0, 0)) := h
 have h1 := q0l (cs' := #[.string x, .slice none 0 0, .string b, .string c, .slice none 0 0, .slice none 0 0, .slice none 0 0, .string ⟨#[]⟩]) h0 0 (.string x) rfl
 have h2 := q0l (cs' := #[.string x, .slice none 0 0, .string b, .string c, .slice none 0 0, .slice none 0 0, .slice none 0 0, .string ⟨#[]⟩]) h1 1 (.slice none 0 0) rfl
 have h3 := q0l (cs' := #[.string x, .slice none 0 0, .string y, .string c, .slice none 0 0, .slice none 0 0, .slice none 0 0, .string ⟨#[]⟩]) h2 2 (.string y) rfl
 have h4 := q0l (cs' := #[.string x, .slice none 0 0, .string y, .string z, .slice none 0 0, .slice none 0 0, .slice none 0 0, .string ⟨#[]⟩]) h3 3 (.string z) rfl
 have h5 := q0l (cs' := #[.string x, .slice none 0 0, .string y, .string z, .slice none 0 0, .slice none 0 0, .slice none 0 0, .string ⟨#[]⟩]) h4 4 (.slice none 0 0) rfl
 have h6 := q0l (cs' := #[.string x, .slice none 0 0, .string y, .string z, .slice none 0 0, .slice none 0 0, .slice none 0 0, .string ⟨#[]⟩]) h5 5 (.slice none 0 0) rfl
 have h7 := q0l (cs' := #[.string x, .slice none 0 0, .string y, .string z, .slice none 0 0, .slice none 0 0, .slice none 0 0, .string ⟨#[]⟩]) h6 6 (.slice none 0 0) rfl
 have h8 := q0l (cs' := #[.string x, .slice none 0 0, .string y, .string z, .slice none 0 0, .slice none 0 0, .slice none 0 0, .string ⟨#[]⟩]) h7 7 (.string ⟨#[]⟩) rfl
 exact h8
theorem q4s {W : World} {g k : Nat} (x y z : ByteArray) (h : k ≠ g) : (q6f W g x y z).heap[k]? = W.heap[k]? := by
 unfold q6f
 repeat rw [Below.heap_setCell _ _ _ _ h]
theorem q2k {n g : Nat} {w W : World} (h : Below n w W) (hg : n ≤ g) (x y z : ByteArray) : Below n w (q6f W g x y z) := by
 unfold q6f
 iterate 8 refine q1y ?_ hg
 exact h
theorem q8l (W : World) (g : Nat) (x y z : ByteArray) : W.grownBy (q6f W g x y z) (some g) := by
 unfold q6f
 iterate 7 refine World.grownBy.trans ?_ (q2y _ _ _ _)
 exact q2y _ _ _ _
theorem z4s (W : World) (g : Nat) (x y z : ByteArray) : (q6f W g x y z).heap.size = W.heap.size := by simp [q6f, World.setCell]
theorem q3q (W : World) (g : Nat) (x y z : ByteArray) : (((((((W.setCell ⟨g, 0, none⟩ (.string x)).setCell ⟨g, 1, none⟩ (.slice none 0 0)).setCell ⟨g, 2, none⟩ (.string y)).setCell ⟨g, 3, none⟩ (.string z)).setCell ⟨g, 4, none⟩ (.slice none 0 0)).setCell ⟨g, 5, none⟩ (.slice none 0 0)).setCell ⟨g, 6, none⟩ (.slice none 0 0)).setCell ⟨g, 7, none⟩ (.string ⟨#[]⟩) = q6f W g x y z := rfl
theorem q5u {W : World} {g : Nat} {t : TypeId} {x y z : ByteArray} (h : W.heap[g]? = some (.cells (T3c x y z) t (0, 0))) : W.cell? ⟨g, 0, none⟩ = some (.string x) ∧ W.cell? ⟨g, 1, none⟩ = some (.slice none 0 0) ∧ W.cell? ⟨g, 2, none⟩ = some (.string y) ∧ W.cell? ⟨g, 3, none⟩ = some (.string z) ∧ W.cell? ⟨g, 4, none⟩ = some (.slice none 0 0) ∧ W.cell? ⟨g, 5, none⟩ = some (.slice none 0 0) ∧ W.cell? ⟨g, 6, none⟩ = some (.slice none 0 0) ∧ W.cell? ⟨g, 7, none⟩ = some (.string ⟨#[]⟩) := cz8 (show W.heap[g]? = some (.cells #[.string x, .slice none 0 0, .string y, .string z, .slice none 0 0, .slice none 0 0, .slice none 0 0, .string ⟨#[]⟩] t (0, 0)) from h)
theorem v0x {W : World} {g : Nat} {t : TypeId} {x y z : ByteArray} (h : W.heap[g]? = some (.cells (T3c x y z) t (0, 0))) : W.frozen? ⟨g, 0, none⟩ = false ∧ W.frozen? ⟨g, 1, none⟩ = false ∧ W.frozen? ⟨g, 2, none⟩ = false ∧ W.frozen? ⟨g, 3, none⟩ = false ∧ W.frozen? ⟨g, 4, none⟩ = false ∧ W.frozen? ⟨g, 5, none⟩ = false ∧ W.frozen? ⟨g, 6, none⟩ = false ∧ W.frozen? ⟨g, 7, none⟩ = false := fz8 (show W.heap[g]? = some (.cells #[.string x, .slice none 0 0, .string y, .string z, .slice none 0 0, .slice none 0 0, .slice none 0 0, .string ⟨#[]⟩] t (0, 0)) from h)
end Go.Proofs.YtpmcfckechjppaaGreatDoor.Ps
