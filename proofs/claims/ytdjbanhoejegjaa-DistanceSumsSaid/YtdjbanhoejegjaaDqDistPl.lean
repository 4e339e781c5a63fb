/- distance.places, walked. -/
import Derived.Test.YtdjbanhoejegjaaDqLikMax
import Derived.Test.YtdjbanhoejegjaaDqTight
namespace Go.Proofs.Ytdjbanhoejegjaa.LikW
open Go.RowKit Go.Proofs.YtdjbanhoejegjaaW.PrintWords Go.Proofs.YtdjbanhoejegjaaW.PrintLast Go.Proofs.Ytdjbanhoejegjaa.P
set_option linter.unusedVariables false
set_option linter.unusedSimpArgs false

def plP (l : List S66) (t : K3) : K3 := (maxP l t).1
set_option maxRecDepth 100000 in
set_option maxHeartbeats 4000000 in
theorem places_calls (A0 : Option Addr) (n0 c0 : Nat) (A1 : Option Addr) (c1 : Nat) (l : List S66) (A2 : Option Addr) (n2 c2 : Nat) (A3 : Option Addr) (n3 c3 : Nat) (p q : Int)
    (L S R G : ByteArray) (E0 : Option Addr) (m0 d0 : Nat) (E1 : Option Addr) (m1 d1 : Nat) (E2 : Option Addr) (m2 d2 : Nat) (E3 : Option Addr) (m3 d3 : Nat) (w : World) (hC : Kd.C k66 w A1 l.length l) :
    Calls Try.prog 38 #[.agg #[.slice A0 n0 c0, .slice A1 l.length c1, .slice A2 n2 c2, .slice A3 n3 c3, .int .i64 p, .int .i64 q], .agg #[.string L, .slice E0 m0 d0, .string S, .string R, .slice E1 m1 d1, .slice E2 m2 d2, .slice E3 m3 d3, .string G]] w fun e w' =>
      e = .returned (.agg #[.string (plP l (L, S, R)).1, .string (plP l (L, S, R)).2.1, .string (plP l (L, S, R)).2.2]) ∧ Below w.heap.size w w' := by
  have hu39 := Try.underlying39
  have hu44 := Try.underlying44
  have hu30 := Try.underlying30
  obtain ⟨V, hV⟩ : ∃ V, V = ((w.alloc (.cells #[.slice A0 n0 c0, .slice A1 l.length c1, .slice A2 n2 c2, .slice A3 n3 c3, .int .i64 p, .int .i64 q] 39)).alloc (.cells #[.string L, .slice E0 m0 d0, .string S, .string R, .slice E1 m1 d1, .slice E2 m2 d2, .slice E3 m3 d3, .string G] 44)).alloc (.cells #[.string ⟨#[]⟩, .string ⟨#[]⟩, .string ⟨#[]⟩] 30) := ⟨_, rfl⟩
  have vs : V.heap.size = w.heap.size + 3 := by rw [hV]; simp
  have vT : Blk V (w.heap.size + 1 + 1) #[.string ⟨#[]⟩, .string ⟨#[]⟩, .string ⟨#[]⟩] 30 := by rw [hV]; have := Blk.new ((w.alloc (.cells #[.slice A0 n0 c0, .slice A1 l.length c1, .slice A2 n2 c2, .slice A3 n3 c3, .int .i64 p, .int .i64 q] 39)).alloc (.cells #[.string L, .slice E0 m0 d0, .string S, .string R, .slice E1 m1 d1, .slice E2 m2 d2, .slice E3 m3 d3, .string G] 44)) #[.string ⟨#[]⟩, .string ⟨#[]⟩, .string ⟨#[]⟩] 30; rwa [World.size_alloc, World.size_alloc] at this
  have vB : Below w.heap.size w V := by rw [hV]; repeat (first | exact Below.refl _ _ | apply below_alloc)
  have HC := Aside0.mk (Kd.C_below hC vB)
  have HV := Aside0.mk hV
  have HT := Aside0.mk vT
  have HB := Aside0.mk vB
  clear hC hV vT vB
  go_enter Try.func38, Try.ntmps38
  go_wp2_with (first | (go_at_call 52; rw [← HV.out]; refine (max_calls A0 n0 c0 A1 c1 l A2 n2 c2 A3 n3 c3 p q L S R G E0 m0 d0 E1 m1 d1 E2 m2 d2 E3 m3 d3 V HC.out).mono ?_; rintro e w1 ⟨rfl, hb⟩; have s1 := hb.size; have T1 := Aside0.mk (HT.out.below (by omega) hb); have B1 := Aside0.mk (HB.out.trans (hb.mono HB.out.size)); clear hb) | ((with_reducible refine gate_dst (N := 5) rfl ?_); refine box_event ?hg (N := 5) ?hd (cs := #[.string ⟨#[]⟩, .slice none 0 0, .string ⟨#[]⟩, .string ⟨#[]⟩, .slice none 0 0, .slice none 0 0, .slice none 0 0, .string ⟨#[]⟩]) (t := 44) ?hr ?_; (case hd => rfl); (case hg => rfl); (case hr => first | (go_simp; done) | (go_simp; rfl)); intro gb hg w2 hbox hb; have T2 := Aside0.mk (T1.out.below T1.out.lt hb); have B2 := Aside0.mk (B1.out.trans (hb.mono B1.out.size)); have s2 := hb.size; have sT := T1.out.lt; have hne : w.heap.size + 1 + 1 ≠ gb := (by rw [hg]; omega); have hne2 : gb ≠ w.heap.size + 1 + 1 := (by rw [hg]; omega); have HG := Aside0.mk (show w.heap.size ≤ gb by rw [hg]; omega); have BK := Aside0.mk hbox; obtain ⟨y0, y1, y2, y3, y4, y5, y6, y7⟩ := cz8 hbox; obtain ⟨z0, z1, z2, z3, z4, z5, z6, z7⟩ := fz8 hbox; obtain ⟨x0, x1, x2⟩ := cz3 (show w2.heap[w.heap.size + 1 + 1]? = _ from T2.out); obtain ⟨v0, v1, v2⟩ := fz3 (show w2.heap[w.heap.size + 1 + 1]? = _ from T2.out); clear hb hbox hg))
  refine bodyPost_ret (results_cell_row rfl _ _ (w.heap.size + 1 + 1) 30 #[.string (maxP l (L, S, R)).1.1, .string (maxP l (L, S, R)).1.2.1, .string (maxP l (L, S, R)).1.2.2] (0, 0) _ rfl (bx (blk_put (cs := #[.string (maxP l (L, S, R)).1.1, .string (maxP l (L, S, R)).1.2.1, .string ⟨#[]⟩]) (bx (blk_put (cs := #[.string (maxP l (L, S, R)).1.1, .string ⟨#[]⟩, .string ⟨#[]⟩]) (bx (blk_put (cs := #[.string ⟨#[]⟩, .string ⟨#[]⟩, .string ⟨#[]⟩]) (bx (blk_far (bx (blk_far (bx (blk_far (bx (blk_far (bx (blk_far (bx (blk_far (bx (blk_far (bx (blk_far (bx (T2.out)) hne _)) hne _)) hne _)) hne _)) hne _)) hne _)) hne _)) hne _)) 0 _ rfl)) 1 _ rfl)) 2 _ rfl)) Try.underlying30 rfl (by kernel_rfl)) rfl ?_
  exact ⟨rfl, by repeat (first | (with_reducible first | exact B2.out | apply wA | apply wN | apply wD | refine wS ?_ HG.out | refine wS ?_ (by omega)) | exact B2.out)⟩
end Go.Proofs.Ytdjbanhoejegjaa.LikW
