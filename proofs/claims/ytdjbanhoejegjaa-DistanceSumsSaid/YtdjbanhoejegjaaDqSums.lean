/- isoglossref22.Distance, the law's sums, and the law DistanceSums, walked. -/
import Derived.Test.YtdjbanhoejegjaaDqSumP
import Derived.Test.YtdjbanhoejegjaaDqP5
import Derived.Test.YtdjbanhoejegjaaDqP11
import Derived.Test.YtdjbanhoejegjaaDqAwake
import Derived.Test.YtdjbanhoejegjaaDqRef22
import Derived.Test.YtdjbanhoejegjaaDqMade06
import Derived.Test.YtdjbanhoejegjaaDqTags
namespace Go.Proofs.Ytdjbanhoejegjaa.LikW
open Go.RowKit Go.Proofs.YtdjbanhoejegjaaW.PrintWords Go.Proofs.YtdjbanhoejegjaaW.PrintLast Go.Proofs.Ytdjbanhoejegjaa.P
set_option linter.unusedVariables false
set_option linter.unusedSimpArgs false

theorem sum22 (rs : List S53) (ms : List S69) (d s : K3) (hr : ∀ x ∈ rs, 0 ≤ x.f1 ∧ x.f1 ≤ 100) : wrap64 (wrap64 (costP rs ms 1 d s + costP rs ms 2 d s) + costP rs ms 3 d s) = sumP rs ms d s 3 := by
 have c1 := cost_range rs ms 1 d s (by omega) (by omega) hr
 show _ = wrap64 (wrap64 (wrap64 (0 + costP rs ms ((0 : Nat) + 1 : Int) d s) + costP rs ms ((1 : Nat) + 1 : Int) d s) + costP rs ms ((2 : Nat) + 1 : Int) d s)
 have e : wrap64 (0 + costP rs ms ((0 : Nat) + 1 : Int) d s) = costP rs ms 1 d s := by
  rw [Int.zero_add]
  show wrap64 (costP rs ms 1 d s) = _
  unfold wrap64
  omega
 rw [e]
 rfl
theorem cz16 {W : World} {g : Nat} {t : TypeId} {v0 v1 v2 v3 v4 v5 v6 v7 v8 v9 v10 v11 v12 v13 v14 v15 : Value} (h : W.heap[g]? = some (.cells #[v0, v1, v2, v3, v4, v5, v6, v7, v8, v9, v10, v11, v12, v13, v14, v15] t (0, 0))) : W.cell? ⟨g, 0, none⟩ = some v0 ∧ W.cell? ⟨g, 1, none⟩ = some v1 ∧ W.cell? ⟨g, 2, none⟩ = some v2 ∧ W.cell? ⟨g, 3, none⟩ = some v3 ∧ W.cell? ⟨g, 4, none⟩ = some v4 ∧ W.cell? ⟨g, 5, none⟩ = some v5 ∧ W.cell? ⟨g, 6, none⟩ = some v6 ∧ W.cell? ⟨g, 7, none⟩ = some v7 ∧ W.cell? ⟨g, 8, none⟩ = some v8 ∧ W.cell? ⟨g, 9, none⟩ = some v9 ∧ W.cell? ⟨g, 10, none⟩ = some v10 ∧ W.cell? ⟨g, 11, none⟩ = some v11 ∧ W.cell? ⟨g, 12, none⟩ = some v12 ∧ W.cell? ⟨g, 13, none⟩ = some v13 ∧ W.cell? ⟨g, 14, none⟩ = some v14 ∧ W.cell? ⟨g, 15, none⟩ = some v15 := ⟨(blk_cell h 0).trans rfl, (blk_cell h 1).trans rfl, (blk_cell h 2).trans rfl, (blk_cell h 3).trans rfl, (blk_cell h 4).trans rfl, (blk_cell h 5).trans rfl, (blk_cell h 6).trans rfl, (blk_cell h 7).trans rfl, (blk_cell h 8).trans rfl, (blk_cell h 9).trans rfl, (blk_cell h 10).trans rfl, (blk_cell h 11).trans rfl, (blk_cell h 12).trans rfl, (blk_cell h 13).trans rfl, (blk_cell h 14).trans rfl, (blk_cell h 15).trans rfl⟩
theorem dist_n (A0 : Option Addr) (n0 c0 : Nat) (A1 : Option Addr) (c1 : Nat) (l : List S66) (A2 : Option Addr) (c2 : Nat) (rs : List S53) (A3 : Option Addr) (c3 : Nat) (ms : List S69) (p q : Int) (aL aS aR aG : ByteArray) (Ea0 : Option Addr) (ma0 da0 : Nat) (Ea1 : Option Addr) (ma1 da1 : Nat) (Ea2 : Option Addr) (ma2 da2 : Nat) (Ea3 : Option Addr) (ma3 da3 : Nat) (bL bS bR bG : ByteArray) (Eb0 : Option Addr) (mb0 db0 : Nat) (Eb1 : Option Addr) (mb1 db1 : Nat) (Eb2 : Option Addr) (mb2 db2 : Nat) (Eb3 : Option Addr) (mb3 db3 : Nat) (N : Int) (hN : sumP rs ms (plP l (aL, aS, aR)) (plP l (bL, bS, bR)) 3 = N) (w : World) (hL : Kd.C k66 w A1 l.length l) (hR : Kd.C k53 w A2 rs.length rs) (hM : Kd.C k69 w A3 ms.length ms) :
 Calls Try.prog 16 #[.agg #[.slice A0 n0 c0, .slice A1 l.length c1, .slice A2 rs.length c2, .slice A3 ms.length c3, .int .i64 p, .int .i64 q], .agg #[.string aL, .slice Ea0 ma0 da0, .string aS, .string aR, .slice Ea1 ma1 da1, .slice Ea2 ma2 da2, .slice Ea3 ma3 da3, .string aG], .agg #[.string bL, .slice Eb0 mb0 db0, .string bS, .string bR, .slice Eb1 mb1 db1, .slice Eb2 mb2 db2, .slice Eb3 mb3 db3, .string bG]] w fun e w' => e = .returned (.int .i64 N) ∧ Below w.heap.size w w' :=
 hN ▸ dist_calls A0 n0 c0 A1 c1 l A2 c2 rs A3 c3 ms p q aL aS aR aG Ea0 ma0 da0 Ea1 ma1 da1 Ea2 ma2 da2 Ea3 ma3 da3 bL bS bR bG Eb0 mb0 db0 Eb1 mb1 db1 Eb2 mb2 db2 Eb3 mb3 db3 w hL hR hM
theorem places22_n (A0 : Option Addr) (n0 c0 : Nat) (A1 : Option Addr) (c1 : Nat) (l : List S66) (A2 : Option Addr) (n2 c2 : Nat) (A3 : Option Addr) (n3 c3 : Nat) (p q : Int) (aL aS aR aG : ByteArray) (Ea0 : Option Addr) (ma0 da0 : Nat) (Ea1 : Option Addr) (ma1 da1 : Nat) (Ea2 : Option Addr) (ma2 da2 : Nat) (Ea3 : Option Addr) (ma3 da3 : Nat) (k1 k2 k3_ : ByteArray) (h : plP l (aL, aS, aR) = (k1, k2, k3_)) (w : World) (hC : Kd.C k66 w A1 l.length l) : Calls Try.prog 41 #[.agg #[.slice A0 n0 c0, .slice A1 l.length c1, .slice A2 n2 c2, .slice A3 n3 c3, .int .i64 p, .int .i64 q], .agg #[.string aL, .slice Ea0 ma0 da0, .string aS, .string aR, .slice Ea1 ma1 da1, .slice Ea2 ma2 da2, .slice Ea3 ma3 da3, .string aG]] w fun e w' => e = .returned (.agg #[.string k1, .string k2, .string k3_]) ∧ Below w.heap.size w w' := by
 have := places22_calls A0 n0 c0 A1 c1 l A2 n2 c2 A3 n3 c3 p q aL aS aR aG Ea0 ma0 da0 Ea1 ma1 da1 Ea2 ma2 da2 Ea3 ma3 da3 w hC
 rw [h] at this
 exact this
set_option maxRecDepth 100000 in
set_option maxHeartbeats 8000000 in
theorem dist22_calls (A0 : Option Addr) (n0 c0 : Nat) (A1 : Option Addr) (c1 : Nat) (l : List S66) (A2 : Option Addr) (c2 : Nat) (rs : List S53) (A3 : Option Addr) (c3 : Nat) (ms : List S69) (p q : Int) (aL aS aR aG : ByteArray) (Ea0 : Option Addr) (ma0 da0 : Nat) (Ea1 : Option Addr) (ma1 da1 : Nat) (Ea2 : Option Addr) (ma2 da2 : Nat) (Ea3 : Option Addr) (ma3 da3 : Nat) (bL bS bR bG : ByteArray) (Eb0 : Option Addr) (mb0 db0 : Nat) (Eb1 : Option Addr) (mb1 db1 : Nat) (Eb2 : Option Addr) (mb2 db2 : Nat) (Eb3 : Option Addr) (mb3 db3 : Nat) (hr : ∀ x ∈ rs, 0 ≤ x.f1 ∧ x.f1 ≤ 100) (N : Int) (hN : sumP rs ms (plP l (aL, aS, aR)) (plP l (bL, bS, bR)) 3 = N) (w : World) (hL : Kd.C k66 w A1 l.length l) (hR : Kd.C k53 w A2 rs.length rs) (hM : Kd.C k69 w A3 ms.length ms) :
 Calls Try.prog 33 #[.agg #[.slice A0 n0 c0, .slice A1 l.length c1, .slice A2 rs.length c2, .slice A3 ms.length c3, .int .i64 p, .int .i64 q], .agg #[.string aL, .slice Ea0 ma0 da0, .string aS, .string aR, .slice Ea1 ma1 da1, .slice Ea2 ma2 da2, .slice Ea3 ma3 da3, .string aG], .agg #[.string bL, .slice Eb0 mb0 db0, .string bS, .string bR, .slice Eb1 mb1 db1, .slice Eb2 mb2 db2, .slice Eb3 mb3 db3, .string bG]] w fun e w' => e = .returned (.int .i64 N) ∧ Below w.heap.size w w' := by
 have hu39 := Try.underlying39
 have hu44 := Try.underlying44
 have hu30 := Try.underlying30
 obtain ⟨⟨x0, x1, x2⟩, hX⟩ : ∃ k, plP l (aL, aS, aR) = k := ⟨_, rfl⟩
 obtain ⟨⟨y0, y1, y2⟩, hY⟩ : ∃ k, plP l (bL, bS, bR) = k := ⟨_, rfl⟩
 rw [hX, hY, ← sum22 rs ms _ _ hr] at hN
 have HX := Aside0.mk hX
 have HY := Aside0.mk hY
 have HN := Aside0.mk hN
 have X1 := Aside0.mk hL
 have X2 := Aside0.mk hR
 have X3 := Aside0.mk hM
 have B0 := Aside0.mk (Below.refl w.heap.size w)
 clear hL hR hM hN hX hY hr
 go_enter Try.func33, Try.ntmps33
 go_wp2_with (first
  | ((with_reducible refine gate_dst (N := 3) rfl ?_); refine be 3 #[.slice A0 n0 c0, .slice A1 l.length c1, .slice A2 rs.length c2, .slice A3 ms.length c3, .int .i64 p, .int .i64 q] 39 ?_; intro b3 hg v1 hbox hb; have G_b3 := Aside0.mk (show w.heap.size ≤ b3 by rw [hg]; exact B0.out.size); replace B0 := bb B0 hb; have K_b3 := Aside0.mk hbox; clear hb hbox hg)
  | ((with_reducible refine gate_dst (N := 4) rfl ?_); refine be 4 #[.string aL, .slice Ea0 ma0 da0, .string aS, .string aR, .slice Ea1 ma1 da1, .slice Ea2 ma2 da2, .slice Ea3 ma3 da3, .string aG] 44 ?_; intro b4 hg v2 hbox hb; have N_b3_b4 := kn K_b3 hg; have G_b4 := Aside0.mk (show w.heap.size ≤ b4 by rw [hg]; exact B0.out.size); replace B0 := bb B0 hb; replace K_b3 := kb K_b3 hb; have K_b4 := Aside0.mk hbox; clear hb hbox hg)
  | ((with_reducible refine gate_dst (N := 5) rfl ?_); refine be 5 #[.string bL, .slice Eb0 mb0 db0, .string bS, .string bR, .slice Eb1 mb1 db1, .slice Eb2 mb2 db2, .slice Eb3 mb3 db3, .string bG] 44 ?_; intro b5 hg v3 hbox hb; have N_b3_b5 := kn K_b3 hg; have N_b4_b5 := kn K_b4 hg; have G_b5 := Aside0.mk (show w.heap.size ≤ b5 by rw [hg]; exact B0.out.size); replace B0 := bb B0 hb; replace K_b3 := kb K_b3 hb; replace K_b4 := kb K_b4 hb; have K_b5 := Aside0.mk hbox; clear hb hbox hg; obtain ⟨y_b3_0, y_b3_1, y_b3_2, y_b3_3, y_b3_4, y_b3_5⟩ := cz6 K_b3.out; obtain ⟨y_b4_0, y_b4_1, y_b4_2, y_b4_3, y_b4_4, y_b4_5, y_b4_6, y_b4_7⟩ := cz8 K_b4.out)
  | ((with_reducible refine gate_callee (f := 41) rfl ?_); refine goesL_ (some 11) rfl rfl Try.func41 (by kernel_rfl) rfl #[.agg #[.slice A0 n0 c0, .slice A1 l.length c1, .slice A2 rs.length c2, .slice A3 ms.length c3, .int .i64 p, .int .i64 q], .agg #[.string aL, .slice Ea0 ma0 da0, .string aS, .string aR, .slice Ea1 ma1 da1, .slice Ea2 ma2 da2, .slice Ea3 ma3 da3, .string aG]] rfl mq ?_; (with_reducible refine (places22_n A0 n0 c0 A1 c1 l A2 rs.length c2 A3 ms.length c3 p q aL aS aR aG Ea0 ma0 da0 Ea1 ma1 da1 Ea2 ma2 da2 Ea3 ma3 da3 x0 x1 x2 HX.out _ (Kd.C_below X1.out B0.out)).mono ?_); rintro e v4 ⟨rfl, hb⟩; refine ⟨_, rfl, ?_⟩; clear y_b3_0 y_b3_1 y_b3_2 y_b3_3 y_b3_4 y_b3_5 y_b4_0 y_b4_1 y_b4_2 y_b4_3 y_b4_4 y_b4_5 y_b4_6 y_b4_7; replace B0 := bb B0 hb; replace K_b3 := kb K_b3 hb; replace K_b4 := kb K_b4 hb; replace K_b5 := kb K_b5 hb; clear hb)
  | ((with_reducible refine gate_dst (N := 7) rfl ?_); refine be 7 #[.string ⟨#[]⟩, .string ⟨#[]⟩, .string ⟨#[]⟩] 30 ?_; intro b7 hg v5 hbox hb; have N_b3_b7 := kn K_b3 hg; have N_b4_b7 := kn K_b4 hg; have N_b5_b7 := kn K_b5 hg; have G_b7 := Aside0.mk (show w.heap.size ≤ b7 by rw [hg]; exact B0.out.size); replace B0 := bb B0 hb; replace K_b3 := kb K_b3 hb; replace K_b4 := kb K_b4 hb; replace K_b5 := kb K_b5 hb; have K_b7 := Aside0.mk hbox; clear hb hbox hg)
  | ((with_reducible refine gate_ (.store 30 (.tmp 7) (.tmp 11)) rfl ?_); refine pe b7 0 #[.string x0, .string x1, .string x2] [.string x0, .string x1, .string x2] K_b7.out ?_; intro v6 hk hp; replace B0 := bp B0 hp G_b7.out; replace K_b3 := kp K_b3 hp N_b3_b7.out; replace K_b4 := kp K_b4 hp N_b4_b7.out; replace K_b5 := kp K_b5 hp N_b5_b7.out; replace K_b7 := Aside0.mk hk; clear hk hp; obtain ⟨y_b3_0, y_b3_1, y_b3_2, y_b3_3, y_b3_4, y_b3_5⟩ := cz6 K_b3.out; obtain ⟨y_b5_0, y_b5_1, y_b5_2, y_b5_3, y_b5_4, y_b5_5, y_b5_6, y_b5_7⟩ := cz8 K_b5.out)
  | ((with_reducible refine gate_callee (f := 41) rfl ?_); refine goesL_ (some 14) rfl rfl Try.func41 (by kernel_rfl) rfl #[.agg #[.slice A0 n0 c0, .slice A1 l.length c1, .slice A2 rs.length c2, .slice A3 ms.length c3, .int .i64 p, .int .i64 q], .agg #[.string bL, .slice Eb0 mb0 db0, .string bS, .string bR, .slice Eb1 mb1 db1, .slice Eb2 mb2 db2, .slice Eb3 mb3 db3, .string bG]] rfl mq ?_; (with_reducible refine (places22_n A0 n0 c0 A1 c1 l A2 rs.length c2 A3 ms.length c3 p q bL bS bR bG Eb0 mb0 db0 Eb1 mb1 db1 Eb2 mb2 db2 Eb3 mb3 db3 y0 y1 y2 HY.out _ (Kd.C_below X1.out B0.out)).mono ?_); rintro e v7 ⟨rfl, hb⟩; refine ⟨_, rfl, ?_⟩; clear y_b3_0 y_b3_1 y_b3_2 y_b3_3 y_b3_4 y_b3_5 y_b5_0 y_b5_1 y_b5_2 y_b5_3 y_b5_4 y_b5_5 y_b5_6 y_b5_7; replace B0 := bb B0 hb; replace K_b3 := kb K_b3 hb; replace K_b4 := kb K_b4 hb; replace K_b5 := kb K_b5 hb; replace K_b7 := kb K_b7 hb; clear hb)
  | ((with_reducible refine gate_dst (N := 8) rfl ?_); refine be 8 #[.string ⟨#[]⟩, .string ⟨#[]⟩, .string ⟨#[]⟩] 30 ?_; intro b8 hg v8 hbox hb; have N_b3_b8 := kn K_b3 hg; have N_b4_b8 := kn K_b4 hg; have N_b5_b8 := kn K_b5 hg; have N_b7_b8 := kn K_b7 hg; have G_b8 := Aside0.mk (show w.heap.size ≤ b8 by rw [hg]; exact B0.out.size); replace B0 := bb B0 hb; replace K_b3 := kb K_b3 hb; replace K_b4 := kb K_b4 hb; replace K_b5 := kb K_b5 hb; replace K_b7 := kb K_b7 hb; have K_b8 := Aside0.mk hbox; clear hb hbox hg)
  | ((with_reducible refine gate_ (.store 30 (.tmp 8) (.tmp 14)) rfl ?_); refine pe b8 0 #[.string y0, .string y1, .string y2] [.string y0, .string y1, .string y2] K_b8.out ?_; intro v9 hk hp; replace B0 := bp B0 hp G_b8.out; replace K_b3 := kp K_b3 hp N_b3_b8.out; replace K_b4 := kp K_b4 hp N_b4_b8.out; replace K_b5 := kp K_b5 hp N_b5_b8.out; replace K_b7 := kp K_b7 hp N_b7_b8.out; replace K_b8 := Aside0.mk hk; clear hk hp))
 refine start_ (n := 15) (S := fun w' => w'.cell? ⟨b3, 0, none⟩ = some (.slice A0 n0 c0) ∧ w'.cell? ⟨b3, 1, none⟩ = some (.slice A1 l.length c1) ∧ w'.cell? ⟨b3, 2, none⟩ = some (.slice A2 rs.length c2) ∧ w'.cell? ⟨b3, 3, none⟩ = some (.slice A3 ms.length c3) ∧ w'.cell? ⟨b3, 4, none⟩ = some (.int .i64 p) ∧ w'.cell? ⟨b3, 5, none⟩ = some (.int .i64 q) ∧ w'.cell? ⟨b7, 0, none⟩ = some (.string x0) ∧ w'.cell? ⟨b7, 1, none⟩ = some (.string x1) ∧ w'.cell? ⟨b7, 2, none⟩ = some (.string x2) ∧ w'.cell? ⟨b8, 0, none⟩ = some (.string y0) ∧ w'.cell? ⟨b8, 1, none⟩ = some (.string y1) ∧ w'.cell? ⟨b8, 2, none⟩ = some (.string y2)) (ds := []) (M 15 0) (by kernel_rfl) rfl rfl ⟨(blk_cell K_b3.out 0).trans rfl, (blk_cell K_b3.out 1).trans rfl, (blk_cell K_b3.out 2).trans rfl, (blk_cell K_b3.out 3).trans rfl, (blk_cell K_b3.out 4).trans rfl, (blk_cell K_b3.out 5).trans rfl, (blk_cell K_b7.out 0).trans rfl, (blk_cell K_b7.out 1).trans rfl, (blk_cell K_b7.out 2).trans rfl, (blk_cell K_b8.out 0).trans rfl, (blk_cell K_b8.out 1).trans rfl, (blk_cell K_b8.out 2).trans rfl⟩ (fun hHeld => ?_)
 have hb : Below v9.heap.size v9 v9.drew := below_drew1 (Below.refl _ _)
 generalize v9.drew = q1 at hb hHeld ⊢
 replace B0 := bb B0 hb
 replace K_b3 := kb K_b3 hb
 replace K_b4 := kb K_b4 hb
 replace K_b5 := kb K_b5 hb
 replace K_b7 := kb K_b7 hb
 replace K_b8 := kb K_b8 hb
 clear hb
 refine tw 0 15 (M 15 1) hHeld ?_
 refine tw 1 16 (M 15 3) hHeld ?_
 refine tw 2 17 (M 15 7) hHeld ?_
 refine tw 4 19 (M 15 23) hHeld ?_
 refine tw 5 20 (M 15 55) hHeld ?_
 refine tw 6 21 (M 15 119) hHeld ?_
 refine tw 9 24 (M 15 631) hHeld ?_
 refine tw 10 25 (M 15 1655) hHeld ?_
 refine tw 11 26 (M 15 3703) hHeld ?_
 refine ow 3 (some 18) (M 15 3711) fun K hK => ?_
 refine gow Try.func51 #[.agg #[.slice A0 n0 c0, .slice A1 l.length c1, .slice A2 rs.length c2, .slice A3 ms.length c3, .int .i64 p, .int .i64 q], .int .i64 1, .agg #[.string x0, .string x1, .string x2], .agg #[.string y0, .string y1, .string y2]] ?_
 with_reducible refine (cost22_calls A0 n0 c0 A1 l.length c1 A2 c2 A3 c3 rs ms p q 1 (by omega) (by omega) (x0, x1, x2) (y0, y1, y2) _ (Kd.C_below X2.out B0.out) (Kd.C_below X3.out B0.out)).mono ?_
 rintro e q2 ⟨rfl, hb⟩
 refine ⟨_, rfl, ?_⟩
 replace B0 := bb B0 hb
 replace K_b3 := kb K_b3 hb
 replace K_b4 := kb K_b4 hb
 replace K_b5 := kb K_b5 hb
 replace K_b7 := kb K_b7 hb
 replace K_b8 := kb K_b8 hb
 clear hb
 refine hK.out _ _ ⟨(blk_cell K_b3.out 0).trans rfl, (blk_cell K_b3.out 1).trans rfl, (blk_cell K_b3.out 2).trans rfl, (blk_cell K_b3.out 3).trans rfl, (blk_cell K_b3.out 4).trans rfl, (blk_cell K_b3.out 5).trans rfl, (blk_cell K_b7.out 0).trans rfl, (blk_cell K_b7.out 1).trans rfl, (blk_cell K_b7.out 2).trans rfl, (blk_cell K_b8.out 0).trans rfl, (blk_cell K_b8.out 1).trans rfl, (blk_cell K_b8.out 2).trans rfl⟩ (fun hHeld => ?_)
 clear hK K
 refine norm_ (a' := ?_) ?_ ?_
 rotate_left
 · show Act.put _ (some 18) _ = _
   simp only [Act.put, List.setIfInBounds_toArray, List.set_cons_zero, List.set_cons_succ, i64_w, i32_w]
   rfl
 refine ow 7 (some 22) (M 15 3839) fun K hK => ?_
 refine gow Try.func51 #[.agg #[.slice A0 n0 c0, .slice A1 l.length c1, .slice A2 rs.length c2, .slice A3 ms.length c3, .int .i64 p, .int .i64 q], .int .i64 2, .agg #[.string x0, .string x1, .string x2], .agg #[.string y0, .string y1, .string y2]] ?_
 with_reducible refine (cost22_calls A0 n0 c0 A1 l.length c1 A2 c2 A3 c3 rs ms p q 2 (by omega) (by omega) (x0, x1, x2) (y0, y1, y2) _ (Kd.C_below X2.out B0.out) (Kd.C_below X3.out B0.out)).mono ?_
 rintro e q3 ⟨rfl, hb⟩
 refine ⟨_, rfl, ?_⟩
 replace B0 := bb B0 hb
 replace K_b3 := kb K_b3 hb
 replace K_b4 := kb K_b4 hb
 replace K_b5 := kb K_b5 hb
 replace K_b7 := kb K_b7 hb
 replace K_b8 := kb K_b8 hb
 clear hb
 refine hK.out _ _ ⟨(blk_cell K_b3.out 0).trans rfl, (blk_cell K_b3.out 1).trans rfl, (blk_cell K_b3.out 2).trans rfl, (blk_cell K_b3.out 3).trans rfl, (blk_cell K_b3.out 4).trans rfl, (blk_cell K_b3.out 5).trans rfl, (blk_cell K_b7.out 0).trans rfl, (blk_cell K_b7.out 1).trans rfl, (blk_cell K_b7.out 2).trans rfl, (blk_cell K_b8.out 0).trans rfl, (blk_cell K_b8.out 1).trans rfl, (blk_cell K_b8.out 2).trans rfl⟩ (fun hHeld => ?_)
 clear hK K
 refine norm_ (a' := ?_) ?_ ?_
 rotate_left
 · show Act.put _ (some 22) _ = _
   simp only [Act.put, List.setIfInBounds_toArray, List.set_cons_zero, List.set_cons_succ, i64_w, i32_w]
   rfl
 refine pw 8 23 (M 15 4095) ?_
 refine ow 12 (some 27) (M 15 8191) fun K hK => ?_
 refine gow Try.func51 #[.agg #[.slice A0 n0 c0, .slice A1 l.length c1, .slice A2 rs.length c2, .slice A3 ms.length c3, .int .i64 p, .int .i64 q], .int .i64 3, .agg #[.string x0, .string x1, .string x2], .agg #[.string y0, .string y1, .string y2]] ?_
 with_reducible refine (cost22_calls A0 n0 c0 A1 l.length c1 A2 c2 A3 c3 rs ms p q 3 (by omega) (by omega) (x0, x1, x2) (y0, y1, y2) _ (Kd.C_below X2.out B0.out) (Kd.C_below X3.out B0.out)).mono ?_
 rintro e q4 ⟨rfl, hb⟩
 refine ⟨_, rfl, ?_⟩
 replace B0 := bb B0 hb
 replace K_b3 := kb K_b3 hb
 replace K_b4 := kb K_b4 hb
 replace K_b5 := kb K_b5 hb
 replace K_b7 := kb K_b7 hb
 replace K_b8 := kb K_b8 hb
 clear hb
 refine hK.out _ _ ⟨(blk_cell K_b3.out 0).trans rfl, (blk_cell K_b3.out 1).trans rfl, (blk_cell K_b3.out 2).trans rfl, (blk_cell K_b3.out 3).trans rfl, (blk_cell K_b3.out 4).trans rfl, (blk_cell K_b3.out 5).trans rfl, (blk_cell K_b7.out 0).trans rfl, (blk_cell K_b7.out 1).trans rfl, (blk_cell K_b7.out 2).trans rfl, (blk_cell K_b8.out 0).trans rfl, (blk_cell K_b8.out 1).trans rfl, (blk_cell K_b8.out 2).trans rfl⟩ (fun hHeld => ?_)
 clear hK K
 refine norm_ (a' := ?_) ?_ ?_
 rotate_left
 · show Act.put _ (some 27) _ = _
   simp only [Act.put, List.setIfInBounds_toArray, List.set_cons_zero, List.set_cons_succ, i64_w, i32_w]
   rfl
 refine pw 13 28 (M 15 16383) ?_
 refine pw 14 6 (M 15 32767) ?_
 refine done_ (by kernel_rfl) ?_
 go_wp2
 go_ret
 exact ⟨by rw [← HN.out]; rfl, B0.out⟩
set_option maxRecDepth 100000 in
set_option maxHeartbeats 8000000 in
theorem sums_calls (A0 : Option Addr) (n0 c0 : Nat) (A1 : Option Addr) (c1 : Nat) (l : List S66) (A2 : Option Addr) (c2 : Nat) (rs : List S53) (A3 : Option Addr) (c3 : Nat) (ms : List S69) (p q : Int) (aL aS aR aG : ByteArray) (Ea0 : Option Addr) (ma0 da0 : Nat) (Ea1 : Option Addr) (ma1 da1 : Nat) (Ea2 : Option Addr) (ma2 da2 : Nat) (Ea3 : Option Addr) (ma3 da3 : Nat) (bL bS bR bG : ByteArray) (Eb0 : Option Addr) (mb0 db0 : Nat) (Eb1 : Option Addr) (mb1 db1 : Nat) (Eb2 : Option Addr) (mb2 db2 : Nat) (Eb3 : Option Addr) (mb3 db3 : Nat) (hr : ∀ x ∈ rs, 0 ≤ x.f1 ∧ x.f1 ≤ 100) (w : World) (hL : Kd.C k66 w A1 l.length l) (hR : Kd.C k53 w A2 rs.length rs) (hM : Kd.C k69 w A3 ms.length ms) :
 Calls Try.prog 11 #[.agg #[.slice A0 n0 c0, .slice A1 l.length c1, .slice A2 rs.length c2, .slice A3 ms.length c3, .int .i64 p, .int .i64 q], .agg #[.string aL, .slice Ea0 ma0 da0, .string aS, .string aR, .slice Ea1 ma1 da1, .slice Ea2 ma2 da2, .slice Ea3 ma3 da3, .string aG], .agg #[.string bL, .slice Eb0 mb0 db0, .string bS, .string bR, .slice Eb1 mb1 db1, .slice Eb2 mb2 db2, .slice Eb3 mb3 db3, .string bG]] w fun e w' => e = .returned (.bool true) ∧ Below w.heap.size w w' := by
 have hu39 := Try.underlying39
 have hu44 := Try.underlying44
 obtain ⟨N, hN⟩ : ∃ N, sumP rs ms (plP l (aL, aS, aR)) (plP l (bL, bS, bR)) 3 = N := ⟨_, rfl⟩
 have HN := Aside0.mk hN
 have HOK := Aside0.mk hr
 have X1 := Aside0.mk hL
 have X2 := Aside0.mk hR
 have X3 := Aside0.mk hM
 have B0 := Aside0.mk (Below.refl w.heap.size w)
 clear hL hR hM hN hr
 go_enter Try.func11, Try.ntmps11
 go_wp2_with (first
  | ((with_reducible refine gate_dst (N := 3) rfl ?_); refine be 3 #[.slice A0 n0 c0, .slice A1 l.length c1, .slice A2 rs.length c2, .slice A3 ms.length c3, .int .i64 p, .int .i64 q] 39 ?_; intro b3 hg v1 hbox hb; have G_b3 := Aside0.mk (show w.heap.size ≤ b3 by rw [hg]; exact B0.out.size); replace B0 := bb B0 hb; have K_b3 := Aside0.mk hbox; clear hb hbox hg)
  | ((with_reducible refine gate_dst (N := 4) rfl ?_); refine be 4 #[.string aL, .slice Ea0 ma0 da0, .string aS, .string aR, .slice Ea1 ma1 da1, .slice Ea2 ma2 da2, .slice Ea3 ma3 da3, .string aG] 44 ?_; intro b4 hg v2 hbox hb; have N_b3_b4 := kn K_b3 hg; have G_b4 := Aside0.mk (show w.heap.size ≤ b4 by rw [hg]; exact B0.out.size); replace B0 := bb B0 hb; replace K_b3 := kb K_b3 hb; have K_b4 := Aside0.mk hbox; clear hb hbox hg)
  | ((with_reducible refine gate_dst (N := 5) rfl ?_); refine be 5 #[.string bL, .slice Eb0 mb0 db0, .string bS, .string bR, .slice Eb1 mb1 db1, .slice Eb2 mb2 db2, .slice Eb3 mb3 db3, .string bG] 44 ?_; intro b5 hg v3 hbox hb; have N_b3_b5 := kn K_b3 hg; have N_b4_b5 := kn K_b4 hg; have G_b5 := Aside0.mk (show w.heap.size ≤ b5 by rw [hg]; exact B0.out.size); replace B0 := bb B0 hb; replace K_b3 := kb K_b3 hb; replace K_b4 := kb K_b4 hb; have K_b5 := Aside0.mk hbox; clear hb hbox hg))
 refine start_ (n := 10) (S := fun w' => w'.cell? ⟨b3, 0, none⟩ = some (.slice A0 n0 c0) ∧ w'.cell? ⟨b3, 1, none⟩ = some (.slice A1 l.length c1) ∧ w'.cell? ⟨b3, 2, none⟩ = some (.slice A2 rs.length c2) ∧ w'.cell? ⟨b3, 3, none⟩ = some (.slice A3 ms.length c3) ∧ w'.cell? ⟨b3, 4, none⟩ = some (.int .i64 p) ∧ w'.cell? ⟨b3, 5, none⟩ = some (.int .i64 q) ∧ w'.cell? ⟨b4, 0, none⟩ = some (.string aL) ∧ w'.cell? ⟨b4, 1, none⟩ = some (.slice Ea0 ma0 da0) ∧ w'.cell? ⟨b4, 2, none⟩ = some (.string aS) ∧ w'.cell? ⟨b4, 3, none⟩ = some (.string aR) ∧ w'.cell? ⟨b4, 4, none⟩ = some (.slice Ea1 ma1 da1) ∧ w'.cell? ⟨b4, 5, none⟩ = some (.slice Ea2 ma2 da2) ∧ w'.cell? ⟨b4, 6, none⟩ = some (.slice Ea3 ma3 da3) ∧ w'.cell? ⟨b4, 7, none⟩ = some (.string aG) ∧ w'.cell? ⟨b5, 0, none⟩ = some (.string bL) ∧ w'.cell? ⟨b5, 1, none⟩ = some (.slice Eb0 mb0 db0) ∧ w'.cell? ⟨b5, 2, none⟩ = some (.string bS) ∧ w'.cell? ⟨b5, 3, none⟩ = some (.string bR) ∧ w'.cell? ⟨b5, 4, none⟩ = some (.slice Eb1 mb1 db1) ∧ w'.cell? ⟨b5, 5, none⟩ = some (.slice Eb2 mb2 db2) ∧ w'.cell? ⟨b5, 6, none⟩ = some (.slice Eb3 mb3 db3) ∧ w'.cell? ⟨b5, 7, none⟩ = some (.string bG)) (ds := []) (M 10 0) (by kernel_rfl) rfl rfl ⟨(blk_cell K_b3.out 0).trans rfl, (blk_cell K_b3.out 1).trans rfl, (blk_cell K_b3.out 2).trans rfl, (blk_cell K_b3.out 3).trans rfl, (blk_cell K_b3.out 4).trans rfl, (blk_cell K_b3.out 5).trans rfl, (blk_cell K_b4.out 0).trans rfl, (blk_cell K_b4.out 1).trans rfl, (blk_cell K_b4.out 2).trans rfl, (blk_cell K_b4.out 3).trans rfl, (blk_cell K_b4.out 4).trans rfl, (blk_cell K_b4.out 5).trans rfl, (blk_cell K_b4.out 6).trans rfl, (blk_cell K_b4.out 7).trans rfl, (blk_cell K_b5.out 0).trans rfl, (blk_cell K_b5.out 1).trans rfl, (blk_cell K_b5.out 2).trans rfl, (blk_cell K_b5.out 3).trans rfl, (blk_cell K_b5.out 4).trans rfl, (blk_cell K_b5.out 5).trans rfl, (blk_cell K_b5.out 6).trans rfl, (blk_cell K_b5.out 7).trans rfl⟩ (fun hHeld => ?_)
 have hb : Below v3.heap.size v3 v3.drew := below_drew1 (Below.refl _ _)
 generalize v3.drew = q5 at hb hHeld ⊢
 replace B0 := bb B0 hb
 replace K_b3 := kb K_b3 hb
 replace K_b4 := kb K_b4 hb
 replace K_b5 := kb K_b5 hb
 clear hb
 refine tw 0 7 (M 10 1) hHeld ?_
 refine tw 1 8 (M 10 3) hHeld ?_
 refine tw 2 9 (M 10 7) hHeld ?_
 refine tw 4 11 (M 10 23) hHeld ?_
 refine tw 5 12 (M 10 55) hHeld ?_
 refine tw 6 13 (M 10 119) hHeld ?_
 refine ow 3 (some 10) (M 10 127) fun K hK => ?_
 refine gow Try.func16 #[.agg #[.slice A0 n0 c0, .slice A1 l.length c1, .slice A2 rs.length c2, .slice A3 ms.length c3, .int .i64 p, .int .i64 q], .agg #[.string aL, .slice Ea0 ma0 da0, .string aS, .string aR, .slice Ea1 ma1 da1, .slice Ea2 ma2 da2, .slice Ea3 ma3 da3, .string aG], .agg #[.string bL, .slice Eb0 mb0 db0, .string bS, .string bR, .slice Eb1 mb1 db1, .slice Eb2 mb2 db2, .slice Eb3 mb3 db3, .string bG]] ?_
 with_reducible refine (dist_n A0 n0 c0 A1 c1 l A2 c2 rs A3 c3 ms p q aL aS aR aG Ea0 ma0 da0 Ea1 ma1 da1 Ea2 ma2 da2 Ea3 ma3 da3 bL bS bR bG Eb0 mb0 db0 Eb1 mb1 db1 Eb2 mb2 db2 Eb3 mb3 db3 N HN.out _ (Kd.C_below X1.out B0.out) (Kd.C_below X2.out B0.out) (Kd.C_below X3.out B0.out)).mono ?_
 rintro e q6 ⟨rfl, hb⟩
 refine ⟨_, rfl, ?_⟩
 replace B0 := bb B0 hb
 replace K_b3 := kb K_b3 hb
 replace K_b4 := kb K_b4 hb
 replace K_b5 := kb K_b5 hb
 clear hb
 refine hK.out _ _ ⟨(blk_cell K_b3.out 0).trans rfl, (blk_cell K_b3.out 1).trans rfl, (blk_cell K_b3.out 2).trans rfl, (blk_cell K_b3.out 3).trans rfl, (blk_cell K_b3.out 4).trans rfl, (blk_cell K_b3.out 5).trans rfl, (blk_cell K_b4.out 0).trans rfl, (blk_cell K_b4.out 1).trans rfl, (blk_cell K_b4.out 2).trans rfl, (blk_cell K_b4.out 3).trans rfl, (blk_cell K_b4.out 4).trans rfl, (blk_cell K_b4.out 5).trans rfl, (blk_cell K_b4.out 6).trans rfl, (blk_cell K_b4.out 7).trans rfl, (blk_cell K_b5.out 0).trans rfl, (blk_cell K_b5.out 1).trans rfl, (blk_cell K_b5.out 2).trans rfl, (blk_cell K_b5.out 3).trans rfl, (blk_cell K_b5.out 4).trans rfl, (blk_cell K_b5.out 5).trans rfl, (blk_cell K_b5.out 6).trans rfl, (blk_cell K_b5.out 7).trans rfl⟩ (fun hHeld => ?_)
 clear hK K
 refine norm_ (a' := ?_) ?_ ?_
 rotate_left
 · show Act.put _ (some 10) _ = _
   simp only [Act.put, List.setIfInBounds_toArray, List.set_cons_zero, List.set_cons_succ, i64_w, i32_w]
   rfl
 refine ow 7 (some 14) (M 10 255) fun K hK => ?_
 refine gow Try.func33 #[.agg #[.slice A0 n0 c0, .slice A1 l.length c1, .slice A2 rs.length c2, .slice A3 ms.length c3, .int .i64 p, .int .i64 q], .agg #[.string aL, .slice Ea0 ma0 da0, .string aS, .string aR, .slice Ea1 ma1 da1, .slice Ea2 ma2 da2, .slice Ea3 ma3 da3, .string aG], .agg #[.string bL, .slice Eb0 mb0 db0, .string bS, .string bR, .slice Eb1 mb1 db1, .slice Eb2 mb2 db2, .slice Eb3 mb3 db3, .string bG]] ?_
 with_reducible refine (dist22_calls A0 n0 c0 A1 c1 l A2 c2 rs A3 c3 ms p q aL aS aR aG Ea0 ma0 da0 Ea1 ma1 da1 Ea2 ma2 da2 Ea3 ma3 da3 bL bS bR bG Eb0 mb0 db0 Eb1 mb1 db1 Eb2 mb2 db2 Eb3 mb3 db3 HOK.out N HN.out _ (Kd.C_below X1.out B0.out) (Kd.C_below X2.out B0.out) (Kd.C_below X3.out B0.out)).mono ?_
 rintro e q7 ⟨rfl, hb⟩
 refine ⟨_, rfl, ?_⟩
 replace B0 := bb B0 hb
 replace K_b3 := kb K_b3 hb
 replace K_b4 := kb K_b4 hb
 replace K_b5 := kb K_b5 hb
 clear hb
 refine hK.out _ _ ⟨(blk_cell K_b3.out 0).trans rfl, (blk_cell K_b3.out 1).trans rfl, (blk_cell K_b3.out 2).trans rfl, (blk_cell K_b3.out 3).trans rfl, (blk_cell K_b3.out 4).trans rfl, (blk_cell K_b3.out 5).trans rfl, (blk_cell K_b4.out 0).trans rfl, (blk_cell K_b4.out 1).trans rfl, (blk_cell K_b4.out 2).trans rfl, (blk_cell K_b4.out 3).trans rfl, (blk_cell K_b4.out 4).trans rfl, (blk_cell K_b4.out 5).trans rfl, (blk_cell K_b4.out 6).trans rfl, (blk_cell K_b4.out 7).trans rfl, (blk_cell K_b5.out 0).trans rfl, (blk_cell K_b5.out 1).trans rfl, (blk_cell K_b5.out 2).trans rfl, (blk_cell K_b5.out 3).trans rfl, (blk_cell K_b5.out 4).trans rfl, (blk_cell K_b5.out 5).trans rfl, (blk_cell K_b5.out 6).trans rfl, (blk_cell K_b5.out 7).trans rfl⟩ (fun hHeld => ?_)
 clear hK K
 refine norm_ (a' := ?_) ?_ ?_
 rotate_left
 · show Act.put _ (some 14) _ = _
   simp only [Act.put, List.setIfInBounds_toArray, List.set_cons_zero, List.set_cons_succ, i64_w, i32_w]
   rfl
 refine pw 8 15 (M 10 511) ?_
 refine pw 9 6 (M 10 1023) ?_
 refine done_ (by kernel_rfl) ?_
 go_wp2
 go_ret
 exact ⟨by simp, B0.out⟩
theorem dRules_ok2 : ∀ x ∈ dRules, 0 ≤ x.f1 ∧ x.f1 ≤ 100 := by
 have h : (dRules.all fun x => decide (0 ≤ x.f1 ∧ x.f1 ≤ 100)) = true := by kernel_rfl
 exact fun x hx => of_decide_eq_true (List.all_eq_true.1 h x hx)
set_option maxRecDepth 100000 in
set_option maxHeartbeats 8000000 in
theorem sumslaw_calls (k : Nat) (A0 : Option Addr) (c0 : Nat) (l0 : List S62) (A1 : Option Addr) (c1 : Nat) (l1 : List Int) (A2 : Option Addr) (c2 : Nat) (l2 : List Int) (A3 : Option Addr) (c3 : Nat) (l3 : List Int) (th de od : Int) (r1 : List S59) (r2 : List S66) (r3 : List S53) (r4 : List S69) (r5 r6 : Int)
 (f0 f1 f2 f3 f7 : Int) (Af4 : Option Addr) (cf4 : Nat) (lf4 : List Int) (Af5 : Option Addr) (cf5 : Nat) (lf5 : List Int) (Af6 : Option Addr) (cf6 : Nat) (lf6 : List Int) (g0 g1 g2 g3 g7 : Int) (Ag4 : Option Addr) (cg4 : Nat) (lg4 : List Int) (Ag5 : Option Addr) (cg5 : Nat) (lg5 : List Int) (Ag6 : Option Addr) (cg6 : Nat) (lg6 : List Int) (D0 D1 D2 S0 S1 S2 P0 P1 P2 lvn : Int) (T0 T1 T2 : ByteArray) (d0 d1 d2 e0 e1 e2 : ByteArray) (w : World)
 (hC0 : Kd.C k62 w A0 l0.length l0) (hc0 : l0.length ≤ c0) (hC1 : Kd.C (Kd.int .i64) w A1 l1.length l1) (hc1 : l1.length ≤ c1) (hC2 : Kd.C (Kd.int .i64) w A2 l2.length l2) (hc2 : l2.length ≤ c2) (hC3 : Kd.C (Kd.int .i64) w A3 l3.length l3) (hc3 : l3.length ≤ c3)
 (hM : isoglossref13_Made.f k l0 l1 l2 l3 th de od = some (r1, r2, r3, r4, r5, r6)) (hok : ∀ x ∈ r3, 0 ≤ x.f1 ∧ x.f1 ≤ 100) (hD : isoglosslaw22_plain.f D0 D1 D2 = some (d0, d1, d2)) (hE : isoglosslaw22_plain.f S0 S1 S2 = some (e0, e1, e2))
 (hf4 : Kd.C (Kd.int .i64) w Af4 lf4.length lf4) (hf5 : Kd.C (Kd.int .i64) w Af5 lf5.length lf5) (hf6 : Kd.C (Kd.int .i64) w Af6 lf6.length lf6) (hg4 : Kd.C (Kd.int .i64) w Ag4 lg4.length lg4) (hg5 : Kd.C (Kd.int .i64) w Ag5 lg5.length lg5) (hg6 : Kd.C (Kd.int .i64) w Ag6 lg6.length lg6) :
 Calls Try.prog 3 #[.agg #[.slice A0 l0.length c0, .slice A1 l1.length c1, .slice A2 l2.length c2, .slice A3 l3.length c3, .int .i64 th, .int .i64 de, .int .i64 od], .agg #[.int .i64 f0, .int .i64 f1, .int .i64 f2, .int .i64 f3, .slice Af4 lf4.length cf4, .slice Af5 lf5.length cf5, .slice Af6 lf6.length cf6, .int .i64 f7, .int .i64 g0, .int .i64 g1, .int .i64 g2, .int .i64 g3, .slice Ag4 lg4.length cg4, .slice Ag5 lg5.length cg5, .slice Ag6 lg6.length cg6, .int .i64 g7], .agg #[.int .i64 D0, .int .i64 D1, .int .i64 D2, .int .i64 S0, .int .i64 S1, .int .i64 S2, .int .i64 P0, .int .i64 P1, .int .i64 P2, .int .i64 lvn, .string T0, .string T1, .string T2]] w fun e w' => e = .returned (.bool true) ∧ Below w.heap.size w w' := by
 have hu25 := Try.underlying25
 have hu28 := Try.underlying28
 have hu27 := Try.underlying27
 have hu32 := Try.underlying32
 have hu29 := Try.underlying29
 have hu30 := Try.underlying30
 have hu39 := Try.underlying39
 have hu44 := Try.underlying44
 have X0 := Aside0.mk hC0
 have X1 := Aside0.mk hC1
 have X2 := Aside0.mk hC2
 have X3 := Aside0.mk hC3
 have Q0 := Aside0.mk hc0
 have Q1 := Aside0.mk hc1
 have Q2 := Aside0.mk hc2
 have Q3 := Aside0.mk hc3
 have HM := Aside0.mk hM
 have HOK := Aside0.mk hok
 have HD := Aside0.mk hD
 have HE := Aside0.mk hE
 have Yf4 := Aside0.mk hf4
 have Yf5 := Aside0.mk hf5
 have Yf6 := Aside0.mk hf6
 have Yg4 := Aside0.mk hg4
 have Yg5 := Aside0.mk hg5
 have Yg6 := Aside0.mk hg6
 have B0 := Aside0.mk (Below.refl w.heap.size w)
 clear hC0 hC1 hC2 hC3 hc0 hc1 hc2 hc3 hM hok hD hE hf4 hf5 hf6 hg4 hg5 hg6
 go_enter Try.func3, Try.ntmps3
 go_wp2_with (first
  | ((with_reducible refine gate_dst (N := 3) rfl ?_); refine be 3 #[.slice A0 l0.length c0, .slice A1 l1.length c1, .slice A2 l2.length c2, .slice A3 l3.length c3, .int .i64 th, .int .i64 de, .int .i64 od] 25 ?_; intro b3 hg w01 hbox hb; have G_b3 := Aside0.mk (show w.heap.size ≤ b3 by rw [hg]; exact B0.out.size); replace B0 := bb B0 hb; have K_b3 := Aside0.mk hbox; clear hb hbox hg)
  | ((with_reducible refine gate_dst (N := 4) rfl ?_); refine be 4 #[.int .i64 f0, .int .i64 f1, .int .i64 f2, .int .i64 f3, .slice Af4 lf4.length cf4, .slice Af5 lf5.length cf5, .slice Af6 lf6.length cf6, .int .i64 f7, .int .i64 g0, .int .i64 g1, .int .i64 g2, .int .i64 g3, .slice Ag4 lg4.length cg4, .slice Ag5 lg5.length cg5, .slice Ag6 lg6.length cg6, .int .i64 g7] 28 ?_; intro b4 hg w02 hbox hb; have N_b3_b4 := kn K_b3 hg; have G_b4 := Aside0.mk (show w.heap.size ≤ b4 by rw [hg]; exact B0.out.size); replace B0 := bb B0 hb; replace K_b3 := kb K_b3 hb; have K_b4 := Aside0.mk hbox; clear hb hbox hg)
  | ((with_reducible refine gate_dst (N := 5) rfl ?_); refine be 5 #[.int .i64 D0, .int .i64 D1, .int .i64 D2, .int .i64 S0, .int .i64 S1, .int .i64 S2, .int .i64 P0, .int .i64 P1, .int .i64 P2, .int .i64 lvn, .string T0, .string T1, .string T2] 32 ?_; intro b5 hg w03 hbox hb; have N_b3_b5 := kn K_b3 hg; have N_b4_b5 := kn K_b4 hg; have G_b5 := Aside0.mk (show w.heap.size ≤ b5 by rw [hg]; exact B0.out.size); replace B0 := bb B0 hb; replace K_b3 := kb K_b3 hb; replace K_b4 := kb K_b4 hb; have K_b5 := Aside0.mk hbox; clear hb hbox hg)
  | ((with_reducible refine gate_callee (f := 8) rfl ?_); refine goesL_ (some 11) rfl rfl Try.func8 (by kernel_rfl) rfl #[] rfl mq ?_; (with_reducible refine (awake_calls _).mono ?_); rintro e w1 ⟨rfl, hb⟩; refine ⟨_, rfl, ?_⟩; replace B0 := bb B0 hb; replace K_b3 := kb K_b3 hb; replace K_b4 := kb K_b4 hb; replace K_b5 := kb K_b5 hb; clear hb; obtain ⟨y_b3_0, y_b3_1, y_b3_2, y_b3_3, y_b3_4, y_b3_5, y_b3_6⟩ := cz7 K_b3.out)
  | ((with_reducible refine gate_callee (f := 9) rfl ?_); refine goesL_ (some 13) rfl rfl Try.func9 (by kernel_rfl) rfl #[.agg #[.slice A0 l0.length c0, .slice A1 l1.length c1, .slice A2 l2.length c2, .slice A3 l3.length c3, .int .i64 th, .int .i64 de, .int .i64 od]] rfl mq ?_; (with_reducible refine (isoglossref13_Made.calls k A0 c0 l0 A1 c1 l1 A2 c2 l2 A3 c3 l3 th de od r1 r2 r3 r4 r5 r6 _ (Kd.C_below X0.out B0.out) Q0.out (Kd.C_below X1.out B0.out) Q1.out (Kd.C_below X2.out B0.out) Q2.out (Kd.C_below X3.out B0.out) Q3.out HM.out).mono ?_); rintro e w2 ⟨v0, v1, v2, v3, rfl, R0, R1, R2, R3, hb⟩; refine ⟨_, rfl, ?_⟩; clear y_b3_0 y_b3_1 y_b3_2 y_b3_3 y_b3_4 y_b3_5 y_b3_6; obtain ⟨A4, c4, e4⟩ := Kd.R_slice R0; subst e4; obtain ⟨A5, c5, e5⟩ := Kd.R_slice R1; subst e5; obtain ⟨A6, c6, e6⟩ := Kd.R_slice R2; subst e6; obtain ⟨A7, c7, e7⟩ := Kd.R_slice R3; subst e7; have C1 := Aside0.mk (Kd.R_reads' R1).2.2; have C2 := Aside0.mk (Kd.R_reads' R2).2.2; have C3 := Aside0.mk (Kd.R_reads' R3).2.2; have S02 := Aside0.mk (B0.out.trans (hb.mono B0.out.size)).size; have B2 := Aside0.mk (Below.refl w2.heap.size w2); clear R0 R1 R2 R3; replace B0 := bb B0 hb; replace K_b3 := kb K_b3 hb; replace K_b4 := kb K_b4 hb; replace K_b5 := kb K_b5 hb; clear hb)
  | ((with_reducible refine gate_dst (N := 8) rfl ?_); refine be 8 #[.slice none 0 0, .slice none 0 0, .slice none 0 0, .slice none 0 0, .int .i64 0, .int .i64 0] 39 ?_; intro b8 hg w3 hbox hb; have N_b3_b8 := kn K_b3 hg; have N_b4_b8 := kn K_b4 hg; have N_b5_b8 := kn K_b5 hg; have G_b8 := Aside0.mk (show w2.heap.size ≤ b8 by rw [hg]; exact B2.out.size); replace B0 := bb B0 hb; replace B2 := bb B2 hb; replace K_b3 := kb K_b3 hb; replace K_b4 := kb K_b4 hb; replace K_b5 := kb K_b5 hb; have K_b8 := Aside0.mk hbox; clear hb hbox hg)
  | ((with_reducible refine gate_ (.store 39 (.tmp 8) (.tmp 13)) rfl ?_); refine pe b8 0 #[.slice A4 r1.length c4, .slice A5 r2.length c5, .slice A6 r3.length c6, .slice A7 r4.length c7, .int .i64 r5, .int .i64 r6] [.slice A4 r1.length c4, .slice A5 r2.length c5, .slice A6 r3.length c6, .slice A7 r4.length c7, .int .i64 r5, .int .i64 r6] K_b8.out ?_; intro w4 hk hp; replace B0 := bp B0 hp (Nat.le_trans S02.out G_b8.out); replace B2 := bp B2 hp G_b8.out; replace K_b3 := kp K_b3 hp N_b3_b8.out; replace K_b4 := kp K_b4 hp N_b4_b8.out; replace K_b5 := kp K_b5 hp N_b5_b8.out; replace K_b8 := Aside0.mk hk; clear hk hp; obtain ⟨y_b4_0, y_b4_1, y_b4_2, y_b4_3, y_b4_4, y_b4_5, y_b4_6, y_b4_7, y_b4_8, y_b4_9, y_b4_10, y_b4_11, y_b4_12, y_b4_13, y_b4_14, y_b4_15⟩ := cz16 K_b4.out)
  | ((with_reducible refine gate_callee (f := 10) rfl ?_); refine goesL_ (some 16) rfl rfl Try.func10 (by kernel_rfl) rfl #[.agg #[.int .i64 f0, .int .i64 f1, .int .i64 f2, .int .i64 f3, .slice Af4 lf4.length cf4, .slice Af5 lf5.length cf5, .slice Af6 lf6.length cf6, .int .i64 f7]] rfl mq ?_; (with_reducible refine (made06_calls f0 f1 f2 f3 f7 Af4 Af5 Af6 cf4 cf5 cf6 lf4 lf5 lf6 _ (Kd.C_below Yf4.out B0.out) (Kd.C_below Yf5.out B0.out) (Kd.C_below Yf6.out B0.out)).mono ?_); rintro e w5 ⟨⟨aL, Ea0, ma0, da0, aS, aR, Ea1, ma1, da1, Ea2, ma2, da2, Ea3, ma3, da3, aG, rfl⟩, hb⟩; refine ⟨_, rfl, ?_⟩; clear y_b4_0 y_b4_1 y_b4_2 y_b4_3 y_b4_4 y_b4_5 y_b4_6 y_b4_7 y_b4_8 y_b4_9 y_b4_10 y_b4_11 y_b4_12 y_b4_13 y_b4_14 y_b4_15; replace B0 := bb B0 hb; replace B2 := bb B2 hb; replace K_b3 := kb K_b3 hb; replace K_b4 := kb K_b4 hb; replace K_b5 := kb K_b5 hb; replace K_b8 := kb K_b8 hb; clear hb)
  | ((with_reducible refine gate_dst (N := 9) rfl ?_); refine be 9 #[.string ⟨#[]⟩, .slice none 0 0, .string ⟨#[]⟩, .string ⟨#[]⟩, .slice none 0 0, .slice none 0 0, .slice none 0 0, .string ⟨#[]⟩] 44 ?_; intro b9 hg w6 hbox hb; have N_b3_b9 := kn K_b3 hg; have N_b4_b9 := kn K_b4 hg; have N_b5_b9 := kn K_b5 hg; have N_b8_b9 := kn K_b8 hg; have G_b9 := Aside0.mk (show w2.heap.size ≤ b9 by rw [hg]; exact B2.out.size); replace B0 := bb B0 hb; replace B2 := bb B2 hb; replace K_b3 := kb K_b3 hb; replace K_b4 := kb K_b4 hb; replace K_b5 := kb K_b5 hb; replace K_b8 := kb K_b8 hb; have K_b9 := Aside0.mk hbox; clear hb hbox hg)
  | ((with_reducible refine gate_ (.store 44 (.tmp 9) (.tmp 16)) rfl ?_); refine pe b9 0 #[.string aL, .slice Ea0 ma0 da0, .string aS, .string aR, .slice Ea1 ma1 da1, .slice Ea2 ma2 da2, .slice Ea3 ma3 da3, .string aG] [.string aL, .slice Ea0 ma0 da0, .string aS, .string aR, .slice Ea1 ma1 da1, .slice Ea2 ma2 da2, .slice Ea3 ma3 da3, .string aG] K_b9.out ?_; intro w7 hk hp; replace B0 := bp B0 hp (Nat.le_trans S02.out G_b9.out); replace B2 := bp B2 hp G_b9.out; replace K_b3 := kp K_b3 hp N_b3_b9.out; replace K_b4 := kp K_b4 hp N_b4_b9.out; replace K_b5 := kp K_b5 hp N_b5_b9.out; replace K_b8 := kp K_b8 hp N_b8_b9.out; replace K_b9 := Aside0.mk hk; clear hk hp; obtain ⟨y_b4_0, y_b4_1, y_b4_2, y_b4_3, y_b4_4, y_b4_5, y_b4_6, y_b4_7, y_b4_8, y_b4_9, y_b4_10, y_b4_11, y_b4_12, y_b4_13, y_b4_14, y_b4_15⟩ := cz16 K_b4.out)
  | ((with_reducible refine gate_callee (f := 10) rfl ?_); refine goesL_ (some 19) rfl rfl Try.func10 (by kernel_rfl) rfl #[.agg #[.int .i64 g0, .int .i64 g1, .int .i64 g2, .int .i64 g3, .slice Ag4 lg4.length cg4, .slice Ag5 lg5.length cg5, .slice Ag6 lg6.length cg6, .int .i64 g7]] rfl mq ?_; (with_reducible refine (made06_calls g0 g1 g2 g3 g7 Ag4 Ag5 Ag6 cg4 cg5 cg6 lg4 lg5 lg6 _ (Kd.C_below Yg4.out B0.out) (Kd.C_below Yg5.out B0.out) (Kd.C_below Yg6.out B0.out)).mono ?_); rintro e w8 ⟨⟨bL, Eb0, mb0, db0, bS, bR, Eb1, mb1, db1, Eb2, mb2, db2, Eb3, mb3, db3, bG, rfl⟩, hb⟩; refine ⟨_, rfl, ?_⟩; clear y_b4_0 y_b4_1 y_b4_2 y_b4_3 y_b4_4 y_b4_5 y_b4_6 y_b4_7 y_b4_8 y_b4_9 y_b4_10 y_b4_11 y_b4_12 y_b4_13 y_b4_14 y_b4_15; replace B0 := bb B0 hb; replace B2 := bb B2 hb; replace K_b3 := kb K_b3 hb; replace K_b4 := kb K_b4 hb; replace K_b5 := kb K_b5 hb; replace K_b8 := kb K_b8 hb; replace K_b9 := kb K_b9 hb; clear hb)
  | ((with_reducible refine gate_dst (N := 10) rfl ?_); refine be 10 #[.string ⟨#[]⟩, .slice none 0 0, .string ⟨#[]⟩, .string ⟨#[]⟩, .slice none 0 0, .slice none 0 0, .slice none 0 0, .string ⟨#[]⟩] 44 ?_; intro b10 hg w9 hbox hb; have N_b3_b10 := kn K_b3 hg; have N_b4_b10 := kn K_b4 hg; have N_b5_b10 := kn K_b5 hg; have N_b8_b10 := kn K_b8 hg; have N_b9_b10 := kn K_b9 hg; have G_b10 := Aside0.mk (show w2.heap.size ≤ b10 by rw [hg]; exact B2.out.size); replace B0 := bb B0 hb; replace B2 := bb B2 hb; replace K_b3 := kb K_b3 hb; replace K_b4 := kb K_b4 hb; replace K_b5 := kb K_b5 hb; replace K_b8 := kb K_b8 hb; replace K_b9 := kb K_b9 hb; have K_b10 := Aside0.mk hbox; clear hb hbox hg)
  | ((with_reducible refine gate_ (.store 44 (.tmp 10) (.tmp 19)) rfl ?_); refine pe b10 0 #[.string bL, .slice Eb0 mb0 db0, .string bS, .string bR, .slice Eb1 mb1 db1, .slice Eb2 mb2 db2, .slice Eb3 mb3 db3, .string bG] [.string bL, .slice Eb0 mb0 db0, .string bS, .string bR, .slice Eb1 mb1 db1, .slice Eb2 mb2 db2, .slice Eb3 mb3 db3, .string bG] K_b10.out ?_; intro w10 hk hp; replace B0 := bp B0 hp (Nat.le_trans S02.out G_b10.out); replace B2 := bp B2 hp G_b10.out; replace K_b3 := kp K_b3 hp N_b3_b10.out; replace K_b4 := kp K_b4 hp N_b4_b10.out; replace K_b5 := kp K_b5 hp N_b5_b10.out; replace K_b8 := kp K_b8 hp N_b8_b10.out; replace K_b9 := kp K_b9 hp N_b9_b10.out; replace K_b10 := Aside0.mk hk; clear hk hp))
 refine start_ (n := 47) (S := fun w' => w'.heap[b8]? = some (.cells #[.slice A4 r1.length c4, .slice A5 r2.length c5, .slice A6 r3.length c6, .slice A7 r4.length c7, .int .i64 r5, .int .i64 r6] 39 (0, 0)) ∧ w'.heap[b9]? = some (.cells #[.string aL, .slice Ea0 ma0 da0, .string aS, .string aR, .slice Ea1 ma1 da1, .slice Ea2 ma2 da2, .slice Ea3 ma3 da3, .string aG] 44 (0, 0)) ∧ w'.heap[b10]? = some (.cells #[.string bL, .slice Eb0 mb0 db0, .string bS, .string bR, .slice Eb1 mb1 db1, .slice Eb2 mb2 db2, .slice Eb3 mb3 db3, .string bG] 44 (0, 0)) ∧ w'.heap[b5]? = some (.cells #[.int .i64 D0, .int .i64 D1, .int .i64 D2, .int .i64 S0, .int .i64 S1, .int .i64 S2, .int .i64 P0, .int .i64 P1, .int .i64 P2, .int .i64 lvn, .string T0, .string T1, .string T2] 32 (0, 0))) (ds := []) (M 47 0) (by kernel_rfl) rfl rfl ⟨K_b8.out, K_b9.out, K_b10.out, K_b5.out⟩ (fun hHeld => ?_)
 have hb : Below w10.heap.size w10 w10.drew := below_drew1 (Below.refl _ _)
 generalize w10.drew = q99 at hb hHeld ⊢
 replace B0 := bb B0 hb
 replace B2 := bb B2 hb
 replace K_b3 := kb K_b3 hb
 replace K_b4 := kb K_b4 hb
 replace K_b5 := kb K_b5 hb
 replace K_b8 := kb K_b8 hb
 replace K_b9 := kb K_b9 hb
 replace K_b10 := kb K_b10 hb
 clear hb
 refine pw 0 20 (M 47 1) ?_
 refine pw 1 21 (M 47 3) ?_
 refine take_ (i := 2) (N := some 22) (v := ?_) (a' := ?_) (M 47 7) rfl rfl (by kernel_rfl) (fun _ _ _ h => h) (Or.inl ⟨by rfl, ?_⟩) hHeld ?_ ?_
 rotate_left
 · rintro w' ⟨s0, s1, s2, s3⟩
   obtain ⟨a0, a1, a2, a3, a4, a5⟩ := cz6 s0
   go_simp
   with_reducible rfl
 rotate_left
 · simp only [Act.put, List.setIfInBounds_toArray, List.set_cons_zero, List.set_cons_succ, i64_w, i32_w]
   rfl
 refine take_ (i := 3) (N := some 23) (v := ?_) (a' := ?_) (M 47 15) rfl rfl (by kernel_rfl) (fun _ _ _ h => h) (Or.inl ⟨by rfl, ?_⟩) hHeld ?_ ?_
 rotate_left
 · rintro w' ⟨s0, s1, s2, s3⟩
   obtain ⟨a0, a1, a2, a3, a4, a5, a6, a7⟩ := cz8 s1
   go_simp
   with_reducible rfl
 rotate_left
 · simp only [Act.put, List.setIfInBounds_toArray, List.set_cons_zero, List.set_cons_succ, i64_w, i32_w]
   rfl
 refine take_ (i := 4) (N := some 24) (v := ?_) (a' := ?_) (M 47 31) rfl rfl (by kernel_rfl) (fun _ _ _ h => h) (Or.inl ⟨by rfl, ?_⟩) hHeld ?_ ?_
 rotate_left
 · rintro w' ⟨s0, s1, s2, s3⟩
   obtain ⟨a0, a1, a2, a3, a4, a5, a6, a7⟩ := cz8 s2
   go_simp
   with_reducible rfl
 rotate_left
 · simp only [Act.put, List.setIfInBounds_toArray, List.set_cons_zero, List.set_cons_succ, i64_w, i32_w]
   rfl
 refine ow 5 (some 25) (M 47 63) fun K hK => ?_
 refine gow Try.func11 #[.agg #[.slice A4 r1.length c4, .slice A5 r2.length c5, .slice A6 r3.length c6, .slice A7 r4.length c7, .int .i64 r5, .int .i64 r6], .agg #[.string aL, .slice Ea0 ma0 da0, .string aS, .string aR, .slice Ea1 ma1 da1, .slice Ea2 ma2 da2, .slice Ea3 ma3 da3, .string aG], .agg #[.string bL, .slice Eb0 mb0 db0, .string bS, .string bR, .slice Eb1 mb1 db1, .slice Eb2 mb2 db2, .slice Eb3 mb3 db3, .string bG]] ?_
 with_reducible refine (sums_calls A4 r1.length c4 A5 c5 r2 A6 c6 r3 A7 c7 r4 r5 r6 aL aS aR aG Ea0 ma0 da0 Ea1 ma1 da1 Ea2 ma2 da2 Ea3 ma3 da3 bL bS bR bG Eb0 mb0 db0 Eb1 mb1 db1 Eb2 mb2 db2 Eb3 mb3 db3 HOK.out _ (Kd.C_below C1.out B2.out) (Kd.C_below C2.out B2.out) (Kd.C_below C3.out B2.out)).mono ?_
 rintro e q8 ⟨rfl, hb⟩
 refine ⟨_, rfl, ?_⟩
 replace B0 := bb B0 hb
 replace B2 := bb B2 hb
 replace K_b3 := kb K_b3 hb
 replace K_b4 := kb K_b4 hb
 replace K_b5 := kb K_b5 hb
 replace K_b8 := kb K_b8 hb
 replace K_b9 := kb K_b9 hb
 replace K_b10 := kb K_b10 hb
 clear hb
 refine hK.out _ _ ⟨K_b8.out, K_b9.out, K_b10.out, K_b5.out⟩ (fun hHeld => ?_)
 clear hK K
 refine norm_ (a' := ?_) ?_ ?_
 rotate_left
 · show Act.put _ (some 25) _ = _
   simp only [Act.put, List.setIfInBounds_toArray, List.set_cons_zero, List.set_cons_succ, i64_w, i32_w]
   rfl
 refine pw 6 26 (M 47 127) ?_
 refine pw 7 27 (M 47 255) ?_
 refine take_ (i := 9) (N := some 29) (v := ?_) (a' := ?_) (M 47 767) rfl rfl (by kernel_rfl) (fun _ _ _ h => h) (Or.inl ⟨by rfl, ?_⟩) hHeld ?_ ?_
 rotate_left
 · rintro w' ⟨s0, s1, s2, s3⟩
   obtain ⟨a0, a1, a2, a3, a4, a5, a6, a7⟩ := cz8 s1
   go_simp
   with_reducible rfl
 rotate_left
 · simp only [Act.put, List.setIfInBounds_toArray, List.set_cons_zero, List.set_cons_succ, i64_w, i32_w]
   rfl
 refine take_ (i := 10) (N := some 30) (v := ?_) (a' := ?_) (M 47 1791) rfl rfl (by kernel_rfl) (fun _ _ _ h => h) (Or.inl ⟨by rfl, ?_⟩) hHeld ?_ ?_
 rotate_left
 · rintro w' ⟨s0, s1, s2, s3⟩
   obtain ⟨a0, a1, a2, a3, a4, a5, a6, a7⟩ := cz8 s2
   go_simp
   with_reducible rfl
 rotate_left
 · simp only [Act.put, List.setIfInBounds_toArray, List.set_cons_zero, List.set_cons_succ, i64_w, i32_w]
   rfl
 refine ow 8 (some 28) (M 47 2047) fun K hK => ?_
 refine gow Try.func12 #[] ?_
 with_reducible refine (image_calls _).mono ?_
 rintro e q9 ⟨⟨B1x, B2x, B3x, B4x, rfl, c2_, c3_, c4_⟩, hb⟩
 refine ⟨_, rfl, ?_⟩
 replace B0 := bb B0 hb
 replace B2 := bb B2 hb
 replace K_b3 := kb K_b3 hb
 replace K_b4 := kb K_b4 hb
 replace K_b5 := kb K_b5 hb
 replace K_b8 := kb K_b8 hb
 replace K_b9 := kb K_b9 hb
 replace K_b10 := kb K_b10 hb
 rw [imgV_eq]
 have Z1x := Aside0.mk c2_
 have Z2x := Aside0.mk c3_
 have Z3x := Aside0.mk c4_
 clear c2_ c3_ c4_
 clear hb
 have BZx := Aside0.mk (Below.refl q9.heap.size q9)
 refine hK.out _ _ ⟨K_b8.out, K_b9.out, K_b10.out, K_b5.out⟩ (fun hHeld => ?_)
 clear hK K
 refine norm_ (a' := ?_) ?_ ?_
 rotate_left
 · show Act.put _ (some 28) _ = _
   simp only [Act.put, List.setIfInBounds_toArray, List.set_cons_zero, List.set_cons_succ, i64_w, i32_w]
   rfl
 refine ow 11 (some 31) (M 47 4095) fun K hK => ?_
 refine gow Try.func11 #[.agg #[.slice (some ⟨B1x, 0, none⟩) 54 54, .slice (some ⟨B2x, 0, none⟩) dRows.length 32, .slice (some ⟨B3x, 0, none⟩) dRules.length 15, .slice (some ⟨B4x, 0, none⟩) dMembers.length 7, .int .i64 40, .int .i64 5], .agg #[.string aL, .slice Ea0 ma0 da0, .string aS, .string aR, .slice Ea1 ma1 da1, .slice Ea2 ma2 da2, .slice Ea3 ma3 da3, .string aG], .agg #[.string bL, .slice Eb0 mb0 db0, .string bS, .string bR, .slice Eb1 mb1 db1, .slice Eb2 mb2 db2, .slice Eb3 mb3 db3, .string bG]] ?_
 with_reducible refine (sums_calls (some ⟨B1x, 0, none⟩) 54 54 (some ⟨B2x, 0, none⟩) 32 dRows (some ⟨B3x, 0, none⟩) 15 dRules (some ⟨B4x, 0, none⟩) 7 dMembers 40 5 aL aS aR aG Ea0 ma0 da0 Ea1 ma1 da1 Ea2 ma2 da2 Ea3 ma3 da3 bL bS bR bG Eb0 mb0 db0 Eb1 mb1 db1 Eb2 mb2 db2 Eb3 mb3 db3 dRules_ok2 _ (Kd.C_below Z1x.out BZx.out) (Kd.C_below Z2x.out BZx.out) (Kd.C_below Z3x.out BZx.out)).mono ?_
 rintro e q10 ⟨rfl, hb⟩
 refine ⟨_, rfl, ?_⟩
 replace B0 := bb B0 hb
 replace B2 := bb B2 hb
 replace BZx := bb BZx hb
 replace K_b3 := kb K_b3 hb
 replace K_b4 := kb K_b4 hb
 replace K_b5 := kb K_b5 hb
 replace K_b8 := kb K_b8 hb
 replace K_b9 := kb K_b9 hb
 replace K_b10 := kb K_b10 hb
 clear hb
 clear Z1x Z2x Z3x BZx
 refine hK.out _ _ ⟨K_b8.out, K_b9.out, K_b10.out, K_b5.out⟩ (fun hHeld => ?_)
 clear hK K
 refine norm_ (a' := ?_) ?_ ?_
 rotate_left
 · show Act.put _ (some 31) _ = _
   simp only [Act.put, List.setIfInBounds_toArray, List.set_cons_zero, List.set_cons_succ, i64_w, i32_w]
   rfl
 refine pw 12 32 (M 47 8191) ?_
 refine pw 13 33 (M 47 16383) ?_
 refine pw 15 35 (M 47 49151) ?_
 refine pw 19 39 (M 47 573439) ?_
 refine take_ (i := 14) (N := some 34) (v := ?_) (a' := ?_) (M 47 589823) rfl rfl (by kernel_rfl) (fun _ _ _ h => h) (Or.inl ⟨by rfl, ?_⟩) hHeld ?_ ?_
 rotate_left
 · rintro w' ⟨s0, s1, s2, s3⟩
   obtain ⟨a0, a1, a2, a3, a4, a5⟩ := cz6 s0
   go_simp
   with_reducible rfl
 rotate_left
 · simp only [Act.put, List.setIfInBounds_toArray, List.set_cons_zero, List.set_cons_succ, i64_w, i32_w]
   rfl
 refine take_ (i := 16) (N := some 36) (v := ?_) (a' := ?_) (M 47 655359) rfl rfl (by kernel_rfl) (fun _ _ _ h => h) (Or.inl ⟨by rfl, ?_⟩) hHeld ?_ ?_
 rotate_left
 · rintro w' ⟨s0, s1, s2, s3⟩
   obtain ⟨a0, a1, a2, a3, a4, a5, a6, a7, a8, a9, a10, a11, a12⟩ := cz13 s3
   go_simp
   with_reducible rfl
 rotate_left
 · simp only [Act.put, List.setIfInBounds_toArray, List.set_cons_zero, List.set_cons_succ, i64_w, i32_w]
   rfl
 refine take_ (i := 20) (N := some 40) (v := ?_) (a' := ?_) (M 47 1703935) rfl rfl (by kernel_rfl) (fun _ _ _ h => h) (Or.inl ⟨by rfl, ?_⟩) hHeld ?_ ?_
 rotate_left
 · rintro w' ⟨s0, s1, s2, s3⟩
   obtain ⟨a0, a1, a2, a3, a4, a5, a6, a7, a8, a9, a10, a11, a12⟩ := cz13 s3
   go_simp
   with_reducible rfl
 rotate_left
 · simp only [Act.put, List.setIfInBounds_toArray, List.set_cons_zero, List.set_cons_succ, i64_w, i32_w]
   rfl
 refine ow 17 (some 37) (M 47 1835007) fun K hK => ?_
 refine gow Try.func14 #[.agg #[.int .i64 D0, .int .i64 D1, .int .i64 D2]] ?_
 with_reducible refine (isoglosslaw22_plain.calls D0 D1 D2 d0 d1 d2 _ HD.out).mono ?_
 rintro e q11 ⟨rfl, hb⟩
 refine ⟨_, rfl, ?_⟩
 replace B0 := bb B0 hb
 replace B2 := bb B2 hb
 replace K_b3 := kb K_b3 hb
 replace K_b4 := kb K_b4 hb
 replace K_b5 := kb K_b5 hb
 replace K_b8 := kb K_b8 hb
 replace K_b9 := kb K_b9 hb
 replace K_b10 := kb K_b10 hb
 clear hb
 refine hK.out _ _ ⟨K_b8.out, K_b9.out, K_b10.out, K_b5.out⟩ (fun hHeld => ?_)
 clear hK K
 refine norm_ (a' := ?_) ?_ ?_
 rotate_left
 · show Act.put _ (some 37) _ = _
   simp only [Act.put, List.setIfInBounds_toArray, List.set_cons_zero, List.set_cons_succ, i64_w, i32_w]
   rfl
 refine ow 18 (some 38) (M 47 2097151) fun K hK => ?_
 refine gow Try.func13 #[.agg #[.string d0, .string d1, .string d2]] ?_
 with_reducible refine (tag_calls d0 d1 d2 _).mono ?_
 rintro e q12 ⟨rfl, hb⟩
 refine ⟨_, rfl, ?_⟩
 replace B0 := bb B0 hb
 replace B2 := bb B2 hb
 replace K_b3 := kb K_b3 hb
 replace K_b4 := kb K_b4 hb
 replace K_b5 := kb K_b5 hb
 replace K_b8 := kb K_b8 hb
 replace K_b9 := kb K_b9 hb
 replace K_b10 := kb K_b10 hb
 clear hb
 refine hK.out _ _ ⟨K_b8.out, K_b9.out, K_b10.out, K_b5.out⟩ (fun hHeld => ?_)
 clear hK K
 refine norm_ (a' := ?_) ?_ ?_
 rotate_left
 · show Act.put _ (some 38) _ = _
   simp only [Act.put, List.setIfInBounds_toArray, List.set_cons_zero, List.set_cons_succ, i64_w, i32_w]
   rfl
 refine ow 21 (some 41) (M 47 4194303) fun K hK => ?_
 refine gow Try.func14 #[.agg #[.int .i64 S0, .int .i64 S1, .int .i64 S2]] ?_
 with_reducible refine (isoglosslaw22_plain.calls S0 S1 S2 e0 e1 e2 _ HE.out).mono ?_
 rintro e q13 ⟨rfl, hb⟩
 refine ⟨_, rfl, ?_⟩
 replace B0 := bb B0 hb
 replace B2 := bb B2 hb
 replace K_b3 := kb K_b3 hb
 replace K_b4 := kb K_b4 hb
 replace K_b5 := kb K_b5 hb
 replace K_b8 := kb K_b8 hb
 replace K_b9 := kb K_b9 hb
 replace K_b10 := kb K_b10 hb
 clear hb
 refine hK.out _ _ ⟨K_b8.out, K_b9.out, K_b10.out, K_b5.out⟩ (fun hHeld => ?_)
 clear hK K
 refine norm_ (a' := ?_) ?_ ?_
 rotate_left
 · show Act.put _ (some 41) _ = _
   simp only [Act.put, List.setIfInBounds_toArray, List.set_cons_zero, List.set_cons_succ, i64_w, i32_w]
   rfl
 refine ow 22 (some 42) (M 47 8388607) fun K hK => ?_
 refine gow Try.func13 #[.agg #[.string e0, .string e1, .string e2]] ?_
 with_reducible refine (tag_calls e0 e1 e2 _).mono ?_
 rintro e q14 ⟨rfl, hb⟩
 refine ⟨_, rfl, ?_⟩
 replace B0 := bb B0 hb
 replace B2 := bb B2 hb
 replace K_b3 := kb K_b3 hb
 replace K_b4 := kb K_b4 hb
 replace K_b5 := kb K_b5 hb
 replace K_b8 := kb K_b8 hb
 replace K_b9 := kb K_b9 hb
 replace K_b10 := kb K_b10 hb
 clear hb
 refine hK.out _ _ ⟨K_b8.out, K_b9.out, K_b10.out, K_b5.out⟩ (fun hHeld => ?_)
 clear hK K
 refine norm_ (a' := ?_) ?_ ?_
 rotate_left
 · show Act.put _ (some 42) _ = _
   simp only [Act.put, List.setIfInBounds_toArray, List.set_cons_zero, List.set_cons_succ, i64_w, i32_w]
   rfl
 refine ow 23 (some 43) (M 47 16777215) fun K hK => ?_
 refine gow Try.func11 #[.agg #[.slice A4 r1.length c4, .slice A5 r2.length c5, .slice A6 r3.length c6, .slice A7 r4.length c7, .int .i64 r5, .int .i64 r6], .agg #[.string d0, .slice none 0 0, .string d1, .string d2, .slice none 0 0, .slice none 0 0, .slice none 0 0, .string ⟨#[]⟩], .agg #[.string e0, .slice none 0 0, .string e1, .string e2, .slice none 0 0, .slice none 0 0, .slice none 0 0, .string ⟨#[]⟩]] ?_
 with_reducible refine (sums_calls A4 r1.length c4 A5 c5 r2 A6 c6 r3 A7 c7 r4 r5 r6 d0 d1 d2 ⟨#[]⟩ none 0 0 none 0 0 none 0 0 none 0 0 e0 e1 e2 ⟨#[]⟩ none 0 0 none 0 0 none 0 0 none 0 0 HOK.out _ (Kd.C_below C1.out B2.out) (Kd.C_below C2.out B2.out) (Kd.C_below C3.out B2.out)).mono ?_
 rintro e q15 ⟨rfl, hb⟩
 refine ⟨_, rfl, ?_⟩
 replace B0 := bb B0 hb
 replace B2 := bb B2 hb
 replace K_b3 := kb K_b3 hb
 replace K_b4 := kb K_b4 hb
 replace K_b5 := kb K_b5 hb
 replace K_b8 := kb K_b8 hb
 replace K_b9 := kb K_b9 hb
 replace K_b10 := kb K_b10 hb
 clear hb
 refine hK.out _ _ ⟨K_b8.out, K_b9.out, K_b10.out, K_b5.out⟩ (fun hHeld => ?_)
 clear hK K
 refine norm_ (a' := ?_) ?_ ?_
 rotate_left
 · show Act.put _ (some 43) _ = _
   simp only [Act.put, List.setIfInBounds_toArray, List.set_cons_zero, List.set_cons_succ, i64_w, i32_w]
   rfl
 refine pw 24 44 (M 47 33554431) ?_
 refine pw 25 45 (M 47 67108863) ?_
 refine pw 27 47 (M 47 201326591) ?_
 refine pw 31 51 (M 47 2348810239) ?_
 refine take_ (i := 28) (N := some 48) (v := ?_) (a' := ?_) (M 47 2617245695) rfl rfl (by kernel_rfl) (fun _ _ _ h => h) (Or.inl ⟨by rfl, ?_⟩) hHeld ?_ ?_
 rotate_left
 · rintro w' ⟨s0, s1, s2, s3⟩
   obtain ⟨a0, a1, a2, a3, a4, a5, a6, a7, a8, a9, a10, a11, a12⟩ := cz13 s3
   go_simp
   with_reducible rfl
 rotate_left
 · simp only [Act.put, List.setIfInBounds_toArray, List.set_cons_zero, List.set_cons_succ, i64_w, i32_w]
   rfl
 refine take_ (i := 32) (N := some 52) (v := ?_) (a' := ?_) (M 47 6912212991) rfl rfl (by kernel_rfl) (fun _ _ _ h => h) (Or.inl ⟨by rfl, ?_⟩) hHeld ?_ ?_
 rotate_left
 · rintro w' ⟨s0, s1, s2, s3⟩
   obtain ⟨a0, a1, a2, a3, a4, a5, a6, a7, a8, a9, a10, a11, a12⟩ := cz13 s3
   go_simp
   with_reducible rfl
 rotate_left
 · simp only [Act.put, List.setIfInBounds_toArray, List.set_cons_zero, List.set_cons_succ, i64_w, i32_w]
   rfl
 refine ow 26 (some 46) (M 47 6979321855) fun K hK => ?_
 refine gow Try.func12 #[] ?_
 with_reducible refine (image_calls _).mono ?_
 rintro e q16 ⟨⟨B1y, B2y, B3y, B4y, rfl, c2_, c3_, c4_⟩, hb⟩
 refine ⟨_, rfl, ?_⟩
 replace B0 := bb B0 hb
 replace B2 := bb B2 hb
 replace K_b3 := kb K_b3 hb
 replace K_b4 := kb K_b4 hb
 replace K_b5 := kb K_b5 hb
 replace K_b8 := kb K_b8 hb
 replace K_b9 := kb K_b9 hb
 replace K_b10 := kb K_b10 hb
 rw [imgV_eq]
 have Z1y := Aside0.mk c2_
 have Z2y := Aside0.mk c3_
 have Z3y := Aside0.mk c4_
 clear c2_ c3_ c4_
 clear hb
 have BZy := Aside0.mk (Below.refl q16.heap.size q16)
 refine hK.out _ _ ⟨K_b8.out, K_b9.out, K_b10.out, K_b5.out⟩ (fun hHeld => ?_)
 clear hK K
 refine norm_ (a' := ?_) ?_ ?_
 rotate_left
 · show Act.put _ (some 46) _ = _
   simp only [Act.put, List.setIfInBounds_toArray, List.set_cons_zero, List.set_cons_succ, i64_w, i32_w]
   rfl
 refine ow 29 (some 49) (M 47 7516192767) fun K hK => ?_
 refine gow Try.func14 #[.agg #[.int .i64 D0, .int .i64 D1, .int .i64 D2]] ?_
 with_reducible refine (isoglosslaw22_plain.calls D0 D1 D2 d0 d1 d2 _ HD.out).mono ?_
 rintro e q17 ⟨rfl, hb⟩
 refine ⟨_, rfl, ?_⟩
 replace B0 := bb B0 hb
 replace B2 := bb B2 hb
 replace BZy := bb BZy hb
 replace K_b3 := kb K_b3 hb
 replace K_b4 := kb K_b4 hb
 replace K_b5 := kb K_b5 hb
 replace K_b8 := kb K_b8 hb
 replace K_b9 := kb K_b9 hb
 replace K_b10 := kb K_b10 hb
 clear hb
 refine hK.out _ _ ⟨K_b8.out, K_b9.out, K_b10.out, K_b5.out⟩ (fun hHeld => ?_)
 clear hK K
 refine norm_ (a' := ?_) ?_ ?_
 rotate_left
 · show Act.put _ (some 49) _ = _
   simp only [Act.put, List.setIfInBounds_toArray, List.set_cons_zero, List.set_cons_succ, i64_w, i32_w]
   rfl
 refine ow 30 (some 50) (M 47 8589934591) fun K hK => ?_
 refine gow Try.func13 #[.agg #[.string d0, .string d1, .string d2]] ?_
 with_reducible refine (tag_calls d0 d1 d2 _).mono ?_
 rintro e q18 ⟨rfl, hb⟩
 refine ⟨_, rfl, ?_⟩
 replace B0 := bb B0 hb
 replace B2 := bb B2 hb
 replace BZy := bb BZy hb
 replace K_b3 := kb K_b3 hb
 replace K_b4 := kb K_b4 hb
 replace K_b5 := kb K_b5 hb
 replace K_b8 := kb K_b8 hb
 replace K_b9 := kb K_b9 hb
 replace K_b10 := kb K_b10 hb
 clear hb
 refine hK.out _ _ ⟨K_b8.out, K_b9.out, K_b10.out, K_b5.out⟩ (fun hHeld => ?_)
 clear hK K
 refine norm_ (a' := ?_) ?_ ?_
 rotate_left
 · show Act.put _ (some 50) _ = _
   simp only [Act.put, List.setIfInBounds_toArray, List.set_cons_zero, List.set_cons_succ, i64_w, i32_w]
   rfl
 refine ow 33 (some 53) (M 47 17179869183) fun K hK => ?_
 refine gow Try.func14 #[.agg #[.int .i64 S0, .int .i64 S1, .int .i64 S2]] ?_
 with_reducible refine (isoglosslaw22_plain.calls S0 S1 S2 e0 e1 e2 _ HE.out).mono ?_
 rintro e q19 ⟨rfl, hb⟩
 refine ⟨_, rfl, ?_⟩
 replace B0 := bb B0 hb
 replace B2 := bb B2 hb
 replace BZy := bb BZy hb
 replace K_b3 := kb K_b3 hb
 replace K_b4 := kb K_b4 hb
 replace K_b5 := kb K_b5 hb
 replace K_b8 := kb K_b8 hb
 replace K_b9 := kb K_b9 hb
 replace K_b10 := kb K_b10 hb
 clear hb
 refine hK.out _ _ ⟨K_b8.out, K_b9.out, K_b10.out, K_b5.out⟩ (fun hHeld => ?_)
 clear hK K
 refine norm_ (a' := ?_) ?_ ?_
 rotate_left
 · show Act.put _ (some 53) _ = _
   simp only [Act.put, List.setIfInBounds_toArray, List.set_cons_zero, List.set_cons_succ, i64_w, i32_w]
   rfl
 refine ow 34 (some 54) (M 47 34359738367) fun K hK => ?_
 refine gow Try.func13 #[.agg #[.string e0, .string e1, .string e2]] ?_
 with_reducible refine (tag_calls e0 e1 e2 _).mono ?_
 rintro e q20 ⟨rfl, hb⟩
 refine ⟨_, rfl, ?_⟩
 replace B0 := bb B0 hb
 replace B2 := bb B2 hb
 replace BZy := bb BZy hb
 replace K_b3 := kb K_b3 hb
 replace K_b4 := kb K_b4 hb
 replace K_b5 := kb K_b5 hb
 replace K_b8 := kb K_b8 hb
 replace K_b9 := kb K_b9 hb
 replace K_b10 := kb K_b10 hb
 clear hb
 refine hK.out _ _ ⟨K_b8.out, K_b9.out, K_b10.out, K_b5.out⟩ (fun hHeld => ?_)
 clear hK K
 refine norm_ (a' := ?_) ?_ ?_
 rotate_left
 · show Act.put _ (some 54) _ = _
   simp only [Act.put, List.setIfInBounds_toArray, List.set_cons_zero, List.set_cons_succ, i64_w, i32_w]
   rfl
 refine ow 35 (some 55) (M 47 68719476735) fun K hK => ?_
 refine gow Try.func11 #[.agg #[.slice (some ⟨B1y, 0, none⟩) 54 54, .slice (some ⟨B2y, 0, none⟩) dRows.length 32, .slice (some ⟨B3y, 0, none⟩) dRules.length 15, .slice (some ⟨B4y, 0, none⟩) dMembers.length 7, .int .i64 40, .int .i64 5], .agg #[.string d0, .slice none 0 0, .string d1, .string d2, .slice none 0 0, .slice none 0 0, .slice none 0 0, .string ⟨#[]⟩], .agg #[.string e0, .slice none 0 0, .string e1, .string e2, .slice none 0 0, .slice none 0 0, .slice none 0 0, .string ⟨#[]⟩]] ?_
 with_reducible refine (sums_calls (some ⟨B1y, 0, none⟩) 54 54 (some ⟨B2y, 0, none⟩) 32 dRows (some ⟨B3y, 0, none⟩) 15 dRules (some ⟨B4y, 0, none⟩) 7 dMembers 40 5 d0 d1 d2 ⟨#[]⟩ none 0 0 none 0 0 none 0 0 none 0 0 e0 e1 e2 ⟨#[]⟩ none 0 0 none 0 0 none 0 0 none 0 0 dRules_ok2 _ (Kd.C_below Z1y.out BZy.out) (Kd.C_below Z2y.out BZy.out) (Kd.C_below Z3y.out BZy.out)).mono ?_
 rintro e q21 ⟨rfl, hb⟩
 refine ⟨_, rfl, ?_⟩
 replace B0 := bb B0 hb
 replace B2 := bb B2 hb
 replace BZy := bb BZy hb
 replace K_b3 := kb K_b3 hb
 replace K_b4 := kb K_b4 hb
 replace K_b5 := kb K_b5 hb
 replace K_b8 := kb K_b8 hb
 replace K_b9 := kb K_b9 hb
 replace K_b10 := kb K_b10 hb
 clear hb
 clear Z1y Z2y Z3y BZy
 refine hK.out _ _ ⟨K_b8.out, K_b9.out, K_b10.out, K_b5.out⟩ (fun hHeld => ?_)
 clear hK K
 refine norm_ (a' := ?_) ?_ ?_
 rotate_left
 · show Act.put _ (some 55) _ = _
   simp only [Act.put, List.setIfInBounds_toArray, List.set_cons_zero, List.set_cons_succ, i64_w, i32_w]
   rfl
 refine pw 36 56 (M 47 137438953471) ?_
 refine pw 37 57 (M 47 274877906943) ?_
 refine pw 40 60 (M 47 1374389534719) ?_
 refine take_ (i := 38) (N := some 58) (v := ?_) (a' := ?_) (M 47 1649267441663) rfl rfl (by kernel_rfl) (fun _ _ _ h => h) (Or.inl ⟨by rfl, ?_⟩) hHeld ?_ ?_
 rotate_left
 · rintro w' ⟨s0, s1, s2, s3⟩
   obtain ⟨a0, a1, a2, a3, a4, a5⟩ := cz6 s0
   go_simp
   with_reducible rfl
 rotate_left
 · simp only [Act.put, List.setIfInBounds_toArray, List.set_cons_zero, List.set_cons_succ, i64_w, i32_w]
   rfl
 refine take_ (i := 39) (N := some 59) (v := ?_) (a' := ?_) (M 47 2199023255551) rfl rfl (by kernel_rfl) (fun _ _ _ h => h) (Or.inl ⟨by rfl, ?_⟩) hHeld ?_ ?_
 rotate_left
 · rintro w' ⟨s0, s1, s2, s3⟩
   obtain ⟨a0, a1, a2, a3, a4, a5, a6, a7⟩ := cz8 s1
   go_simp
   with_reducible rfl
 rotate_left
 · simp only [Act.put, List.setIfInBounds_toArray, List.set_cons_zero, List.set_cons_succ, i64_w, i32_w]
   rfl
 refine take_ (i := 41) (N := some 61) (v := ?_) (a' := ?_) (M 47 4398046511103) rfl rfl (by kernel_rfl) (fun _ _ _ h => h) (Or.inl ⟨by rfl, ?_⟩) hHeld ?_ ?_
 rotate_left
 · rintro w' ⟨s0, s1, s2, s3⟩
   obtain ⟨a0, a1, a2, a3, a4, a5, a6, a7, a8, a9, a10, a11, a12⟩ := cz13 s3
   go_simp
   with_reducible rfl
 rotate_left
 · simp only [Act.put, List.setIfInBounds_toArray, List.set_cons_zero, List.set_cons_succ, i64_w, i32_w]
   rfl
 refine ow 42 (some 62) (M 47 8796093022207) fun K hK => ?_
 refine gow Try.func14 #[.agg #[.int .i64 S0, .int .i64 S1, .int .i64 S2]] ?_
 with_reducible refine (isoglosslaw22_plain.calls S0 S1 S2 e0 e1 e2 _ HE.out).mono ?_
 rintro e q22 ⟨rfl, hb⟩
 refine ⟨_, rfl, ?_⟩
 replace B0 := bb B0 hb
 replace B2 := bb B2 hb
 replace K_b3 := kb K_b3 hb
 replace K_b4 := kb K_b4 hb
 replace K_b5 := kb K_b5 hb
 replace K_b8 := kb K_b8 hb
 replace K_b9 := kb K_b9 hb
 replace K_b10 := kb K_b10 hb
 clear hb
 refine hK.out _ _ ⟨K_b8.out, K_b9.out, K_b10.out, K_b5.out⟩ (fun hHeld => ?_)
 clear hK K
 refine norm_ (a' := ?_) ?_ ?_
 rotate_left
 · show Act.put _ (some 62) _ = _
   simp only [Act.put, List.setIfInBounds_toArray, List.set_cons_zero, List.set_cons_succ, i64_w, i32_w]
   rfl
 refine ow 43 (some 63) (M 47 17592186044415) fun K hK => ?_
 refine gow Try.func13 #[.agg #[.string e0, .string e1, .string e2]] ?_
 with_reducible refine (tag_calls e0 e1 e2 _).mono ?_
 rintro e q23 ⟨rfl, hb⟩
 refine ⟨_, rfl, ?_⟩
 replace B0 := bb B0 hb
 replace B2 := bb B2 hb
 replace K_b3 := kb K_b3 hb
 replace K_b4 := kb K_b4 hb
 replace K_b5 := kb K_b5 hb
 replace K_b8 := kb K_b8 hb
 replace K_b9 := kb K_b9 hb
 replace K_b10 := kb K_b10 hb
 clear hb
 refine hK.out _ _ ⟨K_b8.out, K_b9.out, K_b10.out, K_b5.out⟩ (fun hHeld => ?_)
 clear hK K
 refine norm_ (a' := ?_) ?_ ?_
 rotate_left
 · show Act.put _ (some 63) _ = _
   simp only [Act.put, List.setIfInBounds_toArray, List.set_cons_zero, List.set_cons_succ, i64_w, i32_w]
   rfl
 refine ow 44 (some 64) (M 47 35184372088831) fun K hK => ?_
 refine gow Try.func11 #[.agg #[.slice A4 r1.length c4, .slice A5 r2.length c5, .slice A6 r3.length c6, .slice A7 r4.length c7, .int .i64 r5, .int .i64 r6], .agg #[.string aL, .slice Ea0 ma0 da0, .string aS, .string aR, .slice Ea1 ma1 da1, .slice Ea2 ma2 da2, .slice Ea3 ma3 da3, .string aG], .agg #[.string e0, .slice none 0 0, .string e1, .string e2, .slice none 0 0, .slice none 0 0, .slice none 0 0, .string ⟨#[]⟩]] ?_
 with_reducible refine (sums_calls A4 r1.length c4 A5 c5 r2 A6 c6 r3 A7 c7 r4 r5 r6 aL aS aR aG Ea0 ma0 da0 Ea1 ma1 da1 Ea2 ma2 da2 Ea3 ma3 da3 e0 e1 e2 ⟨#[]⟩ none 0 0 none 0 0 none 0 0 none 0 0 HOK.out _ (Kd.C_below C1.out B2.out) (Kd.C_below C2.out B2.out) (Kd.C_below C3.out B2.out)).mono ?_
 rintro e q24 ⟨rfl, hb⟩
 refine ⟨_, rfl, ?_⟩
 replace B0 := bb B0 hb
 replace B2 := bb B2 hb
 replace K_b3 := kb K_b3 hb
 replace K_b4 := kb K_b4 hb
 replace K_b5 := kb K_b5 hb
 replace K_b8 := kb K_b8 hb
 replace K_b9 := kb K_b9 hb
 replace K_b10 := kb K_b10 hb
 clear hb
 refine hK.out _ _ ⟨K_b8.out, K_b9.out, K_b10.out, K_b5.out⟩ (fun hHeld => ?_)
 clear hK K
 refine norm_ (a' := ?_) ?_ ?_
 rotate_left
 · show Act.put _ (some 64) _ = _
   simp only [Act.put, List.setIfInBounds_toArray, List.set_cons_zero, List.set_cons_succ, i64_w, i32_w]
   rfl
 refine pw 45 65 (M 47 70368744177663) ?_
 refine pw 46 6 (M 47 140737488355327) ?_
 refine done_ (by kernel_rfl) ?_
 go_wp2
 go_ret
 exact ⟨by simp, B0.out⟩
end Go.Proofs.Ytdjbanhoejegjaa.LikW
