/- The law's self, and the law DistanceSelf, walked. -/
import Derived.Test.YtdjbanhoejegjaaDsSumP
import Derived.Test.YtdjbanhoejegjaaDsP5
import Derived.Test.YtdjbanhoejegjaaDsAwake
import Derived.Test.YtdjbanhoejegjaaDsMade06
namespace Go.Proofs.Ytdjbanhoejegjaa.LikW
open Go.RowKit Go.Proofs.YtdjbanhoejegjaaW.PrintWords Go.Proofs.YtdjbanhoejegjaaW.PrintLast Go.Proofs.Ytdjbanhoejegjaa.P
set_option linter.unusedVariables false
set_option linter.unusedSimpArgs false

theorem cz16 {W : World} {g : Nat} {t : TypeId} {v0 v1 v2 v3 v4 v5 v6 v7 v8 v9 v10 v11 v12 v13 v14 v15 : Value} (h : W.heap[g]? = some (.cells #[v0, v1, v2, v3, v4, v5, v6, v7, v8, v9, v10, v11, v12, v13, v14, v15] t (0, 0))) : W.cell? ⟨g, 0, none⟩ = some v0 ∧ W.cell? ⟨g, 1, none⟩ = some v1 ∧ W.cell? ⟨g, 2, none⟩ = some v2 ∧ W.cell? ⟨g, 3, none⟩ = some v3 ∧ W.cell? ⟨g, 4, none⟩ = some v4 ∧ W.cell? ⟨g, 5, none⟩ = some v5 ∧ W.cell? ⟨g, 6, none⟩ = some v6 ∧ W.cell? ⟨g, 7, none⟩ = some v7 ∧ W.cell? ⟨g, 8, none⟩ = some v8 ∧ W.cell? ⟨g, 9, none⟩ = some v9 ∧ W.cell? ⟨g, 10, none⟩ = some v10 ∧ W.cell? ⟨g, 11, none⟩ = some v11 ∧ W.cell? ⟨g, 12, none⟩ = some v12 ∧ W.cell? ⟨g, 13, none⟩ = some v13 ∧ W.cell? ⟨g, 14, none⟩ = some v14 ∧ W.cell? ⟨g, 15, none⟩ = some v15 := ⟨(blk_cell h 0).trans rfl, (blk_cell h 1).trans rfl, (blk_cell h 2).trans rfl, (blk_cell h 3).trans rfl, (blk_cell h 4).trans rfl, (blk_cell h 5).trans rfl, (blk_cell h 6).trans rfl, (blk_cell h 7).trans rfl, (blk_cell h 8).trans rfl, (blk_cell h 9).trans rfl, (blk_cell h 10).trans rfl, (blk_cell h 11).trans rfl, (blk_cell h 12).trans rfl, (blk_cell h 13).trans rfl, (blk_cell h 14).trans rfl, (blk_cell h 15).trans rfl⟩
theorem dist_n (A0 : Option Addr) (n0 c0 : Nat) (A1 : Option Addr) (c1 : Nat) (l : List S66) (A2 : Option Addr) (c2 : Nat) (rs : List S53) (A3 : Option Addr) (c3 : Nat) (ms : List S69) (p q : Int) (aL aS aR aG : ByteArray) (Ea0 : Option Addr) (ma0 da0 : Nat) (Ea1 : Option Addr) (ma1 da1 : Nat) (Ea2 : Option Addr) (ma2 da2 : Nat) (Ea3 : Option Addr) (ma3 da3 : Nat) (bL bS bR bG : ByteArray) (Eb0 : Option Addr) (mb0 db0 : Nat) (Eb1 : Option Addr) (mb1 db1 : Nat) (Eb2 : Option Addr) (mb2 db2 : Nat) (Eb3 : Option Addr) (mb3 db3 : Nat) (N : Int) (hN : sumP rs ms (plP l (aL, aS, aR)) (plP l (bL, bS, bR)) 3 = N) (w : World) (hL : Kd.C k66 w A1 l.length l) (hR : Kd.C k53 w A2 rs.length rs) (hM : Kd.C k69 w A3 ms.length ms) :
    Calls Try.prog 16 #[.agg #[.slice A0 n0 c0, .slice A1 l.length c1, .slice A2 rs.length c2, .slice A3 ms.length c3, .int .i64 p, .int .i64 q], .agg #[.string aL, .slice Ea0 ma0 da0, .string aS, .string aR, .slice Ea1 ma1 da1, .slice Ea2 ma2 da2, .slice Ea3 ma3 da3, .string aG], .agg #[.string bL, .slice Eb0 mb0 db0, .string bS, .string bR, .slice Eb1 mb1 db1, .slice Eb2 mb2 db2, .slice Eb3 mb3 db3, .string bG]] w fun e w' => e = .returned (.int .i64 N) ∧ Below w.heap.size w w' :=
  hN ▸ dist_calls A0 n0 c0 A1 c1 l A2 c2 rs A3 c3 ms p q aL aS aR aG Ea0 ma0 da0 Ea1 ma1 da1 Ea2 ma2 da2 Ea3 ma3 da3 bL bS bR bG Eb0 mb0 db0 Eb1 mb1 db1 Eb2 mb2 db2 Eb3 mb3 db3 w hL hR hM
set_option maxRecDepth 100000 in
set_option maxHeartbeats 4000000 in
theorem self_calls (A0 : Option Addr) (n0 c0 : Nat) (A1 : Option Addr) (c1 : Nat) (l : List S66) (A2 : Option Addr) (c2 : Nat) (rs : List S53) (A3 : Option Addr) (c3 : Nat) (ms : List S69) (p q : Int) (aL aS aR aG : ByteArray) (Ea0 : Option Addr) (ma0 da0 : Nat) (Ea1 : Option Addr) (ma1 da1 : Nat) (Ea2 : Option Addr) (ma2 da2 : Nat) (Ea3 : Option Addr) (ma3 da3 : Nat) (bL bS bR bG : ByteArray) (Eb0 : Option Addr) (mb0 db0 : Nat) (Eb1 : Option Addr) (mb1 db1 : Nat) (Eb2 : Option Addr) (mb2 db2 : Nat) (Eb3 : Option Addr) (mb3 db3 : Nat) (hr : ∀ x ∈ rs, 0 ≤ x.f1 ∧ x.f1 ≤ 100) (w : World) (hL : Kd.C k66 w A1 l.length l) (hR : Kd.C k53 w A2 rs.length rs) (hM : Kd.C k69 w A3 ms.length ms) :
    Calls Try.prog 15 #[.agg #[.slice A0 n0 c0, .slice A1 l.length c1, .slice A2 rs.length c2, .slice A3 ms.length c3, .int .i64 p, .int .i64 q], .agg #[.string aL, .slice Ea0 ma0 da0, .string aS, .string aR, .slice Ea1 ma1 da1, .slice Ea2 ma2 da2, .slice Ea3 ma3 da3, .string aG], .agg #[.string bL, .slice Eb0 mb0 db0, .string bS, .string bR, .slice Eb1 mb1 db1, .slice Eb2 mb2 db2, .slice Eb3 mb3 db3, .string bG]] w fun e w' => e = .returned (.bool true) ∧ Below w.heap.size w w' := by
  have hu39 := Try.underlying39
  have hu44 := Try.underlying44
  obtain ⟨N, hN⟩ : ∃ N, sumP rs ms (plP l (aL, aS, aR)) (plP l (bL, bS, bR)) 3 = N := ⟨_, rfl⟩
  have hr2 := sum_range rs ms (plP l (aL, aS, aR)) (plP l (bL, bS, bR)) hr 3 (Nat.le_refl 3)
  rw [hN] at hr2
  have h0 : 0 ≤ N := hr2.1
  have h3 : N ≤ 300 := by have := hr2.2; omega
  have HN := Aside0.mk hN
  have HZ := Aside0.mk (sum_self rs ms (plP l (aL, aS, aR)) 3 (Nat.le_refl 3))
  have X1 := Aside0.mk hL
  have X2 := Aside0.mk hR
  have X3 := Aside0.mk hM
  have B0 := Aside0.mk (Below.refl w.heap.size w)
  clear hL hR hM hN hr hr2
  go_enter Try.func15, Try.ntmps15
  go_wp2_with (first
      | ((with_reducible refine gate_dst (N := 3) rfl ?_); refine box_event ?hg (N := 3) ?hd (cs := #[.slice A0 n0 c0, .slice A1 l.length c1, .slice A2 rs.length c2, .slice A3 ms.length c3, .int .i64 p, .int .i64 q]) (t := 39) ?hr ?_; (case hd => rfl); (case hg => rfl); (case hr => first | (go_simp; done) | (go_simp; rfl)); intro b3 hg v1 hbox hb; have G_b3 := Aside0.mk (show w.heap.size ≤ b3 by rw [hg]; exact B0.out.size); replace B0 := Aside0.mk (B0.out.trans (hb.mono B0.out.size)); have K_b3 := Aside0.mk hbox; clear hb hbox hg)
      | ((with_reducible refine gate_dst (N := 4) rfl ?_); refine box_event ?hg (N := 4) ?hd (cs := #[.string aL, .slice Ea0 ma0 da0, .string aS, .string aR, .slice Ea1 ma1 da1, .slice Ea2 ma2 da2, .slice Ea3 ma3 da3, .string aG]) (t := 44) ?hr ?_; (case hd => rfl); (case hg => rfl); (case hr => first | (go_simp; done) | (go_simp; rfl)); intro b4 hg v2 hbox hb; have N_b3_b4 := Aside0.mk (show b3 ≠ b4 by rw [hg]; exact Nat.ne_of_lt (lt_blk K_b3.out)); have G_b4 := Aside0.mk (show w.heap.size ≤ b4 by rw [hg]; exact B0.out.size); replace B0 := Aside0.mk (B0.out.trans (hb.mono B0.out.size)); replace K_b3 := Aside0.mk ((hb.block _ (lt_blk K_b3.out)).trans K_b3.out); have K_b4 := Aside0.mk hbox; clear hb hbox hg)
      | ((with_reducible refine gate_dst (N := 5) rfl ?_); refine box_event ?hg (N := 5) ?hd (cs := #[.string bL, .slice Eb0 mb0 db0, .string bS, .string bR, .slice Eb1 mb1 db1, .slice Eb2 mb2 db2, .slice Eb3 mb3 db3, .string bG]) (t := 44) ?hr ?_; (case hd => rfl); (case hg => rfl); (case hr => first | (go_simp; done) | (go_simp; rfl)); intro b5 hg v3 hbox hb; have N_b3_b5 := Aside0.mk (show b3 ≠ b5 by rw [hg]; exact Nat.ne_of_lt (lt_blk K_b3.out)); have N_b4_b5 := Aside0.mk (show b4 ≠ b5 by rw [hg]; exact Nat.ne_of_lt (lt_blk K_b4.out)); have G_b5 := Aside0.mk (show w.heap.size ≤ b5 by rw [hg]; exact B0.out.size); replace B0 := Aside0.mk (B0.out.trans (hb.mono B0.out.size)); replace K_b3 := Aside0.mk ((hb.block _ (lt_blk K_b3.out)).trans K_b3.out); replace K_b4 := Aside0.mk ((hb.block _ (lt_blk K_b4.out)).trans K_b4.out); have K_b5 := Aside0.mk hbox; clear hb hbox hg; obtain ⟨y_b3_0, y_b3_1, y_b3_2, y_b3_3, y_b3_4, y_b3_5⟩ := cz6 K_b3.out; obtain ⟨y_b4_0, y_b4_1, y_b4_2, y_b4_3, y_b4_4, y_b4_5, y_b4_6, y_b4_7⟩ := cz8 K_b4.out; obtain ⟨y_b5_0, y_b5_1, y_b5_2, y_b5_3, y_b5_4, y_b5_5, y_b5_6, y_b5_7⟩ := cz8 K_b5.out)
      | ((with_reducible refine gate_callee (f := 16) rfl ?_); refine goesL_ (some 12) rfl rfl Try.func16 (by kernel_rfl) rfl #[.agg #[.slice A0 n0 c0, .slice A1 l.length c1, .slice A2 rs.length c2, .slice A3 ms.length c3, .int .i64 p, .int .i64 q], .agg #[.string aL, .slice Ea0 ma0 da0, .string aS, .string aR, .slice Ea1 ma1 da1, .slice Ea2 ma2 da2, .slice Ea3 ma3 da3, .string aG], .agg #[.string bL, .slice Eb0 mb0 db0, .string bS, .string bR, .slice Eb1 mb1 db1, .slice Eb2 mb2 db2, .slice Eb3 mb3 db3, .string bG]] rfl mq ?_; (with_reducible refine (dist_n A0 n0 c0 A1 c1 l A2 c2 rs A3 c3 ms p q aL aS aR aG Ea0 ma0 da0 Ea1 ma1 da1 Ea2 ma2 da2 Ea3 ma3 da3 bL bS bR bG Eb0 mb0 db0 Eb1 mb1 db1 Eb2 mb2 db2 Eb3 mb3 db3 N HN.out _ (Kd.C_below X1.out B0.out) (Kd.C_below X2.out B0.out) (Kd.C_below X3.out B0.out)).mono ?_); rintro e v4 ⟨rfl, hb⟩; refine ⟨_, rfl, ?_⟩; clear y_b3_0 y_b3_1 y_b3_2 y_b3_3 y_b3_4 y_b3_5 y_b4_0 y_b4_1 y_b4_2 y_b4_3 y_b4_4 y_b4_5 y_b4_6 y_b4_7 y_b5_0 y_b5_1 y_b5_2 y_b5_3 y_b5_4 y_b5_5 y_b5_6 y_b5_7; replace B0 := Aside0.mk (B0.out.trans (hb.mono B0.out.size)); replace K_b3 := Aside0.mk ((hb.block _ (lt_blk K_b3.out)).trans K_b3.out); replace K_b4 := Aside0.mk ((hb.block _ (lt_blk K_b4.out)).trans K_b4.out); replace K_b5 := Aside0.mk ((hb.block _ (lt_blk K_b5.out)).trans K_b5.out); clear hb; obtain ⟨y_b4_0, y_b4_1, y_b4_2, y_b4_3, y_b4_4, y_b4_5, y_b4_6, y_b4_7⟩ := cz8 K_b4.out)
      | ((with_reducible refine gate_dst (N := 8) rfl ?_); refine box_event ?hg (N := 8) ?hd (cs := #[.string ⟨#[]⟩, .slice none 0 0, .string ⟨#[]⟩, .string ⟨#[]⟩, .slice none 0 0, .slice none 0 0, .slice none 0 0, .string ⟨#[]⟩]) (t := 44) ?hr ?_; (case hd => rfl); (case hg => rfl); (case hr => first | (go_simp; done) | (go_simp; rfl)); intro b8 hg v5 hbox hb; clear y_b4_0 y_b4_1 y_b4_2 y_b4_3 y_b4_4 y_b4_5 y_b4_6 y_b4_7; have N_b3_b8 := Aside0.mk (show b3 ≠ b8 by rw [hg]; exact Nat.ne_of_lt (lt_blk K_b3.out)); have N_b4_b8 := Aside0.mk (show b4 ≠ b8 by rw [hg]; exact Nat.ne_of_lt (lt_blk K_b4.out)); have N_b5_b8 := Aside0.mk (show b5 ≠ b8 by rw [hg]; exact Nat.ne_of_lt (lt_blk K_b5.out)); have G_b8 := Aside0.mk (show w.heap.size ≤ b8 by rw [hg]; exact B0.out.size); replace B0 := Aside0.mk (B0.out.trans (hb.mono B0.out.size)); replace K_b3 := Aside0.mk ((hb.block _ (lt_blk K_b3.out)).trans K_b3.out); replace K_b4 := Aside0.mk ((hb.block _ (lt_blk K_b4.out)).trans K_b4.out); replace K_b5 := Aside0.mk ((hb.block _ (lt_blk K_b5.out)).trans K_b5.out); have K_b8 := Aside0.mk hbox; clear hb hbox hg)
      | ((with_reducible refine gate_ (.store 44 (.tmp 8) (.tmp 13)) rfl ?_); refine wpList_put (g := b8) (off := 0) (cur := #[.string ⟨#[]⟩, .slice none 0 0, .string ⟨#[]⟩, .string ⟨#[]⟩, .slice none 0 0, .slice none 0 0, .slice none 0 0, .string ⟨#[]⟩]) (new := #[.string aL, .slice Ea0 ma0 da0, .string aS, .string aR, .slice Ea1 ma1 da1, .slice Ea2 ma2 da2, .slice Ea3 ma3 da3, .string aG]) (seg := [.string aL, .slice Ea0 ma0 da0, .string aS, .string aR, .slice Ea1 ma1 da1, .slice Ea2 ma2 da2, .slice Ea3 ma3 da3, .string aG]) (u := .agg #[.string aL, .slice Ea0 ma0 da0, .string aS, .string aR, .slice Ea1 ma1 da1, .slice Ea2 ma2 da2, .slice Ea3 ma3 da3, .string aG]) rfl rfl rfl rfl rfl rfl (by kernel_rfl) rfl rfl (Nat.le_of_ble_eq_true rfl) K_b8.out ?_; intro v6 hk hp; replace B0 := Aside0.mk (Put.below hp B0.out (Nat.le_trans (by exact Nat.le_refl _) G_b8.out)); replace K_b3 := Aside0.mk ((hp.far _ N_b3_b8.out).trans K_b3.out); replace K_b4 := Aside0.mk ((hp.far _ N_b4_b8.out).trans K_b4.out); replace K_b5 := Aside0.mk ((hp.far _ N_b5_b8.out).trans K_b5.out); replace K_b8 := Aside0.mk hk; clear hk hp)
      | ((with_reducible refine gate_ (.store 41 (.tmp 14) (.const (.slice none 0 0))) rfl ?_); refine wpList_put (g := b8) (off := 4) (cur := #[.string aL, .slice Ea0 ma0 da0, .string aS, .string aR, .slice Ea1 ma1 da1, .slice Ea2 ma2 da2, .slice Ea3 ma3 da3, .string aG]) (new := #[.string aL, .slice Ea0 ma0 da0, .string aS, .string aR, .slice none 0 0, .slice Ea2 ma2 da2, .slice Ea3 ma3 da3, .string aG]) (seg := [.slice none 0 0]) (u := .slice none 0 0) rfl rfl rfl rfl rfl rfl (by kernel_rfl) rfl rfl (Nat.le_of_ble_eq_true rfl) K_b8.out ?_; intro v7 hk hp; replace B0 := Aside0.mk (Put.below hp B0.out (Nat.le_trans (by exact Nat.le_refl _) G_b8.out)); replace K_b3 := Aside0.mk ((hp.far _ N_b3_b8.out).trans K_b3.out); replace K_b4 := Aside0.mk ((hp.far _ N_b4_b8.out).trans K_b4.out); replace K_b5 := Aside0.mk ((hp.far _ N_b5_b8.out).trans K_b5.out); replace K_b8 := Aside0.mk hk; clear hk hp)
      | ((with_reducible refine gate_ (.store 42 (.tmp 15) (.const (.slice none 0 0))) rfl ?_); refine wpList_put (g := b8) (off := 5) (cur := #[.string aL, .slice Ea0 ma0 da0, .string aS, .string aR, .slice none 0 0, .slice Ea2 ma2 da2, .slice Ea3 ma3 da3, .string aG]) (new := #[.string aL, .slice Ea0 ma0 da0, .string aS, .string aR, .slice none 0 0, .slice none 0 0, .slice Ea3 ma3 da3, .string aG]) (seg := [.slice none 0 0]) (u := .slice none 0 0) rfl rfl rfl rfl rfl rfl (by kernel_rfl) rfl rfl (Nat.le_of_ble_eq_true rfl) K_b8.out ?_; intro v8 hk hp; replace B0 := Aside0.mk (Put.below hp B0.out (Nat.le_trans (by exact Nat.le_refl _) G_b8.out)); replace K_b3 := Aside0.mk ((hp.far _ N_b3_b8.out).trans K_b3.out); replace K_b4 := Aside0.mk ((hp.far _ N_b4_b8.out).trans K_b4.out); replace K_b5 := Aside0.mk ((hp.far _ N_b5_b8.out).trans K_b5.out); replace K_b8 := Aside0.mk hk; clear hk hp)
      | ((with_reducible refine gate_dst (N := 16) rfl ?_); refine lit_event ?hg (N := 16) ?hd (cs := #[.string ⟨#[122, 122]⟩]) (e := 9) (n := 1) ?hr ?_; (case hd => rfl); (case hg => rfl); (case hr => first | (go_simp; done) | (go_simp; rfl)); intro g16 hg v9 hbox hb; replace B0 := Aside0.mk (B0.out.trans (hb.mono B0.out.size)); replace K_b3 := Aside0.mk ((hb.block _ (lt_blk K_b3.out)).trans K_b3.out); replace K_b4 := Aside0.mk ((hb.block _ (lt_blk K_b4.out)).trans K_b4.out); replace K_b5 := Aside0.mk ((hb.block _ (lt_blk K_b5.out)).trans K_b5.out); replace K_b8 := Aside0.mk ((hb.block _ (lt_blk K_b8.out)).trans K_b8.out); clear hb hbox hg)
      | ((with_reducible refine gate_ (.store 41 (.tmp 17) (.tmp 16)) rfl ?_); refine wpList_put (g := b8) (off := 6) (cur := #[.string aL, .slice Ea0 ma0 da0, .string aS, .string aR, .slice none 0 0, .slice none 0 0, .slice Ea3 ma3 da3, .string aG]) (new := #[.string aL, .slice Ea0 ma0 da0, .string aS, .string aR, .slice none 0 0, .slice none 0 0, .slice (some ⟨g16, 0, none⟩) 1 1, .string aG]) (seg := [.slice (some ⟨g16, 0, none⟩) 1 1]) (u := .slice (some ⟨g16, 0, none⟩) 1 1) rfl rfl rfl rfl rfl rfl (by kernel_rfl) rfl rfl (Nat.le_of_ble_eq_true rfl) K_b8.out ?_; intro v10 hk hp; replace B0 := Aside0.mk (Put.below hp B0.out (Nat.le_trans (by exact Nat.le_refl _) G_b8.out)); replace K_b3 := Aside0.mk ((hp.far _ N_b3_b8.out).trans K_b3.out); replace K_b4 := Aside0.mk ((hp.far _ N_b4_b8.out).trans K_b4.out); replace K_b5 := Aside0.mk ((hp.far _ N_b5_b8.out).trans K_b5.out); replace K_b8 := Aside0.mk hk; clear hk hp; obtain ⟨y_b3_0, y_b3_1, y_b3_2, y_b3_3, y_b3_4, y_b3_5⟩ := cz6 K_b3.out; obtain ⟨y_b4_0, y_b4_1, y_b4_2, y_b4_3, y_b4_4, y_b4_5, y_b4_6, y_b4_7⟩ := cz8 K_b4.out; obtain ⟨y_b5_0, y_b5_1, y_b5_2, y_b5_3, y_b5_4, y_b5_5, y_b5_6, y_b5_7⟩ := cz8 K_b5.out; obtain ⟨y_b8_0, y_b8_1, y_b8_2, y_b8_3, y_b8_4, y_b8_5, y_b8_6, y_b8_7⟩ := cz8 K_b8.out)
      | ((with_reducible refine gate_callee (f := 16) rfl ?_); refine goesL_ (some 21) rfl rfl Try.func16 (by kernel_rfl) rfl #[.agg #[.slice A0 n0 c0, .slice A1 l.length c1, .slice A2 rs.length c2, .slice A3 ms.length c3, .int .i64 p, .int .i64 q], .agg #[.string aL, .slice Ea0 ma0 da0, .string aS, .string aR, .slice Ea1 ma1 da1, .slice Ea2 ma2 da2, .slice Ea3 ma3 da3, .string aG], .agg #[.string aL, .slice Ea0 ma0 da0, .string aS, .string aR, .slice Ea1 ma1 da1, .slice Ea2 ma2 da2, .slice Ea3 ma3 da3, .string aG]] rfl mq ?_; (with_reducible refine (dist_n A0 n0 c0 A1 c1 l A2 c2 rs A3 c3 ms p q aL aS aR aG Ea0 ma0 da0 Ea1 ma1 da1 Ea2 ma2 da2 Ea3 ma3 da3 aL aS aR aG Ea0 ma0 da0 Ea1 ma1 da1 Ea2 ma2 da2 Ea3 ma3 da3 0 HZ.out _ (Kd.C_below X1.out B0.out) (Kd.C_below X2.out B0.out) (Kd.C_below X3.out B0.out)).mono ?_); rintro e v11 ⟨rfl, hb⟩; refine ⟨_, rfl, ?_⟩; clear y_b3_0 y_b3_1 y_b3_2 y_b3_3 y_b3_4 y_b3_5 y_b4_0 y_b4_1 y_b4_2 y_b4_3 y_b4_4 y_b4_5 y_b4_6 y_b4_7 y_b5_0 y_b5_1 y_b5_2 y_b5_3 y_b5_4 y_b5_5 y_b5_6 y_b5_7 y_b8_0 y_b8_1 y_b8_2 y_b8_3 y_b8_4 y_b8_5 y_b8_6 y_b8_7; replace B0 := Aside0.mk (B0.out.trans (hb.mono B0.out.size)); replace K_b3 := Aside0.mk ((hb.block _ (lt_blk K_b3.out)).trans K_b3.out); replace K_b4 := Aside0.mk ((hb.block _ (lt_blk K_b4.out)).trans K_b4.out); replace K_b5 := Aside0.mk ((hb.block _ (lt_blk K_b5.out)).trans K_b5.out); replace K_b8 := Aside0.mk ((hb.block _ (lt_blk K_b8.out)).trans K_b8.out); clear hb; obtain ⟨y_b3_0, y_b3_1, y_b3_2, y_b3_3, y_b3_4, y_b3_5⟩ := cz6 K_b3.out; obtain ⟨y_b5_0, y_b5_1, y_b5_2, y_b5_3, y_b5_4, y_b5_5, y_b5_6, y_b5_7⟩ := cz8 K_b5.out; obtain ⟨y_b8_0, y_b8_1, y_b8_2, y_b8_3, y_b8_4, y_b8_5, y_b8_6, y_b8_7⟩ := cz8 K_b8.out)
      | (go_at_call 16; refine (dist_n A0 n0 c0 A1 c1 l A2 c2 rs A3 c3 ms p q aL aS aR aG Ea0 ma0 da0 none 0 0 none 0 0 (some ⟨g16, 0, none⟩) 1 1 bL bS bR bG Eb0 mb0 db0 Eb1 mb1 db1 Eb2 mb2 db2 Eb3 mb3 db3 N HN.out _ (Kd.C_below X1.out B0.out) (Kd.C_below X2.out B0.out) (Kd.C_below X3.out B0.out)).mono ?_; rintro e v12 ⟨rfl, hb⟩; clear y_b3_0 y_b3_1 y_b3_2 y_b3_3 y_b3_4 y_b3_5 y_b5_0 y_b5_1 y_b5_2 y_b5_3 y_b5_4 y_b5_5 y_b5_6 y_b5_7 y_b8_0 y_b8_1 y_b8_2 y_b8_3 y_b8_4 y_b8_5 y_b8_6 y_b8_7; replace B0 := Aside0.mk (B0.out.trans (hb.mono B0.out.size)); replace K_b3 := Aside0.mk ((hb.block _ (lt_blk K_b3.out)).trans K_b3.out); replace K_b4 := Aside0.mk ((hb.block _ (lt_blk K_b4.out)).trans K_b4.out); replace K_b5 := Aside0.mk ((hb.block _ (lt_blk K_b5.out)).trans K_b5.out); replace K_b8 := Aside0.mk ((hb.block _ (lt_blk K_b8.out)).trans K_b8.out); clear hb))
  go_ret
  exact ⟨by simp, B0.out⟩
theorem dRules_ok : ∀ x ∈ dRules, 0 ≤ x.f1 ∧ x.f1 ≤ 100 := by
  have h : (dRules.all fun x => decide (0 ≤ x.f1 ∧ x.f1 ≤ 100)) = true := by kernel_rfl
  exact fun x hx => of_decide_eq_true (List.all_eq_true.1 h x hx)
set_option maxRecDepth 100000 in
set_option maxHeartbeats 8000000 in
theorem selflaw_calls (k : Nat) (A0 : Option Addr) (c0 : Nat) (l0 : List S62) (A1 : Option Addr) (c1 : Nat) (l1 : List Int) (A2 : Option Addr) (c2 : Nat) (l2 : List Int) (A3 : Option Addr) (c3 : Nat) (l3 : List Int) (th de od : Int) (r1 : List S59) (r2 : List S66) (r3 : List S53) (r4 : List S69) (r5 r6 : Int)
    (f0 f1 f2 f3 f7 : Int) (Af4 : Option Addr) (cf4 : Nat) (lf4 : List Int) (Af5 : Option Addr) (cf5 : Nat) (lf5 : List Int) (Af6 : Option Addr) (cf6 : Nat) (lf6 : List Int) (g0 g1 g2 g3 g7 : Int) (Ag4 : Option Addr) (cg4 : Nat) (lg4 : List Int) (Ag5 : Option Addr) (cg5 : Nat) (lg5 : List Int) (Ag6 : Option Addr) (cg6 : Nat) (lg6 : List Int) (w : World)
    (hC0 : Kd.C k62 w A0 l0.length l0) (hc0 : l0.length ≤ c0) (hC1 : Kd.C (Kd.int .i64) w A1 l1.length l1) (hc1 : l1.length ≤ c1) (hC2 : Kd.C (Kd.int .i64) w A2 l2.length l2) (hc2 : l2.length ≤ c2) (hC3 : Kd.C (Kd.int .i64) w A3 l3.length l3) (hc3 : l3.length ≤ c3)
    (hM : isoglossref13_Made.f k l0 l1 l2 l3 th de od = some (r1, r2, r3, r4, r5, r6)) (hok : ∀ x ∈ r3, 0 ≤ x.f1 ∧ x.f1 ≤ 100)
    (hf4 : Kd.C (Kd.int .i64) w Af4 lf4.length lf4) (hf5 : Kd.C (Kd.int .i64) w Af5 lf5.length lf5) (hf6 : Kd.C (Kd.int .i64) w Af6 lf6.length lf6) (hg4 : Kd.C (Kd.int .i64) w Ag4 lg4.length lg4) (hg5 : Kd.C (Kd.int .i64) w Ag5 lg5.length lg5) (hg6 : Kd.C (Kd.int .i64) w Ag6 lg6.length lg6) :
    Calls Try.prog 4 #[.agg #[.slice A0 l0.length c0, .slice A1 l1.length c1, .slice A2 l2.length c2, .slice A3 l3.length c3, .int .i64 th, .int .i64 de, .int .i64 od], .agg #[.int .i64 f0, .int .i64 f1, .int .i64 f2, .int .i64 f3, .slice Af4 lf4.length cf4, .slice Af5 lf5.length cf5, .slice Af6 lf6.length cf6, .int .i64 f7, .int .i64 g0, .int .i64 g1, .int .i64 g2, .int .i64 g3, .slice Ag4 lg4.length cg4, .slice Ag5 lg5.length cg5, .slice Ag6 lg6.length cg6, .int .i64 g7]] w fun e w' => e = .returned (.bool true) ∧ Below w.heap.size w w' := by
  have hu25 := Try.underlying25
  have hu28 := Try.underlying28
  have hu27 := Try.underlying27
  have hu39 := Try.underlying39
  have hu44 := Try.underlying44
  have X0 := Aside0.mk hC0
  have X1 := Aside0.mk hC1
  have X2 := Aside0.mk hC2
  have X3 := Aside0.mk hC3
  have Q0 := Aside0.mk hc0
  have Q1 := Aside0.mk hc1
  have Q2 := Aside0.mk hc2
  have Q3 := Aside0.mk hc3
  have HM := Aside0.mk hM
  have HOK := Aside0.mk hok
  have Yf4 := Aside0.mk hf4
  have Yf5 := Aside0.mk hf5
  have Yf6 := Aside0.mk hf6
  have Yg4 := Aside0.mk hg4
  have Yg5 := Aside0.mk hg5
  have Yg6 := Aside0.mk hg6
  have B0 := Aside0.mk (Below.refl w.heap.size w)
  clear hC0 hC1 hC2 hC3 hc0 hc1 hc2 hc3 hM hok hf4 hf5 hf6 hg4 hg5 hg6
  go_enter Try.func4, Try.ntmps4
  go_wp2_with (first
      | ((with_reducible refine gate_dst (N := 2) rfl ?_); refine box_event ?hg (N := 2) ?hd (cs := #[.slice A0 l0.length c0, .slice A1 l1.length c1, .slice A2 l2.length c2, .slice A3 l3.length c3, .int .i64 th, .int .i64 de, .int .i64 od]) (t := 25) ?hr ?_; (case hd => rfl); (case hg => rfl); (case hr => first | (go_simp; done) | (go_simp; rfl)); intro b2 hg w01 hbox hb; have G_b2 := Aside0.mk (show w.heap.size ≤ b2 by rw [hg]; exact B0.out.size); replace B0 := Aside0.mk (B0.out.trans (hb.mono B0.out.size)); have K_b2 := Aside0.mk hbox; clear hb hbox hg)
      | ((with_reducible refine gate_dst (N := 3) rfl ?_); refine box_event ?hg (N := 3) ?hd (cs := #[.int .i64 f0, .int .i64 f1, .int .i64 f2, .int .i64 f3, .slice Af4 lf4.length cf4, .slice Af5 lf5.length cf5, .slice Af6 lf6.length cf6, .int .i64 f7, .int .i64 g0, .int .i64 g1, .int .i64 g2, .int .i64 g3, .slice Ag4 lg4.length cg4, .slice Ag5 lg5.length cg5, .slice Ag6 lg6.length cg6, .int .i64 g7]) (t := 28) ?hr ?_; (case hd => rfl); (case hg => rfl); (case hr => first | (go_simp; done) | (go_simp; rfl)); intro b3 hg w02 hbox hb; have N_b2_b3 := Aside0.mk (show b2 ≠ b3 by rw [hg]; exact Nat.ne_of_lt (lt_blk K_b2.out)); have G_b3 := Aside0.mk (show w.heap.size ≤ b3 by rw [hg]; exact B0.out.size); replace B0 := Aside0.mk (B0.out.trans (hb.mono B0.out.size)); replace K_b2 := Aside0.mk ((hb.block _ (lt_blk K_b2.out)).trans K_b2.out); have K_b3 := Aside0.mk hbox; clear hb hbox hg)
      | ((with_reducible refine gate_callee (f := 8) rfl ?_); refine goesL_ (some 9) rfl rfl Try.func8 (by kernel_rfl) rfl #[] rfl mq ?_; (with_reducible refine (awake_calls _).mono ?_); rintro e w1 ⟨rfl, hb⟩; refine ⟨_, rfl, ?_⟩; replace B0 := Aside0.mk (B0.out.trans (hb.mono B0.out.size)); replace K_b2 := Aside0.mk ((hb.block _ (lt_blk K_b2.out)).trans K_b2.out); replace K_b3 := Aside0.mk ((hb.block _ (lt_blk K_b3.out)).trans K_b3.out); clear hb; obtain ⟨y_b2_0, y_b2_1, y_b2_2, y_b2_3, y_b2_4, y_b2_5, y_b2_6⟩ := cz7 K_b2.out)
      | ((with_reducible refine gate_callee (f := 9) rfl ?_); refine goesL_ (some 11) rfl rfl Try.func9 (by kernel_rfl) rfl #[.agg #[.slice A0 l0.length c0, .slice A1 l1.length c1, .slice A2 l2.length c2, .slice A3 l3.length c3, .int .i64 th, .int .i64 de, .int .i64 od]] rfl mq ?_; (with_reducible refine (isoglossref13_Made.calls k A0 c0 l0 A1 c1 l1 A2 c2 l2 A3 c3 l3 th de od r1 r2 r3 r4 r5 r6 _ (Kd.C_below X0.out B0.out) Q0.out (Kd.C_below X1.out B0.out) Q1.out (Kd.C_below X2.out B0.out) Q2.out (Kd.C_below X3.out B0.out) Q3.out HM.out).mono ?_); rintro e w2 ⟨v0, v1, v2, v3, rfl, R0, R1, R2, R3, hb⟩; refine ⟨_, rfl, ?_⟩; clear y_b2_0 y_b2_1 y_b2_2 y_b2_3 y_b2_4 y_b2_5 y_b2_6; obtain ⟨A4, c4, e4⟩ := Kd.R_slice R0; subst e4; obtain ⟨A5, c5, e5⟩ := Kd.R_slice R1; subst e5; obtain ⟨A6, c6, e6⟩ := Kd.R_slice R2; subst e6; obtain ⟨A7, c7, e7⟩ := Kd.R_slice R3; subst e7; have C1 := Aside0.mk (Kd.R_reads' R1).2.2; have C2 := Aside0.mk (Kd.R_reads' R2).2.2; have C3 := Aside0.mk (Kd.R_reads' R3).2.2; have S02 := Aside0.mk (B0.out.trans (hb.mono B0.out.size)).size; have B2 := Aside0.mk (Below.refl w2.heap.size w2); clear R0 R1 R2 R3; replace B0 := Aside0.mk (B0.out.trans (hb.mono B0.out.size)); replace K_b2 := Aside0.mk ((hb.block _ (lt_blk K_b2.out)).trans K_b2.out); replace K_b3 := Aside0.mk ((hb.block _ (lt_blk K_b3.out)).trans K_b3.out); clear hb)
      | ((with_reducible refine gate_dst (N := 6) rfl ?_); refine box_event ?hg (N := 6) ?hd (cs := #[.slice none 0 0, .slice none 0 0, .slice none 0 0, .slice none 0 0, .int .i64 0, .int .i64 0]) (t := 39) ?hr ?_; (case hd => rfl); (case hg => rfl); (case hr => first | (go_simp; done) | (go_simp; rfl)); intro b6 hg w3 hbox hb; have N_b2_b6 := Aside0.mk (show b2 ≠ b6 by rw [hg]; exact Nat.ne_of_lt (lt_blk K_b2.out)); have N_b3_b6 := Aside0.mk (show b3 ≠ b6 by rw [hg]; exact Nat.ne_of_lt (lt_blk K_b3.out)); have G_b6 := Aside0.mk (show w2.heap.size ≤ b6 by rw [hg]; exact B2.out.size); replace B0 := Aside0.mk (B0.out.trans (hb.mono B0.out.size)); replace B2 := Aside0.mk (B2.out.trans (hb.mono B2.out.size)); replace K_b2 := Aside0.mk ((hb.block _ (lt_blk K_b2.out)).trans K_b2.out); replace K_b3 := Aside0.mk ((hb.block _ (lt_blk K_b3.out)).trans K_b3.out); have K_b6 := Aside0.mk hbox; clear hb hbox hg)
      | ((with_reducible refine gate_ (.store 39 (.tmp 6) (.tmp 11)) rfl ?_); refine wpList_put (g := b6) (off := 0) (cur := #[.slice none 0 0, .slice none 0 0, .slice none 0 0, .slice none 0 0, .int .i64 0, .int .i64 0]) (new := #[.slice A4 r1.length c4, .slice A5 r2.length c5, .slice A6 r3.length c6, .slice A7 r4.length c7, .int .i64 r5, .int .i64 r6]) (seg := [.slice A4 r1.length c4, .slice A5 r2.length c5, .slice A6 r3.length c6, .slice A7 r4.length c7, .int .i64 r5, .int .i64 r6]) (u := .agg #[.slice A4 r1.length c4, .slice A5 r2.length c5, .slice A6 r3.length c6, .slice A7 r4.length c7, .int .i64 r5, .int .i64 r6]) rfl rfl rfl rfl rfl rfl (by kernel_rfl) rfl rfl (Nat.le_of_ble_eq_true rfl) K_b6.out ?_; intro w4 hk hp; replace B0 := Aside0.mk (Put.below hp B0.out (Nat.le_trans (by exact S02.out) G_b6.out)); replace B2 := Aside0.mk (Put.below hp B2.out (Nat.le_trans (by exact Nat.le_refl _) G_b6.out)); replace K_b2 := Aside0.mk ((hp.far _ N_b2_b6.out).trans K_b2.out); replace K_b3 := Aside0.mk ((hp.far _ N_b3_b6.out).trans K_b3.out); replace K_b6 := Aside0.mk hk; clear hk hp; obtain ⟨y_b3_0, y_b3_1, y_b3_2, y_b3_3, y_b3_4, y_b3_5, y_b3_6, y_b3_7, y_b3_8, y_b3_9, y_b3_10, y_b3_11, y_b3_12, y_b3_13, y_b3_14, y_b3_15⟩ := cz16 K_b3.out)
      | ((with_reducible refine gate_callee (f := 10) rfl ?_); refine goesL_ (some 14) rfl rfl Try.func10 (by kernel_rfl) rfl #[.agg #[.int .i64 f0, .int .i64 f1, .int .i64 f2, .int .i64 f3, .slice Af4 lf4.length cf4, .slice Af5 lf5.length cf5, .slice Af6 lf6.length cf6, .int .i64 f7]] rfl mq ?_; (with_reducible refine (made06_calls f0 f1 f2 f3 f7 Af4 Af5 Af6 cf4 cf5 cf6 lf4 lf5 lf6 _ (Kd.C_below Yf4.out B0.out) (Kd.C_below Yf5.out B0.out) (Kd.C_below Yf6.out B0.out)).mono ?_); rintro e w5 ⟨⟨aL, Ea0, ma0, da0, aS, aR, Ea1, ma1, da1, Ea2, ma2, da2, Ea3, ma3, da3, aG, rfl⟩, hb⟩; refine ⟨_, rfl, ?_⟩; clear y_b3_0 y_b3_1 y_b3_2 y_b3_3 y_b3_4 y_b3_5 y_b3_6 y_b3_7 y_b3_8 y_b3_9 y_b3_10 y_b3_11 y_b3_12 y_b3_13 y_b3_14 y_b3_15; replace B0 := Aside0.mk (B0.out.trans (hb.mono B0.out.size)); replace B2 := Aside0.mk (B2.out.trans (hb.mono B2.out.size)); replace K_b2 := Aside0.mk ((hb.block _ (lt_blk K_b2.out)).trans K_b2.out); replace K_b3 := Aside0.mk ((hb.block _ (lt_blk K_b3.out)).trans K_b3.out); replace K_b6 := Aside0.mk ((hb.block _ (lt_blk K_b6.out)).trans K_b6.out); clear hb)
      | ((with_reducible refine gate_dst (N := 7) rfl ?_); refine box_event ?hg (N := 7) ?hd (cs := #[.string ⟨#[]⟩, .slice none 0 0, .string ⟨#[]⟩, .string ⟨#[]⟩, .slice none 0 0, .slice none 0 0, .slice none 0 0, .string ⟨#[]⟩]) (t := 44) ?hr ?_; (case hd => rfl); (case hg => rfl); (case hr => first | (go_simp; done) | (go_simp; rfl)); intro b7 hg w6 hbox hb; have N_b2_b7 := Aside0.mk (show b2 ≠ b7 by rw [hg]; exact Nat.ne_of_lt (lt_blk K_b2.out)); have N_b3_b7 := Aside0.mk (show b3 ≠ b7 by rw [hg]; exact Nat.ne_of_lt (lt_blk K_b3.out)); have N_b6_b7 := Aside0.mk (show b6 ≠ b7 by rw [hg]; exact Nat.ne_of_lt (lt_blk K_b6.out)); have G_b7 := Aside0.mk (show w2.heap.size ≤ b7 by rw [hg]; exact B2.out.size); replace B0 := Aside0.mk (B0.out.trans (hb.mono B0.out.size)); replace B2 := Aside0.mk (B2.out.trans (hb.mono B2.out.size)); replace K_b2 := Aside0.mk ((hb.block _ (lt_blk K_b2.out)).trans K_b2.out); replace K_b3 := Aside0.mk ((hb.block _ (lt_blk K_b3.out)).trans K_b3.out); replace K_b6 := Aside0.mk ((hb.block _ (lt_blk K_b6.out)).trans K_b6.out); have K_b7 := Aside0.mk hbox; clear hb hbox hg)
      | ((with_reducible refine gate_ (.store 44 (.tmp 7) (.tmp 14)) rfl ?_); refine wpList_put (g := b7) (off := 0) (cur := #[.string ⟨#[]⟩, .slice none 0 0, .string ⟨#[]⟩, .string ⟨#[]⟩, .slice none 0 0, .slice none 0 0, .slice none 0 0, .string ⟨#[]⟩]) (new := #[.string aL, .slice Ea0 ma0 da0, .string aS, .string aR, .slice Ea1 ma1 da1, .slice Ea2 ma2 da2, .slice Ea3 ma3 da3, .string aG]) (seg := [.string aL, .slice Ea0 ma0 da0, .string aS, .string aR, .slice Ea1 ma1 da1, .slice Ea2 ma2 da2, .slice Ea3 ma3 da3, .string aG]) (u := .agg #[.string aL, .slice Ea0 ma0 da0, .string aS, .string aR, .slice Ea1 ma1 da1, .slice Ea2 ma2 da2, .slice Ea3 ma3 da3, .string aG]) rfl rfl rfl rfl rfl rfl (by kernel_rfl) rfl rfl (Nat.le_of_ble_eq_true rfl) K_b7.out ?_; intro w7 hk hp; replace B0 := Aside0.mk (Put.below hp B0.out (Nat.le_trans (by exact S02.out) G_b7.out)); replace B2 := Aside0.mk (Put.below hp B2.out (Nat.le_trans (by exact Nat.le_refl _) G_b7.out)); replace K_b2 := Aside0.mk ((hp.far _ N_b2_b7.out).trans K_b2.out); replace K_b3 := Aside0.mk ((hp.far _ N_b3_b7.out).trans K_b3.out); replace K_b6 := Aside0.mk ((hp.far _ N_b6_b7.out).trans K_b6.out); replace K_b7 := Aside0.mk hk; clear hk hp; obtain ⟨y_b3_0, y_b3_1, y_b3_2, y_b3_3, y_b3_4, y_b3_5, y_b3_6, y_b3_7, y_b3_8, y_b3_9, y_b3_10, y_b3_11, y_b3_12, y_b3_13, y_b3_14, y_b3_15⟩ := cz16 K_b3.out)
      | ((with_reducible refine gate_callee (f := 10) rfl ?_); refine goesL_ (some 17) rfl rfl Try.func10 (by kernel_rfl) rfl #[.agg #[.int .i64 g0, .int .i64 g1, .int .i64 g2, .int .i64 g3, .slice Ag4 lg4.length cg4, .slice Ag5 lg5.length cg5, .slice Ag6 lg6.length cg6, .int .i64 g7]] rfl mq ?_; (with_reducible refine (made06_calls g0 g1 g2 g3 g7 Ag4 Ag5 Ag6 cg4 cg5 cg6 lg4 lg5 lg6 _ (Kd.C_below Yg4.out B0.out) (Kd.C_below Yg5.out B0.out) (Kd.C_below Yg6.out B0.out)).mono ?_); rintro e w8 ⟨⟨bL, Eb0, mb0, db0, bS, bR, Eb1, mb1, db1, Eb2, mb2, db2, Eb3, mb3, db3, bG, rfl⟩, hb⟩; refine ⟨_, rfl, ?_⟩; clear y_b3_0 y_b3_1 y_b3_2 y_b3_3 y_b3_4 y_b3_5 y_b3_6 y_b3_7 y_b3_8 y_b3_9 y_b3_10 y_b3_11 y_b3_12 y_b3_13 y_b3_14 y_b3_15; replace B0 := Aside0.mk (B0.out.trans (hb.mono B0.out.size)); replace B2 := Aside0.mk (B2.out.trans (hb.mono B2.out.size)); replace K_b2 := Aside0.mk ((hb.block _ (lt_blk K_b2.out)).trans K_b2.out); replace K_b3 := Aside0.mk ((hb.block _ (lt_blk K_b3.out)).trans K_b3.out); replace K_b6 := Aside0.mk ((hb.block _ (lt_blk K_b6.out)).trans K_b6.out); replace K_b7 := Aside0.mk ((hb.block _ (lt_blk K_b7.out)).trans K_b7.out); clear hb)
      | ((with_reducible refine gate_dst (N := 8) rfl ?_); refine box_event ?hg (N := 8) ?hd (cs := #[.string ⟨#[]⟩, .slice none 0 0, .string ⟨#[]⟩, .string ⟨#[]⟩, .slice none 0 0, .slice none 0 0, .slice none 0 0, .string ⟨#[]⟩]) (t := 44) ?hr ?_; (case hd => rfl); (case hg => rfl); (case hr => first | (go_simp; done) | (go_simp; rfl)); intro b8 hg w9 hbox hb; have N_b2_b8 := Aside0.mk (show b2 ≠ b8 by rw [hg]; exact Nat.ne_of_lt (lt_blk K_b2.out)); have N_b3_b8 := Aside0.mk (show b3 ≠ b8 by rw [hg]; exact Nat.ne_of_lt (lt_blk K_b3.out)); have N_b6_b8 := Aside0.mk (show b6 ≠ b8 by rw [hg]; exact Nat.ne_of_lt (lt_blk K_b6.out)); have N_b7_b8 := Aside0.mk (show b7 ≠ b8 by rw [hg]; exact Nat.ne_of_lt (lt_blk K_b7.out)); have G_b8 := Aside0.mk (show w2.heap.size ≤ b8 by rw [hg]; exact B2.out.size); replace B0 := Aside0.mk (B0.out.trans (hb.mono B0.out.size)); replace B2 := Aside0.mk (B2.out.trans (hb.mono B2.out.size)); replace K_b2 := Aside0.mk ((hb.block _ (lt_blk K_b2.out)).trans K_b2.out); replace K_b3 := Aside0.mk ((hb.block _ (lt_blk K_b3.out)).trans K_b3.out); replace K_b6 := Aside0.mk ((hb.block _ (lt_blk K_b6.out)).trans K_b6.out); replace K_b7 := Aside0.mk ((hb.block _ (lt_blk K_b7.out)).trans K_b7.out); have K_b8 := Aside0.mk hbox; clear hb hbox hg)
      | ((with_reducible refine gate_ (.store 44 (.tmp 8) (.tmp 17)) rfl ?_); refine wpList_put (g := b8) (off := 0) (cur := #[.string ⟨#[]⟩, .slice none 0 0, .string ⟨#[]⟩, .string ⟨#[]⟩, .slice none 0 0, .slice none 0 0, .slice none 0 0, .string ⟨#[]⟩]) (new := #[.string bL, .slice Eb0 mb0 db0, .string bS, .string bR, .slice Eb1 mb1 db1, .slice Eb2 mb2 db2, .slice Eb3 mb3 db3, .string bG]) (seg := [.string bL, .slice Eb0 mb0 db0, .string bS, .string bR, .slice Eb1 mb1 db1, .slice Eb2 mb2 db2, .slice Eb3 mb3 db3, .string bG]) (u := .agg #[.string bL, .slice Eb0 mb0 db0, .string bS, .string bR, .slice Eb1 mb1 db1, .slice Eb2 mb2 db2, .slice Eb3 mb3 db3, .string bG]) rfl rfl rfl rfl rfl rfl (by kernel_rfl) rfl rfl (Nat.le_of_ble_eq_true rfl) K_b8.out ?_; intro w10 hk hp; replace B0 := Aside0.mk (Put.below hp B0.out (Nat.le_trans (by exact S02.out) G_b8.out)); replace B2 := Aside0.mk (Put.below hp B2.out (Nat.le_trans (by exact Nat.le_refl _) G_b8.out)); replace K_b2 := Aside0.mk ((hp.far _ N_b2_b8.out).trans K_b2.out); replace K_b3 := Aside0.mk ((hp.far _ N_b3_b8.out).trans K_b3.out); replace K_b6 := Aside0.mk ((hp.far _ N_b6_b8.out).trans K_b6.out); replace K_b7 := Aside0.mk ((hp.far _ N_b7_b8.out).trans K_b7.out); replace K_b8 := Aside0.mk hk; clear hk hp))
  refine start_ (n := 14) (S := fun w' => w'.cell? ⟨b6, 0, none⟩ = some (.slice A4 r1.length c4) ∧ w'.cell? ⟨b6, 1, none⟩ = some (.slice A5 r2.length c5) ∧ w'.cell? ⟨b6, 2, none⟩ = some (.slice A6 r3.length c6) ∧ w'.cell? ⟨b6, 3, none⟩ = some (.slice A7 r4.length c7) ∧ w'.cell? ⟨b6, 4, none⟩ = some (.int .i64 r5) ∧ w'.cell? ⟨b6, 5, none⟩ = some (.int .i64 r6) ∧ w'.cell? ⟨b7, 0, none⟩ = some (.string aL) ∧ w'.cell? ⟨b7, 1, none⟩ = some (.slice Ea0 ma0 da0) ∧ w'.cell? ⟨b7, 2, none⟩ = some (.string aS) ∧ w'.cell? ⟨b7, 3, none⟩ = some (.string aR) ∧ w'.cell? ⟨b7, 4, none⟩ = some (.slice Ea1 ma1 da1) ∧ w'.cell? ⟨b7, 5, none⟩ = some (.slice Ea2 ma2 da2) ∧ w'.cell? ⟨b7, 6, none⟩ = some (.slice Ea3 ma3 da3) ∧ w'.cell? ⟨b7, 7, none⟩ = some (.string aG) ∧ w'.cell? ⟨b8, 0, none⟩ = some (.string bL) ∧ w'.cell? ⟨b8, 1, none⟩ = some (.slice Eb0 mb0 db0) ∧ w'.cell? ⟨b8, 2, none⟩ = some (.string bS) ∧ w'.cell? ⟨b8, 3, none⟩ = some (.string bR) ∧ w'.cell? ⟨b8, 4, none⟩ = some (.slice Eb1 mb1 db1) ∧ w'.cell? ⟨b8, 5, none⟩ = some (.slice Eb2 mb2 db2) ∧ w'.cell? ⟨b8, 6, none⟩ = some (.slice Eb3 mb3 db3) ∧ w'.cell? ⟨b8, 7, none⟩ = some (.string bG)) (ds := []) #[false, false, false, false, false, false, false, false, false, false, false, false, false, false] (by kernel_rfl) rfl rfl ⟨(blk_cell K_b6.out 0).trans rfl, (blk_cell K_b6.out 1).trans rfl, (blk_cell K_b6.out 2).trans rfl, (blk_cell K_b6.out 3).trans rfl, (blk_cell K_b6.out 4).trans rfl, (blk_cell K_b6.out 5).trans rfl, (blk_cell K_b7.out 0).trans rfl, (blk_cell K_b7.out 1).trans rfl, (blk_cell K_b7.out 2).trans rfl, (blk_cell K_b7.out 3).trans rfl, (blk_cell K_b7.out 4).trans rfl, (blk_cell K_b7.out 5).trans rfl, (blk_cell K_b7.out 6).trans rfl, (blk_cell K_b7.out 7).trans rfl, (blk_cell K_b8.out 0).trans rfl, (blk_cell K_b8.out 1).trans rfl, (blk_cell K_b8.out 2).trans rfl, (blk_cell K_b8.out 3).trans rfl, (blk_cell K_b8.out 4).trans rfl, (blk_cell K_b8.out 5).trans rfl, (blk_cell K_b8.out 6).trans rfl, (blk_cell K_b8.out 7).trans rfl⟩ (fun hHeld => ?_)
  have hb : Below w10.heap.size w10 w10.drew := below_drew1 (Below.refl _ _)
  generalize w10.drew = w11 at hb hHeld ⊢
  replace B0 := Aside0.mk (B0.out.trans (hb.mono B0.out.size))
  replace B2 := Aside0.mk (B2.out.trans (hb.mono B2.out.size))
  replace K_b2 := Aside0.mk ((hb.block _ (lt_blk K_b2.out)).trans K_b2.out)
  replace K_b3 := Aside0.mk ((hb.block _ (lt_blk K_b3.out)).trans K_b3.out)
  replace K_b6 := Aside0.mk ((hb.block _ (lt_blk K_b6.out)).trans K_b6.out)
  replace K_b7 := Aside0.mk ((hb.block _ (lt_blk K_b7.out)).trans K_b7.out)
  replace K_b8 := Aside0.mk ((hb.block _ (lt_blk K_b8.out)).trans K_b8.out)
  clear hb
  refine pure_ (i := 0) (N := some 18) (v := ?_) (a' := ?_) #[true, false, false, false, false, false, false, false, false, false, false, false, false, false] rfl rfl (by kernel_rfl) (fun _ _ _ h => h) (Or.inl ⟨by rfl, ?_⟩) ?_ ?_
  rotate_left
  · intro w'
    go_simp
    with_reducible rfl
  rotate_left
  · simp only [Act.put, List.setIfInBounds_toArray, List.set_cons_zero, List.set_cons_succ, i64_w, i32_w]
    rfl
  refine pure_ (i := 1) (N := some 19) (v := ?_) (a' := ?_) #[true, true, false, false, false, false, false, false, false, false, false, false, false, false] rfl rfl (by kernel_rfl) (fun _ _ _ h => h) (Or.inl ⟨by rfl, ?_⟩) ?_ ?_
  rotate_left
  · intro w'
    go_simp
    with_reducible rfl
  rotate_left
  · simp only [Act.put, List.setIfInBounds_toArray, List.set_cons_zero, List.set_cons_succ, i64_w, i32_w]
    rfl
  refine take_ (i := 3) (N := some 21) (v := ?_) (a' := ?_) #[true, true, false, true, false, false, false, false, false, false, false, false, false, false] rfl rfl (by kernel_rfl) (fun _ _ _ h => h) (Or.inl ⟨by rfl, ?_⟩) hHeld ?_ ?_
  rotate_left
  · rintro w' ⟨s0, s1, s2, s3, s4, s5, s6, s7, s8, s9, s10, s11, s12, s13, s14, s15, s16, s17, s18, s19, s20, s21⟩
    go_simp
    with_reducible rfl
  rotate_left
  · simp only [Act.put, List.setIfInBounds_toArray, List.set_cons_zero, List.set_cons_succ, i64_w, i32_w]
    rfl
  refine take_ (i := 4) (N := some 22) (v := ?_) (a' := ?_) #[true, true, false, true, true, false, false, false, false, false, false, false, false, false] rfl rfl (by kernel_rfl) (fun _ _ _ h => h) (Or.inl ⟨by rfl, ?_⟩) hHeld ?_ ?_
  rotate_left
  · rintro w' ⟨s0, s1, s2, s3, s4, s5, s6, s7, s8, s9, s10, s11, s12, s13, s14, s15, s16, s17, s18, s19, s20, s21⟩
    go_simp
    with_reducible rfl
  rotate_left
  · simp only [Act.put, List.setIfInBounds_toArray, List.set_cons_zero, List.set_cons_succ, i64_w, i32_w]
    rfl
  refine one_ (i := 2) (N := some 20) #[true, true, true, true, true, false, false, false, false, false, false, false, false, false] rfl rfl (by kernel_rfl) (by decide) (fun K hK => ?_)
  refine goes_ Try.func12 (by kernel_rfl) rfl #[] (by rfl) rfl rfl (by (try simp only [List.map_toArray, List.map_cons, List.map_nil]); first | done | rfl) ?_
  with_reducible refine (image_calls _).mono ?_
  rintro e w12 ⟨⟨B1, B2_, B3, B4, rfl, c2_, c3_, c4_⟩, hb⟩
  refine ⟨_, rfl, ?_⟩
  replace B0 := Aside0.mk (B0.out.trans (hb.mono B0.out.size))
  replace B2 := Aside0.mk (B2.out.trans (hb.mono B2.out.size))
  replace K_b2 := Aside0.mk ((hb.block _ (lt_blk K_b2.out)).trans K_b2.out)
  replace K_b3 := Aside0.mk ((hb.block _ (lt_blk K_b3.out)).trans K_b3.out)
  replace K_b6 := Aside0.mk ((hb.block _ (lt_blk K_b6.out)).trans K_b6.out)
  replace K_b7 := Aside0.mk ((hb.block _ (lt_blk K_b7.out)).trans K_b7.out)
  replace K_b8 := Aside0.mk ((hb.block _ (lt_blk K_b8.out)).trans K_b8.out)
  rw [imgV_eq]
  have Z1 := Aside0.mk c2_
  have Z2 := Aside0.mk c3_
  have Z3 := Aside0.mk c4_
  clear c2_ c3_ c4_
  clear hb
  refine hK.out _ _ ⟨(blk_cell K_b6.out 0).trans rfl, (blk_cell K_b6.out 1).trans rfl, (blk_cell K_b6.out 2).trans rfl, (blk_cell K_b6.out 3).trans rfl, (blk_cell K_b6.out 4).trans rfl, (blk_cell K_b6.out 5).trans rfl, (blk_cell K_b7.out 0).trans rfl, (blk_cell K_b7.out 1).trans rfl, (blk_cell K_b7.out 2).trans rfl, (blk_cell K_b7.out 3).trans rfl, (blk_cell K_b7.out 4).trans rfl, (blk_cell K_b7.out 5).trans rfl, (blk_cell K_b7.out 6).trans rfl, (blk_cell K_b7.out 7).trans rfl, (blk_cell K_b8.out 0).trans rfl, (blk_cell K_b8.out 1).trans rfl, (blk_cell K_b8.out 2).trans rfl, (blk_cell K_b8.out 3).trans rfl, (blk_cell K_b8.out 4).trans rfl, (blk_cell K_b8.out 5).trans rfl, (blk_cell K_b8.out 6).trans rfl, (blk_cell K_b8.out 7).trans rfl⟩ (fun hHeld => ?_)
  clear hK K
  refine norm_ (a' := ?_) ?_ ?_
  rotate_left
  · show Act.put _ (some 20) _ = _
    simp only [Act.put, List.setIfInBounds_toArray, List.set_cons_zero, List.set_cons_succ, i64_w, i32_w]
    rfl
  refine one_ (i := 5) (N := some 23) #[true, true, true, true, true, true, false, false, false, false, false, false, false, false] rfl rfl (by kernel_rfl) (by decide) (fun K hK => ?_)
  refine goes_ Try.func15 (by kernel_rfl) rfl #[.agg #[.slice (some ⟨B1, 0, none⟩) 54 54, .slice (some ⟨B2_, 0, none⟩) dRows.length 32, .slice (some ⟨B3, 0, none⟩) dRules.length 15, .slice (some ⟨B4, 0, none⟩) dMembers.length 7, .int .i64 40, .int .i64 5], .agg #[.string aL, .slice Ea0 ma0 da0, .string aS, .string aR, .slice Ea1 ma1 da1, .slice Ea2 ma2 da2, .slice Ea3 ma3 da3, .string aG], .agg #[.string bL, .slice Eb0 mb0 db0, .string bS, .string bR, .slice Eb1 mb1 db1, .slice Eb2 mb2 db2, .slice Eb3 mb3 db3, .string bG]] (by rfl) rfl rfl (by (try simp only [List.map_toArray, List.map_cons, List.map_nil]); first | done | rfl) ?_
  with_reducible refine (self_calls (some ⟨B1, 0, none⟩) 54 54 (some ⟨B2_, 0, none⟩) 32 dRows (some ⟨B3, 0, none⟩) 15 dRules (some ⟨B4, 0, none⟩) 7 dMembers 40 5 aL aS aR aG Ea0 ma0 da0 Ea1 ma1 da1 Ea2 ma2 da2 Ea3 ma3 da3 bL bS bR bG Eb0 mb0 db0 Eb1 mb1 db1 Eb2 mb2 db2 Eb3 mb3 db3 dRules_ok _ Z1.out Z2.out Z3.out).mono ?_
  rintro e w13 ⟨rfl, hb⟩
  refine ⟨_, rfl, ?_⟩
  replace B0 := Aside0.mk (B0.out.trans (hb.mono B0.out.size))
  replace B2 := Aside0.mk (B2.out.trans (hb.mono B2.out.size))
  replace K_b2 := Aside0.mk ((hb.block _ (lt_blk K_b2.out)).trans K_b2.out)
  replace K_b3 := Aside0.mk ((hb.block _ (lt_blk K_b3.out)).trans K_b3.out)
  replace K_b6 := Aside0.mk ((hb.block _ (lt_blk K_b6.out)).trans K_b6.out)
  replace K_b7 := Aside0.mk ((hb.block _ (lt_blk K_b7.out)).trans K_b7.out)
  replace K_b8 := Aside0.mk ((hb.block _ (lt_blk K_b8.out)).trans K_b8.out)
  clear Z1 Z2 Z3
  clear hb
  refine hK.out _ _ ⟨(blk_cell K_b6.out 0).trans rfl, (blk_cell K_b6.out 1).trans rfl, (blk_cell K_b6.out 2).trans rfl, (blk_cell K_b6.out 3).trans rfl, (blk_cell K_b6.out 4).trans rfl, (blk_cell K_b6.out 5).trans rfl, (blk_cell K_b7.out 0).trans rfl, (blk_cell K_b7.out 1).trans rfl, (blk_cell K_b7.out 2).trans rfl, (blk_cell K_b7.out 3).trans rfl, (blk_cell K_b7.out 4).trans rfl, (blk_cell K_b7.out 5).trans rfl, (blk_cell K_b7.out 6).trans rfl, (blk_cell K_b7.out 7).trans rfl, (blk_cell K_b8.out 0).trans rfl, (blk_cell K_b8.out 1).trans rfl, (blk_cell K_b8.out 2).trans rfl, (blk_cell K_b8.out 3).trans rfl, (blk_cell K_b8.out 4).trans rfl, (blk_cell K_b8.out 5).trans rfl, (blk_cell K_b8.out 6).trans rfl, (blk_cell K_b8.out 7).trans rfl⟩ (fun hHeld => ?_)
  clear hK K
  refine norm_ (a' := ?_) ?_ ?_
  rotate_left
  · show Act.put _ (some 23) _ = _
    simp only [Act.put, List.setIfInBounds_toArray, List.set_cons_zero, List.set_cons_succ, i64_w, i32_w]
    rfl
  refine pure_ (i := 6) (N := some 24) (v := ?_) (a' := ?_) #[true, true, true, true, true, true, true, false, false, false, false, false, false, false] rfl rfl (by kernel_rfl) (fun _ _ _ h => h) (Or.inl ⟨by rfl, ?_⟩) ?_ ?_
  rotate_left
  · intro w'
    go_simp
    with_reducible rfl
  rotate_left
  · simp only [Act.put, List.setIfInBounds_toArray, List.set_cons_zero, List.set_cons_succ, i64_w, i32_w]
    rfl
  refine pure_ (i := 7) (N := some 25) (v := ?_) (a' := ?_) #[true, true, true, true, true, true, true, true, false, false, false, false, false, false] rfl rfl (by kernel_rfl) (fun _ _ _ h => h) (Or.inl ⟨by rfl, ?_⟩) ?_ ?_
  rotate_left
  · intro w'
    go_simp
    with_reducible rfl
  rotate_left
  · simp only [Act.put, List.setIfInBounds_toArray, List.set_cons_zero, List.set_cons_succ, i64_w, i32_w]
    rfl
  refine take_ (i := 8) (N := some 26) (v := ?_) (a' := ?_) #[true, true, true, true, true, true, true, true, true, false, false, false, false, false] rfl rfl (by kernel_rfl) (fun _ _ _ h => h) (Or.inl ⟨by rfl, ?_⟩) hHeld ?_ ?_
  rotate_left
  · rintro w' ⟨s0, s1, s2, s3, s4, s5, s6, s7, s8, s9, s10, s11, s12, s13, s14, s15, s16, s17, s18, s19, s20, s21⟩
    go_simp
    with_reducible rfl
  rotate_left
  · simp only [Act.put, List.setIfInBounds_toArray, List.set_cons_zero, List.set_cons_succ, i64_w, i32_w]
    rfl
  refine take_ (i := 9) (N := some 27) (v := ?_) (a' := ?_) #[true, true, true, true, true, true, true, true, true, true, false, false, false, false] rfl rfl (by kernel_rfl) (fun _ _ _ h => h) (Or.inl ⟨by rfl, ?_⟩) hHeld ?_ ?_
  rotate_left
  · rintro w' ⟨s0, s1, s2, s3, s4, s5, s6, s7, s8, s9, s10, s11, s12, s13, s14, s15, s16, s17, s18, s19, s20, s21⟩
    go_simp
    with_reducible rfl
  rotate_left
  · simp only [Act.put, List.setIfInBounds_toArray, List.set_cons_zero, List.set_cons_succ, i64_w, i32_w]
    rfl
  refine take_ (i := 10) (N := some 28) (v := ?_) (a' := ?_) #[true, true, true, true, true, true, true, true, true, true, true, false, false, false] rfl rfl (by kernel_rfl) (fun _ _ _ h => h) (Or.inl ⟨by rfl, ?_⟩) hHeld ?_ ?_
  rotate_left
  · rintro w' ⟨s0, s1, s2, s3, s4, s5, s6, s7, s8, s9, s10, s11, s12, s13, s14, s15, s16, s17, s18, s19, s20, s21⟩
    go_simp
    with_reducible rfl
  rotate_left
  · simp only [Act.put, List.setIfInBounds_toArray, List.set_cons_zero, List.set_cons_succ, i64_w, i32_w]
    rfl
  refine one_ (i := 11) (N := some 29) #[true, true, true, true, true, true, true, true, true, true, true, true, false, false] rfl rfl (by kernel_rfl) (by decide) (fun K hK => ?_)
  refine goes_ Try.func15 (by kernel_rfl) rfl #[.agg #[.slice A4 r1.length c4, .slice A5 r2.length c5, .slice A6 r3.length c6, .slice A7 r4.length c7, .int .i64 r5, .int .i64 r6], .agg #[.string aL, .slice Ea0 ma0 da0, .string aS, .string aR, .slice Ea1 ma1 da1, .slice Ea2 ma2 da2, .slice Ea3 ma3 da3, .string aG], .agg #[.string bL, .slice Eb0 mb0 db0, .string bS, .string bR, .slice Eb1 mb1 db1, .slice Eb2 mb2 db2, .slice Eb3 mb3 db3, .string bG]] (by rfl) rfl rfl (by (try simp only [List.map_toArray, List.map_cons, List.map_nil]); first | done | rfl) ?_
  with_reducible refine (self_calls A4 r1.length c4 A5 c5 r2 A6 c6 r3 A7 c7 r4 r5 r6 aL aS aR aG Ea0 ma0 da0 Ea1 ma1 da1 Ea2 ma2 da2 Ea3 ma3 da3 bL bS bR bG Eb0 mb0 db0 Eb1 mb1 db1 Eb2 mb2 db2 Eb3 mb3 db3 HOK.out _ (Kd.C_below C1.out B2.out) (Kd.C_below C2.out B2.out) (Kd.C_below C3.out B2.out)).mono ?_
  rintro e w14 ⟨rfl, hb⟩
  refine ⟨_, rfl, ?_⟩
  replace B0 := Aside0.mk (B0.out.trans (hb.mono B0.out.size))
  replace B2 := Aside0.mk (B2.out.trans (hb.mono B2.out.size))
  replace K_b2 := Aside0.mk ((hb.block _ (lt_blk K_b2.out)).trans K_b2.out)
  replace K_b3 := Aside0.mk ((hb.block _ (lt_blk K_b3.out)).trans K_b3.out)
  replace K_b6 := Aside0.mk ((hb.block _ (lt_blk K_b6.out)).trans K_b6.out)
  replace K_b7 := Aside0.mk ((hb.block _ (lt_blk K_b7.out)).trans K_b7.out)
  replace K_b8 := Aside0.mk ((hb.block _ (lt_blk K_b8.out)).trans K_b8.out)
  clear hb
  refine hK.out _ _ ⟨(blk_cell K_b6.out 0).trans rfl, (blk_cell K_b6.out 1).trans rfl, (blk_cell K_b6.out 2).trans rfl, (blk_cell K_b6.out 3).trans rfl, (blk_cell K_b6.out 4).trans rfl, (blk_cell K_b6.out 5).trans rfl, (blk_cell K_b7.out 0).trans rfl, (blk_cell K_b7.out 1).trans rfl, (blk_cell K_b7.out 2).trans rfl, (blk_cell K_b7.out 3).trans rfl, (blk_cell K_b7.out 4).trans rfl, (blk_cell K_b7.out 5).trans rfl, (blk_cell K_b7.out 6).trans rfl, (blk_cell K_b7.out 7).trans rfl, (blk_cell K_b8.out 0).trans rfl, (blk_cell K_b8.out 1).trans rfl, (blk_cell K_b8.out 2).trans rfl, (blk_cell K_b8.out 3).trans rfl, (blk_cell K_b8.out 4).trans rfl, (blk_cell K_b8.out 5).trans rfl, (blk_cell K_b8.out 6).trans rfl, (blk_cell K_b8.out 7).trans rfl⟩ (fun hHeld => ?_)
  clear hK K
  refine norm_ (a' := ?_) ?_ ?_
  rotate_left
  · show Act.put _ (some 29) _ = _
    simp only [Act.put, List.setIfInBounds_toArray, List.set_cons_zero, List.set_cons_succ, i64_w, i32_w]
    rfl
  refine pure_ (i := 12) (N := some 30) (v := ?_) (a' := ?_) #[true, true, true, true, true, true, true, true, true, true, true, true, true, false] rfl rfl (by kernel_rfl) (fun _ _ _ h => h) (Or.inl ⟨by rfl, ?_⟩) ?_ ?_
  rotate_left
  · intro w'
    go_simp
    with_reducible rfl
  rotate_left
  · simp only [Act.put, List.setIfInBounds_toArray, List.set_cons_zero, List.set_cons_succ, i64_w, i32_w]
    rfl
  refine pure_ (i := 13) (N := some 4) (v := ?_) (a' := ?_) #[true, true, true, true, true, true, true, true, true, true, true, true, true, true] rfl rfl (by kernel_rfl) (fun _ _ _ h => h) (Or.inl ⟨by rfl, ?_⟩) ?_ ?_
  rotate_left
  · intro w'
    go_simp
    with_reducible rfl
  rotate_left
  · simp only [Act.put, List.setIfInBounds_toArray, List.set_cons_zero, List.set_cons_succ, i64_w, i32_w]
    rfl
  refine done_ (by kernel_rfl) ?_
  go_wp2
  go_ret
  exact ⟨by simp, B0.out⟩
end Go.Proofs.Ytdjbanhoejegjaa.LikW
