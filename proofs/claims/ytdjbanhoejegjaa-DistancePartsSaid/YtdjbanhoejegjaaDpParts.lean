/- The law's parts, and the law DistanceParts, walked. -/
import Derived.Test.YtdjbanhoejegjaaDpSumP
import Derived.Test.YtdjbanhoejegjaaDpP5
import Derived.Test.YtdjbanhoejegjaaDpP11
import Derived.Test.YtdjbanhoejegjaaDpAwake
import Derived.Test.YtdjbanhoejegjaaDpRef18
import Derived.Test.YtdjbanhoejegjaaDpTags
import Derived.ChangeKeysEq
namespace Go.Proofs.Ytdjbanhoejegjaa.LikW
open Go.RowKit Go.Proofs.YtdjbanhoejegjaaW.PrintWords Go.Proofs.YtdjbanhoejegjaaW.PrintLast Go.Proofs.Ytdjbanhoejegjaa.P
set_option linter.unusedVariables false
set_option linter.unusedSimpArgs false

theorem eq30 (x0 x1 x2 y0 y1 y2 : ByteArray) (W : World) : (Op.equalIn 10000 30 (.agg #[.string x0, .string x1, .string x2]) (.agg #[.string y0, .string y1, .string y2])).run Try.prog W = .ok ((x0.toList == y0.toList) && ((x1.toList == y1.toList) && (x2.toList == y2.toList))) W := by
  obtain ⟨i, hi⟩ : ∃ i, Try.prog.info? 9 = some i := Option.isSome_iff_exists.1 (by kernel_rfl)
  have h9 : Try.prog.cellsOf 9 = 1 := by kernel_rfl
  rw [show (10000 : Nat) = 9999 + 1 from rfl, run_equalIn_array (P := Try.prog) W 9999 _ _ Try.underlying30 hi, h9]
  have p0 : ∀ (a b c : ByteArray) (W : World), (part 9 #[.string a, .string b, .string c] 0).run Try.prog W = .ok (.string a) W := by intros; kernel_rfl
  have p1 : ∀ (a b c : ByteArray) (W : World), (part 9 #[.string a, .string b, .string c] 1).run Try.prog W = .ok (.string b) W := by intros; kernel_rfl
  have p2 : ∀ (a b c : ByteArray) (W : World), (part 9 #[.string a, .string b, .string c] 2).run Try.prog W = .ok (.string c) W := by intros; kernel_rfl
  have q : ∀ (a b : ByteArray) (W : World), (Op.equalIn 9999 9 (.string a) (.string b)).run Try.prog W = .ok (a.toList == b.toList) W := fun a b W => run_equalIn_string W 9998 9 a b Try.underlying9
  rw [show List.range 3 = [0, 1, 2] from rfl]
  simp only [Op.eqItems, Sem.run_bind, p0, p1, p2, Result.andThen_ok, q, Nat.zero_mul, Nat.one_mul, Nat.mul_one]
  cases h0 : (x0.toList == y0.toList) <;> cases h1 : (x1.toList == y1.toList) <;> cases h2 : (x2.toList == y2.toList) <;> simp [p0, p1, p2, q, h0, h1, h2]
theorem dist_n (A0 : Option Addr) (n0 c0 : Nat) (A1 : Option Addr) (c1 : Nat) (l : List S66) (A2 : Option Addr) (c2 : Nat) (rs : List S53) (A3 : Option Addr) (c3 : Nat) (ms : List S69) (p q : Int) (aL aS aR aG : ByteArray) (Ea0 : Option Addr) (ma0 da0 : Nat) (Ea1 : Option Addr) (ma1 da1 : Nat) (Ea2 : Option Addr) (ma2 da2 : Nat) (Ea3 : Option Addr) (ma3 da3 : Nat) (bL bS bR bG : ByteArray) (Eb0 : Option Addr) (mb0 db0 : Nat) (Eb1 : Option Addr) (mb1 db1 : Nat) (Eb2 : Option Addr) (mb2 db2 : Nat) (Eb3 : Option Addr) (mb3 db3 : Nat) (N : Int) (hN : sumP rs ms (plP l (aL, aS, aR)) (plP l (bL, bS, bR)) 3 = N) (w : World) (hL : Kd.C k66 w A1 l.length l) (hR : Kd.C k53 w A2 rs.length rs) (hM : Kd.C k69 w A3 ms.length ms) :
    Calls Try.prog 16 #[.agg #[.slice A0 n0 c0, .slice A1 l.length c1, .slice A2 rs.length c2, .slice A3 ms.length c3, .int .i64 p, .int .i64 q], .agg #[.string aL, .slice Ea0 ma0 da0, .string aS, .string aR, .slice Ea1 ma1 da1, .slice Ea2 ma2 da2, .slice Ea3 ma3 da3, .string aG], .agg #[.string bL, .slice Eb0 mb0 db0, .string bS, .string bR, .slice Eb1 mb1 db1, .slice Eb2 mb2 db2, .slice Eb3 mb3 db3, .string bG]] w fun e w' => e = .returned (.int .i64 N) ∧ Below w.heap.size w w' :=
  hN ▸ dist_calls A0 n0 c0 A1 c1 l A2 c2 rs A3 c3 ms p q aL aS aR aG Ea0 ma0 da0 Ea1 ma1 da1 Ea2 ma2 da2 Ea3 ma3 da3 bL bS bR bG Eb0 mb0 db0 Eb1 mb1 db1 Eb2 mb2 db2 Eb3 mb3 db3 w hL hR hM
theorem places22_n (A0 : Option Addr) (n0 c0 : Nat) (A1 : Option Addr) (c1 : Nat) (l : List S66) (A2 : Option Addr) (n2 c2 : Nat) (A3 : Option Addr) (n3 c3 : Nat) (p q : Int) (aL aS aR aG : ByteArray) (Ea0 : Option Addr) (ma0 da0 : Nat) (Ea1 : Option Addr) (ma1 da1 : Nat) (Ea2 : Option Addr) (ma2 da2 : Nat) (Ea3 : Option Addr) (ma3 da3 : Nat) (k1 k2 k3_ : ByteArray) (h : plP l (aL, aS, aR) = (k1, k2, k3_)) (w : World) (hC : Kd.C k66 w A1 l.length l) : Calls Try.prog 41 #[.agg #[.slice A0 n0 c0, .slice A1 l.length c1, .slice A2 n2 c2, .slice A3 n3 c3, .int .i64 p, .int .i64 q], .agg #[.string aL, .slice Ea0 ma0 da0, .string aS, .string aR, .slice Ea1 ma1 da1, .slice Ea2 ma2 da2, .slice Ea3 ma3 da3, .string aG]] w fun e w' => e = .returned (.agg #[.string k1, .string k2, .string k3_]) ∧ Below w.heap.size w w' := by
  have := places22_calls A0 n0 c0 A1 c1 l A2 n2 c2 A3 n3 c3 p q aL aS aR aG Ea0 ma0 da0 Ea1 ma1 da1 Ea2 ma2 da2 Ea3 ma3 da3 w hC
  rw [h] at this
  exact this
set_option maxRecDepth 100000 in
set_option maxHeartbeats 8000000 in
theorem parts_calls (A0 : Option Addr) (n0 c0 : Nat) (A1 : Option Addr) (c1 : Nat) (l : List S66) (A2 : Option Addr) (c2 : Nat) (rs : List S53) (A3 : Option Addr) (c3 : Nat) (ms : List S69) (p q : Int) (aL aS aR aG : ByteArray) (Ea0 : Option Addr) (ma0 da0 : Nat) (Ea1 : Option Addr) (ma1 da1 : Nat) (Ea2 : Option Addr) (ma2 da2 : Nat) (Ea3 : Option Addr) (ma3 da3 : Nat) (bL bS bR bG : ByteArray) (Eb0 : Option Addr) (mb0 db0 : Nat) (Eb1 : Option Addr) (mb1 db1 : Nat) (Eb2 : Option Addr) (mb2 db2 : Nat) (Eb3 : Option Addr) (mb3 db3 : Nat) (w : World) (hL : Kd.C k66 w A1 l.length l) (hR : Kd.C k53 w A2 rs.length rs) (hM : Kd.C k69 w A3 ms.length ms) :
    Calls Try.prog 19 #[.agg #[.slice A0 n0 c0, .slice A1 l.length c1, .slice A2 rs.length c2, .slice A3 ms.length c3, .int .i64 p, .int .i64 q], .agg #[.string aL, .slice Ea0 ma0 da0, .string aS, .string aR, .slice Ea1 ma1 da1, .slice Ea2 ma2 da2, .slice Ea3 ma3 da3, .string aG], .agg #[.string bL, .slice Eb0 mb0 db0, .string bS, .string bR, .slice Eb1 mb1 db1, .slice Eb2 mb2 db2, .slice Eb3 mb3 db3, .string bG]] w fun e w' => e = .returned (.bool true) ∧ Below w.heap.size w w' := by
  have hu39 := Try.underlying39
  have hu44 := Try.underlying44
  have hu30 := Try.underlying30
  obtain ⟨⟨x0, x1, x2⟩, hX⟩ : ∃ k, plP l (aL, aS, aR) = k := ⟨_, rfl⟩
  obtain ⟨⟨y0, y1, y2⟩, hY⟩ : ∃ k, plP l (bL, bS, bR) = k := ⟨_, rfl⟩
  obtain ⟨N, hN⟩ : ∃ N, sumP rs ms (x0, x1, x2) (y0, y1, y2) 3 = N := ⟨_, rfl⟩
  have hq30 := eq30 x0 x1 x2 y0 y1 y2
  have HX := Aside0.mk hX
  have HY := Aside0.mk hY
  have HS := Aside0.mk hN
  have HN := Aside0.mk (show sumP rs ms (plP l (aL, aS, aR)) (plP l (bL, bS, bR)) 3 = N by rw [hX, hY]; exact hN)
  have X1 := Aside0.mk hL
  have X2 := Aside0.mk hR
  have X3 := Aside0.mk hM
  have B0 := Aside0.mk (Below.refl w.heap.size w)
  clear hL hR hM hN hX hY
  go_enter Try.func19, Try.ntmps19
  go_wp2_with (first
      | ((with_reducible refine gate_dst (N := 3) rfl ?_); refine box_event ?hg (N := 3) ?hd (cs := #[.slice A0 n0 c0, .slice A1 l.length c1, .slice A2 rs.length c2, .slice A3 ms.length c3, .int .i64 p, .int .i64 q]) (t := 39) ?hr ?_; (case hd => rfl); (case hg => rfl); (case hr => first | (go_simp; done) | (go_simp; rfl)); intro b3 hg v1 hbox hb; have G_b3 := Aside0.mk (show w.heap.size ≤ b3 by rw [hg]; exact B0.out.size); replace B0 := Aside0.mk (B0.out.trans (hb.mono B0.out.size)); have K_b3 := Aside0.mk hbox; clear hb hbox hg)
      | ((with_reducible refine gate_dst (N := 4) rfl ?_); refine box_event ?hg (N := 4) ?hd (cs := #[.string aL, .slice Ea0 ma0 da0, .string aS, .string aR, .slice Ea1 ma1 da1, .slice Ea2 ma2 da2, .slice Ea3 ma3 da3, .string aG]) (t := 44) ?hr ?_; (case hd => rfl); (case hg => rfl); (case hr => first | (go_simp; done) | (go_simp; rfl)); intro b4 hg v2 hbox hb; have N_b3_b4 := Aside0.mk (show b3 ≠ b4 by rw [hg]; exact Nat.ne_of_lt (lt_blk K_b3.out)); have G_b4 := Aside0.mk (show w.heap.size ≤ b4 by rw [hg]; exact B0.out.size); replace B0 := Aside0.mk (B0.out.trans (hb.mono B0.out.size)); replace K_b3 := Aside0.mk ((hb.block _ (lt_blk K_b3.out)).trans K_b3.out); have K_b4 := Aside0.mk hbox; clear hb hbox hg)
      | ((with_reducible refine gate_dst (N := 5) rfl ?_); refine box_event ?hg (N := 5) ?hd (cs := #[.string bL, .slice Eb0 mb0 db0, .string bS, .string bR, .slice Eb1 mb1 db1, .slice Eb2 mb2 db2, .slice Eb3 mb3 db3, .string bG]) (t := 44) ?hr ?_; (case hd => rfl); (case hg => rfl); (case hr => first | (go_simp; done) | (go_simp; rfl)); intro b5 hg v3 hbox hb; have N_b3_b5 := Aside0.mk (show b3 ≠ b5 by rw [hg]; exact Nat.ne_of_lt (lt_blk K_b3.out)); have N_b4_b5 := Aside0.mk (show b4 ≠ b5 by rw [hg]; exact Nat.ne_of_lt (lt_blk K_b4.out)); have G_b5 := Aside0.mk (show w.heap.size ≤ b5 by rw [hg]; exact B0.out.size); replace B0 := Aside0.mk (B0.out.trans (hb.mono B0.out.size)); replace K_b3 := Aside0.mk ((hb.block _ (lt_blk K_b3.out)).trans K_b3.out); replace K_b4 := Aside0.mk ((hb.block _ (lt_blk K_b4.out)).trans K_b4.out); have K_b5 := Aside0.mk hbox; clear hb hbox hg; obtain ⟨y_b3_0, y_b3_1, y_b3_2, y_b3_3, y_b3_4, y_b3_5⟩ := cz6 K_b3.out; obtain ⟨y_b4_0, y_b4_1, y_b4_2, y_b4_3, y_b4_4, y_b4_5, y_b4_6, y_b4_7⟩ := cz8 K_b4.out)
      | ((with_reducible refine gate_callee (f := 41) rfl ?_); refine goesL_ (some 13) rfl rfl Try.func41 (by kernel_rfl) rfl #[.agg #[.slice A0 n0 c0, .slice A1 l.length c1, .slice A2 rs.length c2, .slice A3 ms.length c3, .int .i64 p, .int .i64 q], .agg #[.string aL, .slice Ea0 ma0 da0, .string aS, .string aR, .slice Ea1 ma1 da1, .slice Ea2 ma2 da2, .slice Ea3 ma3 da3, .string aG]] rfl mq ?_; (with_reducible refine (places22_n A0 n0 c0 A1 c1 l A2 rs.length c2 A3 ms.length c3 p q aL aS aR aG Ea0 ma0 da0 Ea1 ma1 da1 Ea2 ma2 da2 Ea3 ma3 da3 x0 x1 x2 HX.out _ (Kd.C_below X1.out B0.out)).mono ?_); rintro e v4 ⟨rfl, hb⟩; refine ⟨_, rfl, ?_⟩; clear y_b3_0 y_b3_1 y_b3_2 y_b3_3 y_b3_4 y_b3_5 y_b4_0 y_b4_1 y_b4_2 y_b4_3 y_b4_4 y_b4_5 y_b4_6 y_b4_7; replace B0 := Aside0.mk (B0.out.trans (hb.mono B0.out.size)); replace K_b3 := Aside0.mk ((hb.block _ (lt_blk K_b3.out)).trans K_b3.out); replace K_b4 := Aside0.mk ((hb.block _ (lt_blk K_b4.out)).trans K_b4.out); replace K_b5 := Aside0.mk ((hb.block _ (lt_blk K_b5.out)).trans K_b5.out); clear hb)
      | ((with_reducible refine gate_dst (N := 7) rfl ?_); refine box_event ?hg (N := 7) ?hd (cs := #[.string ⟨#[]⟩, .string ⟨#[]⟩, .string ⟨#[]⟩]) (t := 30) ?hr ?_; (case hd => rfl); (case hg => rfl); (case hr => first | (go_simp; done) | (go_simp; rfl)); intro b7 hg v5 hbox hb; have N_b3_b7 := Aside0.mk (show b3 ≠ b7 by rw [hg]; exact Nat.ne_of_lt (lt_blk K_b3.out)); have N_b4_b7 := Aside0.mk (show b4 ≠ b7 by rw [hg]; exact Nat.ne_of_lt (lt_blk K_b4.out)); have N_b5_b7 := Aside0.mk (show b5 ≠ b7 by rw [hg]; exact Nat.ne_of_lt (lt_blk K_b5.out)); have G_b7 := Aside0.mk (show w.heap.size ≤ b7 by rw [hg]; exact B0.out.size); replace B0 := Aside0.mk (B0.out.trans (hb.mono B0.out.size)); replace K_b3 := Aside0.mk ((hb.block _ (lt_blk K_b3.out)).trans K_b3.out); replace K_b4 := Aside0.mk ((hb.block _ (lt_blk K_b4.out)).trans K_b4.out); replace K_b5 := Aside0.mk ((hb.block _ (lt_blk K_b5.out)).trans K_b5.out); have K_b7 := Aside0.mk hbox; clear hb hbox hg)
      | ((with_reducible refine gate_ (.store 30 (.tmp 7) (.tmp 13)) rfl ?_); refine wpList_put (g := b7) (off := 0) (cur := #[.string ⟨#[]⟩, .string ⟨#[]⟩, .string ⟨#[]⟩]) (new := #[.string x0, .string x1, .string x2]) (seg := [.string x0, .string x1, .string x2]) (u := .agg #[.string x0, .string x1, .string x2]) rfl rfl rfl rfl rfl rfl (by kernel_rfl) rfl rfl (Nat.le_of_ble_eq_true rfl) K_b7.out ?_; intro v6 hk hp; replace B0 := Aside0.mk (Put.below hp B0.out (Nat.le_trans (by exact Nat.le_refl _) G_b7.out)); replace K_b3 := Aside0.mk ((hp.far _ N_b3_b7.out).trans K_b3.out); replace K_b4 := Aside0.mk ((hp.far _ N_b4_b7.out).trans K_b4.out); replace K_b5 := Aside0.mk ((hp.far _ N_b5_b7.out).trans K_b5.out); replace K_b7 := Aside0.mk hk; clear hk hp; obtain ⟨y_b3_0, y_b3_1, y_b3_2, y_b3_3, y_b3_4, y_b3_5⟩ := cz6 K_b3.out; obtain ⟨y_b5_0, y_b5_1, y_b5_2, y_b5_3, y_b5_4, y_b5_5, y_b5_6, y_b5_7⟩ := cz8 K_b5.out)
      | ((with_reducible refine gate_callee (f := 41) rfl ?_); refine goesL_ (some 16) rfl rfl Try.func41 (by kernel_rfl) rfl #[.agg #[.slice A0 n0 c0, .slice A1 l.length c1, .slice A2 rs.length c2, .slice A3 ms.length c3, .int .i64 p, .int .i64 q], .agg #[.string bL, .slice Eb0 mb0 db0, .string bS, .string bR, .slice Eb1 mb1 db1, .slice Eb2 mb2 db2, .slice Eb3 mb3 db3, .string bG]] rfl mq ?_; (with_reducible refine (places22_n A0 n0 c0 A1 c1 l A2 rs.length c2 A3 ms.length c3 p q bL bS bR bG Eb0 mb0 db0 Eb1 mb1 db1 Eb2 mb2 db2 Eb3 mb3 db3 y0 y1 y2 HY.out _ (Kd.C_below X1.out B0.out)).mono ?_); rintro e v7 ⟨rfl, hb⟩; refine ⟨_, rfl, ?_⟩; clear y_b3_0 y_b3_1 y_b3_2 y_b3_3 y_b3_4 y_b3_5 y_b5_0 y_b5_1 y_b5_2 y_b5_3 y_b5_4 y_b5_5 y_b5_6 y_b5_7; replace B0 := Aside0.mk (B0.out.trans (hb.mono B0.out.size)); replace K_b3 := Aside0.mk ((hb.block _ (lt_blk K_b3.out)).trans K_b3.out); replace K_b4 := Aside0.mk ((hb.block _ (lt_blk K_b4.out)).trans K_b4.out); replace K_b5 := Aside0.mk ((hb.block _ (lt_blk K_b5.out)).trans K_b5.out); replace K_b7 := Aside0.mk ((hb.block _ (lt_blk K_b7.out)).trans K_b7.out); clear hb)
      | ((with_reducible refine gate_dst (N := 8) rfl ?_); refine box_event ?hg (N := 8) ?hd (cs := #[.string ⟨#[]⟩, .string ⟨#[]⟩, .string ⟨#[]⟩]) (t := 30) ?hr ?_; (case hd => rfl); (case hg => rfl); (case hr => first | (go_simp; done) | (go_simp; rfl)); intro b8 hg v8 hbox hb; have N_b3_b8 := Aside0.mk (show b3 ≠ b8 by rw [hg]; exact Nat.ne_of_lt (lt_blk K_b3.out)); have N_b4_b8 := Aside0.mk (show b4 ≠ b8 by rw [hg]; exact Nat.ne_of_lt (lt_blk K_b4.out)); have N_b5_b8 := Aside0.mk (show b5 ≠ b8 by rw [hg]; exact Nat.ne_of_lt (lt_blk K_b5.out)); have N_b7_b8 := Aside0.mk (show b7 ≠ b8 by rw [hg]; exact Nat.ne_of_lt (lt_blk K_b7.out)); have G_b8 := Aside0.mk (show w.heap.size ≤ b8 by rw [hg]; exact B0.out.size); replace B0 := Aside0.mk (B0.out.trans (hb.mono B0.out.size)); replace K_b3 := Aside0.mk ((hb.block _ (lt_blk K_b3.out)).trans K_b3.out); replace K_b4 := Aside0.mk ((hb.block _ (lt_blk K_b4.out)).trans K_b4.out); replace K_b5 := Aside0.mk ((hb.block _ (lt_blk K_b5.out)).trans K_b5.out); replace K_b7 := Aside0.mk ((hb.block _ (lt_blk K_b7.out)).trans K_b7.out); have K_b8 := Aside0.mk hbox; clear hb hbox hg)
      | ((with_reducible refine gate_ (.store 30 (.tmp 8) (.tmp 16)) rfl ?_); refine wpList_put (g := b8) (off := 0) (cur := #[.string ⟨#[]⟩, .string ⟨#[]⟩, .string ⟨#[]⟩]) (new := #[.string y0, .string y1, .string y2]) (seg := [.string y0, .string y1, .string y2]) (u := .agg #[.string y0, .string y1, .string y2]) rfl rfl rfl rfl rfl rfl (by kernel_rfl) rfl rfl (Nat.le_of_ble_eq_true rfl) K_b8.out ?_; intro v9 hk hp; replace B0 := Aside0.mk (Put.below hp B0.out (Nat.le_trans (by exact Nat.le_refl _) G_b8.out)); replace K_b3 := Aside0.mk ((hp.far _ N_b3_b8.out).trans K_b3.out); replace K_b4 := Aside0.mk ((hp.far _ N_b4_b8.out).trans K_b4.out); replace K_b5 := Aside0.mk ((hp.far _ N_b5_b8.out).trans K_b5.out); replace K_b7 := Aside0.mk ((hp.far _ N_b7_b8.out).trans K_b7.out); replace K_b8 := Aside0.mk hk; clear hk hp))
  go_wp2
  go_loopw [9, 10] (fun vn vi wr => ∃ k : Nat, k ≤ 3 ∧ vi = .int .i64 ((k : Int) + 1) ∧ vn = .int .i64 (sumP rs ms (x0, x1, x2) (y0, y1, y2) k) ∧ Aside0 (Below w.heap.size w wr) ∧ Aside0 (wr.heap[b3]? = some (.cells #[.slice A0 n0 c0, .slice A1 l.length c1, .slice A2 rs.length c2, .slice A3 ms.length c3, .int .i64 p, .int .i64 q] 39 (0, 0))) ∧ Aside0 (wr.heap[b4]? = some (.cells #[.string aL, .slice Ea0 ma0 da0, .string aS, .string aR, .slice Ea1 ma1 da1, .slice Ea2 ma2 da2, .slice Ea3 ma3 da3, .string aG] 44 (0, 0))) ∧ Aside0 (wr.heap[b5]? = some (.cells #[.string bL, .slice Eb0 mb0 db0, .string bS, .string bR, .slice Eb1 mb1 db1, .slice Eb2 mb2 db2, .slice Eb3 mb3 db3, .string bG] 44 (0, 0))) ∧ Aside0 (wr.heap[b7]? = some (.cells #[.string x0, .string x1, .string x2] 30 (0, 0))) ∧ Aside0 (wr.heap[b8]? = some (.cells #[.string y0, .string y1, .string y2] 30 (0, 0)))) (fun vn vi _ => 4 - (intOf vi).toNat)
  case atStart => exact ⟨0, by omega, rfl, rfl, B0, K_b3, K_b4, K_b5, K_b7, K_b8⟩
  case round =>
    clear B0 K_b3 K_b4 K_b5 K_b7 K_b8
    obtain ⟨k, hk, rfl, rfl, B0, K_b3, K_b4, K_b5, K_b7, K_b8⟩ := hrel
    generalize wr = z1 at *
    by_cases hlt : k < 3
    · have dl1 : decide ((k : Int) + 1 ≤ 3) = true := decide_eq_true (by omega)
      obtain ⟨y_b3_0, y_b3_1, y_b3_2, y_b3_3, y_b3_4, y_b3_5⟩ := cz6 K_b3.out
      obtain ⟨y_b7_0, y_b7_1, y_b7_2⟩ := cz3 K_b7.out
      obtain ⟨y_b8_0, y_b8_1, y_b8_2⟩ := cz3 K_b8.out
      go_wp2_with (first
          | ((with_reducible refine gate_callee (f := 18) rfl ?_); refine goesL_ (some 26) rfl rfl Try.func18 (by kernel_rfl) rfl #[.agg #[.slice A0 n0 c0, .slice A1 l.length c1, .slice A2 rs.length c2, .slice A3 ms.length c3, .int .i64 p, .int .i64 q], .int .i64 ((k : Int) + 1), .agg #[.string x0, .string x1, .string x2], .agg #[.string y0, .string y1, .string y2]] rfl mq ?_; (with_reducible refine (cost_calls A0 n0 c0 A1 l.length c1 A2 c2 A3 c3 rs ms p q ((k : Int) + 1) (x0, x1, x2) (y0, y1, y2) _ (Kd.C_below X2.out B0.out) (Kd.C_below X3.out B0.out)).mono ?_); rintro e z2 ⟨rfl, hb⟩; refine ⟨_, rfl, ?_⟩; clear y_b3_0 y_b3_1 y_b3_2 y_b3_3 y_b3_4 y_b3_5 y_b7_0 y_b7_1 y_b7_2 y_b8_0 y_b8_1 y_b8_2; replace B0 := Aside0.mk (B0.out.trans (hb.mono B0.out.size)); replace K_b3 := Aside0.mk ((hb.block _ (lt_blk K_b3.out)).trans K_b3.out); replace K_b4 := Aside0.mk ((hb.block _ (lt_blk K_b4.out)).trans K_b4.out); replace K_b5 := Aside0.mk ((hb.block _ (lt_blk K_b5.out)).trans K_b5.out); replace K_b7 := Aside0.mk ((hb.block _ (lt_blk K_b7.out)).trans K_b7.out); replace K_b8 := Aside0.mk ((hb.block _ (lt_blk K_b8.out)).trans K_b8.out); clear hb))
      go_roundw
      case rel => exact ⟨k + 1, by omega, by simp, rfl, B0, K_b3, K_b4, K_b5, K_b7, K_b8⟩
      case measure => simp [intOf]; omega
    · obtain rfl : k = 3 := by omega
      rw [HS.out]
      obtain ⟨y_b3_0, y_b3_1, y_b3_2, y_b3_3, y_b3_4, y_b3_5⟩ := cz6 K_b3.out
      obtain ⟨y_b4_0, y_b4_1, y_b4_2, y_b4_3, y_b4_4, y_b4_5, y_b4_6, y_b4_7⟩ := cz8 K_b4.out
      obtain ⟨y_b5_0, y_b5_1, y_b5_2, y_b5_3, y_b5_4, y_b5_5, y_b5_6, y_b5_7⟩ := cz8 K_b5.out
      by_cases h0 : x0 = y0
      · by_cases h1 : x1 = y1
        · by_cases h2 : x2 = y2
          · have hz : N = 0 := by rw [← HS.out, h0, h1, h2]; exact sum_self rs ms (y0, y1, y2) 3 (Nat.le_refl 3)
            subst hz
            have q0 : (x0.toList == y0.toList) = true := by rw [h0, beq_self_eq_true]
            have q1 : (x1.toList == y1.toList) = true := by rw [h1, beq_self_eq_true]
            have q2 : (x2.toList == y2.toList) = true := by rw [h2, beq_self_eq_true]
            clear h0 h1 h2
            go_wp2_with (first
                | ((with_reducible refine gate_callee (f := 16) rfl ?_); refine goesL_ (some 31) rfl rfl Try.func16 (by kernel_rfl) rfl #[.agg #[.slice A0 n0 c0, .slice A1 l.length c1, .slice A2 rs.length c2, .slice A3 ms.length c3, .int .i64 p, .int .i64 q], .agg #[.string aL, .slice Ea0 ma0 da0, .string aS, .string aR, .slice Ea1 ma1 da1, .slice Ea2 ma2 da2, .slice Ea3 ma3 da3, .string aG], .agg #[.string bL, .slice Eb0 mb0 db0, .string bS, .string bR, .slice Eb1 mb1 db1, .slice Eb2 mb2 db2, .slice Eb3 mb3 db3, .string bG]] rfl mq ?_; (with_reducible refine (dist_n A0 n0 c0 A1 c1 l A2 c2 rs A3 c3 ms p q aL aS aR aG Ea0 ma0 da0 Ea1 ma1 da1 Ea2 ma2 da2 Ea3 ma3 da3 bL bS bR bG Eb0 mb0 db0 Eb1 mb1 db1 Eb2 mb2 db2 Eb3 mb3 db3 0 HN.out _ (Kd.C_below X1.out B0.out) (Kd.C_below X2.out B0.out) (Kd.C_below X3.out B0.out)).mono ?_); rintro e z3 ⟨rfl, hb⟩; refine ⟨_, rfl, ?_⟩; clear y_b3_0 y_b3_1 y_b3_2 y_b3_3 y_b3_4 y_b3_5 y_b4_0 y_b4_1 y_b4_2 y_b4_3 y_b4_4 y_b4_5 y_b4_6 y_b4_7 y_b5_0 y_b5_1 y_b5_2 y_b5_3 y_b5_4 y_b5_5 y_b5_6 y_b5_7; replace B0 := Aside0.mk (B0.out.trans (hb.mono B0.out.size)); replace K_b3 := Aside0.mk ((hb.block _ (lt_blk K_b3.out)).trans K_b3.out); replace K_b4 := Aside0.mk ((hb.block _ (lt_blk K_b4.out)).trans K_b4.out); replace K_b5 := Aside0.mk ((hb.block _ (lt_blk K_b5.out)).trans K_b5.out); replace K_b7 := Aside0.mk ((hb.block _ (lt_blk K_b7.out)).trans K_b7.out); replace K_b8 := Aside0.mk ((hb.block _ (lt_blk K_b8.out)).trans K_b8.out); clear hb; obtain ⟨y_b7_0, y_b7_1, y_b7_2⟩ := cz3 K_b7.out; obtain ⟨y_b8_0, y_b8_1, y_b8_2⟩ := cz3 K_b8.out))
            go_ret
            exact ⟨by simp, B0.out⟩
          · skip
            have q0 : (x0.toList == y0.toList) = true := by rw [h0, beq_self_eq_true]
            have q1 : (x1.toList == y1.toList) = true := by rw [h1, beq_self_eq_true]
            have q2 : (x2.toList == y2.toList) = false := by rw [toList_eqv]; exact decide_eq_false h2
            clear h0 h1 h2
            go_wp2_with (first
                | ((with_reducible refine gate_callee (f := 16) rfl ?_); refine goesL_ (some 31) rfl rfl Try.func16 (by kernel_rfl) rfl #[.agg #[.slice A0 n0 c0, .slice A1 l.length c1, .slice A2 rs.length c2, .slice A3 ms.length c3, .int .i64 p, .int .i64 q], .agg #[.string aL, .slice Ea0 ma0 da0, .string aS, .string aR, .slice Ea1 ma1 da1, .slice Ea2 ma2 da2, .slice Ea3 ma3 da3, .string aG], .agg #[.string bL, .slice Eb0 mb0 db0, .string bS, .string bR, .slice Eb1 mb1 db1, .slice Eb2 mb2 db2, .slice Eb3 mb3 db3, .string bG]] rfl mq ?_; (with_reducible refine (dist_n A0 n0 c0 A1 c1 l A2 c2 rs A3 c3 ms p q aL aS aR aG Ea0 ma0 da0 Ea1 ma1 da1 Ea2 ma2 da2 Ea3 ma3 da3 bL bS bR bG Eb0 mb0 db0 Eb1 mb1 db1 Eb2 mb2 db2 Eb3 mb3 db3 N HN.out _ (Kd.C_below X1.out B0.out) (Kd.C_below X2.out B0.out) (Kd.C_below X3.out B0.out)).mono ?_); rintro e z3 ⟨rfl, hb⟩; refine ⟨_, rfl, ?_⟩; clear y_b3_0 y_b3_1 y_b3_2 y_b3_3 y_b3_4 y_b3_5 y_b4_0 y_b4_1 y_b4_2 y_b4_3 y_b4_4 y_b4_5 y_b4_6 y_b4_7 y_b5_0 y_b5_1 y_b5_2 y_b5_3 y_b5_4 y_b5_5 y_b5_6 y_b5_7; replace B0 := Aside0.mk (B0.out.trans (hb.mono B0.out.size)); replace K_b3 := Aside0.mk ((hb.block _ (lt_blk K_b3.out)).trans K_b3.out); replace K_b4 := Aside0.mk ((hb.block _ (lt_blk K_b4.out)).trans K_b4.out); replace K_b5 := Aside0.mk ((hb.block _ (lt_blk K_b5.out)).trans K_b5.out); replace K_b7 := Aside0.mk ((hb.block _ (lt_blk K_b7.out)).trans K_b7.out); replace K_b8 := Aside0.mk ((hb.block _ (lt_blk K_b8.out)).trans K_b8.out); clear hb; obtain ⟨y_b7_0, y_b7_1, y_b7_2⟩ := cz3 K_b7.out; obtain ⟨y_b8_0, y_b8_1, y_b8_2⟩ := cz3 K_b8.out))
            go_ret
            exact ⟨by simp, B0.out⟩
        · skip
          have q0 : (x0.toList == y0.toList) = true := by rw [h0, beq_self_eq_true]
          have q1 : (x1.toList == y1.toList) = false := by rw [toList_eqv]; exact decide_eq_false h1
          clear h0 h1
          go_wp2_with (first
              | ((with_reducible refine gate_callee (f := 16) rfl ?_); refine goesL_ (some 31) rfl rfl Try.func16 (by kernel_rfl) rfl #[.agg #[.slice A0 n0 c0, .slice A1 l.length c1, .slice A2 rs.length c2, .slice A3 ms.length c3, .int .i64 p, .int .i64 q], .agg #[.string aL, .slice Ea0 ma0 da0, .string aS, .string aR, .slice Ea1 ma1 da1, .slice Ea2 ma2 da2, .slice Ea3 ma3 da3, .string aG], .agg #[.string bL, .slice Eb0 mb0 db0, .string bS, .string bR, .slice Eb1 mb1 db1, .slice Eb2 mb2 db2, .slice Eb3 mb3 db3, .string bG]] rfl mq ?_; (with_reducible refine (dist_n A0 n0 c0 A1 c1 l A2 c2 rs A3 c3 ms p q aL aS aR aG Ea0 ma0 da0 Ea1 ma1 da1 Ea2 ma2 da2 Ea3 ma3 da3 bL bS bR bG Eb0 mb0 db0 Eb1 mb1 db1 Eb2 mb2 db2 Eb3 mb3 db3 N HN.out _ (Kd.C_below X1.out B0.out) (Kd.C_below X2.out B0.out) (Kd.C_below X3.out B0.out)).mono ?_); rintro e z3 ⟨rfl, hb⟩; refine ⟨_, rfl, ?_⟩; clear y_b3_0 y_b3_1 y_b3_2 y_b3_3 y_b3_4 y_b3_5 y_b4_0 y_b4_1 y_b4_2 y_b4_3 y_b4_4 y_b4_5 y_b4_6 y_b4_7 y_b5_0 y_b5_1 y_b5_2 y_b5_3 y_b5_4 y_b5_5 y_b5_6 y_b5_7; replace B0 := Aside0.mk (B0.out.trans (hb.mono B0.out.size)); replace K_b3 := Aside0.mk ((hb.block _ (lt_blk K_b3.out)).trans K_b3.out); replace K_b4 := Aside0.mk ((hb.block _ (lt_blk K_b4.out)).trans K_b4.out); replace K_b5 := Aside0.mk ((hb.block _ (lt_blk K_b5.out)).trans K_b5.out); replace K_b7 := Aside0.mk ((hb.block _ (lt_blk K_b7.out)).trans K_b7.out); replace K_b8 := Aside0.mk ((hb.block _ (lt_blk K_b8.out)).trans K_b8.out); clear hb; obtain ⟨y_b7_0, y_b7_1, y_b7_2⟩ := cz3 K_b7.out; obtain ⟨y_b8_0, y_b8_1, y_b8_2⟩ := cz3 K_b8.out))
          go_ret
          exact ⟨by simp, B0.out⟩
      · skip
        have q0 : (x0.toList == y0.toList) = false := by rw [toList_eqv]; exact decide_eq_false h0
        clear h0
        go_wp2_with (first
            | ((with_reducible refine gate_callee (f := 16) rfl ?_); refine goesL_ (some 31) rfl rfl Try.func16 (by kernel_rfl) rfl #[.agg #[.slice A0 n0 c0, .slice A1 l.length c1, .slice A2 rs.length c2, .slice A3 ms.length c3, .int .i64 p, .int .i64 q], .agg #[.string aL, .slice Ea0 ma0 da0, .string aS, .string aR, .slice Ea1 ma1 da1, .slice Ea2 ma2 da2, .slice Ea3 ma3 da3, .string aG], .agg #[.string bL, .slice Eb0 mb0 db0, .string bS, .string bR, .slice Eb1 mb1 db1, .slice Eb2 mb2 db2, .slice Eb3 mb3 db3, .string bG]] rfl mq ?_; (with_reducible refine (dist_n A0 n0 c0 A1 c1 l A2 c2 rs A3 c3 ms p q aL aS aR aG Ea0 ma0 da0 Ea1 ma1 da1 Ea2 ma2 da2 Ea3 ma3 da3 bL bS bR bG Eb0 mb0 db0 Eb1 mb1 db1 Eb2 mb2 db2 Eb3 mb3 db3 N HN.out _ (Kd.C_below X1.out B0.out) (Kd.C_below X2.out B0.out) (Kd.C_below X3.out B0.out)).mono ?_); rintro e z3 ⟨rfl, hb⟩; refine ⟨_, rfl, ?_⟩; clear y_b3_0 y_b3_1 y_b3_2 y_b3_3 y_b3_4 y_b3_5 y_b4_0 y_b4_1 y_b4_2 y_b4_3 y_b4_4 y_b4_5 y_b4_6 y_b4_7 y_b5_0 y_b5_1 y_b5_2 y_b5_3 y_b5_4 y_b5_5 y_b5_6 y_b5_7; replace B0 := Aside0.mk (B0.out.trans (hb.mono B0.out.size)); replace K_b3 := Aside0.mk ((hb.block _ (lt_blk K_b3.out)).trans K_b3.out); replace K_b4 := Aside0.mk ((hb.block _ (lt_blk K_b4.out)).trans K_b4.out); replace K_b5 := Aside0.mk ((hb.block _ (lt_blk K_b5.out)).trans K_b5.out); replace K_b7 := Aside0.mk ((hb.block _ (lt_blk K_b7.out)).trans K_b7.out); replace K_b8 := Aside0.mk ((hb.block _ (lt_blk K_b8.out)).trans K_b8.out); clear hb; obtain ⟨y_b7_0, y_b7_1, y_b7_2⟩ := cz3 K_b7.out; obtain ⟨y_b8_0, y_b8_1, y_b8_2⟩ := cz3 K_b8.out))
        go_ret
        exact ⟨by simp, B0.out⟩
set_option maxRecDepth 100000 in
set_option maxHeartbeats 8000000 in
theorem partslaw_calls (k : Nat) (A0 : Option Addr) (c0 : Nat) (l0 : List S62) (A1 : Option Addr) (c1 : Nat) (l1 : List Int) (A2 : Option Addr) (c2 : Nat) (l2 : List Int) (A3 : Option Addr) (c3 : Nat) (l3 : List Int) (th de od : Int) (r1 : List S59) (r2 : List S66) (r3 : List S53) (r4 : List S69) (r5 r6 : Int)
    (D0 D1 D2 S0 S1 S2 P0 P1 P2 lvn : Int) (T0 T1 T2 : ByteArray) (d0 d1 d2 e0 e1 e2 : ByteArray) (w : World)
    (hC0 : Kd.C k62 w A0 l0.length l0) (hc0 : l0.length ≤ c0) (hC1 : Kd.C (Kd.int .i64) w A1 l1.length l1) (hc1 : l1.length ≤ c1) (hC2 : Kd.C (Kd.int .i64) w A2 l2.length l2) (hc2 : l2.length ≤ c2) (hC3 : Kd.C (Kd.int .i64) w A3 l3.length l3) (hc3 : l3.length ≤ c3)
    (hM : isoglossref13_Made.f k l0 l1 l2 l3 th de od = some (r1, r2, r3, r4, r5, r6)) (hD : isoglosslaw22_plain.f D0 D1 D2 = some (d0, d1, d2)) (hE : isoglosslaw22_plain.f S0 S1 S2 = some (e0, e1, e2)) :
    Calls Try.prog 7 #[.agg #[.slice A0 l0.length c0, .slice A1 l1.length c1, .slice A2 l2.length c2, .slice A3 l3.length c3, .int .i64 th, .int .i64 de, .int .i64 od], .agg #[.int .i64 D0, .int .i64 D1, .int .i64 D2, .int .i64 S0, .int .i64 S1, .int .i64 S2, .int .i64 P0, .int .i64 P1, .int .i64 P2, .int .i64 lvn, .string T0, .string T1, .string T2]] w fun e w' => e = .returned (.bool true) ∧ Below w.heap.size w w' := by
  have hu25 := Try.underlying25
  have hu32 := Try.underlying32
  have hu29 := Try.underlying29
  have hu30 := Try.underlying30
  have hu39 := Try.underlying39
  have hu44 := Try.underlying44
  have X0 := Aside0.mk hC0
  have X1 := Aside0.mk hC1
  have X2 := Aside0.mk hC2
  have X3 := Aside0.mk hC3
  have Q0 := Aside0.mk hc0
  have Q1 := Aside0.mk hc1
  have Q2 := Aside0.mk hc2
  have Q3 := Aside0.mk hc3
  have HM := Aside0.mk hM
  have HD := Aside0.mk hD
  have HE := Aside0.mk hE
  have B0 := Aside0.mk (Below.refl w.heap.size w)
  clear hC0 hC1 hC2 hC3 hc0 hc1 hc2 hc3 hM hD hE
  go_enter Try.func7, Try.ntmps7
  go_wp2_with (first
      | ((with_reducible refine gate_dst (N := 2) rfl ?_); refine box_event ?hg (N := 2) ?hd (cs := #[.slice A0 l0.length c0, .slice A1 l1.length c1, .slice A2 l2.length c2, .slice A3 l3.length c3, .int .i64 th, .int .i64 de, .int .i64 od]) (t := 25) ?hr ?_; (case hd => rfl); (case hg => rfl); (case hr => first | (go_simp; done) | (go_simp; rfl)); intro b2 hg w01 hbox hb; have G_b2 := Aside0.mk (show w.heap.size ≤ b2 by rw [hg]; exact B0.out.size); replace B0 := Aside0.mk (B0.out.trans (hb.mono B0.out.size)); have K_b2 := Aside0.mk hbox; clear hb hbox hg)
      | ((with_reducible refine gate_dst (N := 3) rfl ?_); refine box_event ?hg (N := 3) ?hd (cs := #[.int .i64 D0, .int .i64 D1, .int .i64 D2, .int .i64 S0, .int .i64 S1, .int .i64 S2, .int .i64 P0, .int .i64 P1, .int .i64 P2, .int .i64 lvn, .string T0, .string T1, .string T2]) (t := 32) ?hr ?_; (case hd => rfl); (case hg => rfl); (case hr => first | (go_simp; done) | (go_simp; rfl)); intro b3 hg w02 hbox hb; have N_b2_b3 := Aside0.mk (show b2 ≠ b3 by rw [hg]; exact Nat.ne_of_lt (lt_blk K_b2.out)); have G_b3 := Aside0.mk (show w.heap.size ≤ b3 by rw [hg]; exact B0.out.size); replace B0 := Aside0.mk (B0.out.trans (hb.mono B0.out.size)); replace K_b2 := Aside0.mk ((hb.block _ (lt_blk K_b2.out)).trans K_b2.out); have K_b3 := Aside0.mk hbox; clear hb hbox hg)
      | ((with_reducible refine gate_callee (f := 8) rfl ?_); refine goesL_ (some 7) rfl rfl Try.func8 (by kernel_rfl) rfl #[] rfl mq ?_; (with_reducible refine (awake_calls _).mono ?_); rintro e w1 ⟨rfl, hb⟩; refine ⟨_, rfl, ?_⟩; replace B0 := Aside0.mk (B0.out.trans (hb.mono B0.out.size)); replace K_b2 := Aside0.mk ((hb.block _ (lt_blk K_b2.out)).trans K_b2.out); replace K_b3 := Aside0.mk ((hb.block _ (lt_blk K_b3.out)).trans K_b3.out); clear hb; obtain ⟨y_b2_0, y_b2_1, y_b2_2, y_b2_3, y_b2_4, y_b2_5, y_b2_6⟩ := cz7 K_b2.out)
      | ((with_reducible refine gate_callee (f := 9) rfl ?_); refine goesL_ (some 9) rfl rfl Try.func9 (by kernel_rfl) rfl #[.agg #[.slice A0 l0.length c0, .slice A1 l1.length c1, .slice A2 l2.length c2, .slice A3 l3.length c3, .int .i64 th, .int .i64 de, .int .i64 od]] rfl mq ?_; (with_reducible refine (isoglossref13_Made.calls k A0 c0 l0 A1 c1 l1 A2 c2 l2 A3 c3 l3 th de od r1 r2 r3 r4 r5 r6 _ (Kd.C_below X0.out B0.out) Q0.out (Kd.C_below X1.out B0.out) Q1.out (Kd.C_below X2.out B0.out) Q2.out (Kd.C_below X3.out B0.out) Q3.out HM.out).mono ?_); rintro e w2 ⟨v0, v1, v2, v3, rfl, R0, R1, R2, R3, hb⟩; refine ⟨_, rfl, ?_⟩; clear y_b2_0 y_b2_1 y_b2_2 y_b2_3 y_b2_4 y_b2_5 y_b2_6; obtain ⟨A4, c4, e4⟩ := Kd.R_slice R0; subst e4; obtain ⟨A5, c5, e5⟩ := Kd.R_slice R1; subst e5; obtain ⟨A6, c6, e6⟩ := Kd.R_slice R2; subst e6; obtain ⟨A7, c7, e7⟩ := Kd.R_slice R3; subst e7; have C1 := Aside0.mk (Kd.R_reads' R1).2.2; have C2 := Aside0.mk (Kd.R_reads' R2).2.2; have C3 := Aside0.mk (Kd.R_reads' R3).2.2; have S02 := Aside0.mk (B0.out.trans (hb.mono B0.out.size)).size; have B2 := Aside0.mk (Below.refl w2.heap.size w2); clear R0 R1 R2 R3; replace B0 := Aside0.mk (B0.out.trans (hb.mono B0.out.size)); replace K_b2 := Aside0.mk ((hb.block _ (lt_blk K_b2.out)).trans K_b2.out); replace K_b3 := Aside0.mk ((hb.block _ (lt_blk K_b3.out)).trans K_b3.out); clear hb)
      | ((with_reducible refine gate_dst (N := 6) rfl ?_); refine box_event ?hg (N := 6) ?hd (cs := #[.slice none 0 0, .slice none 0 0, .slice none 0 0, .slice none 0 0, .int .i64 0, .int .i64 0]) (t := 39) ?hr ?_; (case hd => rfl); (case hg => rfl); (case hr => first | (go_simp; done) | (go_simp; rfl)); intro b6 hg w3 hbox hb; have N_b2_b6 := Aside0.mk (show b2 ≠ b6 by rw [hg]; exact Nat.ne_of_lt (lt_blk K_b2.out)); have N_b3_b6 := Aside0.mk (show b3 ≠ b6 by rw [hg]; exact Nat.ne_of_lt (lt_blk K_b3.out)); have G_b6 := Aside0.mk (show w2.heap.size ≤ b6 by rw [hg]; exact B2.out.size); replace B0 := Aside0.mk (B0.out.trans (hb.mono B0.out.size)); replace B2 := Aside0.mk (B2.out.trans (hb.mono B2.out.size)); replace K_b2 := Aside0.mk ((hb.block _ (lt_blk K_b2.out)).trans K_b2.out); replace K_b3 := Aside0.mk ((hb.block _ (lt_blk K_b3.out)).trans K_b3.out); have K_b6 := Aside0.mk hbox; clear hb hbox hg)
      | ((with_reducible refine gate_ (.store 39 (.tmp 6) (.tmp 9)) rfl ?_); refine wpList_put (g := b6) (off := 0) (cur := #[.slice none 0 0, .slice none 0 0, .slice none 0 0, .slice none 0 0, .int .i64 0, .int .i64 0]) (new := #[.slice A4 r1.length c4, .slice A5 r2.length c5, .slice A6 r3.length c6, .slice A7 r4.length c7, .int .i64 r5, .int .i64 r6]) (seg := [.slice A4 r1.length c4, .slice A5 r2.length c5, .slice A6 r3.length c6, .slice A7 r4.length c7, .int .i64 r5, .int .i64 r6]) (u := .agg #[.slice A4 r1.length c4, .slice A5 r2.length c5, .slice A6 r3.length c6, .slice A7 r4.length c7, .int .i64 r5, .int .i64 r6]) rfl rfl rfl rfl rfl rfl (by kernel_rfl) rfl rfl (Nat.le_of_ble_eq_true rfl) K_b6.out ?_; intro w4 hk hp; replace B0 := Aside0.mk (Put.below hp B0.out (Nat.le_trans (by exact S02.out) G_b6.out)); replace B2 := Aside0.mk (Put.below hp B2.out (Nat.le_trans (by exact Nat.le_refl _) G_b6.out)); replace K_b2 := Aside0.mk ((hp.far _ N_b2_b6.out).trans K_b2.out); replace K_b3 := Aside0.mk ((hp.far _ N_b3_b6.out).trans K_b3.out); replace K_b6 := Aside0.mk hk; clear hk hp))
  refine start_ (n := 26) (S := fun w' => w'.cell? ⟨b6, 0, none⟩ = some (.slice A4 r1.length c4) ∧ w'.cell? ⟨b6, 1, none⟩ = some (.slice A5 r2.length c5) ∧ w'.cell? ⟨b6, 2, none⟩ = some (.slice A6 r3.length c6) ∧ w'.cell? ⟨b6, 3, none⟩ = some (.slice A7 r4.length c7) ∧ w'.cell? ⟨b6, 4, none⟩ = some (.int .i64 r5) ∧ w'.cell? ⟨b6, 5, none⟩ = some (.int .i64 r6) ∧ w'.cell? ⟨b3, 0, none⟩ = some (.int .i64 D0) ∧ w'.cell? ⟨b3, 1, none⟩ = some (.int .i64 D1) ∧ w'.cell? ⟨b3, 2, none⟩ = some (.int .i64 D2) ∧ w'.cell? ⟨b3, 3, none⟩ = some (.int .i64 S0) ∧ w'.cell? ⟨b3, 4, none⟩ = some (.int .i64 S1) ∧ w'.cell? ⟨b3, 5, none⟩ = some (.int .i64 S2)) (ds := []) #[false, false, false, false, false, false, false, false, false, false, false, false, false, false, false, false, false, false, false, false, false, false, false, false, false, false] (by kernel_rfl) rfl rfl ⟨(blk_cell K_b6.out 0).trans rfl, (blk_cell K_b6.out 1).trans rfl, (blk_cell K_b6.out 2).trans rfl, (blk_cell K_b6.out 3).trans rfl, (blk_cell K_b6.out 4).trans rfl, (blk_cell K_b6.out 5).trans rfl, (blk_cell K_b3.out 0).trans rfl, (blk_cell K_b3.out 1).trans rfl, (blk_cell K_b3.out 2).trans rfl, (blk_cell K_b3.out 3).trans rfl, (blk_cell K_b3.out 4).trans rfl, (blk_cell K_b3.out 5).trans rfl⟩ (fun hHeld => ?_)
  have hb : Below w4.heap.size w4 w4.drew := below_drew1 (Below.refl _ _)
  generalize w4.drew = w11 at hb hHeld ⊢
  replace B0 := Aside0.mk (B0.out.trans (hb.mono B0.out.size))
  replace B2 := Aside0.mk (B2.out.trans (hb.mono B2.out.size))
  replace K_b2 := Aside0.mk ((hb.block _ (lt_blk K_b2.out)).trans K_b2.out)
  replace K_b3 := Aside0.mk ((hb.block _ (lt_blk K_b3.out)).trans K_b3.out)
  replace K_b6 := Aside0.mk ((hb.block _ (lt_blk K_b6.out)).trans K_b6.out)
  clear hb
  refine pure_ (i := 0) (N := some 10) (v := ?_) (a' := ?_) #[true, false, false, false, false, false, false, false, false, false, false, false, false, false, false, false, false, false, false, false, false, false, false, false, false, false] rfl rfl (by kernel_rfl) (fun _ _ _ h => h) (Or.inl ⟨by rfl, ?_⟩) ?_ ?_
  rotate_left
  · intro w'
    go_simp
    with_reducible rfl
  rotate_left
  · simp only [Act.put, List.setIfInBounds_toArray, List.set_cons_zero, List.set_cons_succ, i64_w, i32_w]
    rfl
  refine pure_ (i := 1) (N := some 11) (v := ?_) (a' := ?_) #[true, true, false, false, false, false, false, false, false, false, false, false, false, false, false, false, false, false, false, false, false, false, false, false, false, false] rfl rfl (by kernel_rfl) (fun _ _ _ h => h) (Or.inl ⟨by rfl, ?_⟩) ?_ ?_
  rotate_left
  · intro w'
    go_simp
    with_reducible rfl
  rotate_left
  · simp only [Act.put, List.setIfInBounds_toArray, List.set_cons_zero, List.set_cons_succ, i64_w, i32_w]
    rfl
  refine pure_ (i := 3) (N := some 13) (v := ?_) (a' := ?_) #[true, true, false, true, false, false, false, false, false, false, false, false, false, false, false, false, false, false, false, false, false, false, false, false, false, false] rfl rfl (by kernel_rfl) (fun _ _ _ h => h) (Or.inl ⟨by rfl, ?_⟩) ?_ ?_
  rotate_left
  · intro w'
    go_simp
    with_reducible rfl
  rotate_left
  · simp only [Act.put, List.setIfInBounds_toArray, List.set_cons_zero, List.set_cons_succ, i64_w, i32_w]
    rfl
  refine pure_ (i := 7) (N := some 17) (v := ?_) (a' := ?_) #[true, true, false, true, false, false, false, true, false, false, false, false, false, false, false, false, false, false, false, false, false, false, false, false, false, false] rfl rfl (by kernel_rfl) (fun _ _ _ h => h) (Or.inl ⟨by rfl, ?_⟩) ?_ ?_
  rotate_left
  · intro w'
    go_simp
    with_reducible rfl
  rotate_left
  · simp only [Act.put, List.setIfInBounds_toArray, List.set_cons_zero, List.set_cons_succ, i64_w, i32_w]
    rfl
  refine take_ (i := 2) (N := some 12) (v := ?_) (a' := ?_) #[true, true, true, true, false, false, false, true, false, false, false, false, false, false, false, false, false, false, false, false, false, false, false, false, false, false] rfl rfl (by kernel_rfl) (fun _ _ _ h => h) (Or.inl ⟨by rfl, ?_⟩) hHeld ?_ ?_
  rotate_left
  · rintro w' ⟨s0, s1, s2, s3, s4, s5, s6, s7, s8, s9, s10, s11⟩
    go_simp
    with_reducible rfl
  rotate_left
  · simp only [Act.put, List.setIfInBounds_toArray, List.set_cons_zero, List.set_cons_succ, i64_w, i32_w]
    rfl
  refine take_ (i := 4) (N := some 14) (v := ?_) (a' := ?_) #[true, true, true, true, true, false, false, true, false, false, false, false, false, false, false, false, false, false, false, false, false, false, false, false, false, false] rfl rfl (by kernel_rfl) (fun _ _ _ h => h) (Or.inl ⟨by rfl, ?_⟩) hHeld ?_ ?_
  rotate_left
  · rintro w' ⟨s0, s1, s2, s3, s4, s5, s6, s7, s8, s9, s10, s11⟩
    go_simp
    with_reducible rfl
  rotate_left
  · simp only [Act.put, List.setIfInBounds_toArray, List.set_cons_zero, List.set_cons_succ, i64_w, i32_w]
    rfl
  refine take_ (i := 8) (N := some 18) (v := ?_) (a' := ?_) #[true, true, true, true, true, false, false, true, true, false, false, false, false, false, false, false, false, false, false, false, false, false, false, false, false, false] rfl rfl (by kernel_rfl) (fun _ _ _ h => h) (Or.inl ⟨by rfl, ?_⟩) hHeld ?_ ?_
  rotate_left
  · rintro w' ⟨s0, s1, s2, s3, s4, s5, s6, s7, s8, s9, s10, s11⟩
    go_simp
    with_reducible rfl
  rotate_left
  · simp only [Act.put, List.setIfInBounds_toArray, List.set_cons_zero, List.set_cons_succ, i64_w, i32_w]
    rfl
  refine one_ (i := 5) (N := some 15) #[true, true, true, true, true, true, false, true, true, false, false, false, false, false, false, false, false, false, false, false, false, false, false, false, false, false] rfl rfl (by kernel_rfl) (by decide) (fun K hK => ?_)
  refine goes_ Try.func14 (by kernel_rfl) rfl #[.agg #[.int .i64 D0, .int .i64 D1, .int .i64 D2]] (by rfl) rfl rfl (by (try simp only [List.map_toArray, List.map_cons, List.map_nil]); first | done | rfl) ?_
  with_reducible refine (isoglosslaw22_plain.calls D0 D1 D2 d0 d1 d2 _ HD.out).mono ?_
  rintro e w12 ⟨rfl, hb⟩
  refine ⟨_, rfl, ?_⟩
  replace B0 := Aside0.mk (B0.out.trans (hb.mono B0.out.size))
  replace B2 := Aside0.mk (B2.out.trans (hb.mono B2.out.size))
  replace K_b2 := Aside0.mk ((hb.block _ (lt_blk K_b2.out)).trans K_b2.out)
  replace K_b3 := Aside0.mk ((hb.block _ (lt_blk K_b3.out)).trans K_b3.out)
  replace K_b6 := Aside0.mk ((hb.block _ (lt_blk K_b6.out)).trans K_b6.out)
  clear hb
  refine hK.out _ _ ⟨(blk_cell K_b6.out 0).trans rfl, (blk_cell K_b6.out 1).trans rfl, (blk_cell K_b6.out 2).trans rfl, (blk_cell K_b6.out 3).trans rfl, (blk_cell K_b6.out 4).trans rfl, (blk_cell K_b6.out 5).trans rfl, (blk_cell K_b3.out 0).trans rfl, (blk_cell K_b3.out 1).trans rfl, (blk_cell K_b3.out 2).trans rfl, (blk_cell K_b3.out 3).trans rfl, (blk_cell K_b3.out 4).trans rfl, (blk_cell K_b3.out 5).trans rfl⟩ (fun hHeld => ?_)
  clear hK K
  refine norm_ (a' := ?_) ?_ ?_
  rotate_left
  · show Act.put _ (some 15) _ = _
    simp only [Act.put, List.setIfInBounds_toArray, List.set_cons_zero, List.set_cons_succ, i64_w, i32_w]
    rfl
  refine one_ (i := 6) (N := some 16) #[true, true, true, true, true, true, true, true, true, false, false, false, false, false, false, false, false, false, false, false, false, false, false, false, false, false] rfl rfl (by kernel_rfl) (by decide) (fun K hK => ?_)
  refine goes_ Try.func13 (by kernel_rfl) rfl #[.agg #[.string d0, .string d1, .string d2]] (by rfl) rfl rfl (by (try simp only [List.map_toArray, List.map_cons, List.map_nil]); first | done | rfl) ?_
  with_reducible refine (tag_calls d0 d1 d2 _).mono ?_
  rintro e w13 ⟨rfl, hb⟩
  refine ⟨_, rfl, ?_⟩
  replace B0 := Aside0.mk (B0.out.trans (hb.mono B0.out.size))
  replace B2 := Aside0.mk (B2.out.trans (hb.mono B2.out.size))
  replace K_b2 := Aside0.mk ((hb.block _ (lt_blk K_b2.out)).trans K_b2.out)
  replace K_b3 := Aside0.mk ((hb.block _ (lt_blk K_b3.out)).trans K_b3.out)
  replace K_b6 := Aside0.mk ((hb.block _ (lt_blk K_b6.out)).trans K_b6.out)
  clear hb
  refine hK.out _ _ ⟨(blk_cell K_b6.out 0).trans rfl, (blk_cell K_b6.out 1).trans rfl, (blk_cell K_b6.out 2).trans rfl, (blk_cell K_b6.out 3).trans rfl, (blk_cell K_b6.out 4).trans rfl, (blk_cell K_b6.out 5).trans rfl, (blk_cell K_b3.out 0).trans rfl, (blk_cell K_b3.out 1).trans rfl, (blk_cell K_b3.out 2).trans rfl, (blk_cell K_b3.out 3).trans rfl, (blk_cell K_b3.out 4).trans rfl, (blk_cell K_b3.out 5).trans rfl⟩ (fun hHeld => ?_)
  clear hK K
  refine norm_ (a' := ?_) ?_ ?_
  rotate_left
  · show Act.put _ (some 16) _ = _
    simp only [Act.put, List.setIfInBounds_toArray, List.set_cons_zero, List.set_cons_succ, i64_w, i32_w]
    rfl
  refine one_ (i := 9) (N := some 19) #[true, true, true, true, true, true, true, true, true, true, false, false, false, false, false, false, false, false, false, false, false, false, false, false, false, false] rfl rfl (by kernel_rfl) (by decide) (fun K hK => ?_)
  refine goes_ Try.func14 (by kernel_rfl) rfl #[.agg #[.int .i64 S0, .int .i64 S1, .int .i64 S2]] (by rfl) rfl rfl (by (try simp only [List.map_toArray, List.map_cons, List.map_nil]); first | done | rfl) ?_
  with_reducible refine (isoglosslaw22_plain.calls S0 S1 S2 e0 e1 e2 _ HE.out).mono ?_
  rintro e w14 ⟨rfl, hb⟩
  refine ⟨_, rfl, ?_⟩
  replace B0 := Aside0.mk (B0.out.trans (hb.mono B0.out.size))
  replace B2 := Aside0.mk (B2.out.trans (hb.mono B2.out.size))
  replace K_b2 := Aside0.mk ((hb.block _ (lt_blk K_b2.out)).trans K_b2.out)
  replace K_b3 := Aside0.mk ((hb.block _ (lt_blk K_b3.out)).trans K_b3.out)
  replace K_b6 := Aside0.mk ((hb.block _ (lt_blk K_b6.out)).trans K_b6.out)
  clear hb
  refine hK.out _ _ ⟨(blk_cell K_b6.out 0).trans rfl, (blk_cell K_b6.out 1).trans rfl, (blk_cell K_b6.out 2).trans rfl, (blk_cell K_b6.out 3).trans rfl, (blk_cell K_b6.out 4).trans rfl, (blk_cell K_b6.out 5).trans rfl, (blk_cell K_b3.out 0).trans rfl, (blk_cell K_b3.out 1).trans rfl, (blk_cell K_b3.out 2).trans rfl, (blk_cell K_b3.out 3).trans rfl, (blk_cell K_b3.out 4).trans rfl, (blk_cell K_b3.out 5).trans rfl⟩ (fun hHeld => ?_)
  clear hK K
  refine norm_ (a' := ?_) ?_ ?_
  rotate_left
  · show Act.put _ (some 19) _ = _
    simp only [Act.put, List.setIfInBounds_toArray, List.set_cons_zero, List.set_cons_succ, i64_w, i32_w]
    rfl
  refine one_ (i := 10) (N := some 20) #[true, true, true, true, true, true, true, true, true, true, true, false, false, false, false, false, false, false, false, false, false, false, false, false, false, false] rfl rfl (by kernel_rfl) (by decide) (fun K hK => ?_)
  refine goes_ Try.func13 (by kernel_rfl) rfl #[.agg #[.string e0, .string e1, .string e2]] (by rfl) rfl rfl (by (try simp only [List.map_toArray, List.map_cons, List.map_nil]); first | done | rfl) ?_
  with_reducible refine (tag_calls e0 e1 e2 _).mono ?_
  rintro e w15 ⟨rfl, hb⟩
  refine ⟨_, rfl, ?_⟩
  replace B0 := Aside0.mk (B0.out.trans (hb.mono B0.out.size))
  replace B2 := Aside0.mk (B2.out.trans (hb.mono B2.out.size))
  replace K_b2 := Aside0.mk ((hb.block _ (lt_blk K_b2.out)).trans K_b2.out)
  replace K_b3 := Aside0.mk ((hb.block _ (lt_blk K_b3.out)).trans K_b3.out)
  replace K_b6 := Aside0.mk ((hb.block _ (lt_blk K_b6.out)).trans K_b6.out)
  clear hb
  refine hK.out _ _ ⟨(blk_cell K_b6.out 0).trans rfl, (blk_cell K_b6.out 1).trans rfl, (blk_cell K_b6.out 2).trans rfl, (blk_cell K_b6.out 3).trans rfl, (blk_cell K_b6.out 4).trans rfl, (blk_cell K_b6.out 5).trans rfl, (blk_cell K_b3.out 0).trans rfl, (blk_cell K_b3.out 1).trans rfl, (blk_cell K_b3.out 2).trans rfl, (blk_cell K_b3.out 3).trans rfl, (blk_cell K_b3.out 4).trans rfl, (blk_cell K_b3.out 5).trans rfl⟩ (fun hHeld => ?_)
  clear hK K
  refine norm_ (a' := ?_) ?_ ?_
  rotate_left
  · show Act.put _ (some 20) _ = _
    simp only [Act.put, List.setIfInBounds_toArray, List.set_cons_zero, List.set_cons_succ, i64_w, i32_w]
    rfl
  refine one_ (i := 11) (N := some 21) #[true, true, true, true, true, true, true, true, true, true, true, true, false, false, false, false, false, false, false, false, false, false, false, false, false, false] rfl rfl (by kernel_rfl) (by decide) (fun K hK => ?_)
  refine goes_ Try.func19 (by kernel_rfl) rfl #[.agg #[.slice A4 r1.length c4, .slice A5 r2.length c5, .slice A6 r3.length c6, .slice A7 r4.length c7, .int .i64 r5, .int .i64 r6], .agg #[.string d0, .slice none 0 0, .string d1, .string d2, .slice none 0 0, .slice none 0 0, .slice none 0 0, .string ⟨#[]⟩], .agg #[.string e0, .slice none 0 0, .string e1, .string e2, .slice none 0 0, .slice none 0 0, .slice none 0 0, .string ⟨#[]⟩]] (by rfl) rfl rfl (by (try simp only [List.map_toArray, List.map_cons, List.map_nil]); first | done | rfl) ?_
  with_reducible refine (parts_calls A4 r1.length c4 A5 c5 r2 A6 c6 r3 A7 c7 r4 r5 r6 d0 d1 d2 ⟨#[]⟩ none 0 0 none 0 0 none 0 0 none 0 0 e0 e1 e2 ⟨#[]⟩ none 0 0 none 0 0 none 0 0 none 0 0 _ (Kd.C_below C1.out B2.out) (Kd.C_below C2.out B2.out) (Kd.C_below C3.out B2.out)).mono ?_
  rintro e w16 ⟨rfl, hb⟩
  refine ⟨_, rfl, ?_⟩
  replace B0 := Aside0.mk (B0.out.trans (hb.mono B0.out.size))
  replace B2 := Aside0.mk (B2.out.trans (hb.mono B2.out.size))
  replace K_b2 := Aside0.mk ((hb.block _ (lt_blk K_b2.out)).trans K_b2.out)
  replace K_b3 := Aside0.mk ((hb.block _ (lt_blk K_b3.out)).trans K_b3.out)
  replace K_b6 := Aside0.mk ((hb.block _ (lt_blk K_b6.out)).trans K_b6.out)
  clear hb
  refine hK.out _ _ ⟨(blk_cell K_b6.out 0).trans rfl, (blk_cell K_b6.out 1).trans rfl, (blk_cell K_b6.out 2).trans rfl, (blk_cell K_b6.out 3).trans rfl, (blk_cell K_b6.out 4).trans rfl, (blk_cell K_b6.out 5).trans rfl, (blk_cell K_b3.out 0).trans rfl, (blk_cell K_b3.out 1).trans rfl, (blk_cell K_b3.out 2).trans rfl, (blk_cell K_b3.out 3).trans rfl, (blk_cell K_b3.out 4).trans rfl, (blk_cell K_b3.out 5).trans rfl⟩ (fun hHeld => ?_)
  clear hK K
  refine norm_ (a' := ?_) ?_ ?_
  rotate_left
  · show Act.put _ (some 21) _ = _
    simp only [Act.put, List.setIfInBounds_toArray, List.set_cons_zero, List.set_cons_succ, i64_w, i32_w]
    rfl
  refine pure_ (i := 12) (N := some 22) (v := ?_) (a' := ?_) #[true, true, true, true, true, true, true, true, true, true, true, true, true, false, false, false, false, false, false, false, false, false, false, false, false, false] rfl rfl (by kernel_rfl) (fun _ _ _ h => h) (Or.inl ⟨by rfl, ?_⟩) ?_ ?_
  rotate_left
  · intro w'
    go_simp
    with_reducible rfl
  rotate_left
  · simp only [Act.put, List.setIfInBounds_toArray, List.set_cons_zero, List.set_cons_succ, i64_w, i32_w]
    rfl
  refine pure_ (i := 13) (N := some 23) (v := ?_) (a' := ?_) #[true, true, true, true, true, true, true, true, true, true, true, true, true, true, false, false, false, false, false, false, false, false, false, false, false, false] rfl rfl (by kernel_rfl) (fun _ _ _ h => h) (Or.inl ⟨by rfl, ?_⟩) ?_ ?_
  rotate_left
  · intro w'
    go_simp
    with_reducible rfl
  rotate_left
  · simp only [Act.put, List.setIfInBounds_toArray, List.set_cons_zero, List.set_cons_succ, i64_w, i32_w]
    rfl
  refine pure_ (i := 15) (N := some 25) (v := ?_) (a' := ?_) #[true, true, true, true, true, true, true, true, true, true, true, true, true, true, false, true, false, false, false, false, false, false, false, false, false, false] rfl rfl (by kernel_rfl) (fun _ _ _ h => h) (Or.inl ⟨by rfl, ?_⟩) ?_ ?_
  rotate_left
  · intro w'
    go_simp
    with_reducible rfl
  rotate_left
  · simp only [Act.put, List.setIfInBounds_toArray, List.set_cons_zero, List.set_cons_succ, i64_w, i32_w]
    rfl
  refine pure_ (i := 19) (N := some 29) (v := ?_) (a' := ?_) #[true, true, true, true, true, true, true, true, true, true, true, true, true, true, false, true, false, false, false, true, false, false, false, false, false, false] rfl rfl (by kernel_rfl) (fun _ _ _ h => h) (Or.inl ⟨by rfl, ?_⟩) ?_ ?_
  rotate_left
  · intro w'
    go_simp
    with_reducible rfl
  rotate_left
  · simp only [Act.put, List.setIfInBounds_toArray, List.set_cons_zero, List.set_cons_succ, i64_w, i32_w]
    rfl
  refine take_ (i := 16) (N := some 26) (v := ?_) (a' := ?_) #[true, true, true, true, true, true, true, true, true, true, true, true, true, true, false, true, true, false, false, true, false, false, false, false, false, false] rfl rfl (by kernel_rfl) (fun _ _ _ h => h) (Or.inl ⟨by rfl, ?_⟩) hHeld ?_ ?_
  rotate_left
  · rintro w' ⟨s0, s1, s2, s3, s4, s5, s6, s7, s8, s9, s10, s11⟩
    go_simp
    with_reducible rfl
  rotate_left
  · simp only [Act.put, List.setIfInBounds_toArray, List.set_cons_zero, List.set_cons_succ, i64_w, i32_w]
    rfl
  refine take_ (i := 20) (N := some 30) (v := ?_) (a' := ?_) #[true, true, true, true, true, true, true, true, true, true, true, true, true, true, false, true, true, false, false, true, true, false, false, false, false, false] rfl rfl (by kernel_rfl) (fun _ _ _ h => h) (Or.inl ⟨by rfl, ?_⟩) hHeld ?_ ?_
  rotate_left
  · rintro w' ⟨s0, s1, s2, s3, s4, s5, s6, s7, s8, s9, s10, s11⟩
    go_simp
    with_reducible rfl
  rotate_left
  · simp only [Act.put, List.setIfInBounds_toArray, List.set_cons_zero, List.set_cons_succ, i64_w, i32_w]
    rfl
  refine one_ (i := 14) (N := some 24) #[true, true, true, true, true, true, true, true, true, true, true, true, true, true, true, true, true, false, false, true, true, false, false, false, false, false] rfl rfl (by kernel_rfl) (by decide) (fun K hK => ?_)
  refine goes_ Try.func12 (by kernel_rfl) rfl #[] (by rfl) rfl rfl (by (try simp only [List.map_toArray, List.map_cons, List.map_nil]); first | done | rfl) ?_
  with_reducible refine (image_calls _).mono ?_
  rintro e w17 ⟨⟨B1, B2_, B3, B4, rfl, c2_, c3_, c4_⟩, hb⟩
  refine ⟨_, rfl, ?_⟩
  replace B0 := Aside0.mk (B0.out.trans (hb.mono B0.out.size))
  replace B2 := Aside0.mk (B2.out.trans (hb.mono B2.out.size))
  replace K_b2 := Aside0.mk ((hb.block _ (lt_blk K_b2.out)).trans K_b2.out)
  replace K_b3 := Aside0.mk ((hb.block _ (lt_blk K_b3.out)).trans K_b3.out)
  replace K_b6 := Aside0.mk ((hb.block _ (lt_blk K_b6.out)).trans K_b6.out)
  rw [imgV_eq]
  have Z1 := Aside0.mk c2_
  have Z2 := Aside0.mk c3_
  have Z3 := Aside0.mk c4_
  clear c2_ c3_ c4_
  clear hb
  have BZ := Aside0.mk (Below.refl w17.heap.size w17)
  refine hK.out _ _ ⟨(blk_cell K_b6.out 0).trans rfl, (blk_cell K_b6.out 1).trans rfl, (blk_cell K_b6.out 2).trans rfl, (blk_cell K_b6.out 3).trans rfl, (blk_cell K_b6.out 4).trans rfl, (blk_cell K_b6.out 5).trans rfl, (blk_cell K_b3.out 0).trans rfl, (blk_cell K_b3.out 1).trans rfl, (blk_cell K_b3.out 2).trans rfl, (blk_cell K_b3.out 3).trans rfl, (blk_cell K_b3.out 4).trans rfl, (blk_cell K_b3.out 5).trans rfl⟩ (fun hHeld => ?_)
  clear hK K
  refine norm_ (a' := ?_) ?_ ?_
  rotate_left
  · show Act.put _ (some 24) _ = _
    simp only [Act.put, List.setIfInBounds_toArray, List.set_cons_zero, List.set_cons_succ, i64_w, i32_w]
    rfl
  refine one_ (i := 17) (N := some 27) #[true, true, true, true, true, true, true, true, true, true, true, true, true, true, true, true, true, true, false, true, true, false, false, false, false, false] rfl rfl (by kernel_rfl) (by decide) (fun K hK => ?_)
  refine goes_ Try.func14 (by kernel_rfl) rfl #[.agg #[.int .i64 D0, .int .i64 D1, .int .i64 D2]] (by rfl) rfl rfl (by (try simp only [List.map_toArray, List.map_cons, List.map_nil]); first | done | rfl) ?_
  with_reducible refine (isoglosslaw22_plain.calls D0 D1 D2 d0 d1 d2 _ HD.out).mono ?_
  rintro e w18 ⟨rfl, hb⟩
  refine ⟨_, rfl, ?_⟩
  replace B0 := Aside0.mk (B0.out.trans (hb.mono B0.out.size))
  replace B2 := Aside0.mk (B2.out.trans (hb.mono B2.out.size))
  replace BZ := Aside0.mk (BZ.out.trans (hb.mono BZ.out.size))
  replace K_b2 := Aside0.mk ((hb.block _ (lt_blk K_b2.out)).trans K_b2.out)
  replace K_b3 := Aside0.mk ((hb.block _ (lt_blk K_b3.out)).trans K_b3.out)
  replace K_b6 := Aside0.mk ((hb.block _ (lt_blk K_b6.out)).trans K_b6.out)
  clear hb
  refine hK.out _ _ ⟨(blk_cell K_b6.out 0).trans rfl, (blk_cell K_b6.out 1).trans rfl, (blk_cell K_b6.out 2).trans rfl, (blk_cell K_b6.out 3).trans rfl, (blk_cell K_b6.out 4).trans rfl, (blk_cell K_b6.out 5).trans rfl, (blk_cell K_b3.out 0).trans rfl, (blk_cell K_b3.out 1).trans rfl, (blk_cell K_b3.out 2).trans rfl, (blk_cell K_b3.out 3).trans rfl, (blk_cell K_b3.out 4).trans rfl, (blk_cell K_b3.out 5).trans rfl⟩ (fun hHeld => ?_)
  clear hK K
  refine norm_ (a' := ?_) ?_ ?_
  rotate_left
  · show Act.put _ (some 27) _ = _
    simp only [Act.put, List.setIfInBounds_toArray, List.set_cons_zero, List.set_cons_succ, i64_w, i32_w]
    rfl
  refine one_ (i := 18) (N := some 28) #[true, true, true, true, true, true, true, true, true, true, true, true, true, true, true, true, true, true, true, true, true, false, false, false, false, false] rfl rfl (by kernel_rfl) (by decide) (fun K hK => ?_)
  refine goes_ Try.func13 (by kernel_rfl) rfl #[.agg #[.string d0, .string d1, .string d2]] (by rfl) rfl rfl (by (try simp only [List.map_toArray, List.map_cons, List.map_nil]); first | done | rfl) ?_
  with_reducible refine (tag_calls d0 d1 d2 _).mono ?_
  rintro e w19 ⟨rfl, hb⟩
  refine ⟨_, rfl, ?_⟩
  replace B0 := Aside0.mk (B0.out.trans (hb.mono B0.out.size))
  replace B2 := Aside0.mk (B2.out.trans (hb.mono B2.out.size))
  replace BZ := Aside0.mk (BZ.out.trans (hb.mono BZ.out.size))
  replace K_b2 := Aside0.mk ((hb.block _ (lt_blk K_b2.out)).trans K_b2.out)
  replace K_b3 := Aside0.mk ((hb.block _ (lt_blk K_b3.out)).trans K_b3.out)
  replace K_b6 := Aside0.mk ((hb.block _ (lt_blk K_b6.out)).trans K_b6.out)
  clear hb
  refine hK.out _ _ ⟨(blk_cell K_b6.out 0).trans rfl, (blk_cell K_b6.out 1).trans rfl, (blk_cell K_b6.out 2).trans rfl, (blk_cell K_b6.out 3).trans rfl, (blk_cell K_b6.out 4).trans rfl, (blk_cell K_b6.out 5).trans rfl, (blk_cell K_b3.out 0).trans rfl, (blk_cell K_b3.out 1).trans rfl, (blk_cell K_b3.out 2).trans rfl, (blk_cell K_b3.out 3).trans rfl, (blk_cell K_b3.out 4).trans rfl, (blk_cell K_b3.out 5).trans rfl⟩ (fun hHeld => ?_)
  clear hK K
  refine norm_ (a' := ?_) ?_ ?_
  rotate_left
  · show Act.put _ (some 28) _ = _
    simp only [Act.put, List.setIfInBounds_toArray, List.set_cons_zero, List.set_cons_succ, i64_w, i32_w]
    rfl
  refine one_ (i := 21) (N := some 31) #[true, true, true, true, true, true, true, true, true, true, true, true, true, true, true, true, true, true, true, true, true, true, false, false, false, false] rfl rfl (by kernel_rfl) (by decide) (fun K hK => ?_)
  refine goes_ Try.func14 (by kernel_rfl) rfl #[.agg #[.int .i64 S0, .int .i64 S1, .int .i64 S2]] (by rfl) rfl rfl (by (try simp only [List.map_toArray, List.map_cons, List.map_nil]); first | done | rfl) ?_
  with_reducible refine (isoglosslaw22_plain.calls S0 S1 S2 e0 e1 e2 _ HE.out).mono ?_
  rintro e w20 ⟨rfl, hb⟩
  refine ⟨_, rfl, ?_⟩
  replace B0 := Aside0.mk (B0.out.trans (hb.mono B0.out.size))
  replace B2 := Aside0.mk (B2.out.trans (hb.mono B2.out.size))
  replace BZ := Aside0.mk (BZ.out.trans (hb.mono BZ.out.size))
  replace K_b2 := Aside0.mk ((hb.block _ (lt_blk K_b2.out)).trans K_b2.out)
  replace K_b3 := Aside0.mk ((hb.block _ (lt_blk K_b3.out)).trans K_b3.out)
  replace K_b6 := Aside0.mk ((hb.block _ (lt_blk K_b6.out)).trans K_b6.out)
  clear hb
  refine hK.out _ _ ⟨(blk_cell K_b6.out 0).trans rfl, (blk_cell K_b6.out 1).trans rfl, (blk_cell K_b6.out 2).trans rfl, (blk_cell K_b6.out 3).trans rfl, (blk_cell K_b6.out 4).trans rfl, (blk_cell K_b6.out 5).trans rfl, (blk_cell K_b3.out 0).trans rfl, (blk_cell K_b3.out 1).trans rfl, (blk_cell K_b3.out 2).trans rfl, (blk_cell K_b3.out 3).trans rfl, (blk_cell K_b3.out 4).trans rfl, (blk_cell K_b3.out 5).trans rfl⟩ (fun hHeld => ?_)
  clear hK K
  refine norm_ (a' := ?_) ?_ ?_
  rotate_left
  · show Act.put _ (some 31) _ = _
    simp only [Act.put, List.setIfInBounds_toArray, List.set_cons_zero, List.set_cons_succ, i64_w, i32_w]
    rfl
  refine one_ (i := 22) (N := some 32) #[true, true, true, true, true, true, true, true, true, true, true, true, true, true, true, true, true, true, true, true, true, true, true, false, false, false] rfl rfl (by kernel_rfl) (by decide) (fun K hK => ?_)
  refine goes_ Try.func13 (by kernel_rfl) rfl #[.agg #[.string e0, .string e1, .string e2]] (by rfl) rfl rfl (by (try simp only [List.map_toArray, List.map_cons, List.map_nil]); first | done | rfl) ?_
  with_reducible refine (tag_calls e0 e1 e2 _).mono ?_
  rintro e w21 ⟨rfl, hb⟩
  refine ⟨_, rfl, ?_⟩
  replace B0 := Aside0.mk (B0.out.trans (hb.mono B0.out.size))
  replace B2 := Aside0.mk (B2.out.trans (hb.mono B2.out.size))
  replace BZ := Aside0.mk (BZ.out.trans (hb.mono BZ.out.size))
  replace K_b2 := Aside0.mk ((hb.block _ (lt_blk K_b2.out)).trans K_b2.out)
  replace K_b3 := Aside0.mk ((hb.block _ (lt_blk K_b3.out)).trans K_b3.out)
  replace K_b6 := Aside0.mk ((hb.block _ (lt_blk K_b6.out)).trans K_b6.out)
  clear hb
  refine hK.out _ _ ⟨(blk_cell K_b6.out 0).trans rfl, (blk_cell K_b6.out 1).trans rfl, (blk_cell K_b6.out 2).trans rfl, (blk_cell K_b6.out 3).trans rfl, (blk_cell K_b6.out 4).trans rfl, (blk_cell K_b6.out 5).trans rfl, (blk_cell K_b3.out 0).trans rfl, (blk_cell K_b3.out 1).trans rfl, (blk_cell K_b3.out 2).trans rfl, (blk_cell K_b3.out 3).trans rfl, (blk_cell K_b3.out 4).trans rfl, (blk_cell K_b3.out 5).trans rfl⟩ (fun hHeld => ?_)
  clear hK K
  refine norm_ (a' := ?_) ?_ ?_
  rotate_left
  · show Act.put _ (some 32) _ = _
    simp only [Act.put, List.setIfInBounds_toArray, List.set_cons_zero, List.set_cons_succ, i64_w, i32_w]
    rfl
  refine one_ (i := 23) (N := some 33) #[true, true, true, true, true, true, true, true, true, true, true, true, true, true, true, true, true, true, true, true, true, true, true, true, false, false] rfl rfl (by kernel_rfl) (by decide) (fun K hK => ?_)
  refine goes_ Try.func19 (by kernel_rfl) rfl #[.agg #[.slice (some ⟨B1, 0, none⟩) 54 54, .slice (some ⟨B2_, 0, none⟩) dRows.length 32, .slice (some ⟨B3, 0, none⟩) dRules.length 15, .slice (some ⟨B4, 0, none⟩) dMembers.length 7, .int .i64 40, .int .i64 5], .agg #[.string d0, .slice none 0 0, .string d1, .string d2, .slice none 0 0, .slice none 0 0, .slice none 0 0, .string ⟨#[]⟩], .agg #[.string e0, .slice none 0 0, .string e1, .string e2, .slice none 0 0, .slice none 0 0, .slice none 0 0, .string ⟨#[]⟩]] (by rfl) rfl rfl (by (try simp only [List.map_toArray, List.map_cons, List.map_nil]); first | done | rfl) ?_
  with_reducible refine (parts_calls (some ⟨B1, 0, none⟩) 54 54 (some ⟨B2_, 0, none⟩) 32 dRows (some ⟨B3, 0, none⟩) 15 dRules (some ⟨B4, 0, none⟩) 7 dMembers 40 5 d0 d1 d2 ⟨#[]⟩ none 0 0 none 0 0 none 0 0 none 0 0 e0 e1 e2 ⟨#[]⟩ none 0 0 none 0 0 none 0 0 none 0 0 _ (Kd.C_below Z1.out BZ.out) (Kd.C_below Z2.out BZ.out) (Kd.C_below Z3.out BZ.out)).mono ?_
  rintro e w22 ⟨rfl, hb⟩
  refine ⟨_, rfl, ?_⟩
  replace B0 := Aside0.mk (B0.out.trans (hb.mono B0.out.size))
  replace B2 := Aside0.mk (B2.out.trans (hb.mono B2.out.size))
  replace BZ := Aside0.mk (BZ.out.trans (hb.mono BZ.out.size))
  replace K_b2 := Aside0.mk ((hb.block _ (lt_blk K_b2.out)).trans K_b2.out)
  replace K_b3 := Aside0.mk ((hb.block _ (lt_blk K_b3.out)).trans K_b3.out)
  replace K_b6 := Aside0.mk ((hb.block _ (lt_blk K_b6.out)).trans K_b6.out)
  clear hb
  refine hK.out _ _ ⟨(blk_cell K_b6.out 0).trans rfl, (blk_cell K_b6.out 1).trans rfl, (blk_cell K_b6.out 2).trans rfl, (blk_cell K_b6.out 3).trans rfl, (blk_cell K_b6.out 4).trans rfl, (blk_cell K_b6.out 5).trans rfl, (blk_cell K_b3.out 0).trans rfl, (blk_cell K_b3.out 1).trans rfl, (blk_cell K_b3.out 2).trans rfl, (blk_cell K_b3.out 3).trans rfl, (blk_cell K_b3.out 4).trans rfl, (blk_cell K_b3.out 5).trans rfl⟩ (fun hHeld => ?_)
  clear hK K
  refine norm_ (a' := ?_) ?_ ?_
  rotate_left
  · show Act.put _ (some 33) _ = _
    simp only [Act.put, List.setIfInBounds_toArray, List.set_cons_zero, List.set_cons_succ, i64_w, i32_w]
    rfl
  refine pure_ (i := 24) (N := some 34) (v := ?_) (a' := ?_) #[true, true, true, true, true, true, true, true, true, true, true, true, true, true, true, true, true, true, true, true, true, true, true, true, true, false] rfl rfl (by kernel_rfl) (fun _ _ _ h => h) (Or.inl ⟨by rfl, ?_⟩) ?_ ?_
  rotate_left
  · intro w'
    go_simp
    with_reducible rfl
  rotate_left
  · simp only [Act.put, List.setIfInBounds_toArray, List.set_cons_zero, List.set_cons_succ, i64_w, i32_w]
    rfl
  refine pure_ (i := 25) (N := some 4) (v := ?_) (a' := ?_) #[true, true, true, true, true, true, true, true, true, true, true, true, true, true, true, true, true, true, true, true, true, true, true, true, true, true] rfl rfl (by kernel_rfl) (fun _ _ _ h => h) (Or.inl ⟨by rfl, ?_⟩) ?_ ?_
  rotate_left
  · intro w'
    go_simp
    with_reducible rfl
  rotate_left
  · simp only [Act.put, List.setIfInBounds_toArray, List.set_cons_zero, List.set_cons_succ, i64_w, i32_w]
    rfl
  refine done_ (by kernel_rfl) ?_
  go_wp2
  go_ret
  exact ⟨by simp, B0.out⟩
end Go.Proofs.Ytdjbanhoejegjaa.LikW
