/- The law DistanceBack, walked. -/
import Derived.Test.YtdjbanhoejegjaaDbSumP
import Derived.Test.YtdjbanhoejegjaaDbP5
import Derived.Test.YtdjbanhoejegjaaDbP11
import Derived.Test.YtdjbanhoejegjaaDbAwake
import Derived.Test.YtdjbanhoejegjaaDbMade06
import Derived.Test.YtdjbanhoejegjaaDbTags
namespace Go.Proofs.Ytdjbanhoejegjaa.LikW
open Go.RowKit Go.Proofs.YtdjbanhoejegjaaW.PrintWords Go.Proofs.YtdjbanhoejegjaaW.PrintLast Go.Proofs.Ytdjbanhoejegjaa.P
set_option linter.unusedVariables false
set_option linter.unusedSimpArgs false

def clrR (x : S53) : S53 := ⟨x.f0, x.f1, false, x.f3, x.f4⟩
def clrs (rs : List S53) (i : Nat) : List S53 := (rs.take i).map clrR ++ rs.drop i
theorem clrs_len (rs : List S53) (i : Nat) : (clrs rs i).length = rs.length := by
  unfold clrs
  rw [List.length_append, List.length_map, ← List.length_append, List.take_append_drop]
theorem clrs_set (rs : List S53) (i : Nat) (h : i < rs.length) : (clrs rs i).set i (clrR (rs[i]'h)) = clrs rs (i + 1) := by
  have hl : ((rs.take i).map clrR).length = i := by rw [List.length_map, List.length_take]; omega
  unfold clrs
  rw [List.set_append_right _ _ (by omega), hl, Nat.sub_self, List.drop_eq_getElem_cons h, List.set_cons_zero, List.take_succ_eq_append_getElem h, List.map_append, List.append_assoc]
  rfl
theorem clrs_at (rs : List S53) (i : Nat) (h : i < rs.length) (z : S53) : (clrs rs i).getD i z = rs[i]'h := by
  have hl : ((rs.take i).map clrR).length = i := by rw [List.length_map, List.length_take]; omega
  unfold clrs
  rw [List.getD_eq_getElem?_getD, List.getElem?_append_right (by omega), hl, Nat.sub_self, List.drop_eq_getElem_cons h]
  rfl
theorem clrs_all (rs : List S53) : ∀ x ∈ clrs rs rs.length, x.f2 = false := by
  intro x hx
  unfold clrs at hx
  rw [List.take_length, List.drop_length, List.append_nil] at hx
  obtain ⟨y, _, rfl⟩ := List.mem_map.1 hx
  rfl
theorem R_putT {α : Type} {d : Kd α} {e : Nat} {w w1 : World} {base : Nat} {ok : Nat → Prop} {v : Value} {xs : List α} {g t : Nat} {cells : Array Value} (h : d.R e w base ok v xs) (hp : Put g w w1) (hb : w.heap[g]? = some (.cells cells t (0, 0))) (ht : ∀ q, q ∈ e :: d.E → q ≠ t) : d.R e w1 base ok v xs :=
  Kd.R_mono (Kd.R_step (Kd.R_types h hb ht) (fun k hk _ => hp.far k hk.2)) (fun _ hk => hk.1)
theorem R_grownT {α : Type} {d : Kd α} {e : Nat} {w w1 : World} {base : Nat} {ok : Nat → Prop} {v : Value} {xs : List α} {g t : Nat} {cells : Array Value} (h : d.R e w base ok v xs) (hg : w.grownBy w1 (some g)) (hb : w.heap[g]? = some (.cells cells t (0, 0))) (ht : ∀ q, q ∈ e :: d.E → q ≠ t) : d.R e w1 base ok v xs :=
  Kd.R_mono (Kd.R_grown (Kd.R_types h hb ht) hg (fun k hk he => hk.2 (by injection he))) (fun _ hk => hk.1)
theorem R_addr {α : Type} {d : Kd α} {e : Nat} {w : World} {base : Nat} {ok : Nat → Prop} {A : Option Addr} {n c : Nat} {xs : List α} (h : d.R e w base ok (.slice A n c) xs) (hn : 0 < n) : ∃ (g : Nat) (cells : Array Value), A = some ⟨g, 0, none⟩ ∧ w.heap[g]? = some (.cells cells e (0, 0)) := by
  obtain ⟨inner, ho⟩ := Kd.R_own h
  rcases ho.2 with ⟨hv, h0⟩ | ⟨g, cap, cur, hv, _, hh, _⟩
  · injection hv with _ hn0 _
    omega
  · injection hv with hA _ _
    exact ⟨g, cur, hA, hh⟩
theorem ne_ty {w : World} {g b : Nat} {c1 c2 : Array Value} {t1 t2 : TypeId} (h1 : w.heap[g]? = some (.cells c1 t1 (0, 0))) (h2 : w.heap[b]? = some (.cells c2 t2 (0, 0))) (hne : t1 ≠ t2) : some g ≠ some b := by
  intro e
  injection e with e
  subst e
  rw [h1] at h2
  injection h2 with h2
  injection h2 with _ h2
  exact hne h2
theorem both_eq (l : List S66) (rs : List S53) (ms : List S69) (a b : K3) (hr : ∀ x ∈ rs, x.f2 = false) (N : Int) (h : sumP rs ms (plP l a) (plP l b) 3 = N) : sumP rs ms (plP l b) (plP l a) 3 = N := by
  rw [sum_back rs ms (plP l b) (plP l a) hr 3 (Nat.le_refl 3)]
  exact h
theorem cz16 {W : World} {g : Nat} {t : TypeId} {v0 v1 v2 v3 v4 v5 v6 v7 v8 v9 v10 v11 v12 v13 v14 v15 : Value} (h : W.heap[g]? = some (.cells #[v0, v1, v2, v3, v4, v5, v6, v7, v8, v9, v10, v11, v12, v13, v14, v15] t (0, 0))) : W.cell? ⟨g, 0, none⟩ = some v0 ∧ W.cell? ⟨g, 1, none⟩ = some v1 ∧ W.cell? ⟨g, 2, none⟩ = some v2 ∧ W.cell? ⟨g, 3, none⟩ = some v3 ∧ W.cell? ⟨g, 4, none⟩ = some v4 ∧ W.cell? ⟨g, 5, none⟩ = some v5 ∧ W.cell? ⟨g, 6, none⟩ = some v6 ∧ W.cell? ⟨g, 7, none⟩ = some v7 ∧ W.cell? ⟨g, 8, none⟩ = some v8 ∧ W.cell? ⟨g, 9, none⟩ = some v9 ∧ W.cell? ⟨g, 10, none⟩ = some v10 ∧ W.cell? ⟨g, 11, none⟩ = some v11 ∧ W.cell? ⟨g, 12, none⟩ = some v12 ∧ W.cell? ⟨g, 13, none⟩ = some v13 ∧ W.cell? ⟨g, 14, none⟩ = some v14 ∧ W.cell? ⟨g, 15, none⟩ = some v15 := ⟨(blk_cell h 0).trans rfl, (blk_cell h 1).trans rfl, (blk_cell h 2).trans rfl, (blk_cell h 3).trans rfl, (blk_cell h 4).trans rfl, (blk_cell h 5).trans rfl, (blk_cell h 6).trans rfl, (blk_cell h 7).trans rfl, (blk_cell h 8).trans rfl, (blk_cell h 9).trans rfl, (blk_cell h 10).trans rfl, (blk_cell h 11).trans rfl, (blk_cell h 12).trans rfl, (blk_cell h 13).trans rfl, (blk_cell h 14).trans rfl, (blk_cell h 15).trans rfl⟩
theorem dist_n (A0 : Option Addr) (n0 c0 : Nat) (A1 : Option Addr) (c1 : Nat) (l : List S66) (A2 : Option Addr) (c2 : Nat) (rs : List S53) (A3 : Option Addr) (c3 : Nat) (ms : List S69) (p q : Int) (aL aS aR aG : ByteArray) (Ea0 : Option Addr) (ma0 da0 : Nat) (Ea1 : Option Addr) (ma1 da1 : Nat) (Ea2 : Option Addr) (ma2 da2 : Nat) (Ea3 : Option Addr) (ma3 da3 : Nat) (bL bS bR bG : ByteArray) (Eb0 : Option Addr) (mb0 db0 : Nat) (Eb1 : Option Addr) (mb1 db1 : Nat) (Eb2 : Option Addr) (mb2 db2 : Nat) (Eb3 : Option Addr) (mb3 db3 : Nat) (N : Int) (hN : sumP rs ms (plP l (aL, aS, aR)) (plP l (bL, bS, bR)) 3 = N) (w : World) (hL : Kd.C k66 w A1 l.length l) (hR : Kd.C k53 w A2 rs.length rs) (hM : Kd.C k69 w A3 ms.length ms) :
    Calls Try.prog 16 #[.agg #[.slice A0 n0 c0, .slice A1 l.length c1, .slice A2 rs.length c2, .slice A3 ms.length c3, .int .i64 p, .int .i64 q], .agg #[.string aL, .slice Ea0 ma0 da0, .string aS, .string aR, .slice Ea1 ma1 da1, .slice Ea2 ma2 da2, .slice Ea3 ma3 da3, .string aG], .agg #[.string bL, .slice Eb0 mb0 db0, .string bS, .string bR, .slice Eb1 mb1 db1, .slice Eb2 mb2 db2, .slice Eb3 mb3 db3, .string bG]] w fun e w' => e = .returned (.int .i64 N) ∧ Below w.heap.size w w' :=
  hN ▸ dist_calls A0 n0 c0 A1 c1 l A2 c2 rs A3 c3 ms p q aL aS aR aG Ea0 ma0 da0 Ea1 ma1 da1 Ea2 ma2 da2 Ea3 ma3 da3 bL bS bR bG Eb0 mb0 db0 Eb1 mb1 db1 Eb2 mb2 db2 Eb3 mb3 db3 w hL hR hM
theorem k53sz : k53.sz = 9 := rfl
set_option maxRecDepth 100000 in
set_option maxHeartbeats 8000000 in
theorem back_calls (k : Nat) (A0 : Option Addr) (c0 : Nat) (l0 : List S62) (A1 : Option Addr) (c1 : Nat) (l1 : List Int) (A2 : Option Addr) (c2 : Nat) (l2 : List Int) (A3 : Option Addr) (c3 : Nat) (l3 : List Int) (th de od : Int) (r1 : List S59) (r2 : List S66) (r3 : List S53) (r4 : List S69) (r5 r6 : Int)
    (f0 f1 f2 f3 f7 : Int) (Af4 : Option Addr) (cf4 : Nat) (lf4 : List Int) (Af5 : Option Addr) (cf5 : Nat) (lf5 : List Int) (Af6 : Option Addr) (cf6 : Nat) (lf6 : List Int) (g0 g1 g2 g3 g7 : Int) (Ag4 : Option Addr) (cg4 : Nat) (lg4 : List Int) (Ag5 : Option Addr) (cg5 : Nat) (lg5 : List Int) (Ag6 : Option Addr) (cg6 : Nat) (lg6 : List Int) (D0 D1 D2 S0 S1 S2 P0 P1 P2 lvn : Int) (T0 T1 T2 : ByteArray) (d0 d1 d2 e0 e1 e2 : ByteArray) (w : World)
    (hC0 : Kd.C k62 w A0 l0.length l0) (hc0 : l0.length ≤ c0) (hC1 : Kd.C (Kd.int .i64) w A1 l1.length l1) (hc1 : l1.length ≤ c1) (hC2 : Kd.C (Kd.int .i64) w A2 l2.length l2) (hc2 : l2.length ≤ c2) (hC3 : Kd.C (Kd.int .i64) w A3 l3.length l3) (hc3 : l3.length ≤ c3)
    (hM : isoglossref13_Made.f k l0 l1 l2 l3 th de od = some (r1, r2, r3, r4, r5, r6)) (hl3 : r3.length ≤ 1000) (hD : isoglosslaw22_plain.f D0 D1 D2 = some (d0, d1, d2)) (hE : isoglosslaw22_plain.f S0 S1 S2 = some (e0, e1, e2))
    (hf4 : Kd.C (Kd.int .i64) w Af4 lf4.length lf4) (hf5 : Kd.C (Kd.int .i64) w Af5 lf5.length lf5) (hf6 : Kd.C (Kd.int .i64) w Af6 lf6.length lf6) (hg4 : Kd.C (Kd.int .i64) w Ag4 lg4.length lg4) (hg5 : Kd.C (Kd.int .i64) w Ag5 lg5.length lg5) (hg6 : Kd.C (Kd.int .i64) w Ag6 lg6.length lg6) :
    Calls Try.prog 5 #[.agg #[.slice A0 l0.length c0, .slice A1 l1.length c1, .slice A2 l2.length c2, .slice A3 l3.length c3, .int .i64 th, .int .i64 de, .int .i64 od], .agg #[.int .i64 f0, .int .i64 f1, .int .i64 f2, .int .i64 f3, .slice Af4 lf4.length cf4, .slice Af5 lf5.length cf5, .slice Af6 lf6.length cf6, .int .i64 f7, .int .i64 g0, .int .i64 g1, .int .i64 g2, .int .i64 g3, .slice Ag4 lg4.length cg4, .slice Ag5 lg5.length cg5, .slice Ag6 lg6.length cg6, .int .i64 g7], .agg #[.int .i64 D0, .int .i64 D1, .int .i64 D2, .int .i64 S0, .int .i64 S1, .int .i64 S2, .int .i64 P0, .int .i64 P1, .int .i64 P2, .int .i64 lvn, .string T0, .string T1, .string T2]] w fun e w' => e = .returned (.bool true) ∧ Below w.heap.size w w' := by
  have hu25 := Try.underlying25
  have hu28 := Try.underlying28
  have hu27 := Try.underlying27
  have hu32 := Try.underlying32
  have hu29 := Try.underlying29
  have hu30 := Try.underlying30
  have hu39 := Try.underlying39
  have hu44 := Try.underlying44
  have hu53 := Try.underlying53
  have X0 := Aside0.mk hC0
  have X1 := Aside0.mk hC1
  have X2 := Aside0.mk hC2
  have X3 := Aside0.mk hC3
  have Q0 := Aside0.mk hc0
  have Q1 := Aside0.mk hc1
  have Q2 := Aside0.mk hc2
  have Q3 := Aside0.mk hc3
  have HM := Aside0.mk hM
  have HL3 := Aside0.mk hl3
  have HD := Aside0.mk hD
  have HE := Aside0.mk hE
  have Yf4 := Aside0.mk hf4
  have Yf5 := Aside0.mk hf5
  have Yf6 := Aside0.mk hf6
  have Yg4 := Aside0.mk hg4
  have Yg5 := Aside0.mk hg5
  have Yg6 := Aside0.mk hg6
  have B0 := Aside0.mk (Below.refl w.heap.size w)
  clear hC0 hC1 hC2 hC3 hc0 hc1 hc2 hc3 hM hl3 hD hE hf4 hf5 hf6 hg4 hg5 hg6
  go_enter Try.func5, Try.ntmps5
  go_wp2_with (first
      | ((with_reducible refine gate_dst (N := 3) rfl ?_); refine box_event ?hg (N := 3) ?hd (cs := #[.slice A0 l0.length c0, .slice A1 l1.length c1, .slice A2 l2.length c2, .slice A3 l3.length c3, .int .i64 th, .int .i64 de, .int .i64 od]) (t := 25) ?hr ?_; (case hd => rfl); (case hg => rfl); (case hr => first | (go_simp; done) | (go_simp; rfl)); intro b3 hg w01 hbox hb; have G_b3 := Aside0.mk (show w.heap.size ≤ b3 by rw [hg]; exact B0.out.size); replace B0 := Aside0.mk (B0.out.trans (hb.mono B0.out.size)); have K_b3 := Aside0.mk hbox; clear hb hbox hg)
      | ((with_reducible refine gate_dst (N := 4) rfl ?_); refine box_event ?hg (N := 4) ?hd (cs := #[.int .i64 f0, .int .i64 f1, .int .i64 f2, .int .i64 f3, .slice Af4 lf4.length cf4, .slice Af5 lf5.length cf5, .slice Af6 lf6.length cf6, .int .i64 f7, .int .i64 g0, .int .i64 g1, .int .i64 g2, .int .i64 g3, .slice Ag4 lg4.length cg4, .slice Ag5 lg5.length cg5, .slice Ag6 lg6.length cg6, .int .i64 g7]) (t := 28) ?hr ?_; (case hd => rfl); (case hg => rfl); (case hr => first | (go_simp; done) | (go_simp; rfl)); intro b4 hg w02 hbox hb; have N_b3_b4 := Aside0.mk (show b3 ≠ b4 by rw [hg]; exact Nat.ne_of_lt (lt_blk K_b3.out)); have G_b4 := Aside0.mk (show w.heap.size ≤ b4 by rw [hg]; exact B0.out.size); replace B0 := Aside0.mk (B0.out.trans (hb.mono B0.out.size)); replace K_b3 := Aside0.mk ((hb.block _ (lt_blk K_b3.out)).trans K_b3.out); have K_b4 := Aside0.mk hbox; clear hb hbox hg)
      | ((with_reducible refine gate_dst (N := 5) rfl ?_); refine box_event ?hg (N := 5) ?hd (cs := #[.int .i64 D0, .int .i64 D1, .int .i64 D2, .int .i64 S0, .int .i64 S1, .int .i64 S2, .int .i64 P0, .int .i64 P1, .int .i64 P2, .int .i64 lvn, .string T0, .string T1, .string T2]) (t := 32) ?hr ?_; (case hd => rfl); (case hg => rfl); (case hr => first | (go_simp; done) | (go_simp; rfl)); intro b5 hg w03 hbox hb; have N_b3_b5 := Aside0.mk (show b3 ≠ b5 by rw [hg]; exact Nat.ne_of_lt (lt_blk K_b3.out)); have N_b4_b5 := Aside0.mk (show b4 ≠ b5 by rw [hg]; exact Nat.ne_of_lt (lt_blk K_b4.out)); have G_b5 := Aside0.mk (show w.heap.size ≤ b5 by rw [hg]; exact B0.out.size); replace B0 := Aside0.mk (B0.out.trans (hb.mono B0.out.size)); replace K_b3 := Aside0.mk ((hb.block _ (lt_blk K_b3.out)).trans K_b3.out); replace K_b4 := Aside0.mk ((hb.block _ (lt_blk K_b4.out)).trans K_b4.out); have K_b5 := Aside0.mk hbox; clear hb hbox hg)
      | ((with_reducible refine gate_callee (f := 8) rfl ?_); refine goesL_ (some 14) rfl rfl Try.func8 (by kernel_rfl) rfl #[] rfl mq ?_; (with_reducible refine (awake_calls _).mono ?_); rintro e w1 ⟨rfl, hb⟩; refine ⟨_, rfl, ?_⟩; replace B0 := Aside0.mk (B0.out.trans (hb.mono B0.out.size)); replace K_b3 := Aside0.mk ((hb.block _ (lt_blk K_b3.out)).trans K_b3.out); replace K_b4 := Aside0.mk ((hb.block _ (lt_blk K_b4.out)).trans K_b4.out); replace K_b5 := Aside0.mk ((hb.block _ (lt_blk K_b5.out)).trans K_b5.out); clear hb; obtain ⟨y_b3_0, y_b3_1, y_b3_2, y_b3_3, y_b3_4, y_b3_5, y_b3_6⟩ := cz7 K_b3.out)
      | ((with_reducible refine gate_callee (f := 9) rfl ?_); refine goesL_ (some 16) rfl rfl Try.func9 (by kernel_rfl) rfl #[.agg #[.slice A0 l0.length c0, .slice A1 l1.length c1, .slice A2 l2.length c2, .slice A3 l3.length c3, .int .i64 th, .int .i64 de, .int .i64 od]] rfl mq ?_; (with_reducible refine (isoglossref13_Made.calls k A0 c0 l0 A1 c1 l1 A2 c2 l2 A3 c3 l3 th de od r1 r2 r3 r4 r5 r6 _ (Kd.C_below X0.out B0.out) Q0.out (Kd.C_below X1.out B0.out) Q1.out (Kd.C_below X2.out B0.out) Q2.out (Kd.C_below X3.out B0.out) Q3.out HM.out).mono ?_); rintro e w2 ⟨v0, v1, v2, v3, rfl, R0, R1, R2, R3, hb⟩; refine ⟨_, rfl, ?_⟩; clear y_b3_0 y_b3_1 y_b3_2 y_b3_3 y_b3_4 y_b3_5 y_b3_6; obtain ⟨A4, c4, e4⟩ := Kd.R_slice R0; subst e4; obtain ⟨A5, c5, e5⟩ := Kd.R_slice R1; subst e5; obtain ⟨A6, c6, e6⟩ := Kd.R_slice R2; subst e6; obtain ⟨A7, c7, e7⟩ := Kd.R_slice R3; subst e7; replace R1 := Aside0.mk (Kd.R_lower R1 B0.out.size); replace R2 := Aside0.mk (Kd.R_lower R2 B0.out.size); replace R3 := Aside0.mk (Kd.R_lower R3 B0.out.size); have M3 := Aside0.mk (Kd.R_reads' R2.out).2.2; have S02 := Aside0.mk (B0.out.trans (hb.mono B0.out.size)).size; clear R0; replace B0 := Aside0.mk (B0.out.trans (hb.mono B0.out.size)); replace K_b3 := Aside0.mk ((hb.block _ (lt_blk K_b3.out)).trans K_b3.out); replace K_b4 := Aside0.mk ((hb.block _ (lt_blk K_b4.out)).trans K_b4.out); replace K_b5 := Aside0.mk ((hb.block _ (lt_blk K_b5.out)).trans K_b5.out); clear hb)
      | ((with_reducible refine gate_dst (N := 8) rfl ?_); refine box_event ?hg (N := 8) ?hd (cs := #[.slice none 0 0, .slice none 0 0, .slice none 0 0, .slice none 0 0, .int .i64 0, .int .i64 0]) (t := 39) ?hr ?_; (case hd => rfl); (case hg => rfl); (case hr => first | (go_simp; done) | (go_simp; rfl)); intro b8 hg w3 hbox hb; have N_b3_b8 := Aside0.mk (show b3 ≠ b8 by rw [hg]; exact Nat.ne_of_lt (lt_blk K_b3.out)); have N_b4_b8 := Aside0.mk (show b4 ≠ b8 by rw [hg]; exact Nat.ne_of_lt (lt_blk K_b4.out)); have N_b5_b8 := Aside0.mk (show b5 ≠ b8 by rw [hg]; exact Nat.ne_of_lt (lt_blk K_b5.out)); have G_b8 := Aside0.mk (show w.heap.size ≤ b8 by rw [hg]; exact B0.out.size); replace R1 := Aside0.mk (Kd.R_below R1.out hb); replace R2 := Aside0.mk (Kd.R_below R2.out hb); replace R3 := Aside0.mk (Kd.R_below R3.out hb); replace B0 := Aside0.mk (B0.out.trans (hb.mono B0.out.size)); replace K_b3 := Aside0.mk ((hb.block _ (lt_blk K_b3.out)).trans K_b3.out); replace K_b4 := Aside0.mk ((hb.block _ (lt_blk K_b4.out)).trans K_b4.out); replace K_b5 := Aside0.mk ((hb.block _ (lt_blk K_b5.out)).trans K_b5.out); have K_b8 := Aside0.mk hbox; clear hb hbox hg)
      | ((with_reducible refine gate_ (.store 39 (.tmp 8) (.tmp 16)) rfl ?_); refine wpList_put (g := b8) (off := 0) (cur := #[.slice none 0 0, .slice none 0 0, .slice none 0 0, .slice none 0 0, .int .i64 0, .int .i64 0]) (new := #[.slice A4 r1.length c4, .slice A5 r2.length c5, .slice A6 r3.length c6, .slice A7 r4.length c7, .int .i64 r5, .int .i64 r6]) (seg := [.slice A4 r1.length c4, .slice A5 r2.length c5, .slice A6 r3.length c6, .slice A7 r4.length c7, .int .i64 r5, .int .i64 r6]) (u := .agg #[.slice A4 r1.length c4, .slice A5 r2.length c5, .slice A6 r3.length c6, .slice A7 r4.length c7, .int .i64 r5, .int .i64 r6]) rfl rfl rfl rfl rfl rfl (by kernel_rfl) rfl rfl (Nat.le_of_ble_eq_true rfl) K_b8.out ?_; intro w4 hk hp; replace R1 := Aside0.mk (R_putT R1.out hp K_b8.out (by decide)); replace R2 := Aside0.mk (R_putT R2.out hp K_b8.out (by decide)); replace R3 := Aside0.mk (R_putT R3.out hp K_b8.out (by decide)); replace B0 := Aside0.mk (Put.below hp B0.out (Nat.le_trans (by exact Nat.le_refl _) G_b8.out)); replace K_b3 := Aside0.mk ((hp.far _ N_b3_b8.out).trans K_b3.out); replace K_b4 := Aside0.mk ((hp.far _ N_b4_b8.out).trans K_b4.out); replace K_b5 := Aside0.mk ((hp.far _ N_b5_b8.out).trans K_b5.out); replace K_b8 := Aside0.mk hk; clear hk hp))
  go_wp2
  go_loopw [9] (fun vi wr => ∃ i : Nat, vi = .int .i64 (i : Int) ∧ i ≤ r3.length ∧ Aside0 (Below w.heap.size w wr) ∧ Aside0 (wr.heap[b4]? = some (.cells #[.int .i64 f0, .int .i64 f1, .int .i64 f2, .int .i64 f3, .slice Af4 lf4.length cf4, .slice Af5 lf5.length cf5, .slice Af6 lf6.length cf6, .int .i64 f7, .int .i64 g0, .int .i64 g1, .int .i64 g2, .int .i64 g3, .slice Ag4 lg4.length cg4, .slice Ag5 lg5.length cg5, .slice Ag6 lg6.length cg6, .int .i64 g7] 28 (0, 0))) ∧ Aside0 (wr.heap[b5]? = some (.cells #[.int .i64 D0, .int .i64 D1, .int .i64 D2, .int .i64 S0, .int .i64 S1, .int .i64 S2, .int .i64 P0, .int .i64 P1, .int .i64 P2, .int .i64 lvn, .string T0, .string T1, .string T2] 32 (0, 0))) ∧ Aside0 (wr.heap[b8]? = some (.cells #[.slice A4 r1.length c4, .slice A5 r2.length c5, .slice A6 r3.length c6, .slice A7 r4.length c7, .int .i64 r5, .int .i64 r6] 39 (0, 0))) ∧ Aside0 (Kd.R k66 66 wr w.heap.size (fun _ => True) (.slice A5 r2.length c5) r2) ∧ Aside0 (Kd.R k53 53 wr w.heap.size (fun _ => True) (.slice A6 r3.length c6) (clrs r3 i)) ∧ Aside0 (Kd.R k69 69 wr w.heap.size (fun _ => True) (.slice A7 r4.length c7) r4)) (fun vi _ => r3.length - (intOf vi).toNat)
  case atStart => exact ⟨0, rfl, Nat.zero_le _, B0, K_b4, K_b5, K_b8, R1, R2, R3⟩
  case round =>
    clear B0 K_b3 K_b4 K_b5 K_b8 R1 R2 R3
    obtain ⟨i, rfl, hi, B0, K_b4, K_b5, K_b8, R1, R2, R3⟩ := hrel
    generalize wr = u1 at *
    by_cases hlt : i < r3.length
    · have dl1 : decide ((i : Int) < (r3.length : Int)) = true := decide_eq_true (by omega)
      have hr1000 : r3.length ≤ 1000 := HL3.out
      obtain ⟨g, cells_, e, hb53⟩ := R_addr R2.out (by omega)
      subst e
      obtain ⟨c, hc1, hc2, hc3, hc5⟩ := Kd.R_elem R2.out z53 (i : Int) (by omega) (by omega)
      rw [Int.toNat_natCast, clrs_at r3 i hlt] at hc2
      have hc4 := Aside0.mk (show k53.M u1 w.heap.size (fun k => k ≠ g) (clrR (r3[i]'hlt)) (c.take 2 ++ [.bool false] ++ c.drop (2 + 1)) by rw [k53_openM hc2]; exact k53_mkM _ _ _ _)
      replace hc3 := Aside0.mk hc3
      have HB := Aside0.mk hb53
      clear hc2 hc5 hb53
      obtain ⟨z_0, z_1, z_2, z_3, z_4, z_5⟩ := cz6 K_b8.out
      go_wp2_with (first
        | ((with_reducible refine gate_ (.store 4 (.tmp 28) (.const (.bool false))) rfl ?_); refine Kd.R_store k53 (w0 := w) w.heap.size rfl rfl 4 (.tmp 28) (.const (.bool false)) rfl 53 (g := g) (n := r3.length) (cap := c6) (i : Int) 2 (clrs r3 i) (clrR (r3[i]'hlt)) (.bool false) [.bool false] c (fun _ => True) (fun k => k ≠ g) rfl ?hoff rfl rfl (by kernel_rfl) ?h1 R2.out (by omega) (by omega) hc1 hc3.out (Nat.le_of_ble_eq_true rfl) ?hM (fun k hk => ⟨trivial, hk⟩) B0.out ?_; (case hoff => simp [k53sz]); (case h1 => simp [Value.oneCell']); (case hM => exact hc4.out); intro wn hR hB hg; clear z_0 z_1 z_2 z_3 z_4 z_5; have R2n := Aside0.mk hR; have B0n := Aside0.mk hB; have GN := Aside0.mk hg; clear hR hB hg))
      go_roundw
      case rel =>
        have hs := clrs_set r3 i hlt
        refine ⟨i + 1, by simp, by omega, B0n, ⟨(GN.out.block _ (lt_blk K_b4.out) (ne_ty K_b4.out HB.out (by decide))).trans K_b4.out⟩, ⟨(GN.out.block _ (lt_blk K_b5.out) (ne_ty K_b5.out HB.out (by decide))).trans K_b5.out⟩, ⟨(GN.out.block _ (lt_blk K_b8.out) (ne_ty K_b8.out HB.out (by decide))).trans K_b8.out⟩, ⟨R_grownT R1.out GN.out HB.out (by decide)⟩, ⟨?_⟩, ⟨R_grownT R3.out GN.out HB.out (by decide)⟩⟩
        have := R2n.out
        rw [Int.toNat_natCast, hs] at this
        exact this
      case measure => simp [intOf]; omega
    · obtain rfl : i = r3.length := by omega
      have dl1 : decide (((r3.length : Nat) : Int) < (r3.length : Int)) = false := decide_eq_false (by omega)
      obtain ⟨z_0, z_1, z_2, z_3, z_4, z_5⟩ := cz6 K_b8.out
      obtain ⟨rz, hrz⟩ : ∃ rz, rz = clrs r3 r3.length := ⟨_, rfl⟩
      have hlz : rz.length = r3.length := by rw [hrz, clrs_len]
      have HZ := Aside0.mk (show ∀ x ∈ rz, x.f2 = false by rw [hrz]; exact clrs_all r3)
      have hR2 := R2.out
      rw [← hrz] at hR2
      have C1 := Aside0.mk (Kd.R_reads' R1.out).2.2
      have C2 := Aside0.mk (Kd.R_reads' hR2).2.2
      have C3 := Aside0.mk (Kd.R_reads' R3.out).2.2
      have BU := Aside0.mk (Below.refl u1.heap.size u1)
      clear R1 R2 R3 hR2 hrz
      have hK8 := K_b8.out
      rw [← hlz] at hK8
      replace K_b8 := Aside0.mk hK8
      have HLZ := Aside0.mk hlz
      clear hK8 hlz
      have SU := Aside0.mk B0.out.size
      obtain ⟨y_b4_0, y_b4_1, y_b4_2, y_b4_3, y_b4_4, y_b4_5, y_b4_6, y_b4_7, y_b4_8, y_b4_9, y_b4_10, y_b4_11, y_b4_12, y_b4_13, y_b4_14, y_b4_15⟩ := cz16 K_b4.out
      go_wp2_with (first
          | ((with_reducible refine gate_callee (f := 10) rfl ?_); refine goesL_ (some 31) rfl rfl Try.func10 (by kernel_rfl) rfl #[.agg #[.int .i64 f0, .int .i64 f1, .int .i64 f2, .int .i64 f3, .slice Af4 lf4.length cf4, .slice Af5 lf5.length cf5, .slice Af6 lf6.length cf6, .int .i64 f7]] rfl mq ?_; (with_reducible refine (made06_calls f0 f1 f2 f3 f7 Af4 Af5 Af6 cf4 cf5 cf6 lf4 lf5 lf6 _ (Kd.C_below Yf4.out B0.out) (Kd.C_below Yf5.out B0.out) (Kd.C_below Yf6.out B0.out)).mono ?_); rintro e w5 ⟨⟨aL, Ea0, ma0, da0, aS, aR, Ea1, ma1, da1, Ea2, ma2, da2, Ea3, ma3, da3, aG, rfl⟩, hb⟩; refine ⟨_, rfl, ?_⟩; clear z_0 z_1 z_2 z_3 z_4 z_5 y_b4_0 y_b4_1 y_b4_2 y_b4_3 y_b4_4 y_b4_5 y_b4_6 y_b4_7 y_b4_8 y_b4_9 y_b4_10 y_b4_11 y_b4_12 y_b4_13 y_b4_14 y_b4_15; replace B0 := Aside0.mk (B0.out.trans (hb.mono B0.out.size)); replace BU := Aside0.mk (BU.out.trans (hb.mono BU.out.size)); replace K_b4 := Aside0.mk ((hb.block _ (lt_blk K_b4.out)).trans K_b4.out); replace K_b5 := Aside0.mk ((hb.block _ (lt_blk K_b5.out)).trans K_b5.out); replace K_b8 := Aside0.mk ((hb.block _ (lt_blk K_b8.out)).trans K_b8.out); clear hb)
          | ((with_reducible refine gate_dst (N := 10) rfl ?_); refine box_event ?hg (N := 10) ?hd (cs := #[.string ⟨#[]⟩, .slice none 0 0, .string ⟨#[]⟩, .string ⟨#[]⟩, .slice none 0 0, .slice none 0 0, .slice none 0 0, .string ⟨#[]⟩]) (t := 44) ?hr ?_; (case hd => rfl); (case hg => rfl); (case hr => first | (go_simp; done) | (go_simp; rfl)); intro b10 hg w6 hbox hb; have N_b4_b10 := Aside0.mk (show b4 ≠ b10 by rw [hg]; exact Nat.ne_of_lt (lt_blk K_b4.out)); have N_b5_b10 := Aside0.mk (show b5 ≠ b10 by rw [hg]; exact Nat.ne_of_lt (lt_blk K_b5.out)); have N_b8_b10 := Aside0.mk (show b8 ≠ b10 by rw [hg]; exact Nat.ne_of_lt (lt_blk K_b8.out)); have G_b10 := Aside0.mk (show u1.heap.size ≤ b10 by rw [hg]; exact BU.out.size); replace B0 := Aside0.mk (B0.out.trans (hb.mono B0.out.size)); replace BU := Aside0.mk (BU.out.trans (hb.mono BU.out.size)); replace K_b4 := Aside0.mk ((hb.block _ (lt_blk K_b4.out)).trans K_b4.out); replace K_b5 := Aside0.mk ((hb.block _ (lt_blk K_b5.out)).trans K_b5.out); replace K_b8 := Aside0.mk ((hb.block _ (lt_blk K_b8.out)).trans K_b8.out); have K_b10 := Aside0.mk hbox; clear hb hbox hg)
          | ((with_reducible refine gate_ (.store 44 (.tmp 10) (.tmp 31)) rfl ?_); refine wpList_put (g := b10) (off := 0) (cur := #[.string ⟨#[]⟩, .slice none 0 0, .string ⟨#[]⟩, .string ⟨#[]⟩, .slice none 0 0, .slice none 0 0, .slice none 0 0, .string ⟨#[]⟩]) (new := #[.string aL, .slice Ea0 ma0 da0, .string aS, .string aR, .slice Ea1 ma1 da1, .slice Ea2 ma2 da2, .slice Ea3 ma3 da3, .string aG]) (seg := [.string aL, .slice Ea0 ma0 da0, .string aS, .string aR, .slice Ea1 ma1 da1, .slice Ea2 ma2 da2, .slice Ea3 ma3 da3, .string aG]) (u := .agg #[.string aL, .slice Ea0 ma0 da0, .string aS, .string aR, .slice Ea1 ma1 da1, .slice Ea2 ma2 da2, .slice Ea3 ma3 da3, .string aG]) rfl rfl rfl rfl rfl rfl (by kernel_rfl) rfl rfl (Nat.le_of_ble_eq_true rfl) K_b10.out ?_; intro w7 hk hp; replace B0 := Aside0.mk (Put.below hp B0.out (Nat.le_trans (by exact SU.out) G_b10.out)); replace BU := Aside0.mk (Put.below hp BU.out (Nat.le_trans (by exact Nat.le_refl _) G_b10.out)); replace K_b4 := Aside0.mk ((hp.far _ N_b4_b10.out).trans K_b4.out); replace K_b5 := Aside0.mk ((hp.far _ N_b5_b10.out).trans K_b5.out); replace K_b8 := Aside0.mk ((hp.far _ N_b8_b10.out).trans K_b8.out); replace K_b10 := Aside0.mk hk; clear hk hp; obtain ⟨y_b4_0, y_b4_1, y_b4_2, y_b4_3, y_b4_4, y_b4_5, y_b4_6, y_b4_7, y_b4_8, y_b4_9, y_b4_10, y_b4_11, y_b4_12, y_b4_13, y_b4_14, y_b4_15⟩ := cz16 K_b4.out)
          | ((with_reducible refine gate_callee (f := 10) rfl ?_); refine goesL_ (some 34) rfl rfl Try.func10 (by kernel_rfl) rfl #[.agg #[.int .i64 g0, .int .i64 g1, .int .i64 g2, .int .i64 g3, .slice Ag4 lg4.length cg4, .slice Ag5 lg5.length cg5, .slice Ag6 lg6.length cg6, .int .i64 g7]] rfl mq ?_; (with_reducible refine (made06_calls g0 g1 g2 g3 g7 Ag4 Ag5 Ag6 cg4 cg5 cg6 lg4 lg5 lg6 _ (Kd.C_below Yg4.out B0.out) (Kd.C_below Yg5.out B0.out) (Kd.C_below Yg6.out B0.out)).mono ?_); rintro e w8 ⟨⟨bL, Eb0, mb0, db0, bS, bR, Eb1, mb1, db1, Eb2, mb2, db2, Eb3, mb3, db3, bG, rfl⟩, hb⟩; refine ⟨_, rfl, ?_⟩; clear y_b4_0 y_b4_1 y_b4_2 y_b4_3 y_b4_4 y_b4_5 y_b4_6 y_b4_7 y_b4_8 y_b4_9 y_b4_10 y_b4_11 y_b4_12 y_b4_13 y_b4_14 y_b4_15; replace B0 := Aside0.mk (B0.out.trans (hb.mono B0.out.size)); replace BU := Aside0.mk (BU.out.trans (hb.mono BU.out.size)); replace K_b4 := Aside0.mk ((hb.block _ (lt_blk K_b4.out)).trans K_b4.out); replace K_b5 := Aside0.mk ((hb.block _ (lt_blk K_b5.out)).trans K_b5.out); replace K_b8 := Aside0.mk ((hb.block _ (lt_blk K_b8.out)).trans K_b8.out); replace K_b10 := Aside0.mk ((hb.block _ (lt_blk K_b10.out)).trans K_b10.out); clear hb)
          | ((with_reducible refine gate_dst (N := 11) rfl ?_); refine box_event ?hg (N := 11) ?hd (cs := #[.string ⟨#[]⟩, .slice none 0 0, .string ⟨#[]⟩, .string ⟨#[]⟩, .slice none 0 0, .slice none 0 0, .slice none 0 0, .string ⟨#[]⟩]) (t := 44) ?hr ?_; (case hd => rfl); (case hg => rfl); (case hr => first | (go_simp; done) | (go_simp; rfl)); intro b11 hg w9 hbox hb; have N_b4_b11 := Aside0.mk (show b4 ≠ b11 by rw [hg]; exact Nat.ne_of_lt (lt_blk K_b4.out)); have N_b5_b11 := Aside0.mk (show b5 ≠ b11 by rw [hg]; exact Nat.ne_of_lt (lt_blk K_b5.out)); have N_b8_b11 := Aside0.mk (show b8 ≠ b11 by rw [hg]; exact Nat.ne_of_lt (lt_blk K_b8.out)); have N_b10_b11 := Aside0.mk (show b10 ≠ b11 by rw [hg]; exact Nat.ne_of_lt (lt_blk K_b10.out)); have G_b11 := Aside0.mk (show u1.heap.size ≤ b11 by rw [hg]; exact BU.out.size); replace B0 := Aside0.mk (B0.out.trans (hb.mono B0.out.size)); replace BU := Aside0.mk (BU.out.trans (hb.mono BU.out.size)); replace K_b4 := Aside0.mk ((hb.block _ (lt_blk K_b4.out)).trans K_b4.out); replace K_b5 := Aside0.mk ((hb.block _ (lt_blk K_b5.out)).trans K_b5.out); replace K_b8 := Aside0.mk ((hb.block _ (lt_blk K_b8.out)).trans K_b8.out); replace K_b10 := Aside0.mk ((hb.block _ (lt_blk K_b10.out)).trans K_b10.out); have K_b11 := Aside0.mk hbox; clear hb hbox hg)
          | ((with_reducible refine gate_ (.store 44 (.tmp 11) (.tmp 34)) rfl ?_); refine wpList_put (g := b11) (off := 0) (cur := #[.string ⟨#[]⟩, .slice none 0 0, .string ⟨#[]⟩, .string ⟨#[]⟩, .slice none 0 0, .slice none 0 0, .slice none 0 0, .string ⟨#[]⟩]) (new := #[.string bL, .slice Eb0 mb0 db0, .string bS, .string bR, .slice Eb1 mb1 db1, .slice Eb2 mb2 db2, .slice Eb3 mb3 db3, .string bG]) (seg := [.string bL, .slice Eb0 mb0 db0, .string bS, .string bR, .slice Eb1 mb1 db1, .slice Eb2 mb2 db2, .slice Eb3 mb3 db3, .string bG]) (u := .agg #[.string bL, .slice Eb0 mb0 db0, .string bS, .string bR, .slice Eb1 mb1 db1, .slice Eb2 mb2 db2, .slice Eb3 mb3 db3, .string bG]) rfl rfl rfl rfl rfl rfl (by kernel_rfl) rfl rfl (Nat.le_of_ble_eq_true rfl) K_b11.out ?_; intro w10 hk hp; replace B0 := Aside0.mk (Put.below hp B0.out (Nat.le_trans (by exact SU.out) G_b11.out)); replace BU := Aside0.mk (Put.below hp BU.out (Nat.le_trans (by exact Nat.le_refl _) G_b11.out)); replace K_b4 := Aside0.mk ((hp.far _ N_b4_b11.out).trans K_b4.out); replace K_b5 := Aside0.mk ((hp.far _ N_b5_b11.out).trans K_b5.out); replace K_b8 := Aside0.mk ((hp.far _ N_b8_b11.out).trans K_b8.out); replace K_b10 := Aside0.mk ((hp.far _ N_b10_b11.out).trans K_b10.out); replace K_b11 := Aside0.mk hk; clear hk hp; obtain ⟨y_b5_0, y_b5_1, y_b5_2, y_b5_3, y_b5_4, y_b5_5, y_b5_6, y_b5_7, y_b5_8, y_b5_9, y_b5_10, y_b5_11, y_b5_12⟩ := cz13 K_b5.out)
          | ((with_reducible refine gate_callee (f := 14) rfl ?_); refine goesL_ (some 37) rfl rfl Try.func14 (by kernel_rfl) rfl #[.agg #[.int .i64 D0, .int .i64 D1, .int .i64 D2]] rfl mq ?_; (with_reducible refine (isoglosslaw22_plain.calls D0 D1 D2 d0 d1 d2 _ HD.out).mono ?_); rintro e xa ⟨rfl, hb⟩; refine ⟨_, rfl, ?_⟩; clear y_b5_0 y_b5_1 y_b5_2 y_b5_3 y_b5_4 y_b5_5 y_b5_6 y_b5_7 y_b5_8 y_b5_9 y_b5_10 y_b5_11 y_b5_12; replace B0 := Aside0.mk (B0.out.trans (hb.mono B0.out.size)); replace BU := Aside0.mk (BU.out.trans (hb.mono BU.out.size)); replace K_b4 := Aside0.mk ((hb.block _ (lt_blk K_b4.out)).trans K_b4.out); replace K_b5 := Aside0.mk ((hb.block _ (lt_blk K_b5.out)).trans K_b5.out); replace K_b8 := Aside0.mk ((hb.block _ (lt_blk K_b8.out)).trans K_b8.out); replace K_b10 := Aside0.mk ((hb.block _ (lt_blk K_b10.out)).trans K_b10.out); replace K_b11 := Aside0.mk ((hb.block _ (lt_blk K_b11.out)).trans K_b11.out); clear hb)
          | ((with_reducible refine gate_callee (f := 13) rfl ?_); refine goesL_ (some 38) rfl rfl Try.func13 (by kernel_rfl) rfl #[.agg #[.string d0, .string d1, .string d2]] rfl mq ?_; (with_reducible refine (tag_calls d0 d1 d2 _).mono ?_); rintro e xb ⟨rfl, hb⟩; refine ⟨_, rfl, ?_⟩; replace B0 := Aside0.mk (B0.out.trans (hb.mono B0.out.size)); replace BU := Aside0.mk (BU.out.trans (hb.mono BU.out.size)); replace K_b4 := Aside0.mk ((hb.block _ (lt_blk K_b4.out)).trans K_b4.out); replace K_b5 := Aside0.mk ((hb.block _ (lt_blk K_b5.out)).trans K_b5.out); replace K_b8 := Aside0.mk ((hb.block _ (lt_blk K_b8.out)).trans K_b8.out); replace K_b10 := Aside0.mk ((hb.block _ (lt_blk K_b10.out)).trans K_b10.out); replace K_b11 := Aside0.mk ((hb.block _ (lt_blk K_b11.out)).trans K_b11.out); clear hb)
          | ((with_reducible refine gate_dst (N := 12) rfl ?_); refine box_event ?hg (N := 12) ?hd (cs := #[.string ⟨#[]⟩, .slice none 0 0, .string ⟨#[]⟩, .string ⟨#[]⟩, .slice none 0 0, .slice none 0 0, .slice none 0 0, .string ⟨#[]⟩]) (t := 44) ?hr ?_; (case hd => rfl); (case hg => rfl); (case hr => first | (go_simp; done) | (go_simp; rfl)); intro b12 hg xc hbox hb; have N_b4_b12 := Aside0.mk (show b4 ≠ b12 by rw [hg]; exact Nat.ne_of_lt (lt_blk K_b4.out)); have N_b5_b12 := Aside0.mk (show b5 ≠ b12 by rw [hg]; exact Nat.ne_of_lt (lt_blk K_b5.out)); have N_b8_b12 := Aside0.mk (show b8 ≠ b12 by rw [hg]; exact Nat.ne_of_lt (lt_blk K_b8.out)); have N_b10_b12 := Aside0.mk (show b10 ≠ b12 by rw [hg]; exact Nat.ne_of_lt (lt_blk K_b10.out)); have N_b11_b12 := Aside0.mk (show b11 ≠ b12 by rw [hg]; exact Nat.ne_of_lt (lt_blk K_b11.out)); have G_b12 := Aside0.mk (show u1.heap.size ≤ b12 by rw [hg]; exact BU.out.size); replace B0 := Aside0.mk (B0.out.trans (hb.mono B0.out.size)); replace BU := Aside0.mk (BU.out.trans (hb.mono BU.out.size)); replace K_b4 := Aside0.mk ((hb.block _ (lt_blk K_b4.out)).trans K_b4.out); replace K_b5 := Aside0.mk ((hb.block _ (lt_blk K_b5.out)).trans K_b5.out); replace K_b8 := Aside0.mk ((hb.block _ (lt_blk K_b8.out)).trans K_b8.out); replace K_b10 := Aside0.mk ((hb.block _ (lt_blk K_b10.out)).trans K_b10.out); replace K_b11 := Aside0.mk ((hb.block _ (lt_blk K_b11.out)).trans K_b11.out); have K_b12 := Aside0.mk hbox; clear hb hbox hg)
          | ((with_reducible refine gate_ (.store 44 (.tmp 12) (.tmp 38)) rfl ?_); refine wpList_put (g := b12) (off := 0) (cur := #[.string ⟨#[]⟩, .slice none 0 0, .string ⟨#[]⟩, .string ⟨#[]⟩, .slice none 0 0, .slice none 0 0, .slice none 0 0, .string ⟨#[]⟩]) (new := #[.string d0, .slice none 0 0, .string d1, .string d2, .slice none 0 0, .slice none 0 0, .slice none 0 0, .string ⟨#[]⟩]) (seg := [.string d0, .slice none 0 0, .string d1, .string d2, .slice none 0 0, .slice none 0 0, .slice none 0 0, .string ⟨#[]⟩]) (u := .agg #[.string d0, .slice none 0 0, .string d1, .string d2, .slice none 0 0, .slice none 0 0, .slice none 0 0, .string ⟨#[]⟩]) rfl rfl rfl rfl rfl rfl (by kernel_rfl) rfl rfl (Nat.le_of_ble_eq_true rfl) K_b12.out ?_; intro xd hk hp; replace B0 := Aside0.mk (Put.below hp B0.out (Nat.le_trans (by exact SU.out) G_b12.out)); replace BU := Aside0.mk (Put.below hp BU.out (Nat.le_trans (by exact Nat.le_refl _) G_b12.out)); replace K_b4 := Aside0.mk ((hp.far _ N_b4_b12.out).trans K_b4.out); replace K_b5 := Aside0.mk ((hp.far _ N_b5_b12.out).trans K_b5.out); replace K_b8 := Aside0.mk ((hp.far _ N_b8_b12.out).trans K_b8.out); replace K_b10 := Aside0.mk ((hp.far _ N_b10_b12.out).trans K_b10.out); replace K_b11 := Aside0.mk ((hp.far _ N_b11_b12.out).trans K_b11.out); replace K_b12 := Aside0.mk hk; clear hk hp; obtain ⟨y_b5_0, y_b5_1, y_b5_2, y_b5_3, y_b5_4, y_b5_5, y_b5_6, y_b5_7, y_b5_8, y_b5_9, y_b5_10, y_b5_11, y_b5_12⟩ := cz13 K_b5.out)
          | ((with_reducible refine gate_callee (f := 14) rfl ?_); refine goesL_ (some 41) rfl rfl Try.func14 (by kernel_rfl) rfl #[.agg #[.int .i64 S0, .int .i64 S1, .int .i64 S2]] rfl mq ?_; (with_reducible refine (isoglosslaw22_plain.calls S0 S1 S2 e0 e1 e2 _ HE.out).mono ?_); rintro e ya ⟨rfl, hb⟩; refine ⟨_, rfl, ?_⟩; clear y_b5_0 y_b5_1 y_b5_2 y_b5_3 y_b5_4 y_b5_5 y_b5_6 y_b5_7 y_b5_8 y_b5_9 y_b5_10 y_b5_11 y_b5_12; replace B0 := Aside0.mk (B0.out.trans (hb.mono B0.out.size)); replace BU := Aside0.mk (BU.out.trans (hb.mono BU.out.size)); replace K_b4 := Aside0.mk ((hb.block _ (lt_blk K_b4.out)).trans K_b4.out); replace K_b5 := Aside0.mk ((hb.block _ (lt_blk K_b5.out)).trans K_b5.out); replace K_b8 := Aside0.mk ((hb.block _ (lt_blk K_b8.out)).trans K_b8.out); replace K_b10 := Aside0.mk ((hb.block _ (lt_blk K_b10.out)).trans K_b10.out); replace K_b11 := Aside0.mk ((hb.block _ (lt_blk K_b11.out)).trans K_b11.out); replace K_b12 := Aside0.mk ((hb.block _ (lt_blk K_b12.out)).trans K_b12.out); clear hb)
          | ((with_reducible refine gate_callee (f := 13) rfl ?_); refine goesL_ (some 42) rfl rfl Try.func13 (by kernel_rfl) rfl #[.agg #[.string e0, .string e1, .string e2]] rfl mq ?_; (with_reducible refine (tag_calls e0 e1 e2 _).mono ?_); rintro e yb ⟨rfl, hb⟩; refine ⟨_, rfl, ?_⟩; replace B0 := Aside0.mk (B0.out.trans (hb.mono B0.out.size)); replace BU := Aside0.mk (BU.out.trans (hb.mono BU.out.size)); replace K_b4 := Aside0.mk ((hb.block _ (lt_blk K_b4.out)).trans K_b4.out); replace K_b5 := Aside0.mk ((hb.block _ (lt_blk K_b5.out)).trans K_b5.out); replace K_b8 := Aside0.mk ((hb.block _ (lt_blk K_b8.out)).trans K_b8.out); replace K_b10 := Aside0.mk ((hb.block _ (lt_blk K_b10.out)).trans K_b10.out); replace K_b11 := Aside0.mk ((hb.block _ (lt_blk K_b11.out)).trans K_b11.out); replace K_b12 := Aside0.mk ((hb.block _ (lt_blk K_b12.out)).trans K_b12.out); clear hb)
          | ((with_reducible refine gate_dst (N := 13) rfl ?_); refine box_event ?hg (N := 13) ?hd (cs := #[.string ⟨#[]⟩, .slice none 0 0, .string ⟨#[]⟩, .string ⟨#[]⟩, .slice none 0 0, .slice none 0 0, .slice none 0 0, .string ⟨#[]⟩]) (t := 44) ?hr ?_; (case hd => rfl); (case hg => rfl); (case hr => first | (go_simp; done) | (go_simp; rfl)); intro b13 hg yc hbox hb; have N_b4_b13 := Aside0.mk (show b4 ≠ b13 by rw [hg]; exact Nat.ne_of_lt (lt_blk K_b4.out)); have N_b5_b13 := Aside0.mk (show b5 ≠ b13 by rw [hg]; exact Nat.ne_of_lt (lt_blk K_b5.out)); have N_b8_b13 := Aside0.mk (show b8 ≠ b13 by rw [hg]; exact Nat.ne_of_lt (lt_blk K_b8.out)); have N_b10_b13 := Aside0.mk (show b10 ≠ b13 by rw [hg]; exact Nat.ne_of_lt (lt_blk K_b10.out)); have N_b11_b13 := Aside0.mk (show b11 ≠ b13 by rw [hg]; exact Nat.ne_of_lt (lt_blk K_b11.out)); have N_b12_b13 := Aside0.mk (show b12 ≠ b13 by rw [hg]; exact Nat.ne_of_lt (lt_blk K_b12.out)); have G_b13 := Aside0.mk (show u1.heap.size ≤ b13 by rw [hg]; exact BU.out.size); replace B0 := Aside0.mk (B0.out.trans (hb.mono B0.out.size)); replace BU := Aside0.mk (BU.out.trans (hb.mono BU.out.size)); replace K_b4 := Aside0.mk ((hb.block _ (lt_blk K_b4.out)).trans K_b4.out); replace K_b5 := Aside0.mk ((hb.block _ (lt_blk K_b5.out)).trans K_b5.out); replace K_b8 := Aside0.mk ((hb.block _ (lt_blk K_b8.out)).trans K_b8.out); replace K_b10 := Aside0.mk ((hb.block _ (lt_blk K_b10.out)).trans K_b10.out); replace K_b11 := Aside0.mk ((hb.block _ (lt_blk K_b11.out)).trans K_b11.out); replace K_b12 := Aside0.mk ((hb.block _ (lt_blk K_b12.out)).trans K_b12.out); have K_b13 := Aside0.mk hbox; clear hb hbox hg)
          | ((with_reducible refine gate_ (.store 44 (.tmp 13) (.tmp 42)) rfl ?_); refine wpList_put (g := b13) (off := 0) (cur := #[.string ⟨#[]⟩, .slice none 0 0, .string ⟨#[]⟩, .string ⟨#[]⟩, .slice none 0 0, .slice none 0 0, .slice none 0 0, .string ⟨#[]⟩]) (new := #[.string e0, .slice none 0 0, .string e1, .string e2, .slice none 0 0, .slice none 0 0, .slice none 0 0, .string ⟨#[]⟩]) (seg := [.string e0, .slice none 0 0, .string e1, .string e2, .slice none 0 0, .slice none 0 0, .slice none 0 0, .string ⟨#[]⟩]) (u := .agg #[.string e0, .slice none 0 0, .string e1, .string e2, .slice none 0 0, .slice none 0 0, .slice none 0 0, .string ⟨#[]⟩]) rfl rfl rfl rfl rfl rfl (by kernel_rfl) rfl rfl (Nat.le_of_ble_eq_true rfl) K_b13.out ?_; intro yd hk hp; replace B0 := Aside0.mk (Put.below hp B0.out (Nat.le_trans (by exact SU.out) G_b13.out)); replace BU := Aside0.mk (Put.below hp BU.out (Nat.le_trans (by exact Nat.le_refl _) G_b13.out)); replace K_b4 := Aside0.mk ((hp.far _ N_b4_b13.out).trans K_b4.out); replace K_b5 := Aside0.mk ((hp.far _ N_b5_b13.out).trans K_b5.out); replace K_b8 := Aside0.mk ((hp.far _ N_b8_b13.out).trans K_b8.out); replace K_b10 := Aside0.mk ((hp.far _ N_b10_b13.out).trans K_b10.out); replace K_b11 := Aside0.mk ((hp.far _ N_b11_b13.out).trans K_b11.out); replace K_b12 := Aside0.mk ((hp.far _ N_b12_b13.out).trans K_b12.out); replace K_b13 := Aside0.mk hk; clear hk hp))
      obtain ⟨M, hM2⟩ : ∃ M, sumP rz r4 (plP r2 (d0, d1, d2)) (plP r2 (e0, e1, e2)) 3 = M := ⟨_, rfl⟩
      have HM2 := Aside0.mk hM2
      clear hM2
      refine start_ (n := 24) (S := fun w' => w'.cell? ⟨b8, 0, none⟩ = some (.slice A4 r1.length c4) ∧ w'.cell? ⟨b8, 1, none⟩ = some (.slice A5 r2.length c5) ∧ w'.cell? ⟨b8, 2, none⟩ = some (.slice A6 rz.length c6) ∧ w'.cell? ⟨b8, 3, none⟩ = some (.slice A7 r4.length c7) ∧ w'.cell? ⟨b8, 4, none⟩ = some (.int .i64 r5) ∧ w'.cell? ⟨b8, 5, none⟩ = some (.int .i64 r6) ∧ w'.cell? ⟨b10, 0, none⟩ = some (.string aL) ∧ w'.cell? ⟨b10, 1, none⟩ = some (.slice Ea0 ma0 da0) ∧ w'.cell? ⟨b10, 2, none⟩ = some (.string aS) ∧ w'.cell? ⟨b10, 3, none⟩ = some (.string aR) ∧ w'.cell? ⟨b10, 4, none⟩ = some (.slice Ea1 ma1 da1) ∧ w'.cell? ⟨b10, 5, none⟩ = some (.slice Ea2 ma2 da2) ∧ w'.cell? ⟨b10, 6, none⟩ = some (.slice Ea3 ma3 da3) ∧ w'.cell? ⟨b10, 7, none⟩ = some (.string aG) ∧ w'.cell? ⟨b11, 0, none⟩ = some (.string bL) ∧ w'.cell? ⟨b11, 1, none⟩ = some (.slice Eb0 mb0 db0) ∧ w'.cell? ⟨b11, 2, none⟩ = some (.string bS) ∧ w'.cell? ⟨b11, 3, none⟩ = some (.string bR) ∧ w'.cell? ⟨b11, 4, none⟩ = some (.slice Eb1 mb1 db1) ∧ w'.cell? ⟨b11, 5, none⟩ = some (.slice Eb2 mb2 db2) ∧ w'.cell? ⟨b11, 6, none⟩ = some (.slice Eb3 mb3 db3) ∧ w'.cell? ⟨b11, 7, none⟩ = some (.string bG) ∧ w'.cell? ⟨b12, 0, none⟩ = some (.string d0) ∧ w'.cell? ⟨b12, 1, none⟩ = some (.slice none 0 0) ∧ w'.cell? ⟨b12, 2, none⟩ = some (.string d1) ∧ w'.cell? ⟨b12, 3, none⟩ = some (.string d2) ∧ w'.cell? ⟨b12, 4, none⟩ = some (.slice none 0 0) ∧ w'.cell? ⟨b12, 5, none⟩ = some (.slice none 0 0) ∧ w'.cell? ⟨b12, 6, none⟩ = some (.slice none 0 0) ∧ w'.cell? ⟨b12, 7, none⟩ = some (.string ⟨#[]⟩) ∧ w'.cell? ⟨b13, 0, none⟩ = some (.string e0) ∧ w'.cell? ⟨b13, 1, none⟩ = some (.slice none 0 0) ∧ w'.cell? ⟨b13, 2, none⟩ = some (.string e1) ∧ w'.cell? ⟨b13, 3, none⟩ = some (.string e2) ∧ w'.cell? ⟨b13, 4, none⟩ = some (.slice none 0 0) ∧ w'.cell? ⟨b13, 5, none⟩ = some (.slice none 0 0) ∧ w'.cell? ⟨b13, 6, none⟩ = some (.slice none 0 0) ∧ w'.cell? ⟨b13, 7, none⟩ = some (.string ⟨#[]⟩)) (ds := []) #[false, false, false, false, false, false, false, false, false, false, false, false, false, false, false, false, false, false, false, false, false, false, false, false] (by kernel_rfl) rfl rfl ⟨(blk_cell K_b8.out 0).trans rfl, (blk_cell K_b8.out 1).trans rfl, (blk_cell K_b8.out 2).trans rfl, (blk_cell K_b8.out 3).trans rfl, (blk_cell K_b8.out 4).trans rfl, (blk_cell K_b8.out 5).trans rfl, (blk_cell K_b10.out 0).trans rfl, (blk_cell K_b10.out 1).trans rfl, (blk_cell K_b10.out 2).trans rfl, (blk_cell K_b10.out 3).trans rfl, (blk_cell K_b10.out 4).trans rfl, (blk_cell K_b10.out 5).trans rfl, (blk_cell K_b10.out 6).trans rfl, (blk_cell K_b10.out 7).trans rfl, (blk_cell K_b11.out 0).trans rfl, (blk_cell K_b11.out 1).trans rfl, (blk_cell K_b11.out 2).trans rfl, (blk_cell K_b11.out 3).trans rfl, (blk_cell K_b11.out 4).trans rfl, (blk_cell K_b11.out 5).trans rfl, (blk_cell K_b11.out 6).trans rfl, (blk_cell K_b11.out 7).trans rfl, (blk_cell K_b12.out 0).trans rfl, (blk_cell K_b12.out 1).trans rfl, (blk_cell K_b12.out 2).trans rfl, (blk_cell K_b12.out 3).trans rfl, (blk_cell K_b12.out 4).trans rfl, (blk_cell K_b12.out 5).trans rfl, (blk_cell K_b12.out 6).trans rfl, (blk_cell K_b12.out 7).trans rfl, (blk_cell K_b13.out 0).trans rfl, (blk_cell K_b13.out 1).trans rfl, (blk_cell K_b13.out 2).trans rfl, (blk_cell K_b13.out 3).trans rfl, (blk_cell K_b13.out 4).trans rfl, (blk_cell K_b13.out 5).trans rfl, (blk_cell K_b13.out 6).trans rfl, (blk_cell K_b13.out 7).trans rfl⟩ (fun hHeld => ?_)
      have hb : Below yd.heap.size yd yd.drew := below_drew1 (Below.refl _ _)
      generalize yd.drew = w21 at hb hHeld ⊢
      replace B0 := Aside0.mk (B0.out.trans (hb.mono B0.out.size))
      replace BU := Aside0.mk (BU.out.trans (hb.mono BU.out.size))
      replace K_b4 := Aside0.mk ((hb.block _ (lt_blk K_b4.out)).trans K_b4.out)
      replace K_b5 := Aside0.mk ((hb.block _ (lt_blk K_b5.out)).trans K_b5.out)
      replace K_b8 := Aside0.mk ((hb.block _ (lt_blk K_b8.out)).trans K_b8.out)
      replace K_b10 := Aside0.mk ((hb.block _ (lt_blk K_b10.out)).trans K_b10.out)
      replace K_b11 := Aside0.mk ((hb.block _ (lt_blk K_b11.out)).trans K_b11.out)
      replace K_b12 := Aside0.mk ((hb.block _ (lt_blk K_b12.out)).trans K_b12.out)
      replace K_b13 := Aside0.mk ((hb.block _ (lt_blk K_b13.out)).trans K_b13.out)
      clear hb
      refine pure_ (i := 0) (N := some 43) (v := ?_) (a' := ?_) #[true, false, false, false, false, false, false, false, false, false, false, false, false, false, false, false, false, false, false, false, false, false, false, false] rfl rfl (by kernel_rfl) (fun _ _ _ h => h) (Or.inl ⟨by rfl, ?_⟩) ?_ ?_
      rotate_left
      · intro w'
        go_simp
        with_reducible rfl
      rotate_left
      · simp only [Act.put, List.setIfInBounds_toArray, List.set_cons_zero, List.set_cons_succ, i64_w, i32_w]
        rfl
      refine pure_ (i := 1) (N := some 44) (v := ?_) (a' := ?_) #[true, true, false, false, false, false, false, false, false, false, false, false, false, false, false, false, false, false, false, false, false, false, false, false] rfl rfl (by kernel_rfl) (fun _ _ _ h => h) (Or.inl ⟨by rfl, ?_⟩) ?_ ?_
      rotate_left
      · intro w'
        go_simp
        with_reducible rfl
      rotate_left
      · simp only [Act.put, List.setIfInBounds_toArray, List.set_cons_zero, List.set_cons_succ, i64_w, i32_w]
        rfl
      refine take_ (i := 2) (N := some 45) (v := ?_) (a' := ?_) #[true, true, true, false, false, false, false, false, false, false, false, false, false, false, false, false, false, false, false, false, false, false, false, false] rfl rfl (by kernel_rfl) (fun _ _ _ h => h) (Or.inl ⟨by rfl, ?_⟩) hHeld ?_ ?_
      rotate_left
      · rintro w' ⟨s0, s1, s2, s3, s4, s5, s6, s7, s8, s9, s10, s11, s12, s13, s14, s15, s16, s17, s18, s19, s20, s21, s22, s23, s24, s25, s26, s27, s28, s29, s30, s31, s32, s33, s34, s35, s36, s37⟩
        go_simp
        with_reducible rfl
      rotate_left
      · simp only [Act.put, List.setIfInBounds_toArray, List.set_cons_zero, List.set_cons_succ, i64_w, i32_w]
        rfl
      refine take_ (i := 3) (N := some 46) (v := ?_) (a' := ?_) #[true, true, true, true, false, false, false, false, false, false, false, false, false, false, false, false, false, false, false, false, false, false, false, false] rfl rfl (by kernel_rfl) (fun _ _ _ h => h) (Or.inl ⟨by rfl, ?_⟩) hHeld ?_ ?_
      rotate_left
      · rintro w' ⟨s0, s1, s2, s3, s4, s5, s6, s7, s8, s9, s10, s11, s12, s13, s14, s15, s16, s17, s18, s19, s20, s21, s22, s23, s24, s25, s26, s27, s28, s29, s30, s31, s32, s33, s34, s35, s36, s37⟩
        go_simp
        with_reducible rfl
      rotate_left
      · simp only [Act.put, List.setIfInBounds_toArray, List.set_cons_zero, List.set_cons_succ, i64_w, i32_w]
        rfl
      refine take_ (i := 4) (N := some 47) (v := ?_) (a' := ?_) #[true, true, true, true, true, false, false, false, false, false, false, false, false, false, false, false, false, false, false, false, false, false, false, false] rfl rfl (by kernel_rfl) (fun _ _ _ h => h) (Or.inl ⟨by rfl, ?_⟩) hHeld ?_ ?_
      rotate_left
      · rintro w' ⟨s0, s1, s2, s3, s4, s5, s6, s7, s8, s9, s10, s11, s12, s13, s14, s15, s16, s17, s18, s19, s20, s21, s22, s23, s24, s25, s26, s27, s28, s29, s30, s31, s32, s33, s34, s35, s36, s37⟩
        go_simp
        with_reducible rfl
      rotate_left
      · simp only [Act.put, List.setIfInBounds_toArray, List.set_cons_zero, List.set_cons_succ, i64_w, i32_w]
        rfl
      refine take_ (i := 6) (N := some 49) (v := ?_) (a' := ?_) #[true, true, true, true, true, false, true, false, false, false, false, false, false, false, false, false, false, false, false, false, false, false, false, false] rfl rfl (by kernel_rfl) (fun _ _ _ h => h) (Or.inl ⟨by rfl, ?_⟩) hHeld ?_ ?_
      rotate_left
      · rintro w' ⟨s0, s1, s2, s3, s4, s5, s6, s7, s8, s9, s10, s11, s12, s13, s14, s15, s16, s17, s18, s19, s20, s21, s22, s23, s24, s25, s26, s27, s28, s29, s30, s31, s32, s33, s34, s35, s36, s37⟩
        go_simp
        with_reducible rfl
      rotate_left
      · simp only [Act.put, List.setIfInBounds_toArray, List.set_cons_zero, List.set_cons_succ, i64_w, i32_w]
        rfl
      refine take_ (i := 7) (N := some 50) (v := ?_) (a' := ?_) #[true, true, true, true, true, false, true, true, false, false, false, false, false, false, false, false, false, false, false, false, false, false, false, false] rfl rfl (by kernel_rfl) (fun _ _ _ h => h) (Or.inl ⟨by rfl, ?_⟩) hHeld ?_ ?_
      rotate_left
      · rintro w' ⟨s0, s1, s2, s3, s4, s5, s6, s7, s8, s9, s10, s11, s12, s13, s14, s15, s16, s17, s18, s19, s20, s21, s22, s23, s24, s25, s26, s27, s28, s29, s30, s31, s32, s33, s34, s35, s36, s37⟩
        go_simp
        with_reducible rfl
      rotate_left
      · simp only [Act.put, List.setIfInBounds_toArray, List.set_cons_zero, List.set_cons_succ, i64_w, i32_w]
        rfl
      refine take_ (i := 8) (N := some 51) (v := ?_) (a' := ?_) #[true, true, true, true, true, false, true, true, true, false, false, false, false, false, false, false, false, false, false, false, false, false, false, false] rfl rfl (by kernel_rfl) (fun _ _ _ h => h) (Or.inl ⟨by rfl, ?_⟩) hHeld ?_ ?_
      rotate_left
      · rintro w' ⟨s0, s1, s2, s3, s4, s5, s6, s7, s8, s9, s10, s11, s12, s13, s14, s15, s16, s17, s18, s19, s20, s21, s22, s23, s24, s25, s26, s27, s28, s29, s30, s31, s32, s33, s34, s35, s36, s37⟩
        go_simp
        with_reducible rfl
      rotate_left
      · simp only [Act.put, List.setIfInBounds_toArray, List.set_cons_zero, List.set_cons_succ, i64_w, i32_w]
        rfl
      refine one_ (i := 5) (N := some 48) #[true, true, true, true, true, true, true, true, true, false, false, false, false, false, false, false, false, false, false, false, false, false, false, false] rfl rfl (by kernel_rfl) (by decide) (fun K hK => ?_)
      refine goes_ Try.func16 (by kernel_rfl) rfl #[.agg #[.slice A4 r1.length c4, .slice A5 r2.length c5, .slice A6 rz.length c6, .slice A7 r4.length c7, .int .i64 r5, .int .i64 r6], .agg #[.string aL, .slice Ea0 ma0 da0, .string aS, .string aR, .slice Ea1 ma1 da1, .slice Ea2 ma2 da2, .slice Ea3 ma3 da3, .string aG], .agg #[.string bL, .slice Eb0 mb0 db0, .string bS, .string bR, .slice Eb1 mb1 db1, .slice Eb2 mb2 db2, .slice Eb3 mb3 db3, .string bG]] (by rfl) rfl rfl (by (try simp only [List.map_toArray, List.map_cons, List.map_nil]); first | done | rfl) ?_
      with_reducible refine (dist_n A4 r1.length c4 A5 c5 r2 A6 c6 rz A7 c7 r4 r5 r6 aL aS aR aG Ea0 ma0 da0 Ea1 ma1 da1 Ea2 ma2 da2 Ea3 ma3 da3 bL bS bR bG Eb0 mb0 db0 Eb1 mb1 db1 Eb2 mb2 db2 Eb3 mb3 db3 (sumP rz r4 (plP r2 (aL, aS, aR)) (plP r2 (bL, bS, bR)) 3) rfl _ (Kd.C_below C1.out BU.out) (Kd.C_below C2.out BU.out) (Kd.C_below C3.out BU.out)).mono ?_
      rintro e w22 ⟨rfl, hb⟩
      refine ⟨_, rfl, ?_⟩
      replace B0 := Aside0.mk (B0.out.trans (hb.mono B0.out.size))
      replace BU := Aside0.mk (BU.out.trans (hb.mono BU.out.size))
      replace K_b4 := Aside0.mk ((hb.block _ (lt_blk K_b4.out)).trans K_b4.out)
      replace K_b5 := Aside0.mk ((hb.block _ (lt_blk K_b5.out)).trans K_b5.out)
      replace K_b8 := Aside0.mk ((hb.block _ (lt_blk K_b8.out)).trans K_b8.out)
      replace K_b10 := Aside0.mk ((hb.block _ (lt_blk K_b10.out)).trans K_b10.out)
      replace K_b11 := Aside0.mk ((hb.block _ (lt_blk K_b11.out)).trans K_b11.out)
      replace K_b12 := Aside0.mk ((hb.block _ (lt_blk K_b12.out)).trans K_b12.out)
      replace K_b13 := Aside0.mk ((hb.block _ (lt_blk K_b13.out)).trans K_b13.out)
      obtain ⟨N, hN⟩ : ∃ N, sumP rz r4 (plP r2 (aL, aS, aR)) (plP r2 (bL, bS, bR)) 3 = N := ⟨_, rfl⟩
      rw [hN]
      have HN := Aside0.mk hN
      clear hN
      clear hb
      refine hK.out _ _ ⟨(blk_cell K_b8.out 0).trans rfl, (blk_cell K_b8.out 1).trans rfl, (blk_cell K_b8.out 2).trans rfl, (blk_cell K_b8.out 3).trans rfl, (blk_cell K_b8.out 4).trans rfl, (blk_cell K_b8.out 5).trans rfl, (blk_cell K_b10.out 0).trans rfl, (blk_cell K_b10.out 1).trans rfl, (blk_cell K_b10.out 2).trans rfl, (blk_cell K_b10.out 3).trans rfl, (blk_cell K_b10.out 4).trans rfl, (blk_cell K_b10.out 5).trans rfl, (blk_cell K_b10.out 6).trans rfl, (blk_cell K_b10.out 7).trans rfl, (blk_cell K_b11.out 0).trans rfl, (blk_cell K_b11.out 1).trans rfl, (blk_cell K_b11.out 2).trans rfl, (blk_cell K_b11.out 3).trans rfl, (blk_cell K_b11.out 4).trans rfl, (blk_cell K_b11.out 5).trans rfl, (blk_cell K_b11.out 6).trans rfl, (blk_cell K_b11.out 7).trans rfl, (blk_cell K_b12.out 0).trans rfl, (blk_cell K_b12.out 1).trans rfl, (blk_cell K_b12.out 2).trans rfl, (blk_cell K_b12.out 3).trans rfl, (blk_cell K_b12.out 4).trans rfl, (blk_cell K_b12.out 5).trans rfl, (blk_cell K_b12.out 6).trans rfl, (blk_cell K_b12.out 7).trans rfl, (blk_cell K_b13.out 0).trans rfl, (blk_cell K_b13.out 1).trans rfl, (blk_cell K_b13.out 2).trans rfl, (blk_cell K_b13.out 3).trans rfl, (blk_cell K_b13.out 4).trans rfl, (blk_cell K_b13.out 5).trans rfl, (blk_cell K_b13.out 6).trans rfl, (blk_cell K_b13.out 7).trans rfl⟩ (fun hHeld => ?_)
      clear hK K
      refine norm_ (a' := ?_) ?_ ?_
      rotate_left
      · show Act.put _ (some 48) _ = _
        simp only [Act.put, List.setIfInBounds_toArray, List.set_cons_zero, List.set_cons_succ, i64_w, i32_w]
        rfl
      refine one_ (i := 9) (N := some 52) #[true, true, true, true, true, true, true, true, true, true, false, false, false, false, false, false, false, false, false, false, false, false, false, false] rfl rfl (by kernel_rfl) (by decide) (fun K hK => ?_)
      refine goes_ Try.func16 (by kernel_rfl) rfl #[.agg #[.slice A4 r1.length c4, .slice A5 r2.length c5, .slice A6 rz.length c6, .slice A7 r4.length c7, .int .i64 r5, .int .i64 r6], .agg #[.string bL, .slice Eb0 mb0 db0, .string bS, .string bR, .slice Eb1 mb1 db1, .slice Eb2 mb2 db2, .slice Eb3 mb3 db3, .string bG], .agg #[.string aL, .slice Ea0 ma0 da0, .string aS, .string aR, .slice Ea1 ma1 da1, .slice Ea2 ma2 da2, .slice Ea3 ma3 da3, .string aG]] (by rfl) rfl rfl (by (try simp only [List.map_toArray, List.map_cons, List.map_nil]); first | done | rfl) ?_
      with_reducible refine (dist_n A4 r1.length c4 A5 c5 r2 A6 c6 rz A7 c7 r4 r5 r6 bL bS bR bG Eb0 mb0 db0 Eb1 mb1 db1 Eb2 mb2 db2 Eb3 mb3 db3 aL aS aR aG Ea0 ma0 da0 Ea1 ma1 da1 Ea2 ma2 da2 Ea3 ma3 da3 N (both_eq _ _ _ _ _ HZ.out N HN.out) _ (Kd.C_below C1.out BU.out) (Kd.C_below C2.out BU.out) (Kd.C_below C3.out BU.out)).mono ?_
      rintro e w23 ⟨rfl, hb⟩
      refine ⟨_, rfl, ?_⟩
      replace B0 := Aside0.mk (B0.out.trans (hb.mono B0.out.size))
      replace BU := Aside0.mk (BU.out.trans (hb.mono BU.out.size))
      replace K_b4 := Aside0.mk ((hb.block _ (lt_blk K_b4.out)).trans K_b4.out)
      replace K_b5 := Aside0.mk ((hb.block _ (lt_blk K_b5.out)).trans K_b5.out)
      replace K_b8 := Aside0.mk ((hb.block _ (lt_blk K_b8.out)).trans K_b8.out)
      replace K_b10 := Aside0.mk ((hb.block _ (lt_blk K_b10.out)).trans K_b10.out)
      replace K_b11 := Aside0.mk ((hb.block _ (lt_blk K_b11.out)).trans K_b11.out)
      replace K_b12 := Aside0.mk ((hb.block _ (lt_blk K_b12.out)).trans K_b12.out)
      replace K_b13 := Aside0.mk ((hb.block _ (lt_blk K_b13.out)).trans K_b13.out)
      clear hb
      refine hK.out _ _ ⟨(blk_cell K_b8.out 0).trans rfl, (blk_cell K_b8.out 1).trans rfl, (blk_cell K_b8.out 2).trans rfl, (blk_cell K_b8.out 3).trans rfl, (blk_cell K_b8.out 4).trans rfl, (blk_cell K_b8.out 5).trans rfl, (blk_cell K_b10.out 0).trans rfl, (blk_cell K_b10.out 1).trans rfl, (blk_cell K_b10.out 2).trans rfl, (blk_cell K_b10.out 3).trans rfl, (blk_cell K_b10.out 4).trans rfl, (blk_cell K_b10.out 5).trans rfl, (blk_cell K_b10.out 6).trans rfl, (blk_cell K_b10.out 7).trans rfl, (blk_cell K_b11.out 0).trans rfl, (blk_cell K_b11.out 1).trans rfl, (blk_cell K_b11.out 2).trans rfl, (blk_cell K_b11.out 3).trans rfl, (blk_cell K_b11.out 4).trans rfl, (blk_cell K_b11.out 5).trans rfl, (blk_cell K_b11.out 6).trans rfl, (blk_cell K_b11.out 7).trans rfl, (blk_cell K_b12.out 0).trans rfl, (blk_cell K_b12.out 1).trans rfl, (blk_cell K_b12.out 2).trans rfl, (blk_cell K_b12.out 3).trans rfl, (blk_cell K_b12.out 4).trans rfl, (blk_cell K_b12.out 5).trans rfl, (blk_cell K_b12.out 6).trans rfl, (blk_cell K_b12.out 7).trans rfl, (blk_cell K_b13.out 0).trans rfl, (blk_cell K_b13.out 1).trans rfl, (blk_cell K_b13.out 2).trans rfl, (blk_cell K_b13.out 3).trans rfl, (blk_cell K_b13.out 4).trans rfl, (blk_cell K_b13.out 5).trans rfl, (blk_cell K_b13.out 6).trans rfl, (blk_cell K_b13.out 7).trans rfl⟩ (fun hHeld => ?_)
      clear hK K
      refine norm_ (a' := ?_) ?_ ?_
      rotate_left
      · show Act.put _ (some 52) _ = _
        simp only [Act.put, List.setIfInBounds_toArray, List.set_cons_zero, List.set_cons_succ, i64_w, i32_w]
        rfl
      refine pure_ (i := 10) (N := some 53) (v := ?_) (a' := ?_) #[true, true, true, true, true, true, true, true, true, true, true, false, false, false, false, false, false, false, false, false, false, false, false, false] rfl rfl (by kernel_rfl) (fun _ _ _ h => h) (Or.inl ⟨by rfl, ?_⟩) ?_ ?_
      rotate_left
      · intro w'
        go_simp
        with_reducible rfl
      rotate_left
      · simp only [Act.put, List.setIfInBounds_toArray, List.set_cons_zero, List.set_cons_succ, i64_w, i32_w]
        rfl
      refine pure_ (i := 11) (N := some 54) (v := ?_) (a' := ?_) #[true, true, true, true, true, true, true, true, true, true, true, true, false, false, false, false, false, false, false, false, false, false, false, false] rfl rfl (by kernel_rfl) (fun _ _ _ h => h) (Or.inl ⟨by rfl, ?_⟩) ?_ ?_
      rotate_left
      · intro w'
        go_simp
        with_reducible rfl
      rotate_left
      · simp only [Act.put, List.setIfInBounds_toArray, List.set_cons_zero, List.set_cons_succ, i64_w, i32_w]
        rfl
      refine pure_ (i := 12) (N := some 55) (v := ?_) (a' := ?_) #[true, true, true, true, true, true, true, true, true, true, true, true, true, false, false, false, false, false, false, false, false, false, false, false] rfl rfl (by kernel_rfl) (fun _ _ _ h => h) (Or.inl ⟨by rfl, ?_⟩) ?_ ?_
      rotate_left
      · intro w'
        go_simp
        with_reducible rfl
      rotate_left
      · simp only [Act.put, List.setIfInBounds_toArray, List.set_cons_zero, List.set_cons_succ, i64_w, i32_w]
        rfl
      refine take_ (i := 13) (N := some 56) (v := ?_) (a' := ?_) #[true, true, true, true, true, true, true, true, true, true, true, true, true, true, false, false, false, false, false, false, false, false, false, false] rfl rfl (by kernel_rfl) (fun _ _ _ h => h) (Or.inl ⟨by rfl, ?_⟩) hHeld ?_ ?_
      rotate_left
      · rintro w' ⟨s0, s1, s2, s3, s4, s5, s6, s7, s8, s9, s10, s11, s12, s13, s14, s15, s16, s17, s18, s19, s20, s21, s22, s23, s24, s25, s26, s27, s28, s29, s30, s31, s32, s33, s34, s35, s36, s37⟩
        go_simp
        with_reducible rfl
      rotate_left
      · simp only [Act.put, List.setIfInBounds_toArray, List.set_cons_zero, List.set_cons_succ, i64_w, i32_w]
        rfl
      refine take_ (i := 14) (N := some 57) (v := ?_) (a' := ?_) #[true, true, true, true, true, true, true, true, true, true, true, true, true, true, true, false, false, false, false, false, false, false, false, false] rfl rfl (by kernel_rfl) (fun _ _ _ h => h) (Or.inl ⟨by rfl, ?_⟩) hHeld ?_ ?_
      rotate_left
      · rintro w' ⟨s0, s1, s2, s3, s4, s5, s6, s7, s8, s9, s10, s11, s12, s13, s14, s15, s16, s17, s18, s19, s20, s21, s22, s23, s24, s25, s26, s27, s28, s29, s30, s31, s32, s33, s34, s35, s36, s37⟩
        go_simp
        with_reducible rfl
      rotate_left
      · simp only [Act.put, List.setIfInBounds_toArray, List.set_cons_zero, List.set_cons_succ, i64_w, i32_w]
        rfl
      refine take_ (i := 15) (N := some 58) (v := ?_) (a' := ?_) #[true, true, true, true, true, true, true, true, true, true, true, true, true, true, true, true, false, false, false, false, false, false, false, false] rfl rfl (by kernel_rfl) (fun _ _ _ h => h) (Or.inl ⟨by rfl, ?_⟩) hHeld ?_ ?_
      rotate_left
      · rintro w' ⟨s0, s1, s2, s3, s4, s5, s6, s7, s8, s9, s10, s11, s12, s13, s14, s15, s16, s17, s18, s19, s20, s21, s22, s23, s24, s25, s26, s27, s28, s29, s30, s31, s32, s33, s34, s35, s36, s37⟩
        go_simp
        with_reducible rfl
      rotate_left
      · simp only [Act.put, List.setIfInBounds_toArray, List.set_cons_zero, List.set_cons_succ, i64_w, i32_w]
        rfl
      refine take_ (i := 17) (N := some 60) (v := ?_) (a' := ?_) #[true, true, true, true, true, true, true, true, true, true, true, true, true, true, true, true, false, true, false, false, false, false, false, false] rfl rfl (by kernel_rfl) (fun _ _ _ h => h) (Or.inl ⟨by rfl, ?_⟩) hHeld ?_ ?_
      rotate_left
      · rintro w' ⟨s0, s1, s2, s3, s4, s5, s6, s7, s8, s9, s10, s11, s12, s13, s14, s15, s16, s17, s18, s19, s20, s21, s22, s23, s24, s25, s26, s27, s28, s29, s30, s31, s32, s33, s34, s35, s36, s37⟩
        go_simp
        with_reducible rfl
      rotate_left
      · simp only [Act.put, List.setIfInBounds_toArray, List.set_cons_zero, List.set_cons_succ, i64_w, i32_w]
        rfl
      refine take_ (i := 18) (N := some 61) (v := ?_) (a' := ?_) #[true, true, true, true, true, true, true, true, true, true, true, true, true, true, true, true, false, true, true, false, false, false, false, false] rfl rfl (by kernel_rfl) (fun _ _ _ h => h) (Or.inl ⟨by rfl, ?_⟩) hHeld ?_ ?_
      rotate_left
      · rintro w' ⟨s0, s1, s2, s3, s4, s5, s6, s7, s8, s9, s10, s11, s12, s13, s14, s15, s16, s17, s18, s19, s20, s21, s22, s23, s24, s25, s26, s27, s28, s29, s30, s31, s32, s33, s34, s35, s36, s37⟩
        go_simp
        with_reducible rfl
      rotate_left
      · simp only [Act.put, List.setIfInBounds_toArray, List.set_cons_zero, List.set_cons_succ, i64_w, i32_w]
        rfl
      refine take_ (i := 19) (N := some 62) (v := ?_) (a' := ?_) #[true, true, true, true, true, true, true, true, true, true, true, true, true, true, true, true, false, true, true, true, false, false, false, false] rfl rfl (by kernel_rfl) (fun _ _ _ h => h) (Or.inl ⟨by rfl, ?_⟩) hHeld ?_ ?_
      rotate_left
      · rintro w' ⟨s0, s1, s2, s3, s4, s5, s6, s7, s8, s9, s10, s11, s12, s13, s14, s15, s16, s17, s18, s19, s20, s21, s22, s23, s24, s25, s26, s27, s28, s29, s30, s31, s32, s33, s34, s35, s36, s37⟩
        go_simp
        with_reducible rfl
      rotate_left
      · simp only [Act.put, List.setIfInBounds_toArray, List.set_cons_zero, List.set_cons_succ, i64_w, i32_w]
        rfl
      refine one_ (i := 16) (N := some 59) #[true, true, true, true, true, true, true, true, true, true, true, true, true, true, true, true, true, true, true, true, false, false, false, false] rfl rfl (by kernel_rfl) (by decide) (fun K hK => ?_)
      refine goes_ Try.func16 (by kernel_rfl) rfl #[.agg #[.slice A4 r1.length c4, .slice A5 r2.length c5, .slice A6 rz.length c6, .slice A7 r4.length c7, .int .i64 r5, .int .i64 r6], .agg #[.string d0, .slice none 0 0, .string d1, .string d2, .slice none 0 0, .slice none 0 0, .slice none 0 0, .string ⟨#[]⟩], .agg #[.string e0, .slice none 0 0, .string e1, .string e2, .slice none 0 0, .slice none 0 0, .slice none 0 0, .string ⟨#[]⟩]] (by rfl) rfl rfl (by (try simp only [List.map_toArray, List.map_cons, List.map_nil]); first | done | rfl) ?_
      with_reducible refine (dist_n A4 r1.length c4 A5 c5 r2 A6 c6 rz A7 c7 r4 r5 r6 d0 d1 d2 ⟨#[]⟩ none 0 0 none 0 0 none 0 0 none 0 0 e0 e1 e2 ⟨#[]⟩ none 0 0 none 0 0 none 0 0 none 0 0 M HM2.out _ (Kd.C_below C1.out BU.out) (Kd.C_below C2.out BU.out) (Kd.C_below C3.out BU.out)).mono ?_
      rintro e w24 ⟨rfl, hb⟩
      refine ⟨_, rfl, ?_⟩
      replace B0 := Aside0.mk (B0.out.trans (hb.mono B0.out.size))
      replace BU := Aside0.mk (BU.out.trans (hb.mono BU.out.size))
      replace K_b4 := Aside0.mk ((hb.block _ (lt_blk K_b4.out)).trans K_b4.out)
      replace K_b5 := Aside0.mk ((hb.block _ (lt_blk K_b5.out)).trans K_b5.out)
      replace K_b8 := Aside0.mk ((hb.block _ (lt_blk K_b8.out)).trans K_b8.out)
      replace K_b10 := Aside0.mk ((hb.block _ (lt_blk K_b10.out)).trans K_b10.out)
      replace K_b11 := Aside0.mk ((hb.block _ (lt_blk K_b11.out)).trans K_b11.out)
      replace K_b12 := Aside0.mk ((hb.block _ (lt_blk K_b12.out)).trans K_b12.out)
      replace K_b13 := Aside0.mk ((hb.block _ (lt_blk K_b13.out)).trans K_b13.out)
      clear hb
      refine hK.out _ _ ⟨(blk_cell K_b8.out 0).trans rfl, (blk_cell K_b8.out 1).trans rfl, (blk_cell K_b8.out 2).trans rfl, (blk_cell K_b8.out 3).trans rfl, (blk_cell K_b8.out 4).trans rfl, (blk_cell K_b8.out 5).trans rfl, (blk_cell K_b10.out 0).trans rfl, (blk_cell K_b10.out 1).trans rfl, (blk_cell K_b10.out 2).trans rfl, (blk_cell K_b10.out 3).trans rfl, (blk_cell K_b10.out 4).trans rfl, (blk_cell K_b10.out 5).trans rfl, (blk_cell K_b10.out 6).trans rfl, (blk_cell K_b10.out 7).trans rfl, (blk_cell K_b11.out 0).trans rfl, (blk_cell K_b11.out 1).trans rfl, (blk_cell K_b11.out 2).trans rfl, (blk_cell K_b11.out 3).trans rfl, (blk_cell K_b11.out 4).trans rfl, (blk_cell K_b11.out 5).trans rfl, (blk_cell K_b11.out 6).trans rfl, (blk_cell K_b11.out 7).trans rfl, (blk_cell K_b12.out 0).trans rfl, (blk_cell K_b12.out 1).trans rfl, (blk_cell K_b12.out 2).trans rfl, (blk_cell K_b12.out 3).trans rfl, (blk_cell K_b12.out 4).trans rfl, (blk_cell K_b12.out 5).trans rfl, (blk_cell K_b12.out 6).trans rfl, (blk_cell K_b12.out 7).trans rfl, (blk_cell K_b13.out 0).trans rfl, (blk_cell K_b13.out 1).trans rfl, (blk_cell K_b13.out 2).trans rfl, (blk_cell K_b13.out 3).trans rfl, (blk_cell K_b13.out 4).trans rfl, (blk_cell K_b13.out 5).trans rfl, (blk_cell K_b13.out 6).trans rfl, (blk_cell K_b13.out 7).trans rfl⟩ (fun hHeld => ?_)
      clear hK K
      refine norm_ (a' := ?_) ?_ ?_
      rotate_left
      · show Act.put _ (some 59) _ = _
        simp only [Act.put, List.setIfInBounds_toArray, List.set_cons_zero, List.set_cons_succ, i64_w, i32_w]
        rfl
      refine one_ (i := 20) (N := some 63) #[true, true, true, true, true, true, true, true, true, true, true, true, true, true, true, true, true, true, true, true, true, false, false, false] rfl rfl (by kernel_rfl) (by decide) (fun K hK => ?_)
      refine goes_ Try.func16 (by kernel_rfl) rfl #[.agg #[.slice A4 r1.length c4, .slice A5 r2.length c5, .slice A6 rz.length c6, .slice A7 r4.length c7, .int .i64 r5, .int .i64 r6], .agg #[.string e0, .slice none 0 0, .string e1, .string e2, .slice none 0 0, .slice none 0 0, .slice none 0 0, .string ⟨#[]⟩], .agg #[.string d0, .slice none 0 0, .string d1, .string d2, .slice none 0 0, .slice none 0 0, .slice none 0 0, .string ⟨#[]⟩]] (by rfl) rfl rfl (by (try simp only [List.map_toArray, List.map_cons, List.map_nil]); first | done | rfl) ?_
      with_reducible refine (dist_n A4 r1.length c4 A5 c5 r2 A6 c6 rz A7 c7 r4 r5 r6 e0 e1 e2 ⟨#[]⟩ none 0 0 none 0 0 none 0 0 none 0 0 d0 d1 d2 ⟨#[]⟩ none 0 0 none 0 0 none 0 0 none 0 0 M (both_eq _ _ _ _ _ HZ.out M HM2.out) _ (Kd.C_below C1.out BU.out) (Kd.C_below C2.out BU.out) (Kd.C_below C3.out BU.out)).mono ?_
      rintro e w25 ⟨rfl, hb⟩
      refine ⟨_, rfl, ?_⟩
      replace B0 := Aside0.mk (B0.out.trans (hb.mono B0.out.size))
      replace BU := Aside0.mk (BU.out.trans (hb.mono BU.out.size))
      replace K_b4 := Aside0.mk ((hb.block _ (lt_blk K_b4.out)).trans K_b4.out)
      replace K_b5 := Aside0.mk ((hb.block _ (lt_blk K_b5.out)).trans K_b5.out)
      replace K_b8 := Aside0.mk ((hb.block _ (lt_blk K_b8.out)).trans K_b8.out)
      replace K_b10 := Aside0.mk ((hb.block _ (lt_blk K_b10.out)).trans K_b10.out)
      replace K_b11 := Aside0.mk ((hb.block _ (lt_blk K_b11.out)).trans K_b11.out)
      replace K_b12 := Aside0.mk ((hb.block _ (lt_blk K_b12.out)).trans K_b12.out)
      replace K_b13 := Aside0.mk ((hb.block _ (lt_blk K_b13.out)).trans K_b13.out)
      clear hb
      refine hK.out _ _ ⟨(blk_cell K_b8.out 0).trans rfl, (blk_cell K_b8.out 1).trans rfl, (blk_cell K_b8.out 2).trans rfl, (blk_cell K_b8.out 3).trans rfl, (blk_cell K_b8.out 4).trans rfl, (blk_cell K_b8.out 5).trans rfl, (blk_cell K_b10.out 0).trans rfl, (blk_cell K_b10.out 1).trans rfl, (blk_cell K_b10.out 2).trans rfl, (blk_cell K_b10.out 3).trans rfl, (blk_cell K_b10.out 4).trans rfl, (blk_cell K_b10.out 5).trans rfl, (blk_cell K_b10.out 6).trans rfl, (blk_cell K_b10.out 7).trans rfl, (blk_cell K_b11.out 0).trans rfl, (blk_cell K_b11.out 1).trans rfl, (blk_cell K_b11.out 2).trans rfl, (blk_cell K_b11.out 3).trans rfl, (blk_cell K_b11.out 4).trans rfl, (blk_cell K_b11.out 5).trans rfl, (blk_cell K_b11.out 6).trans rfl, (blk_cell K_b11.out 7).trans rfl, (blk_cell K_b12.out 0).trans rfl, (blk_cell K_b12.out 1).trans rfl, (blk_cell K_b12.out 2).trans rfl, (blk_cell K_b12.out 3).trans rfl, (blk_cell K_b12.out 4).trans rfl, (blk_cell K_b12.out 5).trans rfl, (blk_cell K_b12.out 6).trans rfl, (blk_cell K_b12.out 7).trans rfl, (blk_cell K_b13.out 0).trans rfl, (blk_cell K_b13.out 1).trans rfl, (blk_cell K_b13.out 2).trans rfl, (blk_cell K_b13.out 3).trans rfl, (blk_cell K_b13.out 4).trans rfl, (blk_cell K_b13.out 5).trans rfl, (blk_cell K_b13.out 6).trans rfl, (blk_cell K_b13.out 7).trans rfl⟩ (fun hHeld => ?_)
      clear hK K
      refine norm_ (a' := ?_) ?_ ?_
      rotate_left
      · show Act.put _ (some 63) _ = _
        simp only [Act.put, List.setIfInBounds_toArray, List.set_cons_zero, List.set_cons_succ, i64_w, i32_w]
        rfl
      refine pure_ (i := 21) (N := some 64) (v := ?_) (a' := ?_) #[true, true, true, true, true, true, true, true, true, true, true, true, true, true, true, true, true, true, true, true, true, true, false, false] rfl rfl (by kernel_rfl) (fun _ _ _ h => h) (Or.inl ⟨by rfl, ?_⟩) ?_ ?_
      rotate_left
      · intro w'
        go_simp
        with_reducible rfl
      rotate_left
      · simp only [Act.put, List.setIfInBounds_toArray, List.set_cons_zero, List.set_cons_succ, i64_w, i32_w]
        rfl
      refine pure_ (i := 22) (N := some 65) (v := ?_) (a' := ?_) #[true, true, true, true, true, true, true, true, true, true, true, true, true, true, true, true, true, true, true, true, true, true, true, false] rfl rfl (by kernel_rfl) (fun _ _ _ h => h) (Or.inl ⟨by rfl, ?_⟩) ?_ ?_
      rotate_left
      · intro w'
        go_simp
        with_reducible rfl
      rotate_left
      · simp only [Act.put, List.setIfInBounds_toArray, List.set_cons_zero, List.set_cons_succ, i64_w, i32_w]
        rfl
      refine pure_ (i := 23) (N := some 6) (v := ?_) (a' := ?_) #[true, true, true, true, true, true, true, true, true, true, true, true, true, true, true, true, true, true, true, true, true, true, true, true] rfl rfl (by kernel_rfl) (fun _ _ _ h => h) (Or.inl ⟨by rfl, ?_⟩) ?_ ?_
      rotate_left
      · intro w'
        go_simp
        with_reducible rfl
      rotate_left
      · simp only [Act.put, List.setIfInBounds_toArray, List.set_cons_zero, List.set_cons_succ, i64_w, i32_w]
        rfl
      refine done_ (by kernel_rfl) ?_
      go_wp2
      go_ret
      exact ⟨by simp, B0.out⟩
end Go.Proofs.Ytdjbanhoejegjaa.LikW
