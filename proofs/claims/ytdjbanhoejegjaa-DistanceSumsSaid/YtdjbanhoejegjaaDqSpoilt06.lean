/- isoglossref06.spoilt, walked: it hands back some tag. -/
import Derived.Test.YtdjbanhoejegjaaDqRow
import Derived.Test.YtdjbanhoejegjaaDqP1
namespace Go.Proofs.Ytdjbanhoejegjaa.LikW
open Go.RowKit Go.Proofs.YtdjbanhoejegjaaW.PrintWords Go.Proofs.YtdjbanhoejegjaaW.PrintLast Go.Proofs.Ytdjbanhoejegjaa.P
set_option linter.unusedVariables false
set_option linter.unusedSimpArgs false

def SomeTag (base : Nat) (w0 : World) (e : Ending) (w' : World) : Prop :=
  (∃ (L : ByteArray) (A1 : Option Addr) (n1 c1 : Nat) (S R : ByteArray) (A4 : Option Addr) (n4 c4 : Nat) (A5 : Option Addr) (n5 c5 : Nat) (A6 : Option Addr) (n6 c6 : Nat) (G : ByteArray), e = .returned (.agg #[.string L, .slice A1 n1 c1, .string S, .string R, .slice A4 n4 c4, .slice A5 n5 c5, .slice A6 n6 c6, .string G])) ∧ Below base w0 w'
abbrev Sp (L S R G : ByteArray) (A1 A4 A5 A6 : Option Addr) (n1 c1 n4 c4 n5 c5 n6 c6 base : Nat) (od : Int) (w0 w : World) (b0 : Nat) (cs0 : Array Value) : Prop := Calls Try.prog 32 #[.agg #[.string L, .slice A1 n1 c1, .string S, .string R, .slice A4 n4 c4, .slice A5 n5 c5, .slice A6 n6 c6, .string G], .int .i64 od] w fun e w' => SomeTag base w0 e w' ∧ w'.heap[b0]? = some (.cells cs0 44 (0, 0))
section
variable (L S R G : ByteArray) (A1 A4 A5 A6 : Option Addr) (n1 c1 n4 c4 n5 c5 n6 c6 base : Nat) (od : Int) (w0 w : World) (hB : Below base w0 w) (hb : base ≤ w.heap.size) (hn : n4 ≤ 4 ∧ n5 ≤ 4 ∧ n6 ≤ 4) (h4 : OwnP w base 9 1 n4 isStr (.slice A4 n4 c4)) (h5 : OwnP w base 74 2 n5 anyV (.slice A5 n5 c5)) (h6 : OwnP w base 9 1 n6 anyV (.slice A6 n6 c6)) (hT : (isoglossref02_Title.f 20 L).isSome = true) (b0 : Nat) (cs0 : Array Value) (h0 : w.heap[b0]? = some (.cells cs0 44 (0, 0)))
include hB hb hn h4 h5 h6 hT h0
set_option maxRecDepth 100000 in
set_option maxHeartbeats 4000000 in
theorem spoilt06_0 (h : ∀ j : Int, 1 ≤ j → j ≤ 8 → od ≠ j) : Sp L S R G A1 A4 A5 A6 n1 c1 n4 c4 n5 c5 n6 c6 base od w0 w b0 cs0 := by
  unfold Sp
  have hu44 := Try.underlying44
  obtain ⟨L2, ht⟩ := Option.isSome_iff_exists.1 hT
  have HT := Aside0.mk ht
  have HN := Aside0.mk hn
  have O4 := Aside0.mk h4
  have O5 := Aside0.mk h5
  have O6 := Aside0.mk h6
  have B0 := Aside0.mk hB
  have LB := Aside0.mk hb
  have K_b0 := Aside0.mk h0
  have d1 : (od == 1) = false := by simp; exact h 1 (by omega) (by omega)
  have d2 : (od == 2) = false := by simp; exact h 2 (by omega) (by omega)
  have d3 : (od == 3) = false := by simp; exact h 3 (by omega) (by omega)
  have d4 : (od == 4) = false := by simp; exact h 4 (by omega) (by omega)
  have d5 : (od == 5) = false := by simp; exact h 5 (by omega) (by omega)
  have d6 : (od == 6) = false := by simp; exact h 6 (by omega) (by omega)
  have d7 : (od == 7) = false := by simp; exact h 7 (by omega) (by omega)
  have d8 : (od == 8) = false := by simp; exact h 8 (by omega) (by omega)
  clear ht hT hn h4 h5 h6 hB hb h h0
  go_enter Try.func32, Try.ntmps32
  go_wp2_with (first
      | ((with_reducible refine gate_dst (N := 2) rfl ?_); refine be 2 #[.string L, .slice A1 n1 c1, .string S, .string R, .slice A4 n4 c4, .slice A5 n5 c5, .slice A6 n6 c6, .string G] 44 ?_; intro b2 hg v1 hbox hb; have N_b0_b2 := kn K_b0 hg; have G_b2 := Aside0.mk (show base ≤ b2 by rw [hg]; exact LB.out); replace O4 := Aside0.mk (O4.out.below hb); replace O5 := Aside0.mk (O5.out.below hb); replace O6 := Aside0.mk (O6.out.below hb); replace B0 := Aside0.mk (B0.out.trans (hb.mono LB.out)); replace K_b0 := kb K_b0 hb; replace LB := Aside0.mk (Nat.le_trans LB.out hb.size); have K_b2 := Aside0.mk hbox; clear hb hbox hg)
      | ((with_reducible refine gate_dst (N := 4) rfl ?_); refine be 4 #[.string ⟨#[]⟩, .slice none 0 0, .string ⟨#[]⟩, .string ⟨#[]⟩, .slice none 0 0, .slice none 0 0, .slice none 0 0, .string ⟨#[]⟩] 44 ?_; intro b4 hg v2 hbox hb; have N_b0_b4 := kn K_b0 hg; have N_b2_b4 := kn K_b2 hg; have G_b4 := Aside0.mk (show base ≤ b4 by rw [hg]; exact LB.out); replace O4 := Aside0.mk (O4.out.below hb); replace O5 := Aside0.mk (O5.out.below hb); replace O6 := Aside0.mk (O6.out.below hb); replace B0 := Aside0.mk (B0.out.trans (hb.mono LB.out)); replace K_b0 := kb K_b0 hb; replace K_b2 := kb K_b2 hb; replace LB := Aside0.mk (Nat.le_trans LB.out hb.size); have K_b4 := Aside0.mk hbox; clear hb hbox hg; obtain ⟨y_b2_0, y_b2_1, y_b2_2, y_b2_3, y_b2_4, y_b2_5, y_b2_6, y_b2_7⟩ := cz8 K_b2.out)
      | ((with_reducible refine gate_ (.store 44 (.tmp 4) (.tmp 54)) rfl ?_); refine pe b4 0 #[.string L, .slice A1 n1 c1, .string S, .string R, .slice A4 n4 c4, .slice A5 n5 c5, .slice A6 n6 c6, .string G] [.string L, .slice A1 n1 c1, .string S, .string R, .slice A4 n4 c4, .slice A5 n5 c5, .slice A6 n6 c6, .string G] K_b4.out ?_; intro v3 hk hp; clear y_b2_0 y_b2_1 y_b2_2 y_b2_3 y_b2_4 y_b2_5 y_b2_6 y_b2_7; replace B0 := bp B0 hp G_b4.out; replace K_b0 := kp K_b0 hp N_b0_b4.out; replace K_b2 := kp K_b2 hp N_b2_b4.out; replace K_b4 := Aside0.mk hk; clear hk hp))
  refine bodyPost_ret (results_cell_row rfl _ _ b4 44 #[.string L, .slice A1 n1 c1, .string S, .string R, .slice A4 n4 c4, .slice A5 n5 c5, .slice A6 n6 c6, .string G] (0, 0) _ rfl K_b4.out hu44 rfl (by kernel_rfl)) rfl ?_
  exact ⟨⟨⟨_, _, _, _, _, _, _, _, _, _, _, _, _, _, _, _, rfl⟩, B0.out⟩, K_b0.out⟩
set_option maxRecDepth 100000 in
set_option maxHeartbeats 4000000 in
theorem spoilt06_1 (h : od = 1) : Sp L S R G A1 A4 A5 A6 n1 c1 n4 c4 n5 c5 n6 c6 base od w0 w b0 cs0 := by
  unfold Sp
  have hu44 := Try.underlying44
  obtain ⟨L2, ht⟩ := Option.isSome_iff_exists.1 hT
  have HT := Aside0.mk ht
  have HN := Aside0.mk hn
  have O4 := Aside0.mk h4
  have O5 := Aside0.mk h5
  have O6 := Aside0.mk h6
  have B0 := Aside0.mk hB
  have LB := Aside0.mk hb
  have K_b0 := Aside0.mk h0
  have d1 : (od == 1) = true := by simp [h]
  clear ht hT hn h4 h5 h6 hB hb h h0
  go_enter Try.func32, Try.ntmps32
  go_wp2_with (first
      | ((with_reducible refine gate_dst (N := 2) rfl ?_); refine be 2 #[.string L, .slice A1 n1 c1, .string S, .string R, .slice A4 n4 c4, .slice A5 n5 c5, .slice A6 n6 c6, .string G] 44 ?_; intro b2 hg v1 hbox hb; have N_b0_b2 := kn K_b0 hg; have G_b2 := Aside0.mk (show base ≤ b2 by rw [hg]; exact LB.out); replace O4 := Aside0.mk (O4.out.below hb); replace O5 := Aside0.mk (O5.out.below hb); replace O6 := Aside0.mk (O6.out.below hb); replace B0 := Aside0.mk (B0.out.trans (hb.mono LB.out)); replace K_b0 := kb K_b0 hb; replace LB := Aside0.mk (Nat.le_trans LB.out hb.size); have K_b2 := Aside0.mk hbox; clear hb hbox hg)
      | ((with_reducible refine gate_dst (N := 4) rfl ?_); refine be 4 #[.string ⟨#[]⟩, .slice none 0 0, .string ⟨#[]⟩, .string ⟨#[]⟩, .slice none 0 0, .slice none 0 0, .slice none 0 0, .string ⟨#[]⟩] 44 ?_; intro b4 hg v2 hbox hb; have N_b0_b4 := kn K_b0 hg; have N_b2_b4 := kn K_b2 hg; have G_b4 := Aside0.mk (show base ≤ b4 by rw [hg]; exact LB.out); replace O4 := Aside0.mk (O4.out.below hb); replace O5 := Aside0.mk (O5.out.below hb); replace O6 := Aside0.mk (O6.out.below hb); replace B0 := Aside0.mk (B0.out.trans (hb.mono LB.out)); replace K_b0 := kb K_b0 hb; replace K_b2 := kb K_b2 hb; replace LB := Aside0.mk (Nat.le_trans LB.out hb.size); have K_b4 := Aside0.mk hbox; clear hb hbox hg; obtain ⟨y_b2_0, y_b2_1, y_b2_2, y_b2_3, y_b2_4, y_b2_5, y_b2_6, y_b2_7⟩ := cz8 K_b2.out)
      | ((with_reducible refine gate_builtin (b := .append) (xs := #[.tmp 9, .tmp 10]) rfl ?_); at_builtin; refine wpList_grow (w0 := w0) (p := isStr) base 2 rfl (.tmp 9) (.tmp 10) 41 9 (.string ⟨#[]⟩) 1 16 rfl Try.underlying41 (by kernel_rfl) rfl (by decide) (by decide) (.slice A4 n4 c4) n4 [.string ⟨#[102, 111, 110, 105, 112, 97]⟩, .string ⟨#[102, 111, 110, 105, 112, 97]⟩] rfl ?hx rfl ?h1 ?HO ?HB ?hb ?hl ?_; (case hx => rfl); (case h1 => simp [isStr, anyV, Value.oneCell']); (case HO => exact O4.out); (case HB => exact B0.out); (case hb => exact LB.out); (case hl => have := HN.out; omega); intro A7 c7 v3 ho hb hg hat; clear y_b2_0 y_b2_1 y_b2_2 y_b2_3 y_b2_4 y_b2_5 y_b2_6 y_b2_7; replace K_b0 := Aside0.mk ((hg.block _ (lt_blk K_b0.out) (O4.out.apart K_b0.out (by decide))).trans K_b0.out); replace K_b2 := Aside0.mk ((hg.block _ (lt_blk K_b2.out) (O4.out.apart K_b2.out (by decide))).trans K_b2.out); replace K_b4 := Aside0.mk ((hg.block _ (lt_blk K_b4.out) (O4.out.apart K_b4.out (by decide))).trans K_b4.out); replace B0 := Aside0.mk hb; clear ho hb hg hat)
      | ((with_reducible refine gate_ (.store 41 (.tmp 12) (.tmp 11)) rfl ?_); refine pe b2 4 #[.string L, .slice A1 n1 c1, .string S, .string R, .slice A7 (n4 + 2) c7, .slice A5 n5 c5, .slice A6 n6 c6, .string G] [.slice A7 (n4 + 2) c7] K_b2.out ?_; intro v4 hk hp; replace B0 := bp B0 hp G_b2.out; replace K_b0 := kp K_b0 hp N_b0_b2.out; replace K_b4 := kp K_b4 hp (Ne.symm N_b2_b4.out); replace K_b2 := Aside0.mk hk; clear hk hp; obtain ⟨y_b2_0, y_b2_1, y_b2_2, y_b2_3, y_b2_4, y_b2_5, y_b2_6, y_b2_7⟩ := cz8 K_b2.out)
      | ((with_reducible refine gate_ (.store 44 (.tmp 4) (.tmp 54)) rfl ?_); refine pe b4 0 #[.string L, .slice A1 n1 c1, .string S, .string R, .slice A7 (n4 + 2) c7, .slice A5 n5 c5, .slice A6 n6 c6, .string G] [.string L, .slice A1 n1 c1, .string S, .string R, .slice A7 (n4 + 2) c7, .slice A5 n5 c5, .slice A6 n6 c6, .string G] K_b4.out ?_; intro v5 hk hp; clear y_b2_0 y_b2_1 y_b2_2 y_b2_3 y_b2_4 y_b2_5 y_b2_6 y_b2_7; replace B0 := bp B0 hp G_b4.out; replace K_b0 := kp K_b0 hp N_b0_b4.out; replace K_b2 := kp K_b2 hp N_b2_b4.out; replace K_b4 := Aside0.mk hk; clear hk hp))
  refine bodyPost_ret (results_cell_row rfl _ _ b4 44 #[.string L, .slice A1 n1 c1, .string S, .string R, .slice A7 (n4 + 2) c7, .slice A5 n5 c5, .slice A6 n6 c6, .string G] (0, 0) _ rfl K_b4.out hu44 rfl (by kernel_rfl)) rfl ?_
  exact ⟨⟨⟨_, _, _, _, _, _, _, _, _, _, _, _, _, _, _, _, rfl⟩, B0.out⟩, K_b0.out⟩
set_option maxRecDepth 100000 in
set_option maxHeartbeats 4000000 in
theorem spoilt06_2 (h : od = 2) : Sp L S R G A1 A4 A5 A6 n1 c1 n4 c4 n5 c5 n6 c6 base od w0 w b0 cs0 := by
  unfold Sp
  have hu44 := Try.underlying44
  obtain ⟨L2, ht⟩ := Option.isSome_iff_exists.1 hT
  have HT := Aside0.mk ht
  have HN := Aside0.mk hn
  have O4 := Aside0.mk h4
  have O5 := Aside0.mk h5
  have O6 := Aside0.mk h6
  have B0 := Aside0.mk hB
  have LB := Aside0.mk hb
  have K_b0 := Aside0.mk h0
  have d1 : (od == 1) = false := by simp; omega
  have d2 : (od == 2) = true := by simp [h]
  clear ht hT hn h4 h5 h6 hB hb h h0
  go_enter Try.func32, Try.ntmps32
  go_wp2_with (first
      | ((with_reducible refine gate_dst (N := 2) rfl ?_); refine be 2 #[.string L, .slice A1 n1 c1, .string S, .string R, .slice A4 n4 c4, .slice A5 n5 c5, .slice A6 n6 c6, .string G] 44 ?_; intro b2 hg v1 hbox hb; have N_b0_b2 := kn K_b0 hg; have G_b2 := Aside0.mk (show base ≤ b2 by rw [hg]; exact LB.out); replace O4 := Aside0.mk (O4.out.below hb); replace O5 := Aside0.mk (O5.out.below hb); replace O6 := Aside0.mk (O6.out.below hb); replace B0 := Aside0.mk (B0.out.trans (hb.mono LB.out)); replace K_b0 := kb K_b0 hb; replace LB := Aside0.mk (Nat.le_trans LB.out hb.size); have K_b2 := Aside0.mk hbox; clear hb hbox hg)
      | ((with_reducible refine gate_dst (N := 4) rfl ?_); refine be 4 #[.string ⟨#[]⟩, .slice none 0 0, .string ⟨#[]⟩, .string ⟨#[]⟩, .slice none 0 0, .slice none 0 0, .slice none 0 0, .string ⟨#[]⟩] 44 ?_; intro b4 hg v2 hbox hb; have N_b0_b4 := kn K_b0 hg; have N_b2_b4 := kn K_b2 hg; have G_b4 := Aside0.mk (show base ≤ b4 by rw [hg]; exact LB.out); replace O4 := Aside0.mk (O4.out.below hb); replace O5 := Aside0.mk (O5.out.below hb); replace O6 := Aside0.mk (O6.out.below hb); replace B0 := Aside0.mk (B0.out.trans (hb.mono LB.out)); replace K_b0 := kb K_b0 hb; replace K_b2 := kb K_b2 hb; replace LB := Aside0.mk (Nat.le_trans LB.out hb.size); have K_b4 := Aside0.mk hbox; clear hb hbox hg; obtain ⟨y_b2_0, y_b2_1, y_b2_2, y_b2_3, y_b2_4, y_b2_5, y_b2_6, y_b2_7⟩ := cz8 K_b2.out)
      | ((with_reducible refine gate_callee (f := 50) rfl ?_); refine goesL_ (some 17) rfl rfl Try.func50 (by kernel_rfl) rfl #[.string L] rfl mq ?_; (with_reducible refine (isoglossref02_Title.calls 20 L L2 _ HT.out).mono ?_); rintro e v3 ⟨rfl, hb⟩; refine ⟨_, rfl, ?_⟩; clear y_b2_0 y_b2_1 y_b2_2 y_b2_3 y_b2_4 y_b2_5 y_b2_6 y_b2_7; replace B0 := Aside0.mk (B0.out.trans (hb.mono LB.out)); replace K_b0 := kb K_b0 hb; replace K_b2 := kb K_b2 hb; replace K_b4 := kb K_b4 hb; replace LB := Aside0.mk (Nat.le_trans LB.out hb.size); clear hb)
      | ((with_reducible refine gate_ (.store 9 (.tmp 18) (.tmp 17)) rfl ?_); refine pe b2 0 #[.string L2, .slice A1 n1 c1, .string S, .string R, .slice A4 n4 c4, .slice A5 n5 c5, .slice A6 n6 c6, .string G] [.string L2] K_b2.out ?_; intro v4 hk hp; replace B0 := bp B0 hp G_b2.out; replace K_b0 := kp K_b0 hp N_b0_b2.out; replace K_b4 := kp K_b4 hp (Ne.symm N_b2_b4.out); replace K_b2 := Aside0.mk hk; clear hk hp; obtain ⟨y_b2_0, y_b2_1, y_b2_2, y_b2_3, y_b2_4, y_b2_5, y_b2_6, y_b2_7⟩ := cz8 K_b2.out)
      | ((with_reducible refine gate_ (.store 44 (.tmp 4) (.tmp 54)) rfl ?_); refine pe b4 0 #[.string L2, .slice A1 n1 c1, .string S, .string R, .slice A4 n4 c4, .slice A5 n5 c5, .slice A6 n6 c6, .string G] [.string L2, .slice A1 n1 c1, .string S, .string R, .slice A4 n4 c4, .slice A5 n5 c5, .slice A6 n6 c6, .string G] K_b4.out ?_; intro v5 hk hp; clear y_b2_0 y_b2_1 y_b2_2 y_b2_3 y_b2_4 y_b2_5 y_b2_6 y_b2_7; replace B0 := bp B0 hp G_b4.out; replace K_b0 := kp K_b0 hp N_b0_b4.out; replace K_b2 := kp K_b2 hp N_b2_b4.out; replace K_b4 := Aside0.mk hk; clear hk hp))
  refine bodyPost_ret (results_cell_row rfl _ _ b4 44 #[.string L2, .slice A1 n1 c1, .string S, .string R, .slice A4 n4 c4, .slice A5 n5 c5, .slice A6 n6 c6, .string G] (0, 0) _ rfl K_b4.out hu44 rfl (by kernel_rfl)) rfl ?_
  exact ⟨⟨⟨_, _, _, _, _, _, _, _, _, _, _, _, _, _, _, _, rfl⟩, B0.out⟩, K_b0.out⟩
set_option maxRecDepth 100000 in
set_option maxHeartbeats 4000000 in
theorem spoilt06_3 (h : od = 3) : Sp L S R G A1 A4 A5 A6 n1 c1 n4 c4 n5 c5 n6 c6 base od w0 w b0 cs0 := by
  unfold Sp
  have hu44 := Try.underlying44
  obtain ⟨L2, ht⟩ := Option.isSome_iff_exists.1 hT
  have HT := Aside0.mk ht
  have HN := Aside0.mk hn
  have O4 := Aside0.mk h4
  have O5 := Aside0.mk h5
  have O6 := Aside0.mk h6
  have B0 := Aside0.mk hB
  have LB := Aside0.mk hb
  have K_b0 := Aside0.mk h0
  have d1 : (od == 1) = false := by simp; omega
  have d2 : (od == 2) = false := by simp; omega
  have d3 : (od == 3) = true := by simp [h]
  clear ht hT hn h4 h5 h6 hB hb h h0
  go_enter Try.func32, Try.ntmps32
  go_wp2_with (first
      | ((with_reducible refine gate_dst (N := 2) rfl ?_); refine be 2 #[.string L, .slice A1 n1 c1, .string S, .string R, .slice A4 n4 c4, .slice A5 n5 c5, .slice A6 n6 c6, .string G] 44 ?_; intro b2 hg v1 hbox hb; have N_b0_b2 := kn K_b0 hg; have G_b2 := Aside0.mk (show base ≤ b2 by rw [hg]; exact LB.out); replace O4 := Aside0.mk (O4.out.below hb); replace O5 := Aside0.mk (O5.out.below hb); replace O6 := Aside0.mk (O6.out.below hb); replace B0 := Aside0.mk (B0.out.trans (hb.mono LB.out)); replace K_b0 := kb K_b0 hb; replace LB := Aside0.mk (Nat.le_trans LB.out hb.size); have K_b2 := Aside0.mk hbox; clear hb hbox hg)
      | ((with_reducible refine gate_dst (N := 4) rfl ?_); refine be 4 #[.string ⟨#[]⟩, .slice none 0 0, .string ⟨#[]⟩, .string ⟨#[]⟩, .slice none 0 0, .slice none 0 0, .slice none 0 0, .string ⟨#[]⟩] 44 ?_; intro b4 hg v2 hbox hb; have N_b0_b4 := kn K_b0 hg; have N_b2_b4 := kn K_b2 hg; have G_b4 := Aside0.mk (show base ≤ b4 by rw [hg]; exact LB.out); replace O4 := Aside0.mk (O4.out.below hb); replace O5 := Aside0.mk (O5.out.below hb); replace O6 := Aside0.mk (O6.out.below hb); replace B0 := Aside0.mk (B0.out.trans (hb.mono LB.out)); replace K_b0 := kb K_b0 hb; replace K_b2 := kb K_b2 hb; replace LB := Aside0.mk (Nat.le_trans LB.out hb.size); have K_b4 := Aside0.mk hbox; clear hb hbox hg; obtain ⟨y_b2_0, y_b2_1, y_b2_2, y_b2_3, y_b2_4, y_b2_5, y_b2_6, y_b2_7⟩ := cz8 K_b2.out)
      | ((with_reducible refine gate_builtin (b := .append) (xs := #[.tmp 22, .tmp 24]) rfl ?_); at_builtin; refine wpList_grow (w0 := w0) (p := anyV) base 1 rfl (.tmp 22) (.tmp 24) 42 74 (.agg #[.string ⟨#[]⟩, .slice none 0 0]) 2 40 rfl Try.underlying42 (by kernel_rfl) rfl (by decide) (by decide) (.slice A5 n5 c5) n5 [.string ⟨#[98]⟩, .slice none 0 0] rfl ?hx rfl ?h1 ?HO ?HB ?hb ?hl ?_; (case hx => rfl); (case h1 => simp [isStr, anyV, Value.oneCell']); (case HO => exact O5.out); (case HB => exact B0.out); (case hb => exact LB.out); (case hl => have := HN.out; omega); intro A7 c7 v3 ho hb hg hat; clear y_b2_0 y_b2_1 y_b2_2 y_b2_3 y_b2_4 y_b2_5 y_b2_6 y_b2_7; replace K_b0 := Aside0.mk ((hg.block _ (lt_blk K_b0.out) (O5.out.apart K_b0.out (by decide))).trans K_b0.out); replace K_b2 := Aside0.mk ((hg.block _ (lt_blk K_b2.out) (O5.out.apart K_b2.out (by decide))).trans K_b2.out); replace K_b4 := Aside0.mk ((hg.block _ (lt_blk K_b4.out) (O5.out.apart K_b4.out (by decide))).trans K_b4.out); replace B0 := Aside0.mk hb; clear ho hb hg hat)
      | ((with_reducible refine gate_ (.store 42 (.tmp 26) (.tmp 25)) rfl ?_); refine pe b2 5 #[.string L, .slice A1 n1 c1, .string S, .string R, .slice A4 n4 c4, .slice A7 (n5 + 1) c7, .slice A6 n6 c6, .string G] [.slice A7 (n5 + 1) c7] K_b2.out ?_; intro v4 hk hp; replace B0 := bp B0 hp G_b2.out; replace K_b0 := kp K_b0 hp N_b0_b2.out; replace K_b4 := kp K_b4 hp (Ne.symm N_b2_b4.out); replace K_b2 := Aside0.mk hk; clear hk hp; obtain ⟨y_b2_0, y_b2_1, y_b2_2, y_b2_3, y_b2_4, y_b2_5, y_b2_6, y_b2_7⟩ := cz8 K_b2.out)
      | ((with_reducible refine gate_ (.store 44 (.tmp 4) (.tmp 54)) rfl ?_); refine pe b4 0 #[.string L, .slice A1 n1 c1, .string S, .string R, .slice A4 n4 c4, .slice A7 (n5 + 1) c7, .slice A6 n6 c6, .string G] [.string L, .slice A1 n1 c1, .string S, .string R, .slice A4 n4 c4, .slice A7 (n5 + 1) c7, .slice A6 n6 c6, .string G] K_b4.out ?_; intro v5 hk hp; clear y_b2_0 y_b2_1 y_b2_2 y_b2_3 y_b2_4 y_b2_5 y_b2_6 y_b2_7; replace B0 := bp B0 hp G_b4.out; replace K_b0 := kp K_b0 hp N_b0_b4.out; replace K_b2 := kp K_b2 hp N_b2_b4.out; replace K_b4 := Aside0.mk hk; clear hk hp))
  refine bodyPost_ret (results_cell_row rfl _ _ b4 44 #[.string L, .slice A1 n1 c1, .string S, .string R, .slice A4 n4 c4, .slice A7 (n5 + 1) c7, .slice A6 n6 c6, .string G] (0, 0) _ rfl K_b4.out hu44 rfl (by kernel_rfl)) rfl ?_
  exact ⟨⟨⟨_, _, _, _, _, _, _, _, _, _, _, _, _, _, _, _, rfl⟩, B0.out⟩, K_b0.out⟩
set_option maxRecDepth 100000 in
set_option maxHeartbeats 4000000 in
theorem spoilt06_4 (h : od = 4) : Sp L S R G A1 A4 A5 A6 n1 c1 n4 c4 n5 c5 n6 c6 base od w0 w b0 cs0 := by
  unfold Sp
  have hu44 := Try.underlying44
  obtain ⟨L2, ht⟩ := Option.isSome_iff_exists.1 hT
  have HT := Aside0.mk ht
  have HN := Aside0.mk hn
  have O4 := Aside0.mk h4
  have O5 := Aside0.mk h5
  have O6 := Aside0.mk h6
  have B0 := Aside0.mk hB
  have LB := Aside0.mk hb
  have K_b0 := Aside0.mk h0
  have d1 : (od == 1) = false := by simp; omega
  have d2 : (od == 2) = false := by simp; omega
  have d3 : (od == 3) = false := by simp; omega
  have d4 : (od == 4) = true := by simp [h]
  clear ht hT hn h4 h5 h6 hB hb h h0
  go_enter Try.func32, Try.ntmps32
  go_wp2_with (first
      | ((with_reducible refine gate_dst (N := 2) rfl ?_); refine be 2 #[.string L, .slice A1 n1 c1, .string S, .string R, .slice A4 n4 c4, .slice A5 n5 c5, .slice A6 n6 c6, .string G] 44 ?_; intro b2 hg v1 hbox hb; have N_b0_b2 := kn K_b0 hg; have G_b2 := Aside0.mk (show base ≤ b2 by rw [hg]; exact LB.out); replace O4 := Aside0.mk (O4.out.below hb); replace O5 := Aside0.mk (O5.out.below hb); replace O6 := Aside0.mk (O6.out.below hb); replace B0 := Aside0.mk (B0.out.trans (hb.mono LB.out)); replace K_b0 := kb K_b0 hb; replace LB := Aside0.mk (Nat.le_trans LB.out hb.size); have K_b2 := Aside0.mk hbox; clear hb hbox hg)
      | ((with_reducible refine gate_dst (N := 4) rfl ?_); refine be 4 #[.string ⟨#[]⟩, .slice none 0 0, .string ⟨#[]⟩, .string ⟨#[]⟩, .slice none 0 0, .slice none 0 0, .slice none 0 0, .string ⟨#[]⟩] 44 ?_; intro b4 hg v2 hbox hb; have N_b0_b4 := kn K_b0 hg; have N_b2_b4 := kn K_b2 hg; have G_b4 := Aside0.mk (show base ≤ b4 by rw [hg]; exact LB.out); replace O4 := Aside0.mk (O4.out.below hb); replace O5 := Aside0.mk (O5.out.below hb); replace O6 := Aside0.mk (O6.out.below hb); replace B0 := Aside0.mk (B0.out.trans (hb.mono LB.out)); replace K_b0 := kb K_b0 hb; replace K_b2 := kb K_b2 hb; replace LB := Aside0.mk (Nat.le_trans LB.out hb.size); have K_b4 := Aside0.mk hbox; clear hb hbox hg; obtain ⟨y_b2_0, y_b2_1, y_b2_2, y_b2_3, y_b2_4, y_b2_5, y_b2_6, y_b2_7⟩ := cz8 K_b2.out)
      | ((with_reducible refine gate_ (.store 9 (.tmp 29) (.const (.string ⟨#[108, 97, 116]⟩))) rfl ?_); refine pe b2 2 #[.string L, .slice A1 n1 c1, .string ⟨#[108, 97, 116]⟩, .string R, .slice A4 n4 c4, .slice A5 n5 c5, .slice A6 n6 c6, .string G] [.string ⟨#[108, 97, 116]⟩] K_b2.out ?_; intro v3 hk hp; clear y_b2_0 y_b2_1 y_b2_2 y_b2_3 y_b2_4 y_b2_5 y_b2_6 y_b2_7; replace B0 := bp B0 hp G_b2.out; replace K_b0 := kp K_b0 hp N_b0_b2.out; replace K_b4 := kp K_b4 hp (Ne.symm N_b2_b4.out); replace K_b2 := Aside0.mk hk; clear hk hp; obtain ⟨y_b2_0, y_b2_1, y_b2_2, y_b2_3, y_b2_4, y_b2_5, y_b2_6, y_b2_7⟩ := cz8 K_b2.out)
      | ((with_reducible refine gate_ (.store 44 (.tmp 4) (.tmp 54)) rfl ?_); refine pe b4 0 #[.string L, .slice A1 n1 c1, .string ⟨#[108, 97, 116]⟩, .string R, .slice A4 n4 c4, .slice A5 n5 c5, .slice A6 n6 c6, .string G] [.string L, .slice A1 n1 c1, .string ⟨#[108, 97, 116]⟩, .string R, .slice A4 n4 c4, .slice A5 n5 c5, .slice A6 n6 c6, .string G] K_b4.out ?_; intro v4 hk hp; clear y_b2_0 y_b2_1 y_b2_2 y_b2_3 y_b2_4 y_b2_5 y_b2_6 y_b2_7; replace B0 := bp B0 hp G_b4.out; replace K_b0 := kp K_b0 hp N_b0_b4.out; replace K_b2 := kp K_b2 hp N_b2_b4.out; replace K_b4 := Aside0.mk hk; clear hk hp))
  refine bodyPost_ret (results_cell_row rfl _ _ b4 44 #[.string L, .slice A1 n1 c1, .string ⟨#[108, 97, 116]⟩, .string R, .slice A4 n4 c4, .slice A5 n5 c5, .slice A6 n6 c6, .string G] (0, 0) _ rfl K_b4.out hu44 rfl (by kernel_rfl)) rfl ?_
  exact ⟨⟨⟨_, _, _, _, _, _, _, _, _, _, _, _, _, _, _, _, rfl⟩, B0.out⟩, K_b0.out⟩
set_option maxRecDepth 100000 in
set_option maxHeartbeats 4000000 in
theorem spoilt06_5 (h : od = 5) : Sp L S R G A1 A4 A5 A6 n1 c1 n4 c4 n5 c5 n6 c6 base od w0 w b0 cs0 := by
  unfold Sp
  have hu44 := Try.underlying44
  obtain ⟨L2, ht⟩ := Option.isSome_iff_exists.1 hT
  have HT := Aside0.mk ht
  have HN := Aside0.mk hn
  have O4 := Aside0.mk h4
  have O5 := Aside0.mk h5
  have O6 := Aside0.mk h6
  have B0 := Aside0.mk hB
  have LB := Aside0.mk hb
  have K_b0 := Aside0.mk h0
  have d1 : (od == 1) = false := by simp; omega
  have d2 : (od == 2) = false := by simp; omega
  have d3 : (od == 3) = false := by simp; omega
  have d4 : (od == 4) = false := by simp; omega
  have d5 : (od == 5) = true := by simp [h]
  clear ht hT hn h4 h5 h6 hB hb h h0
  go_enter Try.func32, Try.ntmps32
  go_wp2_with (first
      | ((with_reducible refine gate_dst (N := 2) rfl ?_); refine be 2 #[.string L, .slice A1 n1 c1, .string S, .string R, .slice A4 n4 c4, .slice A5 n5 c5, .slice A6 n6 c6, .string G] 44 ?_; intro b2 hg v1 hbox hb; have N_b0_b2 := kn K_b0 hg; have G_b2 := Aside0.mk (show base ≤ b2 by rw [hg]; exact LB.out); replace O4 := Aside0.mk (O4.out.below hb); replace O5 := Aside0.mk (O5.out.below hb); replace O6 := Aside0.mk (O6.out.below hb); replace B0 := Aside0.mk (B0.out.trans (hb.mono LB.out)); replace K_b0 := kb K_b0 hb; replace LB := Aside0.mk (Nat.le_trans LB.out hb.size); have K_b2 := Aside0.mk hbox; clear hb hbox hg)
      | ((with_reducible refine gate_dst (N := 4) rfl ?_); refine be 4 #[.string ⟨#[]⟩, .slice none 0 0, .string ⟨#[]⟩, .string ⟨#[]⟩, .slice none 0 0, .slice none 0 0, .slice none 0 0, .string ⟨#[]⟩] 44 ?_; intro b4 hg v2 hbox hb; have N_b0_b4 := kn K_b0 hg; have N_b2_b4 := kn K_b2 hg; have G_b4 := Aside0.mk (show base ≤ b4 by rw [hg]; exact LB.out); replace O4 := Aside0.mk (O4.out.below hb); replace O5 := Aside0.mk (O5.out.below hb); replace O6 := Aside0.mk (O6.out.below hb); replace B0 := Aside0.mk (B0.out.trans (hb.mono LB.out)); replace K_b0 := kb K_b0 hb; replace K_b2 := kb K_b2 hb; replace LB := Aside0.mk (Nat.le_trans LB.out hb.size); have K_b4 := Aside0.mk hbox; clear hb hbox hg; obtain ⟨y_b2_0, y_b2_1, y_b2_2, y_b2_3, y_b2_4, y_b2_5, y_b2_6, y_b2_7⟩ := cz8 K_b2.out)
      | ((with_reducible refine gate_ (.store 9 (.tmp 32) (.const (.string ⟨#[105, 45, 97, 109, 105]⟩))) rfl ?_); refine pe b2 7 #[.string L, .slice A1 n1 c1, .string S, .string R, .slice A4 n4 c4, .slice A5 n5 c5, .slice A6 n6 c6, .string ⟨#[105, 45, 97, 109, 105]⟩] [.string ⟨#[105, 45, 97, 109, 105]⟩] K_b2.out ?_; intro v3 hk hp; clear y_b2_0 y_b2_1 y_b2_2 y_b2_3 y_b2_4 y_b2_5 y_b2_6 y_b2_7; replace B0 := bp B0 hp G_b2.out; replace K_b0 := kp K_b0 hp N_b0_b2.out; replace K_b4 := kp K_b4 hp (Ne.symm N_b2_b4.out); replace K_b2 := Aside0.mk hk; clear hk hp; obtain ⟨y_b2_0, y_b2_1, y_b2_2, y_b2_3, y_b2_4, y_b2_5, y_b2_6, y_b2_7⟩ := cz8 K_b2.out)
      | ((with_reducible refine gate_ (.store 44 (.tmp 4) (.tmp 54)) rfl ?_); refine pe b4 0 #[.string L, .slice A1 n1 c1, .string S, .string R, .slice A4 n4 c4, .slice A5 n5 c5, .slice A6 n6 c6, .string ⟨#[105, 45, 97, 109, 105]⟩] [.string L, .slice A1 n1 c1, .string S, .string R, .slice A4 n4 c4, .slice A5 n5 c5, .slice A6 n6 c6, .string ⟨#[105, 45, 97, 109, 105]⟩] K_b4.out ?_; intro v4 hk hp; clear y_b2_0 y_b2_1 y_b2_2 y_b2_3 y_b2_4 y_b2_5 y_b2_6 y_b2_7; replace B0 := bp B0 hp G_b4.out; replace K_b0 := kp K_b0 hp N_b0_b4.out; replace K_b2 := kp K_b2 hp N_b2_b4.out; replace K_b4 := Aside0.mk hk; clear hk hp))
  refine bodyPost_ret (results_cell_row rfl _ _ b4 44 #[.string L, .slice A1 n1 c1, .string S, .string R, .slice A4 n4 c4, .slice A5 n5 c5, .slice A6 n6 c6, .string ⟨#[105, 45, 97, 109, 105]⟩] (0, 0) _ rfl K_b4.out hu44 rfl (by kernel_rfl)) rfl ?_
  exact ⟨⟨⟨_, _, _, _, _, _, _, _, _, _, _, _, _, _, _, _, rfl⟩, B0.out⟩, K_b0.out⟩
set_option maxRecDepth 100000 in
set_option maxHeartbeats 4000000 in
theorem spoilt06_6 (h : od = 6) : Sp L S R G A1 A4 A5 A6 n1 c1 n4 c4 n5 c5 n6 c6 base od w0 w b0 cs0 := by
  unfold Sp
  have hu44 := Try.underlying44
  obtain ⟨L2, ht⟩ := Option.isSome_iff_exists.1 hT
  have HT := Aside0.mk ht
  have HN := Aside0.mk hn
  have O4 := Aside0.mk h4
  have O5 := Aside0.mk h5
  have O6 := Aside0.mk h6
  have B0 := Aside0.mk hB
  have LB := Aside0.mk hb
  have K_b0 := Aside0.mk h0
  have d1 : (od == 1) = false := by simp; omega
  have d2 : (od == 2) = false := by simp; omega
  have d3 : (od == 3) = false := by simp; omega
  have d4 : (od == 4) = false := by simp; omega
  have d5 : (od == 5) = false := by simp; omega
  have d6 : (od == 6) = true := by simp [h]
  clear ht hT hn h4 h5 h6 hB hb h h0
  go_enter Try.func32, Try.ntmps32
  go_wp2_with (first
      | ((with_reducible refine gate_dst (N := 2) rfl ?_); refine be 2 #[.string L, .slice A1 n1 c1, .string S, .string R, .slice A4 n4 c4, .slice A5 n5 c5, .slice A6 n6 c6, .string G] 44 ?_; intro b2 hg v1 hbox hb; have N_b0_b2 := kn K_b0 hg; have G_b2 := Aside0.mk (show base ≤ b2 by rw [hg]; exact LB.out); replace O4 := Aside0.mk (O4.out.below hb); replace O5 := Aside0.mk (O5.out.below hb); replace O6 := Aside0.mk (O6.out.below hb); replace B0 := Aside0.mk (B0.out.trans (hb.mono LB.out)); replace K_b0 := kb K_b0 hb; replace LB := Aside0.mk (Nat.le_trans LB.out hb.size); have K_b2 := Aside0.mk hbox; clear hb hbox hg)
      | ((with_reducible refine gate_dst (N := 4) rfl ?_); refine be 4 #[.string ⟨#[]⟩, .slice none 0 0, .string ⟨#[]⟩, .string ⟨#[]⟩, .slice none 0 0, .slice none 0 0, .slice none 0 0, .string ⟨#[]⟩] 44 ?_; intro b4 hg v2 hbox hb; have N_b0_b4 := kn K_b0 hg; have N_b2_b4 := kn K_b2 hg; have G_b4 := Aside0.mk (show base ≤ b4 by rw [hg]; exact LB.out); replace O4 := Aside0.mk (O4.out.below hb); replace O5 := Aside0.mk (O5.out.below hb); replace O6 := Aside0.mk (O6.out.below hb); replace B0 := Aside0.mk (B0.out.trans (hb.mono LB.out)); replace K_b0 := kb K_b0 hb; replace K_b2 := kb K_b2 hb; replace LB := Aside0.mk (Nat.le_trans LB.out hb.size); have K_b4 := Aside0.mk hbox; clear hb hbox hg; obtain ⟨y_b2_0, y_b2_1, y_b2_2, y_b2_3, y_b2_4, y_b2_5, y_b2_6, y_b2_7⟩ := cz8 K_b2.out)
      | ((with_reducible refine gate_builtin (b := .append) (xs := #[.tmp 36, .tmp 37]) rfl ?_); at_builtin; refine wpList_grow (w0 := w0) (p := anyV) base 1 rfl (.tmp 36) (.tmp 37) 41 9 (.string ⟨#[]⟩) 1 16 rfl Try.underlying41 (by kernel_rfl) rfl (by decide) (by decide) (.slice A6 n6 c6) n6 [.string ⟨#[97, 98, 99, 100, 101, 102, 103, 104, 105]⟩] rfl ?hx rfl ?h1 ?HO ?HB ?hb ?hl ?_; (case hx => rfl); (case h1 => simp [isStr, anyV, Value.oneCell']); (case HO => exact O6.out); (case HB => exact B0.out); (case hb => exact LB.out); (case hl => have := HN.out; omega); intro A7 c7 v3 ho hb hg hat; clear y_b2_0 y_b2_1 y_b2_2 y_b2_3 y_b2_4 y_b2_5 y_b2_6 y_b2_7; replace K_b0 := Aside0.mk ((hg.block _ (lt_blk K_b0.out) (O6.out.apart K_b0.out (by decide))).trans K_b0.out); replace K_b2 := Aside0.mk ((hg.block _ (lt_blk K_b2.out) (O6.out.apart K_b2.out (by decide))).trans K_b2.out); replace K_b4 := Aside0.mk ((hg.block _ (lt_blk K_b4.out) (O6.out.apart K_b4.out (by decide))).trans K_b4.out); replace B0 := Aside0.mk hb; clear ho hb hg hat)
      | ((with_reducible refine gate_ (.store 41 (.tmp 39) (.tmp 38)) rfl ?_); refine pe b2 6 #[.string L, .slice A1 n1 c1, .string S, .string R, .slice A4 n4 c4, .slice A5 n5 c5, .slice A7 (n6 + 1) c7, .string G] [.slice A7 (n6 + 1) c7] K_b2.out ?_; intro v4 hk hp; replace B0 := bp B0 hp G_b2.out; replace K_b0 := kp K_b0 hp N_b0_b2.out; replace K_b4 := kp K_b4 hp (Ne.symm N_b2_b4.out); replace K_b2 := Aside0.mk hk; clear hk hp; obtain ⟨y_b2_0, y_b2_1, y_b2_2, y_b2_3, y_b2_4, y_b2_5, y_b2_6, y_b2_7⟩ := cz8 K_b2.out)
      | ((with_reducible refine gate_ (.store 44 (.tmp 4) (.tmp 54)) rfl ?_); refine pe b4 0 #[.string L, .slice A1 n1 c1, .string S, .string R, .slice A4 n4 c4, .slice A5 n5 c5, .slice A7 (n6 + 1) c7, .string G] [.string L, .slice A1 n1 c1, .string S, .string R, .slice A4 n4 c4, .slice A5 n5 c5, .slice A7 (n6 + 1) c7, .string G] K_b4.out ?_; intro v5 hk hp; clear y_b2_0 y_b2_1 y_b2_2 y_b2_3 y_b2_4 y_b2_5 y_b2_6 y_b2_7; replace B0 := bp B0 hp G_b4.out; replace K_b0 := kp K_b0 hp N_b0_b4.out; replace K_b2 := kp K_b2 hp N_b2_b4.out; replace K_b4 := Aside0.mk hk; clear hk hp))
  refine bodyPost_ret (results_cell_row rfl _ _ b4 44 #[.string L, .slice A1 n1 c1, .string S, .string R, .slice A4 n4 c4, .slice A5 n5 c5, .slice A7 (n6 + 1) c7, .string G] (0, 0) _ rfl K_b4.out hu44 rfl (by kernel_rfl)) rfl ?_
  exact ⟨⟨⟨_, _, _, _, _, _, _, _, _, _, _, _, _, _, _, _, rfl⟩, B0.out⟩, K_b0.out⟩
set_option maxRecDepth 100000 in
set_option maxHeartbeats 4000000 in
theorem spoilt06_7 (h : od = 7) : Sp L S R G A1 A4 A5 A6 n1 c1 n4 c4 n5 c5 n6 c6 base od w0 w b0 cs0 := by
  unfold Sp
  have hu44 := Try.underlying44
  obtain ⟨L2, ht⟩ := Option.isSome_iff_exists.1 hT
  have HT := Aside0.mk ht
  have HN := Aside0.mk hn
  have O4 := Aside0.mk h4
  have O5 := Aside0.mk h5
  have O6 := Aside0.mk h6
  have B0 := Aside0.mk hB
  have LB := Aside0.mk hb
  have K_b0 := Aside0.mk h0
  have d1 : (od == 1) = false := by simp; omega
  have d2 : (od == 2) = false := by simp; omega
  have d3 : (od == 3) = false := by simp; omega
  have d4 : (od == 4) = false := by simp; omega
  have d5 : (od == 5) = false := by simp; omega
  have d6 : (od == 6) = false := by simp; omega
  have d7 : (od == 7) = true := by simp [h]
  clear ht hT hn h4 h5 h6 hB hb h h0
  go_enter Try.func32, Try.ntmps32
  go_wp2_with (first
      | ((with_reducible refine gate_dst (N := 2) rfl ?_); refine be 2 #[.string L, .slice A1 n1 c1, .string S, .string R, .slice A4 n4 c4, .slice A5 n5 c5, .slice A6 n6 c6, .string G] 44 ?_; intro b2 hg v1 hbox hb; have N_b0_b2 := kn K_b0 hg; have G_b2 := Aside0.mk (show base ≤ b2 by rw [hg]; exact LB.out); replace O4 := Aside0.mk (O4.out.below hb); replace O5 := Aside0.mk (O5.out.below hb); replace O6 := Aside0.mk (O6.out.below hb); replace B0 := Aside0.mk (B0.out.trans (hb.mono LB.out)); replace K_b0 := kb K_b0 hb; replace LB := Aside0.mk (Nat.le_trans LB.out hb.size); have K_b2 := Aside0.mk hbox; clear hb hbox hg)
      | ((with_reducible refine gate_dst (N := 4) rfl ?_); refine be 4 #[.string ⟨#[]⟩, .slice none 0 0, .string ⟨#[]⟩, .string ⟨#[]⟩, .slice none 0 0, .slice none 0 0, .slice none 0 0, .string ⟨#[]⟩] 44 ?_; intro b4 hg v2 hbox hb; have N_b0_b4 := kn K_b0 hg; have N_b2_b4 := kn K_b2 hg; have G_b4 := Aside0.mk (show base ≤ b4 by rw [hg]; exact LB.out); replace O4 := Aside0.mk (O4.out.below hb); replace O5 := Aside0.mk (O5.out.below hb); replace O6 := Aside0.mk (O6.out.below hb); replace B0 := Aside0.mk (B0.out.trans (hb.mono LB.out)); replace K_b0 := kb K_b0 hb; replace K_b2 := kb K_b2 hb; replace LB := Aside0.mk (Nat.le_trans LB.out hb.size); have K_b4 := Aside0.mk hbox; clear hb hbox hg; obtain ⟨y_b2_0, y_b2_1, y_b2_2, y_b2_3, y_b2_4, y_b2_5, y_b2_6, y_b2_7⟩ := cz8 K_b2.out)
      | ((with_reducible refine gate_dst (N := 44) rfl ?_); refine lit_event ?hg (N := 44) ?hd (cs := #[.string ⟨#[97, 98]⟩]) (e := 9) (n := 1) ?hr ?_; (case hd => rfl); (case hg => rfl); (case hr => first | (go_simp; done) | (go_simp; rfl)); intro g1 hg v3 hbox hb; clear y_b2_0 y_b2_1 y_b2_2 y_b2_3 y_b2_4 y_b2_5 y_b2_6 y_b2_7; replace O5 := Aside0.mk (O5.out.below hb); replace B0 := Aside0.mk (B0.out.trans (hb.mono LB.out)); replace K_b0 := kb K_b0 hb; replace K_b2 := kb K_b2 hb; replace K_b4 := kb K_b4 hb; replace LB := Aside0.mk (Nat.le_trans LB.out hb.size); clear hb hbox hg)
      | ((with_reducible refine gate_dst (N := 46) rfl ?_); refine lit_event ?hg (N := 46) ?hd (cs := #[.string ⟨#[99, 100]⟩]) (e := 9) (n := 1) ?hr ?_; (case hd => rfl); (case hg => rfl); (case hr => first | (go_simp; done) | (go_simp; rfl)); intro g2 hg v4 hbox hb; replace O5 := Aside0.mk (O5.out.below hb); replace B0 := Aside0.mk (B0.out.trans (hb.mono LB.out)); replace K_b0 := kb K_b0 hb; replace K_b2 := kb K_b2 hb; replace K_b4 := kb K_b4 hb; replace LB := Aside0.mk (Nat.le_trans LB.out hb.size); clear hb hbox hg)
      | ((with_reducible refine gate_builtin (b := .append) (xs := #[.tmp 43, .tmp 48]) rfl ?_); at_builtin; refine wpList_grow (w0 := w0) (p := anyV) base 2 rfl (.tmp 43) (.tmp 48) 42 74 (.agg #[.string ⟨#[]⟩, .slice none 0 0]) 2 40 rfl Try.underlying42 (by kernel_rfl) rfl (by decide) (by decide) (.slice A5 n5 c5) n5 [.string ⟨#[99]⟩, .slice (some ⟨g1, 0, none⟩) 1 1, .string ⟨#[99]⟩, .slice (some ⟨g2, 0, none⟩) 1 1] rfl ?hx rfl ?h1 ?HO ?HB ?hb ?hl ?_; (case hx => rfl); (case h1 => simp [isStr, anyV, Value.oneCell']); (case HO => exact O5.out); (case HB => exact B0.out); (case hb => exact LB.out); (case hl => have := HN.out; omega); intro A7 c7 v5 ho hb hg hat; replace K_b0 := Aside0.mk ((hg.block _ (lt_blk K_b0.out) (O5.out.apart K_b0.out (by decide))).trans K_b0.out); replace K_b2 := Aside0.mk ((hg.block _ (lt_blk K_b2.out) (O5.out.apart K_b2.out (by decide))).trans K_b2.out); replace K_b4 := Aside0.mk ((hg.block _ (lt_blk K_b4.out) (O5.out.apart K_b4.out (by decide))).trans K_b4.out); replace B0 := Aside0.mk hb; clear ho hb hg hat)
      | ((with_reducible refine gate_ (.store 42 (.tmp 50) (.tmp 49)) rfl ?_); refine pe b2 5 #[.string L, .slice A1 n1 c1, .string S, .string R, .slice A4 n4 c4, .slice A7 (n5 + 2) c7, .slice A6 n6 c6, .string G] [.slice A7 (n5 + 2) c7] K_b2.out ?_; intro v6 hk hp; replace B0 := bp B0 hp G_b2.out; replace K_b0 := kp K_b0 hp N_b0_b2.out; replace K_b4 := kp K_b4 hp (Ne.symm N_b2_b4.out); replace K_b2 := Aside0.mk hk; clear hk hp; obtain ⟨y_b2_0, y_b2_1, y_b2_2, y_b2_3, y_b2_4, y_b2_5, y_b2_6, y_b2_7⟩ := cz8 K_b2.out)
      | ((with_reducible refine gate_ (.store 44 (.tmp 4) (.tmp 54)) rfl ?_); refine pe b4 0 #[.string L, .slice A1 n1 c1, .string S, .string R, .slice A4 n4 c4, .slice A7 (n5 + 2) c7, .slice A6 n6 c6, .string G] [.string L, .slice A1 n1 c1, .string S, .string R, .slice A4 n4 c4, .slice A7 (n5 + 2) c7, .slice A6 n6 c6, .string G] K_b4.out ?_; intro v7 hk hp; clear y_b2_0 y_b2_1 y_b2_2 y_b2_3 y_b2_4 y_b2_5 y_b2_6 y_b2_7; replace B0 := bp B0 hp G_b4.out; replace K_b0 := kp K_b0 hp N_b0_b4.out; replace K_b2 := kp K_b2 hp N_b2_b4.out; replace K_b4 := Aside0.mk hk; clear hk hp))
  refine bodyPost_ret (results_cell_row rfl _ _ b4 44 #[.string L, .slice A1 n1 c1, .string S, .string R, .slice A4 n4 c4, .slice A7 (n5 + 2) c7, .slice A6 n6 c6, .string G] (0, 0) _ rfl K_b4.out hu44 rfl (by kernel_rfl)) rfl ?_
  exact ⟨⟨⟨_, _, _, _, _, _, _, _, _, _, _, _, _, _, _, _, rfl⟩, B0.out⟩, K_b0.out⟩
set_option maxRecDepth 100000 in
set_option maxHeartbeats 4000000 in
theorem spoilt06_8 (h : od = 8) : Sp L S R G A1 A4 A5 A6 n1 c1 n4 c4 n5 c5 n6 c6 base od w0 w b0 cs0 := by
  unfold Sp
  have hu44 := Try.underlying44
  obtain ⟨L2, ht⟩ := Option.isSome_iff_exists.1 hT
  have HT := Aside0.mk ht
  have HN := Aside0.mk hn
  have O4 := Aside0.mk h4
  have O5 := Aside0.mk h5
  have O6 := Aside0.mk h6
  have B0 := Aside0.mk hB
  have LB := Aside0.mk hb
  have K_b0 := Aside0.mk h0
  have d1 : (od == 1) = false := by simp; omega
  have d2 : (od == 2) = false := by simp; omega
  have d3 : (od == 3) = false := by simp; omega
  have d4 : (od == 4) = false := by simp; omega
  have d5 : (od == 5) = false := by simp; omega
  have d6 : (od == 6) = false := by simp; omega
  have d7 : (od == 7) = false := by simp; omega
  have d8 : (od == 8) = true := by simp [h]
  clear ht hT hn h4 h5 h6 hB hb h h0
  go_enter Try.func32, Try.ntmps32
  go_wp2_with (first
      | ((with_reducible refine gate_dst (N := 2) rfl ?_); refine be 2 #[.string L, .slice A1 n1 c1, .string S, .string R, .slice A4 n4 c4, .slice A5 n5 c5, .slice A6 n6 c6, .string G] 44 ?_; intro b2 hg v1 hbox hb; have N_b0_b2 := kn K_b0 hg; have G_b2 := Aside0.mk (show base ≤ b2 by rw [hg]; exact LB.out); replace O4 := Aside0.mk (O4.out.below hb); replace O5 := Aside0.mk (O5.out.below hb); replace O6 := Aside0.mk (O6.out.below hb); replace B0 := Aside0.mk (B0.out.trans (hb.mono LB.out)); replace K_b0 := kb K_b0 hb; replace LB := Aside0.mk (Nat.le_trans LB.out hb.size); have K_b2 := Aside0.mk hbox; clear hb hbox hg)
      | ((with_reducible refine gate_dst (N := 4) rfl ?_); refine be 4 #[.string ⟨#[]⟩, .slice none 0 0, .string ⟨#[]⟩, .string ⟨#[]⟩, .slice none 0 0, .slice none 0 0, .slice none 0 0, .string ⟨#[]⟩] 44 ?_; intro b4 hg v2 hbox hb; have N_b0_b4 := kn K_b0 hg; have N_b2_b4 := kn K_b2 hg; have G_b4 := Aside0.mk (show base ≤ b4 by rw [hg]; exact LB.out); replace O4 := Aside0.mk (O4.out.below hb); replace O5 := Aside0.mk (O5.out.below hb); replace O6 := Aside0.mk (O6.out.below hb); replace B0 := Aside0.mk (B0.out.trans (hb.mono LB.out)); replace K_b0 := kb K_b0 hb; replace K_b2 := kb K_b2 hb; replace LB := Aside0.mk (Nat.le_trans LB.out hb.size); have K_b4 := Aside0.mk hbox; clear hb hbox hg; obtain ⟨y_b2_0, y_b2_1, y_b2_2, y_b2_3, y_b2_4, y_b2_5, y_b2_6, y_b2_7⟩ := cz8 K_b2.out)
      | ((with_reducible refine gate_ (.store 9 (.tmp 53) (.const (.string ⟨#[]⟩))) rfl ?_); refine pe b2 0 #[.string ⟨#[]⟩, .slice A1 n1 c1, .string S, .string R, .slice A4 n4 c4, .slice A5 n5 c5, .slice A6 n6 c6, .string G] [.string ⟨#[]⟩] K_b2.out ?_; intro v3 hk hp; clear y_b2_0 y_b2_1 y_b2_2 y_b2_3 y_b2_4 y_b2_5 y_b2_6 y_b2_7; replace B0 := bp B0 hp G_b2.out; replace K_b0 := kp K_b0 hp N_b0_b2.out; replace K_b4 := kp K_b4 hp (Ne.symm N_b2_b4.out); replace K_b2 := Aside0.mk hk; clear hk hp; obtain ⟨y_b2_0, y_b2_1, y_b2_2, y_b2_3, y_b2_4, y_b2_5, y_b2_6, y_b2_7⟩ := cz8 K_b2.out)
      | ((with_reducible refine gate_ (.store 44 (.tmp 4) (.tmp 54)) rfl ?_); refine pe b4 0 #[.string ⟨#[]⟩, .slice A1 n1 c1, .string S, .string R, .slice A4 n4 c4, .slice A5 n5 c5, .slice A6 n6 c6, .string G] [.string ⟨#[]⟩, .slice A1 n1 c1, .string S, .string R, .slice A4 n4 c4, .slice A5 n5 c5, .slice A6 n6 c6, .string G] K_b4.out ?_; intro v4 hk hp; clear y_b2_0 y_b2_1 y_b2_2 y_b2_3 y_b2_4 y_b2_5 y_b2_6 y_b2_7; replace B0 := bp B0 hp G_b4.out; replace K_b0 := kp K_b0 hp N_b0_b4.out; replace K_b2 := kp K_b2 hp N_b2_b4.out; replace K_b4 := Aside0.mk hk; clear hk hp))
  refine bodyPost_ret (results_cell_row rfl _ _ b4 44 #[.string ⟨#[]⟩, .slice A1 n1 c1, .string S, .string R, .slice A4 n4 c4, .slice A5 n5 c5, .slice A6 n6 c6, .string G] (0, 0) _ rfl K_b4.out hu44 rfl (by kernel_rfl)) rfl ?_
  exact ⟨⟨⟨_, _, _, _, _, _, _, _, _, _, _, _, _, _, _, _, rfl⟩, B0.out⟩, K_b0.out⟩
theorem spoilt06_calls : Sp L S R G A1 A4 A5 A6 n1 c1 n4 c4 n5 c5 n6 c6 base od w0 w b0 cs0 := by
  by_cases e1 : od = 1
  · exact spoilt06_1 _ _ _ _ _ _ _ _ _ _ _ _ _ _ _ _ _ _ _ _ hB hb hn h4 h5 h6 hT b0 cs0 h0 e1
  by_cases e2 : od = 2
  · exact spoilt06_2 _ _ _ _ _ _ _ _ _ _ _ _ _ _ _ _ _ _ _ _ hB hb hn h4 h5 h6 hT b0 cs0 h0 e2
  by_cases e3 : od = 3
  · exact spoilt06_3 _ _ _ _ _ _ _ _ _ _ _ _ _ _ _ _ _ _ _ _ hB hb hn h4 h5 h6 hT b0 cs0 h0 e3
  by_cases e4 : od = 4
  · exact spoilt06_4 _ _ _ _ _ _ _ _ _ _ _ _ _ _ _ _ _ _ _ _ hB hb hn h4 h5 h6 hT b0 cs0 h0 e4
  by_cases e5 : od = 5
  · exact spoilt06_5 _ _ _ _ _ _ _ _ _ _ _ _ _ _ _ _ _ _ _ _ hB hb hn h4 h5 h6 hT b0 cs0 h0 e5
  by_cases e6 : od = 6
  · exact spoilt06_6 _ _ _ _ _ _ _ _ _ _ _ _ _ _ _ _ _ _ _ _ hB hb hn h4 h5 h6 hT b0 cs0 h0 e6
  by_cases e7 : od = 7
  · exact spoilt06_7 _ _ _ _ _ _ _ _ _ _ _ _ _ _ _ _ _ _ _ _ hB hb hn h4 h5 h6 hT b0 cs0 h0 e7
  by_cases e8 : od = 8
  · exact spoilt06_8 _ _ _ _ _ _ _ _ _ _ _ _ _ _ _ _ _ _ _ _ hB hb hn h4 h5 h6 hT b0 cs0 h0 e8
  exact spoilt06_0 _ _ _ _ _ _ _ _ _ _ _ _ _ _ _ _ _ _ _ _ hB hb hn h4 h5 h6 hT b0 cs0 h0 (fun j a b e => by omega)
end
end Go.Proofs.Ytdjbanhoejegjaa.LikW
