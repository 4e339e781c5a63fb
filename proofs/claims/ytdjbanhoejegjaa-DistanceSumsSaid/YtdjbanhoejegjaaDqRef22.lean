/- isoglossref22.In, Fits, Cost, Distance, walked. -/
import Derived.Test.YtdjbanhoejegjaaDqRef18
import Derived.Test.YtdjbanhoejegjaaDqSumP
import Derived.Deep.DeepCutAuto
namespace Go.Proofs.Ytdjbanhoejegjaa.LikW
open Go.RowKit Go.Proofs.YtdjbanhoejegjaaW.PrintWords Go.Proofs.YtdjbanhoejegjaaW.PrintLast Go.Proofs.Ytdjbanhoejegjaa.P
set_option linter.unusedVariables false
set_option linter.unusedSimpArgs false

set_option maxRecDepth 100000 in
set_option maxHeartbeats 4000000 in
theorem in22_calls (A0 : Option Addr) (n0 c0 : Nat) (A1 : Option Addr) (n1 c1 : Nat) (A2 : Option Addr) (n2 c2 : Nat) (A3 : Option Addr) (c3 : Nat) (ms : List S69) (p q : Int) (s r : ByteArray) (w : World) (hC : Kd.C k69 w A3 ms.length ms) :
 Calls Try.prog 65 #[.agg #[.slice A0 n0 c0, .slice A1 n1 c1, .slice A2 n2 c2, .slice A3 ms.length c3, .int .i64 p, .int .i64 q], .string s, .string r] w fun e w' => e = .returned (.bool (inP ms s r)) ∧ Below w.heap.size w w' := by
 have hu39 := Try.underlying39
 have hu69 := Try.underlying69
 have HC := Aside0.mk hC
 have hmax := Kd.C_max hC
 clear hC
 go_enter Try.func65, Try.ntmps65
 go_wp2
 obtain ⟨W0, hW0⟩ : ∃ W0, W0 = (w.alloc (.cells #[.slice A0 n0 c0, .slice A1 n1 c1, .slice A2 n2 c2, .slice A3 ms.length c3, .int .i64 p, .int .i64 q] 39)) := ⟨_, rfl⟩
 rw [← hW0]
 have B0 : Below w.heap.size w W0 := by rw [hW0]; exact below_alloc (Below.refl _ _) _
 have K0 : W0.heap[w.heap.size]? = some (.cells #[.slice A0 n0 c0, .slice A1 n1 c1, .slice A2 n2 c2, .slice A3 ms.length c3, .int .i64 p, .int .i64 q] 39 (0, 0)) := by rw [hW0]; exact World.alloc_heap_new w _
 have HC0 := Aside0.mk (Kd.C_below HC.out B0)
 have HB := Aside0.mk B0
 clear hW0 HC B0
 go_loopw [7] (fun vi wr => ∃ i : Nat, vi = .int .i64 (i : Int) ∧ i ≤ ms.length ∧ Aside0 (inP (ms.take i) s r = false) ∧ W0 = wr) (fun vi _ => ms.length - (intOf vi).toNat)
 case atStart => exact ⟨0, rfl, Nat.zero_le _, ⟨rfl⟩, rfl⟩
 case round =>
  obtain ⟨i, rfl, hi, HN, hw_⟩ := hrel
  subst hw_
  obtain ⟨y0, y1, y2, y3, y4, y5⟩ := cz6 K0
  by_cases hlt : i < ms.length
  · obtain ⟨ad, e, x0, x1⟩ := at_T69 HC0.out (i : Int) (by omega) (by omega)
    cases e
    obtain ⟨x, hx⟩ : ∃ x, x = rd_T69 ms (i : Int) := ⟨_, rfl⟩
    rw [← hx] at x0 x1
    simp only [Int.toNat_natCast] at x0 x1
    have hx2 : x = ms[i]'hlt := by rw [hx]; simp [rd_T69, List.getD_eq_getElem?_getD, List.getElem?_eq_getElem hlt]
    have hs : inP (ms.take (i + 1)) s r = (inP (ms.take i) s r || decide (x.f0 = s ∧ x.f1 = r)) := by unfold inP; rw [List.take_succ_eq_append_getElem hlt, List.any_append, hx2]; simp only [List.any_cons, List.any_nil, Bool.or_false]
    rw [HN.out] at hs
    have HS := Aside0.mk hs
    have HX := Aside0.mk hx2
    clear hx hx2 hs
    have d1 : decide ((i : Int) < (ms.length : Int)) = true := decide_eq_true (by omega)
    by_cases g1 : x.f0 = s
    · by_cases g2 : x.f1 = r
      · have hv : inP ms s r = true := by
         unfold inP
         rw [List.any_eq_true]
         exact ⟨ms[i], List.getElem_mem hlt, by rw [← HX.out]; exact decide_eq_true ⟨g1, g2⟩⟩
        have HV := Aside0.mk hv
        have e1 : (x.f0.toList == s.toList) = true := by rw [g1, beq_self_eq_true]
        have e2 : (x.f1.toList == r.toList) = true := by rw [g2, beq_self_eq_true]
        clear g1 g2 hv
        go_wp2
        go_ret
        exact ⟨by rw [HV.out]; rfl, HB.out⟩
      · have HR := Aside0.mk (show inP (ms.take (i + 1)) s r = false by rw [HS.out, decide_eq_false (fun h => g2 h.2)]; rfl)
        have e1 : (x.f0.toList == s.toList) = true := by rw [g1, beq_self_eq_true]
        have e2 : (x.f1.toList == r.toList) = false := by rw [toList_eqv]; exact decide_eq_false g2
        clear g1 g2
        go_wp2
        go_roundw
        case rel => exact ⟨i + 1, by simp, by omega, HR, trivial⟩
        case measure => simp [intOf]; omega
    · have HR := Aside0.mk (show inP (ms.take (i + 1)) s r = false by rw [HS.out, decide_eq_false (fun h => g1 h.1)]; rfl)
      have e1 : (x.f0.toList == s.toList) = false := by rw [toList_eqv]; exact decide_eq_false g1
      clear g1
      go_wp2
      go_roundw
      case rel => exact ⟨i + 1, by simp, by omega, HR, trivial⟩
      case measure => simp [intOf]; omega
  · obtain rfl : i = ms.length := by omega
    have d1 : decide (((ms.length : Nat) : Int) < (ms.length : Int)) = false := decide_eq_false (by omega)
    have hN := HN.out
    rw [List.take_length] at hN
    have HV := Aside0.mk hN
    clear hN
    go_wp2
    go_ret
    exact ⟨by rw [HV.out]; rfl, HB.out⟩
theorem fitP_t (ms : List S69) (i : Int) (s r : ByteArray) (h : s = r ∨ s = starB) : fitP ms i s r = true := by
 unfold fitP
 rw [if_pos h]
theorem fitP_i (ms : List S69) (i : Int) (s r : ByteArray) (h1 : ¬ s = r) (h2 : ¬ s = starB) (hi : ¬ i = 2) : fitP ms i s r = false := by
 unfold fitP
 rw [if_neg (fun e => e.elim h1 h2), if_neg hi]
theorem fitP_e (ms : List S69) (s r : ByteArray) (h1 : ¬ s = r) (h2 : ¬ s = starB) (h : ¬ 0 < s.size) : fitP ms 2 s r = false := by
 unfold fitP
 rw [if_neg (fun e => e.elim h1 h2), if_pos rfl, dif_neg h]
theorem fitP_out (ms : List S69) (s r : ByteArray) (h1 : ¬ s = r) (h2 : ¬ s = starB) (h : 0 < s.size) (hc : ((s[0]'h).toNat : Int) = 33) : fitP ms 2 s r = !(inP ms (s.extract 1 s.size) r) := by
 unfold fitP
 rw [if_neg (fun e => e.elim h1 h2), if_pos rfl, dif_pos h, if_pos hc]
theorem fitP_in (ms : List S69) (s r : ByteArray) (h1 : ¬ s = r) (h2 : ¬ s = starB) (h : 0 < s.size) (hc : ((s[0]'h).toNat : Int) = 36) : fitP ms 2 s r = inP ms (s.extract 1 s.size) r := by
 unfold fitP
 rw [if_neg (fun e => e.elim h1 h2), if_pos rfl, dif_pos h, if_neg (by rw [hc]; decide), if_pos hc]
theorem fitP_x (ms : List S69) (s r : ByteArray) (h1 : ¬ s = r) (h2 : ¬ s = starB) (h : 0 < s.size) (hc : ¬ ((s[0]'h).toNat : Int) = 33) (hd : ¬ ((s[0]'h).toNat : Int) = 36) : fitP ms 2 s r = false := by
 unfold fitP
 rw [if_neg (fun e => e.elim h1 h2), if_pos rfl, dif_pos h, if_neg hc, if_neg hd]
theorem fits_no (ms : List S69) (a b : K3) (lv : Int) (n : Nat) (hn : (n : Int) ≤ lv ∧ lv ≤ 3) (h : upN ms a b n = false) : fitsP ms a b lv = false := by
 unfold fitsP
 rw [show (max 0 (min lv 3)).toNat = n + ((max 0 (min lv 3)).toNat - n) by omega]
 exact upN_false ms a b _ n h
theorem size_pos {s : ByteArray} (h : ¬ s = empS) : 0 < s.size := by
 rcases Nat.eq_zero_or_pos s.size with e | e
 · exact absurd (ByteArray.ext (Array.eq_empty_of_size_eq_zero e)) h
 · exact e
set_option maxRecDepth 100000 in
set_option maxHeartbeats 8000000 in
theorem fits22_calls (A0 : Option Addr) (n0 c0 : Nat) (A1 : Option Addr) (n1 c1 : Nat) (A2 : Option Addr) (n2 c2 : Nat) (A3 : Option Addr) (c3 : Nat) (ms : List S69) (p q : Int) (a b : K3) (lv : Int) (h1 : 1 ≤ lv) (h3 : lv ≤ 3) (w : World) (hC : Kd.C k69 w A3 ms.length ms) :
 Calls Try.prog 57 #[.agg #[.slice A0 n0 c0, .slice A1 n1 c1, .slice A2 n2 c2, .slice A3 ms.length c3, .int .i64 p, .int .i64 q], .agg #[.string a.1, .string a.2.1, .string a.2.2], .agg #[.string b.1, .string b.2.1, .string b.2.2], .int .i64 lv] w fun e w' => e = .returned (.bool (fitsP ms a b lv)) ∧ Below w.heap.size w w' := by
 have hu39 := Try.underlying39
 have hu30 := Try.underlying30
 have HC := Aside0.mk hC
 have B0 := Aside0.mk (Below.refl w.heap.size w)
 clear hC
 obtain ⟨a0, a1, a2⟩ := a
 obtain ⟨b0, b1, b2⟩ := b
 go_enter Try.func57, Try.ntmps57
 go_wp2_with (first
  | ((with_reducible refine gate_dst (N := 4) rfl ?_); refine be 4 #[.slice A0 n0 c0, .slice A1 n1 c1, .slice A2 n2 c2, .slice A3 ms.length c3, .int .i64 p, .int .i64 q] 39 ?_; intro b4 hg v1 hbox hb; have G_b4 := Aside0.mk (show w.heap.size ≤ b4 by rw [hg]; exact B0.out.size); replace B0 := bb B0 hb; have K_b4 := Aside0.mk hbox; clear hb hbox hg)
  | ((with_reducible refine gate_dst (N := 5) rfl ?_); refine be 5 #[.string a0, .string a1, .string a2] 30 ?_; intro b5 hg v2 hbox hb; have N_b4_b5 := kn K_b4 hg; have G_b5 := Aside0.mk (show w.heap.size ≤ b5 by rw [hg]; exact B0.out.size); replace B0 := bb B0 hb; replace K_b4 := kb K_b4 hb; have K_b5 := Aside0.mk hbox; clear hb hbox hg)
  | ((with_reducible refine gate_dst (N := 6) rfl ?_); refine be 6 #[.string b0, .string b1, .string b2] 30 ?_; intro b6 hg v3 hbox hb; have N_b4_b6 := kn K_b4 hg; have N_b5_b6 := kn K_b5 hg; have G_b6 := Aside0.mk (show w.heap.size ≤ b6 by rw [hg]; exact B0.out.size); replace B0 := bb B0 hb; replace K_b4 := kb K_b4 hb; replace K_b5 := kb K_b5 hb; have K_b6 := Aside0.mk hbox; clear hb hbox hg))
 go_wp2
 go_loopw [9] (fun vi wr => ∃ i : Nat, vi = .int .i64 (i : Int) ∧ (i : Int) ≤ lv ∧ Aside0 (upN ms (a0, a1, a2) (b0, b1, b2) i = true) ∧ Aside0 (Below w.heap.size w wr) ∧ Aside0 (wr.heap[b4]? = some (.cells #[.slice A0 n0 c0, .slice A1 n1 c1, .slice A2 n2 c2, .slice A3 ms.length c3, .int .i64 p, .int .i64 q] 39 (0, 0))) ∧ Aside0 (wr.heap[b5]? = some (.cells #[.string a0, .string a1, .string a2] 30 (0, 0))) ∧ Aside0 (wr.heap[b6]? = some (.cells #[.string b0, .string b1, .string b2] 30 (0, 0)))) (fun vi _ => 3 - (intOf vi).toNat)
 case atStart => exact ⟨0, rfl, by omega, ⟨rfl⟩, B0, K_b4, K_b5, K_b6⟩
 case round =>
  clear B0 K_b4 K_b5 K_b6
  obtain ⟨i, rfl, hi, HN, B0, K_b4, K_b5, K_b6⟩ := hrel
  generalize wr = z1 at *
  by_cases hlt : (i : Int) < lv
  · obtain rfl | rfl | rfl : i = 0 ∨ i = 1 ∨ i = 2 := by omega
    · have d1 : decide ((0 : Int) < lv) = true := decide_eq_true (by omega)
      obtain ⟨y_b5_0, y_b5_1, y_b5_2⟩ := cz3 K_b5.out
      obtain ⟨y_b6_0, y_b6_1, y_b6_2⟩ := cz3 K_b6.out
      by_cases g1 : a0 = starB
      · have q1 := (star_iff a0).2 g1
        have HU := Aside0.mk (show upN ms (a0, a1, a2) (b0, b1, b2) 1 = true by rw [upN_succ, HN.out]; exact fitP_t ms 0 a0 b0 (.inr g1))
        clear g1
        go_wp2
        go_roundw
        case rel => exact ⟨1, rfl, by omega, HU, B0, K_b4, K_b5, K_b6⟩
        case measure => simp [intOf]
      · have q1 : (a0.toList == [42]) = false := Bool.eq_false_iff.2 fun h => g1 ((star_iff a0).1 h)
        by_cases g2 : a0 = b0
        · have q2 : (a0.toList == b0.toList) = true := by rw [g2, beq_self_eq_true]
          have HU := Aside0.mk (show upN ms (a0, a1, a2) (b0, b1, b2) 1 = true by rw [upN_succ, HN.out]; exact fitP_t ms 0 a0 b0 (.inl g2))
          clear g1 g2
          go_wp2
          go_roundw
          case rel => exact ⟨1, rfl, by omega, HU, B0, K_b4, K_b5, K_b6⟩
          case measure => simp [intOf]
        · have q2 : (a0.toList == b0.toList) = false := by rw [toList_eqv]; exact decide_eq_false g2
          have HV := Aside0.mk (fits_no ms (a0, a1, a2) (b0, b1, b2) lv 1 (by omega) (by rw [upN_succ, HN.out]; exact fitP_i ms 0 a0 b0 g2 g1 (by decide)))
          clear g1 g2
          go_wp2
          go_ret
          exact ⟨by rw [HV.out]; rfl, B0.out⟩
    · have d1 : decide ((1 : Int) < lv) = true := decide_eq_true (by omega)
      obtain ⟨y_b5_0, y_b5_1, y_b5_2⟩ := cz3 K_b5.out
      obtain ⟨y_b6_0, y_b6_1, y_b6_2⟩ := cz3 K_b6.out
      by_cases g1 : a1 = starB
      · have q1 := (star_iff a1).2 g1
        have HU := Aside0.mk (show upN ms (a0, a1, a2) (b0, b1, b2) 2 = true by rw [upN_succ, HN.out]; exact fitP_t ms 1 a1 b1 (.inr g1))
        clear g1
        go_wp2
        go_roundw
        case rel => exact ⟨2, rfl, by omega, HU, B0, K_b4, K_b5, K_b6⟩
        case measure => simp [intOf]
      · have q1 : (a1.toList == [42]) = false := Bool.eq_false_iff.2 fun h => g1 ((star_iff a1).1 h)
        by_cases g2 : a1 = b1
        · have q2 : (a1.toList == b1.toList) = true := by rw [g2, beq_self_eq_true]
          have HU := Aside0.mk (show upN ms (a0, a1, a2) (b0, b1, b2) 2 = true by rw [upN_succ, HN.out]; exact fitP_t ms 1 a1 b1 (.inl g2))
          clear g1 g2
          go_wp2
          go_roundw
          case rel => exact ⟨2, rfl, by omega, HU, B0, K_b4, K_b5, K_b6⟩
          case measure => simp [intOf]
        · have q2 : (a1.toList == b1.toList) = false := by rw [toList_eqv]; exact decide_eq_false g2
          have HV := Aside0.mk (fits_no ms (a0, a1, a2) (b0, b1, b2) lv 2 (by omega) (by rw [upN_succ, HN.out]; exact fitP_i ms 1 a1 b1 g2 g1 (by decide)))
          clear g1 g2
          go_wp2
          go_ret
          exact ⟨by rw [HV.out]; rfl, B0.out⟩
    · have d1 : decide ((2 : Int) < lv) = true := decide_eq_true (by omega)
      obtain ⟨y_b5_0, y_b5_1, y_b5_2⟩ := cz3 K_b5.out
      obtain ⟨y_b6_0, y_b6_1, y_b6_2⟩ := cz3 K_b6.out
      by_cases g1 : a2 = starB
      · have q1 := (star_iff a2).2 g1
        have HU := Aside0.mk (show upN ms (a0, a1, a2) (b0, b1, b2) 3 = true by rw [upN_succ, HN.out]; exact fitP_t ms 2 a2 b2 (.inr g1))
        clear g1
        go_wp2
        go_roundw
        case rel => exact ⟨3, rfl, by omega, HU, B0, K_b4, K_b5, K_b6⟩
        case measure => simp [intOf]
      · have q1 : (a2.toList == [42]) = false := Bool.eq_false_iff.2 fun h => g1 ((star_iff a2).1 h)
        by_cases g2 : a2 = b2
        · have q2 : (a2.toList == b2.toList) = true := by rw [g2, beq_self_eq_true]
          have HU := Aside0.mk (show upN ms (a0, a1, a2) (b0, b1, b2) 3 = true by rw [upN_succ, HN.out]; exact fitP_t ms 2 a2 b2 (.inl g2))
          clear g1 g2
          go_wp2
          go_roundw
          case rel => exact ⟨3, rfl, by omega, HU, B0, K_b4, K_b5, K_b6⟩
          case measure => simp [intOf]
        · have q2 : (a2.toList == b2.toList) = false := by rw [toList_eqv]; exact decide_eq_false g2
          by_cases g3 : a2 = empS
          · have q3 := (em_t g3).1
            have q4 := (em_t g3).2
            have HV := Aside0.mk (fits_no ms (a0, a1, a2) (b0, b1, b2) lv 3 (by omega) (by rw [upN_succ, HN.out]; exact fitP_e ms a2 b2 g2 g1 (by rw [g3]; decide)))
            clear g1 g2 g3
            go_wp2
            go_ret
            exact ⟨by rw [HV.out]; rfl, B0.out⟩
          · have q3 := (em_f g3).1
            have q4 := (em_f g3).2
            have gs : 0 < a2.size := size_pos g3
            have gz : (1 : Int) ≤ (a2.size : Int) := by omega
            by_cases g4 : ((a2[0]'gs).toNat : Int) = 36
            · have q5 : (((a2[0]'gs).toNat : Int) == 36) = true := by rw [g4]; rfl
              have q6 : (((a2[0]'gs).toNat : Int) == 33) = false := by rw [g4]; rfl
              have hfv := fitP_in ms a2 b2 g2 g1 gs g4
              cases hin : inP ms (a2.extract 1 a2.size) b2 with
              | false =>
               rw [hin] at hfv
               have HV := Aside0.mk (fits_no ms (a0, a1, a2) (b0, b1, b2) lv 3 (by omega) (by rw [upN_succ, HN.out]; exact hfv))
               clear g1 g2 g3 g4 hfv
               go_wp2
               clear y_b5_0 y_b5_1 y_b5_2 y_b6_0 y_b6_1 y_b6_2
               refine start_ (n := 8) (S := fun w' => w'.cell? ⟨b4, 0, none⟩ = some (.slice A0 n0 c0) ∧ w'.cell? ⟨b4, 1, none⟩ = some (.slice A1 n1 c1) ∧ w'.cell? ⟨b4, 2, none⟩ = some (.slice A2 n2 c2) ∧ w'.cell? ⟨b4, 3, none⟩ = some (.slice A3 ms.length c3) ∧ w'.cell? ⟨b4, 4, none⟩ = some (.int .i64 p) ∧ w'.cell? ⟨b4, 5, none⟩ = some (.int .i64 q) ∧ w'.cell? ⟨b6, 2, none⟩ = some (.string b2)) (ds := []) (M 8 0) (by kernel_rfl) rfl rfl ⟨(blk_cell K_b4.out 0).trans rfl, (blk_cell K_b4.out 1).trans rfl, (blk_cell K_b4.out 2).trans rfl, (blk_cell K_b4.out 3).trans rfl, (blk_cell K_b4.out 4).trans rfl, (blk_cell K_b4.out 5).trans rfl, (blk_cell K_b6.out 2).trans rfl⟩ (fun hHeld => ?_)
               have hb : Below z1.heap.size z1 z1.drew := below_drew1 (Below.refl _ _)
               generalize z1.drew = u7a at hb hHeld ⊢
               replace B0 := bb B0 hb
               replace K_b4 := kb K_b4 hb
               replace K_b5 := kb K_b5 hb
               replace K_b6 := kb K_b6 hb
               clear hb
               refine pw 1 49 (M 8 2) ?_
               refine pw 2 50 (M 8 6) ?_
               refine pw 3 51 (M 8 14) ?_
               refine pw 4 52 (M 8 30) ?_
               refine tw 0 48 (M 8 31) hHeld ?_
               refine tw 5 53 (M 8 63) hHeld ?_
               refine ow 6 (some 54) (M 8 127) fun K hK => ?_
               refine gow Try.func65 #[.agg #[.slice A0 n0 c0, .slice A1 n1 c1, .slice A2 n2 c2, .slice A3 ms.length c3, .int .i64 p, .int .i64 q], .string (a2.extract 1 a2.size), .string b2] ?_
               with_reducible refine (in22_calls A0 n0 c0 A1 n1 c1 A2 n2 c2 A3 c3 ms p q (a2.extract 1 a2.size) b2 _ (Kd.C_below HC.out B0.out)).mono ?_
               rintro e u7b ⟨rfl, hb⟩
               refine ⟨_, rfl, ?_⟩
               rw [hin]
               replace B0 := bb B0 hb
               replace K_b4 := kb K_b4 hb
               replace K_b5 := kb K_b5 hb
               replace K_b6 := kb K_b6 hb
               clear hb
               refine hK.out _ _ ⟨(blk_cell K_b4.out 0).trans rfl, (blk_cell K_b4.out 1).trans rfl, (blk_cell K_b4.out 2).trans rfl, (blk_cell K_b4.out 3).trans rfl, (blk_cell K_b4.out 4).trans rfl, (blk_cell K_b4.out 5).trans rfl, (blk_cell K_b6.out 2).trans rfl⟩ (fun hHeld => ?_)
               clear hK K
               refine norm_ (a' := ?_) ?_ ?_
               rotate_left
               · show Act.put _ (some 54) _ = _
                 simp only [Act.put, List.setIfInBounds_toArray, List.set_cons_zero, List.set_cons_succ, i64_w, i32_w]
                 rfl
               refine pw 7 11 (M 8 255) ?_
               refine done_ (by kernel_rfl) ?_
               obtain ⟨y_b5_0, y_b5_1, y_b5_2⟩ := cz3 K_b5.out
               obtain ⟨y_b6_0, y_b6_1, y_b6_2⟩ := cz3 K_b6.out
               go_wp2
               go_ret
               exact ⟨by rw [HV.out]; rfl, B0.out⟩
              | true =>
               rw [hin] at hfv
               have HU := Aside0.mk (show upN ms (a0, a1, a2) (b0, b1, b2) 3 = true by rw [upN_succ, HN.out]; exact hfv)
               clear g1 g2 g3 g4 hfv
               go_wp2
               clear y_b5_0 y_b5_1 y_b5_2 y_b6_0 y_b6_1 y_b6_2
               refine start_ (n := 8) (S := fun w' => w'.cell? ⟨b4, 0, none⟩ = some (.slice A0 n0 c0) ∧ w'.cell? ⟨b4, 1, none⟩ = some (.slice A1 n1 c1) ∧ w'.cell? ⟨b4, 2, none⟩ = some (.slice A2 n2 c2) ∧ w'.cell? ⟨b4, 3, none⟩ = some (.slice A3 ms.length c3) ∧ w'.cell? ⟨b4, 4, none⟩ = some (.int .i64 p) ∧ w'.cell? ⟨b4, 5, none⟩ = some (.int .i64 q) ∧ w'.cell? ⟨b6, 2, none⟩ = some (.string b2)) (ds := []) (M 8 0) (by kernel_rfl) rfl rfl ⟨(blk_cell K_b4.out 0).trans rfl, (blk_cell K_b4.out 1).trans rfl, (blk_cell K_b4.out 2).trans rfl, (blk_cell K_b4.out 3).trans rfl, (blk_cell K_b4.out 4).trans rfl, (blk_cell K_b4.out 5).trans rfl, (blk_cell K_b6.out 2).trans rfl⟩ (fun hHeld => ?_)
               have hb : Below z1.heap.size z1 z1.drew := below_drew1 (Below.refl _ _)
               generalize z1.drew = u7a at hb hHeld ⊢
               replace B0 := bb B0 hb
               replace K_b4 := kb K_b4 hb
               replace K_b5 := kb K_b5 hb
               replace K_b6 := kb K_b6 hb
               clear hb
               refine pw 1 49 (M 8 2) ?_
               refine pw 2 50 (M 8 6) ?_
               refine pw 3 51 (M 8 14) ?_
               refine pw 4 52 (M 8 30) ?_
               refine tw 0 48 (M 8 31) hHeld ?_
               refine tw 5 53 (M 8 63) hHeld ?_
               refine ow 6 (some 54) (M 8 127) fun K hK => ?_
               refine gow Try.func65 #[.agg #[.slice A0 n0 c0, .slice A1 n1 c1, .slice A2 n2 c2, .slice A3 ms.length c3, .int .i64 p, .int .i64 q], .string (a2.extract 1 a2.size), .string b2] ?_
               with_reducible refine (in22_calls A0 n0 c0 A1 n1 c1 A2 n2 c2 A3 c3 ms p q (a2.extract 1 a2.size) b2 _ (Kd.C_below HC.out B0.out)).mono ?_
               rintro e u7b ⟨rfl, hb⟩
               refine ⟨_, rfl, ?_⟩
               rw [hin]
               replace B0 := bb B0 hb
               replace K_b4 := kb K_b4 hb
               replace K_b5 := kb K_b5 hb
               replace K_b6 := kb K_b6 hb
               clear hb
               refine hK.out _ _ ⟨(blk_cell K_b4.out 0).trans rfl, (blk_cell K_b4.out 1).trans rfl, (blk_cell K_b4.out 2).trans rfl, (blk_cell K_b4.out 3).trans rfl, (blk_cell K_b4.out 4).trans rfl, (blk_cell K_b4.out 5).trans rfl, (blk_cell K_b6.out 2).trans rfl⟩ (fun hHeld => ?_)
               clear hK K
               refine norm_ (a' := ?_) ?_ ?_
               rotate_left
               · show Act.put _ (some 54) _ = _
                 simp only [Act.put, List.setIfInBounds_toArray, List.set_cons_zero, List.set_cons_succ, i64_w, i32_w]
                 rfl
               refine pw 7 11 (M 8 255) ?_
               refine done_ (by kernel_rfl) ?_
               obtain ⟨y_b5_0, y_b5_1, y_b5_2⟩ := cz3 K_b5.out
               obtain ⟨y_b6_0, y_b6_1, y_b6_2⟩ := cz3 K_b6.out
               go_wp2
               go_roundw
               case rel => exact ⟨3, rfl, by omega, HU, B0, K_b4, K_b5, K_b6⟩
               case measure => simp [intOf]
            · have q5 : (((a2[0]'gs).toNat : Int) == 36) = false := beq_eq_false_iff_ne.2 g4
              by_cases g5 : ((a2[0]'gs).toNat : Int) = 33
              · have q6 : (((a2[0]'gs).toNat : Int) == 33) = true := by rw [g5]; rfl
                have hfv := fitP_out ms a2 b2 g2 g1 gs g5
                cases hin : inP ms (a2.extract 1 a2.size) b2 with
                | false =>
                 rw [hin] at hfv
                 have HU := Aside0.mk (show upN ms (a0, a1, a2) (b0, b1, b2) 3 = true by rw [upN_succ, HN.out]; exact hfv)
                 clear g1 g2 g3 g4 g5 hfv
                 go_wp2
                 clear y_b5_0 y_b5_1 y_b5_2 y_b6_0 y_b6_1 y_b6_2
                 refine start_ (n := 9) (S := fun w' => w'.cell? ⟨b4, 0, none⟩ = some (.slice A0 n0 c0) ∧ w'.cell? ⟨b4, 1, none⟩ = some (.slice A1 n1 c1) ∧ w'.cell? ⟨b4, 2, none⟩ = some (.slice A2 n2 c2) ∧ w'.cell? ⟨b4, 3, none⟩ = some (.slice A3 ms.length c3) ∧ w'.cell? ⟨b4, 4, none⟩ = some (.int .i64 p) ∧ w'.cell? ⟨b4, 5, none⟩ = some (.int .i64 q) ∧ w'.cell? ⟨b6, 2, none⟩ = some (.string b2)) (ds := []) (M 9 0) (by kernel_rfl) rfl rfl ⟨(blk_cell K_b4.out 0).trans rfl, (blk_cell K_b4.out 1).trans rfl, (blk_cell K_b4.out 2).trans rfl, (blk_cell K_b4.out 3).trans rfl, (blk_cell K_b4.out 4).trans rfl, (blk_cell K_b4.out 5).trans rfl, (blk_cell K_b6.out 2).trans rfl⟩ (fun hHeld => ?_)
                 have hb : Below z1.heap.size z1 z1.drew := below_drew1 (Below.refl _ _)
                 generalize z1.drew = u9a at hb hHeld ⊢
                 replace B0 := bb B0 hb
                 replace K_b4 := kb K_b4 hb
                 replace K_b5 := kb K_b5 hb
                 replace K_b6 := kb K_b6 hb
                 clear hb
                 refine pw 1 71 (M 9 2) ?_
                 refine pw 2 72 (M 9 6) ?_
                 refine pw 3 73 (M 9 14) ?_
                 refine pw 4 74 (M 9 30) ?_
                 refine tw 0 70 (M 9 31) hHeld ?_
                 refine tw 5 75 (M 9 63) hHeld ?_
                 refine ow 6 (some 76) (M 9 127) fun K hK => ?_
                 refine gow Try.func65 #[.agg #[.slice A0 n0 c0, .slice A1 n1 c1, .slice A2 n2 c2, .slice A3 ms.length c3, .int .i64 p, .int .i64 q], .string (a2.extract 1 a2.size), .string b2] ?_
                 with_reducible refine (in22_calls A0 n0 c0 A1 n1 c1 A2 n2 c2 A3 c3 ms p q (a2.extract 1 a2.size) b2 _ (Kd.C_below HC.out B0.out)).mono ?_
                 rintro e u9b ⟨rfl, hb⟩
                 refine ⟨_, rfl, ?_⟩
                 rw [hin]
                 replace B0 := bb B0 hb
                 replace K_b4 := kb K_b4 hb
                 replace K_b5 := kb K_b5 hb
                 replace K_b6 := kb K_b6 hb
                 clear hb
                 refine hK.out _ _ ⟨(blk_cell K_b4.out 0).trans rfl, (blk_cell K_b4.out 1).trans rfl, (blk_cell K_b4.out 2).trans rfl, (blk_cell K_b4.out 3).trans rfl, (blk_cell K_b4.out 4).trans rfl, (blk_cell K_b4.out 5).trans rfl, (blk_cell K_b6.out 2).trans rfl⟩ (fun hHeld => ?_)
                 clear hK K
                 refine norm_ (a' := ?_) ?_ ?_
                 rotate_left
                 · show Act.put _ (some 76) _ = _
                   simp only [Act.put, List.setIfInBounds_toArray, List.set_cons_zero, List.set_cons_succ, i64_w, i32_w]
                   rfl
                 refine pw 7 77 (M 9 255) ?_
                 refine pw 8 11 (M 9 511) ?_
                 refine done_ (by kernel_rfl) ?_
                 obtain ⟨y_b5_0, y_b5_1, y_b5_2⟩ := cz3 K_b5.out
                 obtain ⟨y_b6_0, y_b6_1, y_b6_2⟩ := cz3 K_b6.out
                 go_wp2
                 go_roundw
                 case rel => exact ⟨3, rfl, by omega, HU, B0, K_b4, K_b5, K_b6⟩
                 case measure => simp [intOf]
                | true =>
                 rw [hin] at hfv
                 have HV := Aside0.mk (fits_no ms (a0, a1, a2) (b0, b1, b2) lv 3 (by omega) (by rw [upN_succ, HN.out]; exact hfv))
                 clear g1 g2 g3 g4 g5 hfv
                 go_wp2
                 clear y_b5_0 y_b5_1 y_b5_2 y_b6_0 y_b6_1 y_b6_2
                 refine start_ (n := 9) (S := fun w' => w'.cell? ⟨b4, 0, none⟩ = some (.slice A0 n0 c0) ∧ w'.cell? ⟨b4, 1, none⟩ = some (.slice A1 n1 c1) ∧ w'.cell? ⟨b4, 2, none⟩ = some (.slice A2 n2 c2) ∧ w'.cell? ⟨b4, 3, none⟩ = some (.slice A3 ms.length c3) ∧ w'.cell? ⟨b4, 4, none⟩ = some (.int .i64 p) ∧ w'.cell? ⟨b4, 5, none⟩ = some (.int .i64 q) ∧ w'.cell? ⟨b6, 2, none⟩ = some (.string b2)) (ds := []) (M 9 0) (by kernel_rfl) rfl rfl ⟨(blk_cell K_b4.out 0).trans rfl, (blk_cell K_b4.out 1).trans rfl, (blk_cell K_b4.out 2).trans rfl, (blk_cell K_b4.out 3).trans rfl, (blk_cell K_b4.out 4).trans rfl, (blk_cell K_b4.out 5).trans rfl, (blk_cell K_b6.out 2).trans rfl⟩ (fun hHeld => ?_)
                 have hb : Below z1.heap.size z1 z1.drew := below_drew1 (Below.refl _ _)
                 generalize z1.drew = u9a at hb hHeld ⊢
                 replace B0 := bb B0 hb
                 replace K_b4 := kb K_b4 hb
                 replace K_b5 := kb K_b5 hb
                 replace K_b6 := kb K_b6 hb
                 clear hb
                 refine pw 1 71 (M 9 2) ?_
                 refine pw 2 72 (M 9 6) ?_
                 refine pw 3 73 (M 9 14) ?_
                 refine pw 4 74 (M 9 30) ?_
                 refine tw 0 70 (M 9 31) hHeld ?_
                 refine tw 5 75 (M 9 63) hHeld ?_
                 refine ow 6 (some 76) (M 9 127) fun K hK => ?_
                 refine gow Try.func65 #[.agg #[.slice A0 n0 c0, .slice A1 n1 c1, .slice A2 n2 c2, .slice A3 ms.length c3, .int .i64 p, .int .i64 q], .string (a2.extract 1 a2.size), .string b2] ?_
                 with_reducible refine (in22_calls A0 n0 c0 A1 n1 c1 A2 n2 c2 A3 c3 ms p q (a2.extract 1 a2.size) b2 _ (Kd.C_below HC.out B0.out)).mono ?_
                 rintro e u9b ⟨rfl, hb⟩
                 refine ⟨_, rfl, ?_⟩
                 rw [hin]
                 replace B0 := bb B0 hb
                 replace K_b4 := kb K_b4 hb
                 replace K_b5 := kb K_b5 hb
                 replace K_b6 := kb K_b6 hb
                 clear hb
                 refine hK.out _ _ ⟨(blk_cell K_b4.out 0).trans rfl, (blk_cell K_b4.out 1).trans rfl, (blk_cell K_b4.out 2).trans rfl, (blk_cell K_b4.out 3).trans rfl, (blk_cell K_b4.out 4).trans rfl, (blk_cell K_b4.out 5).trans rfl, (blk_cell K_b6.out 2).trans rfl⟩ (fun hHeld => ?_)
                 clear hK K
                 refine norm_ (a' := ?_) ?_ ?_
                 rotate_left
                 · show Act.put _ (some 76) _ = _
                   simp only [Act.put, List.setIfInBounds_toArray, List.set_cons_zero, List.set_cons_succ, i64_w, i32_w]
                   rfl
                 refine pw 7 77 (M 9 255) ?_
                 refine pw 8 11 (M 9 511) ?_
                 refine done_ (by kernel_rfl) ?_
                 obtain ⟨y_b5_0, y_b5_1, y_b5_2⟩ := cz3 K_b5.out
                 obtain ⟨y_b6_0, y_b6_1, y_b6_2⟩ := cz3 K_b6.out
                 go_wp2
                 go_ret
                 exact ⟨by rw [HV.out]; rfl, B0.out⟩
              · have q6 : (((a2[0]'gs).toNat : Int) == 33) = false := beq_eq_false_iff_ne.2 g5
                have HV := Aside0.mk (fits_no ms (a0, a1, a2) (b0, b1, b2) lv 3 (by omega) (by rw [upN_succ, HN.out]; exact fitP_x ms a2 b2 g2 g1 gs g5 g4))
                clear g1 g2 g3 g4 g5
                go_wp2
                go_ret
                exact ⟨by rw [HV.out]; rfl, B0.out⟩
  · have hiv : (i : Int) = lv := by omega
    have d1 : decide ((i : Int) < lv) = false := decide_eq_false (by omega)
    have HV := Aside0.mk (show fitsP ms (a0, a1, a2) (b0, b1, b2) lv = true by unfold fitsP; rw [show (max 0 (min lv 3)).toNat = i by omega]; exact HN.out)
    clear hiv
    go_wp2
    go_ret
    exact ⟨by rw [HV.out]; rfl, B0.out⟩
set_option maxRecDepth 100000 in
set_option maxHeartbeats 8000000 in
theorem cost22_calls (A0 : Option Addr) (n0 c0 : Nat) (A1 : Option Addr) (n1 c1 : Nat) (A2 : Option Addr) (c2 : Nat) (A3 : Option Addr) (c3 : Nat) (rs : List S53) (ms : List S69) (p q : Int) (lv : Int) (h1 : 1 ≤ lv) (h3 : lv ≤ 3) (d s : K3) (w : World) (hR : Kd.C k53 w A2 rs.length rs) (hC : Kd.C k69 w A3 ms.length ms) :
 Calls Try.prog 51 #[.agg #[.slice A0 n0 c0, .slice A1 n1 c1, .slice A2 rs.length c2, .slice A3 ms.length c3, .int .i64 p, .int .i64 q], .int .i64 lv, .agg #[.string d.1, .string d.2.1, .string d.2.2], .agg #[.string s.1, .string s.2.1, .string s.2.2]] w fun e w' => e = .returned (.int .i64 (costP rs ms lv d s)) ∧ Below w.heap.size w w' := by
 have hu39 := Try.underlying39
 have hu30 := Try.underlying30
 have hu53 := Try.underlying53
 have HC := Aside0.mk hC
 have HR := Aside0.mk hR
 have hmx := Kd.C_max hR
 have HMX := Aside0.mk hmx
 have B0 := Aside0.mk (Below.refl w.heap.size w)
 clear hC hR
 obtain ⟨d0, d1, d2⟩ := d
 obtain ⟨s0, s1, s2⟩ := s
 go_enter Try.func51, Try.ntmps51
 have e1 : decide (lv < 1) = false := decide_eq_false (by omega)
 have e2 : decide (3 < lv) = false := decide_eq_false (by omega)
 go_upto_region 3 with (first
  | ((with_reducible refine gate_dst (N := 4) rfl ?_); refine be 4 #[.slice A0 n0 c0, .slice A1 n1 c1, .slice A2 rs.length c2, .slice A3 ms.length c3, .int .i64 p, .int .i64 q] 39 ?_; intro b4 hg v1 hbox hb; have G_b4 := Aside0.mk (show w.heap.size ≤ b4 by rw [hg]; exact B0.out.size); replace B0 := bb B0 hb; have K_b4 := Aside0.mk hbox; clear hb hbox hg)
  | ((with_reducible refine gate_dst (N := 6) rfl ?_); refine be 6 #[.string d0, .string d1, .string d2] 30 ?_; intro b6 hg v2 hbox hb; have N_b4_b6 := kn K_b4 hg; have G_b6 := Aside0.mk (show w.heap.size ≤ b6 by rw [hg]; exact B0.out.size); replace B0 := bb B0 hb; replace K_b4 := kb K_b4 hb; have K_b6 := Aside0.mk hbox; clear hb hbox hg)
  | ((with_reducible refine gate_dst (N := 7) rfl ?_); refine be 7 #[.string s0, .string s1, .string s2] 30 ?_; intro b7 hg v3 hbox hb; have N_b4_b7 := kn K_b4 hg; have N_b6_b7 := kn K_b6 hg; have G_b7 := Aside0.mk (show w.heap.size ≤ b7 by rw [hg]; exact B0.out.size); replace B0 := bb B0 hb; replace K_b4 := kb K_b4 hb; replace K_b6 := kb K_b6 hb; have K_b7 := Aside0.mk hbox; clear hb hbox hg))
 clear e1 e2
 go_cut [27] from 19 to 27 (fun s27 wr => s27 = .bool (decide (at3 (d0, d1, d2) (lv - 1).toNat = at3 (s0, s1, s2) (lv - 1).toNat)) ∧ Aside0 (Below w.heap.size w wr) ∧ Aside0 (wr.heap[b4]? = some (.cells #[.slice A0 n0 c0, .slice A1 n1 c1, .slice A2 rs.length c2, .slice A3 ms.length c3, .int .i64 p, .int .i64 q] 39 (0, 0))) ∧ Aside0 (wr.heap[b6]? = some (.cells #[.string d0, .string d1, .string d2] 30 (0, 0))) ∧ Aside0 (wr.heap[b7]? = some (.cells #[.string s0, .string s1, .string s2] 30 (0, 0))))
 case first =>
  obtain ⟨y_b6_0, y_b6_1, y_b6_2⟩ := cz3 K_b6.out
  obtain ⟨y_b7_0, y_b7_1, y_b7_2⟩ := cz3 K_b7.out
  have hb : Below v3.heap.size v3 v3.drew := below_drew1 (Below.refl _ _)
  replace B0 := bb B0 hb
  replace K_b4 := kb K_b4 hb
  replace K_b6 := kb K_b6 hb
  replace K_b7 := kb K_b7 hb
  clear hb
  obtain rfl | rfl | rfl : lv = 1 ∨ lv = 2 ∨ lv = 3 := by omega
  · have hw : IntKind.i64.wrap 0 = 0 := by rfl
    go_still (by kernel_rfl)
    go_wp2_with fail
    go_meet
    exact ⟨by rw [toList_eqv]; rfl, B0, K_b4, K_b6, K_b7⟩
  · have hw : IntKind.i64.wrap 1 = 1 := by rfl
    go_still (by kernel_rfl)
    go_wp2_with fail
    go_meet
    exact ⟨by rw [toList_eqv]; rfl, B0, K_b4, K_b6, K_b7⟩
  · have hw : IntKind.i64.wrap 2 = 2 := by rfl
    go_still (by kernel_rfl)
    go_wp2_with fail
    go_meet
    exact ⟨by rw [toList_eqv]; rfl, B0, K_b4, K_b6, K_b7⟩
 case rest =>
 clear B0 K_b4 K_b6 K_b7
 obtain ⟨rfl, B0, K_b4, K_b6, K_b7⟩ := hcut
 generalize wc = z1 at *
 by_cases he : at3 (d0, d1, d2) (lv - 1).toNat = at3 (s0, s1, s2) (lv - 1).toNat
 · have HV := Aside0.mk (show costP rs ms lv (d0, d1, d2) (s0, s1, s2) = 0 by rw [costP_eq rs ms lv _ _ h1 h3, if_pos he])
   rw [decide_eq_true he]
   clear he
   go_wp2
   go_ret
   exact ⟨by rw [HV.out]; rfl, B0.out⟩
 · have HV := Aside0.mk (show costP rs ms lv (d0, d1, d2) (s0, s1, s2) = ((rs.find? fun r => hitP ms r (d0, d1, d2) (s0, s1, s2) lv).map (fun r => r.f1)).getD 100 by rw [costP_eq rs ms lv _ _ h1 h3, if_neg he])
   rw [decide_eq_false he]
   clear he
   go_wp2
   go_loopw [9] (fun vi wr => ∃ i : Nat, vi = .int .i64 (i : Int) ∧ i ≤ rs.length ∧ Aside0 ((rs.take i).find? (fun r => hitP ms r (d0, d1, d2) (s0, s1, s2) lv) = none) ∧ Aside0 (Below w.heap.size w wr) ∧ Aside0 (wr.heap[b4]? = some (.cells #[.slice A0 n0 c0, .slice A1 n1 c1, .slice A2 rs.length c2, .slice A3 ms.length c3, .int .i64 p, .int .i64 q] 39 (0, 0))) ∧ Aside0 (wr.heap[b6]? = some (.cells #[.string d0, .string d1, .string d2] 30 (0, 0))) ∧ Aside0 (wr.heap[b7]? = some (.cells #[.string s0, .string s1, .string s2] 30 (0, 0)))) (fun vi _ => rs.length - (intOf vi).toNat)
   case atStart => exact ⟨0, rfl, Nat.zero_le _, ⟨rfl⟩, B0, K_b4, K_b6, K_b7⟩
   case round =>
    clear B0 K_b4 K_b6 K_b7
    obtain ⟨i, rfl, hi, HN, B0, K_b4, K_b6, K_b7⟩ := hrel
    generalize wr = z2 at *
    by_cases hlt : i < rs.length
    · obtain ⟨ad, e, x0, x1, x2, x3, x4, x5, x6, x7, x8⟩ := at_T53 HR.out (i : Int) (by omega) (by omega)
      cases e
      replace x0 := (B0.out.cell (World.block_lt_of_cell? w _ x0)).trans x0
      replace x1 := (B0.out.cell (World.block_lt_of_cell? w _ x1)).trans x1
      replace x2 := (B0.out.cell (World.block_lt_of_cell? w _ x2)).trans x2
      replace x3 := (B0.out.cell (World.block_lt_of_cell? w _ x3)).trans x3
      replace x4 := (B0.out.cell (World.block_lt_of_cell? w _ x4)).trans x4
      replace x5 := (B0.out.cell (World.block_lt_of_cell? w _ x5)).trans x5
      replace x6 := (B0.out.cell (World.block_lt_of_cell? w _ x6)).trans x6
      replace x7 := (B0.out.cell (World.block_lt_of_cell? w _ x7)).trans x7
      replace x8 := (B0.out.cell (World.block_lt_of_cell? w _ x8)).trans x8
      obtain ⟨x, hx⟩ : ∃ x, x = rd_T53 rs (i : Int) := ⟨_, rfl⟩
      rw [← hx] at x0 x1 x2 x3 x4 x5 x6 x7 x8
      simp only [Int.toNat_natCast] at x0 x1 x2 x3 x4 x5 x6 x7 x8
      have hx2 : x = rs[i]'hlt := by rw [hx]; simp [rd_T53, List.getD_eq_getElem?_getD, List.getElem?_eq_getElem hlt]
      have HX := Aside0.mk hx2
      clear hx hx2
      have dl1 : decide ((i : Int) < (rs.length : Int)) = true := decide_eq_true (by omega)
      obtain ⟨y_b4_0, y_b4_1, y_b4_2, y_b4_3, y_b4_4, y_b4_5⟩ := cz6 K_b4.out
      go_upto_region 9 with (first
       | ((with_reducible refine gate_dst (N := 4) rfl ?_); refine be 4 #[.slice A0 n0 c0, .slice A1 n1 c1, .slice A2 rs.length c2, .slice A3 ms.length c3, .int .i64 p, .int .i64 q] 39 ?_; intro b4 hg v1 hbox hb; have G_b4 := Aside0.mk (show w.heap.size ≤ b4 by rw [hg]; exact B0.out.size); replace B0 := bb B0 hb; have K_b4 := Aside0.mk hbox; clear hb hbox hg)
       | ((with_reducible refine gate_dst (N := 6) rfl ?_); refine be 6 #[.string d0, .string d1, .string d2] 30 ?_; intro b6 hg v2 hbox hb; have N_b4_b6 := kn K_b4 hg; have G_b6 := Aside0.mk (show w.heap.size ≤ b6 by rw [hg]; exact B0.out.size); replace B0 := bb B0 hb; replace K_b4 := kb K_b4 hb; have K_b6 := Aside0.mk hbox; clear hb hbox hg)
       | ((with_reducible refine gate_dst (N := 7) rfl ?_); refine be 7 #[.string s0, .string s1, .string s2] 30 ?_; intro b7 hg v3 hbox hb; have N_b4_b7 := kn K_b4 hg; have N_b6_b7 := kn K_b6 hg; have G_b7 := Aside0.mk (show w.heap.size ≤ b7 by rw [hg]; exact B0.out.size); replace B0 := bb B0 hb; replace K_b4 := kb K_b4 hb; replace K_b6 := kb K_b6 hb; have K_b7 := Aside0.mk hbox; clear hb hbox hg)
       | ((with_reducible refine gate_dst (N := 10) rfl ?_); refine be 10 #[.int .i64 0, .int .i64 0, .bool false, .string ⟨#[]⟩, .string ⟨#[]⟩, .string ⟨#[]⟩, .string ⟨#[]⟩, .string ⟨#[]⟩, .string ⟨#[]⟩] 53 ?_; intro b10 hg y1 hbox hb; clear y_b4_0 y_b4_1 y_b4_2 y_b4_3 y_b4_4 y_b4_5 x0 x1 x2 x3 x4 x5 x6 x7 x8; have N_b4_b10 := kn K_b4 hg; have N_b6_b10 := kn K_b6 hg; have N_b7_b10 := kn K_b7 hg; have G_b10 := Aside0.mk (show w.heap.size ≤ b10 by rw [hg]; exact B0.out.size); replace B0 := bb B0 hb; replace K_b4 := kb K_b4 hb; replace K_b6 := kb K_b6 hb; replace K_b7 := kb K_b7 hb; have K_b10 := Aside0.mk hbox; clear hb hbox hg)
       | ((with_reducible refine gate_ (.store 53 (.tmp 10) (.tmp 39)) rfl ?_); refine pe b10 0 #[.int .i64 x.f0, .int .i64 x.f1, .bool x.f2, .string x.f3.f0, .string x.f3.f1, .string x.f3.f2, .string x.f4.f0, .string x.f4.f1, .string x.f4.f2] [.int .i64 x.f0, .int .i64 x.f1, .bool x.f2, .string x.f3.f0, .string x.f3.f1, .string x.f3.f2, .string x.f4.f0, .string x.f4.f1, .string x.f4.f2] K_b10.out ?_; intro y2 hk hp; replace B0 := bp B0 hp G_b10.out; replace K_b4 := kp K_b4 hp N_b4_b10.out; replace K_b6 := kp K_b6 hp N_b6_b10.out; replace K_b7 := kp K_b7 hp N_b7_b10.out; replace K_b10 := Aside0.mk hk; clear hk hp))
      clear dl1
      go_frame
      go_cut [11] (fun sv wr => sv = .bool (bothP ms x (d0, d1, d2) (s0, s1, s2) lv) ∧ Aside0 (Below w.heap.size w wr) ∧ Aside0 (wr.heap[b4]? = some (.cells #[.slice A0 n0 c0, .slice A1 n1 c1, .slice (some ad) rs.length c2, .slice A3 ms.length c3, .int .i64 p, .int .i64 q] 39 (0, 0))) ∧ Aside0 (wr.heap[b6]? = some (.cells #[.string d0, .string d1, .string d2] 30 (0, 0))) ∧ Aside0 (wr.heap[b7]? = some (.cells #[.string s0, .string s1, .string s2] 30 (0, 0))) ∧ Aside0 (wr.heap[b10]? = some (.cells #[.int .i64 x.f0, .int .i64 x.f1, .bool x.f2, .string x.f3.f0, .string x.f3.f1, .string x.f3.f2, .string x.f4.f0, .string x.f4.f1, .string x.f4.f2] 53 (0, 0))))
      case first =>
       cases f1 : fitsP ms (x.f3.f0, x.f3.f1, x.f3.f2) (d0, d1, d2) lv with
       | false =>
        have HV2 := Aside0.mk (show bothP ms x (d0, d1, d2) (s0, s1, s2) lv = false by unfold bothP; rw [show k3 x.f3 = (x.f3.f0, x.f3.f1, x.f3.f2) from rfl, f1]; rfl)
        obtain ⟨y_b4_0, y_b4_1, y_b4_2, y_b4_3, y_b4_4, y_b4_5⟩ := cz6 K_b4.out
        obtain ⟨y_b6_0, y_b6_1, y_b6_2⟩ := cz3 K_b6.out
        obtain ⟨y_b10_0, y_b10_1, y_b10_2, y_b10_3, y_b10_4, y_b10_5, y_b10_6, y_b10_7, y_b10_8⟩ := cz9 K_b10.out
        go_wp2_with (first
         | ((with_reducible refine gate_callee (f := 57) rfl ?_); refine goesL_ (some 45) rfl rfl Try.func57 (by kernel_rfl) rfl #[.agg #[.slice A0 n0 c0, .slice A1 n1 c1, .slice (some ad) rs.length c2, .slice A3 ms.length c3, .int .i64 p, .int .i64 q], .agg #[.string x.f3.f0, .string x.f3.f1, .string x.f3.f2], .agg #[.string d0, .string d1, .string d2], .int .i64 lv] rfl mq ?_; (with_reducible refine (fits22_calls A0 n0 c0 A1 n1 c1 (some ad) rs.length c2 A3 c3 ms p q (x.f3.f0, x.f3.f1, x.f3.f2) (d0, d1, d2) lv h1 h3 _ (Kd.C_below HC.out B0.out)).mono ?_); rintro e nw1 ⟨rfl, hb⟩; refine ⟨_, rfl, ?_⟩; clear y_b4_0 y_b4_1 y_b4_2 y_b4_3 y_b4_4 y_b4_5 y_b6_0 y_b6_1 y_b6_2 y_b10_0 y_b10_1 y_b10_2 y_b10_3 y_b10_4 y_b10_5 y_b10_6 y_b10_7 y_b10_8; rw [f1]; replace B0 := bb B0 hb; replace K_b4 := kb K_b4 hb; replace K_b6 := kb K_b6 hb; replace K_b7 := kb K_b7 hb; replace K_b10 := kb K_b10 hb; clear hb))
        go_meet
        exact ⟨by rw [HV2.out], B0, K_b4, K_b6, K_b7, K_b10⟩
       | true =>
        cases f2 : fitsP ms (x.f4.f0, x.f4.f1, x.f4.f2) (s0, s1, s2) lv with
        | false =>
         have HV2 := Aside0.mk (show bothP ms x (d0, d1, d2) (s0, s1, s2) lv = false by unfold bothP; rw [show k3 x.f3 = (x.f3.f0, x.f3.f1, x.f3.f2) from rfl, show k3 x.f4 = (x.f4.f0, x.f4.f1, x.f4.f2) from rfl, f1, f2]; rfl)
         obtain ⟨y_b4_0, y_b4_1, y_b4_2, y_b4_3, y_b4_4, y_b4_5⟩ := cz6 K_b4.out
         obtain ⟨y_b6_0, y_b6_1, y_b6_2⟩ := cz3 K_b6.out
         obtain ⟨y_b10_0, y_b10_1, y_b10_2, y_b10_3, y_b10_4, y_b10_5, y_b10_6, y_b10_7, y_b10_8⟩ := cz9 K_b10.out
         go_wp2_with (first
          | ((with_reducible refine gate_callee (f := 57) rfl ?_); refine goesL_ (some 45) rfl rfl Try.func57 (by kernel_rfl) rfl #[.agg #[.slice A0 n0 c0, .slice A1 n1 c1, .slice (some ad) rs.length c2, .slice A3 ms.length c3, .int .i64 p, .int .i64 q], .agg #[.string x.f3.f0, .string x.f3.f1, .string x.f3.f2], .agg #[.string d0, .string d1, .string d2], .int .i64 lv] rfl mq ?_; (with_reducible refine (fits22_calls A0 n0 c0 A1 n1 c1 (some ad) rs.length c2 A3 c3 ms p q (x.f3.f0, x.f3.f1, x.f3.f2) (d0, d1, d2) lv h1 h3 _ (Kd.C_below HC.out B0.out)).mono ?_); rintro e nw1 ⟨rfl, hb⟩; refine ⟨_, rfl, ?_⟩; clear y_b4_0 y_b4_1 y_b4_2 y_b4_3 y_b4_4 y_b4_5 y_b6_0 y_b6_1 y_b6_2 y_b10_0 y_b10_1 y_b10_2 y_b10_3 y_b10_4 y_b10_5 y_b10_6 y_b10_7 y_b10_8; rw [f1]; replace B0 := bb B0 hb; replace K_b4 := kb K_b4 hb; replace K_b6 := kb K_b6 hb; replace K_b7 := kb K_b7 hb; replace K_b10 := kb K_b10 hb; clear hb; obtain ⟨y_b4_0, y_b4_1, y_b4_2, y_b4_3, y_b4_4, y_b4_5⟩ := cz6 K_b4.out; obtain ⟨y_b7_0, y_b7_1, y_b7_2⟩ := cz3 K_b7.out; obtain ⟨y_b10_0, y_b10_1, y_b10_2, y_b10_3, y_b10_4, y_b10_5, y_b10_6, y_b10_7, y_b10_8⟩ := cz9 K_b10.out)
          | (go_at_call 57; refine (fits22_calls A0 n0 c0 A1 n1 c1 (some ad) rs.length c2 A3 c3 ms p q (x.f4.f0, x.f4.f1, x.f4.f2) (s0, s1, s2) lv h1 h3 _ (Kd.C_below HC.out B0.out)).mono ?_; rintro e nw2 ⟨rfl, hb⟩; clear y_b4_0 y_b4_1 y_b4_2 y_b4_3 y_b4_4 y_b4_5 y_b7_0 y_b7_1 y_b7_2 y_b10_0 y_b10_1 y_b10_2 y_b10_3 y_b10_4 y_b10_5 y_b10_6 y_b10_7 y_b10_8; rw [f2]; replace B0 := bb B0 hb; replace K_b4 := kb K_b4 hb; replace K_b6 := kb K_b6 hb; replace K_b7 := kb K_b7 hb; replace K_b10 := kb K_b10 hb; clear hb))
         go_meet
         exact ⟨by rw [HV2.out], B0, K_b4, K_b6, K_b7, K_b10⟩
        | true =>
         have HV2 := Aside0.mk (show bothP ms x (d0, d1, d2) (s0, s1, s2) lv = true by unfold bothP; rw [show k3 x.f3 = (x.f3.f0, x.f3.f1, x.f3.f2) from rfl, show k3 x.f4 = (x.f4.f0, x.f4.f1, x.f4.f2) from rfl, f1, f2]; rfl)
         obtain ⟨y_b4_0, y_b4_1, y_b4_2, y_b4_3, y_b4_4, y_b4_5⟩ := cz6 K_b4.out
         obtain ⟨y_b6_0, y_b6_1, y_b6_2⟩ := cz3 K_b6.out
         obtain ⟨y_b10_0, y_b10_1, y_b10_2, y_b10_3, y_b10_4, y_b10_5, y_b10_6, y_b10_7, y_b10_8⟩ := cz9 K_b10.out
         go_wp2_with (first
          | ((with_reducible refine gate_callee (f := 57) rfl ?_); refine goesL_ (some 45) rfl rfl Try.func57 (by kernel_rfl) rfl #[.agg #[.slice A0 n0 c0, .slice A1 n1 c1, .slice (some ad) rs.length c2, .slice A3 ms.length c3, .int .i64 p, .int .i64 q], .agg #[.string x.f3.f0, .string x.f3.f1, .string x.f3.f2], .agg #[.string d0, .string d1, .string d2], .int .i64 lv] rfl mq ?_; (with_reducible refine (fits22_calls A0 n0 c0 A1 n1 c1 (some ad) rs.length c2 A3 c3 ms p q (x.f3.f0, x.f3.f1, x.f3.f2) (d0, d1, d2) lv h1 h3 _ (Kd.C_below HC.out B0.out)).mono ?_); rintro e nw1 ⟨rfl, hb⟩; refine ⟨_, rfl, ?_⟩; clear y_b4_0 y_b4_1 y_b4_2 y_b4_3 y_b4_4 y_b4_5 y_b6_0 y_b6_1 y_b6_2 y_b10_0 y_b10_1 y_b10_2 y_b10_3 y_b10_4 y_b10_5 y_b10_6 y_b10_7 y_b10_8; rw [f1]; replace B0 := bb B0 hb; replace K_b4 := kb K_b4 hb; replace K_b6 := kb K_b6 hb; replace K_b7 := kb K_b7 hb; replace K_b10 := kb K_b10 hb; clear hb; obtain ⟨y_b4_0, y_b4_1, y_b4_2, y_b4_3, y_b4_4, y_b4_5⟩ := cz6 K_b4.out; obtain ⟨y_b7_0, y_b7_1, y_b7_2⟩ := cz3 K_b7.out; obtain ⟨y_b10_0, y_b10_1, y_b10_2, y_b10_3, y_b10_4, y_b10_5, y_b10_6, y_b10_7, y_b10_8⟩ := cz9 K_b10.out)
          | (go_at_call 57; refine (fits22_calls A0 n0 c0 A1 n1 c1 (some ad) rs.length c2 A3 c3 ms p q (x.f4.f0, x.f4.f1, x.f4.f2) (s0, s1, s2) lv h1 h3 _ (Kd.C_below HC.out B0.out)).mono ?_; rintro e nw2 ⟨rfl, hb⟩; clear y_b4_0 y_b4_1 y_b4_2 y_b4_3 y_b4_4 y_b4_5 y_b7_0 y_b7_1 y_b7_2 y_b10_0 y_b10_1 y_b10_2 y_b10_3 y_b10_4 y_b10_5 y_b10_6 y_b10_7 y_b10_8; rw [f2]; replace B0 := bb B0 hb; replace K_b4 := kb K_b4 hb; replace K_b6 := kb K_b6 hb; replace K_b7 := kb K_b7 hb; replace K_b10 := kb K_b10 hb; clear hb))
         go_meet
         exact ⟨by rw [HV2.out], B0, K_b4, K_b6, K_b7, K_b10⟩
      case rest =>
      clear B0 K_b4 K_b6 K_b7 K_b10
      obtain ⟨rfl, B0, K_b4, K_b6, K_b7, K_b10⟩ := hcut
      generalize wc = q11 at *
      go_upto_region 10 with fail
      go_cut [12] (fun sv wr => sv = .bool (bothP ms x (s0, s1, s2) (d0, d1, d2) lv) ∧ Aside0 (Below w.heap.size w wr) ∧ Aside0 (wr.heap[b4]? = some (.cells #[.slice A0 n0 c0, .slice A1 n1 c1, .slice (some ad) rs.length c2, .slice A3 ms.length c3, .int .i64 p, .int .i64 q] 39 (0, 0))) ∧ Aside0 (wr.heap[b6]? = some (.cells #[.string d0, .string d1, .string d2] 30 (0, 0))) ∧ Aside0 (wr.heap[b7]? = some (.cells #[.string s0, .string s1, .string s2] 30 (0, 0))) ∧ Aside0 (wr.heap[b10]? = some (.cells #[.int .i64 x.f0, .int .i64 x.f1, .bool x.f2, .string x.f3.f0, .string x.f3.f1, .string x.f3.f2, .string x.f4.f0, .string x.f4.f1, .string x.f4.f2] 53 (0, 0))))
      case first =>
       cases f1 : fitsP ms (x.f3.f0, x.f3.f1, x.f3.f2) (s0, s1, s2) lv with
       | false =>
        have HV2 := Aside0.mk (show bothP ms x (s0, s1, s2) (d0, d1, d2) lv = false by unfold bothP; rw [show k3 x.f3 = (x.f3.f0, x.f3.f1, x.f3.f2) from rfl, f1]; rfl)
        obtain ⟨y_b4_0, y_b4_1, y_b4_2, y_b4_3, y_b4_4, y_b4_5⟩ := cz6 K_b4.out
        obtain ⟨y_b7_0, y_b7_1, y_b7_2⟩ := cz3 K_b7.out
        obtain ⟨y_b10_0, y_b10_1, y_b10_2, y_b10_3, y_b10_4, y_b10_5, y_b10_6, y_b10_7, y_b10_8⟩ := cz9 K_b10.out
        go_wp2_with (first
         | ((with_reducible refine gate_callee (f := 57) rfl ?_); refine goesL_ (some 59) rfl rfl Try.func57 (by kernel_rfl) rfl #[.agg #[.slice A0 n0 c0, .slice A1 n1 c1, .slice (some ad) rs.length c2, .slice A3 ms.length c3, .int .i64 p, .int .i64 q], .agg #[.string x.f3.f0, .string x.f3.f1, .string x.f3.f2], .agg #[.string s0, .string s1, .string s2], .int .i64 lv] rfl mq ?_; (with_reducible refine (fits22_calls A0 n0 c0 A1 n1 c1 (some ad) rs.length c2 A3 c3 ms p q (x.f3.f0, x.f3.f1, x.f3.f2) (s0, s1, s2) lv h1 h3 _ (Kd.C_below HC.out B0.out)).mono ?_); rintro e nw1 ⟨rfl, hb⟩; refine ⟨_, rfl, ?_⟩; clear y_b4_0 y_b4_1 y_b4_2 y_b4_3 y_b4_4 y_b4_5 y_b7_0 y_b7_1 y_b7_2 y_b10_0 y_b10_1 y_b10_2 y_b10_3 y_b10_4 y_b10_5 y_b10_6 y_b10_7 y_b10_8; rw [f1]; replace B0 := bb B0 hb; replace K_b4 := kb K_b4 hb; replace K_b6 := kb K_b6 hb; replace K_b7 := kb K_b7 hb; replace K_b10 := kb K_b10 hb; clear hb))
        go_meet
        exact ⟨by rw [HV2.out], B0, K_b4, K_b6, K_b7, K_b10⟩
       | true =>
        cases f2 : fitsP ms (x.f4.f0, x.f4.f1, x.f4.f2) (d0, d1, d2) lv with
        | false =>
         have HV2 := Aside0.mk (show bothP ms x (s0, s1, s2) (d0, d1, d2) lv = false by unfold bothP; rw [show k3 x.f3 = (x.f3.f0, x.f3.f1, x.f3.f2) from rfl, show k3 x.f4 = (x.f4.f0, x.f4.f1, x.f4.f2) from rfl, f1, f2]; rfl)
         obtain ⟨y_b4_0, y_b4_1, y_b4_2, y_b4_3, y_b4_4, y_b4_5⟩ := cz6 K_b4.out
         obtain ⟨y_b7_0, y_b7_1, y_b7_2⟩ := cz3 K_b7.out
         obtain ⟨y_b10_0, y_b10_1, y_b10_2, y_b10_3, y_b10_4, y_b10_5, y_b10_6, y_b10_7, y_b10_8⟩ := cz9 K_b10.out
         go_wp2_with (first
          | ((with_reducible refine gate_callee (f := 57) rfl ?_); refine goesL_ (some 59) rfl rfl Try.func57 (by kernel_rfl) rfl #[.agg #[.slice A0 n0 c0, .slice A1 n1 c1, .slice (some ad) rs.length c2, .slice A3 ms.length c3, .int .i64 p, .int .i64 q], .agg #[.string x.f3.f0, .string x.f3.f1, .string x.f3.f2], .agg #[.string s0, .string s1, .string s2], .int .i64 lv] rfl mq ?_; (with_reducible refine (fits22_calls A0 n0 c0 A1 n1 c1 (some ad) rs.length c2 A3 c3 ms p q (x.f3.f0, x.f3.f1, x.f3.f2) (s0, s1, s2) lv h1 h3 _ (Kd.C_below HC.out B0.out)).mono ?_); rintro e nw1 ⟨rfl, hb⟩; refine ⟨_, rfl, ?_⟩; clear y_b4_0 y_b4_1 y_b4_2 y_b4_3 y_b4_4 y_b4_5 y_b7_0 y_b7_1 y_b7_2 y_b10_0 y_b10_1 y_b10_2 y_b10_3 y_b10_4 y_b10_5 y_b10_6 y_b10_7 y_b10_8; rw [f1]; replace B0 := bb B0 hb; replace K_b4 := kb K_b4 hb; replace K_b6 := kb K_b6 hb; replace K_b7 := kb K_b7 hb; replace K_b10 := kb K_b10 hb; clear hb; obtain ⟨y_b4_0, y_b4_1, y_b4_2, y_b4_3, y_b4_4, y_b4_5⟩ := cz6 K_b4.out; obtain ⟨y_b6_0, y_b6_1, y_b6_2⟩ := cz3 K_b6.out; obtain ⟨y_b10_0, y_b10_1, y_b10_2, y_b10_3, y_b10_4, y_b10_5, y_b10_6, y_b10_7, y_b10_8⟩ := cz9 K_b10.out)
          | (go_at_call 57; refine (fits22_calls A0 n0 c0 A1 n1 c1 (some ad) rs.length c2 A3 c3 ms p q (x.f4.f0, x.f4.f1, x.f4.f2) (d0, d1, d2) lv h1 h3 _ (Kd.C_below HC.out B0.out)).mono ?_; rintro e nw2 ⟨rfl, hb⟩; clear y_b4_0 y_b4_1 y_b4_2 y_b4_3 y_b4_4 y_b4_5 y_b6_0 y_b6_1 y_b6_2 y_b10_0 y_b10_1 y_b10_2 y_b10_3 y_b10_4 y_b10_5 y_b10_6 y_b10_7 y_b10_8; rw [f2]; replace B0 := bb B0 hb; replace K_b4 := kb K_b4 hb; replace K_b6 := kb K_b6 hb; replace K_b7 := kb K_b7 hb; replace K_b10 := kb K_b10 hb; clear hb))
         go_meet
         exact ⟨by rw [HV2.out], B0, K_b4, K_b6, K_b7, K_b10⟩
        | true =>
         have HV2 := Aside0.mk (show bothP ms x (s0, s1, s2) (d0, d1, d2) lv = true by unfold bothP; rw [show k3 x.f3 = (x.f3.f0, x.f3.f1, x.f3.f2) from rfl, show k3 x.f4 = (x.f4.f0, x.f4.f1, x.f4.f2) from rfl, f1, f2]; rfl)
         obtain ⟨y_b4_0, y_b4_1, y_b4_2, y_b4_3, y_b4_4, y_b4_5⟩ := cz6 K_b4.out
         obtain ⟨y_b7_0, y_b7_1, y_b7_2⟩ := cz3 K_b7.out
         obtain ⟨y_b10_0, y_b10_1, y_b10_2, y_b10_3, y_b10_4, y_b10_5, y_b10_6, y_b10_7, y_b10_8⟩ := cz9 K_b10.out
         go_wp2_with (first
          | ((with_reducible refine gate_callee (f := 57) rfl ?_); refine goesL_ (some 59) rfl rfl Try.func57 (by kernel_rfl) rfl #[.agg #[.slice A0 n0 c0, .slice A1 n1 c1, .slice (some ad) rs.length c2, .slice A3 ms.length c3, .int .i64 p, .int .i64 q], .agg #[.string x.f3.f0, .string x.f3.f1, .string x.f3.f2], .agg #[.string s0, .string s1, .string s2], .int .i64 lv] rfl mq ?_; (with_reducible refine (fits22_calls A0 n0 c0 A1 n1 c1 (some ad) rs.length c2 A3 c3 ms p q (x.f3.f0, x.f3.f1, x.f3.f2) (s0, s1, s2) lv h1 h3 _ (Kd.C_below HC.out B0.out)).mono ?_); rintro e nw1 ⟨rfl, hb⟩; refine ⟨_, rfl, ?_⟩; clear y_b4_0 y_b4_1 y_b4_2 y_b4_3 y_b4_4 y_b4_5 y_b7_0 y_b7_1 y_b7_2 y_b10_0 y_b10_1 y_b10_2 y_b10_3 y_b10_4 y_b10_5 y_b10_6 y_b10_7 y_b10_8; rw [f1]; replace B0 := bb B0 hb; replace K_b4 := kb K_b4 hb; replace K_b6 := kb K_b6 hb; replace K_b7 := kb K_b7 hb; replace K_b10 := kb K_b10 hb; clear hb; obtain ⟨y_b4_0, y_b4_1, y_b4_2, y_b4_3, y_b4_4, y_b4_5⟩ := cz6 K_b4.out; obtain ⟨y_b6_0, y_b6_1, y_b6_2⟩ := cz3 K_b6.out; obtain ⟨y_b10_0, y_b10_1, y_b10_2, y_b10_3, y_b10_4, y_b10_5, y_b10_6, y_b10_7, y_b10_8⟩ := cz9 K_b10.out)
          | (go_at_call 57; refine (fits22_calls A0 n0 c0 A1 n1 c1 (some ad) rs.length c2 A3 c3 ms p q (x.f4.f0, x.f4.f1, x.f4.f2) (d0, d1, d2) lv h1 h3 _ (Kd.C_below HC.out B0.out)).mono ?_; rintro e nw2 ⟨rfl, hb⟩; clear y_b4_0 y_b4_1 y_b4_2 y_b4_3 y_b4_4 y_b4_5 y_b6_0 y_b6_1 y_b6_2 y_b10_0 y_b10_1 y_b10_2 y_b10_3 y_b10_4 y_b10_5 y_b10_6 y_b10_7 y_b10_8; rw [f2]; replace B0 := bb B0 hb; replace K_b4 := kb K_b4 hb; replace K_b6 := kb K_b6 hb; replace K_b7 := kb K_b7 hb; replace K_b10 := kb K_b10 hb; clear hb))
         go_meet
         exact ⟨by rw [HV2.out], B0, K_b4, K_b6, K_b7, K_b10⟩
      case rest =>
      clear B0 K_b4 K_b6 K_b7 K_b10
      obtain ⟨rfl, B0, K_b4, K_b6, K_b7, K_b10⟩ := hcut
      generalize wc = q12 at *
      obtain ⟨y_b10_0, y_b10_1, y_b10_2, y_b10_3, y_b10_4, y_b10_5, y_b10_6, y_b10_7, y_b10_8⟩ := cz9 K_b10.out
      have hmax := HMX.out
      by_cases hf0 : x.f0 = lv
      · have q0 : (x.f0 == lv) = true := beq_iff_eq.2 hf0
        cases hv1 : bothP ms x (d0, d1, d2) (s0, s1, s2) lv with
        | true =>
         have HH := Aside0.mk (show hitP ms x (d0, d1, d2) (s0, s1, s2) lv = true by unfold hitP; rw [hv1, decide_eq_true hf0]; rfl)
         have HV2 := Aside0.mk (show costP rs ms lv (d0, d1, d2) (s0, s1, s2) = x.f1 by rw [HV.out, find_take_some (fun r => hitP ms r (d0, d1, d2) (s0, s1, s2) lv) rs i hlt HN.out (by rw [← HX.out]; exact HH.out), ← HX.out]; rfl)
         clear hf0 hv1
         go_wp2
         go_ret
         exact ⟨by rw [HV2.out]; rfl, B0.out⟩
        | false =>
         cases hv2 : bothP ms x (s0, s1, s2) (d0, d1, d2) lv with
         | false =>
          have HH := Aside0.mk (find_take_none (fun r => hitP ms r (d0, d1, d2) (s0, s1, s2) lv) rs i hlt HN.out (by rw [← HX.out]; show hitP ms x (d0, d1, d2) (s0, s1, s2) lv = false; unfold hitP; rw [hv1, hv2, Bool.and_false, Bool.or_false, Bool.and_false]))
          clear hf0 hv1 hv2
          go_wp2
          go_roundw
          case rel => exact ⟨i + 1, by simp, by omega, HH, B0, K_b4, K_b6, K_b7⟩
          case measure => simp [intOf]; omega
         | true =>
          cases hf2 : x.f2 with
          | true =>
           have HH := Aside0.mk (find_take_none (fun r => hitP ms r (d0, d1, d2) (s0, s1, s2) lv) rs i hlt HN.out (by rw [← HX.out]; show hitP ms x (d0, d1, d2) (s0, s1, s2) lv = false; unfold hitP; rw [hv1, hv2, hf2, Bool.not_true, Bool.false_and, Bool.or_false, Bool.and_false]))
           clear hf0 hv1 hv2
           go_wp2
           go_roundw
           case rel => exact ⟨i + 1, by simp, by omega, HH, B0, K_b4, K_b6, K_b7⟩
           case measure => simp [intOf]; omega
          | false =>
           have HH := Aside0.mk (show hitP ms x (d0, d1, d2) (s0, s1, s2) lv = true by unfold hitP; rw [hv1, hv2, hf2, decide_eq_true hf0]; rfl)
           have HV2 := Aside0.mk (show costP rs ms lv (d0, d1, d2) (s0, s1, s2) = x.f1 by rw [HV.out, find_take_some (fun r => hitP ms r (d0, d1, d2) (s0, s1, s2) lv) rs i hlt HN.out (by rw [← HX.out]; exact HH.out), ← HX.out]; rfl)
           clear hf0 hv1 hv2
           go_wp2
           go_ret
           exact ⟨by rw [HV2.out]; rfl, B0.out⟩
      · have q0 : (x.f0 == lv) = false := beq_eq_false_iff_ne.2 hf0
        have HH := Aside0.mk (find_take_none (fun r => hitP ms r (d0, d1, d2) (s0, s1, s2) lv) rs i hlt HN.out (by rw [← HX.out]; show hitP ms x (d0, d1, d2) (s0, s1, s2) lv = false; unfold hitP; rw [decide_eq_false hf0, Bool.false_and]))
        clear hf0
        go_wp2
        go_roundw
        case rel => exact ⟨i + 1, by simp, by omega, HH, B0, K_b4, K_b6, K_b7⟩
        case measure => simp [intOf]; omega
    · obtain rfl : i = rs.length := by omega
      have dl1 : decide (((rs.length : Nat) : Int) < (rs.length : Int)) = false := decide_eq_false (by omega)
      have hN := HN.out
      rw [List.take_length] at hN
      have HV2 := Aside0.mk (show costP rs ms lv (d0, d1, d2) (s0, s1, s2) = 100 by rw [HV.out, hN]; rfl)
      clear hN HN
      obtain ⟨y_b4_0, y_b4_1, y_b4_2, y_b4_3, y_b4_4, y_b4_5⟩ := cz6 K_b4.out
      go_wp2
      go_ret
      exact ⟨by rw [HV2.out]; rfl, B0.out⟩
end Go.Proofs.Ytdjbanhoejegjaa.LikW
