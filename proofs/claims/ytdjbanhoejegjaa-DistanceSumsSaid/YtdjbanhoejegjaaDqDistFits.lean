/- distance.Fits, walked. -/
import Derived.Test.YtdjbanhoejegjaaDqDistFit
import Derived.StillTailTactics
namespace Go.Proofs.Ytdjbanhoejegjaa.LikW
open Go.RowKit Go.Proofs.YtdjbanhoejegjaaW.PrintWords Go.Proofs.YtdjbanhoejegjaaW.PrintLast Go.Proofs.Ytdjbanhoejegjaa.P
set_option linter.unusedVariables false
set_option linter.unusedSimpArgs false

theorem cell_of_blk {W : World} {g : Nat} {t : TypeId} {cs : Array Value} (h : W.heap[g]? = some (.cells cs t (0, 0))) (i : Nat) : W.cell? ⟨g, i, none⟩ = cs[i]? := blk_cell h i
def at3 (t : K3) : Nat → ByteArray
 | 0 => t.1
 | 1 => t.2.1
 | _ => t.2.2
def upN (ms : List S69) (a b : K3) (n : Nat) : Bool := (List.range n).all fun j => fitP ms (j : Int) (at3 a j) (at3 b j)
def fitsP (ms : List S69) (a b : K3) (lv : Int) : Bool := upN ms a b (max 0 (min lv 3)).toNat
theorem upN_succ (ms : List S69) (a b : K3) (n : Nat) : upN ms a b (n + 1) = (upN ms a b n && fitP ms (n : Int) (at3 a n) (at3 b n)) := by
 unfold upN
 rw [List.range_succ, List.all_append]
 simp
theorem upN_false (ms : List S69) (a b : K3) : ∀ (d n : Nat), upN ms a b n = false → upN ms a b (n + d) = false
 | 0, n, h => h
 | d + 1, n, h => by rw [← Nat.add_assoc, upN_succ, upN_false ms a b d n h, Bool.false_and]
set_option maxRecDepth 100000 in
set_option maxHeartbeats 4000000 in
theorem fits_calls (A0 : Option Addr) (n0 c0 : Nat) (A1 : Option Addr) (n1 c1 : Nat) (A2 : Option Addr) (n2 c2 : Nat) (A3 : Option Addr) (c3 : Nat) (ms : List S69) (p q : Int) (a b : K3) (lv : Int) (w : World) (hC : Kd.C k69 w A3 ms.length ms) :
 Calls Try.prog 40 #[.agg #[.slice A0 n0 c0, .slice A1 n1 c1, .slice A2 n2 c2, .slice A3 ms.length c3, .int .i64 p, .int .i64 q], .agg #[.string a.1, .string a.2.1, .string a.2.2], .agg #[.string b.1, .string b.2.1, .string b.2.2], .int .i64 lv] w fun e w' => e = .returned (.bool (fitsP ms a b lv)) ∧ Below w.heap.size w w' := by
 have hu39 := Try.underlying39
 have hu30 := Try.underlying30
 have HC := Aside0.mk hC
 clear hC
 go_enter Try.func40, Try.ntmps40
 obtain ⟨W0, hW0⟩ : ∃ W0, W0 = ((w.alloc (.cells #[.slice A0 n0 c0, .slice A1 n1 c1, .slice A2 n2 c2, .slice A3 ms.length c3, .int .i64 p, .int .i64 q] 39)).alloc (.cells #[.string a.1, .string a.2.1, .string a.2.2] 30)).alloc (.cells #[.string b.1, .string b.2.1, .string b.2.2] 30) := ⟨_, rfl⟩
 have b0 : W0.heap[w.heap.size]? = some (.cells #[.slice A0 n0 c0, .slice A1 n1 c1, .slice A2 n2 c2, .slice A3 ms.length c3, .int .i64 p, .int .i64 q] 39 (0, 0)) := by rw [hW0]; exact ((below_alloc (below_alloc (Below.refl _ _) _) _).block _ (by simp)).trans (World.alloc_heap_new w _)
 have b1 : W0.heap[w.heap.size + 1]? = some (.cells #[.string a.1, .string a.2.1, .string a.2.2] 30 (0, 0)) := by
  have := World.alloc_heap_new (w.alloc (.cells #[.slice A0 n0 c0, .slice A1 n1 c1, .slice A2 n2 c2, .slice A3 ms.length c3, .int .i64 p, .int .i64 q] 39)) (.cells #[.string a.1, .string a.2.1, .string a.2.2] 30)
  rw [World.size_alloc] at this
  rw [hW0]; exact ((below_alloc (Below.refl _ _) _).block _ (by simp)).trans this
 have b2 : W0.heap[w.heap.size + 1 + 1]? = some (.cells #[.string b.1, .string b.2.1, .string b.2.2] 30 (0, 0)) := by
  have := World.alloc_heap_new ((w.alloc (.cells #[.slice A0 n0 c0, .slice A1 n1 c1, .slice A2 n2 c2, .slice A3 ms.length c3, .int .i64 p, .int .i64 q] 39)).alloc (.cells #[.string a.1, .string a.2.1, .string a.2.2] 30)) (.cells #[.string b.1, .string b.2.1, .string b.2.2] 30)
  rw [World.size_alloc, World.size_alloc] at this
  rw [hW0]; exact this
 have B0 : Below w.heap.size w W0 := by rw [hW0]; repeat (first | exact Below.refl _ _ | apply below_alloc)
 have sz0 : W0.heap.size = w.heap.size + 3 := by rw [hW0]; simp
 have HW := Aside0.mk hW0
 clear hW0
 go_wp2
 · have h3 : 3 < lv := by assumption
   have hv : fitsP ms a b lv = upN ms a b 3 := by unfold fitsP; congr 1; omega
   have HV := Aside0.mk hv
   clear hv
   rw [← HW.out]
   go_loopw [13] (fun vi wr => ∃ i : Nat, vi = .int .i64 (i : Int) ∧ i ≤ 3 ∧ Aside0 (upN ms a b i = true) ∧ Aside0 (Below W0.heap.size W0 wr)) (fun vi _ => 3 - (intOf vi).toNat)
   case atStart => exact ⟨0, rfl, Nat.zero_le _, ⟨rfl⟩, ⟨Below.refl _ _⟩⟩
   case round =>
    obtain ⟨i, rfl, hi, HN, HB⟩ := hrel
    by_cases hlt : (i : Int) < 3
    · have d1 : decide ((i : Int) < 3) = true := decide_eq_true hlt
      have B2 : Below w.heap.size w wr := B0.trans (HB.out.mono B0.size)
      have HC2 := Aside0.mk (Kd.C_below HC.out B2)
      have k0 := (HB.out.block _ (by omega)).trans b0
      have k1 := (HB.out.block _ (by omega)).trans b1
      have k2 := (HB.out.block _ (by omega)).trans b2
      have z0 := cell_of_blk k0
      have z1 := cell_of_blk k1
      have z2 := cell_of_blk k2
      have HB2 := Aside0.mk B2
      have q0 := z0 0
      have q1 := z0 1
      have q2 := z0 2
      have q3 := z0 3
      have q4 := z0 4
      have q5 := z0 5
      have r0 := z1 0
      have r1 := z1 1
      have r2 := z1 2
      have s0 := z2 0
      have s1 := z2 1
      have s2 := z2 2
      simp only [List.getElem?_toArray, List.getElem?_cons_zero, List.getElem?_cons_succ] at q0 q1 q2 q3 q4 q5 r0 r1 r2 s0 s1 s2
      have sw : w.heap.size + 1 + 1 < wr.heap.size := by have := HB.out.size; omega
      have U := upN_succ ms a b i
      rw [HN.out, Bool.true_and] at U
      have HU := Aside0.mk U
      clear k0 k1 k2 z0 z1 z2 B2 U b0 b1 b2
      obtain rfl | rfl | rfl : i = 0 ∨ i = 1 ∨ i = 2 := by omega
      · cases hv : fitP ms 0 a.1 b.1
        · go_wp2
          go_still_tail 8, (by kernel_rfl)
          change wpList _ _ _ _ _ (World.drew wr)
          go_wp2_with (go_at_call 53; refine (fit_calls A0 n0 c0 A1 n1 c1 A2 n2 c2 A3 c3 ms p q 0 _ _ _ (Kd.C_below HC2.out (below_drew (Below.refl _ _)))).mono ?_; rintro e w9 ⟨rfl, hb⟩; rw [hv]; replace hb := Below.trans (below_drew (Below.refl wr.heap.size wr)) (hb.mono (Nat.le_refl _)))
          all_goals go_wp2
          all_goals go_ret
          all_goals refine ⟨?_, HB2.out.trans (hb.mono HB2.out.size)⟩
          all_goals
           have e := HU.out
           rw [show fitP ms ((0 : Nat) : Int) (at3 a 0) (at3 b 0) = false from hv] at e
           have e2 := upN_false ms a b (3 - 1) 1 e
           rw [show 1 + (3 - 1) = 3 by omega] at e2
           rw [HV.out, e2]; rfl
        · go_wp2
          go_still_tail 8, (by kernel_rfl)
          change wpList _ _ _ _ _ (World.drew wr)
          go_wp2_with (go_at_call 53; refine (fit_calls A0 n0 c0 A1 n1 c1 A2 n2 c2 A3 c3 ms p q 0 _ _ _ (Kd.C_below HC2.out (below_drew (Below.refl _ _)))).mono ?_; rintro e w9 ⟨rfl, hb⟩; rw [hv]; replace hb := Below.trans (below_drew (Below.refl wr.heap.size wr)) (hb.mono (Nat.le_refl _)))
          all_goals go_wp2
          all_goals go_roundw
          all_goals first
           | (case rel => exact ⟨1, by simp, by omega, ⟨HU.out.trans hv⟩, ⟨HB.out.trans (hb.mono HB.out.size)⟩⟩)
           | (case measure => simp [intOf]; omega)
           | (case measure => simp [intOf])
      · cases hv : fitP ms 1 a.2.1 b.2.1
        · go_wp2
          go_still_tail 8, (by kernel_rfl)
          change wpList _ _ _ _ _ (World.drew wr)
          go_wp2_with (go_at_call 53; refine (fit_calls A0 n0 c0 A1 n1 c1 A2 n2 c2 A3 c3 ms p q 1 _ _ _ (Kd.C_below HC2.out (below_drew (Below.refl _ _)))).mono ?_; rintro e w9 ⟨rfl, hb⟩; rw [hv]; replace hb := Below.trans (below_drew (Below.refl wr.heap.size wr)) (hb.mono (Nat.le_refl _)))
          all_goals go_wp2
          all_goals go_ret
          all_goals refine ⟨?_, HB2.out.trans (hb.mono HB2.out.size)⟩
          all_goals
           have e := HU.out
           rw [show fitP ms ((1 : Nat) : Int) (at3 a 1) (at3 b 1) = false from hv] at e
           have e2 := upN_false ms a b (3 - 2) 2 e
           rw [show 2 + (3 - 2) = 3 by omega] at e2
           rw [HV.out, e2]; rfl
        · go_wp2
          go_still_tail 8, (by kernel_rfl)
          change wpList _ _ _ _ _ (World.drew wr)
          go_wp2_with (go_at_call 53; refine (fit_calls A0 n0 c0 A1 n1 c1 A2 n2 c2 A3 c3 ms p q 1 _ _ _ (Kd.C_below HC2.out (below_drew (Below.refl _ _)))).mono ?_; rintro e w9 ⟨rfl, hb⟩; rw [hv]; replace hb := Below.trans (below_drew (Below.refl wr.heap.size wr)) (hb.mono (Nat.le_refl _)))
          all_goals go_wp2
          all_goals go_roundw
          all_goals first
           | (case rel => exact ⟨2, by simp, by omega, ⟨HU.out.trans hv⟩, ⟨HB.out.trans (hb.mono HB.out.size)⟩⟩)
           | (case measure => simp [intOf]; omega)
           | (case measure => simp [intOf])
      · cases hv : fitP ms 2 a.2.2 b.2.2
        · go_wp2
          go_still_tail 8, (by kernel_rfl)
          change wpList _ _ _ _ _ (World.drew wr)
          go_wp2_with (go_at_call 53; refine (fit_calls A0 n0 c0 A1 n1 c1 A2 n2 c2 A3 c3 ms p q 2 _ _ _ (Kd.C_below HC2.out (below_drew (Below.refl _ _)))).mono ?_; rintro e w9 ⟨rfl, hb⟩; rw [hv]; replace hb := Below.trans (below_drew (Below.refl wr.heap.size wr)) (hb.mono (Nat.le_refl _)))
          all_goals go_wp2
          all_goals go_ret
          all_goals refine ⟨?_, HB2.out.trans (hb.mono HB2.out.size)⟩
          all_goals
           have e := HU.out
           rw [show fitP ms ((2 : Nat) : Int) (at3 a 2) (at3 b 2) = false from hv] at e
           have e2 := upN_false ms a b (3 - 3) 3 e
           rw [show 3 + (3 - 3) = 3 by omega] at e2
           rw [HV.out, e2]; rfl
        · go_wp2
          go_still_tail 8, (by kernel_rfl)
          change wpList _ _ _ _ _ (World.drew wr)
          go_wp2_with (go_at_call 53; refine (fit_calls A0 n0 c0 A1 n1 c1 A2 n2 c2 A3 c3 ms p q 2 _ _ _ (Kd.C_below HC2.out (below_drew (Below.refl _ _)))).mono ?_; rintro e w9 ⟨rfl, hb⟩; rw [hv]; replace hb := Below.trans (below_drew (Below.refl wr.heap.size wr)) (hb.mono (Nat.le_refl _)))
          all_goals go_wp2
          all_goals go_roundw
          all_goals first
           | (case rel => exact ⟨3, by simp, by omega, ⟨HU.out.trans hv⟩, ⟨HB.out.trans (hb.mono HB.out.size)⟩⟩)
           | (case measure => simp [intOf]; omega)
           | (case measure => simp [intOf])
    · have d1 : decide ((i : Int) < 3) = false := decide_eq_false hlt
      have e : i = 3 := by omega
      have E := HN.out
      rw [e] at E
      rw [← HV.out] at E
      have HE := Aside0.mk E
      clear E
      go_wp2
      go_ret
      exact ⟨by rw [HE.out]; rfl, B0.trans (HB.out.mono B0.size)⟩
 · have h3 : lv ≤ 3 := by assumption
   have h4 : 0 < lv := by assumption
   have hv : fitsP ms a b lv = upN ms a b lv.toNat := by unfold fitsP; congr 1; omega
   have HV := Aside0.mk hv
   clear hv
   rw [← HW.out]
   go_loopw [13] (fun vi wr => ∃ i : Nat, vi = .int .i64 (i : Int) ∧ i ≤ lv.toNat ∧ Aside0 (upN ms a b i = true) ∧ Aside0 (Below W0.heap.size W0 wr)) (fun vi _ => lv.toNat - (intOf vi).toNat)
   case atStart => exact ⟨0, rfl, Nat.zero_le _, ⟨rfl⟩, ⟨Below.refl _ _⟩⟩
   case round =>
    obtain ⟨i, rfl, hi, HN, HB⟩ := hrel
    by_cases hlt : (i : Int) < lv
    · have d1 : decide ((i : Int) < lv) = true := decide_eq_true hlt
      have B2 : Below w.heap.size w wr := B0.trans (HB.out.mono B0.size)
      have HC2 := Aside0.mk (Kd.C_below HC.out B2)
      have k0 := (HB.out.block _ (by omega)).trans b0
      have k1 := (HB.out.block _ (by omega)).trans b1
      have k2 := (HB.out.block _ (by omega)).trans b2
      have z0 := cell_of_blk k0
      have z1 := cell_of_blk k1
      have z2 := cell_of_blk k2
      have HB2 := Aside0.mk B2
      have q0 := z0 0
      have q1 := z0 1
      have q2 := z0 2
      have q3 := z0 3
      have q4 := z0 4
      have q5 := z0 5
      have r0 := z1 0
      have r1 := z1 1
      have r2 := z1 2
      have s0 := z2 0
      have s1 := z2 1
      have s2 := z2 2
      simp only [List.getElem?_toArray, List.getElem?_cons_zero, List.getElem?_cons_succ] at q0 q1 q2 q3 q4 q5 r0 r1 r2 s0 s1 s2
      have sw : w.heap.size + 1 + 1 < wr.heap.size := by have := HB.out.size; omega
      have U := upN_succ ms a b i
      rw [HN.out, Bool.true_and] at U
      have HU := Aside0.mk U
      clear k0 k1 k2 z0 z1 z2 B2 U b0 b1 b2
      obtain rfl | rfl | rfl : i = 0 ∨ i = 1 ∨ i = 2 := by omega
      · cases hv : fitP ms 0 a.1 b.1
        · go_wp2
          go_still_tail 8, (by kernel_rfl)
          change wpList _ _ _ _ _ (World.drew wr)
          go_wp2_with (go_at_call 53; refine (fit_calls A0 n0 c0 A1 n1 c1 A2 n2 c2 A3 c3 ms p q 0 _ _ _ (Kd.C_below HC2.out (below_drew (Below.refl _ _)))).mono ?_; rintro e w9 ⟨rfl, hb⟩; rw [hv]; replace hb := Below.trans (below_drew (Below.refl wr.heap.size wr)) (hb.mono (Nat.le_refl _)))
          all_goals go_wp2
          all_goals go_ret
          all_goals refine ⟨?_, HB2.out.trans (hb.mono HB2.out.size)⟩
          all_goals
           have e := HU.out
           rw [show fitP ms ((0 : Nat) : Int) (at3 a 0) (at3 b 0) = false from hv] at e
           have e2 := upN_false ms a b (lv.toNat - 1) 1 e
           rw [show 1 + (lv.toNat - 1) = lv.toNat by omega] at e2
           rw [HV.out, e2]; rfl
        · go_wp2
          go_still_tail 8, (by kernel_rfl)
          change wpList _ _ _ _ _ (World.drew wr)
          go_wp2_with (go_at_call 53; refine (fit_calls A0 n0 c0 A1 n1 c1 A2 n2 c2 A3 c3 ms p q 0 _ _ _ (Kd.C_below HC2.out (below_drew (Below.refl _ _)))).mono ?_; rintro e w9 ⟨rfl, hb⟩; rw [hv]; replace hb := Below.trans (below_drew (Below.refl wr.heap.size wr)) (hb.mono (Nat.le_refl _)))
          all_goals go_wp2
          all_goals go_roundw
          all_goals first
           | (case rel => exact ⟨1, by simp, by omega, ⟨HU.out.trans hv⟩, ⟨HB.out.trans (hb.mono HB.out.size)⟩⟩)
           | (case measure => simp [intOf]; omega)
           | (case measure => simp [intOf])
      · cases hv : fitP ms 1 a.2.1 b.2.1
        · go_wp2
          go_still_tail 8, (by kernel_rfl)
          change wpList _ _ _ _ _ (World.drew wr)
          go_wp2_with (go_at_call 53; refine (fit_calls A0 n0 c0 A1 n1 c1 A2 n2 c2 A3 c3 ms p q 1 _ _ _ (Kd.C_below HC2.out (below_drew (Below.refl _ _)))).mono ?_; rintro e w9 ⟨rfl, hb⟩; rw [hv]; replace hb := Below.trans (below_drew (Below.refl wr.heap.size wr)) (hb.mono (Nat.le_refl _)))
          all_goals go_wp2
          all_goals go_ret
          all_goals refine ⟨?_, HB2.out.trans (hb.mono HB2.out.size)⟩
          all_goals
           have e := HU.out
           rw [show fitP ms ((1 : Nat) : Int) (at3 a 1) (at3 b 1) = false from hv] at e
           have e2 := upN_false ms a b (lv.toNat - 2) 2 e
           rw [show 2 + (lv.toNat - 2) = lv.toNat by omega] at e2
           rw [HV.out, e2]; rfl
        · go_wp2
          go_still_tail 8, (by kernel_rfl)
          change wpList _ _ _ _ _ (World.drew wr)
          go_wp2_with (go_at_call 53; refine (fit_calls A0 n0 c0 A1 n1 c1 A2 n2 c2 A3 c3 ms p q 1 _ _ _ (Kd.C_below HC2.out (below_drew (Below.refl _ _)))).mono ?_; rintro e w9 ⟨rfl, hb⟩; rw [hv]; replace hb := Below.trans (below_drew (Below.refl wr.heap.size wr)) (hb.mono (Nat.le_refl _)))
          all_goals go_wp2
          all_goals go_roundw
          all_goals first
           | (case rel => exact ⟨2, by simp, by omega, ⟨HU.out.trans hv⟩, ⟨HB.out.trans (hb.mono HB.out.size)⟩⟩)
           | (case measure => simp [intOf]; omega)
           | (case measure => simp [intOf])
      · cases hv : fitP ms 2 a.2.2 b.2.2
        · go_wp2
          go_still_tail 8, (by kernel_rfl)
          change wpList _ _ _ _ _ (World.drew wr)
          go_wp2_with (go_at_call 53; refine (fit_calls A0 n0 c0 A1 n1 c1 A2 n2 c2 A3 c3 ms p q 2 _ _ _ (Kd.C_below HC2.out (below_drew (Below.refl _ _)))).mono ?_; rintro e w9 ⟨rfl, hb⟩; rw [hv]; replace hb := Below.trans (below_drew (Below.refl wr.heap.size wr)) (hb.mono (Nat.le_refl _)))
          all_goals go_wp2
          all_goals go_ret
          all_goals refine ⟨?_, HB2.out.trans (hb.mono HB2.out.size)⟩
          all_goals
           have e := HU.out
           rw [show fitP ms ((2 : Nat) : Int) (at3 a 2) (at3 b 2) = false from hv] at e
           have e2 := upN_false ms a b (lv.toNat - 3) 3 e
           rw [show 3 + (lv.toNat - 3) = lv.toNat by omega] at e2
           rw [HV.out, e2]; rfl
        · go_wp2
          go_still_tail 8, (by kernel_rfl)
          change wpList _ _ _ _ _ (World.drew wr)
          go_wp2_with (go_at_call 53; refine (fit_calls A0 n0 c0 A1 n1 c1 A2 n2 c2 A3 c3 ms p q 2 _ _ _ (Kd.C_below HC2.out (below_drew (Below.refl _ _)))).mono ?_; rintro e w9 ⟨rfl, hb⟩; rw [hv]; replace hb := Below.trans (below_drew (Below.refl wr.heap.size wr)) (hb.mono (Nat.le_refl _)))
          all_goals go_wp2
          all_goals go_roundw
          all_goals first
           | (case rel => exact ⟨3, by simp, by omega, ⟨HU.out.trans hv⟩, ⟨HB.out.trans (hb.mono HB.out.size)⟩⟩)
           | (case measure => simp [intOf]; omega)
           | (case measure => simp [intOf])
    · have d1 : decide ((i : Int) < lv) = false := decide_eq_false hlt
      have e : i = lv.toNat := by omega
      have E := HN.out
      rw [e] at E
      rw [← HV.out] at E
      have HE := Aside0.mk E
      clear E
      go_wp2
      go_ret
      exact ⟨by rw [HE.out]; rfl, B0.trans (HB.out.mono B0.size)⟩
 · have h3 : lv ≤ 3 := by assumption
   have h4 : lv ≤ 0 := by assumption
   have hv : fitsP ms a b lv = upN ms a b 0 := by unfold fitsP; congr 1; omega
   have HV := Aside0.mk hv
   clear hv
   rw [← HW.out]
   go_loopw [13] (fun vi wr => ∃ i : Nat, vi = .int .i64 (i : Int) ∧ i ≤ 0 ∧ Aside0 (upN ms a b i = true) ∧ Aside0 (Below W0.heap.size W0 wr)) (fun vi _ => 0 - (intOf vi).toNat)
   case atStart => exact ⟨0, rfl, Nat.zero_le _, ⟨rfl⟩, ⟨Below.refl _ _⟩⟩
   case round =>
    obtain ⟨i, rfl, hi, HN, HB⟩ := hrel
    by_cases hlt : (i : Int) < 0
    · have d1 : decide ((i : Int) < 0) = true := decide_eq_true hlt
      have B2 : Below w.heap.size w wr := B0.trans (HB.out.mono B0.size)
      have HC2 := Aside0.mk (Kd.C_below HC.out B2)
      have k0 := (HB.out.block _ (by omega)).trans b0
      have k1 := (HB.out.block _ (by omega)).trans b1
      have k2 := (HB.out.block _ (by omega)).trans b2
      have z0 := cell_of_blk k0
      have z1 := cell_of_blk k1
      have z2 := cell_of_blk k2
      have HB2 := Aside0.mk B2
      have q0 := z0 0
      have q1 := z0 1
      have q2 := z0 2
      have q3 := z0 3
      have q4 := z0 4
      have q5 := z0 5
      have r0 := z1 0
      have r1 := z1 1
      have r2 := z1 2
      have s0 := z2 0
      have s1 := z2 1
      have s2 := z2 2
      simp only [List.getElem?_toArray, List.getElem?_cons_zero, List.getElem?_cons_succ] at q0 q1 q2 q3 q4 q5 r0 r1 r2 s0 s1 s2
      have sw : w.heap.size + 1 + 1 < wr.heap.size := by have := HB.out.size; omega
      have U := upN_succ ms a b i
      rw [HN.out, Bool.true_and] at U
      have HU := Aside0.mk U
      clear k0 k1 k2 z0 z1 z2 B2 U b0 b1 b2
      omega
    · have d1 : decide ((i : Int) < 0) = false := decide_eq_false hlt
      have e : i = 0 := by omega
      have E := HN.out
      rw [e] at E
      rw [← HV.out] at E
      have HE := Aside0.mk E
      clear E
      go_wp2
      go_ret
      exact ⟨by rw [HE.out]; rfl, B0.trans (HB.out.mono B0.size)⟩
end Go.Proofs.Ytdjbanhoejegjaa.LikW
