/- distance.Cost's closure, walked. -/
import Derived.Test.YtdjbanhoejegjaaDqDistFits
namespace Go.Proofs.Ytdjbanhoejegjaa.LikW
open Go.RowKit Go.Proofs.YtdjbanhoejegjaaW.PrintWords Go.Proofs.YtdjbanhoejegjaaW.PrintLast Go.Proofs.Ytdjbanhoejegjaa.P
set_option linter.unusedVariables false
set_option linter.unusedSimpArgs false

def k3 (s : S30) : K3 := (s.f0, s.f1, s.f2)
def ruleV (x : S53) : Value := .agg #[.int .i64 x.f0, .int .i64 x.f1, .bool x.f2, .string x.f3.f0, .string x.f3.f1, .string x.f3.f2, .string x.f4.f0, .string x.f4.f1, .string x.f4.f2]
def bothP (ms : List S69) (x : S53) (a b : K3) (lv : Int) : Bool := fitsP ms (k3 x.f3) a lv && fitsP ms (k3 x.f4) b lv
set_option maxRecDepth 100000 in
set_option maxHeartbeats 4000000 in
theorem both_calls (bi bl : Nat) (A0 : Option Addr) (n0 c0 : Nat) (A1 : Option Addr) (n1 c1 : Nat) (A2 : Option Addr) (n2 c2 : Nat) (A3 : Option Addr) (c3 : Nat) (ms : List S69) (p q : Int) (x : S53) (a b : K3) (lv : Int) (w : World) (hC : Kd.C k69 w A3 ms.length ms)
    (hi : w.heap[bi]? = some (.cells #[.slice A0 n0 c0, .slice A1 n1 c1, .slice A2 n2 c2, .slice A3 ms.length c3, .int .i64 p, .int .i64 q] 39 (0, 0))) (hl : w.heap[bl]? = some (.cells #[.int .i64 lv] 3 (0, 0))) :
    Calls Try.prog 39 #[ruleV x, .agg #[.string a.1, .string a.2.1, .string a.2.2], .agg #[.string b.1, .string b.2.1, .string b.2.2], .pointer (some ⟨bi, 0, none⟩), .pointer (some ⟨bl, 0, none⟩)] w fun e w' => e = .returned (.bool (bothP ms x a b lv)) ∧ Below w.heap.size w w' := by
  have hu39 := Try.underlying39
  have hu30 := Try.underlying30
  have hu53 := Try.underlying53
  have z0 := cell_of_blk hi
  have q0 := z0 0
  have q1 := z0 1
  have q2 := z0 2
  have q3 := z0 3
  have q4 := z0 4
  have q5 := z0 5
  have r0 := cell_of_blk hl 0
  simp only [List.getElem?_toArray, List.getElem?_cons_zero, List.getElem?_cons_succ] at q0 q1 q2 q3 q4 q5 r0
  have si : bi < w.heap.size := (Array.getElem?_eq_some_iff.1 hi).1
  have sl : bl < w.heap.size := (Array.getElem?_eq_some_iff.1 hl).1
  have m0 : bi ≠ w.heap.size := by omega
  have m1 : bi ≠ w.heap.size + 1 := by omega
  have m2 : bi ≠ w.heap.size + 1 + 1 := by omega
  have m3 : bl ≠ w.heap.size := by omega
  have m4 : bl ≠ w.heap.size + 1 := by omega
  have m5 : bl ≠ w.heap.size + 1 + 1 := by omega
  have u0 : bi < w.heap.size + 1 := by omega
  have u1 : bi < w.heap.size + 1 + 1 := by omega
  have u2 : bl < w.heap.size + 1 := by omega
  have u3 : bl < w.heap.size + 1 + 1 := by omega
  have HC := Aside0.mk hC
  obtain ⟨W0, hW0⟩ : ∃ W0, W0 = ((w.alloc (.cells #[.int .i64 x.f0, .int .i64 x.f1, .bool x.f2, .string x.f3.f0, .string x.f3.f1, .string x.f3.f2, .string x.f4.f0, .string x.f4.f1, .string x.f4.f2] 53)).alloc (.cells #[.string a.1, .string a.2.1, .string a.2.2] 30)).alloc (.cells #[.string b.1, .string b.2.1, .string b.2.2] 30) := ⟨_, rfl⟩
  have B0 : Below w.heap.size w W0 := by rw [hW0]; exact below_alloc (below_alloc (below_alloc (Below.refl _ _) _) _) _
  have sz0 : W0.heap.size = w.heap.size + 3 := by rw [hW0]; simp
  have hi0 := (B0.block bi si).trans hi
  have hl0 := (B0.block bl sl).trans hl
  have h5 : W0.heap[w.heap.size]? = some (.cells #[.int .i64 x.f0, .int .i64 x.f1, .bool x.f2, .string x.f3.f0, .string x.f3.f1, .string x.f3.f2, .string x.f4.f0, .string x.f4.f1, .string x.f4.f2] 53 (0, 0)) := by rw [hW0]; exact ((below_alloc (below_alloc (Below.refl _ _) _) _).block _ (by simp)).trans (World.alloc_heap_new w _)
  have h7 : W0.heap[w.heap.size + 1 + 1]? = some (.cells #[.string b.1, .string b.2.1, .string b.2.2] 30 (0, 0)) := by
    have := World.alloc_heap_new ((w.alloc (.cells #[.int .i64 x.f0, .int .i64 x.f1, .bool x.f2, .string x.f3.f0, .string x.f3.f1, .string x.f3.f2, .string x.f4.f0, .string x.f4.f1, .string x.f4.f2] 53)).alloc (.cells #[.string a.1, .string a.2.1, .string a.2.2] 30)) (.cells #[.string b.1, .string b.2.1, .string b.2.2] 30)
    rw [World.size_alloc, World.size_alloc] at this
    rw [hW0]; exact this
  have HW := Aside0.mk hW0
  have I0 := Aside0.mk hi0
  have L0 := Aside0.mk hl0
  have H5 := Aside0.mk h5
  have H7 := Aside0.mk h7
  have HB0 := Aside0.mk B0
  clear hC z0 hi hl hW0 hi0 hl0 h5 h7 B0
  unfold ruleV
  go_enter Try.func39, Try.ntmps39
  cases hv : fitsP ms (k3 x.f3) a lv
  · have hb0 : bothP ms x a b lv = false := by unfold bothP; rw [hv]; rfl
    have HB := Aside0.mk hb0
    clear hb0
    go_wp2_with (go_at_call 40; refine (fits_calls A0 n0 c0 A1 n1 c1 A2 n2 c2 A3 c3 ms p q (k3 x.f3) a lv _ (Kd.C_below HC.out (by repeat (first | exact Below.refl _ _ | apply below_alloc)))).mono ?_; rintro e w1 ⟨rfl, hb⟩; rw [hv]; replace hb := Below.trans (show Below w.heap.size w _ by repeat (first | exact Below.refl _ _ | apply below_alloc)) (hb.mono (by simp; omega)))
    go_ret
    exact ⟨by rw [HB.out]; rfl, hb⟩
  · have hb0 : bothP ms x a b lv = fitsP ms (k3 x.f4) b lv := by unfold bothP; rw [hv]; rfl
    have HB := Aside0.mk hb0
    clear hb0
    go_wp2_with (first | (go_at_call 40; rw [← HW.out]; refine (fits_calls A0 n0 c0 A1 n1 c1 A2 n2 c2 A3 c3 ms p q (k3 x.f3) a lv W0 (Kd.C_below HC.out HB0.out)).mono ?_; rintro e w1 ⟨rfl, hb⟩; rw [hv]; have s1 := hb.size; rw [sz0] at s1; have zi := cell_of_blk ((hb.block bi (by omega)).trans I0.out); have zl := cell_of_blk ((hb.block bl (by omega)).trans L0.out); have z5 := cell_of_blk ((hb.block w.heap.size (by omega)).trans H5.out); have z7 := cell_of_blk ((hb.block (w.heap.size + 1 + 1) (by omega)).trans H7.out); have y0 := zi 0; have y1 := zi 1; have y2 := zi 2; have y3 := zi 3; have y4 := zi 4; have y5 := zi 5; have v0 := zl 0; have x6 := z5 6; have x7 := z5 7; have x8 := z5 8; have u4 := z7 0; have u5 := z7 1; have u6 := z7 2; simp only [List.getElem?_toArray, List.getElem?_cons_zero, List.getElem?_cons_succ] at y0 y1 y2 y3 y4 y5 v0 x6 x7 x8 u4 u5 u6; clear zi zl z5 z7; have K1 := Aside0.mk hb; clear hb) | (go_at_call 40; refine (fits_calls A0 n0 c0 A1 n1 c1 A2 n2 c2 A3 c3 ms p q (k3 x.f4) b lv _ (Kd.C_below HC.out (HB0.out.trans (K1.out.mono HB0.out.size)))).mono ?_; rintro e w2 ⟨rfl, hb2⟩))
    go_ret
    exact ⟨by rw [HB.out]; rfl, (HB0.out.trans (K1.out.mono HB0.out.size)).trans (hb2.mono (by omega))⟩
end Go.Proofs.Ytdjbanhoejegjaa.LikW
