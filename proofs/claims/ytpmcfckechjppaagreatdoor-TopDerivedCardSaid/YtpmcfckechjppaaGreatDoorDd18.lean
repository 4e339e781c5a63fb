/- Made by a program of this seat's own (shake.py, merge.py): what the claim leans on: Min, Minimize, Table, Near, Best, Tool. -/
import Derived.Test.YtpmcfckechjppaaGreatDoorDd11
import Derived.Test.YtpmcfckechjppaaGreatDoorDd17
import Derived.LoopN
import Derived.LoopNIn
import Derived.Laws.EntriesVeiled
set_option linter.unusedVariables false
set_option linter.unusedSimpArgs false
set_option maxRecDepth 100000
set_option maxHeartbeats 8000000
namespace Go.Proofs.YtpmcfckechjppaaGreatDoor.Ps
open Go.RowKit Go.Shelf Go.Proofs.YtpmcfckechjppaaGreatDoorW.PrintWords Go.Proofs.YtpmcfckechjppaaGreatDoorW.PrintLast Go.Proofs.YtpmcfckechjppaaGreatDoorW.PrintMore Go.Proofs.YtpmcfckechjppaaGreatDoor.P Go.Proofs.YtpmcfckechjppaaGreatDoor.LikW
attribute [local go_sem] Oper.semAt_some
theorem v4n (x y z : ByteArray) (w : World) : Calls Tryz.prog 218 #[T3 x y z, .int .i64 3] w fun e w' => e = .returned (T3 x ⟨#[]⟩ ⟨#[]⟩) ∧ Below w.heap.size w w' := by
 have hut := Tryz.underlying33
 obtain ⟨W1, hW1⟩ : ∃ W1, W1 = (w.alloc (.cells (T3c x y z) 33)).alloc (.cells (T3c ⟨#[]⟩ ⟨#[]⟩ ⟨#[]⟩) 33) := ⟨_, rfl⟩
 have T1 : q0c (W1.heap[w.heap.size]? = some (.cells (T3c x y z) 33 (0, 0))) := ⟨by rw [hW1]; exact aN (aZ rfl)⟩
 have Z1 : q0c (W1.heap[w.heap.size + 1]? = some (.cells (T3c ⟨#[]⟩ ⟨#[]⟩ ⟨#[]⟩) 33 (0, 0))) := ⟨by rw [hW1]; exact aZ (by simp)⟩
 have B1 : q0c (Below w.heap.size w W1) := ⟨by rw [hW1]; exact q0b (q0b (Below.refl _ _) _) _⟩
 unfold T3c at hW1
 have HW := aq hW1.symm
 clear hW1
 obtain ⟨W2, hW2⟩ : ∃ W2, W2 = (W1.setCell ⟨w.heap.size, 3, none⟩ (.string ⟨#[]⟩)).setCell ⟨w.heap.size, 2, none⟩ (.string ⟨#[]⟩) := ⟨_, rfl⟩
 have T2 : q0c (W2.heap[w.heap.size]? = some (.cells (T3c x ⟨#[]⟩ ⟨#[]⟩) 33 (0, 0))) := ⟨by rw [hW2]; exact q0l (q0l T1.out 3 (.string ⟨#[]⟩) rfl) 2 (.string ⟨#[]⟩) rfl⟩
 have Z2 : q0c (W2.heap[w.heap.size + 1]? = some (.cells (T3c ⟨#[]⟩ ⟨#[]⟩ ⟨#[]⟩) 33 (0, 0))) := ⟨by rw [hW2]; repeat (first | exact Z1.out | refine q1e ?_ (by simp) _)⟩
 have B2 : q0c (Below w.heap.size w W2) := ⟨by rw [hW2]; repeat (first | exact B1.out | refine q1y ?_ (Nat.le_refl _))⟩
 have HW2 := aq hW2.symm
 clear hW2
 obtain ⟨y0, y1, y2, y3, y4, y5, y6, y7⟩ := q5u T1.out
 obtain ⟨g0, g1, g2, g3, g4, g5, g6, g7⟩ := v0x T1.out
 obtain ⟨z0, z1, z2, z3, z4, z5, z6, z7⟩ := q5u T2.out
 obtain ⟨v0, v1, v2, v3, v4, v5, v6, v7⟩ := q5u Z2.out
 obtain ⟨f0, f1, f2, f3, f4, f5, f6, f7⟩ := v0x Z2.out
 unfold T3
 go_enter Tryz.func218, Tryz.ntmps218
 go_wp2_with (first | (rw [HW.out]) | (rw [HW2.out]))
 rw [q3q]
 obtain ⟨x0, x1, x2, x3, x4, x5, x6, x7⟩ := q5u (q5y Z2.out x ⟨#[]⟩ ⟨#[]⟩)
 refine bodyPost_ret (v := .agg #[.string x, .slice none 0 0, .string ⟨#[]⟩, .string ⟨#[]⟩, .slice none 0 0, .slice none 0 0, .slice none 0 0, .string ⟨#[]⟩]) ?_ rfl ⟨rfl, q2k B2.out (by omega) _ _ _⟩
 simp [results, Tryz.results218, asAddr, x0, x1, x2, x3, x4, x5, x6, x7, hut, go_sem]
theorem v6e (x y z : ByteArray) (w : World) : Calls Tryz.prog 218 #[T3 x y z, .int .i64 1] w fun e w' => e = .returned (T3 x ⟨#[]⟩ z) ∧ Below w.heap.size w w' := by
 have hut := Tryz.underlying33
 obtain ⟨W1, hW1⟩ : ∃ W1, W1 = (w.alloc (.cells (T3c x y z) 33)).alloc (.cells (T3c ⟨#[]⟩ ⟨#[]⟩ ⟨#[]⟩) 33) := ⟨_, rfl⟩
 have T1 : q0c (W1.heap[w.heap.size]? = some (.cells (T3c x y z) 33 (0, 0))) := ⟨by rw [hW1]; exact aN (aZ rfl)⟩
 have Z1 : q0c (W1.heap[w.heap.size + 1]? = some (.cells (T3c ⟨#[]⟩ ⟨#[]⟩ ⟨#[]⟩) 33 (0, 0))) := ⟨by rw [hW1]; exact aZ (by simp)⟩
 have B1 : q0c (Below w.heap.size w W1) := ⟨by rw [hW1]; exact q0b (q0b (Below.refl _ _) _) _⟩
 unfold T3c at hW1
 have HW := aq hW1.symm
 clear hW1
 obtain ⟨W2, hW2⟩ : ∃ W2, W2 = W1.setCell ⟨w.heap.size, 2, none⟩ (.string ⟨#[]⟩) := ⟨_, rfl⟩
 have T2 : q0c (W2.heap[w.heap.size]? = some (.cells (T3c x ⟨#[]⟩ z) 33 (0, 0))) := ⟨by rw [hW2]; exact q0l T1.out 2 (.string ⟨#[]⟩) rfl⟩
 have Z2 : q0c (W2.heap[w.heap.size + 1]? = some (.cells (T3c ⟨#[]⟩ ⟨#[]⟩ ⟨#[]⟩) 33 (0, 0))) := ⟨by rw [hW2]; repeat (first | exact Z1.out | refine q1e ?_ (by simp) _)⟩
 have B2 : q0c (Below w.heap.size w W2) := ⟨by rw [hW2]; repeat (first | exact B1.out | refine q1y ?_ (Nat.le_refl _))⟩
 have HW2 := aq hW2.symm
 clear hW2
 obtain ⟨y0, y1, y2, y3, y4, y5, y6, y7⟩ := q5u T1.out
 obtain ⟨g0, g1, g2, g3, g4, g5, g6, g7⟩ := v0x T1.out
 obtain ⟨z0, z1, z2, z3, z4, z5, z6, z7⟩ := q5u T2.out
 obtain ⟨v0, v1, v2, v3, v4, v5, v6, v7⟩ := q5u Z2.out
 obtain ⟨f0, f1, f2, f3, f4, f5, f6, f7⟩ := v0x Z2.out
 unfold T3
 go_enter Tryz.func218, Tryz.ntmps218
 go_wp2_with (first | (rw [HW.out]) | (rw [HW2.out]))
 rw [q3q]
 obtain ⟨x0, x1, x2, x3, x4, x5, x6, x7⟩ := q5u (q5y Z2.out x ⟨#[]⟩ z)
 refine bodyPost_ret (v := .agg #[.string x, .slice none 0 0, .string ⟨#[]⟩, .string z, .slice none 0 0, .slice none 0 0, .slice none 0 0, .string ⟨#[]⟩]) ?_ rfl ⟨rfl, q2k B2.out (by omega) _ _ _⟩
 simp [results, Tryz.results218, asAddr, x0, x1, x2, x3, x4, x5, x6, x7, hut, go_sem]
theorem v5x (x y z : ByteArray) (w : World) : Calls Tryz.prog 218 #[T3 x y z, .int .i64 2] w fun e w' => e = .returned (T3 x y ⟨#[]⟩) ∧ Below w.heap.size w w' := by
 have hut := Tryz.underlying33
 obtain ⟨W1, hW1⟩ : ∃ W1, W1 = (w.alloc (.cells (T3c x y z) 33)).alloc (.cells (T3c ⟨#[]⟩ ⟨#[]⟩ ⟨#[]⟩) 33) := ⟨_, rfl⟩
 have T1 : q0c (W1.heap[w.heap.size]? = some (.cells (T3c x y z) 33 (0, 0))) := ⟨by rw [hW1]; exact aN (aZ rfl)⟩
 have Z1 : q0c (W1.heap[w.heap.size + 1]? = some (.cells (T3c ⟨#[]⟩ ⟨#[]⟩ ⟨#[]⟩) 33 (0, 0))) := ⟨by rw [hW1]; exact aZ (by simp)⟩
 have B1 : q0c (Below w.heap.size w W1) := ⟨by rw [hW1]; exact q0b (q0b (Below.refl _ _) _) _⟩
 unfold T3c at hW1
 have HW := aq hW1.symm
 clear hW1
 obtain ⟨W2, hW2⟩ : ∃ W2, W2 = W1.setCell ⟨w.heap.size, 3, none⟩ (.string ⟨#[]⟩) := ⟨_, rfl⟩
 have T2 : q0c (W2.heap[w.heap.size]? = some (.cells (T3c x y ⟨#[]⟩) 33 (0, 0))) := ⟨by rw [hW2]; exact q0l T1.out 3 (.string ⟨#[]⟩) rfl⟩
 have Z2 : q0c (W2.heap[w.heap.size + 1]? = some (.cells (T3c ⟨#[]⟩ ⟨#[]⟩ ⟨#[]⟩) 33 (0, 0))) := ⟨by rw [hW2]; repeat (first | exact Z1.out | refine q1e ?_ (by simp) _)⟩
 have B2 : q0c (Below w.heap.size w W2) := ⟨by rw [hW2]; repeat (first | exact B1.out | refine q1y ?_ (Nat.le_refl _))⟩
 have HW2 := aq hW2.symm
 clear hW2
 obtain ⟨y0, y1, y2, y3, y4, y5, y6, y7⟩ := q5u T1.out
 obtain ⟨g0, g1, g2, g3, g4, g5, g6, g7⟩ := v0x T1.out
 obtain ⟨z0, z1, z2, z3, z4, z5, z6, z7⟩ := q5u T2.out
 obtain ⟨v0, v1, v2, v3, v4, v5, v6, v7⟩ := q5u Z2.out
 obtain ⟨f0, f1, f2, f3, f4, f5, f6, f7⟩ := v0x Z2.out
 unfold T3
 go_enter Tryz.func218, Tryz.ntmps218
 go_wp2_with (first | (rw [HW.out]) | (rw [HW2.out]))
 rw [q3q]
 obtain ⟨x0, x1, x2, x3, x4, x5, x6, x7⟩ := q5u (q5y Z2.out x y ⟨#[]⟩)
 refine bodyPost_ret (v := .agg #[.string x, .slice none 0 0, .string y, .string ⟨#[]⟩, .slice none 0 0, .slice none 0 0, .slice none 0 0, .string ⟨#[]⟩]) ?_ rfl ⟨rfl, q2k B2.out (by omega) _ _ _⟩
 simp [results, Tryz.results218, asAddr, x0, x1, x2, x3, x4, x5, x6, x7, hut, go_sem]
theorem v5y (x y z : ByteArray) (w : World) : Calls Tryz.prog 218 #[T3 x y z, .int .i64 0] w fun e w' => e = .returned (T3 x y z) ∧ Below w.heap.size w w' := by
 have hut := Tryz.underlying33
 obtain ⟨W1, hW1⟩ : ∃ W1, W1 = (w.alloc (.cells (T3c x y z) 33)).alloc (.cells (T3c ⟨#[]⟩ ⟨#[]⟩ ⟨#[]⟩) 33) := ⟨_, rfl⟩
 have T1 : q0c (W1.heap[w.heap.size]? = some (.cells (T3c x y z) 33 (0, 0))) := ⟨by rw [hW1]; exact aN (aZ rfl)⟩
 have Z1 : q0c (W1.heap[w.heap.size + 1]? = some (.cells (T3c ⟨#[]⟩ ⟨#[]⟩ ⟨#[]⟩) 33 (0, 0))) := ⟨by rw [hW1]; exact aZ (by simp)⟩
 have B1 : q0c (Below w.heap.size w W1) := ⟨by rw [hW1]; exact q0b (q0b (Below.refl _ _) _) _⟩
 unfold T3c at hW1
 have HW := aq hW1.symm
 clear hW1
 obtain ⟨z0, z1, z2, z3, z4, z5, z6, z7⟩ := q5u T1.out
 obtain ⟨y0, y1, y2, y3, y4, y5, y6, y7⟩ := q5u Z1.out
 obtain ⟨f0, f1, f2, f3, f4, f5, f6, f7⟩ := v0x Z1.out
 unfold T3
 go_enter Tryz.func218, Tryz.ntmps218
 go_wp2_with (first | (rw [HW.out]))
 rw [q3q]
 obtain ⟨x0, x1, x2, x3, x4, x5, x6, x7⟩ := q5u (q5y Z1.out x y z)
 refine bodyPost_ret (v := .agg #[.string x, .slice none 0 0, .string y, .string z, .slice none 0 0, .slice none 0 0, .slice none 0 0, .string ⟨#[]⟩]) ?_ rfl ⟨rfl, q2k B1.out (by omega) _ _ _⟩
 simp [results, Tryz.results218, asAddr, x0, x1, x2, x3, x4, x5, x6, x7, hut, go_sem]
theorem k7m (B1 B2 B3 B4 : Nat) (x y z a b c : ByteArray) (ok : Bool) (hm : z0l q3x (x, y, z) = ((a, b, c), ok)) (w : World) (hC : Kd.C k66 w (some ⟨B2, 0, none⟩) q3x.length q3x) :
 Calls Tryz.prog 100 #[q6h B1 B2 B3 B4, T3 x y z] w fun e w' => e = .returned (.tuple #[T3 a b c, .bool ok]) ∧ Below w.heap.size w w' := by
 have h := v0e (some ⟨B1, 0, none⟩) 54 54 (some ⟨B2, 0, none⟩) 32 q3x (some ⟨B3, 0, none⟩) 15 15 (some ⟨B4, 0, none⟩) 7 7 40 5 x y z ⟨#[]⟩ none 0 0 none 0 0 none 0 0 none 0 0 w hC
 rw [z4g, hm] at h
 exact h
theorem k8g (B1 B2 B3 B4 : Nat) (x y z a b c fl fs fr : ByteArray) (ok : Bool) (hm : z0l q3x (x, y, z) = ((a, b, c), ok)) (w : World) (hC : Kd.C k66 w (some ⟨B2, 0, none⟩) q3x.length q3x) :
 Calls Tryz.prog 167 #[q6h B1 B2 B3 B4, T3 x y z, T3 fl fs fr] w fun e w' => e = .returned (.bool (ok && (a.toList == fl.toList && (b.toList == fs.toList && c.toList == fr.toList)))) ∧ Below w.heap.size w w' := by
 have hut := Tryz.underlying33
 have hui := Tryz.underlying51
 obtain ⟨W0, hW0⟩ : ∃ W0, W0 = (((w.alloc (.cells (q4k B1 B2 B3 B4) 51)).alloc (.cells (T3c x y z) 33)).alloc (.cells (T3c fl fs fr) 33)) := ⟨_, rfl⟩
 have F0 : q0c (W0.heap[w.heap.size + 1 + 1]? = some (.cells (T3c fl fs fr) 33 (0, 0))) := ⟨by rw [hW0]; exact aZ (by simp)⟩
 have L0 : q0c (W0.heap[w.heap.size + 1]? = some (.cells (T3c x y z) 33 (0, 0))) := ⟨by rw [hW0]; exact aN (aZ (by simp))⟩
 have I0 : q0c (W0.heap[w.heap.size]? = some (.cells (q4k B1 B2 B3 B4) 51 (0, 0))) := ⟨by rw [hW0]; exact aN (aN (aZ (by simp)))⟩
 have B0 : q0c (Below w.heap.size w W0) := ⟨by rw [hW0]; exact q0b (q0b (q0b (Below.refl _ _) _) _) _⟩
 obtain ⟨i0, i1, i2, i3, i4, i5⟩ := cz6 (show W0.heap[w.heap.size]? = some (.cells #[.slice (some ⟨B1, 0, none⟩) 54 54, .slice (some ⟨B2, 0, none⟩) 32 32, .slice (some ⟨B3, 0, none⟩) 15 15, .slice (some ⟨B4, 0, none⟩) 7 7, .int .i64 40, .int .i64 5] 51 (0, 0)) from I0.out)
 obtain ⟨z0, z1, z2, z3, z4, z5, z6, z7⟩ := q5u L0.out
 unfold q4k T3c at hW0
 have HW := aq hW0.symm
 have HM := aq hm
 have HC := aq hC
 clear hW0 hm hC
 unfold q6h T3
 cases ok with
 | false =>
  go_enter Tryz.func167, Tryz.ntmps167
  go_wp2_with (first
   | (rw [HW.out])
   | (go_at_call 100; refine (k7m B1 B2 B3 B4 x y z a b c _ HM.out _ (Kd.q0h HC.out B0.out)).mono ?_; rintro e w1 ⟨rfl, hB⟩; unfold T3; have F1 := kb F0 hB; have y0 : ∀ o, (w1.alloc o).cell? ⟨w.heap.size + 1 + 1, 0, none⟩ = some (.string fl) := fun o => (q0a (aN F1.out) 0).trans rfl; have y2 : ∀ o, (w1.alloc o).cell? ⟨w.heap.size + 1 + 1, 2, none⟩ = some (.string fs) := fun o => (q0a (aN F1.out) 2).trans rfl; have y3 : ∀ o, (w1.alloc o).cell? ⟨w.heap.size + 1 + 1, 3, none⟩ = some (.string fr) := fun o => (q0a (aN F1.out) 3).trans rfl))
  go_ret
  refine ⟨rfl, ?_⟩
  have h := B0.out.trans (hB.mono B0.out.size)
  repeat (first | exact h | refine q0b ?_ _ | refine q1y ?_ (by have := h.size; omega))
 | true =>
  cases h1 : (a.toList == fl.toList)
  case' true => cases h2 : (b.toList == fs.toList)
  case' true.true => cases h3 : (c.toList == fr.toList)
  all_goals
   go_enter Tryz.func167, Tryz.ntmps167
   go_wp2_with (first
    | (rw [HW.out])
    | (go_at_call 100; refine (k7m B1 B2 B3 B4 x y z a b c _ HM.out _ (Kd.q0h HC.out B0.out)).mono ?_; rintro e w1 ⟨rfl, hB⟩; unfold T3; have F1 := kb F0 hB; have y0 : ∀ o, (w1.alloc o).cell? ⟨w.heap.size + 1 + 1, 0, none⟩ = some (.string fl) := fun o => (q0a (aN F1.out) 0).trans rfl; have y2 : ∀ o, (w1.alloc o).cell? ⟨w.heap.size + 1 + 1, 2, none⟩ = some (.string fs) := fun o => (q0a (aN F1.out) 2).trans rfl; have y3 : ∀ o, (w1.alloc o).cell? ⟨w.heap.size + 1 + 1, 3, none⟩ = some (.string fr) := fun o => (q0a (aN F1.out) 3).trans rfl))
   go_ret
   refine ⟨rfl, ?_⟩
   have h := B0.out.trans (hB.mono B0.out.size)
   repeat (first | exact h | refine q0b ?_ _ | refine q1y ?_ (by have := h.size; omega))
def k8b (u : K3) : Array Value := #[T3 u.1 u.2.1 u.2.2]
def q5e (x y z : ByteArray) : List K3 := [(x, ⟨#[]⟩, ⟨#[]⟩), (x, ⟨#[]⟩, z), (x, y, ⟨#[]⟩), (x, y, z)]
theorem v5j (n : Nat) (hn : 1 ≤ n) (x y z : ByteArray) (pf ps L : Nat) (w0 : World) (hL : L < w0.heap.size) (hf : pf ≠ L) (h : w0.heap[pf]? = some (.cells (T3c x y z) 33 (0, 0))) (hs : w0.heap[ps]? = some (.cells #[.bool false] 4 (0, 0))) :
 z8l Fence.wide n Tryz.prog 217 #[.pointer (some ⟨ps, 0, none⟩), .pointer (some ⟨pf, 0, none⟩)] k8b (KC L) (q5e x y z) w0 := fun l J Jx W hW hJ hJx hY h0 => by
 have hut := Tryz.underlying33
 have hua := Tryz.underlying245
 have x0 : ∀ W : World, (Instr.index 245 (.agg #[.int .i64 3, .int .i64 1, .int .i64 2, .int .i64 0]) (.int .i64 0)).run Tryz.prog W = .ok (.int .i64 3) W := fun W => by kernel_rfl
 have x1 : ∀ W : World, (Instr.index 245 (.agg #[.int .i64 3, .int .i64 1, .int .i64 2, .int .i64 0]) (.int .i64 1)).run Tryz.prog W = .ok (.int .i64 1) W := fun W => by kernel_rfl
 have x2 : ∀ W : World, (Instr.index 245 (.agg #[.int .i64 3, .int .i64 1, .int .i64 2, .int .i64 0]) (.int .i64 2)).run Tryz.prog W = .ok (.int .i64 2) W := fun W => by kernel_rfl
 have x3 : ∀ W : World, (Instr.index 245 (.agg #[.int .i64 3, .int .i64 1, .int .i64 2, .int .i64 0]) (.int .i64 3)).run Tryz.prog W = .ok (.int .i64 0) W := fun W => by kernel_rfl
 have HF := aq ((hW.block _ (q0g h)).trans h)
 have s0 : ∀ o, (W.alloc o).cell? ⟨ps, 0, none⟩ = some (.bool false) := fun o => (q0a (aN ((hW.block _ (q0g hs)).trans hs)) 0).trans rfl
 have HY := aq hY
 have HJ := aq hJ
 have HLW := aq (Nat.lt_of_lt_of_le hL hW.size)
 have Hf := aq hf
 have J0 := aq (hJ.alloc (.cells #[.int .i64 3, .int .i64 1, .int .i64 2, .int .i64 0] 245) h0)
 have F0 : q0c ((W.alloc (.cells #[.int .i64 3, .int .i64 1, .int .i64 2, .int .i64 0] 245)).heap[pf]? = some (.cells (T3c x y z) 33 (0, 0))) := ⟨aN HF.out⟩
 have b0 : W.heap.size ≤ (W.alloc (.cells #[.int .i64 3, .int .i64 1, .int .i64 2, .int .i64 0] 245)).heap.size := by simp
 clear hY hJ hJx h hs hL hf h0 hW
 refine callsIn_of_wp Tryz.func217 rfl trivial ?_ rfl
 simp only [Tryz.ntmps217, List.size_toArray, List.length_cons, List.length_nil, Nat.reduceAdd, Nat.reduceSub, Array.replicate_succ, Array.replicate_zero, List.push_toArray, List.append_toArray, List.nil_append, List.cons_append]
 gi_wp2_with (fail)
 obtain ⟨W0, hW0⟩ : ∃ W0, W.alloc (.cells #[.int .i64 3, .int .i64 1, .int .i64 2, .int .i64 0] 245) = W0 := ⟨_, rfl⟩
 rw [hW0] at J0 F0 b0 ⊢
 have b_0 := aq b0
 clear hW0 b0 s0
 refine wpIn_loop_rounds 5 ?_
 rw [roundsIn_succ]
 obtain ⟨z0, z1, z2, z3, z4, z5, z6, z7⟩ := q5u F0.out
 gi_wp2_with (first
  | (refine ⟨trivial, callsIn_wide.2 (Calls.mono (v4n x y z _) ?_)⟩; rintro e v0 ⟨rfl, hB⟩; have B0 := aq hB; obtain ⟨fn, tmps, assign, body, hy, hR⟩ := HY.out [] (x, ⟨#[]⟩, ⟨#[]⟩) v0 (HJ.out.below J0.out hB) (by unfold q5e; simp); simp only [k8b] at hy; have HR := aq hR; clear hR hB))
 refine HR.out.mono ?_
 have hb0 := Nat.le_trans b_0.out B0.out.size
 have hk0 := (B0.out.block _ (q0g F0.out)).trans F0.out
 clear hy HR z0 z1 z2 z3 z4 z5 z6 z7
 rintro e W1 (⟨rfl, hJ, hk⟩ | ⟨rfl, hJ⟩)
 case inr =>
  have HJx := aq hJ
  clear hJ hb0 hk0
  gi_wp2_with (fail)
  refine bodyPost_ret (results_none rfl _ _ _) rfl ?_
  exact ⟨⟨_, rfl⟩, .inr ⟨_, by unfold q5e; simp, HJx.out⟩⟩
 have J1 := aq hJ
 have F1 := aq (hk.same _ _ Hf.out hk0 rfl)
 have b_1 := aq (Nat.le_trans hb0 hk.size)
 clear hJ hk hb0 hk0 F0 J0 b_0 B0
 gi_wp2_with (fail)
 rw [roundsIn_succ]
 obtain ⟨z0, z1, z2, z3, z4, z5, z6, z7⟩ := q5u F1.out
 gi_wp2_with (first
  | (refine ⟨trivial, callsIn_wide.2 (Calls.mono (v6e x y z _) ?_)⟩; rintro e v1 ⟨rfl, hB⟩; have B1 := aq hB; obtain ⟨fn, tmps, assign, body, hy, hR⟩ := HY.out [(x, ⟨#[]⟩, ⟨#[]⟩)] (x, ⟨#[]⟩, z) v1 (HJ.out.below J1.out hB) (by unfold q5e; simp); simp only [k8b] at hy; have HR := aq hR; clear hR hB))
 refine HR.out.mono ?_
 have hb1 := Nat.le_trans b_1.out B1.out.size
 have hk1 := (B1.out.block _ (q0g F1.out)).trans F1.out
 clear hy HR z0 z1 z2 z3 z4 z5 z6 z7
 rintro e W2 (⟨rfl, hJ, hk⟩ | ⟨rfl, hJ⟩)
 case inr =>
  have HJx := aq hJ
  clear hJ hb1 hk1
  gi_wp2_with (fail)
  refine bodyPost_ret (results_none rfl _ _ _) rfl ?_
  exact ⟨⟨_, rfl⟩, .inr ⟨_, by unfold q5e; simp, HJx.out⟩⟩
 have J2 := aq hJ
 have F2 := aq (hk.same _ _ Hf.out hk1 rfl)
 have b_2 := aq (Nat.le_trans hb1 hk.size)
 clear hJ hk hb1 hk1 F1 J1 b_1 B1
 gi_wp2_with (fail)
 rw [roundsIn_succ]
 obtain ⟨z0, z1, z2, z3, z4, z5, z6, z7⟩ := q5u F2.out
 gi_wp2_with (first
  | (refine ⟨trivial, callsIn_wide.2 (Calls.mono (v5x x y z _) ?_)⟩; rintro e v2 ⟨rfl, hB⟩; have B2 := aq hB; obtain ⟨fn, tmps, assign, body, hy, hR⟩ := HY.out [(x, ⟨#[]⟩, ⟨#[]⟩), (x, ⟨#[]⟩, z)] (x, y, ⟨#[]⟩) v2 (HJ.out.below J2.out hB) (by unfold q5e; simp); simp only [k8b] at hy; have HR := aq hR; clear hR hB))
 refine HR.out.mono ?_
 have hb2 := Nat.le_trans b_2.out B2.out.size
 have hk2 := (B2.out.block _ (q0g F2.out)).trans F2.out
 clear hy HR z0 z1 z2 z3 z4 z5 z6 z7
 rintro e W3 (⟨rfl, hJ, hk⟩ | ⟨rfl, hJ⟩)
 case inr =>
  have HJx := aq hJ
  clear hJ hb2 hk2
  gi_wp2_with (fail)
  refine bodyPost_ret (results_none rfl _ _ _) rfl ?_
  exact ⟨⟨_, rfl⟩, .inr ⟨_, by unfold q5e; simp, HJx.out⟩⟩
 have J3 := aq hJ
 have F3 := aq (hk.same _ _ Hf.out hk2 rfl)
 have b_3 := aq (Nat.le_trans hb2 hk.size)
 clear hJ hk hb2 hk2 F2 J2 b_2 B2
 gi_wp2_with (fail)
 rw [roundsIn_succ]
 obtain ⟨z0, z1, z2, z3, z4, z5, z6, z7⟩ := q5u F3.out
 gi_wp2_with (first
  | (refine ⟨trivial, callsIn_wide.2 (Calls.mono (v5y x y z _) ?_)⟩; rintro e v3 ⟨rfl, hB⟩; have B3 := aq hB; obtain ⟨fn, tmps, assign, body, hy, hR⟩ := HY.out [(x, ⟨#[]⟩, ⟨#[]⟩), (x, ⟨#[]⟩, z), (x, y, ⟨#[]⟩)] (x, y, z) v3 (HJ.out.below J3.out hB) (by unfold q5e; simp); simp only [k8b] at hy; have HR := aq hR; clear hR hB))
 refine HR.out.mono ?_
 have hb3 := Nat.le_trans b_3.out B3.out.size
 have hk3 := (B3.out.block _ (q0g F3.out)).trans F3.out
 clear hy HR z0 z1 z2 z3 z4 z5 z6 z7
 rintro e W4 (⟨rfl, hJ, hk⟩ | ⟨rfl, hJ⟩)
 case inr =>
  have HJx := aq hJ
  clear hJ hb3 hk3
  gi_wp2_with (fail)
  refine bodyPost_ret (results_none rfl _ _ _) rfl ?_
  exact ⟨⟨_, rfl⟩, .inr ⟨_, by unfold q5e; simp, HJx.out⟩⟩
 have J4 := aq hJ
 have F4 := aq (hk.same _ _ Hf.out hk3 rfl)
 have b_4 := aq (Nat.le_trans hb3 hk.size)
 clear hJ hk hb3 hk3 F3 J3 b_3 B3
 gi_wp2_with (fail)
 rw [roundsIn_succ]
 gi_wp2_with (fail)
 go_end0
 exact ⟨⟨_, rfl⟩, .inl J4.out⟩
theorem k2n (n : Nat) (x y z : ByteArray) (b : Bool) (w : World) : CallsIn Fence.wide n Tryz.prog 168 #[T3 x y z, .bool b] w fun e w' =>
 e = .returned (.func (.func 217) #[] #[.pointer (some ⟨w.heap.size + 1, 0, none⟩), .pointer (some ⟨w.heap.size, 0, none⟩)]) ∧ w' = (w.alloc (.cells (T3c x y z) 33)).alloc (.cells #[.bool b] 4) := by
 have hmf : ∀ (fn : Fn) (first cap : Array Value) (w : World), (Instr.makeFunc fn first cap).run Tryz.prog w = .ok (.func fn first cap) w := fun _ _ _ _ => rfl
 have hut := Tryz.underlying33
 unfold T3 T3c
 refine callsIn_of_wp Tryz.func168 rfl trivial ?_ rfl
 simp only [Tryz.ntmps168, List.size_toArray, List.length_cons, List.length_nil, Nat.reduceAdd, Nat.reduceSub, Array.replicate_succ, Array.replicate_zero, List.push_toArray, List.append_toArray, List.nil_append, List.cons_append]
 gi_wp2
 go_ret
 exact ⟨rfl, rfl⟩
theorem v0w {α : Type} {p : α → Bool} {pre L : List α} {u : α} (h : pre ++ [u] <+: L) (hp : ∀ v ∈ pre, p v = false) (hu : p u = true) : L.find? p = some u := by
 obtain ⟨t, rfl⟩ := h
 have h0 : pre.find? p = none := List.find?_eq_none.2 fun v hv => by rw [hp v hv]; decide
 simp [List.find?_append, h0, hu]
def k7x (f u : K3) : Bool := (z0l q3x u).2 && ((z0l q3x u).1.1.toList == f.1.toList && ((z0l q3x u).1.2.1.toList == f.2.1.toList && (z0l q3x u).1.2.2.toList == f.2.2.toList))
theorem k6d (n : Nat) (B1 B2 B3 B4 : Nat) (f u : K3) (pi pf : Nat) (w : World) (hC : Kd.C k66 w (some ⟨B2, 0, none⟩) q3x.length q3x) (hi : w.heap[pi]? = some (.cells (q4k B1 B2 B3 B4) 51 (0, 0))) (hf : w.heap[pf]? = some (.cells (T3c f.1 f.2.1 f.2.2) 33 (0, 0))) :
 Calls Tryz.prog 166 #[T3 u.1 u.2.1 u.2.2, .pointer (some ⟨pi, 0, none⟩), .pointer (some ⟨pf, 0, none⟩)] w fun e w' => e = .returned (.bool (k7x f u)) ∧ Below w.heap.size w w' := by
 have hut := Tryz.underlying33
 have hui := Tryz.underlying51
 obtain ⟨W0, hW0⟩ : ∃ W0, W0 = w.alloc (.cells (T3c u.1 u.2.1 u.2.2) 33) := ⟨_, rfl⟩
 have b0 : Below w.heap.size w W0 := by rw [hW0]; exact q0b (Below.refl _ _) _
 have U0 : W0.heap[w.heap.size]? = some (.cells (T3c u.1 u.2.1 u.2.2) 33 (0, 0)) := by rw [hW0]; exact aZ rfl
 have F0 : W0.heap[pf]? = some (.cells (T3c f.1 f.2.1 f.2.2) 33 (0, 0)) := by rw [hW0]; exact aN hf
 have I0 : W0.heap[pi]? = some (.cells (q4k B1 B2 B3 B4) 51 (0, 0)) := by rw [hW0]; exact aN hi
 have HC := aq (Kd.q0h hC b0)
 have HB := aq b0
 obtain ⟨i0, i1, i2, i3, i4, i5⟩ := cz6 (show W0.heap[pi]? = some (.cells #[.slice (some ⟨B1, 0, none⟩) 54 54, .slice (some ⟨B2, 0, none⟩) 32 32, .slice (some ⟨B3, 0, none⟩) 15 15, .slice (some ⟨B4, 0, none⟩) 7 7, .int .i64 40, .int .i64 5] 51 (0, 0)) from I0)
 obtain ⟨z0, z1, z2, z3, z4, z5, z6, z7⟩ := q5u U0
 obtain ⟨y0, y1, y2, y3, y4, y5, y6, y7⟩ := q5u F0
 unfold T3c at hW0
 have HW := aq hW0.symm
 clear hW0 b0 U0 F0 I0 hC hi hf
 unfold T3
 go_enter Tryz.func166, Tryz.ntmps166
 go_wp2_with (first
  | (rw [HW.out])
  | (go_at_call 167; refine (k8g B1 B2 B3 B4 u.1 u.2.1 u.2.2 (z0l q3x u).1.1 (z0l q3x u).1.2.1 (z0l q3x u).1.2.2 f.1 f.2.1 f.2.2 (z0l q3x u).2 rfl _ HC.out).mono ?_; rintro e w1 ⟨rfl, hB⟩))
 go_ret
 exact ⟨rfl, HB.out.trans (hB.mono HB.out.size)⟩
theorem v6j (B1 B2 B3 B4 : Nat) (x y z : ByteArray) (f : K3) (hm : z0l q3x (x, y, z) = (f, true)) (u : K3) (hu : (q5e f.1 f.2.1 f.2.2).find? (k7x f) = some u) (w : World) (hC : Kd.C k66 w (some ⟨B2, 0, none⟩) q3x.length q3x) :
 Calls Tryz.prog 103 #[q6h B1 B2 B3 B4, T3 x y z, .bool false] w fun e w' => e = .returned (.tuple #[T3 u.1 u.2.1 u.2.2, .bool true]) ∧ Below w.heap.size w w' := by
 have hmf : ∀ (fn : Fn) (first cap : Array Value) (w : World), (Instr.makeFunc fn first cap).run Tryz.prog w = .ok (.func fn first cap) w := fun _ _ _ _ => rfl
 have hut := Tryz.underlying33
 have hui := Tryz.underlying51
 have HM := aq hm
 have HU := aq hu
 have HC := aq hC
 clear hm hu hC
 obtain ⟨f1, f2, f3⟩ := f
 obtain ⟨N, hN⟩ : ∃ N, N = w.heap.size := ⟨_, rfl⟩
 obtain ⟨W0, hW0⟩ : ∃ W0, W0 = ((((w.alloc (.cells (q4k B1 B2 B3 B4) 51)).alloc (.cells (T3c x y z) 33)).alloc (.cells (T3c ⟨#[]⟩ ⟨#[]⟩ ⟨#[]⟩) 33)).alloc (.cells #[.bool false] 4)) := ⟨_, rfl⟩
 have I0 : q0c (W0.heap[N]? = some (.cells (q4k B1 B2 B3 B4) 51 (0, 0))) := ⟨by rw [hW0, hN]; exact aN (aN (aN (aZ rfl)))⟩
 have T0 : q0c (W0.heap[N + 1]? = some (.cells (T3c x y z) 33 (0, 0))) := ⟨by rw [hW0, hN]; exact aN (aN (aZ (by simp)))⟩
 have R0 : q0c (W0.heap[N + 1 + 1]? = some (.cells (T3c ⟨#[]⟩ ⟨#[]⟩ ⟨#[]⟩) 33 (0, 0))) := ⟨by rw [hW0, hN]; exact aN (aZ (by simp))⟩
 have S0 : q0c (W0.heap[N + 1 + 1 + 1]? = some (.cells #[.bool false] 4 (0, 0))) := ⟨by rw [hW0, hN]; exact aZ (by simp)⟩
 have B0 : q0c (Below N w W0) := ⟨by rw [hW0, hN]; exact q0b (q0b (q0b (q0b (Below.refl _ _) _) _) _) _⟩
 obtain ⟨i0, i1, i2, i3, i4, i5⟩ := cz6 (show W0.heap[N]? = some (.cells #[.slice (some ⟨B1, 0, none⟩) 54 54, .slice (some ⟨B2, 0, none⟩) 32 32, .slice (some ⟨B3, 0, none⟩) 15 15, .slice (some ⟨B4, 0, none⟩) 7 7, .int .i64 40, .int .i64 5] 51 (0, 0)) from I0.out)
 obtain ⟨z0, z1, z2, z3, z4, z5, z6, z7⟩ := q5u T0.out
 unfold q4k T3c at hW0
 have HW := aq hW0.symm
 have HN := aq hN.symm
 clear hW0 hN
 unfold q6h T3
 refine (callsIn_wide (n := 4)).1 ?_
 refine callsIn_of_wp_marks Tryz.func103 rfl trivial ?_ rfl
 simp only [Tryz.ntmps103, List.size_toArray, List.length_cons, List.length_nil, Nat.reduceAdd, Nat.reduceSub, Array.replicate_succ, Array.replicate_zero, List.push_toArray, List.append_toArray, List.nil_append, List.cons_append]
 gi_wp2_with (first
  | (rw [HW.out, HN.out])
  | (refine ⟨trivial, callsIn_wide.2 (Calls.mono (k7m B1 B2 B3 B4 x y z f1 f2 f3 _ HM.out _ (Kd.q0h HC.out (by rw [HN.out]; exact B0.out))) ?_)⟩; rintro e w1 ⟨rfl, hB⟩; unfold T3; have HB1 := aq hB; clear hB)
  | (refine ⟨trivial, ?_⟩; gi_at_call 168; refine (k2n _ f1 f2 f3 false _).mono ?_; rintro e w2 ⟨rfl, rfl⟩))
 obtain ⟨M, hM⟩ : ∃ M, M = w1.heap.size := ⟨_, rfl⟩
 obtain ⟨W2, hW2⟩ : ∃ W2, ((((w1.alloc (.cells (T3c f1 f2 f3) 33)).alloc (.cells #[.func (.func 166) #[] #[.pointer (some ⟨N, 0, none⟩), .pointer (some ⟨M, 0, none⟩)]] 188)).alloc (.cells (T3c f1 f2 f3) 33)).alloc (.cells #[.bool false] 4)) = W2 := ⟨_, rfl⟩
 have b0 : W2.heap[M]? = some (.cells (T3c f1 f2 f3) 33 (0, 0)) := by rw [← hW2, hM]; exact aN (aN (aN (aZ rfl)))
 have b1 : W2.heap[M + 1]? = some (.cells #[.func (.func 166) #[] #[.pointer (some ⟨N, 0, none⟩), .pointer (some ⟨M, 0, none⟩)]] 188 (0, 0)) := by rw [← hW2, hM]; exact aN (aN (aZ (by simp)))
 have b2 : W2.heap[M + 1 + 1]? = some (.cells (T3c f1 f2 f3) 33 (0, 0)) := by rw [← hW2, hM]; exact aN (aZ (by simp))
 have b3 : W2.heap[M + 1 + 1 + 1]? = some (.cells #[.bool false] 4 (0, 0)) := by rw [← hW2, hM]; exact aZ (by simp)
 have s2 : W2.heap.size = M + 1 + 1 + 1 + 1 := by rw [← hW2, hM]; simp
 have hb12 : Below w1.heap.size w1 W2 := by rw [← hW2]; exact q0b (q0b (q0b (q0b (Below.refl _ _) _) _) _) _
 have hb02 : Below W0.heap.size W0 W2 := HB1.out.trans (hb12.mono HB1.out.size)
 have n0 : W2.heap[N]? = _ := (hb02.block _ (q0g I0.out)).trans I0.out
 have n2 : W2.heap[N + 1 + 1]? = _ := (hb02.block _ (q0g R0.out)).trans R0.out
 have n3 : W2.heap[N + 1 + 1 + 1]? = _ := (hb02.block _ (q0g S0.out)).trans S0.out
 have hbN : Below N w W2 := B0.out.trans (hb02.mono (by have := q0g I0.out; omega))
 have hNM : N + 1 + 1 + 1 < M := by have h1 := q0g S0.out; have h2 := HB1.out.size; omega
 unfold T3c at hW2 ⊢
 rw [← hM, hW2]
 have HM1 := aq hM.symm
 clear hW2 hM hb12 hb02
 refine z8e rfl (by omega) (gf := 217) (lb := #[.pointer (some ⟨M + 1 + 1 + 1, 0, none⟩), .pointer (some ⟨M + 1 + 1, 0, none⟩)]) rfl trivial (enters_of Tryz.func217 (by kernel_rfl) rfl)
  (v5j _ (by omega) f1 f2 f3 (M + 1 + 1) (M + 1 + 1 + 1) (N + 1 + 1) W2 (by omega) (by omega) b2 b3)
  KC.trans (fun W lw o o' _ h h1 _ => KC.put _ W lw o o' h h1) (Below.refl _ _) (fun _ => rfl)
  (fun (pre : List K3) W => (∀ v ∈ pre, k7x (f1, f2, f3) v = false) ∧ W.heap[N]? = some (.cells (q4k B1 B2 B3 B4) 51 (0, 0)) ∧ W.heap[N + 1 + 1]? = some (.cells (T3c ⟨#[]⟩ ⟨#[]⟩ ⟨#[]⟩) 33 (0, 0)) ∧ W.heap[N + 1 + 1 + 1]? = some (.cells #[.bool false] 4 (0, 0)) ∧ W.heap[M]? = some (.cells (T3c f1 f2 f3) 33 (0, 0)) ∧ W.heap[M + 1]? = some (.cells #[.func (.func 166) #[] #[.pointer (some ⟨N, 0, none⟩), .pointer (some ⟨M, 0, none⟩)]] 188 (0, 0)) ∧ Below N w W)
  (fun c pre W => c = .ret ∧ W.heap[N + 1 + 1]? = some (.cells (T3c u.1 u.2.1 u.2.2) 33 (0, 0)) ∧ W.heap[N + 1 + 1 + 1]? = some (.cells #[.bool true] 4 (0, 0)) ∧ Below N w W)
  (fun pre A B row ⟨i0, i1, i2, i3, i4, i5, i6⟩ hg hr => ⟨i0, (hg.block _ (q0g i1) (fun e => by have := hr _ e.symm; omega)).trans i1, (hg.block _ (q0g i2) (fun e => by have := hr _ e.symm; omega)).trans i2, (hg.block _ (q0g i3) (fun e => by have := hr _ e.symm; omega)).trans i3, (hg.block _ (q0g i4) (fun e => by have := hr _ e.symm; omega)).trans i4, (hg.block _ (q0g i5) (fun e => by have := hr _ e.symm; omega)).trans i5, i6.grown hg (by have := q0g i1; omega) (fun r e => by have := hr r e; omega)⟩)
  (fun c pre A B row ⟨i0, i2, i3, i6⟩ hg hr => ⟨i0, (hg.block _ (q0g i2) (fun e => by have := hr _ e.symm; omega)).trans i2, (hg.block _ (q0g i3) (fun e => by have := hr _ e.symm; omega)).trans i3, i6.grown hg (by have := q0g i3; omega) (fun r e => by have := hr r e; omega)⟩)
  ⟨fun v hv => by simp at hv, n0, n2, n3, b0, b1, hbN⟩ ?round ?done ?stop
 case round =>
  rintro lp pre ⟨u1, u2, u3⟩ W K hlp ⟨i0, i1, i2, i3, i4, i5, i6⟩ hpre hK
  have eg := enters_of Tryz.func166 (by kernel_rfl) rfl
  unfold Enters at eg
  simp only [k8b]
  unfold T3
  have J1 := aq i1
  have J2 := aq i2
  have J3 := aq i3
  have J4 := aq i4
  have J5 := aq i5
  have J6 := aq i6
  have J0 := aq i0
  have Hp := aq hpre
  have SZ := aq s2
  clear i0 i1 i2 i3 i4 i5 i6 hpre s2 b0 b1 b2 b3 n0 n2 n3 hbN
  gi_wp2
  have hu0 : (W.alloc (.cells (T3c u1 u2 u3) 33)).heap[W.heap.size]? = some (.cells (T3c u1 u2 u3) 33 (0, 0)) := aZ rfl
  have hb0 : Below W.heap.size W (W.alloc (.cells (T3c u1 u2 u3) 33)) := q0b (Below.refl _ _) _
  unfold T3c at hu0 hb0
  refine hK _ _ ((q5f hb0).from _) (KC.below hb0) ?_
  rintro W3 ⟨r, o, hr, hW3, ⟨q, hq, hqc⟩, hoc⟩
  have hrne : ∀ (k : Nat) (o' : Obj), (W.alloc (.cells #[.string u1, .slice none 0 0, .string u2, .string u3, .slice none 0 0, .slice none 0 0, .slice none 0 0, .string ⟨#[]⟩] 33)).heap[k]? = some o' → o'.isCells = true → W3.heap[k]? = some o' := fun k o' h1 h2 => by
   rw [hW3]
   refine (World.putObj_heap_other ?_).trans h1
   rintro rfl
   rw [hq] at h1
   cases h1
   rw [hqc] at h2
   cases h2
  have U3 := aq (hrne _ _ hu0 rfl)
  have L1 := aq (hrne _ _ ((hb0.block _ (q0g J1.out)).trans J1.out) rfl)
  have L2 := aq (hrne _ _ ((hb0.block _ (q0g J2.out)).trans J2.out) rfl)
  have L3 := aq (hrne _ _ ((hb0.block _ (q0g J3.out)).trans J3.out) rfl)
  have L4 := aq (hrne _ _ ((hb0.block _ (q0g J4.out)).trans J4.out) rfl)
  have L5 := aq (hrne _ _ ((hb0.block _ (q0g J5.out)).trans J5.out) rfl)
  have hs := SZ.out
  have B3' : q0c (Below N w W3) := ⟨by rw [hW3]; have h1 := J6.out.size; have h2 := hb0.size; have h3 := HN.out; have h4 := q0g J4.out; exact q8z (by omega) (by omega) (J6.out.trans (hb0.mono (by omega))) (by omega) _⟩
  clear hu0 hb0 hW3 hq hqc hoc hrne hK J1 J2 J3 J4 J5 J6 hs
  obtain ⟨z0, z1, z2, z3, z4, z5, z6, z7⟩ := q5u U3.out
  have l5 := (q0a L5.out 0).trans rfl
  refine wpIn_block ?_
  gi_wp2_with (fail)
  refine ⟨trivial, CallsIn.inRound lp (callsIn_wide.2 (Calls.mono (k6d 0 B1 B2 B3 B4 (f1, f2, f3) (u1, u2, u3) N M _ (Kd.q0h HC.out (by rw [HN.out]; exact B3'.out)) L1.out L4.out) ?_))⟩
  rintro e w5 ⟨rfl, hb5⟩
  have B5 := aq hb5
  clear hb5
  cases hsay : k7x (f1, f2, f3) (u1, u2, u3) with
  | false =>
   have HS := aq hsay
   clear hsay
   gi_wp2_with (fail)
   have hb5 := B5.out
   have hbN := B3'.out.trans (hb5.mono (by have h1 := q0g L4.out; omega))
   exact ⟨(q5f hb5).from _, KC.below hb5, fun v hv => by
    rcases List.mem_append.1 hv with h | h
    · exact J0.out v h
    · rw [List.mem_singleton.1 h]; exact HS.out, (hb5.block _ (q0g L1.out)).trans L1.out, (hb5.block _ (q0g L2.out)).trans L2.out, (hb5.block _ (q0g L3.out)).trans L3.out, (hb5.block _ (q0g L4.out)).trans L4.out, (hb5.block _ (q0g L5.out)).trans L5.out, hbN⟩
  | true =>
   have he : u = (u1, u2, u3) := by
    have h1 := HU.out.symm.trans (v0w Hp.out J0.out hsay)
    cases h1
    rfl
   have HE := aq he
   clear he hsay
   have hb5 := B5.out
   have U5 := aq ((hb5.block _ (q0g U3.out)).trans U3.out)
   have R5 := aq ((hb5.block _ (q0g L2.out)).trans L2.out)
   have S5 := aq ((hb5.block _ (q0g L3.out)).trans L3.out)
   have BN := aq (B3'.out.trans (hb5.mono (by have h1 := q0g L4.out; omega)))
   clear hb5 z0 z1 z2 z3 z4 z5 z6 z7 l5
   obtain ⟨z0, z1, z2, z3, z4, z5, z6, z7⟩ := q5u U5.out
   obtain ⟨y0, y1, y2, y3, y4, y5, y6, y7⟩ := q5u R5.out
   obtain ⟨g0, g1, g2, g3, g4, g5, g6, g7⟩ := v0x R5.out
   have c5 := (q0a S5.out 0).trans rfl
   have d5 := q0e S5.out 0
   gi_wp2_with (fail)
   rw [q3q]
   have hS6 := (q4s (W := w5) u1 u2 u3 (show N + 1 + 1 + 1 ≠ N + 1 + 1 by omega)).trans S5.out
   have hT6 := q5y R5.out u1 u2 u3
   refine ⟨(((q5f B5.out).trans (KeepsOthers.of_grownBy (q8l w5 _ u1 u2 u3) (fun k o e ho => by cases e; rw [R5.out] at ho; cases ho; rfl))).trans (KeepsOthers.of_grownBy (q2y _ _ _ _) (fun k o e ho => by cases e; rw [hS6] at ho; cases ho; rfl))).from _, rfl, ?_, q0l hS6 0 _ rfl, q1y (q2k BN.out (by omega) _ _ _) (by omega)⟩
   rw [HE.out]
   exact q1e hT6 (by simp) _
 case done =>
  rintro D W hD ⟨i0, -⟩ hK
  have h1 := List.find?_some HU.out
  have h2 := i0 u (List.mem_of_find?_eq_some HU.out)
  rw [h1] at h2
  cases h2
 case stop =>
  rintro D c pre W hD _ ⟨rfl, i2, i3, i6⟩ hK
  refine wpIn_ret ?_
  simp only [Exit.inBlock, Exit.then]
  have h0 := HN.out
  have h1 := q0g b0
  refine ⟨by simp, .inl ⟨D, _, rfl, run_takeDeferred hK, ?_⟩⟩
  obtain ⟨W8, hW8⟩ : ∃ W8, W8 = W.putObj D (.deferred none) := ⟨_, rfl⟩
  have T8 : W8.heap[N + 1 + 1]? = some (.cells (T3c u.1 u.2.1 u.2.2) 33 (0, 0)) := by rw [hW8]; exact (World.putObj_heap_other (by omega)).trans i2
  have S8 : W8.heap[N + 1 + 1 + 1]? = some (.cells #[.bool true] 4 (0, 0)) := by rw [hW8]; exact (World.putObj_heap_other (by omega)).trans i3
  have B8 : Below w.heap.size w W8 := by
   rw [hW8, h0]
   exact i6.trans (belowK_b (w := w) (by omega) _ D _ _ (by omega) hK rfl rfl)
  obtain ⟨c0, c1, c2, c3, c4, c5, c6, c7⟩ := q5u T8
  have d0 := (q0a S8 0).trans rfl
  rw [← hW8]
  show ∃ v, _ ∧ _
  refine ⟨.tuple #[T3 u.1 u.2.1 u.2.2, .bool true], ?_, rfl, B8⟩
  unfold T3
  simp [results, Tryz.results103, asAddr, c0, c1, c2, c3, c4, c5, c6, c7, d0, hut, go_sem]
end Go.Proofs.YtpmcfckechjppaaGreatDoor.Ps
namespace Go.Proofs.YtpmcfckechjppaaGreatDoor.Ps
open Go.RowKit Go.Shelf Go.Proofs.YtpmcfckechjppaaGreatDoorW.PrintWords Go.Proofs.YtpmcfckechjppaaGreatDoorW.PrintLast Go.Proofs.YtpmcfckechjppaaGreatDoorW.PrintMore Go.Proofs.YtpmcfckechjppaaGreatDoor.P Go.Proofs.YtpmcfckechjppaaGreatDoor.LikW
def z5f (t : K3) : List Value := [.string t.1, .slice none 0 0, .string t.2.1, .string t.2.2, .slice none 0 0, .slice none 0 0, .slice none 0 0, .string ⟨#[]⟩]
def q6e (l : List K3) : List Value := l.flatMap z5f
def q4b (W : World) (b : Nat) (l : List K3) : Prop := ∃ cur, W.heap[b]? = some (.cells cur 33 (0, 0)) ∧ cur.toList.take (8 * l.length) = q6e l
theorem q4b.below {W W1 : World} {b : Nat} {l : List K3} (h : q4b W b l) (hb : Below W.heap.size W W1) : q4b W1 b l := by
 obtain ⟨cur, h1, h2⟩ := h
 exact ⟨cur, (hb.block _ (q0g h1)).trans h1, h2⟩
theorem z9g : ∀ (l : List K3) (i : Nat) (t : K3), l[i]? = some t → ∀ j, j < 8 → (q6e l)[i * 8 + j]? = (z5f t)[j]?
 | [], i, t, h, j, hj => by simp at h
 | y :: l, 0, t, h, j, hj => by
  simp only [List.getElem?_cons_zero, Option.some.injEq] at h
  subst h
  unfold q6e
  rw [List.flatMap_cons, List.getElem?_append_left (by simpa [z5f] using hj)]
  simp
 | y :: l, i + 1, t, h, j, hj => by
  have h1 := z9g l i t (by simpa using h) j hj
  have h2 : (i + 1) * 8 + j = 8 + (i * 8 + j) := by omega
  unfold q6e at h1 ⊢
  rw [List.flatMap_cons, h2, List.getElem?_append_right (by simp [z5f])]
  simpa [z5f] using h1
theorem q4b.cells {W : World} {b : Nat} {l : List K3} (h : q4b W b l) (i : Nat) (t : K3) (hi : l[i]? = some t) (j : Nat) (u : Value) (hj : j < 8) (hu : (z5f t)[j]? = some u) : W.cell? ⟨b, i * 8 + j, none⟩ = some u := by
 obtain ⟨cur, h1, h2⟩ := h
 have hl := (List.getElem?_eq_some_iff.1 hi).1
 have h3 := z9g l i t hi j hj
 rw [← h2, List.getElem?_take, if_pos (by omega), Array.getElem?_toList, hu] at h3
 exact (q0a h1 _).trans h3
theorem k4h (k : Nat) (B1 B2 B3 B4 : Nat) (b c : Nat) (l : List K3) (hl : l.length ≤ 1000) (hN : ∀ t ∈ l, q3d k t.1 t.2.1 t.2.2) (w : World) (hT : q4b w b l) (hG : GrandW.G w) (hC : Kd.C k59 w (some ⟨B1, 0, none⟩) q0p.length q0p) :
 Calls Tryz.prog 340 #[q6h B1 B2 B3 B4, .slice (some ⟨b, 0, none⟩) l.length c] w fun e w' => (∃ v, e = .returned v ∧ w'.ownsRow w.heap.size 33 8 v l.length (q6e l)) ∧ Below w.heap.size w w' := by
 have hut := Tryz.underlying33
 have hus := Tryz.underlying193
 have hui := Tryz.underlying51
 have HT := aq hT
 have HG := aq hG
 have HC := aq hC
 have HN := aq hN
 have HL := aq hl
 clear hT hG hC hN
 unfold q6h
 go_enter Tryz.func340, Tryz.ntmps340
 go_wp2
 obtain ⟨N, hNN⟩ : ∃ N, N = w.heap.size := ⟨_, rfl⟩
 obtain ⟨W0, hW0⟩ : ∃ W0, W0 = w.alloc (.cells (q4k B1 B2 B3 B4) 51) := ⟨_, rfl⟩
 have I0 : W0.heap[N]? = some (.cells (q4k B1 B2 B3 B4) 51 (0, 0)) := by rw [hW0]; exact aZ hNN
 have B0 : Below N w W0 := by rw [hW0, hNN]; exact q0b (Below.refl _ _) _
 unfold q4k at hW0
 rw [← hW0, ← hNN]
 have HNN := aq hNN
 clear hW0 hNN
 go_loopw [10, 5] (fun vi vs wr => ∃ (i : Nat), vi = .int .i64 (i : Int) ∧ i ≤ l.length ∧ q0c (wr.heap[N]? = some (.cells (q4k B1 B2 B3 B4) 51 (0, 0))) ∧ q0c (wr.ownsRow N 33 8 vs i (q6e (l.take i))) ∧ q0c (Below N w wr)) (fun vi _ _ => l.length - (intOf vi).toNat)
 case atStart => exact ⟨0, rfl, Nat.zero_le _, ⟨I0⟩, ⟨q3a _ _ _ _⟩, ⟨B0⟩⟩
 case round =>
  obtain ⟨i, rfl, hi, K_I, O_V, BB⟩ := hrel
  clear I0 B0
  obtain ⟨V1, c1, e1⟩ := q0u O_V.out
  subst e1
  by_cases hlt : i < l.length
  · obtain ⟨t, ht⟩ : ∃ t, l[i]? = some t := ⟨_, List.getElem?_eq_getElem hlt⟩
    have TW : q4b wr b l := HT.out.below (by have h := BB.out; rwa [HNN.out] at h)
    have x0 : wr.cell? ⟨b, i * 8, none⟩ = some (.string t.1) := TW.cells i t ht 0 _ (by decide) rfl
    have x1 : wr.cell? ⟨b, i * 8 + 1, none⟩ = some (.slice none 0 0) := TW.cells i t ht 1 _ (by decide) rfl
    have x2 : wr.cell? ⟨b, i * 8 + 2, none⟩ = some (.string t.2.1) := TW.cells i t ht 2 _ (by decide) rfl
    have x3 : wr.cell? ⟨b, i * 8 + 3, none⟩ = some (.string t.2.2) := TW.cells i t ht 3 _ (by decide) rfl
    have x4 : wr.cell? ⟨b, i * 8 + 4, none⟩ = some (.slice none 0 0) := TW.cells i t ht 4 _ (by decide) rfl
    have x5 : wr.cell? ⟨b, i * 8 + 5, none⟩ = some (.slice none 0 0) := TW.cells i t ht 5 _ (by decide) rfl
    have x6 : wr.cell? ⟨b, i * 8 + 6, none⟩ = some (.slice none 0 0) := TW.cells i t ht 6 _ (by decide) rfl
    have x7 : wr.cell? ⟨b, i * 8 + 7, none⟩ = some (.string ⟨#[]⟩) := TW.cells i t ht 7 _ (by decide) rfl
    have HNt := aq (HN.out t (List.mem_of_getElem? ht))
    have hsn : l.take (i + 1) = l.take i ++ [t] := by rw [List.take_add_one, ht]; rfl
    have HSN := aq hsn
    have d1 : decide ((i : Int) < (l.length : Int)) = true := decide_eq_true (by omega)
    have m0 : (0 : Int) ≤ (i : Int) := by omega
    have m1 : (i : Int) < (l.length : Int) := by omega
    have m2 : i < l.length := hlt
    obtain ⟨V, hV⟩ : ∃ V, V = wr.alloc (.cells (T3c t.1 t.2.1 t.2.2) 33) := ⟨_, rfl⟩
    have U0 : V.heap[wr.heap.size]? = some (.cells (T3c t.1 t.2.1 t.2.2) 33 (0, 0)) := by rw [hV]; exact aZ rfl
    have I1 : V.heap[N]? = some (.cells (q4k B1 B2 B3 B4) 51 (0, 0)) := by rw [hV]; exact aN K_I.out
    have BV : q0c (Below N w V) := ⟨by rw [hV]; exact BB.out.alloc (Nat.le_of_lt (q0g K_I.out)) _⟩
    have OV : q0c (V.ownsRow N 33 8 (.slice V1 i c1) i (q6e (l.take i))) := ⟨by rw [hV]; exact World.ownsRow.alloc O_V.out _⟩
    have K_1 := aq I1
    obtain ⟨i0, i1, i2, i3, i4, i5⟩ := cz6 (show V.heap[N]? = some (.cells #[.slice (some ⟨B1, 0, none⟩) 54 54, .slice (some ⟨B2, 0, none⟩) 32 32, .slice (some ⟨B3, 0, none⟩) 15 15, .slice (some ⟨B4, 0, none⟩) 7 7, .int .i64 40, .int .i64 5] 51 (0, 0)) from I1)
    obtain ⟨z0, z1, z2, z3, z4, z5, z6, z7⟩ := q5u U0
    unfold T3c at hV
    have HV := aq hV.symm
    clear ht hsn TW hV U0 I1
    go_wp2_with (first
     | (rw [HV.out])
     | (go_at_call 97; refine (q9f k B1 B2 B3 B4 t.1 t.2.1 t.2.2 HNt.out _ (HG.out.below (by have h := BV.out; rwa [HNN.out] at h)) (Kd.q0h HC.out (by have h := BV.out; rwa [HNN.out] at h))).mono ?_; rintro e w1 ⟨rfl, hB⟩; unfold T3; have O1 : q0c (w1.ownsRow N 33 8 (.slice V1 i c1) i (q6e (l.take i))) := ⟨q1o OV.out hB⟩; have B1' := aq (BV.out.trans (hB.mono (Nat.le_of_lt (q0g K_1.out)))); have K1 := kb K_1 hB; clear hB)
     | ((with_reducible refine q1d (b := .append) (xs := #[.tmp 14, .tmp 18]) rfl ?_); at_builtin; refine q2f (w0 := w) N rfl (.tmp 14) (.tmp 18) 193 33 (.agg #[.string ⟨#[]⟩, .slice none 0 0, .string ⟨#[]⟩, .string ⟨#[]⟩, .slice none 0 0, .slice none 0 0, .slice none 0 0, .string ⟨#[]⟩]) 8 160 rfl hus (by kernel_rfl) rfl (by decide) (by decide) (.slice V1 i c1) i (q6e (l.take i)) (z5f t) rfl ?hx rfl ?h1 O1.out B1'.out (Nat.le_of_lt (q0g K1.out)) ?hl ?_; (case hx => rfl); (case h1 => simp [z5f, Value.oneCell']); (case hl => have := HL.out; omega); intro v2 w2 ho hb2 hg hat; obtain ⟨V2, c2, rfl⟩ := q0u ho; have O_2 := aq ho; have B2' := aq hb2; have K_2 := aq ((hg.block _ (q0g K1.out) (own_ne O1.out K1.out (by decide))).trans K1.out); clear ho hb2 hg hat))
    go_roundw
    case rel =>
     exact ⟨i + 1, by congr 1, by omega, K_2, ⟨by rw [HSN.out]; unfold q6e; rw [List.flatMap_append]; exact O_2.out⟩, B2'⟩
    case measure => simp [intOf]; omega
  · obtain rfl : i = l.length := by omega
    have d1 : decide ((l.length : Int) < (l.length : Int)) = false := decide_eq_false (by omega)
    go_wp2
    go_ret
    have h := O_V.out
    rw [List.take_length] at h
    have h2 := HNN.out
    exact ⟨⟨_, rfl, h2 ▸ h⟩, h2 ▸ BB.out⟩
theorem z5k {a b : World} (h : a.grownBy b none) : Below a.heap.size a b := ⟨h.os, h.tape, h.output, h.size, fun k hk => h.block k hk (by simp)⟩
theorem k2y {W : World} {base : Nat} {V : Option Addr} {c : Nat} {l : List K3} {f : K3 → Int} (h : W.ownsRow base 3 1 (.slice V l.length c) l.length (l.map fun t => .int .i64 (f t))) (hl : l ≠ []) : ∃ r, V = some ⟨r, 0, none⟩ ∧ r < W.heap.size ∧ ∀ (i : Nat) t, l[i]? = some t → W.cell? ⟨r, i, none⟩ = some (.int .i64 (f t)) := by
 obtain ⟨hk, ⟨e, e0⟩ | ⟨g, cap, cur, e, h1, h2, h3, h4, h5, h6⟩⟩ := h
 · exact absurd (List.eq_nil_of_length_eq_zero e0) hl
 · cases e
   refine ⟨g, rfl, q0g h2, fun i t hi => ?_⟩
   have hlt := (List.getElem?_eq_some_iff.1 hi).1
   have q : (l.map fun t => Value.int .i64 (f t))[i]? = some (.int .i64 (f t)) := by rw [List.getElem?_map, hi]; rfl
   rw [← h6, List.getElem?_take, if_pos (by omega), Array.getElem?_toList] at q
   exact (q0a h2 _).trans q
theorem z7n (W : World) (cs : Array Value) (e : TypeId) (v : Value) (h : cs[0]? = some v) : ((W.alloc (.cells cs e)).drew).cell? ⟨W.heap.size, 0, none⟩ = some v := by
 have h1 : ((W.alloc (.cells cs e)).drew).heap[W.heap.size]? = some (.cells cs e (0, 0)) := World.alloc_heap_new W _
 exact (q0a h1 0).trans h
def q9x (a b : K3) : Int := j0y q7k q4h (plP q3x a) (plP q3x b) 3
theorem k8o (B1 B2 B3 B4 : Nat) (a b : K3) (w : World) (hL : Kd.C k66 w (some ⟨B2, 0, none⟩) q3x.length q3x) (hR : Kd.C k53 w (some ⟨B3, 0, none⟩) q7k.length q7k) (hM : Kd.C k69 w (some ⟨B4, 0, none⟩) q4h.length q4h) :
 Calls Tryz.prog 341 #[q6h B1 B2 B3 B4, T3 a.1 a.2.1 a.2.2, T3 b.1 b.2.1 b.2.2] w fun e w' => e = .returned (.int .i64 (q9x a b)) ∧ Below w.heap.size w w' := by
 have h := v5t (some ⟨B1, 0, none⟩) 54 54 (some ⟨B2, 0, none⟩) 32 q3x (some ⟨B3, 0, none⟩) 15 q7k (some ⟨B4, 0, none⟩) 7 q4h 40 5 a.1 a.2.1 a.2.2 ⟨#[]⟩ none 0 0 none 0 0 none 0 0 none 0 0 b.1 b.2.1 b.2.2 ⟨#[]⟩ none 0 0 none 0 0 none 0 0 none 0 0 w hL hR hM
 rw [z4g, z5n, z1m] at h
 exact h
structure Img (w : World) (B1 B2 B3 B4 : Nat) : Prop where
 g : GrandW.G w
 c1 : Kd.C k59 w (some ⟨B1, 0, none⟩) q0p.length q0p
 c2 : Kd.C k66 w (some ⟨B2, 0, none⟩) q3x.length q3x
 c3 : Kd.C k53 w (some ⟨B3, 0, none⟩) q7k.length q7k
 c4 : Kd.C k69 w (some ⟨B4, 0, none⟩) q4h.length q4h
theorem Img.below {w w' : World} {B1 B2 B3 B4 : Nat} (h : Img w B1 B2 B3 B4) (hb : Below w.heap.size w w') : Img w' B1 B2 B3 B4 := ⟨h.g.below hb, Kd.q0h h.c1 hb, Kd.q0h h.c2 hb, Kd.q0h h.c3 hb, Kd.q0h h.c4 hb⟩
theorem z2d {W : World} {base : Nat} {v : Value} {l : List K3} (h : W.ownsRow base 33 8 v l.length (q6e l)) (hl : l ≠ []) : ∃ b c, v = .slice (some ⟨b, 0, none⟩) l.length c ∧ base ≤ b ∧ q4b W b l := by
 obtain ⟨hk, ⟨e, e0⟩ | ⟨g, cap, cur, e, h1, h2, h3, h4, h5, h6⟩⟩ := h
 · exact absurd (List.eq_nil_of_length_eq_zero e0) hl
 · exact ⟨g, cap, e, h1, cur, h2, by rw [Nat.mul_comm]; exact h6⟩
theorem k6t (k : Nat) (B1 B2 B3 B4 : Nat) (b1 c1 b2 c2 : Nat) (a : K3) (l : List K3) (hl : l.length ≤ 1000) (hne : l ≠ []) (ha : q3d k a.1 a.2.1 a.2.2) (hN : ∀ t ∈ l, q3d k t.1 t.2.1 t.2.2) (w : World) (hT1 : q4b w b1 [a]) (hT2 : q4b w b2 l) (hI : Img w B1 B2 B3 B4) :
 Calls Tryz.prog 323 #[q6h B1 B2 B3 B4, .slice (some ⟨b1, 0, none⟩) 1 c1, .slice (some ⟨b2, 0, none⟩) l.length c2] w fun e w' =>
  (∃ g cg r cr, e = .returned (.slice (some ⟨g, 0, none⟩) 1 cg) ∧ w'.cell? ⟨g, 0, none⟩ = some (.slice (some ⟨r, 0, none⟩) l.length cr) ∧ ∀ (i : Nat) t, l[i]? = some t → w'.cell? ⟨r, i, none⟩ = some (.int .i64 (q9x a t))) ∧ Below w.heap.size w w' := by
 have hut := Tryz.underlying33
 have hus := Tryz.underlying193
 have hui := Tryz.underlying51
 have HT1 := aq hT1
 have HT2 := aq hT2
 have HI := aq hI
 have HN := aq hN
 have HA := aq ha
 have HE := aq hne
 clear hT1 hT2 hI hN ha hne
 unfold q6h
 go_enter Tryz.func323, Tryz.ntmps323
 go_wp2
 obtain ⟨N, hNN⟩ : ∃ N, N = w.heap.size := ⟨_, rfl⟩
 obtain ⟨W0, hW0⟩ : ∃ W0, W0 = w.alloc (.cells (q4k B1 B2 B3 B4) 51) := ⟨_, rfl⟩
 have KI : q0c (W0.heap[N]? = some (.cells (q4k B1 B2 B3 B4) 51 (0, 0))) := ⟨by rw [hW0]; exact aZ hNN⟩
 have KB : q0c (Below N w W0) := ⟨by rw [hW0, hNN]; exact q0b (Below.refl _ _) _⟩
 unfold q4k at hW0
 rw [← hW0, ← hNN]
 have HNN := aq hNN
 clear hW0 hNN
 refine q2w (n := 8) (S := fun w' => w'.cell? ⟨N, 0, none⟩ = some (.slice (some ⟨B1, 0, none⟩) 54 54) ∧ w'.cell? ⟨N, 1, none⟩ = some (.slice (some ⟨B2, 0, none⟩) 32 32) ∧ w'.cell? ⟨N, 2, none⟩ = some (.slice (some ⟨B3, 0, none⟩) 15 15) ∧ w'.cell? ⟨N, 3, none⟩ = some (.slice (some ⟨B4, 0, none⟩) 7 7) ∧ w'.cell? ⟨N, 4, none⟩ = some (.int .i64 40) ∧ w'.cell? ⟨N, 5, none⟩ = some (.int .i64 5)) (ds := []) (M 8 0) (by kernel_rfl) rfl rfl ⟨(q0a (w := W0.drew) KI.out 0).trans rfl, (q0a (w := W0.drew) KI.out 1).trans rfl, (q0a (w := W0.drew) KI.out 2).trans rfl, (q0a (w := W0.drew) KI.out 3).trans rfl, (q0a (w := W0.drew) KI.out 4).trans rfl, (q0a (w := W0.drew) KI.out 5).trans rfl⟩ (fun hHeld => ?_)
 obtain ⟨V, hV⟩ : ∃ V, V = W0.drew := ⟨_, rfl⟩
 replace KI := dwK KI hV
 replace KB : q0c (Below N w V) := by rw [hV]; exact ⟨q0m KB.out⟩
 rw [← hV] at hHeld ⊢
 clear hV
 refine pw 1 16 (M 8 2) ?_
 refine pw 4 19 (M 8 18) ?_
 refine tw 0 15 (M 8 19) hHeld ?_
 refine tw 3 18 (M 8 27) hHeld ?_
 refine ow 2 (some 17) (M 8 31) fun K hK => ?_
 refine gow Tryz.func340 #[.agg #[.slice (some ⟨B1, 0, none⟩) 54 54, .slice (some ⟨B2, 0, none⟩) 32 32, .slice (some ⟨B3, 0, none⟩) 15 15, .slice (some ⟨B4, 0, none⟩) 7 7, .int .i64 40, .int .i64 5], .slice (some ⟨b1, 0, none⟩) 1 c1] ?_
 have hbw : Below w.heap.size w V := by have h := KB.out; rwa [HNN.out] at h
 refine (k4h k B1 B2 B3 B4 b1 c1 [a] (by simp) (fun t ht => by rw [List.mem_singleton.1 ht]; exact HA.out) _ (HT1.out.below hbw) (HI.out.g.below hbw) (Kd.q0h HI.out.c1 hbw)).mono ?_
 rintro e wd ⟨⟨v, rfl, ho⟩, hb⟩
 obtain ⟨gd, cd, hv, hgd, htd⟩ := z2d ho (by simp)
 have hv2 : v = .slice (some ⟨gd, 0, none⟩) 1 cd := hv
 subst hv2
 have Td := aq htd
 replace KI := kb KI hb
 replace KB : q0c (Below N w wd) := ⟨KB.out.trans (hb.mono (by rw [HNN.out]; exact hbw.size))⟩
 clear hb ho hv htd hbw
 refine ⟨_, rfl, ?_⟩
 refine hK.out _ _ ⟨(q0a KI.out 0).trans rfl, (q0a KI.out 1).trans rfl, (q0a KI.out 2).trans rfl, (q0a KI.out 3).trans rfl, (q0a KI.out 4).trans rfl, (q0a KI.out 5).trans rfl⟩ (fun hHeld => ?_)
 clear hK K
 refine nw 17 ?_
 refine ow 5 (some 20) (M 8 63) fun K hK => ?_
 refine gow Tryz.func340 #[.agg #[.slice (some ⟨B1, 0, none⟩) 54 54, .slice (some ⟨B2, 0, none⟩) 32 32, .slice (some ⟨B3, 0, none⟩) 15 15, .slice (some ⟨B4, 0, none⟩) 7 7, .int .i64 40, .int .i64 5], .slice (some ⟨b2, 0, none⟩) l.length c2] ?_
 have hbw : Below w.heap.size w wd := by have h := KB.out; rwa [HNN.out] at h
 refine (k4h k B1 B2 B3 B4 b2 c2 l hl HN.out _ (HT2.out.below hbw) (HI.out.g.below hbw) (Kd.q0h HI.out.c1 hbw)).mono ?_
 rintro e ws ⟨⟨v, rfl, ho⟩, hb⟩
 obtain ⟨gs, cs, hv, hgs, hts⟩ := z2d ho HE.out
 have hv2 : v = .slice (some ⟨gs, 0, none⟩) l.length cs := hv
 subst hv2
 have Ts := aq hts
 replace Td := aq (Td.out.below hb)
 replace KI := kb KI hb
 replace KB : q0c (Below N w ws) := ⟨KB.out.trans (hb.mono (by rw [HNN.out]; exact hbw.size))⟩
 clear hb ho hv hts hbw
 refine ⟨_, rfl, ?_⟩
 refine hK.out _ _ ⟨(q0a KI.out 0).trans rfl, (q0a KI.out 1).trans rfl, (q0a KI.out 2).trans rfl, (q0a KI.out 3).trans rfl, (q0a KI.out 4).trans rfl, (q0a KI.out 5).trans rfl⟩ (fun hHeld => ?_)
 clear hK K
 refine nw 20 ?_
 refine pw 6 7 (M 8 127) ?_
 refine pw 7 8 (M 8 255) ?_
 refine q4t (by kernel_rfl) ?_
 have hu22 := Tryz.underlying22
 have huu := Tryz.underlying337
 have hinfo : (Tryz.prog.info? 3).map (fun i => (i.zero, i.size, i.bytes)) = some (some (.int .i64 0), 1, 8) := by kernel_rfl
 obtain ⟨i9, hi9, hzz⟩ := Option.map_eq_some_iff.1 hinfo
 simp only [Prod.mk.injEq] at hzz
 obtain ⟨hz0, hz1, hz2⟩ := hzz
 have HL := aq hl
 obtain ⟨q, hq⟩ : ∃ q, q = ws.heap.size := ⟨_, rfl⟩
 obtain ⟨V, hV⟩ : ∃ V, V = ws.alloc (.cells (T3c a.1 a.2.1 a.2.2) 33) := ⟨_, rfl⟩
 have KA : q0c (V.heap[q]? = some (.cells (T3c a.1 a.2.1 a.2.2) 33 (0, 0))) := ⟨by rw [hV]; exact aZ hq⟩
 have KI2 : q0c (V.heap[N]? = some (.cells (q4k B1 B2 B3 B4) 51 (0, 0))) := ⟨by rw [hV]; exact aN KI.out⟩
 have KB2 : q0c (Below N w V) := ⟨by rw [hV]; exact KB.out.alloc (Nat.le_of_lt (q0g KI.out)) _⟩
 have Ts2 : q0c (q4b V gs l) := ⟨Ts.out.below (by rw [hV]; exact q0b (Below.refl _ _) _)⟩
 obtain ⟨Wm, hmk, hom, hgm⟩ := run_make_own (P := Tryz.prog) V N 22 3 i9 (.int .i64 0) 1 hu22 hi9 hz0 hz1 .i64 .i64 l.length (by rw [hz2]; omega) (by simp [maxLen]; omega) (Nat.le_of_lt (q0g KI2.out))
 have hbm : Below V.heap.size V Wm := z5k hgm
 have OM := aq hom
 have KA3 := kb KA hbm
 have KI3 := kb KI2 hbm
 have KB3 : q0c (Below N w Wm) := ⟨KB2.out.trans (hbm.mono (Nat.le_of_lt (q0g KI2.out)))⟩
 have Ts3 : q0c (q4b Wm gs l) := ⟨Ts2.out.below hbm⟩
 have y0 : ws.cell? ⟨gd, 0, none⟩ = some (.string a.1) := Td.out.cells 0 a rfl 0 _ (by decide) rfl
 have y1 : ws.cell? ⟨gd, 1, none⟩ = some (.slice none 0 0) := Td.out.cells 0 a rfl 1 _ (by decide) rfl
 have y2 : ws.cell? ⟨gd, 2, none⟩ = some (.string a.2.1) := Td.out.cells 0 a rfl 2 _ (by decide) rfl
 have y3 : ws.cell? ⟨gd, 3, none⟩ = some (.string a.2.2) := Td.out.cells 0 a rfl 3 _ (by decide) rfl
 have y4 : ws.cell? ⟨gd, 4, none⟩ = some (.slice none 0 0) := Td.out.cells 0 a rfl 4 _ (by decide) rfl
 have y5 : ws.cell? ⟨gd, 5, none⟩ = some (.slice none 0 0) := Td.out.cells 0 a rfl 5 _ (by decide) rfl
 have y6 : ws.cell? ⟨gd, 6, none⟩ = some (.slice none 0 0) := Td.out.cells 0 a rfl 6 _ (by decide) rfl
 have y7 : ws.cell? ⟨gd, 7, none⟩ = some (.string ⟨#[]⟩) := Td.out.cells 0 a rfl 7 _ (by decide) rfl
 unfold T3c at hV
 rw [hq] at KA3
 have HV := aq hV.symm
 have HQ := aq hq.symm
 clear hV hom hgm hbm KA KI2 KB2 Ts2 hq KI KB hi9 hz0 hz1 hz2 hinfo
 go_wp2
 refine wp_loop_rounds 2 ?_
 rw [rounds_succ]
 go_wp2_with (first | (rw [HV.out]))
 clear y0 y1 y2 y3 y4 y5 y6 y7 hmk
 rw [HQ.out]
 go_loopw [32, 12] (fun vi vs wr => ∃ (i : Nat), vi = .int .i64 (i : Int) ∧ i ≤ l.length ∧ q0c (wr.heap[N]? = some (.cells (q4k B1 B2 B3 B4) 51 (0, 0))) ∧ q0c (wr.heap[q]? = some (.cells (T3c a.1 a.2.1 a.2.2) 33 (0, 0))) ∧ q0c (wr.ownsRow N 3 1 vs i ((l.take i).map fun t => .int .i64 (q9x a t))) ∧ q0c (q4b wr gs l) ∧ q0c (Below N w wr)) (fun vi _ _ => l.length - (intOf vi).toNat)
 case atStart => exact ⟨0, rfl, Nat.zero_le _, KI3, ⟨HQ.out ▸ KA3.out⟩, OM, Ts3, KB3⟩
 case round =>
  obtain ⟨i, rfl, hi, K_I, K_A, O_V, T_S, BB⟩ := hrel
  clear KI3 KA3 OM Ts3 KB3
  obtain ⟨V1, c1', e1⟩ := q0u O_V.out
  subst e1
  by_cases hlt : i < l.length
  · obtain ⟨t, ht⟩ : ∃ t, l[i]? = some t := ⟨_, List.getElem?_eq_getElem hlt⟩
    have TW := T_S.out
    have x0 : wr.cell? ⟨gs, i * 8, none⟩ = some (.string t.1) := TW.cells i t ht 0 _ (by decide) rfl
    have x1 : wr.cell? ⟨gs, i * 8 + 1, none⟩ = some (.slice none 0 0) := TW.cells i t ht 1 _ (by decide) rfl
    have x2 : wr.cell? ⟨gs, i * 8 + 2, none⟩ = some (.string t.2.1) := TW.cells i t ht 2 _ (by decide) rfl
    have x3 : wr.cell? ⟨gs, i * 8 + 3, none⟩ = some (.string t.2.2) := TW.cells i t ht 3 _ (by decide) rfl
    have x4 : wr.cell? ⟨gs, i * 8 + 4, none⟩ = some (.slice none 0 0) := TW.cells i t ht 4 _ (by decide) rfl
    have x5 : wr.cell? ⟨gs, i * 8 + 5, none⟩ = some (.slice none 0 0) := TW.cells i t ht 5 _ (by decide) rfl
    have x6 : wr.cell? ⟨gs, i * 8 + 6, none⟩ = some (.slice none 0 0) := TW.cells i t ht 6 _ (by decide) rfl
    have x7 : wr.cell? ⟨gs, i * 8 + 7, none⟩ = some (.string ⟨#[]⟩) := TW.cells i t ht 7 _ (by decide) rfl
    have hsn : l.take (i + 1) = l.take i ++ [t] := by rw [List.take_add_one, ht]; rfl
    have HSN := aq hsn
    have d1 : decide ((i : Int) < (l.length : Int)) = true := decide_eq_true (by omega)
    have m0 : (0 : Int) ≤ (i : Int) := by omega
    have m1 : (i : Int) < (l.length : Int) := by omega
    have m2 : i < l.length := hlt
    obtain ⟨V, hV⟩ : ∃ V, V = wr.alloc (.cells (T3c t.1 t.2.1 t.2.2) 33) := ⟨_, rfl⟩
    have U0 : V.heap[wr.heap.size]? = some (.cells (T3c t.1 t.2.1 t.2.2) 33 (0, 0)) := by rw [hV]; exact aZ rfl
    have I1 : V.heap[N]? = some (.cells (q4k B1 B2 B3 B4) 51 (0, 0)) := by rw [hV]; exact aN K_I.out
    have A1 : V.heap[q]? = some (.cells (T3c a.1 a.2.1 a.2.2) 33 (0, 0)) := by rw [hV]; exact aN K_A.out
    have BV : q0c (Below N w V) := ⟨by rw [hV]; exact BB.out.alloc (Nat.le_of_lt (q0g K_I.out)) _⟩
    have OV : q0c (V.ownsRow N 3 1 (.slice V1 i c1') i ((l.take i).map fun t => .int .i64 (q9x a t))) := ⟨by rw [hV]; exact World.ownsRow.alloc O_V.out _⟩
    have TV : q0c (q4b V gs l) := ⟨T_S.out.below (by rw [hV]; exact q0b (Below.refl _ _) _)⟩
    have K_1 := aq I1
    have KA1 := aq A1
    have IM : q0c (Img V B1 B2 B3 B4) := ⟨HI.out.below (by have h := BV.out; rwa [HNN.out] at h)⟩
    obtain ⟨i0, i1, i2, i3, i4, i5⟩ := cz6 (show V.heap[N]? = some (.cells #[.slice (some ⟨B1, 0, none⟩) 54 54, .slice (some ⟨B2, 0, none⟩) 32 32, .slice (some ⟨B3, 0, none⟩) 15 15, .slice (some ⟨B4, 0, none⟩) 7 7, .int .i64 40, .int .i64 5] 51 (0, 0)) from I1)
    obtain ⟨z0, z1, z2, z3, z4, z5, z6, z7⟩ := q5u U0
    obtain ⟨y0, y1, y2, y3, y4, y5, y6, y7⟩ := q5u A1
    unfold T3c at hV
    have HV2 := aq hV.symm
    clear ht hsn TW hV U0 I1 A1
    go_wp2_with (first
     | (rw [HV2.out])
     | (go_at_call 341; refine (k8o B1 B2 B3 B4 a t _ IM.out.c2 IM.out.c3 IM.out.c4).mono ?_; rintro e w1 ⟨rfl, hB⟩; have O1 : q0c (w1.ownsRow N 3 1 (.slice V1 i c1') i ((l.take i).map fun t => .int .i64 (q9x a t))) := ⟨q1o OV.out hB⟩; have B1' := aq (BV.out.trans (hB.mono (Nat.le_of_lt (q0g K_1.out)))); have K1 := kb K_1 hB; have A1 := kb KA1 hB; have T1 := aq (TV.out.below hB); clear hB)
     | ((with_reducible refine q1d (b := .append) (xs := #[.tmp 36, .tmp 41]) rfl ?_); at_builtin; refine q2f (w0 := w) N rfl (.tmp 36) (.tmp 41) 22 3 (.int .i64 0) 1 8 rfl hu22 (by kernel_rfl) rfl (by decide) (by decide) (.slice V1 i c1') i ((l.take i).map fun t => .int .i64 (q9x a t)) [.int .i64 (q9x a t)] rfl ?hx rfl ?h1 O1.out B1'.out (Nat.le_of_lt (q0g K1.out)) ?hl ?_; (case hx => rfl); (case h1 => simp [Value.oneCell']); (case hl => have := HL.out; omega); intro v2 w2 ho hb2 hg hat; obtain ⟨V2, c2', rfl⟩ := q0u ho; have O_2 := aq ho; have B2' := aq hb2; have K_2 := aq ((hg.block _ (q0g K1.out) (own_ne O1.out K1.out (by decide))).trans K1.out); have A_2 := aq ((hg.block _ (q0g A1.out) (own_ne O1.out A1.out (by decide))).trans A1.out); have T_2 : q0c (q4b w2 gs l) := ⟨by obtain ⟨cur, h1, h2⟩ := T1.out; exact ⟨cur, (hg.block _ (q0g h1) (own_ne O1.out h1 (by decide))).trans h1, h2⟩⟩; clear ho hb2 hg hat))
    go_roundw
    case rel =>
     exact ⟨i + 1, by congr 1, by omega, K_2, A_2, ⟨by rw [HSN.out, List.map_append]; exact O_2.out⟩, T_2, B2'⟩
    case measure => simp [intOf]; omega
  · obtain rfl : i = l.length := by omega
    have d1 : decide ((l.length : Int) < (l.length : Int)) = false := decide_eq_false (by omega)
    have ho := O_V.out
    rw [List.take_length] at ho
    have O_W := aq ho
    clear ho O_V
    obtain ⟨r, hr, hrc⟩ := k2y O_W.out HE.out
    subst hr
    have HR := aq hrc
    have HBB := aq BB.out
    clear hrc
    go_wp2_with (fail)
    rw [rounds_succ]
    go_wp2
    go_ret
    obtain ⟨Z, hZ⟩ : ∃ Z, Z = ((Question.appendCap 1 0 22).cut (wr.tape wr.drawn (Question.appendCap 1 0 22)) - 1) := ⟨_, rfl⟩
    have hfin : Below wr.heap.size wr (((wr.alloc (.cells #[.slice (some ⟨r, 0, none⟩) l.length c1'] 22)).alloc (.cells (#[.slice (some ⟨r, 0, none⟩) l.length c1'] ++ Builtin.zeroCells #[.slice none 0 0] Z) 22)).drew) := q0m (q0b (q0b (Below.refl _ _) _) _)
    have hg : (((wr.alloc (.cells #[.slice (some ⟨r, 0, none⟩) l.length c1'] 22)).alloc (.cells (#[.slice (some ⟨r, 0, none⟩) l.length c1'] ++ Builtin.zeroCells #[.slice none 0 0] Z) 22)).drew).cell? ⟨wr.heap.size + 1, 0, none⟩ = some (.slice (some ⟨r, 0, none⟩) l.length c1') := by
     have hsz : wr.heap.size + 1 = (wr.alloc (.cells #[.slice (some ⟨r, 0, none⟩) l.length c1'] 22)).heap.size := by simp
     rw [hsz]
     exact z7n _ _ _ _ (by rw [Array.getElem?_append_left (by exact Nat.zero_lt_one)]; rfl)
    rw [hZ] at hfin hg
    refine ⟨⟨_, _, r, c1', rfl, hg, fun i t hi => (hfin.cell (p := ⟨r, i, none⟩) ?_).trans (HR.out.2 i t hi)⟩, ?_⟩
    · exact HR.out.1
    · have hn := HNN.out
      have hb := HBB.out
      rw [hn] at hb
      exact hb.trans (hfin.mono hb.size)
end Go.Proofs.YtpmcfckechjppaaGreatDoor.Ps
namespace Go.Proofs.YtpmcfckechjppaaGreatDoor.Ps
open Go.RowKit Go.Shelf Go.Proofs.YtpmcfckechjppaaGreatDoorW.PrintWords Go.Proofs.YtpmcfckechjppaaGreatDoorW.PrintLast Go.Proofs.YtpmcfckechjppaaGreatDoorW.PrintMore Go.Proofs.YtpmcfckechjppaaGreatDoor.P Go.Proofs.YtpmcfckechjppaaGreatDoor.LikW
attribute [local go_sem] Oper.semAt_some
theorem j0m (k : Nat) (B1 B2 B3 B4 : Nat) (b1 c1 b2 c2 : Nat) (a x y z : K3) (ha : q3d k a.1 a.2.1 a.2.2) (hN : ∀ t ∈ [x, y, z], q3d k t.1 t.2.1 t.2.2) (e1 : q9x a x = 84) (e2 : q9x a y = 3) (e3 : q9x a z = 4) (w : World) (hT1 : q4b w b1 [a]) (hT2 : q4b w b2 [x, y, z]) (hI : Img w B1 B2 B3 B4) :
 Calls Tryz.prog 304 #[q6h B1 B2 B3 B4, .slice (some ⟨b1, 0, none⟩) 1 c1, .slice (some ⟨b2, 0, none⟩) 3 c2] w fun e w' => (∃ p v, e = .returned (.pointer (some ⟨p, 0, none⟩)) ∧ w.heap.size ≤ p ∧ PQ w' w.heap.size p v [(1, 0, 3), (2, 0, 4)]) ∧ Below w.heap.size w w' := by
 have hut := Tryz.underlying33
 have hui := Tryz.underlying51
 have hup := Tryz.underlying336
 have hum := Tryz.underlying247
 have hu22 := Tryz.underlying22
 have huu := Tryz.underlying337
 have HT1 := aq hT1
 have HT2 := aq hT2
 have HI := aq hI
 have HN := aq hN
 have HA := aq ha
 have E1 := aq e1
 have E2 := aq e2
 have E3 := aq e3
 clear hT1 hT2 hI hN ha e1 e2 e3
 unfold q6h
 go_enter Tryz.func304, Tryz.ntmps304
 go_wp2_with (first | (go_at_call 323; fail))
 obtain ⟨N, hN⟩ : ∃ N, N = w.heap.size := ⟨_, rfl⟩
 obtain ⟨W0, hW0⟩ : ∃ W0, W0 = (((w.alloc (.cells (q4k B1 B2 B3 B4) 51)).alloc (.cells #[] 247)).alloc (.cells #[.slice (some ⟨w.heap.size + 1, 0, none⟩) 0 0] 336)) := ⟨_, rfl⟩
 have KI : q0c (W0.heap[N]? = some (.cells (q4k B1 B2 B3 B4) 51 (0, 0))) := ⟨by rw [hW0, hN]; exact aN (aN (aZ rfl))⟩
 have KR : q0c (W0.heap[N + 1]? = some (.cells #[] 247 (0, 0))) := ⟨by rw [hW0, hN]; exact aN (aZ (by simp))⟩
 have KP : q0c (W0.heap[N + 1 + 1]? = some (.cells #[.slice (some ⟨N + 1, 0, none⟩) 0 0] 336 (0, 0))) := ⟨by rw [hW0, hN]; exact aZ (by simp)⟩
 have KB : q0c (Below N w W0) := ⟨by rw [hW0, hN]; exact q0b (q0b (q0b (Below.refl _ _) _) _) _⟩
 have KQ : q0c (PQ W0 N (N + 1 + 1) (.slice (some ⟨N + 1, 0, none⟩) 0 0) []) := ⟨KP.out, rfl, .inr ⟨N + 1, 0, #[], rfl, by omega, KR.out, Nat.le_refl _, Nat.zero_le _, rfl, rfl⟩⟩
 unfold q4k at hW0
 rw [← hW0, ← hN]
 have HNN := aq hN.symm
 have BW : q0c (Below w.heap.size w W0) := ⟨hN ▸ KB.out⟩
 clear hW0 hN
 refine (k6t k B1 B2 B3 B4 b1 c1 b2 c2 a [x, y, z] (by simp) (by simp) HA.out HN.out W0 (HT1.out.below BW.out) (HT2.out.below BW.out) (HI.out.below BW.out)).mono ?_
 rintro e w1 ⟨⟨g, cg, r, cr, rfl, hg, hr⟩, hb1⟩
 have r0 : w1.cell? ⟨r, 0, none⟩ = some (.int .i64 84) := by rw [← E1.out]; exact hr 0 x rfl
 have r1 : w1.cell? ⟨r, 1, none⟩ = some (.int .i64 3) := by rw [← E2.out]; exact hr 1 y rfl
 have r2 : w1.cell? ⟨r, 2, none⟩ = some (.int .i64 4) := by rw [← E3.out]; exact hr 2 z rfl
 have hg3 : w1.cell? ⟨g, 0, none⟩ = some (.slice (some ⟨r, 0, none⟩) 3 cr) := hg
 have KI1 := kb KI hb1
 have KR1 := kb KR hb1
 have KP1 := kb KP hb1
 have KB1 : q0c (Below N w w1) := ⟨KB.out.trans (hb1.mono (Nat.le_of_lt (q0g KI.out)))⟩
 have KQ1 : q0c (PQ w1 N (N + 1 + 1) (.slice (some ⟨N + 1, 0, none⟩) 0 0) []) := ⟨KP1.out, q1o KQ.out.2 hb1⟩
 have R2 := aq r2
 have np : q0c (r ≠ N + 1 + 1) := ⟨fun e => by rw [e, q0a KP1.out 0] at r0; simp at r0⟩
 have nr : q0c (r ≠ N + 1) := ⟨fun e => by rw [e, q0a KR1.out 0] at r0; simp at r0⟩
 have lr : q0c (r < w1.heap.size) := ⟨World.block_lt_of_cell? w1 _ r0⟩
 obtain ⟨i0, i1, i2, i3, i4, i5⟩ := cz6 (show w1.heap[N]? = some (.cells #[.slice (some ⟨B1, 0, none⟩) 54 54, .slice (some ⟨B2, 0, none⟩) 32 32, .slice (some ⟨B3, 0, none⟩) 15 15, .slice (some ⟨B4, 0, none⟩) 7 7, .int .i64 40, .int .i64 5] 51 (0, 0)) from KI1.out)
 clear hg hr hb1 KI KR KP KB KQ
 have hmi : ∀ (u : Value) (W : World), (Instr.makeInterface 312 u).run Tryz.prog W = .ok (.iface 312 u) W := fun u W => by kernel_rfl
 go_wp2
 refine wp_loop_rounds 2 ?_
 rw [rounds_succ]
 go_wp2
 refine wp_loop_rounds 4 ?_
 rw [rounds_succ]
 go_wp2
 rw [rounds_succ]
 go_wp2_with (first
  | (go_at_call 324; refine (k6e N (N + 1 + 1) _ 1 0 3 w _ KB1.out (by omega) KQ1.out).mono ?_; rintro e w2 ⟨⟨x2, rfl⟩, v2, hq, hb, hk, ho⟩; have KQ2 := aq hq; have KB2 := aq hb; have q2 : w2.cell? ⟨r, 2, none⟩ = some (.int .i64 4) := (World.cell?_of_block (hk.2 r lr.out np.out (fun e => nr.out (by simpa [Value.ownBlock] using e)))).trans R2.out; have KI2 : q0c (w2.heap[N]? = some (.cells (q4k B1 B2 B3 B4) 51 (0, 0))) := ⟨(hk.2 N (q0g KI1.out) (by omega) (fun e => by simp [Value.ownBlock] at e)).trans KI1.out⟩; clear hq hb hk ho i0 i1 i2 i3 i4 i5; obtain ⟨i0, i1, i2, i3, i4, i5⟩ := cz6 (show w2.heap[N]? = some (.cells #[.slice (some ⟨B1, 0, none⟩) 54 54, .slice (some ⟨B2, 0, none⟩) 32 32, .slice (some ⟨B3, 0, none⟩) 15 15, .slice (some ⟨B4, 0, none⟩) 7 7, .int .i64 40, .int .i64 5] 51 (0, 0)) from KI2.out)))
 rw [rounds_succ]
 go_wp2_with (first
  | (go_at_call 324; refine (k5v N (N + 1 + 1) v2 1 0 3 2 0 4 (by decide) w _ KB2.out (by omega) KQ2.out).mono ?_; rintro e w3 ⟨⟨x3, rfl⟩, v3, hq, hb, hk, ho⟩; have KQ3 := aq hq; have KB3 := aq hb; clear hq hb hk ho))
 rw [rounds_succ]
 go_wp2
 rw [rounds_succ]
 go_wp2
 go_ret
 have hn := HNN.out
 exact ⟨⟨N + 1 + 1, v3, rfl, by omega, hn ▸ KQ3.out⟩, hn ▸ KB3.out⟩
def j1l (m : Int × Int × Int) : Array Value := #[.agg #[.int .i64 m.1, .int .i64 m.2.1, .int .i64 m.2.2]]
theorem v2j (n : Nat) (hn : 1 ≤ n) (k : Nat) (B1 B2 B3 B4 : Nat) (b1 c1 b2 c2 : Nat) (a x y z : K3) (ha : q3d k a.1 a.2.1 a.2.2) (hN : ∀ t ∈ [x, y, z], q3d k t.1 t.2.1 t.2.2) (e1 : q9x a x = 84) (e2 : q9x a y = 3) (e3 : q9x a z = 4) (w : World) (hT1 : q4b w b1 [a]) (hT2 : q4b w b2 [x, y, z]) (hI : Img w B1 B2 B3 B4)
 (pi p1 p2 : Nat) (hpi : w.heap[pi]? = some (.cells (q4k B1 B2 B3 B4) 51 (0, 0))) (hp1 : w.heap[p1]? = some (.cells #[.slice (some ⟨b1, 0, none⟩) 1 c1] 193 (0, 0))) (hp2 : w.heap[p2]? = some (.cells #[.slice (some ⟨b2, 0, none⟩) 3 c2] 193 (0, 0))) :
 k3m Fence.wide n Tryz.prog 303 #[.pointer (some ⟨pi, 0, none⟩), .pointer (some ⟨p1, 0, none⟩), .pointer (some ⟨p2, 0, none⟩)] j1l (1, 0, 3) w := fun l J Jx W hW hJ hJx hY h0 => by
 have hui := Tryz.underlying51
 have hum := Tryz.underlying247
 have hmi : ∀ (u : Value) (W : World), (Instr.makeInterface 312 u).run Tryz.prog W = .ok (.iface 312 u) W := fun u W => by kernel_rfl
 have hta : ∀ (u : Value) (W : World), (Instr.typeAssert (.iface 247 u) 20 247 true).run Tryz.prog W = .ok (.tuple #[u, .bool true]) W := fun u W => by kernel_rfl
 obtain ⟨i0, i1, i2, i3, i4, i5⟩ := cz6 (show W.heap[pi]? = some (.cells #[.slice (some ⟨B1, 0, none⟩) 54 54, .slice (some ⟨B2, 0, none⟩) 32 32, .slice (some ⟨B3, 0, none⟩) 15 15, .slice (some ⟨B4, 0, none⟩) 7 7, .int .i64 40, .int .i64 5] 51 (0, 0)) from (hW.block _ (q0g hpi)).trans hpi)
 have d1 := (q0a ((hW.block _ (q0g hp1)).trans hp1) 0).trans rfl
 have d2 := (q0a ((hW.block _ (q0g hp2)).trans hp2) 0).trans rfl
 have HT1 := aq (hT1.below hW)
 have HT2 := aq (hT2.below hW)
 have HI := aq (hI.below hW)
 have HN := aq hN
 have HA := aq ha
 have E1 := aq e1
 have E2 := aq e2
 have E3 := aq e3
 have HY := aq hY
 have HJ := aq hJ
 have H0 := aq h0
 clear hT1 hT2 hI hN ha e1 e2 e3 hpi hp1 hp2 hW hJ hJx hY h0
 refine callsIn_of_wp Tryz.func303 rfl trivial ?_ rfl
 simp only [Tryz.ntmps303, List.size_toArray, List.length_cons, List.length_nil, Nat.reduceAdd, Nat.reduceSub, Array.replicate_succ, Array.replicate_zero, List.push_toArray, List.append_toArray, List.nil_append, List.cons_append]
 gi_wp2_with (first
  | (refine ⟨trivial, callsIn_wide.2 (Calls.mono (j0m k B1 B2 B3 B4 b1 c1 b2 c2 a x y z HA.out HN.out E1.out E2.out E3.out _ HT1.out HT2.out HI.out) ?_)⟩; rintro e w1 ⟨⟨p, v, rfl, hp, hq⟩, hb⟩; have Q1 := aq hq; have B1w := aq hb; obtain ⟨A1, cc, hv⟩ := q0u hq.2; subst hv; have z1 := z2n p w1 _ ((q0a hq.1 0).trans rfl); clear hq hb))
 refine wpIn_loop_rounds 1 ?_
 rw [roundsIn_succ]
 gi_wp2_with (first
  | (refine ⟨trivial, callsIn_wide.2 (Calls.mono (k1q _ _ _ _) ?_)⟩; rintro e w2 ⟨rfl, hw2⟩; rw [hw2]; clear hw2)
  | (refine ⟨trivial, callsIn_wide.2 (Calls.mono (k8u W.heap.size p _ 1 0 3 2 0 4 W _ B1w.out hp Q1.out) ?_)⟩; rintro e w3 ⟨rfl, hb3⟩; have B3 := aq hb3; obtain ⟨w4, hw4⟩ : ∃ w4, w4 = w3.alloc (.cells #[.int .i64 1, .int .i64 0, .int .i64 3] 247) := ⟨_, rfl⟩; have J4 : J [] w4 := HJ.out _ _ _ none H0.out (q3v (by rw [hw4]; exact q0b hb3 _) none) (fun r e => by cases e); obtain ⟨fn, tmps, assign, body, hy, hR⟩ := HY.out w4 J4; have HR := aq hR; rw [hw4] at hy HR; simp only [j1l] at hy; clear hR hb3 hw4 J4))
 refine HR.out.mono ?_
 rintro e W5 ⟨rfl, hJ5⟩
 have HJ5 := aq hJ5
 clear hJ5 hy
 gi_wp2_with (fail)
 refine bodyPost_ret (results_none rfl _ _ _) rfl ?_
 exact ⟨⟨_, rfl⟩, HJ5.out⟩
theorem k3h (n : Nat) (B1 B2 B3 B4 : Nat) (b1 c1 b2 c2 : Nat) (w : World) : CallsIn Fence.wide n Tryz.prog 263 #[q6h B1 B2 B3 B4, .slice (some ⟨b1, 0, none⟩) 1 c1, .slice (some ⟨b2, 0, none⟩) 3 c2] w fun e w' =>
 e = .returned (.func (.func 303) #[] #[.pointer (some ⟨w.heap.size, 0, none⟩), .pointer (some ⟨w.heap.size + 1, 0, none⟩), .pointer (some ⟨w.heap.size + 1 + 1, 0, none⟩)]) ∧ w' = ((w.alloc (.cells (q4k B1 B2 B3 B4) 51)).alloc (.cells #[.slice (some ⟨b1, 0, none⟩) 1 c1] 193)).alloc (.cells #[.slice (some ⟨b2, 0, none⟩) 3 c2] 193) := by
 have hmf : ∀ (fn : Fn) (first cap : Array Value) (w : World), (Instr.makeFunc fn first cap).run Tryz.prog w = .ok (.func fn first cap) w := fun _ _ _ _ => rfl
 have hui := Tryz.underlying51
 unfold q6h q4k
 refine callsIn_of_wp Tryz.func263 rfl trivial ?_ rfl
 simp only [Tryz.ntmps263, List.size_toArray, List.length_cons, List.length_nil, Nat.reduceAdd, Nat.reduceSub, Array.replicate_succ, Array.replicate_zero, List.push_toArray, List.append_toArray, List.nil_append, List.cons_append]
 gi_wp2
 go_ret
 exact ⟨rfl, rfl⟩
theorem k9n (k : Nat) (B1 B2 B3 B4 : Nat) (b1 c1 b2 c2 : Nat) (a x y z : K3) (ha : q3d k a.1 a.2.1 a.2.2) (hN : ∀ t ∈ [x, y, z], q3d k t.1 t.2.1 t.2.2) (e1 : q9x a x = 84) (e2 : q9x a y = 3) (e3 : q9x a z = 4) (w : World) (hT1 : q4b w b1 [a]) (hT2 : q4b w b2 [x, y, z]) (hI : Img w B1 B2 B3 B4) :
 Calls Tryz.prog 219 #[q6h B1 B2 B3 B4, .slice (some ⟨b1, 0, none⟩) 1 c1, .slice (some ⟨b2, 0, none⟩) 3 c2] w fun e w' => e = .returned (.tuple #[.agg #[.int .i64 1, .int .i64 0, .int .i64 3], .bool true]) ∧ Below w.heap.size w w' := by
 have hui := Tryz.underlying51
 have hum := Tryz.underlying247
 have HT1 := aq hT1
 have HT2 := aq hT2
 have HI := aq hI
 have HN := aq hN
 have HA := aq ha
 have E1 := aq e1
 have E2 := aq e2
 have E3 := aq e3
 clear hT1 hT2 hI hN ha e1 e2 e3
 unfold q6h
 refine (callsIn_wide (n := 4)).1 ?_
 refine callsIn_of_wp_marks Tryz.func219 rfl trivial ?_ rfl
 simp only [Tryz.ntmps219, List.size_toArray, List.length_cons, List.length_nil, Nat.reduceAdd, Nat.reduceSub, Array.replicate_succ, Array.replicate_zero, List.push_toArray, List.append_toArray, List.nil_append, List.cons_append]
 gi_wp2_with (first
  | (refine ⟨trivial, ?_⟩; gi_at_call 263; refine (k3h _ B1 B2 B3 B4 b1 c1 b2 c2 _).mono ?_; rintro e w2 ⟨rfl, rfl⟩))
 obtain ⟨N, hN⟩ : ∃ N, N = w.heap.size := ⟨_, rfl⟩
 obtain ⟨W0, hW0⟩ : ∃ W0, ((((((w.alloc (.cells (q4k B1 B2 B3 B4) 51)).alloc (.cells #[.int .i64 0, .int .i64 0, .int .i64 0] 247)).alloc (.cells #[.bool false] 4)).alloc (.cells (q4k B1 B2 B3 B4) 51)).alloc (.cells #[.slice (some ⟨b1, 0, none⟩) 1 c1] 193)).alloc (.cells #[.slice (some ⟨b2, 0, none⟩) 3 c2] 193)) = W0 := ⟨_, rfl⟩
 have n1 : W0.heap[N + 1]? = some (.cells #[.int .i64 0, .int .i64 0, .int .i64 0] 247 (0, 0)) := by rw [← hW0, hN]; exact aN (aN (aN (aN (aZ (by simp)))))
 have n2 : W0.heap[N + 1 + 1]? = some (.cells #[.bool false] 4 (0, 0)) := by rw [← hW0, hN]; exact aN (aN (aN (aZ (by simp))))
 have n3 : W0.heap[N + 1 + 1 + 1]? = some (.cells (q4k B1 B2 B3 B4) 51 (0, 0)) := by rw [← hW0, hN]; exact aN (aN (aZ (by simp)))
 have n4 : W0.heap[N + 1 + 1 + 1 + 1]? = some (.cells #[.slice (some ⟨b1, 0, none⟩) 1 c1] 193 (0, 0)) := by rw [← hW0, hN]; exact aN (aZ (by simp))
 have n5 : W0.heap[N + 1 + 1 + 1 + 1 + 1]? = some (.cells #[.slice (some ⟨b2, 0, none⟩) 3 c2] 193 (0, 0)) := by rw [← hW0, hN]; exact aZ (by simp)
 have s0 : W0.heap.size = N + 1 + 1 + 1 + 1 + 1 + 1 := by rw [← hW0, hN]; simp
 have hB0 : Below N w W0 := by rw [← hW0, hN]; exact q0b (q0b (q0b (q0b (q0b (q0b (Below.refl _ _) _) _) _) _) _) _
 have hBw : Below w.heap.size w W0 := hN ▸ hB0
 unfold q4k at hW0 ⊢
 rw [hW0, ← hN]
 have HNN := aq hN
 clear hW0 hN
 refine range_one rfl (by omega) (gf := 303) (lb := #[.pointer (some ⟨N + 1 + 1 + 1, 0, none⟩), .pointer (some ⟨N + 1 + 1 + 1 + 1, 0, none⟩), .pointer (some ⟨N + 1 + 1 + 1 + 1 + 1, 0, none⟩)]) rfl trivial (enters_of Tryz.func303 (by kernel_rfl) rfl)
  (v2j _ (by omega) k B1 B2 B3 B4 b1 c1 b2 c2 a x y z HA.out HN.out E1.out E2.out E3.out W0 (HT1.out.below hBw) (HT2.out.below hBw) (HI.out.below hBw) (N + 1 + 1 + 1) (N + 1 + 1 + 1 + 1) (N + 1 + 1 + 1 + 1 + 1) n3 n4 n5) (Below.refl _ _) rfl
  (fun W => W.heap[N + 1]? = some (.cells #[.int .i64 0, .int .i64 0, .int .i64 0] 247 (0, 0)) ∧ W.heap[N + 1 + 1]? = some (.cells #[.bool false] 4 (0, 0)) ∧ Below N w W)
  (fun c W => c = .ret ∧ W.heap[N + 1]? = some (.cells #[.int .i64 1, .int .i64 0, .int .i64 3] 247 (0, 0)) ∧ W.heap[N + 1 + 1]? = some (.cells #[.bool true] 4 (0, 0)) ∧ Below N w W)
  (fun pre A B row ⟨i1, i2, i3⟩ hg hr => ⟨(hg.block _ (q0g i1) (fun e => by have := hr _ e.symm; omega)).trans i1, (hg.block _ (q0g i2) (fun e => by have := hr _ e.symm; omega)).trans i2, i3.grown hg (by have := q0g i1; omega) (fun r e => by have := hr r e; omega)⟩)
  (fun c pre A B row ⟨i0, i1, i2, i3⟩ hg hr => ⟨i0, (hg.block _ (q0g i1) (fun e => by have := hr _ e.symm; omega)).trans i1, (hg.block _ (q0g i2) (fun e => by have := hr _ e.symm; omega)).trans i2, i3.grown hg (by have := q0g i1; omega) (fun r e => by have := hr r e; omega)⟩)
  ⟨n1, n2, hB0⟩ ?round ?stop
 case round =>
  rintro lp W K hlp ⟨i1, i2, i3⟩ hK
  simp only [j1l]
  have I1 := aq i1
  have I2 := aq i2
  have I3 := aq i3
  clear i1 i2 i3 n1 n2 n3 n4 n5
  gi_wp2
  have hu0 : (W.alloc (.cells #[.int .i64 1, .int .i64 0, .int .i64 3] 247)).heap[W.heap.size]? = some (.cells #[.int .i64 1, .int .i64 0, .int .i64 3] 247 (0, 0)) := aZ rfl
  have hb0 : Below W.heap.size W (W.alloc (.cells #[.int .i64 1, .int .i64 0, .int .i64 3] 247)) := q0b (Below.refl _ _) _
  refine hK _ _ ((q5f hb0).from _) ?_
  rintro W3 ⟨r, o, hr, hW3, ⟨q, hq, hqc⟩, hoc⟩
  have hrne : ∀ (k : Nat) (o' : Obj), (W.alloc (.cells #[.int .i64 1, .int .i64 0, .int .i64 3] 247)).heap[k]? = some o' → o'.isCells = true → W3.heap[k]? = some o' := fun k o' h1 h2 => by
   rw [hW3]
   refine (World.putObj_heap_other ?_).trans h1
   rintro rfl
   rw [hq] at h1
   cases h1
   rw [hqc] at h2
   cases h2
  have U3 := aq (hrne _ _ hu0 rfl)
  have L1 := aq (hrne _ _ ((hb0.block _ (q0g I1.out)).trans I1.out) rfl)
  have L2 := aq (hrne _ _ ((hb0.block _ (q0g I2.out)).trans I2.out) rfl)
  have B3' : q0c (Below N w W3) := ⟨by rw [hW3]; have h1 := I3.out.size; have h2 := hb0.size; have h3 := HNN.out; have h4 := q0g I2.out; exact q8z (by omega) (by omega) (I3.out.trans (hb0.mono (by omega))) (by omega) _⟩
  clear hu0 hb0 hW3 hq hqc hoc hrne hK I1 I2 I3
  have u0 := (q0a U3.out 0).trans rfl
  have u1 := (q0a U3.out 1).trans rfl
  have u2 := (q0a U3.out 2).trans rfl
  have l0 := (q0a L1.out 0).trans rfl
  have l1 := (q0a L1.out 1).trans rfl
  have l2 := (q0a L1.out 2).trans rfl
  have f0 := q0e L1.out 0
  have f1 := q0e L1.out 1
  have f2 := q0e L1.out 2
  have g0 := (q0a L2.out 0).trans rfl
  have h0 := q0e L2.out 0
  refine wpIn_block ?_
  gi_wp2_with (fail)
  have T3 := q0l (q0l (q0l L1.out 0 (.int .i64 1) rfl) 1 (.int .i64 0) rfl) 2 (.int .i64 3) rfl
  have S2 : ((((W3.setCell ⟨N + 1, 0, none⟩ (.int .i64 1)).setCell ⟨N + 1, 1, none⟩ (.int .i64 0)).setCell ⟨N + 1, 2, none⟩ (.int .i64 3))).heap[N + 1 + 1]? = some (.cells #[.bool false] 4 (0, 0)) := q1e (q1e (q1e L2.out (by simp) _) (by simp) _) (by simp) _
  refine ⟨((((KeepsOthers.of_grownBy (q2y _ _ _ _) (fun k o e ho => by cases e; rw [L1.out] at ho; cases ho; rfl)).trans (KeepsOthers.of_grownBy (q2y _ _ _ _) (fun k o e ho => by cases e; rw [q0l L1.out 0 (.int .i64 1) rfl] at ho; cases ho; rfl))).trans (KeepsOthers.of_grownBy (q2y _ _ _ _) (fun k o e ho => by cases e; rw [q0l (q0l L1.out 0 (.int .i64 1) rfl) 1 (.int .i64 0) rfl] at ho; cases ho; rfl))).trans (KeepsOthers.of_grownBy (q2y _ _ _ _) (fun k o e ho => by cases e; rw [S2] at ho; cases ho; rfl))).from _, rfl, q1e T3 (by simp) _, q0l S2 0 _ rfl, q1y (q1y (q1y (q1y B3'.out (by omega)) (by omega)) (by omega)) (by omega)⟩
 case stop =>
  rintro D c W hD ⟨rfl, i1, i2, i3⟩ hK
  refine wpIn_ret ?_
  simp only [Exit.inBlock, Exit.then]
  have h0 := HNN.out
  refine ⟨by simp, .inl ⟨D, _, rfl, run_takeDeferred hK, ?_⟩⟩
  obtain ⟨W8, hW8⟩ : ∃ W8, W8 = W.putObj D (.deferred none) := ⟨_, rfl⟩
  have T8 : W8.heap[N + 1]? = some (.cells #[.int .i64 1, .int .i64 0, .int .i64 3] 247 (0, 0)) := by rw [hW8]; exact (World.putObj_heap_other (by omega)).trans i1
  have S8 : W8.heap[N + 1 + 1]? = some (.cells #[.bool true] 4 (0, 0)) := by rw [hW8]; exact (World.putObj_heap_other (by omega)).trans i2
  have B8 : Below w.heap.size w W8 := by
   rw [hW8, ← h0]
   exact i3.trans (belowK_b (w := w) (by omega) _ D _ _ (by omega) hK rfl rfl)
  have c0 := (q0a T8 0).trans rfl
  have c1 := (q0a T8 1).trans rfl
  have c2 := (q0a T8 2).trans rfl
  have d0 := (q0a S8 0).trans rfl
  rw [← hW8]
  show ∃ v, _ ∧ _
  refine ⟨.tuple #[.agg #[.int .i64 1, .int .i64 0, .int .i64 3], .bool true], ?_, rfl, B8⟩
  simp [results, Tryz.results219, asAddr, c0, c1, c2, d0, hum, go_sem]
theorem k3f (k : Nat) (B1 B2 B3 B4 : Nat) (b1 c1 b2 c2 : Nat) (a x y z : K3) (ha : q3d k a.1 a.2.1 a.2.2) (hN : ∀ t ∈ [x, y, z], q3d k t.1 t.2.1 t.2.2) (e1 : q9x a x = 84) (e2 : q9x a y = 3) (e3 : q9x a z = 4) (w : World) (hT1 : q4b w b1 [a]) (hT2 : q4b w b2 [x, y, z]) (hI : Img w B1 B2 B3 B4) (o : Int) :
 Calls Tryz.prog 171 #[q6h B1 B2 B3 B4, .slice (some ⟨b1, 0, none⟩) 1 c1, .slice (some ⟨b2, 0, none⟩) 3 c2, .int .i64 o] w fun e w' => e = .returned (.int .i64 1) ∧ Below w.heap.size w w' := by
 have hui := Tryz.underlying51
 have hum := Tryz.underlying247
 obtain ⟨V, hV⟩ : ∃ V, V = w.alloc (.cells (q4k B1 B2 B3 B4) 51) := ⟨_, rfl⟩
 have hB : Below w.heap.size w V := by rw [hV]; exact q0b (Below.refl _ _) _
 have HT1 := aq (hT1.below hB)
 have HT2 := aq (hT2.below hB)
 have HI := aq (hI.below hB)
 have HB := aq hB
 have HN := aq hN
 have HA := aq ha
 have E1 := aq e1
 have E2 := aq e2
 have E3 := aq e3
 unfold q4k at hV
 have HV := aq hV.symm
 obtain ⟨i0, i1, i2, i3, i4, i5⟩ := cz6 (show V.heap[w.heap.size]? = some (.cells #[.slice (some ⟨B1, 0, none⟩) 54 54, .slice (some ⟨B2, 0, none⟩) 32 32, .slice (some ⟨B3, 0, none⟩) 15 15, .slice (some ⟨B4, 0, none⟩) 7 7, .int .i64 40, .int .i64 5] 51 (0, 0)) from by rw [hV]; exact aZ rfl)
 clear hT1 hT2 hI hN ha e1 e2 e3 hB hV
 unfold q6h
 go_enter Tryz.func171, Tryz.ntmps171
 go_wp2_with (first
  | (rw [HV.out])
  | (go_at_call 219; refine (k9n k B1 B2 B3 B4 b1 c1 b2 c2 a x y z HA.out HN.out E1.out E2.out E3.out _ HT1.out HT2.out HI.out).mono ?_; rintro e w2 ⟨rfl, hb⟩))
 go_ret
 refine ⟨rfl, ?_⟩
 have h := HB.out.trans (hb.mono HB.out.size)
 repeat (first | exact h | refine q0b ?_ _ | refine q1y ?_ (by have := h.size; omega))
end Go.Proofs.YtpmcfckechjppaaGreatDoor.Ps
namespace Go.Proofs.YtpmcfckechjppaaGreatDoor.Ps
open Go.RowKit Go.Shelf Go.Proofs.YtpmcfckechjppaaGreatDoorW.PrintWords Go.Proofs.YtpmcfckechjppaaGreatDoorW.PrintLast Go.Proofs.YtpmcfckechjppaaGreatDoorW.PrintMore Go.Proofs.YtpmcfckechjppaaGreatDoor.P Go.Proofs.YtpmcfckechjppaaGreatDoor.LikW
def q9n (W : World) (b : Nat) (l : List ByteArray) : Prop := ∃ cur, W.heap[b]? = some (.cells cur 9 (0, 0)) ∧ ∀ (i : Nat) t, l[i]? = some t → cur[i]? = some (.string t)
theorem q9n.below {W W1 : World} {b : Nat} {l : List ByteArray} (h : q9n W b l) (hb : Below W.heap.size W W1) : q9n W1 b l := by
 obtain ⟨cur, h1, h2⟩ := h
 exact ⟨cur, (hb.block _ (q0g h1)).trans h1, h2⟩
theorem q9n.cell {W : World} {b : Nat} {l : List ByteArray} (h : q9n W b l) (i : Nat) (t : ByteArray) (hi : l[i]? = some t) : W.cell? ⟨b, i, none⟩ = some (.string t) := by
 obtain ⟨cur, h1, h2⟩ := h
 exact (q0a h1 i).trans (h2 i t hi)
def GM (w : World) : Prop := ∃ m t fr, w.heap[2]? = some (.cells #[.int .i64 m] t fr)
theorem GM.below {w w1 : World} (h : GM w) (hb : Below w.heap.size w w1) : GM w1 := by
 obtain ⟨m, t, fr, hg⟩ := h
 exact ⟨m, t, fr, (hb.block 2 (q0g hg)).trans hg⟩
theorem GM.cell {w : World} (h : GM w) : ∃ m, w.cell? ⟨2, 0, none⟩ = some (.int .i64 m) := by
 obtain ⟨m, t, fr, hg⟩ := h
 exact ⟨m, by simp [World.cell?, hg]⟩
theorem v9o (x : ByteArray) (W : World) : Calls Tryz.prog 90 #[.string x] W fun e w' => e = .returned (.bool x.toList.isEmpty) ∧ ∃ q, w' = W.drewN q := by
 cases h : x.toList.isEmpty
 all_goals
  go_enter Tryz.func90, Tryz.ntmps90
  go_wp2
  go_ret
  exact ⟨rfl, 0, rfl⟩
theorem k6x {W : World} {b : Nat} {cur : Array Value} {e : TypeId} (h : W.heap[b]? = some (.cells cur e (0, 0))) (d : Array ByteArray) (q : Nat) : (Sort.putRow Value.string (Sort.ahead W q) b 0 d).heap[b]? = some (.cells (Sort.putCells Value.string 0 d cur) e (0, 0)) := by
 simp [Sort.putRow, Sort.mapBlock, Sort.ahead, Sort.onCells, Array.getElem?_modify, h]
theorem k5u {W : World} {b k : Nat} (hk : k ≠ b) (d : Array ByteArray) (q : Nat) : (Sort.putRow Value.string (Sort.ahead W q) b 0 d).heap[k]? = W.heap[k]? := by
 simp [Sort.putRow, Sort.mapBlock, Sort.ahead, Array.getElem?_modify, Ne.symm hk]
theorem j0l (l : List ByteArray) (W : World) (b : Nat) (hh : Sort.Holds Value.string W b 0 l.toArray) (hl : l.length ≤ 1000000) :
 Calls Tryz.prog 88 #[.slice (some ⟨b, 0, none⟩) l.length l.length, .func (.func 90) #[] #[]] W fun e w' => e = .returned (.slice (some ⟨b, 0, none⟩) (q3i l).length l.length) ∧ ∃ q, w' = Sort.putRow Value.string (Sort.ahead W q) b 0 ((q3i l) ++ List.replicate (l.toArray.size - (q3i l).length) (⟨#[]⟩ : ByteArray)).toArray := by
 have h := Tryz.slices_DeleteFunc Value.string (fun _ => rfl) (fun x : ByteArray => x.toList.isEmpty) 90 #[] (enters_of Tryz.func90 (by kernel_rfl) rfl) ⟨#[]⟩ (fun w => by kernel_rfl) b 0 l.length l.toArray W (fun W x _ => v9o x W) (fun _ _ _ x _ => v9o x _) hh (by simp; omega) (by simp)
 exact h
theorem k7g (s : ByteArray) (l : List ByteArray) (hl : Lib.splitB ⟨#[32]⟩ 0 (Lib.countB s ⟨#[32]⟩) s = l) (hn : Lib.countB s ⟨#[32]⟩ + 1 = l.length) (hne : q3i l = l) (hs : s.size < 4294967281) (hlen : l.length ≤ 1000000) (w : World) (hG : GM w) :
 Calls Tryz.prog 58 #[.string s] w fun e w' => (∃ b, e = .returned (.slice (some ⟨b, 0, none⟩) l.length l.length) ∧ w.heap.size ≤ b ∧ q9n w' b l) ∧ Below w.heap.size w w' := by
 obtain ⟨m, hm⟩ := hG.cell
 have HM := aq hm
 have HL := aq hl
 have HN := aq hn
 have HE := aq hne
 have HS := aq hs
 obtain ⟨W1, hW1⟩ : ∃ W1, W1 = w.alloc (.cells (l.map Value.string).toArray 9) := ⟨_, rfl⟩
 have k1 : W1.heap[w.heap.size]? = some (.cells (l.map Value.string).toArray 9 (0, 0)) := by rw [hW1]; exact aZ rfl
 have b1 : Below w.heap.size w W1 := by rw [hW1]; exact q0b (Below.refl _ _) _
 have hh : Sort.Holds Value.string W1 w.heap.size 0 l.toArray := fun j hj => by
  have hj' : j < l.length := by simpa using hj
  refine ⟨?_, q0e k1 _⟩
  rw [Nat.zero_add]
  refine (q0a k1 j).trans ?_
  simp [List.getElem?_eq_getElem hj', hj']
 have K1 := aq k1
 have B1 := aq b1
 have HH := aq hh
 have HW := aq hW1
 clear hl hn hne hs hm k1 b1 hh hW1 hG
 have eg := enters_of Tryz.func90 (by kernel_rfl) rfl
 unfold Enters at eg
 go_enter Tryz.func58, Tryz.ntmps58
 go_wp2_with (first
  | (go_at_call 89; refine (Tryz.strings_Split s ⟨#[32]⟩ m _ HS.out HM.out (by decide)).mono ?_; rintro e w2 ⟨rfl, hw2⟩; rw [HL.out, ← HW.out] at hw2; rw [hw2, HN.out]; clear hw2)
  | (go_at_call 88; refine Calls.mono (j0l l W1 w.heap.size HH.out hlen) ?_; rintro e w3 ⟨rfl, q, hq'⟩; have HQ := aq hq'; clear hq'))
 go_ret
 rw [HE.out]
 have K := k6x K1.out l.toArray q
 have hq := HQ.out
 rw [HE.out] at hq
 simp only [List.size_toArray, Nat.sub_self, List.replicate_zero, List.append_nil] at hq
 rw [← hq] at K
 refine ⟨⟨_, rfl, Nat.le_refl _, _, K, fun i t hi => ?_⟩, ?_⟩
 · have hlt := (List.getElem?_eq_some_iff.1 hi).1
   simp only [Sort.putCells, Array.getElem?_mapIdx, List.getElem?_toArray, List.getElem?_map, hi, Option.map_some, List.size_toArray]
   rw [if_pos ⟨Nat.zero_le _, by omega⟩]
   simp [hlt, (List.getElem?_eq_some_iff.1 hi).2]
 · rw [hq]
   have h1 := B1.out
   exact ⟨h1.os, h1.tape, h1.output, by simpa [Sort.putRow, Sort.mapBlock, Sort.ahead] using h1.size, fun k hk => (k5u (by omega) _ _).trans (h1.block k hk)⟩
theorem j2n (t : Nat) : 2 ≤ (Question.appendCap 2 1 9).cut t := by
 show 2 ≤ 2 + t % (2 ^ 63 - 2)
 omega
theorem j2e (b c : Nat) (s : ByteArray) (hs : s.size ≤ 1000000) (w : World) (hc : w.cell? ⟨b, 0, none⟩ = some (.string s)) :
 Calls Tryz.prog 107 #[.slice (some ⟨b, 0, none⟩) 1 c] w fun e w' => e = .returned (.string ⟨(Lib.join [[111, 107], s.data.toList] [32]).toArray⟩) ∧ Below w.heap.size w w' := by
 have hu := Tryz.underlying26
 have hlt := World.block_lt_of_cell? w _ hc
 have z := fun o => (show (w.alloc o).cell? ⟨b, 0, none⟩ = some (.string s) from (World.cell?_of_block ((q0b (Below.refl w.heap.size w) o).block b hlt)).trans hc)
 go_enter Tryz.func107, Tryz.ntmps107
 go_wp2_with (first | (go_at_call 147; fail))
 obtain ⟨C, hC⟩ : ∃ C, C = ((Question.appendCap 2 1 9).cut (w.tape w.drawn (Question.appendCap 2 1 9))) := ⟨_, rfl⟩
 have h2 : 2 ≤ C := by rw [hC]; exact j2n _
 rw [← hC]
 obtain ⟨W1, hW1⟩ : ∃ W1, W1 = ((w.alloc (.cells #[.string ⟨#[111, 107]⟩] 9)).alloc (.cells (#[.string ⟨#[111, 107]⟩, .string s] ++ Builtin.zeroCells #[.string ⟨#[]⟩] (C - 2)) 9)).drew := ⟨_, rfl⟩
 have k1 : W1.heap[w.heap.size + 1]? = some (.cells (#[.string ⟨#[111, 107]⟩, .string s] ++ Builtin.zeroCells #[.string ⟨#[]⟩] (C - 2)) 9 (0, 0)) := by rw [hW1]; exact aZ (W := w.alloc (.cells #[.string ⟨#[111, 107]⟩] 9)) (by simp)
 have b1 : Below w.heap.size w W1 := by rw [hW1]; exact q0m (q0b (q0b (Below.refl _ _) _) _)
 rw [← hW1]
 clear hW1 hC z
 have hcells : ∀ (j : Nat) x, ([⟨#[111, 107]⟩, s] : List ByteArray)[j]? = some x → W1.cell? ⟨w.heap.size + 1, 0 + j, none⟩ = some (.string x) := fun j x hx => by
  have hj := (List.getElem?_eq_some_iff.1 hx).1
  rw [Nat.zero_add]
  refine (q0a k1 j).trans ?_
  rw [Array.getElem?_append_left (by simpa using hj)]
  match j, hj with
  | 0, _ => cases hx; rfl
  | 1, _ => cases hx; rfl
 refine (Tryz.strings_Join (w.heap.size + 1) 0 C [⟨#[111, 107]⟩, s] ⟨#[32]⟩ W1 hcells (q0g k1) (by simp) h2 (by simp [Lib.join]; have : s.data.size = s.size := rfl; omega)).mono ?_
 rintro e w2 ⟨rfl, hb⟩
 go_wp2
 go_ret
 exact ⟨rfl, b1.trans (hb.mono b1.size)⟩
end Go.Proofs.YtpmcfckechjppaaGreatDoor.Ps
