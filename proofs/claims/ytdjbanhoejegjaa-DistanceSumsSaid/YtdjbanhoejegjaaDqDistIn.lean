/- distance.In, walked. -/
import Derived.Test.YtdjbanhoejegjaaDqLikRows
namespace Go.Proofs.Ytdjbanhoejegjaa.LikW
open Go.RowKit Go.Proofs.YtdjbanhoejegjaaW.PrintWords Go.Proofs.YtdjbanhoejegjaaW.PrintLast Go.Proofs.Ytdjbanhoejegjaa.P
set_option linter.unusedVariables false
set_option linter.unusedSimpArgs false

theorem toList_inj {a b : ByteArray} (h : a.toList = b.toList) : a = b := by
  rw [ByteArray.toList_eq, ByteArray.toList_eq] at h
  exact ByteArray.ext (Array.toList_inj.1 h)
def inP (ms : List S69) (s r : ByteArray) : Bool := ms.any fun m => decide (m.f0 = s ∧ m.f1 = r)
set_option maxRecDepth 100000 in
set_option maxHeartbeats 4000000 in
theorem in_calls (A0 : Option Addr) (n0 c0 : Nat) (A1 : Option Addr) (n1 c1 : Nat) (A2 : Option Addr) (n2 c2 : Nat) (A3 : Option Addr) (c3 : Nat) (ms : List S69) (p q : Int) (s r : ByteArray) (w : World) (hC : Kd.C k69 w A3 ms.length ms) :
    Calls Try.prog 60 #[.agg #[.slice A0 n0 c0, .slice A1 n1 c1, .slice A2 n2 c2, .slice A3 ms.length c3, .int .i64 p, .int .i64 q], .string s, .string r] w fun e w' => e = .returned (.bool (inP ms s r)) ∧ Below w.heap.size w w' := by
  have hu39 := Try.underlying39
  have hu69 := Try.underlying69
  have HC := Aside0.mk hC
  have hmax := Kd.C_max hC
  clear hC
  go_enter Try.func60, Try.ntmps60
  go_wp2
  obtain ⟨W0, hW0⟩ : ∃ W0, W0 = (w.alloc (.cells #[.slice A0 n0 c0, .slice A1 n1 c1, .slice A2 n2 c2, .slice A3 ms.length c3, .int .i64 p, .int .i64 q] 39)) := ⟨_, rfl⟩
  rw [← hW0]
  have B0 : Below w.heap.size w W0 := by rw [hW0]; exact below_alloc (Below.refl _ _) _
  clear hW0
  go_loopw [12] (fun vi wr => ∃ i : Nat, vi = .int .i64 (i : Int) ∧ i ≤ ms.length ∧ Aside0 (inP (ms.take i) s r = false) ∧ Aside0 (Below w.heap.size w wr)) (fun vi _ => ms.length - (intOf vi).toNat)
  case atStart => exact ⟨0, rfl, Nat.zero_le _, ⟨rfl⟩, ⟨B0⟩⟩
  case round =>
    clear B0
    obtain ⟨i, rfl, hi, HN, HB⟩ := hrel
    by_cases hlt : i < ms.length
    · obtain ⟨ad, e, x0, x1⟩ := at_T69 HC.out (i : Int) (by omega) (by omega)
      cases e
      replace x0 := (HB.out.cell (World.block_lt_of_cell? w _ x0)).trans x0
      replace x1 := (HB.out.cell (World.block_lt_of_cell? w _ x1)).trans x1
      obtain ⟨x, hx⟩ : ∃ x, x = rd_T69 ms (i : Int) := ⟨_, rfl⟩
      rw [← hx] at x0 x1
      simp only [Int.toNat_natCast] at x0 x1
      have hx2 : x = ms[i]'hlt := by rw [hx]; simp [rd_T69, List.getD_eq_getElem?_getD, List.getElem?_eq_getElem hlt]
      have hs : inP (ms.take (i + 1)) s r = (inP (ms.take i) s r || decide (x.f0 = s ∧ x.f1 = r)) := by unfold inP; rw [List.take_succ_eq_append_getElem hlt, List.any_append, hx2]; simp only [List.any_cons, List.any_nil, Bool.or_false]
      rw [HN.out] at hs
      have HS := Aside0.mk hs
      have HX := Aside0.mk hx2
      clear hx hx2 hs
      have d1 : decide ((i : Int) < (ms.length : Int)) = true := decide_eq_true (by omega)
      go_wp2
      · rename_i g1 g2
        go_ret
        refine ⟨?_, by repeat (first | exact HB.out | apply below_alloc)⟩
        have : inP ms s r = true := by
          unfold inP
          rw [List.any_eq_true]
          exact ⟨ms[i], List.getElem_mem hlt, by rw [← HX.out]; exact decide_eq_true ⟨toList_inj g1, toList_inj g2⟩⟩
        simp [this]
      · rename_i g1 g2
        have e := HS.out
        rw [decide_eq_false (fun h => g2 (by rw [h.2])), Bool.or_false] at e
        go_roundw
        case rel => exact ⟨i + 1, by simp, by omega, ⟨e⟩, ⟨by repeat (first | exact HB.out | apply below_alloc)⟩⟩
        case measure => simp [intOf]; omega
      · rename_i g1
        have e := HS.out
        rw [decide_eq_false (fun h => g1 (by rw [h.1])), Bool.or_false] at e
        go_roundw
        case rel => exact ⟨i + 1, by simp, by omega, ⟨e⟩, ⟨by repeat (first | exact HB.out | apply below_alloc)⟩⟩
        case measure => simp [intOf]; omega
    · obtain rfl : i = ms.length := by omega
      have d1 : decide (((ms.length : Nat) : Int) < (ms.length : Int)) = false := decide_eq_false (by omega)
      have hN := HN.out
      rw [List.take_length] at hN
      go_wp2
      go_ret
      exact ⟨by simp [hN], HB.out⟩
end Go.Proofs.Ytdjbanhoejegjaa.LikW
