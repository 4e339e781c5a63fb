/- What distances are, in plain Lean: from 0 to 300; nothing is far from itself; the way back. -/
import Derived.Test.YtdjbanhoejegjaaDsDistDist
namespace Go.Proofs.Ytdjbanhoejegjaa.LikW
open Go.RowKit Go.Proofs.YtdjbanhoejegjaaW.PrintWords Go.Proofs.YtdjbanhoejegjaaW.PrintLast Go.Proofs.Ytdjbanhoejegjaa.P

theorem costP_eq (rs : List S53) (ms : List S69) (lv : Int) (d s : K3) (h1 : 1 ≤ lv) (h3 : lv ≤ 3) : costP rs ms lv d s = if at3 d (lv - 1).toNat = at3 s (lv - 1).toNat then 0 else ((rs.find? fun r => hitP ms r d s lv).map (fun r => r.f1)).getD 100 := by
  unfold costP
  rw [if_neg (by omega)]
  split
  · rfl
  · cases rs.find? fun r => hitP ms r d s lv <;> rfl
theorem cost_range (rs : List S53) (ms : List S69) (lv : Int) (d s : K3) (h1 : 1 ≤ lv) (h3 : lv ≤ 3) (hr : ∀ x ∈ rs, 0 ≤ x.f1 ∧ x.f1 ≤ 100) : 0 ≤ costP rs ms lv d s ∧ costP rs ms lv d s ≤ 100 := by
  rw [costP_eq rs ms lv d s h1 h3]
  split
  · omega
  · cases h : rs.find? fun r => hitP ms r d s lv with
    | none => exact ⟨by decide, by decide⟩
    | some r => exact hr r (List.mem_of_find?_eq_some h)
theorem sum_range (rs : List S53) (ms : List S69) (d s : K3) (hr : ∀ x ∈ rs, 0 ≤ x.f1 ∧ x.f1 ≤ 100) : ∀ k : Nat, k ≤ 3 → 0 ≤ sumP rs ms d s k ∧ sumP rs ms d s k ≤ 100 * k
  | 0, _ => ⟨Int.le_refl _, Int.le_refl _⟩
  | k + 1, h => by
    have ih := sum_range rs ms d s hr k (by omega)
    have hc := cost_range rs ms ((k : Int) + 1) d s (by omega) (by omega) hr
    have e : sumP rs ms d s (k + 1) = wrap64 (sumP rs ms d s k + costP rs ms ((k : Int) + 1) d s) := rfl
    rw [e]
    unfold wrap64
    omega
theorem sum_self (rs : List S53) (ms : List S69) (d : K3) : ∀ k : Nat, k ≤ 3 → sumP rs ms d d k = 0
  | 0, _ => rfl
  | k + 1, h => by
    have e : sumP rs ms d d (k + 1) = wrap64 (sumP rs ms d d k + costP rs ms ((k : Int) + 1) d d) := rfl
    rw [e, sum_self rs ms d k (by omega), costP_eq rs ms _ d d (by omega) (by omega), if_pos rfl]
    unfold wrap64
    omega
end Go.Proofs.Ytdjbanhoejegjaa.LikW
