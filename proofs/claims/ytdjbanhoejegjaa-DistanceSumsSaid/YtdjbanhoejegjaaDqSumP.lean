/- What distances are, in plain Lean: from 0 to 300; nothing is far from itself; the way back. -/
import Derived.Test.YtdjbanhoejegjaaDqDistDist
namespace Go.Proofs.Ytdjbanhoejegjaa.LikW
open Go.RowKit Go.Proofs.YtdjbanhoejegjaaW.PrintWords Go.Proofs.YtdjbanhoejegjaaW.PrintLast Go.Proofs.Ytdjbanhoejegjaa.P

theorem costP_eq (rs : List S53) (ms : List S69) (lv : Int) (d s : K3) (h1 : 1 ≤ lv) (h3 : lv ≤ 3) : costP rs ms lv d s = if at3 d (lv - 1).toNat = at3 s (lv - 1).toNat then 0 else ((rs.find? fun r => hitP ms r d s lv).map (fun r => r.f1)).getD 100 := by
  unfold costP
  rw [if_neg (by omega)]
  split
  · rfl
  · cases rs.find? fun r => hitP ms r d s lv <;> rfl
theorem cost_range (rs : List S53) (ms : List S69) (lv : Int) (d s : K3) (h1 : 1 ≤ lv) (h3 : lv ≤ 3) (hr : ∀ x ∈ rs, 0 ≤ x.f1 ∧ x.f1 ≤ 100) : 0 ≤ costP rs ms lv d s ∧ costP rs ms lv d s ≤ 100 := by
  rw [costP_eq rs ms lv d s h1 h3]
  split
  · omega
  · cases h : rs.find? fun r => hitP ms r d s lv with
    | none => exact ⟨by decide, by decide⟩
    | some r => exact hr r (List.mem_of_find?_eq_some h)
end Go.Proofs.Ytdjbanhoejegjaa.LikW
