/- What distances are, in plain Lean: from 0 to 300; nothing is far from itself; the way back. -/
import Derived.Test.YtdjbanhoejegjaaDpDistDist
namespace Go.Proofs.Ytdjbanhoejegjaa.LikW
open Go.RowKit Go.Proofs.YtdjbanhoejegjaaW.PrintWords Go.Proofs.YtdjbanhoejegjaaW.PrintLast Go.Proofs.Ytdjbanhoejegjaa.P

theorem costP_eq (rs : List S53) (ms : List S69) (lv : Int) (d s : K3) (h1 : 1 ≤ lv) (h3 : lv ≤ 3) : costP rs ms lv d s = if at3 d (lv - 1).toNat = at3 s (lv - 1).toNat then 0 else ((rs.find? fun r => hitP ms r d s lv).map (fun r => r.f1)).getD 100 := by
  unfold costP
  rw [if_neg (by omega)]
  split
  · rfl
  · cases rs.find? fun r => hitP ms r d s lv <;> rfl
theorem sum_self (rs : List S53) (ms : List S69) (d : K3) : ∀ k : Nat, k ≤ 3 → sumP rs ms d d k = 0
  | 0, _ => rfl
  | k + 1, h => by
    have e : sumP rs ms d d (k + 1) = wrap64 (sumP rs ms d d k + costP rs ms ((k : Int) + 1) d d) := rfl
    rw [e, sum_self rs ms d k (by omega), costP_eq rs ms _ d d (by omega) (by omega), if_pos rfl]
    unfold wrap64
    omega
end Go.Proofs.Ytdjbanhoejegjaa.LikW
