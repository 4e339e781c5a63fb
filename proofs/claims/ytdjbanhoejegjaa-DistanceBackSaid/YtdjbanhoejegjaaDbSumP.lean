/- What distances are, in plain Lean: from 0 to 300; nothing is far from itself; the way back. -/
import Derived.Test.YtdjbanhoejegjaaDbDistDist
namespace Go.Proofs.Ytdjbanhoejegjaa.LikW
open Go.RowKit Go.Proofs.YtdjbanhoejegjaaW.PrintWords Go.Proofs.YtdjbanhoejegjaaW.PrintLast Go.Proofs.Ytdjbanhoejegjaa.P

theorem costP_eq (rs : List S53) (ms : List S69) (lv : Int) (d s : K3) (h1 : 1 ≤ lv) (h3 : lv ≤ 3) : costP rs ms lv d s = if at3 d (lv - 1).toNat = at3 s (lv - 1).toNat then 0 else ((rs.find? fun r => hitP ms r d s lv).map (fun r => r.f1)).getD 100 := by
  unfold costP
  rw [if_neg (by omega)]
  split
  · rfl
  · cases rs.find? fun r => hitP ms r d s lv <;> rfl
theorem hit_back (ms : List S69) (r : S53) (d s : K3) (lv : Int) (h : r.f2 = false) : hitP ms r d s lv = hitP ms r s d lv := by
  unfold hitP
  rw [h, Bool.not_false, Bool.true_and, Bool.true_and, Bool.or_comm]
theorem cost_back (rs : List S53) (ms : List S69) (lv : Int) (d s : K3) (h1 : 1 ≤ lv) (h3 : lv ≤ 3) (hr : ∀ x ∈ rs, x.f2 = false) : costP rs ms lv d s = costP rs ms lv s d := by
  have hf : ∀ l : List S53, (∀ x ∈ l, x.f2 = false) → (l.find? fun r => hitP ms r d s lv) = l.find? fun r => hitP ms r s d lv := by
    intro l
    induction l with
    | nil => intro _; rfl
    | cons x l ih =>
      intro h
      rw [List.find?_cons, List.find?_cons, hit_back ms x d s lv (h x List.mem_cons_self), ih fun y hy => h y (List.mem_cons_of_mem _ hy)]
  rw [costP_eq rs ms lv d s h1 h3, costP_eq rs ms lv s d h1 h3, hf rs hr]
  by_cases h : at3 d (lv - 1).toNat = at3 s (lv - 1).toNat
  · rw [if_pos h, if_pos h.symm]
  · rw [if_neg h, if_neg (fun e => h e.symm)]
theorem sum_back (rs : List S53) (ms : List S69) (d s : K3) (hr : ∀ x ∈ rs, x.f2 = false) : ∀ k : Nat, k ≤ 3 → sumP rs ms d s k = sumP rs ms s d k
  | 0, _ => rfl
  | k + 1, h => by
    have e : sumP rs ms d s (k + 1) = wrap64 (sumP rs ms d s k + costP rs ms ((k : Int) + 1) d s) := rfl
    have e2 : sumP rs ms s d (k + 1) = wrap64 (sumP rs ms s d k + costP rs ms ((k : Int) + 1) s d) := rfl
    rw [e, e2, sum_back rs ms d s hr k (by omega), cost_back rs ms _ d s (by omega) (by omega) hr]
end Go.Proofs.Ytdjbanhoejegjaa.LikW
