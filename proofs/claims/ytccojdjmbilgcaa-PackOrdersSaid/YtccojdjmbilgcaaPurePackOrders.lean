/- The law PackOrders, in plain words: of packed texts the numbers stand as the texts do. -/
import Derived.Test.YtccojdjmbilgcaaPackEv
import Derived.Test.YtccojdjmbilgcaaP2
namespace Go.Proofs.Ytccojdjmbilgcaa.Pure
open Go.RowKit Go.Proofs.Ytccojdjmbilgcaa.P Go.Proofs.YtccojdjmbilgcaaW.PrintWords Go.Proofs.YtccojdjmbilgcaaW.PrintLast Go.Proofs.YtccojdjmbilgcaaW.PrintMore
open Go.Proofs.Ytccojdjmbilgcaa.Each Go.Proofs.Ytccojdjmbilgcaa.Base Go.Proofs.Ytccojdjmbilgcaa.PackW
set_option linter.unusedVariables false
set_option linter.unusedSimpArgs false

theorem Orders_j1 (s t : ByteArray) (hs : s.size ≤ 8) (ht : t.size ≤ 8) : Ev (fun k => isoglosslaw03_PackOrders.j1 k s t true) true := by
  refine Ev.step (fun k => by unfold isoglosslaw03_PackOrders.j1; rfl) ?_
  refine Ev.bind_c (Pack_eq s (by omega)) ?_
  refine Ev.bind_c (Pack_eq t (by omega)) ?_
  refine Ev.bind (rCompare_ev s t (by omega) (by omega)) ?_
  have e1 := packT_eq (lowS s)
  have e2 := packT_eq (lowS t)
  rw [lowS_bytes] at e1 e2
  by_cases h1 : mayL ((bytesOf s).map lowI) = true
  · rw [if_pos h1] at e1
    by_cases h2 : mayL ((bytesOf t).map lowI) = true
    · rw [if_pos h2] at e2
      rw [e1, e2]
      have key := padV_cmp 8 (lowL s) (lowL t) (by rw [lowL_length]; exact hs) (by rw [lowL_length]; exact ht) (mayL_one h1) (mayL_one h2)
      have h3 := cmpL_three (lowL s) (lowL t)
      refine Ev.ite_pos rfl ?_
      refine Ev.ite_pos rfl ?_
      refine Ev.ite_pos rfl ?_
      refine Ev.ite_pos ?_ ?_
      · rw [beq_iff_eq, Bool.eq_iff_iff, decide_eq_true_iff, decide_eq_true_iff]
        exact key.1.trans ⟨fun h => by omega, fun h => by omega⟩
      · refine Ev.res (Ev.now _) ?_
        rw [beq_iff_eq, Bool.eq_iff_iff, beq_iff_eq, beq_iff_eq]
        exact key.2
    · rw [if_neg h2] at e2
      rw [e1, e2]
      refine Ev.ite_pos rfl ?_
      exact Ev.ite_neg (by simp) (Ev.now _)
  · rw [if_neg h1] at e1
    rw [e1]
    exact Ev.ite_neg (by simp) (Ev.now _)
theorem PackOrders : isoglosslaw03_PackOrders.Pure := by
  intro a b _ _
  have cut : ∀ s : ByteArray, (s.extract 0 8).size ≤ 8 := fun s => by rw [size_bytesOf, bytesOf_extract, List.length_take]; omega
  have j0 : ∀ s : ByteArray, s.size ≤ 8 → Ev (fun k => isoglosslaw03_PackOrders.j0 k s b true) true := by
    intro s hs
    refine Ev.step (fun k => by unfold isoglosslaw03_PackOrders.j0; rfl) ?_
    refine Ev.cases (fun h => ?_) (fun h => ?_)
    · refine Ev.ite_pos (by decide) ?_
      refine Ev.ite_pos (by omega) ?_
      exact Orders_j1 s _ hs (cut b)
    · exact Orders_j1 s b hs (by omega)
  refine Ev.rounds ?_
  unfold isoglosslaw03_PackOrders.f
  refine Ev.bind awake3_ev ?_
  refine Ev.cases (fun h => ?_) (fun h => ?_)
  · refine Ev.ite_pos (by decide) ?_
    refine Ev.ite_pos (by omega) ?_
    exact j0 _ (cut a)
  · exact j0 a (by omega)
end Go.Proofs.Ytccojdjmbilgcaa.Pure
