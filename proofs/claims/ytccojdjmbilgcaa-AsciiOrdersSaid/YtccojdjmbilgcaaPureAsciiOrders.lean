/- The law AsciiOrders, in plain words: how three texts stand; what goes on is behind its beginning. -/
import Derived.Test.YtccojdjmbilgcaaPureFacts
import Derived.Test.YtccojdjmbilgcaaP4
namespace Go.Proofs.Ytccojdjmbilgcaa.Pure
open Go.RowKit Go.Proofs.Ytccojdjmbilgcaa.P Go.Proofs.YtccojdjmbilgcaaW.PrintWords Go.Proofs.YtccojdjmbilgcaaW.PrintLast Go.Proofs.YtccojdjmbilgcaaW.PrintMore
open Go.Proofs.Ytccojdjmbilgcaa.Each Go.Proofs.Ytccojdjmbilgcaa.Base
set_option linter.unusedVariables false
set_option linter.unusedSimpArgs false

theorem AsciiOrders : isoglosslaw02_AsciiOrders.Pure := by
  intro a b c _ _ _
  obtain ⟨s, ha, hs⟩ := short_ex a
  obtain ⟨t, hb, ht⟩ := short_ex b
  obtain ⟨u, hc, hu⟩ := short_ex c
  have hs2 : s.size ≤ 140737488351232 := by omega
  have ht2 : t.size ≤ 140737488351232 := by omega
  have hu2 : u.size ≤ 140737488351232 := by omega
  have J : Ev (fun k => isoglosslaw02_AsciiOrders.j0 k s t true false) true := by
    refine Ev.step (fun k => by unfold isoglosslaw02_AsciiOrders.j0; rfl) ?_
    refine Ev.ite_neg (by decide) ?_
    refine Ev.ite_pos rfl ?_
    by_cases h : t.toList = []
    · exact Ev.ite_pos h (Ev.now _)
    · refine Ev.ite_neg h ?_
      refine Ev.ite_pos (by omega) ?_
      refine Ev.bind (Compare_ev s (s ++ t) hs2 (by rw [size_append]; omega)) ?_
      have hne : lowL t ≠ [] := fun e => h (toList_nil.2 (List.map_eq_nil_iff.1 e))
      exact Ev.res (Ev.now _) (by rw [lowL_append, cmpL_more _ _ hne]; rfl)
  refine Ev.rounds ?_
  unfold isoglosslaw02_AsciiOrders.f
  refine Ev.bind awake_ev ?_
  refine Ev.bind_c ha ?_
  refine Ev.bind_c hb ?_
  refine Ev.bind_c hc ?_
  refine Ev.bind (Compare_ev s t hs2 ht2) ?_
  refine Ev.bind (Compare_ev t u ht2 hu2) ?_
  refine Ev.bind (Compare_ev s u hs2 hu2) ?_
  have h1 := cmpL_trans (lowL s) (lowL t) (lowL u)
  have h2 := cmpL_trans (lowL u) (lowL t) (lowL s)
  rw [cmpL_swap (lowL t) (lowL u), cmpL_swap (lowL s) (lowL t), cmpL_swap (lowL s) (lowL u)] at h2
  have h3 : cmpL (lowL s) (lowL t) = 0 → cmpL (lowL t) (lowL u) = cmpL (lowL s) (lowL u) := fun h => by rw [(cmpL_zero _ _).1 h]
  generalize cmpL (lowL s) (lowL t) = x at *
  generalize cmpL (lowL t) (lowL u) = y at *
  generalize cmpL (lowL s) (lowL u) = z at *
  repeat' (refine Ev.cases (fun _ => ?_) (fun _ => ?_))
  all_goals
    first
      | exact J
      | (exfalso; omega)
      | (have e : (y != z) = false := by rw [bne_eq_false_iff_eq]; exact h3 ‹_›
         rw [e]; exact J)
end Go.Proofs.Ytccojdjmbilgcaa.Pure
