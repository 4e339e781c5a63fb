import Derived.Test.YtmbfnbnlajchmaaDoorGrandEv
import Derived.Test.YtmbfnbnlajchmaaDoorP4
import Derived.Test.YtmbfnbnlajchmaaDoorP5
import Derived.Test.YtmbfnbnlajchmaaDoorP6
namespace Go.Proofs.YtmbfnbnlajchmaaDoor.Pure
open Go.RowKit Go.Proofs.YtmbfnbnlajchmaaDoor.P Go.Proofs.YtmbfnbnlajchmaaDoorW.PrintWords Go.Proofs.YtmbfnbnlajchmaaDoorW.PrintLast
open Go.Proofs.YtmbfnbnlajchmaaDoor.Each Go.Proofs.YtmbfnbnlajchmaaDoor.Base Go.Proofs.YtmbfnbnlajchmaaDoor.GrandW
set_option linter.unusedVariables false
set_option linter.unusedSimpArgs false

theorem gRegular_out (i : Int) (h : ¬ (0 ≤ i ∧ i < 26)) : grand_Regular.f i = some false := by
  unfold grand_Regular.f
  rw [gName_out i h]
  rfl
theorem names_ev (n : Int) : Ev (fun k => isoglosslaw05_names.f k starL n) true := by
  unfold isoglosslaw05_names.f
  by_cases h : 0 ≤ n ∧ n < 26
  · refine Ev.bind_c (gName_in n h.1 h.2) ?_
    refine Ev.ite_neg (by omega) ?_
    rw [decide_eq_false (by rw [starL_length]; omega)]
    refine Ev.step (fun k => by unfold isoglosslaw05_names.j0; rfl) ?_
    refine Ev.ite_neg (by decide) ?_
    obtain ⟨r, b, hf, hr⟩ := Find_ev (nameAt n) (nameAt_le n)
    refine Ev.bind hf ?_
    rcases hr with ⟨rfl, h0, h1, e⟩ | ⟨_, _, no⟩
    · obtain rfl : r = n := nameL_inj h0 h1 h.1 h.2 e
      refine Ev.ite_pos rfl ?_
      refine Ev.ite_pos h0 ?_
      refine Ev.ite_pos (by rw [starL_length]; omega) ?_
      refine Ev.bind_c (Name_eq _ h0 h1) ?_
      refine Ev.ite_pos rfl ?_
      refine Ev.ite_pos rfl ?_
      refine Ev.ite_pos rfl ?_
      refine Ev.bind_c (gRegular_eq _ h0 h1) ?_
      rw [beq_self_eq_true]
      exact Ev.now _
    · exact absurd rfl (no n h.1 h.2)
  · refine Ev.bind_c (gName_out n h) ?_
    have j : Ev (fun k => isoglosslaw05_names.j0 k starL n ⟨#[]⟩ false true) true := by
      refine Ev.step (fun k => by unfold isoglosslaw05_names.j0; rfl) ?_
      refine Ev.ite_pos rfl ?_
      refine Ev.ite_neg (by decide) ?_
      refine Ev.ite_pos (by rw [toList_data]) ?_
      refine Ev.bind_c (gRegular_out n h) ?_
      exact Ev.now _
    by_cases hn : n < 0
    · exact Ev.ite_pos hn j
    · refine Ev.ite_neg hn ?_
      rw [decide_eq_true (by rw [starL_length]; omega)]
      exact j
theorem GrandNames : isoglosslaw05_GrandNames.Pure := by
  intro a0 h0
  have : Ev (fun k => isoglosslaw05_GrandNames.f k a0) true := by
    unfold isoglosslaw05_GrandNames.f
    refine Ev.bind gawake_ev ?_
    refine Ev.bind_c List_eq ?_
    refine Ev.ite_pos rfl ?_
    refine Ev.bind (names_ev a0) ?_
    refine Ev.ite_pos rfl ?_
    have w : wrap64 ((starL.length : Int) + 4) = 30 := by rw [starL_length]; unfold wrap64; omega
    rw [w]
    obtain ⟨r, hr, _, _⟩ := rest_eq a0 30 (by decide) (by decide)
    refine Ev.bind_c hr ?_
    exact Ev.bind (names_ev _) (Ev.now _)
  exact this.rounds
end Go.Proofs.YtmbfnbnlajchmaaDoor.Pure
