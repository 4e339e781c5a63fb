/- The law AsciiTells, in plain words: what a text has, and its cases, are told as the document says. -/
import Derived.Test.YtccojdjmbilgcaaPureFacts
import Derived.Test.YtccojdjmbilgcaaP8
namespace Go.Proofs.Ytccojdjmbilgcaa.Pure
open Go.RowKit Go.Proofs.Ytccojdjmbilgcaa.P Go.Proofs.YtccojdjmbilgcaaW.PrintWords Go.Proofs.YtccojdjmbilgcaaW.PrintLast Go.Proofs.YtccojdjmbilgcaaW.PrintMore
open Go.Proofs.Ytccojdjmbilgcaa.Each Go.Proofs.Ytccojdjmbilgcaa.Base
set_option linter.unusedVariables false
set_option linter.unusedSimpArgs false

theorem AsciiTells : isoglosslaw02_AsciiTells.Pure := by
  intro s _
  obtain ⟨t, ht, hs⟩ := short_ex s
  have hs : t.size ≤ 140737488351232 := by omega
  refine Ev.rounds ?_
  unfold isoglosslaw02_AsciiTells.f
  refine Ev.bind awake_ev ?_
  refine Ev.bind_c ht ?_
  refine Ev.bind (rClass_ev t hs) ?_
  refine Ev.ite_pos rfl ?_
  refine Ev.bind (Class_ev t hs) ?_
  refine Ev.ite_pos rfl ?_
  refine Ev.bind (Alpha_ev t hs) ?_
  refine Ev.ite_pos (by simp) ?_
  refine Ev.bind (Digit_ev t hs) ?_
  refine Ev.ite_pos (by simp) ?_
  refine Ev.bind (Alnum_ev t hs) ?_
  refine Ev.ite_pos (by rcases cls_four (bytesOf t) with h | h | h | h <;> rw [h] <;> decide) ?_
  refine Ev.bind_c (Lower_eq t hs) ?_
  refine Ev.bind (rLower_ev t hs) ?_
  refine Ev.ite_pos rfl ?_
  refine Ev.bind_c (Upper_eq t hs) ?_
  refine Ev.bind (rUpper_ev t hs) ?_
  refine Ev.ite_pos rfl ?_
  refine Ev.bind_c (Title_eq t hs) ?_
  refine Ev.bind (rTitle_ev t hs) ?_
  exact Ev.res (Ev.now _) (by simp)
end Go.Proofs.Ytccojdjmbilgcaa.Pure
