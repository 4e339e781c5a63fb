/- The law AsciiCompares, in plain words: texts are held against each other as the document says, whatever their cases. -/
import Derived.Test.YtccojdjmbilgcaaPureFacts
import Derived.Test.YtccojdjmbilgcaaP4
namespace Go.Proofs.Ytccojdjmbilgcaa.Pure
open Go.RowKit Go.Proofs.Ytccojdjmbilgcaa.P Go.Proofs.YtccojdjmbilgcaaW.PrintWords Go.Proofs.YtccojdjmbilgcaaW.PrintLast Go.Proofs.YtccojdjmbilgcaaW.PrintMore
open Go.Proofs.Ytccojdjmbilgcaa.Each Go.Proofs.Ytccojdjmbilgcaa.Base
set_option linter.unusedVariables false
set_option linter.unusedSimpArgs false

theorem AsciiCompares : isoglosslaw02_AsciiCompares.Pure := by
  intro a b _ _
  obtain ⟨s, ha, hs⟩ := short_ex a
  obtain ⟨t, hb, ht⟩ := short_ex b
  have hs : s.size ≤ 140737488351232 := by omega
  have ht : t.size ≤ 140737488351232 := by omega
  have h3 := cmpL_three (lowL s) (lowL t)
  refine Ev.rounds ?_
  unfold isoglosslaw02_AsciiCompares.f
  refine Ev.bind awake_ev ?_
  refine Ev.bind_c ha ?_
  refine Ev.bind_c hb ?_
  refine Ev.bind (Compare_ev s t hs ht) ?_
  refine Ev.ite_pos rfl ?_
  refine Ev.bind (rCompare_ev s t hs ht) ?_
  refine Ev.ite_pos rfl ?_
  refine Ev.bind (Compare_ev t s ht hs) ?_
  refine Ev.ite_pos (by rw [cmpL_swap]; unfold wrap64; omega) ?_
  refine Ev.bind (Same_ev s t hs ht) ?_
  refine Ev.ite_pos (by simp) ?_
  refine Ev.bind_c (Upper_eq s hs) ?_
  refine Ev.bind_c (Lower_eq t ht) ?_
  refine Ev.bind (Compare_ev (upS s) (lowS t) (by rw [upS_size]; exact hs) (by rw [lowS_size]; exact ht)) ?_
  refine Ev.ite_pos (by rw [lowL_up, lowL_low]) ?_
  refine Ev.bind_c (Title_eq s hs) ?_
  refine Ev.bind (Same_ev s (titS s) hs (by rw [titS_size]; exact hs)) ?_
  exact Ev.res (Ev.now _) (by rw [lowL_tit, beq_iff_eq, cmpL_zero])
end Go.Proofs.Ytccojdjmbilgcaa.Pure
