/- The law PackTells, in plain words: texts are packed, and numbers unpacked, or not, as the document says. -/
import Derived.Test.YtccojdjmbilgcaaPackRef
import Derived.Test.YtccojdjmbilgcaaP10
namespace Go.Proofs.Ytccojdjmbilgcaa.Pure
open Go.RowKit Go.Proofs.Ytccojdjmbilgcaa.P Go.Proofs.YtccojdjmbilgcaaW.PrintWords Go.Proofs.YtccojdjmbilgcaaW.PrintLast Go.Proofs.YtccojdjmbilgcaaW.PrintMore
open Go.Proofs.Ytccojdjmbilgcaa.Each Go.Proofs.Ytccojdjmbilgcaa.Base Go.Proofs.Ytccojdjmbilgcaa.PackW
set_option linter.unusedVariables false
set_option linter.unusedSimpArgs false

theorem unpacks_ev (n : Int) : Ev (fun k => isoglosslaw03_unpacks.f k n) true := by
  unfold isoglosslaw03_unpacks.f
  refine Ev.bind (Unpack_ev n) ?_
  refine Ev.bind (rUnpack_ev n) ?_
  refine Ev.ite_pos rfl ?_
  exact Ev.res (Ev.now _) (by simp)
theorem PackTells : isoglosslaw03_PackTells.Pure := by
  intro a n m _ hn hm
  obtain ⟨s, ha, hs⟩ := short3_ex a isoglosslaw03_short.f (fun s => rfl)
  have w0 : ∀ x : Int, 0 ≤ IntKind.u64.wrap x := fun x => by rw [IntKind.wrap_u64]; omega
  refine Ev.rounds ?_
  unfold isoglosslaw03_PackTells.f
  refine Ev.bind awake3_ev ?_
  refine Ev.bind_c ha ?_
  refine Ev.bind_c (Pack_eq s (by omega)) ?_
  refine Ev.bind (rPack_ev s (by omega)) ?_
  refine Ev.ite_pos rfl ?_
  refine Ev.ite_pos rfl ?_
  refine Ev.ite_pos (by simp) ?_
  refine Ev.bind (unpacks_ev n) ?_
  refine Ev.ite_pos rfl ?_
  refine Ev.ite_pos (w0 _) ?_
  refine Ev.bind (unpacks_ev _) ?_
  refine Ev.ite_pos rfl ?_
  exact Ev.bind (unpacks_ev _) (Ev.now _)
end Go.Proofs.Ytccojdjmbilgcaa.Pure
