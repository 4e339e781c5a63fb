/- The law AliasTells, in plain words: aliases may be, and have rows, or not, alike in the program and in the document's answer. -/
import Derived.Test.YtmbfnbnlajchmaaDoorAtAliasHelp
import Derived.Test.YtmbfnbnlajchmaaDoorAtP11
import Derived.Test.YtmbfnbnlajchmaaDoorAtP16
import Derived.Test.YtmbfnbnlajchmaaDoorAtP18
namespace Go.Proofs.YtmbfnbnlajchmaaDoor.Pure
open Go.RowKit Go.Proofs.YtmbfnbnlajchmaaDoor.P Go.Proofs.YtmbfnbnlajchmaaDoorW.PrintWords Go.Proofs.YtmbfnbnlajchmaaDoorW.PrintLast Go.Proofs.YtmbfnbnlajchmaaDoorW.PrintMore
open Go.Proofs.YtmbfnbnlajchmaaDoor.Each Go.Proofs.YtmbfnbnlajchmaaDoor.Base Go.Proofs.YtmbfnbnlajchmaaDoor.PackW
set_option linter.unusedVariables false
set_option linter.unusedSimpArgs false

theorem tells_ev (k : Int) (a b l s r : ByteArray) (ha : a.size ≤ 100) (hb : b.size ≤ 100) (hl : l.size ≤ 100) (hs : s.size ≤ 100) (hr : r.size ≤ 100) : Ev (fun n => isoglosslaw12_tells.f n k a b l s r) true := by
  unfold isoglosslaw12_tells.f
  refine Ev.bind (rRight_ev k a b l s r (by omega) (by omega) (by omega) (by omega) (by omega)) ?_
  refine Ev.bind (Encode_ev k a b l s r (by omega) (by omega) (by omega) (by omega) (by omega)) ?_
  refine Ev.bind (Right_ev k a b l s r (by omega) (by omega) (by omega) (by omega) (by omega)) ?_
  cases rightB k a b l s r with
  | true =>
    rw [if_pos rfl]
    refine Ev.ite_neg (by simp) ?_
    refine Ev.step (fun n => by unfold isoglosslaw12_tells.j0; rfl) ?_
    refine Ev.ite_neg (by simp) (Ev.ite_pos rfl ?_)
    refine Ev.bind (rRow_ev k a b l s r (by omega) (by omega) (by omega) (by omega) (by omega)) (Ev.res (Ev.now _) ?_)
    exact beq_self_eq_true _
  | false =>
    rw [if_neg (by decide)]
    refine Ev.ite_neg (by simp) ?_
    refine Ev.step (fun n => by unfold isoglosslaw12_tells.j0; rfl) ?_
    refine Ev.ite_neg (by simp) (Ev.ite_neg (by decide) (Ev.res (Ev.now _) ?_))
    rw [toList_data]; rfl
theorem AliasTells : isoglosslaw12_AliasTells.Pure := by
  intro k a b l s r s0 s1 s2 s3 s4 s5 s6 _ _ _ _ _ _ _ _ _ _ _ _ _
  have : Ev (fun n => isoglosslaw12_AliasTells.f n k a b l s r s0 s1 s2 s3 s4 s5 s6) true := by
    obtain ⟨a', ea, za⟩ := short12_ex a
    obtain ⟨b', eb, zb⟩ := short12_ex b
    obtain ⟨l', el, zl⟩ := short12_ex l
    obtain ⟨s', es, zs⟩ := short12_ex s
    obtain ⟨r', er, zr⟩ := short12_ex r
    have ef : isoglosslaw12_few.f k a b l s r = some (k, a', b', l', s', r') := by
      unfold isoglosslaw12_few.f
      rw [ea, eb, el, es, er]; rfl
    obtain ⟨q, eq, _, _⟩ := rest12_eq k 9 (by decide) (by decide)
    obtain ⟨⟨k2, a2, b2, l2, s2, r2⟩, em, ⟨y1, y2, y3, y4, y5⟩, _⟩ := Made_ev s0 s1 s2 s3 s4 s5 s6
    dsimp only at y1 y2 y3 y4 y5
    unfold isoglosslaw12_AliasTells.f
    refine Ev.bind awake12_ev ?_
    refine Ev.bind_c ef ?_
    refine Ev.bind_c eq ?_
    refine Ev.ite_pos rfl ?_
    refine Ev.bind (tells_ev k a' b' l' s' r' (by omega) (by omega) (by omega) (by omega) (by omega)) ?_
    refine Ev.ite_pos rfl ?_
    refine Ev.bind (tells_ev q a' b' l' s' r' (by omega) (by omega) (by omega) (by omega) (by omega)) ?_
    refine Ev.ite_pos rfl ?_
    refine Ev.bind em ?_
    refine Ev.bind (tells_ev k2 a2 b2 l2 s2 r2 (by omega) (by omega) (by omega) (by omega) (by omega)) ?_
    refine Ev.ite_pos rfl ?_
    exact Ev.tail (tells_ev 0 ⟨#[]⟩ ⟨#[]⟩ ⟨#[]⟩ ⟨#[]⟩ ⟨#[]⟩ (by decide) (by decide) (by decide) (by decide) (by decide))
  exact this.rounds
end Go.Proofs.YtmbfnbnlajchmaaDoor.Pure
