/- The law AliasDecodes, in plain words: rows are aliases, or not, alike in the program and in the document's answer. -/
import Derived.Test.YtmbfnbnlajchmaaDoorAdAliasDec
import Derived.Test.YtmbfnbnlajchmaaDoorAdP27
namespace Go.Proofs.YtmbfnbnlajchmaaDoor.Pure
open Go.RowKit Go.Proofs.YtmbfnbnlajchmaaDoor.P Go.Proofs.YtmbfnbnlajchmaaDoorW.PrintWords Go.Proofs.YtmbfnbnlajchmaaDoorW.PrintLast Go.Proofs.YtmbfnbnlajchmaaDoorW.PrintMore
open Go.Proofs.YtmbfnbnlajchmaaDoor.Each Go.Proofs.YtmbfnbnlajchmaaDoor.Base Go.Proofs.YtmbfnbnlajchmaaDoor.PackW
set_option linter.unusedVariables false
set_option linter.unusedSimpArgs false

theorem cut_size (s : ByteArray) (i j : Nat) : (s.extract i j).size ≤ s.size := by
  rw [size_bytesOf, bytesOf_extract, List.length_take, List.length_drop, bytesOf_length]; omega
theorem AliasDecodes : isoglosslaw12_AliasDecodes.Pure := by
  intro s0 s1 s2 s3 s4 s5 s6 text q0 q1 _ _ _ _ _ _ _ ht _ _
  have : Ev (fun n => isoglosslaw12_AliasDecodes.f n s0 s1 s2 s3 s4 s5 s6 text q0 q1) true := by
    obtain ⟨⟨k, a, b, l, s, r⟩, em, ⟨ya, yb, yl, ys, yr⟩, _⟩ := Made_ev s0 s1 s2 s3 s4 s5 s6
    dsimp only at ya yb yl ys yr
    have hz := rowS_size k a b l s r
    have er := rRow_ev k a b l s r (by omega) (by omega) (by omega) (by omega) (by omega)
    generalize rowS k a b l s r = x at hz er
    obtain ⟨i, ei, i0, i1⟩ := rest12_eq q0 (x.size : Int) (by omega) (by omega)
    have w : wrap64 (i + 1) = i + 1 := by unfold wrap64; omega
    have j : ∀ t : ByteArray, Ev (fun n => isoglosslaw12_AliasDecodes.j0 n t true s0 s1 s2 s3 s4 s5 s6 q0 q1) true := by
      intro t
      refine Ev.step (fun n => by unfold isoglosslaw12_AliasDecodes.j0; rfl) ?_
      refine Ev.bind em ?_
      refine Ev.bind er ?_
      refine Ev.bind_c ei ?_
      refine Ev.ite_pos rfl ?_
      refine Ev.bind (decodes_ev x) ?_
      refine Ev.ite_pos rfl (Ev.ite_pos i0 (Ev.ite_pos (by omega) (Ev.name ?_)))
      have c1 := cut_size x 0 i.toNat
      have c2 := cut_size x (i + 1).toNat x.size
      have o := one_size q1
      rw [w]
      refine Ev.ite_pos (by rw [o]; omega) (Ev.ite_pos (by omega) (Ev.ite_pos (by omega) (Ev.ite_pos (by rw [ByteArray.size_append, o]; omega) ?_)))
      refine Ev.bind (decodes_ev _) (Ev.ite_pos rfl ?_)
      refine Ev.bind (decodes_ev _) (Ev.ite_pos rfl (Ev.ite_pos (by omega) ?_))
      refine Ev.bind (decodes_ev _) (Ev.ite_pos rfl (Ev.ite_pos (by decide) (Ev.ite_pos (by omega) ?_)))
      exact Ev.tail (decodes_ev _)
    unfold isoglosslaw12_AliasDecodes.f
    refine Ev.bind awake12_ev ?_
    by_cases h : (text.size : Int) > 50
    · exact Ev.ite_pos h (Ev.ite_pos (by decide) (Ev.ite_pos (by omega) (j _)))
    · exact Ev.ite_neg h (j _)
  exact this.rounds
end Go.Proofs.YtmbfnbnlajchmaaDoor.Pure
