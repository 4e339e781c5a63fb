/- The law PackBack, in plain words: what is packed is unpacked to the same, but for great letters; what is unpacked is packed to the same number. -/
import Derived.Test.YtccojdjmbilgcaaPackRef
import Derived.Test.YtccojdjmbilgcaaP10
namespace Go.Proofs.Ytccojdjmbilgcaa.Pure
open Go.RowKit Go.Proofs.Ytccojdjmbilgcaa.P Go.Proofs.YtccojdjmbilgcaaW.PrintWords Go.Proofs.YtccojdjmbilgcaaW.PrintLast Go.Proofs.YtccojdjmbilgcaaW.PrintMore
open Go.Proofs.Ytccojdjmbilgcaa.Each Go.Proofs.Ytccojdjmbilgcaa.Base Go.Proofs.Ytccojdjmbilgcaa.PackW
set_option linter.unusedVariables false
set_option linter.unusedSimpArgs false

theorem unpN_yes (n : Int) (h : (unpN n).2 = true) : packT (lowS (unpN n).1) = (n, true) ∧ (unpN n).1.size ≤ 8 := by
  unfold unpN at h ⊢
  by_cases c : mayL (headN n) = true ∧ padV 8 (headN n) = n
  · rw [if_pos c]
    have hb := bytesOf_str _ (headN_byte n)
    have h3 : (headN n).map lowI = headN n := by
      conv => rhs; rw [← List.map_id (headN n)]
      exact List.map_congr_left fun x hx => may_low ((mayL_all c.1).1 x hx)
    refine ⟨?_, ?_⟩
    · show packT (lowS (strOfNums (headN n))) = _
      rw [packT_eq, lowS_bytes, hb, h3, if_pos c.1, c.2]
    · show (strOfNums (headN n)).size ≤ 8
      rw [strOfNums_size]; exact headN_length n
  · rw [if_neg c] at h
    cases h
theorem unpN_no (n : Int) (h : ¬ (unpN n).2 = true) : (unpN n).1 = ⟨#[]⟩ := by
  unfold unpN at h ⊢
  by_cases c : mayL (headN n) = true ∧ padV 8 (headN n) = n
  · rw [if_pos c] at h
    exact absurd rfl h
  · rw [if_neg c]
theorem unpN_pack (s : ByteArray) (h : mayL ((bytesOf s).map lowI) = true) : unpN (padV 8 ((bytesOf s).map lowI)) = (lowS s, true) := by
  unfold unpN
  rw [headN_pad _ h, if_pos ⟨h, rfl⟩]
  rw [← lowS_bytes, str_bytesOf]
theorem PackBack : isoglosslaw03_PackBack.Pure := by
  intro a n _ hn
  obtain ⟨s, ha, hs⟩ := short3_ex a isoglosslaw03_short.f (fun s => rfl)
  have j0 : Ev (fun k => isoglosslaw03_PackBack.j0 k n true (unpN n).1 (unpN n).2 false) true := by
    refine Ev.step (fun k => by unfold isoglosslaw03_PackBack.j0; rfl) ?_
    refine Ev.ite_neg (by decide) ?_
    by_cases h : (unpN n).2 = true
    · obtain ⟨h1, h2⟩ := unpN_yes n h
      refine Ev.ite_pos h ?_
      refine Ev.bind_c (Pack_eq _ (by omega)) ?_
      rw [h1]
      refine Ev.ite_pos rfl ?_
      refine Ev.ite_pos rfl ?_
      refine Ev.ite_pos rfl ?_
      exact Ev.res (Ev.now _) (by rw [decide_eq_true_iff]; omega)
    · refine Ev.ite_neg h ?_
      refine Ev.ite_pos rfl ?_
      exact Ev.res (Ev.now _) (by rw [unpN_no n h, beq_iff_eq, toList_nil]; rfl)
  refine Ev.rounds ?_
  unfold isoglosslaw03_PackBack.f
  refine Ev.bind awake3_ev ?_
  refine Ev.bind_c ha ?_
  refine Ev.bind_c (Pack_eq s (by omega)) ?_
  refine Ev.bind (Unpack_ev _) ?_
  refine Ev.bind (Unpack_ev n) ?_
  have e := packT_eq (lowS s)
  rw [lowS_bytes] at e
  by_cases h : mayL ((bytesOf s).map lowI) = true
  · rw [if_pos h] at e
    rw [e]
    refine Ev.ite_pos rfl ?_
    show Ev (fun k => if (unpN (padV 8 ((bytesOf s).map lowI))).2 = true then _ else _) true
    rw [unpN_pack s h]
    refine Ev.ite_pos rfl ?_
    refine Ev.bind (rLower_ev s (by omega)) ?_
    refine Ev.ite_pos rfl ?_
    exact j0
  · rw [if_neg h] at e
    rw [e]
    refine Ev.ite_neg (by simp) ?_
    exact j0
end Go.Proofs.Ytccojdjmbilgcaa.Pure
