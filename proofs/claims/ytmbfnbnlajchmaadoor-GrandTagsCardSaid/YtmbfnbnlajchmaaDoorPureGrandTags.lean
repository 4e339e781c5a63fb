import Derived.Test.YtmbfnbnlajchmaaDoorGrandEv
import Derived.Test.YtmbfnbnlajchmaaDoorP3
import Derived.Test.YtmbfnbnlajchmaaDoorP5
import Derived.Test.YtmbfnbnlajchmaaDoorP6
namespace Go.Proofs.YtmbfnbnlajchmaaDoor.Pure
open Go.RowKit Go.Proofs.YtmbfnbnlajchmaaDoor.P Go.Proofs.YtmbfnbnlajchmaaDoorW.PrintWords Go.Proofs.YtmbfnbnlajchmaaDoorW.PrintLast
open Go.Proofs.YtmbfnbnlajchmaaDoor.Each Go.Proofs.YtmbfnbnlajchmaaDoor.Base Go.Proofs.YtmbfnbnlajchmaaDoor.GrandW
set_option linter.unusedVariables false
set_option linter.unusedSimpArgs false

/-- What the law asks of a tag's subtags. -/
def tagOk (i : Nat) : Bool :=
  match isoglossref04_Split.f 60 (nameAt (i : Int)), isoglossref04_Check.f 60 (nameAt (i : Int)) with
  | some l, some c => decide (2 ≤ l.length) && decide (c.2 < 0) && (decide ((rdOf ByteArray.empty l 0).size = 2) || decide ((rdOf ByteArray.empty l 0).size = 3) || (decide ((rdOf ByteArray.empty l 0).size = 1) && decide (grand_Regular.f (i : Int) = some false)))
  | _, _ => false
theorem tags_ok : ∀ i < 26, tagOk i = true := by decide +kernel
theorem tag_split (i : Int) (h0 : 0 ≤ i) (h1 : i < 26) : ∃ l c, Ev (fun k => isoglossref04_Split.f k (nameAt i)) l ∧ Ev (fun k => isoglossref04_Check.f k (nameAt i)) c ∧ 2 ≤ l.length ∧ c.2 < 0 ∧
    ((rdOf ByteArray.empty l 0).size = 2 ∨ (rdOf ByteArray.empty l 0).size = 3 ∨ ((rdOf ByteArray.empty l 0).size = 1 ∧ grand_Regular.f i = some false)) := by
  have h := tags_ok i.toNat (by omega)
  unfold tagOk at h
  rw [Int.toNat_of_nonneg h0] at h
  split at h
  · rename_i l c hl hc
    simp only [Bool.and_eq_true, Bool.or_eq_true, decide_eq_true_eq] at h
    obtain ⟨⟨h2, h3⟩, h4⟩ := h
    refine ⟨l, c, Ev.of (fun k => isoglossref04_Split.mono _ _) hl, Ev.of (fun k => isoglossref04_Check.mono _ _) hc, h2, h3, ?_⟩
    rcases h4 with (h | h) | h
    · exact .inl h
    · exact .inr (.inl h)
    · exact .inr (.inr h)
  · cases h
theorem GrandTags : isoglosslaw05_GrandTags.Pure := by
  intro a0 h0
  have : Ev (fun k => isoglosslaw05_GrandTags.f k a0) true := by
    obtain ⟨r, hr, r0, r1⟩ := rest_eq a0 26 (by decide) (by decide)
    obtain ⟨l, c, hl, hc, l2, c0, hk⟩ := tag_split r r0 r1
    unfold isoglosslaw05_GrandTags.f
    refine Ev.bind gawake_ev ?_
    refine Ev.bind_c Len_eq ?_
    refine Ev.ite_neg (by decide) ?_
    refine Ev.bind_c Len_eq ?_
    refine Ev.bind_c hr ?_
    refine Ev.bind_c (gName_in r r0 r1) ?_
    refine Ev.bind hl ?_
    refine Ev.ite_pos rfl ?_
    refine Ev.ite_neg (by omega) ?_
    refine Ev.bind (rLower_ev _ (nameAt_le r)) ?_
    refine Ev.ite_pos ((low_name r r0 r1 _).2 rfl).symm ?_
    refine Ev.bind hc ?_
    rw [decide_eq_false (show ¬ c.2 ≥ 0 by omega)]
    refine Ev.step (fun k => by unfold isoglosslaw05_GrandTags.j0; rfl) ?_
    refine Ev.ite_neg (by decide) ?_
    refine Ev.ite_pos (by omega) ?_
    refine Ev.ite_pos rfl ?_
    by_cases k2 : ((rdOf ByteArray.empty l 0).size : Int) = 2
    · exact Ev.ite_pos k2 (Ev.now _)
    · refine Ev.ite_neg k2 ?_
      by_cases k3 : ((rdOf ByteArray.empty l 0).size : Int) = 3
      · exact Ev.ite_pos k3 (Ev.now _)
      · refine Ev.ite_neg k3 ?_
        obtain ⟨k1, hg⟩ : (rdOf ByteArray.empty l 0).size = 1 ∧ grand_Regular.f r = some false := by
          rcases hk with h | h | h
          · omega
          · omega
          · exact h
        refine Ev.ite_pos (by omega) ?_
        refine Ev.bind_c Len_eq ?_
        refine Ev.bind_c hr ?_
        refine Ev.bind_c hg ?_
        exact Ev.now _
  exact this.rounds
end Go.Proofs.YtmbfnbnlajchmaaDoor.Pure
