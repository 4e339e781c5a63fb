/- What the alias laws' own helpers come to: short texts, rests, the example; what a right alias's texts are. -/
import Derived.Test.YtmbfnbnlajchmaaDoorAdAliasMade
import Derived.Test.YtmbfnbnlajchmaaDoorAdP11
namespace Go.Proofs.YtmbfnbnlajchmaaDoor.Pure
open Go.RowKit Go.Proofs.YtmbfnbnlajchmaaDoor.P Go.Proofs.YtmbfnbnlajchmaaDoorW.PrintWords Go.Proofs.YtmbfnbnlajchmaaDoorW.PrintLast Go.Proofs.YtmbfnbnlajchmaaDoorW.PrintMore
open Go.Proofs.YtmbfnbnlajchmaaDoor.Each Go.Proofs.YtmbfnbnlajchmaaDoor.Base Go.Proofs.YtmbfnbnlajchmaaDoor.PackW
set_option linter.unusedVariables false
set_option linter.unusedSimpArgs false

theorem rest12_eq (a n : Int) (h0 : 0 < n) (h1 : n ≤ 1000) : ∃ r, isoglosslaw12_rest.f a n = some r ∧ 0 ≤ r ∧ r < n := by
  unfold isoglosslaw12_rest.f
  rw [if_neg (by omega)]
  exact ⟨_, rfl, mod_range a n h0 h1⟩
theorem awake12_ev : Ev (fun k => isoglosslaw12_awake.f k) true := by
  unfold isoglosslaw12_awake.f
  have h := Encode_ev 3 ⟨#[105, 119]⟩ ⟨#[]⟩ ⟨#[104, 101]⟩ ⟨#[]⟩ ⟨#[]⟩ (by decide) (by decide) (by decide) (by decide) (by decide)
  rw [if_pos (by decide +kernel)] at h
  refine Ev.bind h ?_
  have z := rowS_size 3 ⟨#[105, 119]⟩ ⟨#[]⟩ ⟨#[104, 101]⟩ ⟨#[]⟩ ⟨#[]⟩
  refine Ev.ite_pos rfl ?_
  refine Ev.ite_pos (by show ((rowS _ _ _ _ _ _).size : Int) = 41; rw [z]; rfl) ?_
  refine Ev.ite_pos (by decide) ?_
  refine Ev.ite_pos (by show (9 : Int) ≤ ((rowS _ _ _ _ _ _).size : Int); rw [z]; decide) ?_
  refine Ev.ite_pos (by rw [toList_data]; decide +kernel) ?_
  refine Ev.ite_pos (by decide) ?_
  refine Ev.ite_pos (by show (19 : Int) ≤ ((rowS _ _ _ _ _ _).size : Int); rw [z]; decide) ?_
  refine Ev.res (Ev.now _) ?_
  rw [toList_data]; decide +kernel

def packB (s : ByteArray) : Bool := mayL ((bytesOf s).map lowI)
structure Fine (k : Int) (a b l s r : ByteArray) : Prop where
  k1 : 1 ≤ k
  k7 : k ≤ 7
  la : lowS a = a
  lb : lowS b = b
  ll : lowS l = l
  ls : lowS s = s
  lr : lowS r = r
  pa : packB a = true
  pb : packB b = true
  pl : packB l = true
  ps : packB s = true
  pr : packB r = true
end Go.Proofs.YtmbfnbnlajchmaaDoor.Pure
