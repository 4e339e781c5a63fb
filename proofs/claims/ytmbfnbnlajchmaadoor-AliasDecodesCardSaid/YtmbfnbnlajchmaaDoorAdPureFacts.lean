/- Plain facts on how rows of numbers stand, and on their cases. -/
import Derived.Test.YtmbfnbnlajchmaaDoorAdAsciiLaws
namespace Go.Proofs.YtmbfnbnlajchmaaDoor.Pure
open Go.RowKit Go.Proofs.YtmbfnbnlajchmaaDoor.P Go.Proofs.YtmbfnbnlajchmaaDoorW.PrintWords Go.Proofs.YtmbfnbnlajchmaaDoorW.PrintLast Go.Proofs.YtmbfnbnlajchmaaDoorW.PrintMore
open Go.Proofs.YtmbfnbnlajchmaaDoor.Each Go.Proofs.YtmbfnbnlajchmaaDoor.Base
set_option linter.unusedVariables false
set_option linter.unusedSimpArgs false

theorem Ev.cases {α : Type} {c : Prop} [Decidable c] {a b : Nat → Option α} {r : α} (h : c → Ev a r) (k : ¬ c → Ev b r) : Ev (fun n => if c then a n else b n) r := by
  by_cases hc : c
  · exact Base.Ev.ite_pos hc (h hc)
  · exact Base.Ev.ite_neg hc (k hc)
theorem Ev.res {α : Type} {g : Nat → Option α} {r r' : α} (h : Ev g r) (e : r = r') : Ev g r' := e ▸ h

theorem cls_four (l : List Int) : clsL l = 0 ∨ clsL l = 1 ∨ clsL l = 2 ∨ clsL l = 3 := by
  unfold clsL clsFrom sumI
  (repeat' split) <;> omega
theorem size_append (s t : ByteArray) : (s ++ t).size = s.size + t.size := by rw [size_bytesOf, bytesOf_append, List.length_append, bytesOf_length, bytesOf_length]
end Go.Proofs.YtmbfnbnlajchmaaDoor.Pure
