/- Two texts' order, turned round: what '>' and '<=' tell is told by '<'. -/
import Derived.Test.YtmbfnbnlajchmaaDoorProg
import Derived.WalkKit
namespace Go.Proofs.YtmbfnbnlajchmaaDoor.StrOrd
open Go

theorem less_turn : ∀ x y : List UInt8, (!(Op.bytesLess x y || x == y)) = Op.bytesLess y x
  | [], [] => by simp [Op.bytesLess]
  | [], _ :: _ => by simp [Op.bytesLess]
  | _ :: _, [] => by simp [Op.bytesLess]
  | a :: x, b :: y => by
    have ih := less_turn x y
    simp only [Op.bytesLess, List.cons_beq_cons]
    by_cases h : a = b
    · subst h
      have h0 : ¬ a < a := UInt8.lt_irrefl a
      simpa [h0] using ih
    · have h1 : (a == b) = false := by simpa using h
      have h2 : (b == a) = false := by simpa using fun e => h e.symm
      rw [h1, h2]
      rcases UInt8.lt_or_lt_of_ne h with l | l
      · have l2 : ¬ b < a := UInt8.lt_asymm l
        simp [l, l2]
      · have l2 : ¬ a < b := UInt8.lt_asymm l
        simp [l, l2]
theorem less_turn' (x y : List UInt8) : (Op.bytesLess x y || x == y) = !Op.bytesLess y x := by
  rw [← less_turn x y, Bool.not_not]
theorem binOp_gtr (t : TypeId) (a b : ByteArray) : binOp .gtr t (.string a) (.string b) = pure (.bool (Op.bytesLess b.toList a.toList)) := by
  rw [← less_turn]
  simp [binOp, Op.stringOp]
theorem binOp_leq (t : TypeId) (a b : ByteArray) : binOp .leq t (.string a) (.string b) = pure (.bool !(Op.bytesLess b.toList a.toList)) := by
  rw [← less_turn' a.toList b.toList]
  simp [binOp, Op.stringOp]
end Go.Proofs.YtmbfnbnlajchmaaDoor.StrOrd
