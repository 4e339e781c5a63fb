/- Two texts' order, turned round: what '>' and '<=' tell is told by '<'. -/
import Derived.Test.YtdjbanhoejegjaaProg
import Derived.WalkKit
import Derived.Test.YtdjbanhoejegjaaDqWWords
import Derived.Test.YtdjbanhoejegjaaDqWLast
namespace Go.Proofs.Ytdjbanhoejegjaa.StrOrd
open Go

theorem less_turn : ∀ x y : List UInt8, (!(Op.bytesLess x y || x == y)) = Op.bytesLess y x
  | [], [] => by simp [Op.bytesLess]
  | [], _ :: _ => by simp [Op.bytesLess]
  | _ :: _, [] => by simp [Op.bytesLess]
  | a :: x, b :: y => by
    have ih := less_turn x y
    simp only [Op.bytesLess, List.cons_beq_cons]
    by_cases h : a = b
    · subst h
      have h0 : ¬ a < a := UInt8.lt_irrefl a
      simpa [h0] using ih
    · have h1 : (a == b) = false := by simpa using h
      have h2 : (b == a) = false := by simpa using fun e => h e.symm
      rw [h1, h2]
      rcases UInt8.lt_or_lt_of_ne h with l | l
      · have l2 : ¬ b < a := UInt8.lt_asymm l
        simp [l, l2]
      · have l2 : ¬ a < b := UInt8.lt_asymm l
        simp [l, l2]
theorem less_turn' (x y : List UInt8) : (Op.bytesLess x y || x == y) = !Op.bytesLess y x := by
  rw [← less_turn x y, Bool.not_not]
theorem binOp_gtr (t : TypeId) (a b : ByteArray) : binOp .gtr t (.string a) (.string b) = pure (.bool (Op.bytesLess b.toList a.toList)) := by
  rw [← less_turn]
  simp [binOp, Op.stringOp]
theorem binOp_leq (t : TypeId) (a b : ByteArray) : binOp .leq t (.string a) (.string b) = pure (.bool !(Op.bytesLess b.toList a.toList)) := by
  rw [← less_turn' a.toList b.toList]
  simp [binOp, Op.stringOp]
end Go.Proofs.Ytdjbanhoejegjaa.StrOrd
namespace Go.Proofs.Ytdjbanhoejegjaa.P
open Go Go.RowKit Go.Proofs.YtdjbanhoejegjaaW.PrintWords Go.Proofs.YtdjbanhoejegjaaW.PrintLast
abbrev bN := @blk_drewN
abbrev rN := @Kd.R_drewN
abbrev rD := @Kd.R_drew
abbrev rA := @Kd.R_alloc
theorem bq {w W : World} (h : Below w.heap.size w W := by repeat (first | with_reducible exact Aside0.out (by assumption) | with_reducible apply below_alloc | with_reducible apply pw_below_drewN | with_reducible apply below_drew1 | with_reducible refine below_set ?_ (Aside0.out (by assumption)) | exact Aside0.out (by assumption))) : Below w.heap.size w W := h
theorem mq {p : Prop} (h : p := by (try simp only [List.map_toArray, List.map_cons, List.map_nil]); first | done | rfl | (simp only [List.length_drop, List.length_take]; rfl)) : p := h
theorem ak {p : Prop} (h : p) : Aside0 p := ⟨h⟩
end Go.Proofs.Ytdjbanhoejegjaa.P
