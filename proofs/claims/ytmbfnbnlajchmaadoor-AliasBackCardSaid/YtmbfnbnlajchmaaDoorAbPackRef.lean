/- What the document's Pack, May and Unpack come to. -/
import Derived.Test.YtmbfnbnlajchmaaDoorAbPackEv
import Derived.Test.YtmbfnbnlajchmaaDoorAbP12
import Derived.Test.YtmbfnbnlajchmaaDoorAbP24
namespace Go.Proofs.YtmbfnbnlajchmaaDoor.Pure
open Go.RowKit Go.Proofs.YtmbfnbnlajchmaaDoor.P Go.Proofs.YtmbfnbnlajchmaaDoorW.PrintWords Go.Proofs.YtmbfnbnlajchmaaDoorW.PrintLast Go.Proofs.YtmbfnbnlajchmaaDoorW.PrintMore
open Go.Proofs.YtmbfnbnlajchmaaDoor.Each Go.Proofs.YtmbfnbnlajchmaaDoor.Base Go.Proofs.YtmbfnbnlajchmaaDoor.PackW
set_option linter.unusedVariables false
set_option linter.unusedSimpArgs false

theorem May_loop (s : ByteArray) (hs : s.size ≤ 140737488351232) : ∀ (d i : Nat), s.size - i = d → i ≤ s.size →
    Ev (fun k => isoglossref03_May.l0 k s (i : Int)) (((bytesOf s).drop i).all mayI && decide (s.size ≤ 8))
  | 0, i, hd, hi => by
    obtain rfl : i = s.size := by omega
    refine Ev.step (fun k => by unfold isoglossref03_May.l0; rfl) ?_
    refine Ev.ite_neg (by omega) ?_
    rw [List.drop_of_length_le (by rw [bytesOf_length]; exact Nat.le_refl _), List.all_nil, Bool.true_and]
    refine Ev.res (Ev.now _) ?_
    rw [Bool.eq_iff_iff, decide_eq_true_iff, decide_eq_true_iff]
    omega
  | d + 1, i, hd, hi => by
    have ih := May_loop s hs d (i + 1) (by omega) (by omega)
    refine Ev.step (fun k => by unfold isoglossref03_May.l0; rfl) ?_
    refine Ev.ite_pos (by omega) ?_
    refine Ev.ite_pos (by omega) ?_
    rw [drop_at s i (by omega), List.all_cons, wrap_next (by omega) (by omega)]
    generalize bt s (i : Int) = c
    have yes : (97 ≤ c ∧ c ≤ 122) ∨ (48 ≤ c ∧ c ≤ 57) ∨ c = 42 ∨ c = 33 ∨ c = 36 → Ev (fun k => isoglossref03_May.l0 k s ((i : Int) + 1)) (mayI c && ((bytesOf s).drop (i + 1)).all mayI && decide (s.size ≤ 8)) := by
      intro h
      have e : mayI c = true := by unfold mayI; rw [decide_eq_true_iff]; exact h
      rw [e, Bool.true_and]
      exact ih
    have no : ¬ ((97 ≤ c ∧ c ≤ 122) ∨ (48 ≤ c ∧ c ≤ 57) ∨ c = 42 ∨ c = 33 ∨ c = 36) → Ev (fun _ => some false) (mayI c && ((bytesOf s).drop (i + 1)).all mayI && decide (s.size ≤ 8)) := by
      intro h
      have e : mayI c = false := by unfold mayI; rw [decide_eq_false_iff_not]; exact h
      rw [e, Bool.false_and, Bool.false_and]
      exact Ev.now _
    repeat' (refine Ev.cases (fun _ => ?_) (fun _ => ?_))
    all_goals first | exact yes (by omega) | exact no (by omega)
theorem May_ev (s : ByteArray) (hs : s.size ≤ 140737488351232) : Ev (fun k => isoglossref03_May.f k s) (mayL (bytesOf s)) := by
  have := May_loop s hs _ 0 rfl (by omega)
  rw [List.drop_zero] at this
  unfold mayL
  rw [bytesOf_length]
  exact this
theorem u64_id {x : Int} (h0 : 0 ≤ x) (h1 : x ≤ 18446744073709551615) : IntKind.u64.wrap x = x := by
  rw [IntKind.wrap_u64]
  omega
theorem rPack_loop (t : ByteArray) : ∀ (d i : Nat), 8 - i = d → i ≤ 8 →
    Ev (fun k => isoglossref03_Pack.l0 k t (packN t i) (i : Int)) (packN t 8, true)
  | 0, i, hd, hi => by
    obtain rfl : i = 8 := by omega
    refine Ev.step (fun k => by unfold isoglossref03_Pack.l0; rfl) ?_
    exact Ev.ite_neg (by omega) (Ev.now _)
  | d + 1, i, hd, hi => by
    have ih := rPack_loop t d (i + 1) (by omega) (by omega)
    have h0 := (packN_range t i).1
    have h1 := packN_lim t i (by omega)
    obtain ⟨c0, c1⟩ := bt_byte t (i : Int)
    refine Ev.step (fun k => by unfold isoglossref03_Pack.l0; rfl) ?_
    refine Ev.ite_pos (by omega) ?_
    rw [wrap_next (by omega) (by omega), u64_id (x := packN t i * 256) (by omega) (by omega), u64_id (x := bt t (i : Int)) c0 (by omega), u64_id (by omega) (by omega)]
    by_cases h : (i : Int) < (t.size : Int)
    · exact Ev.ite_pos h (Ev.ite_pos (by omega) ih)
    · refine Ev.ite_neg h ?_
      have e : packN t (i + 1) = packN t i * 256 := by rw [packN, bt_beyond t i (by omega), Int.add_zero]
      rw [e] at ih
      exact ih
theorem rPack_ev (s : ByteArray) (hs : s.size ≤ 140737488351232) : Ev (fun k => isoglossref03_Pack.f k s) (packT (lowS s)) := by
  unfold isoglossref03_Pack.f
  refine Ev.bind (rLower_ev s hs) ?_
  refine Ev.bind (May_ev _ (by rw [lowS_size]; exact hs)) ?_
  have e := packT_eq (lowS s)
  by_cases h : mayL (bytesOf (lowS s)) = true
  · rw [if_pos h, ← packN_eight] at e
    rw [e]
    refine Ev.ite_pos h ?_
    exact rPack_loop (lowS s) _ 0 rfl (by omega)
  · rw [if_neg h] at e
    rw [e]
    exact Ev.ite_neg h (Ev.now _)
end Go.Proofs.YtmbfnbnlajchmaaDoor.Pure
