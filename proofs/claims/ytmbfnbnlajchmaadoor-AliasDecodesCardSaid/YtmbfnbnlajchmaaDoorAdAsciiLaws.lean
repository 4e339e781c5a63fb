/- What the ascii laws' own helpers come to. -/
import Derived.Test.YtmbfnbnlajchmaaDoorAdAsciiEv
import Derived.Test.YtmbfnbnlajchmaaDoorAdP9
namespace Go.Proofs.YtmbfnbnlajchmaaDoor.Pure
open Go.RowKit Go.Proofs.YtmbfnbnlajchmaaDoor.P Go.Proofs.YtmbfnbnlajchmaaDoorW.PrintWords Go.Proofs.YtmbfnbnlajchmaaDoorW.PrintLast Go.Proofs.YtmbfnbnlajchmaaDoorW.PrintMore
open Go.Proofs.YtmbfnbnlajchmaaDoor.Each Go.Proofs.YtmbfnbnlajchmaaDoor.Base
set_option linter.unusedVariables false
set_option linter.unusedSimpArgs false

theorem letter_eq (c : Int) : isoglossref02_letter.f c = some (letB c) := by
  have h : ∀ b : Bool, (b = true ↔ ((97 ≤ c ∧ c ≤ 122) ∨ (65 ≤ c ∧ c ≤ 90))) → some b = some (letB c) := by
    intro b hb
    unfold letB
    congr 1
    rw [Bool.eq_iff_iff, hb, decide_eq_true_iff]
  unfold isoglossref02_letter.f
  (repeat' split) <;> exact h _ (by simp; omega)
theorem digit_eq (c : Int) : isoglossref02_digit.f c = some (digB c) := by
  have h : ∀ b : Bool, (b = true ↔ (48 ≤ c ∧ c ≤ 57)) → some b = some (digB c) := by
    intro b hb
    unfold digB
    congr 1
    rw [Bool.eq_iff_iff, hb, decide_eq_true_iff]
  unfold isoglossref02_digit.f
  (repeat' split) <;> exact h _ (by simp; omega)
def finI (n p q : Nat) : Int := if n = 0 ∨ p + q < n then 0 else if q = 0 then 1 else if p = 0 then 2 else 3
theorem count_sum : ∀ l : List Int, l.countP letB + l.countP digB = l.countP (fun c => letB c || digB c)
  | [] => rfl
  | c :: l => by
    have ih := count_sum l
    rw [List.countP_cons, List.countP_cons, List.countP_cons]
    by_cases h : letB c = true
    · have := let_dig c h
      simp [h, this]; omega
    · have h' : letB c = false := by simpa using h
      by_cases h2 : digB c = true
      · simp [h', h2]; omega
      · have h2' : digB c = false := by simpa using h2
        simp [h', h2']; omega
theorem fin_cls (l : List Int) : finI l.length (l.countP letB) (l.countP digB) = clsL l := by
  have hs := count_sum l
  unfold finI clsL clsFrom sumI
  by_cases h0 : l.length = 0
  · rw [if_pos (.inl h0)]
    obtain rfl := List.eq_nil_of_length_eq_zero h0
    rfl
  · by_cases ha : l.all (fun c => letB c || digB c) = true
    · have hc : l.countP (fun c => letB c || digB c) = l.length := List.countP_eq_length.2 (List.all_eq_true.1 ha)
      rw [if_pos ha, if_neg (by omega)]
      have e1 : (l.any letB = true) ↔ 0 < l.countP letB := by rw [List.any_eq_true, List.countP_pos_iff]
      have e2 : (l.any digB = true) ↔ 0 < l.countP digB := by rw [List.any_eq_true, List.countP_pos_iff]
      simp only [Bool.false_or, e1, e2]
      (repeat' split) <;> omega
    · have hc : ¬ l.countP (fun c => letB c || digB c) = l.length := fun h => ha (List.all_eq_true.2 (List.countP_eq_length.1 h))
      have := List.countP_le_length (p := fun c => letB c || digB c) (l := l)
      rw [if_neg ha, if_pos (.inr (by omega))]
theorem rClass_j (k0 n p q : Nat) (b : Bool) (hb : b = true ↔ n = 0 ∨ p + q < n) : Ev (fun k => isoglossref02_Class.j1 k (p : Int) (q : Int) b) (finI n p q) := by
  refine Ev.step (fun k => by unfold isoglossref02_Class.j1; rfl) ?_
  have R : ∀ r : Int, finI n p q = r → ∀ g : Nat → Option Int, Ev g r → Ev g (finI n p q) := by
    intro r hr g hg
    rw [hr]
    exact hg
  by_cases h1 : b = true
  · exact R 0 (by unfold finI; rw [if_pos (hb.1 h1)]) _ (Ev.ite_pos h1 (Ev.now _))
  · have h1' : ¬ (n = 0 ∨ p + q < n) := fun h => h1 (hb.2 h)
    by_cases h2 : q = 0
    · exact R 1 (by unfold finI; rw [if_neg h1', if_pos h2]) _ (Ev.ite_neg h1 (Ev.ite_pos (by omega) (Ev.now _)))
    · by_cases h3 : p = 0
      · exact R 2 (by unfold finI; rw [if_neg h1', if_neg h2, if_pos h3]) _ (Ev.ite_neg h1 (Ev.ite_neg (by omega) (Ev.ite_pos (by omega) (Ev.now _))))
      · exact R 3 (by unfold finI; rw [if_neg h1', if_neg h2, if_neg h3]) _ (Ev.ite_neg h1 (Ev.ite_neg (by omega) (Ev.ite_neg (by omega) (Ev.now _))))
theorem rClass_loop (s : ByteArray) (hs : s.size ≤ 140737488351232) : ∀ (d i p q : Nat), s.size - i = d → i ≤ s.size → p ≤ i → q ≤ i →
    Ev (fun k => isoglossref02_Class.l0 k s (p : Int) (q : Int) (i : Int)) (finI s.size (p + ((bytesOf s).drop i).countP letB) (q + ((bytesOf s).drop i).countP digB))
  | 0, i, p, q, hd, hi, hp, hq => by
    obtain rfl : i = s.size := by omega
    rw [List.drop_of_length_le (by rw [bytesOf_length]; exact Nat.le_refl _), List.countP_nil, List.countP_nil, Nat.add_zero, Nat.add_zero]
    refine Ev.step (fun k => by unfold isoglossref02_Class.l0; rfl) ?_
    refine Ev.ite_neg (by omega) ?_
    by_cases h : s.toList = []
    · have h0 : s.size = 0 := by rw [size_bytesOf, toList_nil.1 h]; rfl
      exact Ev.ite_pos h (rClass_j 0 _ _ _ _ (by simp [h0]))
    · have h0 : s.size ≠ 0 := fun e => h (toList_nil.2 (List.eq_nil_of_length_eq_zero (by rw [bytesOf_length]; exact e)))
      have hw : wrap64 ((p : Int) + (q : Int)) = (p : Int) + q := by unfold wrap64; omega
      exact Ev.ite_neg h (rClass_j 0 _ _ _ _ (by rw [hw, decide_eq_true_iff]; omega))
  | d + 1, i, p, q, hd, hi, hp, hq => by
    refine Ev.step (fun k => by unfold isoglossref02_Class.l0; rfl) ?_
    refine Ev.ite_pos (by omega) ?_
    refine Ev.ite_pos (by omega) ?_
    refine Ev.bind_c (letter_eq _) ?_
    refine Ev.bind_c (digit_eq _) ?_
    rw [drop_at s i (by omega), List.countP_cons, List.countP_cons, wrap_next (i := (i : Int)) (by omega) (by omega)]
    generalize bt s (i : Int) = c
    by_cases h1 : letB c = true
    · have h2 := let_dig c h1
      have ih := rClass_loop s hs d (i + 1) (p + 1) q (by omega) (by omega) (by omega) (by omega)
      rw [h1, h2]
      refine Ev.ite_pos rfl (Ev.ite_neg (by decide) ?_)
      rw [wrap_next (by omega) (by omega), if_pos rfl, if_neg (by decide)]
      have e : p + (((bytesOf s).drop (i + 1)).countP letB + 1) = p + 1 + ((bytesOf s).drop (i + 1)).countP letB := by omega
      rw [e]
      exact ih
    · have h1' : letB c = false := by simpa using h1
      rw [h1']
      by_cases h2 : digB c = true
      · have ih := rClass_loop s hs d (i + 1) p (q + 1) (by omega) (by omega) (by omega) (by omega)
        rw [h2]
        refine Ev.ite_neg (by decide) (Ev.ite_pos rfl ?_)
        rw [wrap_next (by omega) (by omega), if_pos rfl, if_neg (by decide)]
        have e : q + (((bytesOf s).drop (i + 1)).countP digB + 1) = q + 1 + ((bytesOf s).drop (i + 1)).countP digB := by omega
        rw [e]
        exact ih
      · have h2' : digB c = false := by simpa using h2
        have ih := rClass_loop s hs d (i + 1) p q (by omega) (by omega) (by omega) (by omega)
        rw [h2']
        refine Ev.ite_neg (by decide) (Ev.ite_neg (by decide) ?_)
        rw [if_neg (by decide)]
        exact ih
theorem rClass_ev (s : ByteArray) (hs : s.size ≤ 140737488351232) : Ev (fun k => isoglossref02_Class.f k s) (clsL (bytesOf s)) := by
  have := rClass_loop s hs _ 0 0 0 rfl (by omega) (by omega) (by omega)
  rw [List.drop_zero, Nat.zero_add, Nat.zero_add, size_bytesOf, fin_cls] at this
  unfold isoglossref02_Class.f
  exact this

end Go.Proofs.YtmbfnbnlajchmaaDoor.Pure
