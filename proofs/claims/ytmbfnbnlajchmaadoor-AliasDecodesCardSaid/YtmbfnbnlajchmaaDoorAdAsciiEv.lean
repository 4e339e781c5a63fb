/- What the ascii package's printed functions, and the document's answers for it, come to: plain functions on lists of numbers. -/
import Derived.Test.YtmbfnbnlajchmaaDoorAdBase
import Derived.Test.YtmbfnbnlajchmaaDoorAdP2
import Derived.Test.YtmbfnbnlajchmaaDoorAdP3
import Derived.Test.YtmbfnbnlajchmaaDoorAdP4
import Derived.Test.YtmbfnbnlajchmaaDoorAdP5
import Derived.Test.YtmbfnbnlajchmaaDoorAdP0
import Derived.Test.YtmbfnbnlajchmaaDoorAdP10
namespace Go.Proofs.YtmbfnbnlajchmaaDoor.Pure
open Go.RowKit Go.Proofs.YtmbfnbnlajchmaaDoor.P Go.Proofs.YtmbfnbnlajchmaaDoorW.PrintWords Go.Proofs.YtmbfnbnlajchmaaDoorW.PrintLast Go.Proofs.YtmbfnbnlajchmaaDoorW.PrintMore
open Go.Proofs.YtmbfnbnlajchmaaDoor.Each Go.Proofs.YtmbfnbnlajchmaaDoor.Base
set_option linter.unusedVariables false
set_option linter.unusedSimpArgs false

theorem bt_byte (s : ByteArray) (i : Int) : byteI (bt s i) := bt_range s i

def letB (c : Int) : Bool := decide ((97 ≤ c ∧ c ≤ 122) ∨ (65 ≤ c ∧ c ≤ 90))
def digB (c : Int) : Bool := decide (48 ≤ c ∧ c ≤ 57)
def kindI (c : Int) : Int := if letB c = true then 1 else if digB c = true then 2 else 0
def sumI (a b : Bool) : Int := (if a = true then 1 else 0) + (if b = true then 2 else 0)
def clsFrom (a b : Bool) (l : List Int) : Int := if l.all (fun c => letB c || digB c) = true then sumI (a || l.any letB) (b || l.any digB) else 0
def clsL (l : List Int) : Int := clsFrom false false l
theorem let_dig (c : Int) (h : letB c = true) : digB c = false := by
  unfold letB at h; unfold digB
  rw [decide_eq_true_iff] at h
  rw [decide_eq_false_iff_not]; omega
theorem kind_ev (c : Int) (h : byteI c) : Ev (fun k => ascii_kind.f k c) (kindI c) := by
  have hv : ∀ r : Int, ((97 ≤ c ∧ c ≤ 122) ∨ (65 ≤ c ∧ c ≤ 90) → r = 1) → (¬ ((97 ≤ c ∧ c ≤ 122) ∨ (65 ≤ c ∧ c ≤ 90)) → 48 ≤ c ∧ c ≤ 57 → r = 2) → (¬ ((97 ≤ c ∧ c ≤ 122) ∨ (65 ≤ c ∧ c ≤ 90)) → ¬ (48 ≤ c ∧ c ≤ 57) → r = 0) → r = kindI c := by
    intro r h1 h2 h3
    unfold kindI letB digB
    simp only [decide_eq_true_iff]
    (repeat' split)
    · exact h1 ‹_›
    · exact h2 ‹_› ‹_›
    · exact h3 ‹_› ‹_›
  have j1 : ∀ b : Bool, (b = true ↔ (97 ≤ c ∧ c ≤ 122)) → (c < 65 ∨ 90 < c) → Ev (fun k => ascii_kind.j1 k c b) (kindI c) := by
    intro b hb hn
    refine Ev.step (fun k => by unfold ascii_kind.j1; rfl) ?_
    by_cases h1 : b = true
    · refine Ev.ite_pos h1 ?_
      rw [← hv 1 (fun _ => rfl) (fun _ _ => by have := hb.1 h1; omega) (fun _ _ => by have := hb.1 h1; omega)]
      exact Ev.now _
    · refine Ev.ite_neg h1 ?_
      have h2 : ¬ (97 ≤ c ∧ c ≤ 122) := fun h => h1 (hb.2 h)
      by_cases h3 : c ≥ 48
      · refine Ev.ite_pos h3 ?_
        by_cases h4 : c ≤ 57
        · refine Ev.ite_pos h4 ?_
          rw [← hv 2 (by omega) (by omega) (by omega)]; exact Ev.now _
        · refine Ev.ite_neg h4 ?_
          rw [← hv 0 (by omega) (by omega) (by omega)]; exact Ev.now _
      · refine Ev.ite_neg h3 ?_
        rw [← hv 0 (by omega) (by omega) (by omega)]; exact Ev.now _
  have j0 : ∀ b : Bool, (b = true ↔ (65 ≤ c ∧ c ≤ 90)) → Ev (fun k => ascii_kind.j0 k c b) (kindI c) := by
    intro b hb
    refine Ev.step (fun k => by unfold ascii_kind.j0; rfl) ?_
    by_cases h1 : b = true
    · refine Ev.ite_pos h1 ?_
      rw [← hv 1 (fun _ => rfl) (fun _ _ => by have := hb.1 h1; omega) (fun _ _ => by have := hb.1 h1; omega)]
      exact Ev.now _
    · refine Ev.ite_neg h1 ?_
      have h2 : ¬ (65 ≤ c ∧ c ≤ 90) := fun h => h1 (hb.2 h)
      by_cases h3 : c ≥ 97
      · exact Ev.ite_pos h3 (j1 _ (by rw [decide_eq_true_iff]; omega) (by omega))
      · exact Ev.ite_neg h3 (j1 _ (by simp; omega) (by omega))
  unfold ascii_kind.f
  by_cases h3 : c ≥ 65
  · exact Ev.ite_pos h3 (j0 _ (by rw [decide_eq_true_iff]; omega))
  · exact Ev.ite_neg h3 (j0 _ (by simp; omega))
theorem or_kind (a b : Bool) (c : Int) (h : (letB c || digB c) = true) : Go.bits .or .i64 (sumI a b) (kindI c) = sumI (a || letB c) (b || digB c) := by
  unfold kindI
  by_cases h1 : letB c = true
  · rw [if_pos h1, h1, let_dig c h1]
    cases a <;> cases b <;> rfl
  · have h1' : letB c = false := by simpa using h1
    rw [h1', Bool.false_or] at h
    rw [if_neg h1, if_pos h, h1', h]
    cases a <;> cases b <;> rfl
theorem Class_loop (s : ByteArray) (hs : s.size ≤ 140737488351232) : ∀ (d i : Nat) (a b : Bool), s.size - i = d → i ≤ s.size →
    Ev (fun k => ascii_Class.l0 k s (sumI a b) (s.size : Int) (i : Int)) (clsFrom a b ((bytesOf s).drop i))
  | 0, i, a, b, hd, hi => by
    obtain rfl : i = s.size := by omega
    refine Ev.step (fun k => by unfold ascii_Class.l0; rfl) ?_
    refine Ev.ite_neg (by omega) ?_
    rw [List.drop_of_length_le (by rw [bytesOf_length]; exact Nat.le_refl _)]
    have e : clsFrom a b [] = sumI a b := by simp [clsFrom]
    rw [e]
    exact Ev.now _
  | d + 1, i, a, b, hd, hi => by
    refine Ev.step (fun k => by unfold ascii_Class.l0; rfl) ?_
    refine Ev.ite_pos (by omega) ?_
    refine Ev.ite_pos (by omega) ?_
    refine Ev.ite_pos (by omega) ?_
    refine Ev.bind (kind_ev _ (bt_byte _ _)) ?_
    rw [drop_at s i (by omega)]
    generalize bt s (i : Int) = c
    by_cases h : (letB c || digB c) = true
    · have hk : ¬ kindI c = 0 := by
        unfold kindI
        by_cases h1 : letB c = true
        · rw [if_pos h1]; decide
        · have h1' : letB c = false := by simpa using h1
          rw [h1', Bool.false_or] at h
          rw [if_neg h1, if_pos h]; decide
      refine Ev.ite_neg hk ?_
      rw [or_kind a b c h, wrap_next (by omega) (by omega)]
      have ih := Class_loop s hs d (i + 1) (a || letB c) (b || digB c) (by omega) (by omega)
      have e : clsFrom a b (c :: (bytesOf s).drop (i + 1)) = clsFrom (a || letB c) (b || digB c) ((bytesOf s).drop (i + 1)) := by
        simp only [clsFrom, List.all_cons, List.any_cons, h, Bool.true_and, Bool.or_assoc]
      rw [e]
      exact ih
    · have hk : kindI c = 0 := by
        unfold kindI
        simp only [Bool.or_eq_true, not_or] at h
        rw [if_neg h.1, if_neg h.2]
      refine Ev.ite_pos hk ?_
      have e : clsFrom a b (c :: (bytesOf s).drop (i + 1)) = 0 := by
        unfold clsFrom
        rw [if_neg]
        rw [List.all_cons, Bool.and_eq_true]
        exact fun hh => h hh.1
      rw [e]
      exact Ev.now _
theorem Class_ev (s : ByteArray) (hs : s.size ≤ 140737488351232) : Ev (fun k => ascii_Class.f k s) (clsL (bytesOf s)) := by
  have := Class_loop s hs _ 0 false false rfl (by omega)
  unfold ascii_Class.f clsL
  exact this
theorem Alnum_ev (s : ByteArray) (hs : s.size ≤ 140737488351232) : Ev (fun k => ascii_Alnum.f k s) (clsL (bytesOf s) != 0) := by
  unfold ascii_Alnum.f
  exact Ev.bind (Class_ev s hs) (Ev.now _)
theorem Alpha_ev (s : ByteArray) (hs : s.size ≤ 140737488351232) : Ev (fun k => ascii_Alpha.f k s) (clsL (bytesOf s) == 1) := by
  unfold ascii_Alpha.f
  exact Ev.bind (Class_ev s hs) (Ev.now _)
theorem Digit_ev (s : ByteArray) (hs : s.size ≤ 140737488351232) : Ev (fun k => ascii_Digit.f k s) (clsL (bytesOf s) == 2) := by
  unfold ascii_Digit.f
  exact Ev.bind (Class_ev s hs) (Ev.now _)

def lowS (s : ByteArray) : ByteArray := strOfNums (eachF lowF s)
def upS (s : ByteArray) : ByteArray := strOfNums (eachF upF s)
theorem lowS_bytes (s : ByteArray) : bytesOf (lowS s) = (bytesOf s).map lowI := each_low s
theorem upS_bytes (s : ByteArray) : bytesOf (upS s) = (bytesOf s).map upI := each_up s
theorem lowS_size (s : ByteArray) : (lowS s).size = s.size := by rw [size_bytesOf, lowS_bytes, List.length_map, bytesOf_length]
theorem upS_size (s : ByteArray) : (upS s).size = s.size := by rw [size_bytesOf, upS_bytes, List.length_map, bytesOf_length]
theorem Lower_eq (s : ByteArray) (hs : s.size ≤ 140737488351232) : ascii_Lower.f s = some (lowS s) := by unfold ascii_Lower.f; rw [if_pos hs]; rfl
theorem rlower_some (c : Int) (h : byteI c) : isoglossref02_lower.f c = some (lowI c) := by
  obtain ⟨h0, h1⟩ := h
  unfold isoglossref02_lower.f lowI
  split
  · split
    · rw [if_pos (by omega)]; congr 1; omega
    · rw [if_neg (by omega)]
  · rw [if_neg (by omega)]
theorem rupper_some (c : Int) (h : byteI c) : isoglossref02_upper.f c = some (upI c) := by
  obtain ⟨h0, h1⟩ := h
  unfold isoglossref02_upper.f upI
  split
  · split
    · rw [if_pos (by omega)]; congr 1; omega
    · rw [if_neg (by omega)]
  · rw [if_neg (by omega)]
theorem rLower_loop (s : ByteArray) (hs : s.size ≤ 140737488351232) : ∀ (d i : Nat) (l : List Int), s.size - i = d → i ≤ s.size → l.length = i →
    Ev (fun k => isoglossref02_Lower.l0 k s l (i : Int)) (strOfNums (l ++ ((bytesOf s).drop i).map lowI))
  | 0, i, l, hd, hi, hl => by
    refine Ev.step (fun k => by unfold isoglossref02_Lower.l0; rfl) ?_
    refine Ev.ite_neg (by omega) ?_
    rw [List.drop_of_length_le (by rw [bytesOf_length]; omega), List.map_nil, List.append_nil]
    exact Ev.now _
  | d + 1, i, l, hd, hi, hl => by
    refine Ev.step (fun k => by unfold isoglossref02_Lower.l0; rfl) ?_
    refine Ev.ite_pos (by omega) ?_
    refine Ev.ite_pos (by omega) ?_
    refine Ev.bind_c (rlower_some _ (bt_byte _ _)) ?_
    refine Ev.ite_pos (by omega) ?_
    rw [wrap_next (by omega) (by omega), drop_at s i (by omega)]
    have ih := rLower_loop s hs d (i + 1) (l ++ [lowI (bt s (i : Int))]) (by omega) (by omega) (by simp [hl])
    rw [List.append_assoc] at ih
    exact ih
theorem rLower_ev (s : ByteArray) (hs : s.size ≤ 140737488351232) : Ev (fun k => isoglossref02_Lower.f k s) (lowS s) := by
  have := rLower_loop s hs _ 0 [] rfl (by omega) rfl
  have e : strOfNums ([] ++ ((bytesOf s).drop 0).map lowI) = lowS s := by
    apply bytesOf_inj
    rw [lowS_bytes, List.nil_append, List.drop_zero]
    exact bytesOf_str _ (map_byte (fun _ => lowI_byte) (bytesOf_byte s))
  rw [e] at this
  exact this
theorem rUpper_loop (s : ByteArray) (hs : s.size ≤ 140737488351232) : ∀ (d i : Nat) (l : List Int), s.size - i = d → i ≤ s.size → l.length = i →
    Ev (fun k => isoglossref02_Upper.l0 k s l (i : Int)) (strOfNums (l ++ ((bytesOf s).drop i).map upI))
  | 0, i, l, hd, hi, hl => by
    refine Ev.step (fun k => by unfold isoglossref02_Upper.l0; rfl) ?_
    refine Ev.ite_neg (by omega) ?_
    rw [List.drop_of_length_le (by rw [bytesOf_length]; omega), List.map_nil, List.append_nil]
    exact Ev.now _
  | d + 1, i, l, hd, hi, hl => by
    refine Ev.step (fun k => by unfold isoglossref02_Upper.l0; rfl) ?_
    refine Ev.ite_pos (by omega) ?_
    refine Ev.ite_pos (by omega) ?_
    refine Ev.bind_c (rupper_some _ (bt_byte _ _)) ?_
    refine Ev.ite_pos (by omega) ?_
    rw [wrap_next (by omega) (by omega), drop_at s i (by omega)]
    have ih := rUpper_loop s hs d (i + 1) (l ++ [upI (bt s (i : Int))]) (by omega) (by omega) (by simp [hl])
    rw [List.append_assoc] at ih
    exact ih
theorem rUpper_ev (s : ByteArray) (hs : s.size ≤ 140737488351232) : Ev (fun k => isoglossref02_Upper.f k s) (upS s) := by
  have := rUpper_loop s hs _ 0 [] rfl (by omega) rfl
  have e : strOfNums ([] ++ ((bytesOf s).drop 0).map upI) = upS s := by
    apply bytesOf_inj
    rw [upS_bytes, List.nil_append, List.drop_zero]
    exact bytesOf_str _ (map_byte (fun _ => upI_byte) (bytesOf_byte s))
  rw [e] at this
  exact this
end Go.Proofs.YtmbfnbnlajchmaaDoor.Pure
