/- What the ascii package's printed functions, and the document's answers for it, come to: plain functions on lists of numbers. -/
import Derived.Test.YtmbfnbnlajchmaaDoorBase
import Derived.Test.YtmbfnbnlajchmaaDoorP1
import Derived.Test.YtmbfnbnlajchmaaDoorP4
import Derived.Test.YtmbfnbnlajchmaaDoorP7
namespace Go.Proofs.YtmbfnbnlajchmaaDoor.Pure
open Go.RowKit Go.Proofs.YtmbfnbnlajchmaaDoor.P Go.Proofs.YtmbfnbnlajchmaaDoorW.PrintWords Go.Proofs.YtmbfnbnlajchmaaDoorW.PrintLast Go.Proofs.YtmbfnbnlajchmaaDoorW.PrintMore
open Go.Proofs.YtmbfnbnlajchmaaDoor.Each Go.Proofs.YtmbfnbnlajchmaaDoor.Base
set_option linter.unusedVariables false
set_option linter.unusedSimpArgs false

/-! ### how two rows stand -/
def cmpL : List Int → List Int → Int
  | [], [] => 0
  | [], _ :: _ => -1
  | _ :: _, [] => 1
  | a :: l, b :: m => if a < b then -1 else if b < a then 1 else cmpL l m
/-- A text in small letters. -/
def lowL (s : ByteArray) : List Int := (bytesOf s).map lowI
theorem lowL_length (s : ByteArray) : (lowL s).length = s.size := by rw [lowL, List.length_map, bytesOf_length]
theorem lowL_drop (s : ByteArray) (i : Nat) (h : i < s.size) : (lowL s).drop i = lowI (bt s (i : Int)) :: (lowL s).drop (i + 1) := by
  unfold lowL
  rw [← List.map_drop, drop_at s i h, List.map_cons, List.map_drop]

theorem lower_some (c : Int) (h : byteI c) : ascii_lower.f c = some (lowI c) := by
  obtain ⟨h0, h1⟩ := h
  unfold ascii_lower.f lowI
  split
  · split
    · rw [if_pos (by omega)]; congr 1; omega
    · rw [if_neg (by omega)]
  · rw [if_neg (by omega)]
theorem order_byte (a b : Int) : ascii_order_byte.f a b = some (if a < b then -1 else if b < a then 1 else 0) := by
  unfold ascii_order_byte.f
  (repeat' split) <;> first | rfl | omega
theorem order_int (a b : Int) : ascii_order_int.f a b = some (if a < b then -1 else if b < a then 1 else 0) := by
  unfold ascii_order_int.f
  (repeat' split) <;> first | rfl | omega
theorem bt_byte (s : ByteArray) (i : Int) : byteI (bt s i) := bt_range s i

theorem cmp_end (l m : List Int) (n : Nat) (hl : n ≤ l.length) (hm : n ≤ m.length) (hn : n = l.length ∨ n = m.length) :
    cmpL (l.drop n) (m.drop n) = if (l.length : Int) < m.length then -1 else if (m.length : Int) < l.length then 1 else 0 := by
  rcases hn with rfl | rfl
  · rw [List.drop_length]
    rcases Nat.lt_or_ge l.length m.length with h | h
    · rw [if_pos (by omega), List.drop_eq_getElem_cons h]; rfl
    · have : m.length = l.length := by omega
      rw [if_neg (by omega), if_neg (by omega), List.drop_of_length_le (by omega)]; rfl
  · rw [List.drop_length]
    rcases Nat.lt_or_ge m.length l.length with h | h
    · rw [if_neg (by omega), if_pos (by omega), List.drop_eq_getElem_cons h]; rfl
    · rw [if_neg (by omega), if_neg (by omega), List.drop_of_length_le (by omega)]; rfl

theorem Compare_loop (s t : ByteArray) (n : Nat) (hn : n ≤ 281474976710656) (hs : n ≤ s.size) (ht : n ≤ t.size) (hnn : n = s.size ∨ n = t.size) : ∀ (d i : Nat), n - i = d → i ≤ n →
    Ev (fun k => ascii_Compare.l0 k s t (n : Int) (i : Int)) (cmpL ((lowL s).drop i) ((lowL t).drop i))
  | 0, i, hd, hi => by
    obtain rfl : i = n := by omega
    refine Ev.step (fun k => by unfold ascii_Compare.l0; rfl) ?_
    refine Ev.ite_neg (by omega) ?_
    refine Ev.bind_c (order_int _ _) ?_
    have e := cmp_end (lowL s) (lowL t) i (by rw [lowL_length]; exact hs) (by rw [lowL_length]; exact ht) (by rw [lowL_length, lowL_length]; exact hnn)
    rw [lowL_length, lowL_length] at e
    rw [e]
    exact Ev.now _
  | d + 1, i, hd, hi => by
    have ih := Compare_loop s t n hn hs ht hnn d (i + 1) (by omega) (by omega)
    refine Ev.step (fun k => by unfold ascii_Compare.l0; rfl) ?_
    refine Ev.ite_pos (by omega) ?_
    refine Ev.ite_pos (by omega) ?_
    refine Ev.ite_pos (by omega) ?_
    refine Ev.bind_c (lower_some _ (bt_byte _ _)) ?_
    refine Ev.ite_pos (by omega) ?_
    refine Ev.bind_c (lower_some _ (bt_byte _ _)) ?_
    refine Ev.bind_c (order_byte _ _) ?_
    rw [lowL_drop s i (by omega), lowL_drop t i (by omega)]
    simp only [cmpL]
    by_cases h1 : lowI (bt s (i : Int)) < lowI (bt t (i : Int))
    · rw [if_pos h1, if_pos h1]
      exact Ev.ite_neg (by decide) (Ev.now _)
    · rw [if_neg h1, if_neg h1]
      by_cases h2 : lowI (bt t (i : Int)) < lowI (bt s (i : Int))
      · rw [if_pos h2, if_pos h2]
        exact Ev.ite_neg (by decide) (Ev.now _)
      · rw [if_neg h2, if_neg h2]
        refine Ev.ite_pos rfl ?_
        rw [wrap_next (by omega) (by omega)]
        exact ih
theorem Compare_ev (s t : ByteArray) (hs : s.size ≤ 140737488351232) (ht : t.size ≤ 140737488351232) : Ev (fun k => ascii_Compare.f k s t) (cmpL (lowL s) (lowL t)) := by
  have e : mn (s.size : Int) (t.size : Int) = ((min s.size t.size : Nat) : Int) := by unfold mn; split <;> omega
  have := Compare_loop s t (min s.size t.size) (by omega) (by omega) (by omega) (by omega) _ 0 rfl (by omega)
  unfold ascii_Compare.f
  rw [e]
  exact this
theorem Same_ev (s t : ByteArray) (hs : s.size ≤ 140737488351232) (ht : t.size ≤ 140737488351232) : Ev (fun k => ascii_Same.f k s t) (cmpL (lowL s) (lowL t) == 0) := by
  unfold ascii_Same.f
  exact Ev.bind (Compare_ev s t hs ht) (Ev.now _)

/-! ### what a text has -/
def letB (c : Int) : Bool := decide ((97 ≤ c ∧ c ≤ 122) ∨ (65 ≤ c ∧ c ≤ 90))
def digB (c : Int) : Bool := decide (48 ≤ c ∧ c ≤ 57)
def kindI (c : Int) : Int := if letB c = true then 1 else if digB c = true then 2 else 0
/-- The sum of what has been seen. -/
def sumI (a b : Bool) : Int := (if a = true then 1 else 0) + (if b = true then 2 else 0)
def clsFrom (a b : Bool) (l : List Int) : Int := if l.all (fun c => letB c || digB c) = true then sumI (a || l.any letB) (b || l.any digB) else 0
def clsL (l : List Int) : Int := clsFrom false false l
theorem let_dig (c : Int) (h : letB c = true) : digB c = false := by
  unfold letB at h; unfold digB
  rw [decide_eq_true_iff] at h
  rw [decide_eq_false_iff_not]; omega
theorem or_kind (a b : Bool) (c : Int) (h : (letB c || digB c) = true) : Go.bits .or .i64 (sumI a b) (kindI c) = sumI (a || letB c) (b || digB c) := by
  unfold kindI
  by_cases h1 : letB c = true
  · rw [if_pos h1, h1, let_dig c h1]
    cases a <;> cases b <;> rfl
  · have h1' : letB c = false := by simpa using h1
    rw [h1', Bool.false_or] at h
    rw [if_neg h1, if_pos h, h1', h]
    cases a <;> cases b <;> rfl
/-! ### the three maps -/
def lowS (s : ByteArray) : ByteArray := strOfNums (eachF lowF s)
def upS (s : ByteArray) : ByteArray := strOfNums (eachF upF s)
def titS (s : ByteArray) : ByteArray := strOfNums (eachF titF s)
theorem lowS_bytes (s : ByteArray) : bytesOf (lowS s) = (bytesOf s).map lowI := each_low s
theorem upS_bytes (s : ByteArray) : bytesOf (upS s) = (bytesOf s).map upI := each_up s
theorem titS_bytes (s : ByteArray) : bytesOf (titS s) = titL (bytesOf s) := each_tit s
theorem lowS_size (s : ByteArray) : (lowS s).size = s.size := by rw [size_bytesOf, lowS_bytes, List.length_map, bytesOf_length]
theorem upS_size (s : ByteArray) : (upS s).size = s.size := by rw [size_bytesOf, upS_bytes, List.length_map, bytesOf_length]
theorem titL_length (l : List Int) : (titL l).length = l.length := by cases l <;> simp [titL]
theorem titS_size (s : ByteArray) : (titS s).size = s.size := by rw [size_bytesOf, titS_bytes, titL_length, bytesOf_length]
theorem Lower_eq (s : ByteArray) (hs : s.size ≤ 140737488351232) : ascii_Lower.f s = some (lowS s) := by unfold ascii_Lower.f; rw [if_pos hs]; rfl
/-! ### the document's answers -/
theorem rlower_some (c : Int) (h : byteI c) : isoglossref02_lower.f c = some (lowI c) := by
  obtain ⟨h0, h1⟩ := h
  unfold isoglossref02_lower.f lowI
  split
  · split
    · rw [if_pos (by omega)]; congr 1; omega
    · rw [if_neg (by omega)]
  · rw [if_neg (by omega)]
theorem rupper_some (c : Int) (h : byteI c) : isoglossref02_upper.f c = some (upI c) := by
  obtain ⟨h0, h1⟩ := h
  unfold isoglossref02_upper.f upI
  split
  · split
    · rw [if_pos (by omega)]; congr 1; omega
    · rw [if_neg (by omega)]
  · rw [if_neg (by omega)]
theorem rLower_loop (s : ByteArray) (hs : s.size ≤ 140737488351232) : ∀ (d i : Nat) (l : List Int), s.size - i = d → i ≤ s.size → l.length = i →
    Ev (fun k => isoglossref02_Lower.l0 k s l (i : Int)) (strOfNums (l ++ ((bytesOf s).drop i).map lowI))
  | 0, i, l, hd, hi, hl => by
    refine Ev.step (fun k => by unfold isoglossref02_Lower.l0; rfl) ?_
    refine Ev.ite_neg (by omega) ?_
    rw [List.drop_of_length_le (by rw [bytesOf_length]; omega), List.map_nil, List.append_nil]
    exact Ev.now _
  | d + 1, i, l, hd, hi, hl => by
    refine Ev.step (fun k => by unfold isoglossref02_Lower.l0; rfl) ?_
    refine Ev.ite_pos (by omega) ?_
    refine Ev.ite_pos (by omega) ?_
    refine Ev.bind_c (rlower_some _ (bt_byte _ _)) ?_
    refine Ev.ite_pos (by omega) ?_
    rw [wrap_next (by omega) (by omega), drop_at s i (by omega)]
    have ih := rLower_loop s hs d (i + 1) (l ++ [lowI (bt s (i : Int))]) (by omega) (by omega) (by simp [hl])
    rw [List.append_assoc] at ih
    exact ih
theorem rLower_ev (s : ByteArray) (hs : s.size ≤ 140737488351232) : Ev (fun k => isoglossref02_Lower.f k s) (lowS s) := by
  have := rLower_loop s hs _ 0 [] rfl (by omega) rfl
  have e : strOfNums ([] ++ ((bytesOf s).drop 0).map lowI) = lowS s := by
    apply bytesOf_inj
    rw [lowS_bytes, List.nil_append, List.drop_zero]
    exact bytesOf_str _ (map_byte (fun _ => lowI_byte) (bytesOf_byte s))
  rw [e] at this
  exact this
theorem rUpper_loop (s : ByteArray) (hs : s.size ≤ 140737488351232) : ∀ (d i : Nat) (l : List Int), s.size - i = d → i ≤ s.size → l.length = i →
    Ev (fun k => isoglossref02_Upper.l0 k s l (i : Int)) (strOfNums (l ++ ((bytesOf s).drop i).map upI))
  | 0, i, l, hd, hi, hl => by
    refine Ev.step (fun k => by unfold isoglossref02_Upper.l0; rfl) ?_
    refine Ev.ite_neg (by omega) ?_
    rw [List.drop_of_length_le (by rw [bytesOf_length]; omega), List.map_nil, List.append_nil]
    exact Ev.now _
  | d + 1, i, l, hd, hi, hl => by
    refine Ev.step (fun k => by unfold isoglossref02_Upper.l0; rfl) ?_
    refine Ev.ite_pos (by omega) ?_
    refine Ev.ite_pos (by omega) ?_
    refine Ev.bind_c (rupper_some _ (bt_byte _ _)) ?_
    refine Ev.ite_pos (by omega) ?_
    rw [wrap_next (by omega) (by omega), drop_at s i (by omega)]
    have ih := rUpper_loop s hs d (i + 1) (l ++ [upI (bt s (i : Int))]) (by omega) (by omega) (by simp [hl])
    rw [List.append_assoc] at ih
    exact ih
theorem rUpper_ev (s : ByteArray) (hs : s.size ≤ 140737488351232) : Ev (fun k => isoglossref02_Upper.f k s) (upS s) := by
  have := rUpper_loop s hs _ 0 [] rfl (by omega) rfl
  have e : strOfNums ([] ++ ((bytesOf s).drop 0).map upI) = upS s := by
    apply bytesOf_inj
    rw [upS_bytes, List.nil_append, List.drop_zero]
    exact bytesOf_str _ (map_byte (fun _ => upI_byte) (bytesOf_byte s))
  rw [e] at this
  exact this
theorem rCompare_loop (s t : ByteArray) (hs : s.size ≤ 140737488351232) (ht : t.size ≤ 140737488351232) : ∀ (d i : Nat), min s.size t.size - i = d → i ≤ s.size → i ≤ t.size →
    Ev (fun k => isoglossref02_Compare.l0 k s t (i : Int)) (cmpL ((bytesOf s).drop i) ((bytesOf t).drop i))
  | 0, i, hd, hi, hj => by
    have e := cmp_end (bytesOf s) (bytesOf t) i (by rw [bytesOf_length]; exact hi) (by rw [bytesOf_length]; exact hj) (by rw [bytesOf_length, bytesOf_length]; omega)
    rw [bytesOf_length, bytesOf_length] at e
    rw [e]
    have j : Ev (fun k => isoglossref02_Compare.j1 k s t (i : Int) false) (if (s.size : Int) < (t.size : Int) then -1 else if (t.size : Int) < (s.size : Int) then 1 else 0) := by
      refine Ev.step (fun k => by unfold isoglossref02_Compare.j1; rfl) ?_
      refine Ev.ite_neg (by decide) ?_
      have R : ∀ r : Int, (if (s.size : Int) < (t.size : Int) then (-1 : Int) else if (t.size : Int) < (s.size : Int) then 1 else 0) = r → ∀ g : Nat → Option Int, Ev g r → Ev g (if (s.size : Int) < (t.size : Int) then (-1 : Int) else if (t.size : Int) < (s.size : Int) then 1 else 0) := by
        intro r hr g hg
        rw [hr]
        exact hg
      by_cases h1 : (s.size : Int) < (t.size : Int)
      · exact R (-1) (if_pos h1) _ (Ev.ite_pos h1 (Ev.now _))
      · by_cases h2 : (t.size : Int) < (s.size : Int)
        · exact R 1 (by rw [if_neg h1, if_pos h2]) _ (Ev.ite_neg h1 (Ev.ite_pos h2 (Ev.now _)))
        · exact R 0 (by rw [if_neg h1, if_neg h2]) _ (Ev.ite_neg h1 (Ev.ite_neg h2 (Ev.now _)))
    refine Ev.step (fun k => by unfold isoglossref02_Compare.l0; rfl) ?_
    by_cases h : (i : Int) < (s.size : Int)
    · refine Ev.ite_pos h ?_
      rw [decide_eq_false (by omega)]
      exact j
    · exact Ev.ite_neg h j
  | d + 1, i, hd, hi, hj => by
    have ih := rCompare_loop s t hs ht d (i + 1) (by omega) (by omega) (by omega)
    refine Ev.step (fun k => by unfold isoglossref02_Compare.l0; rfl) ?_
    refine Ev.ite_pos (by omega) ?_
    rw [decide_eq_true (by omega)]
    refine Ev.step (fun k => by unfold isoglossref02_Compare.j1; rfl) ?_
    refine Ev.ite_pos rfl ?_
    refine Ev.ite_pos (by omega) ?_
    refine Ev.ite_pos (by omega) ?_
    refine Ev.ite_pos (by omega) ?_
    rw [drop_at s i (by omega), drop_at t i (by omega)]
    simp only [cmpL]
    by_cases h1 : bt s (i : Int) < bt t (i : Int)
    · rw [if_pos h1]
      exact Ev.ite_pos h1 (Ev.now _)
    · rw [if_neg h1]
      refine Ev.ite_neg h1 ?_
      by_cases h2 : bt t (i : Int) < bt s (i : Int)
      · rw [if_pos h2]
        exact Ev.ite_pos h2 (Ev.now _)
      · rw [if_neg h2]
        refine Ev.ite_neg h2 ?_
        rw [wrap_next (by omega) (by omega)]
        exact ih
theorem rCompare_ev (s t : ByteArray) (hs : s.size ≤ 140737488351232) (ht : t.size ≤ 140737488351232) : Ev (fun k => isoglossref02_Compare.f k s t) (cmpL (lowL s) (lowL t)) := by
  unfold isoglossref02_Compare.f
  refine Ev.bind (rLower_ev s hs) ?_
  refine Ev.bind (rLower_ev t ht) ?_
  have := rCompare_loop (lowS s) (lowS t) (by rw [lowS_size]; exact hs) (by rw [lowS_size]; exact ht) _ 0 rfl (by omega) (by omega)
  rw [List.drop_zero, List.drop_zero, lowS_bytes, lowS_bytes] at this
  exact this
end Go.Proofs.YtmbfnbnlajchmaaDoor.Pure
