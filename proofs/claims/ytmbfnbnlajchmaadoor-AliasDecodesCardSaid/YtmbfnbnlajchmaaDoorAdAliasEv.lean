/- What the alias package's Right and Encode, and the document's answers for them, come to. -/
import Derived.Test.YtmbfnbnlajchmaaDoorAdPackRef
import Derived.Test.YtmbfnbnlajchmaaDoorAdP2
import Derived.Test.YtmbfnbnlajchmaaDoorAdP3
import Derived.Test.YtmbfnbnlajchmaaDoorAdP4
import Derived.Test.YtmbfnbnlajchmaaDoorAdP10
import Derived.Test.YtmbfnbnlajchmaaDoorAdP11
import Derived.Test.YtmbfnbnlajchmaaDoorAdGrandW
namespace Go.Proofs.YtmbfnbnlajchmaaDoor.Pure
open Go.RowKit Go.Proofs.YtmbfnbnlajchmaaDoor.P Go.Proofs.YtmbfnbnlajchmaaDoorW.PrintWords Go.Proofs.YtmbfnbnlajchmaaDoorW.PrintLast Go.Proofs.YtmbfnbnlajchmaaDoorW.PrintMore
open Go.Proofs.YtmbfnbnlajchmaaDoor.Each Go.Proofs.YtmbfnbnlajchmaaDoor.Base Go.Proofs.YtmbfnbnlajchmaaDoor.PackW
set_option linter.unusedVariables false
set_option linter.unusedSimpArgs false

theorem Ev.andB {g f : Nat → Option Bool} {b c : Bool} (h : Ev g b) (k : Ev f c) : Ev (fun n => (g n).bind fun t => if t = true then f n else some false) (b && c) := by
  refine Ev.bind h ?_
  cases b
  · exact Ev.ite_neg (by decide) (Ev.now _)
  · exact Ev.ite_pos rfl k
theorem Ev.tail {g : Nat → Option Bool} {b : Bool} (h : Ev g b) : Ev (fun n => (g n).bind fun t => some t) b := Ev.bind h (Ev.now _)
theorem Ev.guardB {f : Nat → Option Bool} {d : Bool} (c : Bool) (k : Ev f d) : Ev (fun n => if c = true then f n else some false) (c && d) := by
  cases c
  · exact Ev.ite_neg (by decide) (Ev.now _)
  · exact Ev.ite_pos rfl k
theorem Ev.ifp {f : Nat → Option Bool} {d : Bool} {p : Prop} [Decidable p] (k : Ev f d) : Ev (fun n => if p then f n else some false) (decide p && d) := by
  by_cases h : p
  · rw [decide_eq_true h]; exact Ev.ite_pos h k
  · rw [decide_eq_false h]; exact Ev.ite_neg h (Ev.now _)
def empB (s : ByteArray) : Bool := s.toList == ([] : List UInt8)
theorem empB_iff (s : ByteArray) : empB s = true ↔ s.toList = ([] : List UInt8) := by unfold empB; rw [beq_iff_eq]
theorem Ev.emp {f : Nat → Option Bool} {d : Bool} (s : ByteArray) (k : Ev f d) : Ev (fun n => if s.toList = ([] : List UInt8) then f n else some false) (empB s && d) := by
  by_cases h : s.toList = ([] : List UInt8)
  · rw [(empB_iff s).2 h]; exact Ev.ite_pos h k
  · have e : empB s = false := by rw [← Bool.not_eq_true, empB_iff]; exact h
    rw [e]; exact Ev.ite_neg h (Ev.now _)
theorem Ev.empE {f g : Nat → Option Bool} {d e : Bool} (s : ByteArray) (k : Ev f d) (m : Ev g e) : Ev (fun n => if s.toList = ([] : List UInt8) then f n else g n) (if empB s = true then d else e) := by
  by_cases h : s.toList = ([] : List UInt8)
  · rw [if_pos ((empB_iff s).2 h)]; exact Ev.ite_pos h k
  · rw [if_neg (fun z => h ((empB_iff s).1 z))]; exact Ev.ite_neg h m

def clsS (s : ByteArray) : Int := clsL (bytesOf s)
def longB (s : ByteArray) (a b : Int) : Bool := decide ((s.size : Int) ≥ a) && decide ((s.size : Int) ≤ b)
def langB (s : ByteArray) : Bool := clsS s == 1 && longB s 2 8
def scrB (s : ByteArray) : Bool := clsS s == 1 && ((s.size : Int) == 4)
def regB (s : ByteArray) : Bool := (clsS s == 1 && ((s.size : Int) == 2)) || (clsS s == 2 && ((s.size : Int) == 3))
def varB (s : ByteArray) : Bool := clsS s != 0 && (longB s 5 8 || (((s.size : Int) == 4) && digB (bt s 0)))
def wordB (s : ByteArray) (a b : Int) : Bool := clsS s != 0 && longB s a b
def valI (s : ByteArray) : Int := (((bt s 0) - 48) % 256) * 10 + (((bt s 1) - 48) % 256)
def numB (s : ByteArray) : Bool := clsS s == 2 && (((s.size : Int) == 2) && decide (valI s < 26))
def targB (l s r : ByteArray) : Bool := langB l && ((empB s || scrB s) && (empB r || regB r))
def lowB (s : ByteArray) : Bool := decide (s.toList = (lowS s).toList)

theorem long_eq (s : ByteArray) (a b : Int) : tag_long.f s a b = some (longB s a b) := by
  unfold tag_long.f longB
  by_cases h : (s.size : Int) ≥ a
  · rw [if_pos h, decide_eq_true h, Bool.true_and]
  · rw [if_neg h, decide_eq_false h, Bool.false_and]
theorem cls_single (x : Int) : (clsL [x] == 2) = digB x := by
  cases h : digB x with
  | true =>
    have hl : letB x = false := by
      cases g : letB x with
      | false => rfl
      | true => rw [let_dig x g] at h; cases h
    simp [clsL, clsFrom, sumI, h, hl]
  | false =>
    cases hl : letB x <;> simp [clsL, clsFrom, sumI, h, hl]
section
variable (s : ByteArray) (hs : s.size ≤ 140737488351232)
include hs
theorem lang_ev : Ev (fun k => tag_Language.f k s) (langB s) := by
  unfold tag_Language.f
  exact Ev.andB (Alpha_ev s hs) (Ev.tail (Ev.const (long_eq s 2 8)))
theorem scr_ev : Ev (fun k => tag_Script.f k s) (scrB s) := by
  unfold tag_Script.f
  exact Ev.andB (Alpha_ev s hs) (Ev.now _)
theorem reg_ev : Ev (fun k => tag_Region.f k s) (regB s) := by
  unfold tag_Region.f
  have d : Ev (fun k => (ascii_Digit.f k s).bind fun t => if t = true then (some ((s.size : Int) == 3)) else (some false)) (clsS s == 2 && ((s.size : Int) == 3)) := Ev.andB (Digit_ev s hs) (Ev.now _)
  refine Ev.bind (Alpha_ev s hs) ?_
  unfold regB
  have e : (clsL (bytesOf s) == 1) = (clsS s == 1) := rfl
  rw [e]
  cases h : clsS s == 1 with
  | false => exact Ev.ite_neg (by decide) (by simpa using d)
  | true =>
    refine Ev.ite_pos rfl ?_
    by_cases h2 : (s.size : Int) = 2
    · refine Ev.ite_pos h2 ?_
      rw [h2]
      exact Ev.now _
    · refine Ev.ite_neg h2 ?_
      have e2 : ((s.size : Int) == 2) = false := beq_eq_false_iff_ne.2 h2
      rw [e2]
      simpa using d
theorem var_ev : Ev (fun k => tag_Variant.f k s) (varB s) := by
  unfold tag_Variant.f
  refine Ev.andB (Alnum_ev s hs) ?_
  refine Ev.bind_c (long_eq s 5 8) ?_
  cases h : longB s 5 8 with
  | true => exact Ev.ite_pos rfl (Ev.now _)
  | false =>
    refine Ev.ite_neg (by decide) ?_
    rw [Bool.false_or]
    by_cases h4 : (s.size : Int) = 4
    · refine Ev.ite_pos h4 ?_
      refine Ev.ite_pos (by decide) ?_
      refine Ev.ite_pos (by omega) ?_
      have z : (s.extract 0 1).size ≤ 140737488351232 := by rw [size_bytesOf, bytesOf_extract]; simp; omega
      refine Ev.res (Ev.tail (Digit_ev _ z)) ?_
      have e : bytesOf (s.extract 0 1) = [bt s 0] := by
        rw [bytesOf_extract, drop_at s 0 (by omega)]
        rfl
      rw [e, cls_single, h4]
      rfl
    · refine Ev.ite_neg h4 ?_
      have e2 : ((s.size : Int) == 4) = false := beq_eq_false_iff_ne.2 h4
      rw [e2]
      exact Ev.now _
theorem word_ev (a b : Int) : Ev (fun k => alias_word.f k s a b) (wordB s a b) := by
  unfold alias_word.f
  refine Ev.andB (Alnum_ev s hs) ?_
  exact Ev.ifp (Ev.now _)
theorem num_ev : Ev (fun k => alias_numbered.f k s) (numB s) := by
  unfold alias_numbered.f
  refine Ev.andB (Digit_ev s hs) ?_
  by_cases h2 : (s.size : Int) = 2
  · refine Ev.ite_pos h2 ?_
    refine Ev.ite_pos (by omega) ?_
    refine Ev.ite_pos (by omega) ?_
    rw [h2]
    refine Ev.const ?_
    unfold grand_Name.f
    have h0 : 0 ≤ valI s := by unfold valI; omega
    show ((if 0 ≤ valI s ∧ valI s < 26 then some (_, true) else some (_, false)) : Option (ByteArray × Bool)).bind _ = _
    by_cases h : valI s < 26
    · rw [if_pos ⟨h0, h⟩, decide_eq_true h]; rfl
    · rw [if_neg (fun z => h z.2), decide_eq_false h]; rfl
  · refine Ev.ite_neg h2 ?_
    have e2 : ((s.size : Int) == 2) = false := beq_eq_false_iff_ne.2 h2
    rw [e2]
    exact Ev.now _
end
theorem none_loop (l : List ByteArray) (hl : l.length ≤ 1000) : ∀ (d i : Nat), l.length - i = d → i ≤ l.length →
    Ev (fun k => alias_none.l0 k l (l.length : Int) (i : Int)) ((l.drop i).all empB)
  | 0, i, hd, hi => by
    obtain rfl : i = l.length := by omega
    refine Ev.step (fun k => by unfold alias_none.l0; rfl) ?_
    rw [List.drop_length]
    exact Ev.ite_neg (by omega) (Ev.now _)
  | d + 1, i, hd, hi => by
    have ih := none_loop l hl d (i + 1) (by omega) (by omega)
    refine Ev.step (fun k => by unfold alias_none.l0; rfl) ?_
    refine Ev.ite_pos (by omega) ?_
    refine Ev.ite_pos (by omega) ?_
    refine Ev.ite_pos (by omega) ?_
    have hlt : i < l.length := by omega
    have e : rdOf ByteArray.empty l (i : Int) = l[i] := by
      unfold rdOf
      simp [List.getD_eq_getElem?_getD, List.getElem?_eq_getElem hlt]
    rw [e, List.drop_eq_getElem_cons hlt, List.all_cons, wrap_next (by omega) (by omega)]
    exact Ev.emp _ ih
theorem none_ev (l : List ByteArray) (hl : l.length ≤ 1000) : Ev (fun k => alias_none.f k l) (l.all empB) := by
  have := none_loop l hl _ 0 rfl (by omega)
  unfold alias_none.f
  exact this

def rightM (k : Int) (a b l s r : ByteArray) : Bool :=
  if k = 1 then numB a && (empB b && targB l s r)
  else if k = 2 then langB a && (regB b && (langB l && (empB s && empB r)))
  else if k = 3 then langB a && (empB b && targB l s r)
  else if k = 4 then scrB a && (scrB s && (empB b && (empB l && empB r)))
  else if k = 5 then regB a && (regB r && (empB b && (empB l && empB s)))
  else if k = 6 then varB a && ((empB l || varB l) && (empB b && (empB s && empB r)))
  else if k = 7 then wordB a 2 2 && (wordB b 3 8 && (wordB l 3 8 && (empB s && empB r)))
  else false
def allLow (a b l s r : ByteArray) : Bool := lowB a && (lowB b && (lowB l && (lowB s && lowB r)))
def rightB (k : Int) (a b l s r : ByteArray) : Bool := allLow a b l s r && rightM k a b l s r
section
variable (k : Int) (a b l s r : ByteArray) (ha : a.size ≤ 140737488351232) (hb : b.size ≤ 140737488351232) (hl : l.size ≤ 140737488351232) (hs : s.size ≤ 140737488351232) (hr : r.size ≤ 140737488351232)
include hl hs hr in
theorem target_ev : Ev (fun n => alias_target.f n k a b l s r) (targB l s r) := by
  unfold alias_target.f
  refine Ev.andB (lang_ev l hl) ?_
  refine Ev.res (Ev.empE s (Ev.empE r (Ev.now true) (Ev.tail (reg_ev r hr))) (Ev.andB (scr_ev s hs) (Ev.empE r (Ev.now true) (Ev.tail (reg_ev r hr))))) ?_
  cases empB s <;> cases empB r <;> simp
include ha hb hl hs hr in
theorem rightM_ev : Ev (fun n => alias_Right.m n k a b l s r) (rightM k a b l s r) := by
  have N1 : ∀ x, Ev (fun n => alias_none.f n [x]) (empB x) := fun x => Ev.res (none_ev [x] (by simp)) (by simp)
  have N2 : ∀ x y, Ev (fun n => alias_none.f n [x, y]) (empB x && empB y) := fun x y => Ev.res (none_ev [x, y] (by simp)) (by simp)
  have N3 : ∀ x y z, Ev (fun n => alias_none.f n [x, y, z]) (empB x && (empB y && empB z)) := fun x y z => Ev.res (none_ev [x, y, z] (by simp)) (by simp)
  have T := target_ev k a b l s r hl hs hr
  unfold alias_Right.m rightM
  by_cases h1 : k = 1
  · subst h1; rw [if_pos rfl]; refine Ev.ite_pos rfl ?_
    unfold alias_rule_1.f
    exact Ev.andB (num_ev a ha) (Ev.andB (N1 b) (Ev.tail T))
  rw [if_neg h1]; refine Ev.ite_neg h1 ?_
  by_cases h2 : k = 2
  · subst h2; rw [if_pos rfl]; refine Ev.ite_pos rfl ?_
    unfold alias_rule_2.f
    exact Ev.andB (lang_ev a ha) (Ev.andB (reg_ev b hb) (Ev.andB (lang_ev l hl) (Ev.tail (N2 s r))))
  rw [if_neg h2]; refine Ev.ite_neg h2 ?_
  by_cases h3 : k = 3
  · subst h3; rw [if_pos rfl]; refine Ev.ite_pos rfl ?_
    unfold alias_rule_3.f
    exact Ev.andB (lang_ev a ha) (Ev.andB (N1 b) (Ev.tail T))
  rw [if_neg h3]; refine Ev.ite_neg h3 ?_
  by_cases h4 : k = 4
  · subst h4; rw [if_pos rfl]; refine Ev.ite_pos rfl ?_
    unfold alias_rule_4.f
    exact Ev.andB (scr_ev a ha) (Ev.andB (scr_ev s hs) (Ev.tail (N3 b l r)))
  rw [if_neg h4]; refine Ev.ite_neg h4 ?_
  by_cases h5 : k = 5
  · subst h5; rw [if_pos rfl]; refine Ev.ite_pos rfl ?_
    unfold alias_rule_5.f
    exact Ev.andB (reg_ev a ha) (Ev.andB (reg_ev r hr) (Ev.tail (N3 b l s)))
  rw [if_neg h5]; refine Ev.ite_neg h5 ?_
  by_cases h6 : k = 6
  · subst h6; rw [if_pos rfl]; refine Ev.ite_pos rfl ?_
    unfold alias_rule_6.f
    refine Ev.andB (var_ev a ha) ?_
    refine Ev.res (Ev.empE l (Ev.tail (N3 b s r)) (Ev.andB (var_ev l hl) (Ev.tail (N3 b s r)))) ?_
    cases empB l <;> simp
  rw [if_neg h6]; refine Ev.ite_neg h6 ?_
  by_cases h7 : k = 7
  · subst h7; rw [if_pos rfl]; refine Ev.ite_pos rfl ?_
    unfold alias_rule_7.f
    exact Ev.andB (word_ev a ha 2 2) (Ev.andB (word_ev b hb 3 8) (Ev.andB (word_ev l hl 3 8) (Ev.tail (N2 s r))))
  rw [if_neg h7]; exact Ev.ite_neg h7 (Ev.now _)
theorem rightG_eq (x : ByteArray) (hx : x.size ≤ 140737488351232) (l : List ByteArray) (b : Bool) (h : alias_Right.g l = some b) : alias_Right.g (x :: l) = some (lowB x && b) := by
  unfold alias_Right.g lowB
  rw [Lower_eq x hx, Option.bind_some]
  by_cases e : x.toList = (lowS x).toList
  · rw [if_pos e, decide_eq_true e, h]; rfl
  · rw [if_neg e, decide_eq_false e]; rfl
include ha hb hl hs hr in
theorem Right_ev : Ev (fun n => alias_Right.f n k a b l s r) (rightB k a b l s r) := by
  unfold alias_Right.f
  have e : alias_Right.g [a, b, l, s, r] = some (allLow a b l s r) :=
    rightG_eq a ha _ _ (rightG_eq b hb _ _ (rightG_eq l hl _ _ (rightG_eq s hs _ _ ((rightG_eq r hr _ true rfl).trans (by rw [Bool.and_true])))))
  exact Ev.andB (Ev.const e) (rightM_ev k a b l s r ha hb hl hs hr)
end

def bytes8 (s : ByteArray) : ByteArray := putS (packT (lowS s)).1 8
theorem bytes8_size (s : ByteArray) : (bytes8 s).size = 8 := putS_size _ _
def rowS (k : Int) (a b l s r : ByteArray) : ByteArray := ((((strOfNums [k % 256] ++ bytes8 a) ++ bytes8 b) ++ bytes8 l) ++ bytes8 s) ++ bytes8 r
theorem one_size (k : Int) : (strOfNums [k % 256]).size = 1 := by rw [strOfNums_size]; rfl
theorem rowS_size (k : Int) (a b l s r : ByteArray) : (rowS k a b l s r).size = 41 := by
  unfold rowS
  simp only [ByteArray.size_append, bytes8_size, one_size]
theorem encE_ev (x : ByteArray) (hx : x.size ≤ 140737488351232) (l : List ByteArray) (o t : ByteArray) (ho : o.size ≤ 140737488351232) (h : Ev (fun n => alias_Encode.e n l (o ++ bytes8 x)) t) : Ev (fun n => alias_Encode.e n (x :: l) o) t := by
  unfold alias_Encode.e
  refine Ev.bind_c (Pack_eq x hx) ?_
  refine Ev.bind (Put_ev _ 8 (by decide)) ?_
  refine Ev.ite_pos (by rw [putS_size]; omega) ?_
  exact h
section
variable (k : Int) (a b l s r : ByteArray) (ha : a.size ≤ 140737488351232) (hb : b.size ≤ 140737488351232) (hl : l.size ≤ 140737488351232) (hs : s.size ≤ 140737488351232) (hr : r.size ≤ 140737488351232)
include ha hb hl hs hr
theorem Encode_ev : Ev (fun n => alias_Encode.f n k a b l s r) (if rightB k a b l s r = true then (rowS k a b l s r, true) else (⟨#[]⟩, false)) := by
  unfold alias_Encode.f
  refine Ev.bind (Right_ev k a b l s r ha hb hl hs hr) ?_
  cases rightB k a b l s r with
  | false => exact Ev.ite_neg (by decide) (Ev.now _)
  | true =>
    refine Ev.ite_pos rfl ?_
    have h : Ev (fun n => alias_Encode.e n [a, b, l, s, r] (strOfNums [k % 256])) (rowS k a b l s r) := by
      refine encE_ev a ha _ _ _ (by rw [one_size]; decide) ?_
      refine encE_ev b hb _ _ _ (by simp only [ByteArray.size_append, bytes8_size, one_size]; decide) ?_
      refine encE_ev l hl _ _ _ (by simp only [ByteArray.size_append, bytes8_size, one_size]; decide) ?_
      refine encE_ev s hs _ _ _ (by simp only [ByteArray.size_append, bytes8_size, one_size]; decide) ?_
      refine encE_ev r hr _ _ _ (by simp only [ByteArray.size_append, bytes8_size, one_size]; decide) ?_
      unfold alias_Encode.e
      exact Ev.now _
    exact Ev.bind h (Ev.now _)
end
end Go.Proofs.YtmbfnbnlajchmaaDoor.Pure
