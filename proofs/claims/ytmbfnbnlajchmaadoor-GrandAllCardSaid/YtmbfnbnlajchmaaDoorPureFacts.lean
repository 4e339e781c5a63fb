/- Plain facts on how rows of numbers stand, and on their cases. -/
import Derived.Test.YtmbfnbnlajchmaaDoorAsciiLaws
namespace Go.Proofs.YtmbfnbnlajchmaaDoor.Pure
open Go.RowKit Go.Proofs.YtmbfnbnlajchmaaDoor.P Go.Proofs.YtmbfnbnlajchmaaDoorW.PrintWords Go.Proofs.YtmbfnbnlajchmaaDoorW.PrintLast Go.Proofs.YtmbfnbnlajchmaaDoorW.PrintMore
open Go.Proofs.YtmbfnbnlajchmaaDoor.Each Go.Proofs.YtmbfnbnlajchmaaDoor.Base
set_option linter.unusedVariables false
set_option linter.unusedSimpArgs false

theorem Ev.cases {α : Type} {c : Prop} [Decidable c] {a b : Nat → Option α} {r : α} (h : c → Ev a r) (k : ¬ c → Ev b r) : Ev (fun n => if c then a n else b n) r := by
  by_cases hc : c
  · exact Base.Ev.ite_pos hc (h hc)
  · exact Base.Ev.ite_neg hc (k hc)
theorem Ev.res {α : Type} {g : Nat → Option α} {r r' : α} (h : Ev g r) (e : r = r') : Ev g r' := e ▸ h

theorem cmpL_three : ∀ l m : List Int, cmpL l m = -1 ∨ cmpL l m = 0 ∨ cmpL l m = 1
  | [], [] => by simp [cmpL]
  | [], _ :: _ => by simp [cmpL]
  | _ :: _, [] => by simp [cmpL]
  | a :: l, b :: m => by
    have := cmpL_three l m
    simp only [cmpL]
    (repeat' split) <;> omega
theorem cmpL_swap : ∀ l m : List Int, cmpL m l = - cmpL l m
  | [], [] => by simp [cmpL]
  | [], _ :: _ => by simp [cmpL]
  | _ :: _, [] => by simp [cmpL]
  | a :: l, b :: m => by
    have := cmpL_swap l m
    simp only [cmpL]
    (repeat' split) <;> omega
theorem cmpL_zero : ∀ l m : List Int, cmpL l m = 0 ↔ l = m
  | [], [] => by simp [cmpL]
  | [], _ :: _ => by simp [cmpL]
  | _ :: _, [] => by simp [cmpL]
  | a :: l, b :: m => by
    have ih := cmpL_zero l m
    simp only [cmpL, List.cons.injEq]
    by_cases h1 : a < b
    · rw [if_pos h1]; constructor
      · intro h; omega
      · rintro ⟨rfl, _⟩; omega
    · rw [if_neg h1]
      by_cases h2 : b < a
      · rw [if_pos h2]; constructor
        · intro h; omega
        · rintro ⟨rfl, _⟩; omega
      · rw [if_neg h2, ih]
        exact ⟨fun h => ⟨by omega, h⟩, fun h => h.2⟩
theorem cmpL_trans : ∀ l m n : List Int, cmpL l m ≤ 0 → cmpL m n ≤ 0 → cmpL l n ≤ 0
  | [], [], [] => by simp [cmpL]
  | [], [], _ :: _ => by simp [cmpL]
  | [], _ :: _, [] => by simp [cmpL]
  | [], _ :: _, _ :: _ => by simp [cmpL]
  | _ :: _, [], _ => by simp [cmpL]
  | _ :: _, _ :: _, [] => by simp [cmpL]
  | a :: l, b :: m, c :: n => by
    have ih := cmpL_trans l m n
    simp only [cmpL]
    (repeat' split) <;> omega
theorem cmpL_more : ∀ (l m : List Int), m ≠ [] → cmpL l (l ++ m) = -1
  | [], [], h => absurd rfl h
  | [], _ :: _, _ => by simp [cmpL]
  | a :: l, m, h => by
    have ih := cmpL_more l m h
    simp [cmpL, ih]

theorem low_low (c : Int) : lowI (lowI c) = lowI c := by unfold lowI; (repeat' split) <;> omega
theorem low_up (c : Int) : lowI (upI c) = lowI c := by unfold lowI upI; (repeat' split) <;> omega
theorem up_low (c : Int) : upI (lowI c) = upI c := by unfold lowI upI; (repeat' split) <;> omega
theorem up_up (c : Int) : upI (upI c) = upI c := by unfold upI; (repeat' split) <;> omega
theorem map_low_low (l : List Int) : (l.map lowI).map lowI = l.map lowI := by rw [List.map_map]; exact List.map_congr_left fun x _ => low_low x
theorem map_low_up (l : List Int) : (l.map upI).map lowI = l.map lowI := by rw [List.map_map]; exact List.map_congr_left fun x _ => low_up x
theorem map_up_low (l : List Int) : (l.map lowI).map upI = l.map upI := by rw [List.map_map]; exact List.map_congr_left fun x _ => up_low x
theorem map_low_tit (l : List Int) : (titL l).map lowI = l.map lowI := by
  cases l with
  | nil => rfl
  | cons c l => simp only [titL, List.map_cons, low_up, map_low_low]
theorem tit_tit (l : List Int) : titL (titL l) = titL l := by
  cases l with
  | nil => rfl
  | cons c l => simp only [titL, up_up, map_low_low]
theorem let_low (c : Int) : letB (lowI c) = letB c := by unfold letB lowI; rw [Bool.eq_iff_iff]; simp only [decide_eq_true_iff]; split <;> omega
theorem let_up (c : Int) : letB (upI c) = letB c := by unfold letB upI; rw [Bool.eq_iff_iff]; simp only [decide_eq_true_iff]; split <;> omega
theorem dig_low (c : Int) : digB (lowI c) = digB c := by unfold digB lowI; rw [Bool.eq_iff_iff]; simp only [decide_eq_true_iff]; split <;> omega
theorem dig_up (c : Int) : digB (upI c) = digB c := by unfold digB upI; rw [Bool.eq_iff_iff]; simp only [decide_eq_true_iff]; split <;> omega
theorem cls_map (f : Int → Int) (hl : ∀ c, letB (f c) = letB c) (hd : ∀ c, digB (f c) = digB c) (l : List Int) : clsL (l.map f) = clsL l := by
  unfold clsL clsFrom
  rw [List.all_map, List.any_map, List.any_map]
  simp only [Function.comp_def, hl, hd]
theorem cls_low (l : List Int) : clsL (l.map lowI) = clsL l := cls_map lowI let_low dig_low l
theorem cls_up (l : List Int) : clsL (l.map upI) = clsL l := cls_map upI let_up dig_up l
theorem cls_four (l : List Int) : clsL l = 0 ∨ clsL l = 1 ∨ clsL l = 2 ∨ clsL l = 3 := by
  unfold clsL clsFrom sumI
  (repeat' split) <;> omega
theorem clsL_nil : clsL [] = 0 := by decide
/-- Class 0: it is empty, or has something else. -/
theorem cls_zero (l : List Int) : clsL l = 0 ↔ l = [] ∨ l.all (fun c => letB c || digB c) = false := by
  unfold clsL clsFrom sumI
  cases h : l.all (fun c => letB c || digB c) with
  | false => simp
  | true =>
    rw [if_pos rfl]
    cases l with
    | nil => simp
    | cons c l =>
      simp only [List.all_cons, Bool.and_eq_true] at h
      have hc := h.1
      simp only [List.any_cons, Bool.false_or, reduceCtorEq, false_or]
      cases h1 : letB c with
      | true => simp; split <;> omega
      | false =>
        rw [h1, Bool.false_or] at hc
        rw [hc]; simp; split <;> omega
theorem cls_one (l : List Int) : clsL l = 1 ↔ l ≠ [] ∧ l.all letB = true := by
  have hz := cls_zero l
  constructor
  · intro h
    refine ⟨fun e => by rw [e] at h; exact absurd h (by decide), ?_⟩
    unfold clsL clsFrom sumI at h
    by_cases ha : l.all (fun c => letB c || digB c) = true
    · rw [if_pos ha] at h
      have hd : l.any digB = false := by
        cases hd : l.any digB with
        | false => rfl
        | true => rw [hd] at h; simp only [Bool.false_or] at h; revert h; split <;> simp
      rw [List.all_eq_true] at ha ⊢
      intro x hx
      have := ha x hx
      rw [List.any_eq_false] at hd
      have hd2 := hd x hx
      simp at hd2
      simpa [hd2] using this
    · rw [if_neg ha] at h; omega
  · rintro ⟨hne, ha⟩
    have hall : l.all (fun c => letB c || digB c) = true := by
      rw [List.all_eq_true] at ha ⊢
      intro x hx
      simp [ha x hx]
    have hd : l.any digB = false := by
      rw [List.any_eq_false]
      intro x hx
      rw [List.all_eq_true] at ha
      simp [let_dig x (ha x hx)]
    have hl : l.any letB = true := by
      cases l with
      | nil => exact absurd rfl hne
      | cons c l => rw [List.all_cons, Bool.and_eq_true] at ha; simp [ha.1]
    unfold clsL clsFrom sumI
    rw [if_pos hall, hd, hl]
    rfl
theorem lowL_low (s : ByteArray) : lowL (lowS s) = lowL s := by unfold lowL; rw [lowS_bytes, map_low_low]
theorem lowL_up (s : ByteArray) : lowL (upS s) = lowL s := by unfold lowL; rw [upS_bytes, map_low_up]
theorem lowL_tit (s : ByteArray) : lowL (titS s) = lowL s := by unfold lowL; rw [titS_bytes, map_low_tit]
theorem lowL_append (s t : ByteArray) : lowL (s ++ t) = lowL s ++ lowL t := by unfold lowL; rw [bytesOf_append, List.map_append]
theorem bt_map {s t : ByteArray} {f : Int → Int} (h : bytesOf t = (bytesOf s).map f) (i : Nat) (hi : i < s.size) : bt t (i : Int) = f (bt s (i : Int)) := by
  have hl : i < (bytesOf s).length := by rw [bytesOf_length]; exact hi
  rw [bt_get s i _ (List.getElem?_eq_getElem hl)]
  exact bt_get t i _ (by rw [h, List.getElem?_map, List.getElem?_eq_getElem hl]; rfl)
theorem size_append (s t : ByteArray) : (s ++ t).size = s.size + t.size := by rw [size_bytesOf, bytesOf_append, List.length_append, bytesOf_length, bytesOf_length]
end Go.Proofs.YtmbfnbnlajchmaaDoor.Pure
