/- What the alias laws' own helpers come to: short texts, rests, the example; what a right alias's texts are. -/
import Derived.Test.YtmbfnbnlajchmaaDoorAbAliasMade
import Derived.Test.YtmbfnbnlajchmaaDoorAbP11
namespace Go.Proofs.YtmbfnbnlajchmaaDoor.Pure
open Go.RowKit Go.Proofs.YtmbfnbnlajchmaaDoor.P Go.Proofs.YtmbfnbnlajchmaaDoorW.PrintWords Go.Proofs.YtmbfnbnlajchmaaDoorW.PrintLast Go.Proofs.YtmbfnbnlajchmaaDoorW.PrintMore
open Go.Proofs.YtmbfnbnlajchmaaDoor.Each Go.Proofs.YtmbfnbnlajchmaaDoor.Base Go.Proofs.YtmbfnbnlajchmaaDoor.PackW
set_option linter.unusedVariables false
set_option linter.unusedSimpArgs false

theorem rest12_eq (a n : Int) (h0 : 0 < n) (h1 : n ≤ 1000) : ∃ r, isoglosslaw12_rest.f a n = some r ∧ 0 ≤ r ∧ r < n := by
  unfold isoglosslaw12_rest.f
  rw [if_neg (by omega)]
  exact ⟨_, rfl, mod_range a n h0 h1⟩
theorem awake12_ev : Ev (fun k => isoglosslaw12_awake.f k) true := by
  unfold isoglosslaw12_awake.f
  have h := Encode_ev 3 ⟨#[105, 119]⟩ ⟨#[]⟩ ⟨#[104, 101]⟩ ⟨#[]⟩ ⟨#[]⟩ (by decide) (by decide) (by decide) (by decide) (by decide)
  rw [if_pos (by decide +kernel)] at h
  refine Ev.bind h ?_
  have z := rowS_size 3 ⟨#[105, 119]⟩ ⟨#[]⟩ ⟨#[104, 101]⟩ ⟨#[]⟩ ⟨#[]⟩
  refine Ev.ite_pos rfl ?_
  refine Ev.ite_pos (by show ((rowS _ _ _ _ _ _).size : Int) = 41; rw [z]; rfl) ?_
  refine Ev.ite_pos (by decide) ?_
  refine Ev.ite_pos (by show (9 : Int) ≤ ((rowS _ _ _ _ _ _).size : Int); rw [z]; decide) ?_
  refine Ev.ite_pos (by rw [toList_data]; decide +kernel) ?_
  refine Ev.ite_pos (by decide) ?_
  refine Ev.ite_pos (by show (19 : Int) ≤ ((rowS _ _ _ _ _ _).size : Int); rw [z]; decide) ?_
  refine Ev.res (Ev.now _) ?_
  rw [toList_data]; decide +kernel

def packB (s : ByteArray) : Bool := mayL ((bytesOf s).map lowI)
theorem packT_yes {s : ByteArray} (h : packB s = true) : packT (lowS s) = (padV 8 ((bytesOf s).map lowI), true) := by
  unfold packB at h
  rw [packT_eq, lowS_bytes, if_pos h]
theorem alnum_may (c : Int) (h : (letB c || digB c) = true) : mayI (lowI c) = true := by
  unfold letB digB at h
  unfold mayI lowI
  rw [Bool.or_eq_true, decide_eq_true_iff, decide_eq_true_iff] at h
  rw [decide_eq_true_iff]
  split <;> omega
theorem pack_cls {s : ByteArray} (h : clsS s ≠ 0) (h8 : s.size ≤ 8) : packB s = true := by
  unfold packB mayL
  rw [Bool.and_eq_true, decide_eq_true_iff, List.length_map, bytesOf_length]
  refine ⟨?_, h8⟩
  have ha : (bytesOf s).all (fun c => letB c || digB c) = true := by
    cases g : (bytesOf s).all (fun c => letB c || digB c) with
    | true => rfl
    | false => exact absurd ((cls_zero _).2 (.inr g)) h
  rw [List.all_map]
  rw [List.all_eq_true] at ha ⊢
  exact fun x hx => alnum_may x (ha x hx)
theorem pack_emp {s : ByteArray} (h : empB s = true) : packB s = true := by
  have : bytesOf s = [] := toList_nil.1 ((empB_iff s).1 h)
  unfold packB
  rw [this]; rfl
theorem pack_lang {s : ByteArray} (h : langB s = true) : packB s = true := by
  unfold langB longB at h; simp at h
  exact pack_cls (by omega) (by omega)
theorem pack_scr {s : ByteArray} (h : scrB s = true) : packB s = true := by
  unfold scrB at h; simp at h
  exact pack_cls (by omega) (by omega)
theorem pack_reg {s : ByteArray} (h : regB s = true) : packB s = true := by
  unfold regB at h; simp at h
  exact pack_cls (by omega) (by omega)
theorem pack_var {s : ByteArray} (h : varB s = true) : packB s = true := by
  unfold varB longB at h; simp at h
  exact pack_cls h.1 (by omega)
theorem pack_word {s : ByteArray} {a b : Int} (hb : b ≤ 8) (h : wordB s a b = true) : packB s = true := by
  unfold wordB longB at h; simp at h
  exact pack_cls h.1 (by omega)
theorem pack_num {s : ByteArray} (h : numB s = true) : packB s = true := by
  unfold numB at h; simp at h
  exact pack_cls (by omega) (by omega)
theorem pack_targ {l s r : ByteArray} (h : targB l s r = true) : packB l = true ∧ packB s = true ∧ packB r = true := by
  unfold targB at h
  simp only [Bool.and_eq_true, Bool.or_eq_true] at h
  exact ⟨pack_lang h.1, h.2.1.elim pack_emp pack_scr, h.2.2.elim pack_emp pack_reg⟩
structure Fine (k : Int) (a b l s r : ByteArray) : Prop where
  k1 : 1 ≤ k
  k7 : k ≤ 7
  la : lowS a = a
  lb : lowS b = b
  ll : lowS l = l
  ls : lowS s = s
  lr : lowS r = r
  pa : packB a = true
  pb : packB b = true
  pl : packB l = true
  ps : packB s = true
  pr : packB r = true
theorem low_iff (s : ByteArray) : lowB s = true ↔ lowS s = s := by
  unfold lowB
  rw [decide_eq_true_iff, toList_inj]
  exact ⟨fun h => h.symm, fun h => h.symm⟩
theorem right_fine {k : Int} {a b l s r : ByteArray} (h : rightB k a b l s r = true) : Fine k a b l s r := by
  unfold rightB allLow at h
  simp only [Bool.and_eq_true] at h
  obtain ⟨⟨h1, h2, h3, h4, h5⟩, hm⟩ := h
  rw [low_iff] at h1 h2 h3 h4 h5
  unfold rightM at hm
  have mk : 1 ≤ k → k ≤ 7 → packB a = true → packB b = true → packB l = true → packB s = true → packB r = true → Fine k a b l s r := fun x y p q u v z => ⟨x, y, h1, h2, h3, h4, h5, p, q, u, v, z⟩
  by_cases c1 : k = 1
  · rw [if_pos c1] at hm; simp only [Bool.and_eq_true] at hm
    have t := pack_targ hm.2.2
    exact mk (by omega) (by omega) (pack_num hm.1) (pack_emp hm.2.1) t.1 t.2.1 t.2.2
  rw [if_neg c1] at hm
  by_cases c2 : k = 2
  · rw [if_pos c2] at hm; simp only [Bool.and_eq_true] at hm
    exact mk (by omega) (by omega) (pack_lang hm.1) (pack_reg hm.2.1) (pack_lang hm.2.2.1) (pack_emp hm.2.2.2.1) (pack_emp hm.2.2.2.2)
  rw [if_neg c2] at hm
  by_cases c3 : k = 3
  · rw [if_pos c3] at hm; simp only [Bool.and_eq_true] at hm
    have t := pack_targ hm.2.2
    exact mk (by omega) (by omega) (pack_lang hm.1) (pack_emp hm.2.1) t.1 t.2.1 t.2.2
  rw [if_neg c3] at hm
  by_cases c4 : k = 4
  · rw [if_pos c4] at hm; simp only [Bool.and_eq_true] at hm
    exact mk (by omega) (by omega) (pack_scr hm.1) (pack_emp hm.2.2.1) (pack_emp hm.2.2.2.1) (pack_scr hm.2.1) (pack_emp hm.2.2.2.2)
  rw [if_neg c4] at hm
  by_cases c5 : k = 5
  · rw [if_pos c5] at hm; simp only [Bool.and_eq_true] at hm
    exact mk (by omega) (by omega) (pack_reg hm.1) (pack_emp hm.2.2.1) (pack_emp hm.2.2.2.1) (pack_emp hm.2.2.2.2) (pack_reg hm.2.1)
  rw [if_neg c5] at hm
  by_cases c6 : k = 6
  · rw [if_pos c6] at hm; simp only [Bool.and_eq_true, Bool.or_eq_true] at hm
    exact mk (by omega) (by omega) (pack_var hm.1) (pack_emp hm.2.2.1) (hm.2.1.elim pack_emp pack_var) (pack_emp hm.2.2.2.1) (pack_emp hm.2.2.2.2)
  rw [if_neg c6] at hm
  by_cases c7 : k = 7
  · rw [if_pos c7] at hm; simp only [Bool.and_eq_true] at hm
    exact mk (by omega) (by omega) (pack_word (by decide) hm.1) (pack_word (by decide) hm.2.1) (pack_word (by decide) hm.2.2.1) (pack_emp hm.2.2.2.1) (pack_emp hm.2.2.2.2)
  rw [if_neg c7] at hm
  cases hm
end Go.Proofs.YtmbfnbnlajchmaaDoor.Pure
