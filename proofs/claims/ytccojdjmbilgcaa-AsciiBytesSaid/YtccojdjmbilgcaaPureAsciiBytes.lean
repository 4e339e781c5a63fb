/- The law AsciiBytes, in plain words: each byte by itself is a letter, a digit, or neither, as it is among others. -/
import Derived.Test.YtccojdjmbilgcaaPureFacts
import Derived.Test.YtccojdjmbilgcaaP6
namespace Go.Proofs.Ytccojdjmbilgcaa.Pure
open Go.RowKit Go.Proofs.Ytccojdjmbilgcaa.P Go.Proofs.YtccojdjmbilgcaaW.PrintWords Go.Proofs.YtccojdjmbilgcaaW.PrintLast Go.Proofs.YtccojdjmbilgcaaW.PrintMore
open Go.Proofs.Ytccojdjmbilgcaa.Each Go.Proofs.Ytccojdjmbilgcaa.Base
set_option linter.unusedVariables false
set_option linter.unusedSimpArgs false

theorem cls_byte (c : Int) : clsL [c] = if letB c = true then 1 else if digB c = true then 2 else 0 := by
  unfold clsL clsFrom sumI
  simp only [List.all_cons, List.all_nil, Bool.and_true, List.any_cons, List.any_nil, Bool.or_false, Bool.false_or]
  by_cases h1 : letB c = true
  · rw [h1, let_dig c h1]; rfl
  · have h1' : letB c = false := by simpa using h1
    rw [h1']
    cases h2 : digB c <;> rfl
theorem bytes_wf {a : Int} (h : (Lit.int .u8 a).wf = true) : byteI a := by
  have h2 : IntKind.u8.min ≤ a ∧ a ≤ IntKind.u8.max := by simpa [Lit.wf] using h
  exact h2
theorem AsciiBytes : isoglosslaw02_AsciiBytes.Pure := by
  intro c a hc _
  have hc := bytes_wf hc
  obtain ⟨s, ha, hs⟩ := short_ex a
  have h1 : bytesOf (strOfNums [c]) = [c] := bytesOf_str [c] (by intro x hx; simp at hx; rw [hx]; exact hc)
  have z1 : (strOfNums [c]).size = 1 := by rw [size_bytesOf, h1]; rfl
  refine Ev.rounds ?_
  unfold isoglosslaw02_AsciiBytes.f
  refine Ev.bind awake_ev ?_
  refine Ev.bind_c ha ?_
  refine Ev.name ?_
  generalize strOfNums [c] = o at *
  refine Ev.bind (Class_ev o (by omega)) ?_
  rw [h1, cls_byte]
  have hso : (s ++ o).size ≤ 140737488351232 := by rw [size_append]; omega
  have hos : (o ++ s).size ≤ 140737488351232 := by rw [size_append]; omega
  have A1 := Alnum_ev _ hso
  have A2 := Alnum_ev s (by omega)
  have B1 := Alpha_ev _ hos
  have B2 := Alpha_ev s (by omega)
  have t1 : (clsL (bytesOf (s ++ o)) != 0) = ((letB c || digB c) && (decide (bytesOf s = []) || clsL (bytesOf s) != 0)) := by
    rw [bytesOf_append, h1, Bool.eq_iff_iff]
    simp only [bne_iff_ne, ne_eq, Bool.and_eq_true, Bool.or_eq_true, decide_eq_true_iff, cls_zero, List.all_append, List.all_cons, List.all_nil, Bool.and_true]
    simp only [List.append_eq_nil_iff, reduceCtorEq, and_false, false_or, Bool.and_eq_false_iff, not_or, Bool.not_eq_false, Bool.or_eq_true]
    constructor
    · rintro ⟨x, y⟩
      refine ⟨y, ?_⟩
      by_cases e : bytesOf s = []
      · exact .inl e
      · exact .inr ⟨e, x⟩
    · rintro ⟨y, x⟩
      refine ⟨?_, y⟩
      rcases x with e | ⟨_, e⟩
      · rw [e]; rfl
      · exact e
  have t2 : (clsL (bytesOf (o ++ s)) == 1) = (letB c && (decide (bytesOf s = []) || clsL (bytesOf s) == 1)) := by
    rw [bytesOf_append, h1, Bool.eq_iff_iff]
    simp only [beq_iff_eq, Bool.and_eq_true, Bool.or_eq_true, decide_eq_true_iff, cls_one, List.singleton_append, ne_eq, reduceCtorEq, not_false_eq_true, true_and, List.all_cons]
    constructor
    · rintro ⟨x, y⟩
      refine ⟨x, ?_⟩
      by_cases e : bytesOf s = []
      · exact .inl e
      · exact .inr ⟨e, y⟩
    · rintro ⟨x, y⟩
      refine ⟨x, ?_⟩
      rcases y with e | ⟨_, e⟩
      · rw [e]; rfl
      · exact e
  rw [t1] at A1
  rw [t2] at B1
  clear t1 t2 h1
  generalize hn : clsL (bytesOf s) = n at *
  have hn0 : bytesOf s = [] → n = 0 := fun e => by rw [← hn, e]; decide
  have j1 : ∀ d : Bool, d = digB c → Ev (fun k => isoglosslaw02_AsciiBytes.j1 k s true o (if letB c = true then 1 else if digB c = true then 2 else 0) (letB c) d) true := by
    intro d hd
    subst hd
    refine Ev.step (fun k => by unfold isoglosslaw02_AsciiBytes.j1; rfl) ?_
    have hld := let_dig c
    generalize letB c = l at *
    generalize digB c = d at *
    cases l with
    | true =>
      obtain rfl := hld rfl
      simp only [if_true, Bool.true_or, Bool.true_and] at A1 B1 ⊢
      repeat (refine Ev.ite_pos (by decide) ?_)
      refine Ev.ite_pos (by omega) ?_
      refine Ev.bind A1 ?_
      refine Ev.ite_pos (by decide) ?_
      by_cases h : s.toList = []
      · have e := toList_nil.1 h
        rw [decide_eq_true e, Bool.true_or] at B1
        refine Ev.ite_pos h ?_
        refine Ev.ite_pos (by simp [e]) ?_
        refine Ev.ite_pos (by omega) ?_
        exact Ev.bind B1 (Ev.now _)
      · have e : bytesOf s ≠ [] := fun z => h (toList_nil.2 z)
        rw [decide_eq_false e, Bool.false_or] at B1
        refine Ev.ite_neg h ?_
        refine Ev.bind A2 ?_
        refine Ev.ite_pos (by simp [e]) ?_
        refine Ev.ite_pos (by omega) ?_
        refine Ev.bind B1 ?_
        refine Ev.bind B2 ?_
        exact Ev.res (Ev.now _) (by simp)
    | false =>
      simp only [Bool.false_or, Bool.false_and, Bool.false_eq_true, if_false] at A1 B1 ⊢
      cases d with
      | true =>
        simp only [if_true, Bool.true_and] at A1 ⊢
        repeat (refine Ev.ite_pos (by decide) ?_)
        refine Ev.ite_pos (by omega) ?_
        refine Ev.bind A1 ?_
        refine Ev.ite_pos (by decide) ?_
        by_cases h : s.toList = []
        · have e := toList_nil.1 h
          refine Ev.ite_pos h ?_
          refine Ev.ite_pos (by simp [e]) ?_
          refine Ev.ite_pos (by omega) ?_
          exact Ev.bind B1 (Ev.now _)
        · have e : bytesOf s ≠ [] := fun z => h (toList_nil.2 z)
          refine Ev.ite_neg h ?_
          refine Ev.bind A2 ?_
          refine Ev.ite_pos (by simp [e]) ?_
          refine Ev.ite_pos (by omega) ?_
          exact Ev.bind B1 (Ev.now _)
      | false =>
        simp only [Bool.false_and, Bool.false_eq_true, if_false] at A1 ⊢
        repeat (refine Ev.ite_pos (by decide) ?_)
        refine Ev.ite_pos (by omega) ?_
        refine Ev.bind A1 ?_
        refine Ev.ite_neg (by decide) ?_
        refine Ev.ite_pos (by decide) ?_
        refine Ev.ite_pos (by omega) ?_
        exact Ev.bind B1 (Ev.now _)
  have j0 : ∀ l : Bool, l = letB c → Ev (fun k => isoglosslaw02_AsciiBytes.j0 k c s true o (if letB c = true then 1 else if digB c = true then 2 else 0) l) true := by
    intro l hl
    subst hl
    refine Ev.step (fun k => by unfold isoglosslaw02_AsciiBytes.j0; rfl) ?_
    have hd : ∀ b : Bool, (b = true ↔ (48 ≤ c ∧ c ≤ 57)) → b = digB c := by
      intro b hb
      unfold digB
      rw [Bool.eq_iff_iff, hb, decide_eq_true_iff]
    refine Ev.cases (fun h => ?_) (fun h => ?_)
    · exact j1 _ (hd _ (by rw [decide_eq_true_iff]; omega))
    · exact j1 _ (hd _ (by simp; omega))
  have hl : ∀ b : Bool, (b = true ↔ ((97 ≤ c ∧ c ≤ 122) ∨ (65 ≤ c ∧ c ≤ 90))) → b = letB c := by
    intro b hb
    unfold letB
    rw [Bool.eq_iff_iff, hb, decide_eq_true_iff]
  repeat' (refine Ev.cases (fun _ => ?_) (fun _ => ?_))
  all_goals exact j0 _ (hl _ (by simp; omega))
end Go.Proofs.Ytccojdjmbilgcaa.Pure
