/- The law AsciiJoins, in plain words: two texts, one behind the other, have what both have; their cases are their cases, but a title's. -/
import Derived.Test.YtccojdjmbilgcaaPureFacts
import Derived.Test.YtccojdjmbilgcaaP7
namespace Go.Proofs.Ytccojdjmbilgcaa.Pure
open Go.RowKit Go.Proofs.Ytccojdjmbilgcaa.P Go.Proofs.YtccojdjmbilgcaaW.PrintWords Go.Proofs.YtccojdjmbilgcaaW.PrintLast Go.Proofs.YtccojdjmbilgcaaW.PrintMore
open Go.Proofs.Ytccojdjmbilgcaa.Each Go.Proofs.Ytccojdjmbilgcaa.Base
set_option linter.unusedVariables false
set_option linter.unusedSimpArgs false

theorem cls_append (l m : List Int) (hl : l ≠ []) (hm : m ≠ []) : clsL (l ++ m) = if clsL l > 0 ∧ clsL m > 0 then (if clsL l = clsL m then clsL l else 3) else 0 := by
  have nl := cls_zero l
  have nm := cls_zero m
  by_cases h1 : l.all (fun c => letB c || digB c) = true
  · by_cases h2 : m.all (fun c => letB c || digB c) = true
    · have p1 : clsL l ≠ 0 := fun e => by rcases nl.1 e with h | h; exact hl h; rw [h1] at h; cases h
      have p2 : clsL m ≠ 0 := fun e => by rcases nm.1 e with h | h; exact hm h; rw [h2] at h; cases h
      have f1 := cls_four l
      have f2 := cls_four m
      rw [if_pos ⟨by omega, by omega⟩]
      have h3 : (l ++ m).all (fun c => letB c || digB c) = true := by rw [List.all_append, h1, h2]; rfl
      have e1 : clsL l = sumI (l.any letB) (l.any digB) := by unfold clsL clsFrom; rw [if_pos h1, Bool.false_or, Bool.false_or]
      have e2 : clsL m = sumI (m.any letB) (m.any digB) := by unfold clsL clsFrom; rw [if_pos h2, Bool.false_or, Bool.false_or]
      have e3 : clsL (l ++ m) = sumI (l.any letB || m.any letB) (l.any digB || m.any digB) := by unfold clsL clsFrom; rw [if_pos h3, Bool.false_or, Bool.false_or, List.any_append, List.any_append]
      clear f1 f2 nl nm
      rw [e1] at p1 ⊢
      rw [e2] at p2 ⊢
      rw [e3]
      clear e1 e2 e3 h1 h2 h3
      generalize l.any letB = a at *
      generalize l.any digB = b at *
      generalize m.any letB = c at *
      generalize m.any digB = d at *
      revert p1 p2
      cases a <;> cases b <;> cases c <;> cases d <;> decide
    · have h2' : m.all (fun c => letB c || digB c) = false := by simpa using h2
      have e : clsL m = 0 := nm.2 (.inr h2')
      rw [if_neg (by omega)]
      exact (cls_zero _).2 (.inr (by rw [List.all_append, h2', Bool.and_false]))
  · have h1' : l.all (fun c => letB c || digB c) = false := by simpa using h1
    have e : clsL l = 0 := nl.2 (.inr h1')
    rw [if_neg (by omega)]
    exact (cls_zero _).2 (.inr (by rw [List.all_append, h1', Bool.false_and]))
theorem Joins_j2 (s t : ByteArray) (hs : s.size ≤ 40) (ht : t.size ≤ 40) (x : Int) (hx : x = clsL (bytesOf s ++ bytesOf t)) : Ev (fun k => isoglosslaw02_AsciiJoins.j2 k s t true x) true := by
  have hst : (s ++ t).size ≤ 140737488351232 := by rw [size_append]; omega
  refine Ev.step (fun k => by unfold isoglosslaw02_AsciiJoins.j2; rfl) ?_
  refine Ev.ite_pos rfl ?_
  refine Ev.ite_pos (by omega) ?_
  refine Ev.bind (Class_ev _ hst) ?_
  refine Ev.ite_pos (by rw [bytesOf_append, hx]) ?_
  refine Ev.bind_c (Lower_eq _ hst) ?_
  refine Ev.bind_c (Lower_eq s (by omega)) ?_
  refine Ev.bind_c (Lower_eq t (by omega)) ?_
  refine Ev.ite_pos (by rw [lowS_size, lowS_size]; omega) ?_
  refine Ev.ite_pos (by rw [toList_inj]; apply bytesOf_inj; rw [lowS_bytes, bytesOf_append, bytesOf_append, lowS_bytes, lowS_bytes, List.map_append]) ?_
  refine Ev.bind_c (Upper_eq _ hst) ?_
  refine Ev.bind_c (Upper_eq s (by omega)) ?_
  refine Ev.bind_c (Upper_eq t (by omega)) ?_
  refine Ev.ite_pos (by rw [upS_size, upS_size]; omega) ?_
  refine Ev.ite_pos (by rw [toList_inj]; apply bytesOf_inj; rw [upS_bytes, bytesOf_append, bytesOf_append, upS_bytes, upS_bytes, List.map_append]) ?_
  by_cases h : s.toList = []
  · exact Ev.ite_pos h (Ev.now _)
  · refine Ev.ite_neg h ?_
    refine Ev.bind_c (Title_eq _ hst) ?_
    refine Ev.bind_c (Title_eq s (by omega)) ?_
    refine Ev.bind_c (Lower_eq t (by omega)) ?_
    refine Ev.ite_pos (by rw [titS_size, lowS_size]; omega) ?_
    refine Ev.res (Ev.now _) ?_
    rw [beq_iff_eq, toList_inj]
    apply bytesOf_inj
    rw [titS_bytes, bytesOf_append, bytesOf_append, titS_bytes, lowS_bytes]
    have hne : bytesOf s ≠ [] := fun e => h (toList_nil.2 e)
    generalize bytesOf s = l at hne
    cases l with
    | nil => exact absurd rfl hne
    | cons c l => simp [titL]
theorem AsciiJoins : isoglosslaw02_AsciiJoins.Pure := by
  intro a b _ _
  obtain ⟨s, ha, hs⟩ := short_ex a
  obtain ⟨t, hb, ht⟩ := short_ex b
  have j1 : ∀ w : Int, (bytesOf s ≠ [] → bytesOf t ≠ [] → w = clsL (bytesOf s ++ bytesOf t)) → Ev (fun k => isoglosslaw02_AsciiJoins.j1 k s t true (clsL (bytesOf s)) (clsL (bytesOf t)) w) true := by
    intro w hw
    refine Ev.step (fun k => by unfold isoglosslaw02_AsciiJoins.j1; rfl) ?_
    by_cases h1 : s.toList = []
    · exact Ev.ite_pos h1 (Joins_j2 s t hs ht _ (by rw [toList_nil.1 h1, List.nil_append]))
    · refine Ev.ite_neg h1 ?_
      by_cases h2 : t.toList = []
      · exact Ev.ite_pos h2 (Joins_j2 s t hs ht _ (by rw [toList_nil.1 h2, List.append_nil]))
      · exact Ev.ite_neg h2 (Joins_j2 s t hs ht _ (hw (fun e => h1 (toList_nil.2 e)) (fun e => h2 (toList_nil.2 e))))
  have hap := cls_append (bytesOf s) (bytesOf t)
  have j0 : ∀ c : Bool, (c = true ↔ (clsL (bytesOf s) > 0 ∧ clsL (bytesOf t) > 0)) → Ev (fun k => isoglosslaw02_AsciiJoins.j0 k s t true (clsL (bytesOf s)) (clsL (bytesOf t)) 0 c) true := by
    intro c hc
    refine Ev.step (fun k => by unfold isoglosslaw02_AsciiJoins.j0; rfl) ?_
    refine Ev.cases (fun h => ?_) (fun h => ?_)
    · have h' := hc.1 h
      refine Ev.cases (fun e => ?_) (fun e => ?_)
      · exact j1 _ (fun n1 n2 => by rw [hap n1 n2, if_pos h', if_pos e])
      · exact j1 _ (fun n1 n2 => by rw [hap n1 n2, if_pos h', if_neg e])
    · have h' := fun z => h (hc.2 z)
      exact j1 _ (fun n1 n2 => by rw [hap n1 n2, if_neg h'])
  refine Ev.rounds ?_
  unfold isoglosslaw02_AsciiJoins.f
  refine Ev.bind awake_ev ?_
  refine Ev.bind_c ha ?_
  refine Ev.bind_c hb ?_
  refine Ev.bind (Class_ev s (by omega)) ?_
  refine Ev.bind (Class_ev t (by omega)) ?_
  refine Ev.cases (fun h => ?_) (fun h => ?_)
  · exact j0 _ (by rw [decide_eq_true_iff]; omega)
  · exact j0 _ (by simp; omega)
end Go.Proofs.Ytccojdjmbilgcaa.Pure
