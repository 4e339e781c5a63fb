/- The law AsciiCases, in plain words: a case of a case is that case; no case changes how long a text is, nor what it has; bytes above 127 stay. -/
import Derived.Test.YtccojdjmbilgcaaPureFacts
import Derived.Test.YtccojdjmbilgcaaP5
namespace Go.Proofs.Ytccojdjmbilgcaa.Pure
open Go.RowKit Go.Proofs.Ytccojdjmbilgcaa.P Go.Proofs.YtccojdjmbilgcaaW.PrintWords Go.Proofs.YtccojdjmbilgcaaW.PrintLast Go.Proofs.YtccojdjmbilgcaaW.PrintMore
open Go.Proofs.Ytccojdjmbilgcaa.Each Go.Proofs.Ytccojdjmbilgcaa.Base
set_option linter.unusedVariables false
set_option linter.unusedSimpArgs false

theorem Cases_loop (s : ByteArray) (hs : s.size ≤ 140737488351232) : ∀ (d i : Nat), s.size - i = d → i ≤ s.size →
    Ev (fun k => isoglosslaw02_AsciiCases.l0 k s true (lowS s) (upS s) (titS s) (i : Int)) true
  | 0, i, hd, hi => by
    have hl : (lowS s).size ≤ 140737488351232 := by rw [lowS_size]; exact hs
    have hu : (upS s).size ≤ 140737488351232 := by rw [upS_size]; exact hs
    have ht : (titS s).size ≤ 140737488351232 := by rw [titS_size]; exact hs
    refine Ev.step (fun k => by unfold isoglosslaw02_AsciiCases.l0; rfl) ?_
    refine Ev.ite_neg (by omega) ?_
    refine Ev.ite_pos rfl ?_
    refine Ev.bind_c (Lower_eq _ hu) ?_
    refine Ev.ite_pos (by rw [toList_inj]; apply bytesOf_inj; rw [lowS_bytes, upS_bytes, lowS_bytes, map_low_up]) ?_
    refine Ev.bind_c (Upper_eq _ hl) ?_
    refine Ev.ite_pos (by rw [toList_inj]; apply bytesOf_inj; rw [upS_bytes, lowS_bytes, upS_bytes, map_up_low]) ?_
    refine Ev.bind_c (Title_eq _ ht) ?_
    refine Ev.ite_pos (by rw [toList_inj]; apply bytesOf_inj; rw [titS_bytes, titS_bytes, tit_tit]) ?_
    refine Ev.bind_c (Lower_eq _ ht) ?_
    refine Ev.ite_pos (by rw [toList_inj]; apply bytesOf_inj; rw [lowS_bytes, titS_bytes, lowS_bytes, map_low_tit]) ?_
    refine Ev.bind (Class_ev _ hl) ?_
    refine Ev.bind (Class_ev _ hs) ?_
    refine Ev.ite_pos (by rw [lowS_bytes, cls_low]) ?_
    refine Ev.bind (Class_ev _ hu) ?_
    refine Ev.bind (Class_ev _ hs) ?_
    exact Ev.res (Ev.now _) (by rw [upS_bytes, cls_up]; simp)
  | d + 1, i, hd, hi => by
    have ih := Cases_loop s hs d (i + 1) (by omega) (by omega)
    obtain ⟨c0, c1⟩ := bt_byte s (i : Int)
    have e1 := bt_map (lowS_bytes s) i (by omega)
    have e2 := bt_map (upS_bytes s) i (by omega)
    have zl := lowS_size s
    have zu := upS_size s
    refine Ev.step (fun k => by unfold isoglosslaw02_AsciiCases.l0; rfl) ?_
    rw [e1, e2, wrap_next (by omega) (by omega)]
    refine Ev.ite_pos (by omega) ?_
    refine Ev.ite_pos (by omega) ?_
    refine Ev.ite_pos (by omega) ?_
    generalize bt s (i : Int) = c at *
    have key : lowI c = c ∧ upI c = c ∨ c ≤ 127 ∧ lowI c ≠ upI c ∧ (lowI c - upI c) % 256 = 32 := by
      unfold lowI upI
      (repeat' split) <;> omega
    refine Ev.cases (fun h1 => ?_) (fun h1 => ?_)
    · refine Ev.ite_pos (by omega) ?_
      refine Ev.cases (fun h2 => ?_) (fun h2 => ?_)
      · exact ih
      · refine Ev.ite_neg (by omega) ?_
        refine Ev.ite_neg (by omega) ?_
        exact Ev.ite_pos (by omega) ih
    · refine Ev.ite_neg (by omega) ?_
      refine Ev.ite_pos (by omega) ?_
      refine Ev.ite_neg (by omega) ?_
      exact Ev.ite_pos (by omega) ih
theorem AsciiCases : isoglosslaw02_AsciiCases.Pure := by
  intro a _
  obtain ⟨s, ha, hs⟩ := short_ex a
  have hs : s.size ≤ 140737488351232 := by omega
  refine Ev.rounds ?_
  unfold isoglosslaw02_AsciiCases.f
  refine Ev.bind awake_ev ?_
  refine Ev.bind_c ha ?_
  refine Ev.bind_c (Lower_eq _ hs) ?_
  refine Ev.bind_c (Upper_eq _ hs) ?_
  refine Ev.bind_c (Title_eq _ hs) ?_
  refine Ev.ite_pos (by rw [lowS_size]) ?_
  refine Ev.ite_pos (by rw [upS_size]) ?_
  have e : (((titS s).size : Int) != (s.size : Int)) = false := by rw [titS_size]; simp
  rw [e]
  refine Ev.step (fun k => by unfold isoglosslaw02_AsciiCases.j0; rfl) ?_
  refine Ev.ite_neg (by decide) ?_
  exact Cases_loop s hs _ 0 rfl (by omega)
end Go.Proofs.Ytccojdjmbilgcaa.Pure
