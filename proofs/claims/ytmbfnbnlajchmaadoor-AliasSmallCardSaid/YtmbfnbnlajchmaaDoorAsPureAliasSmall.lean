/- The law AliasSmall, in plain words: an alias with a great letter in one of its texts is not right; without it it is. -/
import Derived.Test.YtmbfnbnlajchmaaDoorAsAliasHelp
import Derived.Test.YtmbfnbnlajchmaaDoorAsP18
namespace Go.Proofs.YtmbfnbnlajchmaaDoor.Pure
open Go.RowKit Go.Proofs.YtmbfnbnlajchmaaDoor.P Go.Proofs.YtmbfnbnlajchmaaDoorW.PrintWords Go.Proofs.YtmbfnbnlajchmaaDoorW.PrintLast Go.Proofs.YtmbfnbnlajchmaaDoorW.PrintMore
open Go.Proofs.YtmbfnbnlajchmaaDoor.Each Go.Proofs.YtmbfnbnlajchmaaDoor.Base Go.Proofs.YtmbfnbnlajchmaaDoor.PackW
set_option linter.unusedVariables false
set_option linter.unusedSimpArgs false

theorem low_upS {x : ByteArray} (h : lowS x = x) : lowS (upS x) = x := by
  apply bytesOf_inj
  rw [lowS_bytes, upS_bytes, map_low_up, ← lowS_bytes, h]
theorem lowB_upS {x : ByteArray} (h : lowS x = x) : lowB (upS x) = (x.toList == (upS x).toList) := by
  unfold lowB
  rw [low_upS h, Bool.eq_iff_iff, decide_eq_true_iff, beq_iff_eq]
  exact eq_comm
theorem upS_same {x : ByteArray} (h : (x.toList == (upS x).toList) = true) : upS x = x := by
  rw [beq_iff_eq, toList_inj] at h
  exact h.symm
theorem small_j {k : Int} {a b l s r a' b' l' s' r' : ByteArray} (ha : a.size ≤ 100) (hb : b.size ≤ 100) (hl : l.size ≤ 100) (hs : s.size ≤ 100) (hr : r.size ≤ 100) (ha' : a'.size ≤ 100) (hb' : b'.size ≤ 100) (hl' : l'.size ≤ 100) (hs' : s'.size ≤ 100) (hr' : r'.size ≤ 100)
    (h : rightB k a b l s r = true) (g : rightB k a' b' l' s' r' = (k == k && (a.toList == a'.toList && (b.toList == b'.toList && (l.toList == l'.toList && (s.toList == s'.toList && (r.toList == r'.toList))))))) :
    Ev (fun n => isoglosslaw12_AliasSmall.j0 n true k a b l s r k a' b' l' s' r') true := by
  refine Ev.step (fun n => by unfold isoglosslaw12_AliasSmall.j0; rfl) ?_
  refine Ev.ite_pos rfl ?_
  refine Ev.bind (Right_ev k a b l s r (by omega) (by omega) (by omega) (by omega) (by omega)) ?_
  rw [h]
  refine Ev.ite_pos rfl ?_
  refine Ev.bind (Right_ev k a' b' l' s' r' (by omega) (by omega) (by omega) (by omega) (by omega)) (Ev.res (Ev.now _) ?_)
  rw [g]; exact beq_self_eq_true _
theorem AliasSmall : isoglosslaw12_AliasSmall.Pure := by
  intro s0 s1 s2 s3 s4 s5 s6 n _ _ _ _ _ _ _ _
  have : Ev (fun m => isoglosslaw12_AliasSmall.f m s0 s1 s2 s3 s4 s5 s6 n) true := by
    obtain ⟨⟨k, a, b, l, s, r⟩, em, ⟨ya, yb, yl, ys, yr⟩, hR⟩ := Made_ev s0 s1 s2 s3 s4 s5 0
    have R : rightB k a b l s r = true := hR rfl
    have F := right_fine R
    dsimp only at ya yb yl ys yr
    obtain ⟨q, eq, q0, q1⟩ := rest12_eq n 5 (by decide) (by decide)
    have R' := R
    unfold rightB allLow at R'
    simp only [Bool.and_eq_true] at R'
    obtain ⟨⟨ga, gb, gl, gs, gr⟩, gm⟩ := R'
    unfold isoglosslaw12_AliasSmall.f
    refine Ev.bind awake12_ev ?_
    refine Ev.bind em ?_
    dsimp only
    refine Ev.bind_c eq ?_
    by_cases c0 : q = 0
    · refine Ev.ite_pos c0 ?_
      refine Ev.bind (rUpper_ev a (by omega)) ?_
      refine small_j (k := k) (a := a) (b := b) (l := l) (s := s) (r := r) (by omega) (by omega) (by omega) (by omega) (by omega) (by rw [upS_size]; omega) (by omega) (by omega) (by omega) (by omega) R ?_
      simp only [beq_self_eq_true, Bool.and_true, Bool.true_and]
      cases e : (a.toList == (upS a).toList) with
      | true => rw [upS_same e]; exact R
      | false => unfold rightB allLow; rw [lowB_upS F.la, e]; rfl
    refine Ev.ite_neg c0 ?_
    by_cases c1 : q = 1
    · refine Ev.ite_pos c1 ?_
      refine Ev.bind (rUpper_ev b (by omega)) ?_
      refine small_j (k := k) (a := a) (b := b) (l := l) (s := s) (r := r) (by omega) (by omega) (by omega) (by omega) (by omega) (by omega) (by rw [upS_size]; omega) (by omega) (by omega) (by omega) R ?_
      simp only [beq_self_eq_true, Bool.and_true, Bool.true_and]
      cases e : (b.toList == (upS b).toList) with
      | true => rw [upS_same e]; exact R
      | false => unfold rightB allLow; rw [lowB_upS F.lb, e, ga]; rfl
    refine Ev.ite_neg c1 ?_
    by_cases c2 : q = 2
    · refine Ev.ite_pos c2 ?_
      refine Ev.bind (rUpper_ev l (by omega)) ?_
      refine small_j (k := k) (a := a) (b := b) (l := l) (s := s) (r := r) (by omega) (by omega) (by omega) (by omega) (by omega) (by omega) (by omega) (by rw [upS_size]; omega) (by omega) (by omega) R ?_
      simp only [beq_self_eq_true, Bool.and_true, Bool.true_and]
      cases e : (l.toList == (upS l).toList) with
      | true => rw [upS_same e]; exact R
      | false => unfold rightB allLow; rw [lowB_upS F.ll, e, ga, gb]; rfl
    refine Ev.ite_neg c2 ?_
    by_cases c3 : q = 3
    · refine Ev.ite_pos c3 ?_
      refine Ev.bind (rUpper_ev s (by omega)) ?_
      refine small_j (k := k) (a := a) (b := b) (l := l) (s := s) (r := r) (by omega) (by omega) (by omega) (by omega) (by omega) (by omega) (by omega) (by omega) (by rw [upS_size]; omega) (by omega) R ?_
      simp only [beq_self_eq_true, Bool.and_true, Bool.true_and]
      cases e : (s.toList == (upS s).toList) with
      | true => rw [upS_same e]; exact R
      | false => unfold rightB allLow; rw [lowB_upS F.ls, e, ga, gb, gl]; rfl
    · refine Ev.ite_neg c3 ?_
      refine Ev.bind (rUpper_ev r (by omega)) ?_
      refine small_j (k := k) (a := a) (b := b) (l := l) (s := s) (r := r) (by omega) (by omega) (by omega) (by omega) (by omega) (by omega) (by omega) (by omega) (by omega) (by rw [upS_size]; omega) R ?_
      simp only [beq_self_eq_true, Bool.and_true, Bool.true_and]
      cases e : (r.toList == (upS r).toList) with
      | true => rw [upS_same e]; exact R
      | false => unfold rightB allLow; rw [lowB_upS F.lr, e, ga, gb, gl, gs]; rfl
  exact this.rounds
end Go.Proofs.YtmbfnbnlajchmaaDoor.Pure
