/- Made by a program of this seat's own (shake.py, merge.py): what the claim leans on: Rd, Rd2, Structs, LikW. -/
import Derived.Test.YtpmcfckechjppaaGreatDoorDd05
import Derived.WalkLawsBesides
import Derived.Outline
import Derived.WalkKit
import Derived.MapKept
import Derived.WideMake
import Derived.RangeFuncRecord
import Derived.RangeFuncBox
import Derived.RangeFuncFrom
set_option linter.unusedVariables false
set_option linter.unusedSimpArgs false
set_option maxRecDepth 100000
set_option maxHeartbeats 8000000
namespace Go.Proofs.YtpmcfckechjppaaGreatDoor.Ps
open Go.RowKit Go.Proofs.YtpmcfckechjppaaGreatDoorW.PrintWords Go.Proofs.YtpmcfckechjppaaGreatDoorW.PrintLast Go.Proofs.YtpmcfckechjppaaGreatDoorW.PrintMore Go.Proofs.YtpmcfckechjppaaGreatDoor.P Go.Proofs.YtpmcfckechjppaaGreatDoor.LikW
open Go.Proofs.YtpmcfckechjppaaGreatDoor.Each Go.Proofs.YtpmcfckechjppaaGreatDoor.Base Go.Proofs.YtpmcfckechjppaaGreatDoor.Pure
attribute [local go_sem] Oper.semAt_some
def q8b (F : FuncId) (f : ByteArray → Bool) : Prop := Go.Proofs.Enters Tryz.prog F ∧ ∀ s w, s.size ≤ 8 → Calls Tryz.prog F #[.string s] w fun e w' => e = .returned (.bool (f s)) ∧ q0k w w'
theorem v6m (s : ByteArray) (a b : Int) : q3y.f s a b = some (decide (a ≤ (s.size : Int)) && decide ((s.size : Int) ≤ b)) := by
 unfold q3y.f
 by_cases h : (s.size : Int) ≥ a
 · rw [if_pos h, decide_eq_true (show a ≤ (s.size : Int) from h)]; rfl
 · rw [if_neg h, decide_eq_false (show ¬ a ≤ (s.size : Int) from h)]; rfl
theorem v1a (n : Nat) (m : Nat) : (((n : Int)) == (m : Int)) = decide (n = m) := by rw [Bool.eq_iff_iff, beq_iff_eq, decide_eq_true_iff]; omega
theorem v1p (s : ByteArray) (hs : s.size ≤ 140737488351232) : Ev (fun k => q2r.f k s) (q2t s) := by
 unfold q2r.f q2t
 refine Ev.bind (z2i s hs) ?_
 rw [v6m]
 cases h : (q4d (bytesOf s) == 1)
 · exact Ev.const rfl
 · refine Ev.const ?_
   have e : (decide ((2 : Int) ≤ (s.size : Int)) && decide ((s.size : Int) ≤ 8)) = (decide (2 ≤ s.size) && decide (s.size ≤ 8)) := by
    rw [Bool.eq_iff_iff, Bool.and_eq_true, Bool.and_eq_true, decide_eq_true_iff, decide_eq_true_iff, decide_eq_true_iff, decide_eq_true_iff]
    omega
   rw [if_pos rfl, e]
   simp
theorem v5e (s : ByteArray) (hs : s.size ≤ 140737488351232) : Ev (fun k => q3m.f k s) (q5v s) := by
 unfold q3m.f q5v
 refine Ev.bind (z2i s hs) ?_
 have h3 := v1a s.size 3
 cases h : (q4d (bytesOf s) == 1)
 · exact Ev.const rfl
 · exact Ev.const (by simp [← h3])
theorem v7u (s : ByteArray) (hs : s.size ≤ 140737488351232) : Ev (fun k => q4e.f k s) (z5e s) := by
 unfold q4e.f z5e
 refine Ev.bind (z2i s hs) ?_
 have h3 := v1a s.size 4
 cases h : (q4d (bytesOf s) == 1)
 · exact Ev.const rfl
 · exact Ev.const (by simp [← h3])
theorem v8k (s : ByteArray) (hs : s.size ≤ 140737488351232) : Ev (fun k => q4f.f k s) (z6u s) := by
 unfold q4f.f z6u
 refine Ev.bind (z2i s hs) ?_
 have h3 := v1a s.size 3
 have dig : Ev (fun k => (q1n.f k s).bind fun t => if t = true then some ((s.size : Int) == 3) else some false) ((q4d (bytesOf s) == 2) && decide (s.size = 3)) := by
  refine Ev.bind (v3c s hs) ?_
  cases h : (q4d (bytesOf s) == 2)
  · exact Ev.const rfl
  · exact Ev.const (by simp [← h3])
 cases h : (q4d (bytesOf s) == 1)
 · exact Ev.res dig (by simp)
 · by_cases h2 : s.size = 2
   · exact Ev.q0x rfl (Ev.q0x (by omega) (Ev.const (by simp [h2])))
   · exact Ev.q0x rfl (Ev.q1l (by omega) (Ev.res dig (by simp [h2])))
theorem z8r (s : ByteArray) (hs : s.size ≤ 140737488351232) : Ev (fun k => q4w.f k s) (q5q s) := by
 unfold q4w.f q5q
 refine Ev.bind (z7y s hs) ?_
 cases h : (q4d (bytesOf s) != 0)
 · exact Ev.const rfl
 · by_cases h2 : s.size = 1
   · refine Ev.q0x rfl (Ev.q0x (by omega) (Ev.bind (v1i s _ hs (by decide)) (Ev.const ?_)))
     simp [h2, xB]
   · exact Ev.q0x rfl (Ev.q1l (by omega) (Ev.const (by simp [h2])))
theorem v5q (s : ByteArray) (hs : s.size ≤ 140737488351232) : Ev (fun k => q6p.f k s) (q6u s) := by
 unfold q6p.f q6u
 refine Ev.bind (z7y s hs) ?_
 rw [v6m]
 cases h : (q4d (bytesOf s) != 0)
 · exact Ev.const rfl
 · refine Ev.q0x rfl (Ev.z1u rfl ?_)
   by_cases h5 : 5 ≤ s.size ∧ s.size ≤ 8
   · have e : (decide ((5 : Int) ≤ (s.size : Int)) && decide ((s.size : Int) ≤ 8)) = true := by simp; omega
     exact Ev.q0x e (Ev.const (by simp [h5]))
   · have e : ¬ (decide ((5 : Int) ≤ (s.size : Int)) && decide ((s.size : Int) ≤ 8)) = true := by simp; omega
     refine Ev.q1l e ?_
     have e2 : (decide (5 ≤ s.size) && decide (s.size ≤ 8)) = false := by simp; omega
     by_cases h4 : s.size = 4
     · refine Ev.q0x (by omega) (Ev.q0x (by omega) (Ev.q0x (by omega) (Ev.bind (v3c _ (by rw [ByteArray.size_extract]; omega)) (Ev.const ?_))))
       simp [h4]
     · exact Ev.q1l (by omega) (Ev.const (by simp [h4]; omega))
theorem z8q : q8b 176 q2t := ⟨enters_of Tryz.func176 (by kernel_rfl) rfl, fun s w h => by obtain ⟨k, hk⟩ := v1p s (by omega); exact q2r.calls k s _ w (hk k (Nat.le_refl _))⟩
theorem v0a : q8b 177 q5v := ⟨enters_of Tryz.func177 (by kernel_rfl) rfl, fun s w h => by obtain ⟨k, hk⟩ := v5e s (by omega); exact q3m.calls k s _ w (hk k (Nat.le_refl _))⟩
theorem z6i : q8b 126 z5e := ⟨enters_of Tryz.func126 (by kernel_rfl) rfl, fun s w h => by obtain ⟨k, hk⟩ := v7u s (by omega); exact q4e.calls k s _ w (hk k (Nat.le_refl _))⟩
theorem z6y : q8b 127 z6u := ⟨enters_of Tryz.func127 (by kernel_rfl) rfl, fun s w h => by obtain ⟨k, hk⟩ := v8k s (by omega); exact q4f.calls k s _ w (hk k (Nat.le_refl _))⟩
theorem v9q : q8b 183 q5q := ⟨enters_of Tryz.func183 (by kernel_rfl) rfl, fun s w h => by obtain ⟨k, hk⟩ := z8r s (by omega); exact q4w.calls k s _ w (hk k (Nat.le_refl _))⟩
theorem k0t : q8b 180 q6u := ⟨enters_of Tryz.func180 (by kernel_rfl) rfl, fun s w h => by obtain ⟨k, hk⟩ := v5q s (by omega); exact q6p.calls k s _ w (hk k (Nat.le_refl _))⟩
theorem z8c : q8b 186 q2g := ⟨enters_of Tryz.func186 (by kernel_rfl) rfl, fun s w h => by
 have d : decide ((1 : Int) < (s.size : Int)) = q2g s := by unfold q2g; rw [Bool.eq_iff_iff, decide_eq_true_iff, decide_eq_true_iff]; omega
 go_enter Tryz.func186, Tryz.ntmps186
 go_wp2
 go_ret
 exact ⟨by rw [← d]; rfl, q0k.refl _⟩⟩
theorem z4f : q8b 132 q2b := ⟨enters_of Tryz.func132 (by kernel_rfl) rfl, fun s w h => by
 go_enter Tryz.func132, Tryz.ntmps132
 go_wp2
 go_ret
 exact ⟨rfl, q0k.refl _⟩⟩
structure RS where
 lang : ByteArray
 vE : Value
 scr : ByteArray
 reg : ByteArray
 vV : Value
 vX : Value
 vR : Value
def RS.cells (s : RS) (A : Option Addr) (n c : Nat) (e : Int) : Array Value := #[.slice A n c, .int .i64 e, .string s.lang, s.vE, .string s.scr, .string s.reg, s.vV, s.vX, s.vR, .string ⟨#[]⟩]
abbrev TR : TypeId := 87
abbrev RB (s : RS) (A : Option Addr) (n c : Nat) (e : Int) : Obj := .cells (s.cells A n c e) TR (0, 0)
def PG (W : World) (A : Option Addr) (l : List Pc) : Prop := ∀ i x, l[i]? = some x → ∃ b o cs, A = some ⟨b, o, none⟩ ∧ W.heap[b]? = some (.cells cs 92 (0, 0)) ∧ cs[o + 2 * i]? = some (.int .i64 x.1) ∧ cs[o + 2 * i + 1]? = some (.string x.2)
theorem PG.nil (W : World) (A : Option Addr) : PG W A [] := fun i x hx => by simp at hx
theorem PG.move {W W1 : World} {A : Option Addr} {l : List Pc} (h : PG W A l) (hk : ∀ (b : Nat) cs, W.heap[b]? = some (.cells cs 92 (0, 0)) → W1.heap[b]? = W.heap[b]?) : PG W1 A l := fun i x hx => by
 obtain ⟨b, o, cs, e, hb, p0, p1⟩ := h i x hx
 exact ⟨b, o, cs, e, (hk b cs hb).trans hb, p0, p1⟩
theorem PG.keep {W W1 : World} {A : Option Addr} {l : List Pc} {g : Nat} {cs : Array Value} (h : PG W A l) (hR : W.heap[g]? = some (.cells cs TR (0, 0))) (hk : q0j W W1 g none) : PG W1 A l :=
 h.move fun b cb hb => hk.2 b (Array.getElem?_eq_some_iff.1 hb).1 (fun e => by subst e; rw [hR] at hb; cases hb) (by simp)
def q7g (w0 w w' : World) (g : Nat) (e : Int) (s : RS) (l : List Pc) : Prop := (∃ A' c', l.length ≤ c' ∧ w'.heap[g]? = some (RB s A' l.length c' e) ∧ PG w' A' l) ∧ Below w0.heap.size w0 w' ∧ q0j w w' g none
def z9t (p : Nat) : Value := .iface 94 (.agg #[.iface 105 (.pointer (some ⟨p, 0, none⟩))])
def q4v (w : World) (p : Nat) (x : Int × Int) : Prop := ∃ what, w.heap[p]? = some (.cells #[.int .i64 x.1, .string what, .iface 59 (.int .i64 x.2)] 107 (0, 0))
def v2w (w0 w w' : World) (g : Nat) (x : Int × Int) (e' : Ending) : Prop := ∃ p, e' = .panicked [{ v := z9t p, recovered := false }] ∧ q4v w' p x ∧ w.heap.size ≤ p ∧ Below w0.heap.size w0 w' ∧ q0j w w' g none
theorem k6n (s : ByteArray) (hs : s.size ≤ 140737488351232) (w : World) : Calls Tryz.prog 175 #[.string s] w fun e w' => e = .returned (.bool (q4d (bytesOf s) != 0)) ∧ q0k w w' := by
 obtain ⟨k, hk⟩ := z7y s hs
 exact q1r.calls k s _ w (hk k (Nat.le_refl _))
theorem q2s (g : Nat) (A : Option Addr) (c : Nat) (e : Int) (s : RS) (l : List Pc) (w : World) (hR : w.heap[g]? = some (RB s A l.length c e)) (hP : PG w A l) :
 Calls Tryz.prog 123 #[.pointer (some ⟨g, 0, none⟩)] w fun e w' => e = .returned (.string (q3s l)) ∧ q0k w w' := by
 obtain ⟨y0, y1, y2, y3, y4, y5, y6, y7, y8, y9⟩ := z2a hR
 cases l with
 | nil =>
  go_enter Tryz.func123, Tryz.ntmps123
  go_wp2
  go_ret
  exact ⟨rfl, q0k.refl _⟩
 | cons x l =>
  obtain ⟨bk, o, cs, rfl, hb, p0', p1'⟩ := hP 0 x rfl
  have p1 : w.cell? ⟨bk, o + 2 * 0 + 1, none⟩ = some (.string x.2) := (q0a hb _).trans p1'
  clear hP hR p0' p1' hb
  have n0 : (((x :: l).length : Int) == 0) = false := by simp only [List.length_cons]; exact beq_eq_false_iff_ne.2 (by omega)
  have n1 : decide (0 < ((x :: l).length : Int)) = true := by simp only [List.length_cons]; exact decide_eq_true (by omega)
  have n2 : 0 < (x :: l).length := by simp
  have hh : q3s (x :: l) = if q3u x.2 = true then x.2 else ⟨#[]⟩ := rfl
  generalize q3s (x :: l) = r at *
  generalize (x :: l).length = n at *
  by_cases h8 : 8 < x.2.size
  · have d8 : decide ((8 : Int) < (x.2.size : Int)) = true := decide_eq_true (by omega)
    have hs : q3u x.2 = false := by unfold q3u; rw [decide_eq_false (by omega)]; rfl
    rw [hs, if_neg (by simp)] at hh
    subst hh
    go_enter Tryz.func123, Tryz.ntmps123
    go_wp2
    go_ret
    exact ⟨rfl, q0k.refl _⟩
  · have d8 : decide ((8 : Int) < (x.2.size : Int)) = false := decide_eq_false (by omega)
    have hs : q3u x.2 = (q4d (bytesOf x.2) != 0) := by unfold q3u; rw [decide_eq_true (by omega)]; rfl
    have ha := fun W => k6n x.2 (by omega) W
    rw [← hs] at ha
    cases hz : q3u x.2 with
    | true =>
     rw [hz, if_pos rfl] at hh
     rw [hz] at ha
     subst hh
     clear hz hs
     go_enter Tryz.func123, Tryz.ntmps123
     go_wp2_with (first
      | (with_reducible refine (ha _).mono ?_; rintro e w' ⟨rfl, ⟨nd, rfl⟩⟩))
     go_ret
     exact ⟨rfl, q0k.step (q0k.refl _) _⟩
    | false =>
     rw [hz, if_neg (by simp)] at hh
     rw [hz] at ha
     subst hh
     clear hz hs
     go_enter Tryz.func123, Tryz.ntmps123
     go_wp2_with (first
      | (with_reducible refine (ha _).mono ?_; rintro e w' ⟨rfl, ⟨nd, rfl⟩⟩))
     go_ret
     exact ⟨rfl, q0k.step (q0k.refl _) _⟩
theorem z1s (g : Nat) (A : Option Addr) (c : Nat) (e : Int) (s : RS) (x : Pc) (l : List Pc) (w0 w : World) (hB : Below w0.heap.size w0 w) (hg : w0.heap.size ≤ g) (hc : (x :: l).length ≤ c) (hR : w.heap[g]? = some (RB s A (x :: l).length c e)) (hP : PG w A (x :: l)) :
 Calls Tryz.prog 130 #[.pointer (some ⟨g, 0, none⟩)] w fun e' w' => e' = .returned (.string (q3s (x :: l))) ∧ q7g w0 w w' g e s l := by
 obtain ⟨y0, y1, y2, y3, y4, y5, y6, y7, y8, y9⟩ := z2a hR
 obtain ⟨f0, -⟩ := v0i hR
 have HR := aq hR
 have HP := aq hP
 have HB := aq hB
 have hl : (x :: l).length = l.length + 1 := rfl
 have hq : l.length + 1 ≤ c := hc
 obtain ⟨bk, o, cs, rfl, hbk, p0, p1⟩ := hP 0 x rfl
 clear hP hR hB hc p0 p1 hbk
 rw [hl] at y0
 go_enter Tryz.func130, Tryz.ntmps130
 go_wp2_with (first
  | (go_at_call 123; refine (q2s g _ c e s (x :: l) _ HR.out HP.out).mono ?_; rintro e w' ⟨rfl, ⟨nd, rfl⟩⟩))
 · have h0 : l = [] := List.eq_nil_of_length_eq_zero (by omega)
   subst h0
   go_ret
   exact ⟨rfl, ⟨_, _, by simp, q0l (w := w.drewN nd) HR.out 0 _ rfl, PG.nil _ _⟩, q0r (q0d HB.out _) hg, (q0i (q0j.refl w g none) nd).q8c 0 _⟩
 · go_ret
   refine ⟨rfl, ⟨_, _, by omega, q0l (w := w.drewN nd) HR.out 0 _ rfl, fun i y hy => ?_⟩, q0r (q0d HB.out _) hg, (q0i (q0j.refl w g none) nd).q8c 0 _⟩
   obtain ⟨b', o', cs', e', hb', p0, p1⟩ := (HP.out.keep HR.out ((q0i (q0j.refl w g none) nd).q8c 0 _)) (i + 1) y hy
   cases e'
   exact ⟨_, _, cs', rfl, hb', by rw [show o + 2 + 2 * i = o + 2 * (i + 1) by omega]; exact p0, by rw [show o + 2 + 2 * i + 1 = o + 2 * (i + 1) + 1 by omega]; exact p1⟩
theorem k5x (k at_ : Int) (what : ByteArray) (hk : k ≠ 0) (w : World) :
 Calls Tryz.prog 188 #[.int .i64 k, .int .i64 at_, .string what] w fun e w' => e = .returned (.iface 105 (.pointer (some ⟨w.heap.size, 0, none⟩))) ∧ w' = w.alloc (.cells #[.int .i64 at_, .string what, .iface 59 (.int .i64 k)] 107) := by
 have d : (k == 0) = false := beq_eq_false_iff_ne.2 hk
 go_enter Tryz.func188, Tryz.ntmps188
 go_wp2
 go_ret
 exact ⟨rfl, rfl⟩
theorem v8g {w0 w W : World} {g : Nat} {x : Int × Int} {what : ByteArray} (hB : Below w0.heap.size w0 w) (hd : q0k w W) (p : Nat) (hp : p = W.heap.size) : v2w w0 w (W.alloc (.cells #[.int .i64 x.1, .string what, .iface 59 (.int .i64 x.2)] 107)) g x (.panicked [{ v := z9t p, recovered := false }]) := by
 obtain ⟨nd, rfl⟩ := hd
 subst hp
 have hb : Below w.heap.size w ((w.drewN nd).alloc (.cells #[.int .i64 x.1, .string what, .iface 59 (.int .i64 x.2)] 107)) := q0b (q0d (Below.refl _ _) nd) _
 exact ⟨_, rfl, ⟨what, heap_alloc_new _ _⟩, Nat.le_refl _, hB.trans (hb.mono hB.size), q0j.of_below hb g none⟩
theorem v3b (g : Nat) (A : Option Addr) (c : Nat) (e : Int) (s : RS) (l : List Pc) (w0 w : World) (hB : Below w0.heap.size w0 w) (hR : w.heap[g]? = some (RB s A l.length c e)) (hP : PG w A l) :
 Calls Tryz.prog 133 #[.pointer (some ⟨g, 0, none⟩)] w fun e' w' => v2w w0 w w' g (q4r e l, 10) e' := by
 obtain ⟨y0, y1, y2, y3, y4, y5, y6, y7, y8, y9⟩ := z2a hR
 have HB := aq hB
 clear hB
 cases l with
 | nil =>
  clear hP hR
  go_enter Tryz.func133, Tryz.ntmps133
  go_wp2_with (first
   | (with_reducible refine (k5x _ _ _ (by decide) _).mono ?_; rintro e w' ⟨rfl, rfl⟩))
  exact ⟨rfl, v8g (g := g) (x := (e, 10)) HB.out (q0k.refl _) _ rfl⟩
 | cons x l =>
  obtain ⟨bk, o, cs, rfl, hb, p0', p1⟩ := hP 0 x rfl
  have p0 : w.cell? ⟨bk, o, none⟩ = some (.int .i64 x.1) := (q0a hb _).trans p0'
  clear hP hR p0' p1 hb
  have n0 : (((x :: l).length : Int) == 0) = false := by simp only [List.length_cons]; exact beq_eq_false_iff_ne.2 (by omega)
  have n2 : 0 < (x :: l).length := by simp
  have hh : q4r e (x :: l) = x.1 := rfl
  rw [hh]
  clear hh
  generalize (x :: l).length = n at *
  go_enter Tryz.func133, Tryz.ntmps133
  go_wp2_with (first
   | (with_reducible refine (k5x _ _ _ (by decide) _).mono ?_; rintro e w' ⟨rfl, rfl⟩))
  exact ⟨rfl, v8g (g := g) (x := (x.1, 10)) HB.out (q0k.refl _) _ rfl⟩
theorem v3f (g : Nat) (what : ByteArray) (w : World) : Calls Tryz.prog 181 #[.pointer (some ⟨g, 0, none⟩), .bool false, .string what] w fun e' w' => e' = .returned (.tuple #[]) ∧ w' = w := by
 go_enter Tryz.func181, Tryz.ntmps181
 go_wp2
 go_end0
 exact ⟨rfl, rfl⟩
theorem z9h (g : Nat) (A : Option Addr) (c : Nat) (e : Int) (s : RS) (what : ByteArray) (x : Pc) (l : List Pc) (w0 w : World) (hB : Below w0.heap.size w0 w) (hR : w.heap[g]? = some (RB s A (x :: l).length c e)) (hP : PG w A (x :: l)) :
 Calls Tryz.prog 181 #[.pointer (some ⟨g, 0, none⟩), .bool true, .string what] w fun e' w' => v2w w0 w w' g (x.1, 11) e' := by
 obtain ⟨y0, y1, y2, y3, y4, y5, y6, y7, y8, y9⟩ := z2a hR
 have HB := aq hB
 obtain ⟨bk, o, cs, rfl, hb, p0', p1⟩ := hP 0 x rfl
 have p0 : w.cell? ⟨bk, o, none⟩ = some (.int .i64 x.1) := (q0a hb _).trans p0'
 clear hP hR hB p0' p1 hb
 have n2 : 0 < (x :: l).length := by simp
 generalize (x :: l).length = n at *
 go_enter Tryz.func181, Tryz.ntmps181
 go_wp2_with (first
  | (with_reducible refine (k5x _ _ _ (by decide) _).mono ?_; rintro e w' ⟨rfl, rfl⟩))
 exact ⟨rfl, v8g (g := g) (x := (x.1, 11)) HB.out (q0k.refl _) _ rfl⟩
theorem q7d {x : Pc} {l : List Pc} (h : q3u x.2 = true) : q3s (x :: l) = x.2 := if_pos h
theorem q7l {x : Pc} {l : List Pc} (h : q3u x.2 = false) : q3s (x :: l) = ⟨#[]⟩ := if_neg (by rw [h]; decide)
theorem z2q {s : ByteArray} (h : q3u s = true) : s.toList.isEmpty = false := full fun e => (q7r h).2 (by rw [e]; rfl)
theorem z9l (F : FuncId) (f : ByteArray → Bool) (hF : q8b F f) (g : Nat) (A : Option Addr) (c : Nat) (e : Int) (s : RS) (l : List Pc) (w0 w : World) (hB : Below w0.heap.size w0 w) (hg : w0.heap.size ≤ g) (hc : l.length ≤ c) (hR : w.heap[g]? = some (RB s A l.length c e)) (hP : PG w A l) :
 Calls Tryz.prog 125 #[.pointer (some ⟨g, 0, none⟩), .func (.func F) #[] #[]] w fun e' w' => e' = .returned (.string (q5m f l).1) ∧ q7g w0 w w' g e s (q5m f l).2 := by
 have no : ∀ w', q0k w w' → q7g w0 w w' g e s l := fun w' hd => by
  obtain ⟨nd, rfl⟩ := hd
  exact ⟨⟨A, c, hc, hR, hP.keep hR (q0i (q0j.refl w g none) nd)⟩, q0d hB _, q0i (q0j.refl w g none) nd⟩
 have NO := aq no
 have HR := aq hR
 have HP := aq hP
 have HB := aq hB
 obtain ⟨eF, hF⟩ := hF
 unfold Go.Proofs.Enters at eF
 clear no
 cases l with
 | nil =>
  clear hP hR hB hF eF
  go_enter Tryz.func125, Tryz.ntmps125
  go_wp2_with (first
   | (go_at_call 123; refine (q2s g _ c e s [] _ (by exact HR.out) (by exact HP.out)).mono ?_; rintro e w' ⟨rfl, ⟨nd, rfl⟩⟩; rw [show q3s [] = ⟨#[]⟩ from rfl]))
  go_ret
  exact ⟨rfl, NO.out _ (q0k.step (q0k.refl _) _)⟩
 | cons x l =>
  cases hs : q3u x.2 with
  | false =>
   have he := q7l (l := l) hs
   rw [q9t (by rw [hs]; simp)]
   clear hP hR hB hs hF eF
   go_enter Tryz.func125, Tryz.ntmps125
   go_wp2_with (first
    | (go_at_call 123; refine (q2s g _ c e s (x :: l) _ (by exact HR.out) (by exact HP.out)).mono ?_; rintro e w' ⟨rfl, ⟨nd, rfl⟩⟩; rw [he]))
   go_ret
   exact ⟨rfl, NO.out _ (q0k.step (q0k.refl _) _)⟩
  | true =>
   have he := q7d (l := l) hs
   have q0 := z2q hs
   have h8 := (q7r hs).1
   have HF := fun W => hF x.2 W h8
   cases hf : f x.2 with
   | false =>
    rw [q9t (by rw [hf]; simp)]
    rw [hf] at HF
    clear hP hR hB hs hF h8 hf
    go_enter Tryz.func125, Tryz.ntmps125
    go_wp2_with (first
     | (go_at_call 123; refine (q2s g _ c e s (x :: l) _ (by exact HR.out) (by exact HP.out)).mono ?_; rintro e w' ⟨rfl, ⟨nd, rfl⟩⟩; rw [he])
     | (with_reducible refine (HF _).mono ?_; rintro e w' ⟨rfl, ⟨nd, rfl⟩⟩))
    go_ret
    exact ⟨rfl, NO.out _ (q0k.step (q0k.refl _) _)⟩
   | true =>
    rw [one_pos (by rw [hs, hf]; rfl)]
    rw [hf] at HF
    clear hP hR hB hs hF h8 hf NO
    go_enter Tryz.func125, Tryz.ntmps125
    go_wp2_with (first
     | (go_at_call 123; refine (q2s g _ c e s (x :: l) _ (by exact HR.out) (by exact HP.out)).mono ?_; rintro e w' ⟨rfl, ⟨nd, rfl⟩⟩; rw [he])
     | (with_reducible refine (HF _).mono ?_; rintro e w' ⟨rfl, ⟨nd, rfl⟩⟩)
     | (go_at_call 130; refine (z1s g _ c e s x l w0 _ (by exact q0d HB.out _) hg hc (by exact HR.out) (by exact HP.out)).mono ?_; rintro e w' ⟨rfl, h1, h2, h3⟩; rw [he]; have H1 := aq h1; have H2 := aq h2; have H3 := aq h3; clear h1 h2 h3))
    go_ret
    exact ⟨rfl, H1.out, H2.out, (q0i (q0j.refl w g none) _).trans H3.out (.inl rfl)⟩
end Go.Proofs.YtpmcfckechjppaaGreatDoor.Ps
namespace Go.Proofs.YtpmcfckechjppaaGreatDoor.P
open Go.RowKit Go.Proofs.YtpmcfckechjppaaGreatDoorW.PrintWords Go.Proofs.YtpmcfckechjppaaGreatDoorW.PrintLast Go.Proofs.YtpmcfckechjppaaGreatDoorW.PrintMore
structure S59 where
 f0 : Int
 f1 : ByteArray
 f2 : ByteArray
 f3 : ByteArray
 f4 : ByteArray
 f5 : ByteArray
def z59 : S59 := ⟨(0 : Int), (⟨#[]⟩ : ByteArray), (⟨#[]⟩ : ByteArray), (⟨#[]⟩ : ByteArray), (⟨#[]⟩ : ByteArray), (⟨#[]⟩ : ByteArray)⟩
def k59 : Kd S59 := Kd.iso (Kd.pair (Kd.int .i64) (Kd.pair Kd.string (Kd.pair Kd.string (Kd.pair Kd.string (Kd.pair Kd.string Kd.string))))) (fun x : S59 => (x.f0, x.f1, x.f2, x.f3, x.f4, x.f5))
theorem v3i {w : World} {x : S59} {cs : List Value} (h : k59.K w x cs) : cs = [.int .i64 x.f0, .string x.f1, .string x.f2, .string x.f3, .string x.f4, .string x.f5] := by
 obtain ⟨_, _, rfl, rfl, ⟨_, _, rfl, rfl, ⟨_, _, rfl, rfl, ⟨_, _, rfl, rfl, ⟨_, _, rfl, rfl, rfl⟩⟩⟩⟩⟩ := h
 exact rfl
theorem k3o (w : World) (x : S59)  : k59.K w x [.int .i64 x.f0, .string x.f1, .string x.f2, .string x.f3, .string x.f4, .string x.f5] := ⟨[.int .i64 x.f0], [.string x.f1, .string x.f2, .string x.f3, .string x.f4, .string x.f5], rfl, rfl, ⟨[.string x.f1], [.string x.f2, .string x.f3, .string x.f4, .string x.f5], rfl, rfl, ⟨[.string x.f2], [.string x.f3, .string x.f4, .string x.f5], rfl, rfl, ⟨[.string x.f3], [.string x.f4, .string x.f5], rfl, rfl, ⟨[.string x.f4], [.string x.f5], rfl, rfl, rfl⟩⟩⟩⟩⟩
def q9j (xs : List S59) (i : Int) : S59 := xs.getD i.toNat z59
theorem v2r {w : World} {A : Option Addr} {n : Nat} {xs : List S59} (h : Kd.C k59 w A n xs) (i : Int) (h0 : 0 ≤ i) (h1 : i < n) : ∃ ad , A = some ad ∧ w.cell? (ad.add (i.toNat * 6)) = some (.int .i64 (q9j xs i).f0) ∧ w.cell? ⟨(ad.add (i.toNat * 6)).block, (ad.add (i.toNat * 6)).off + 1, none⟩ = some (.string (q9j xs i).f1) ∧ w.cell? ⟨(ad.add (i.toNat * 6)).block, (ad.add (i.toNat * 6)).off + 2, none⟩ = some (.string (q9j xs i).f2) ∧ w.cell? ⟨(ad.add (i.toNat * 6)).block, (ad.add (i.toNat * 6)).off + 3, none⟩ = some (.string (q9j xs i).f3) ∧ w.cell? ⟨(ad.add (i.toNat * 6)).block, (ad.add (i.toNat * 6)).off + 4, none⟩ = some (.string (q9j xs i).f4) ∧ w.cell? ⟨(ad.add (i.toNat * 6)).block, (ad.add (i.toNat * 6)).off + 5, none⟩ = some (.string (q9j xs i).f5) := by
 obtain ⟨ad, c, e, _, hK, hc0⟩ := Kd.v9u h z59 i h0 h1
 have hc : ∀ j u, c[j]? = some u → w.cell? (ad.add (i.toNat * 6 + j)) = some u := hc0
 obtain rfl := v3i hK
 exact ⟨ad, e, hc 0 _ rfl, by rw [← q2c _ _ 1 (by omega)]; exact hc 1 _ rfl, by rw [← q2c _ _ 2 (by omega)]; exact hc 2 _ rfl, by rw [← q2c _ _ 3 (by omega)]; exact hc 3 _ rfl, by rw [← q2c _ _ 4 (by omega)]; exact hc 4 _ rfl, by rw [← q2c _ _ 5 (by omega)]; exact hc 5 _ rfl⟩

structure S66 where
 f0 : ByteArray
 f1 : ByteArray
 f2 : ByteArray
 f3 : ByteArray
 f4 : ByteArray
 f5 : ByteArray
def z66 : S66 := ⟨(⟨#[]⟩ : ByteArray), (⟨#[]⟩ : ByteArray), (⟨#[]⟩ : ByteArray), (⟨#[]⟩ : ByteArray), (⟨#[]⟩ : ByteArray), (⟨#[]⟩ : ByteArray)⟩
def k66 : Kd S66 := Kd.iso (Kd.pair Kd.string (Kd.pair Kd.string (Kd.pair Kd.string (Kd.pair Kd.string (Kd.pair Kd.string Kd.string))))) (fun x : S66 => (x.f0, x.f1, x.f2, x.f3, x.f4, x.f5))
theorem v3q {w : World} {x : S66} {cs : List Value} (h : k66.K w x cs) : cs = [.string x.f0, .string x.f1, .string x.f2, .string x.f3, .string x.f4, .string x.f5] := by
 obtain ⟨_, _, rfl, rfl, ⟨_, _, rfl, rfl, ⟨_, _, rfl, rfl, ⟨_, _, rfl, rfl, ⟨_, _, rfl, rfl, rfl⟩⟩⟩⟩⟩ := h
 exact rfl
theorem k4b (w : World) (x : S66)  : k66.K w x [.string x.f0, .string x.f1, .string x.f2, .string x.f3, .string x.f4, .string x.f5] := ⟨[.string x.f0], [.string x.f1, .string x.f2, .string x.f3, .string x.f4, .string x.f5], rfl, rfl, ⟨[.string x.f1], [.string x.f2, .string x.f3, .string x.f4, .string x.f5], rfl, rfl, ⟨[.string x.f2], [.string x.f3, .string x.f4, .string x.f5], rfl, rfl, ⟨[.string x.f3], [.string x.f4, .string x.f5], rfl, rfl, ⟨[.string x.f4], [.string x.f5], rfl, rfl, rfl⟩⟩⟩⟩⟩
def z1k (xs : List S66) (i : Int) : S66 := xs.getD i.toNat z66
theorem k8n {w : World} {A : Option Addr} {n : Nat} {xs : List S66} (h : Kd.C k66 w A n xs) (i : Int) (h0 : 0 ≤ i) (h1 : i < n) : ∃ ad , A = some ad ∧ w.cell? (ad.add (i.toNat * 6)) = some (.string (z1k xs i).f0) ∧ w.cell? ⟨(ad.add (i.toNat * 6)).block, (ad.add (i.toNat * 6)).off + 1, none⟩ = some (.string (z1k xs i).f1) ∧ w.cell? ⟨(ad.add (i.toNat * 6)).block, (ad.add (i.toNat * 6)).off + 2, none⟩ = some (.string (z1k xs i).f2) ∧ w.cell? ⟨(ad.add (i.toNat * 6)).block, (ad.add (i.toNat * 6)).off + 3, none⟩ = some (.string (z1k xs i).f3) ∧ w.cell? ⟨(ad.add (i.toNat * 6)).block, (ad.add (i.toNat * 6)).off + 4, none⟩ = some (.string (z1k xs i).f4) ∧ w.cell? ⟨(ad.add (i.toNat * 6)).block, (ad.add (i.toNat * 6)).off + 5, none⟩ = some (.string (z1k xs i).f5) := by
 obtain ⟨ad, c, e, _, hK, hc0⟩ := Kd.v9u h z66 i h0 h1
 have hc : ∀ j u, c[j]? = some u → w.cell? (ad.add (i.toNat * 6 + j)) = some u := hc0
 obtain rfl := v3q hK
 exact ⟨ad, e, hc 0 _ rfl, by rw [← q2c _ _ 1 (by omega)]; exact hc 1 _ rfl, by rw [← q2c _ _ 2 (by omega)]; exact hc 2 _ rfl, by rw [← q2c _ _ 3 (by omega)]; exact hc 3 _ rfl, by rw [← q2c _ _ 4 (by omega)]; exact hc 4 _ rfl, by rw [← q2c _ _ 5 (by omega)]; exact hc 5 _ rfl⟩

structure S30 where
 f0 : ByteArray
 f1 : ByteArray
 f2 : ByteArray
def z30 : S30 := ⟨(⟨#[]⟩ : ByteArray), (⟨#[]⟩ : ByteArray), (⟨#[]⟩ : ByteArray)⟩
def k30 : Kd S30 := Kd.iso (Kd.pair Kd.string (Kd.pair Kd.string Kd.string)) (fun x : S30 => (x.f0, x.f1, x.f2))
theorem v4e {w : World} {x : S30} {cs : List Value} (h : k30.K w x cs) : cs = [.string x.f0, .string x.f1, .string x.f2] := by
 obtain ⟨_, _, rfl, rfl, ⟨_, _, rfl, rfl, rfl⟩⟩ := h
 exact rfl
theorem k4m (w : World) (x : S30)  : k30.K w x [.string x.f0, .string x.f1, .string x.f2] := ⟨[.string x.f0], [.string x.f1, .string x.f2], rfl, rfl, ⟨[.string x.f1], [.string x.f2], rfl, rfl, rfl⟩⟩
structure S53 where
 f0 : Int
 f1 : Int
 f2 : Bool
 f3 : S30
 f4 : S30
def z53 : S53 := ⟨(0 : Int), (0 : Int), false, z30, z30⟩
def k53 : Kd S53 := Kd.iso (Kd.pair (Kd.int .i64) (Kd.pair (Kd.int .i64) (Kd.pair Kd.bool (Kd.pair k30 k30)))) (fun x : S53 => (x.f0, x.f1, x.f2, x.f3, x.f4))
theorem v2v {w : World} {x : S53} {cs : List Value} (h : k53.K w x cs) : cs = [.int .i64 x.f0, .int .i64 x.f1, .bool x.f2, .string x.f3.f0, .string x.f3.f1, .string x.f3.f2, .string x.f4.f0, .string x.f4.f1, .string x.f4.f2] := by
 obtain ⟨_, _, rfl, rfl, ⟨_, _, rfl, rfl, ⟨_, _, rfl, rfl, ⟨_, _, rfl, s3, s6⟩⟩⟩⟩ := h
 obtain rfl := v4e s3
 obtain rfl := v4e s6
 exact rfl
theorem k3p (w : World) (x : S53)  : k53.K w x [.int .i64 x.f0, .int .i64 x.f1, .bool x.f2, .string x.f3.f0, .string x.f3.f1, .string x.f3.f2, .string x.f4.f0, .string x.f4.f1, .string x.f4.f2] := ⟨[.int .i64 x.f0], [.int .i64 x.f1, .bool x.f2, .string x.f3.f0, .string x.f3.f1, .string x.f3.f2, .string x.f4.f0, .string x.f4.f1, .string x.f4.f2], rfl, rfl, ⟨[.int .i64 x.f1], [.bool x.f2, .string x.f3.f0, .string x.f3.f1, .string x.f3.f2, .string x.f4.f0, .string x.f4.f1, .string x.f4.f2], rfl, rfl, ⟨[.bool x.f2], [.string x.f3.f0, .string x.f3.f1, .string x.f3.f2, .string x.f4.f0, .string x.f4.f1, .string x.f4.f2], rfl, rfl, ⟨[.string x.f3.f0, .string x.f3.f1, .string x.f3.f2], [.string x.f4.f0, .string x.f4.f1, .string x.f4.f2], rfl, (k4m w x.f3 ), (k4m w x.f4 )⟩⟩⟩⟩
def q8m (xs : List S53) (i : Int) : S53 := xs.getD i.toNat z53
theorem j0e {w : World} {A : Option Addr} {n : Nat} {xs : List S53} (h : Kd.C k53 w A n xs) (i : Int) (h0 : 0 ≤ i) (h1 : i < n) : ∃ ad , A = some ad ∧ w.cell? (ad.add (i.toNat * 9)) = some (.int .i64 (q8m xs i).f0) ∧ w.cell? ⟨(ad.add (i.toNat * 9)).block, (ad.add (i.toNat * 9)).off + 1, none⟩ = some (.int .i64 (q8m xs i).f1) ∧ w.cell? ⟨(ad.add (i.toNat * 9)).block, (ad.add (i.toNat * 9)).off + 2, none⟩ = some (.bool (q8m xs i).f2) ∧ w.cell? ⟨(ad.add (i.toNat * 9)).block, (ad.add (i.toNat * 9)).off + 3, none⟩ = some (.string (q8m xs i).f3.f0) ∧ w.cell? ⟨(ad.add (i.toNat * 9)).block, (ad.add (i.toNat * 9)).off + 4, none⟩ = some (.string (q8m xs i).f3.f1) ∧ w.cell? ⟨(ad.add (i.toNat * 9)).block, (ad.add (i.toNat * 9)).off + 5, none⟩ = some (.string (q8m xs i).f3.f2) ∧ w.cell? ⟨(ad.add (i.toNat * 9)).block, (ad.add (i.toNat * 9)).off + 6, none⟩ = some (.string (q8m xs i).f4.f0) ∧ w.cell? ⟨(ad.add (i.toNat * 9)).block, (ad.add (i.toNat * 9)).off + 7, none⟩ = some (.string (q8m xs i).f4.f1) ∧ w.cell? ⟨(ad.add (i.toNat * 9)).block, (ad.add (i.toNat * 9)).off + 8, none⟩ = some (.string (q8m xs i).f4.f2) := by
 obtain ⟨ad, c, e, _, hK, hc0⟩ := Kd.v9u h z53 i h0 h1
 have hc : ∀ j u, c[j]? = some u → w.cell? (ad.add (i.toNat * 9 + j)) = some u := hc0
 obtain rfl := v2v hK
 exact ⟨ad, e, hc 0 _ rfl, by rw [← q2c _ _ 1 (by omega)]; exact hc 1 _ rfl, by rw [← q2c _ _ 2 (by omega)]; exact hc 2 _ rfl, by rw [← q2c _ _ 3 (by omega)]; exact hc 3 _ rfl, by rw [← q2c _ _ 4 (by omega)]; exact hc 4 _ rfl, by rw [← q2c _ _ 5 (by omega)]; exact hc 5 _ rfl, by rw [← q2c _ _ 6 (by omega)]; exact hc 6 _ rfl, by rw [← q2c _ _ 7 (by omega)]; exact hc 7 _ rfl, by rw [← q2c _ _ 8 (by omega)]; exact hc 8 _ rfl⟩

structure S69 where
 f0 : ByteArray
 f1 : ByteArray
def z69 : S69 := ⟨(⟨#[]⟩ : ByteArray), (⟨#[]⟩ : ByteArray)⟩
def k69 : Kd S69 := Kd.iso (Kd.pair Kd.string Kd.string) (fun x : S69 => (x.f0, x.f1))
theorem v4f {w : World} {x : S69} {cs : List Value} (h : k69.K w x cs) : cs = [.string x.f0, .string x.f1] := by
 obtain ⟨_, _, rfl, rfl, rfl⟩ := h
 exact rfl
theorem k4d (w : World) (x : S69)  : k69.K w x [.string x.f0, .string x.f1] := ⟨[.string x.f0], [.string x.f1], rfl, rfl, rfl⟩
def v3j (xs : List S69) (i : Int) : S69 := xs.getD i.toNat z69
theorem k9t {w : World} {A : Option Addr} {n : Nat} {xs : List S69} (h : Kd.C k69 w A n xs) (i : Int) (h0 : 0 ≤ i) (h1 : i < n) : ∃ ad , A = some ad ∧ w.cell? (ad.add (i.toNat * 2)) = some (.string (v3j xs i).f0) ∧ w.cell? ⟨(ad.add (i.toNat * 2)).block, (ad.add (i.toNat * 2)).off + 1, none⟩ = some (.string (v3j xs i).f1) := by
 obtain ⟨ad, c, e, _, hK, hc0⟩ := Kd.v9u h z69 i h0 h1
 have hc : ∀ j u, c[j]? = some u → w.cell? (ad.add (i.toNat * 2 + j)) = some u := hc0
 obtain rfl := v4f hK
 exact ⟨ad, e, hc 0 _ rfl, by rw [← q2c _ _ 1 (by omega)]; exact hc 1 _ rfl⟩
end Go.Proofs.YtpmcfckechjppaaGreatDoor.P
namespace Go.Proofs.YtpmcfckechjppaaGreatDoor.LikW
open Go.RowKit Go.Proofs.YtpmcfckechjppaaGreatDoorW.PrintWords Go.Proofs.YtpmcfckechjppaaGreatDoorW.PrintLast Go.Proofs.YtpmcfckechjppaaGreatDoor.P
abbrev K3 := ByteArray × ByteArray × ByteArray
def z0t (k : K3) : Value := .agg #[.string k.1, .string k.2.1, .string k.2.2]
theorem z8n (e : Bool) (k : K3) (W : World) : (Instr.checkKey e 10000 123 (z0t k)).run Tryz.prog W = .ok () W := by kernel_rfl
theorem v9v (a b : K3) (W : World) : (Op.equal 123 (z0t a) (z0t b)).run Tryz.prog W = .ok (a.1 == b.1 && (a.2.1 == b.2.1 && a.2.2 == b.2.2)) W := by
 have hs : Tryz.prog.cellsOf 9 = 1 := by kernel_rfl
 have e0 : ∀ (s t : ByteArray) (d : Nat), (Op.equalIn (d + 1) 9 (.string s) (.string t)).run Tryz.prog W = .ok (s == t) W := by
  intro s t d
  simp [Op.equalIn, run_underlying Tryz.underlying9, Result.andThen]
 unfold Op.equal z0t
 show (Op.equalIn 10000 _ _ _).run _ _ = _
 rw [Op.equalIn]
 cases h0 : a.1 == b.1 <;> cases h1 : a.2.1 == b.2.1 <;> cases h2 : a.2.2 == b.2.2 <;>
  simp [run_underlying Tryz.underlying123, Result.andThen, List.range', go_sem, part, hs, e0, h0, h1, h2]
def k0r (k : K3) : List (K3 × Value × Nat) → Nat → Option (Nat × Value)
 | [], _ => none
 | e :: l, i => if (k.1 == e.1.1 && (k.2.1 == e.1.2.1 && k.2.2 == e.1.2.2)) = true then some (i, e.2.1) else k0r k l (i + 1)
def entry (e : K3 × Value × Nat) : MapEntry := { key := z0t e.1, val := e.2.1, born := e.2.2 }
theorem v6x (k : K3) (W : World) : ∀ (l : List (K3 × Value × Nat)) (i : Nat), (Instr.findAsking 123 (z0t k) (l.map entry) i).run Tryz.prog W = .ok (k0r k l i) W
 | [], i => rfl
 | e :: l, i => by
  have ih := v6x k W l (i + 1)
  have he := v9v k e.1 W
  simp only [List.map_cons, Instr.findAsking, k0r]
  show (Sem.run Tryz.prog (do if ← Op.equal 123 (z0t k) (z0t e.1) then pure (some (i, e.2.1)) else Instr.findAsking 123 (z0t k) (l.map entry) (i + 1)) W) = _
  simp only [Sem.run_bind, he, Result.andThen_ok]
  split
  · rfl
  · exact ih
theorem v3e (k : K3) (W : World) (l : List (K3 × Value × Nat)) : (Instr.findKey 123 (z0t k) (l.map entry)).run Tryz.prog W = .ok (k0r k l 0) W := by
 have hn : Instr.findNow (.array 3 9) (z0t k) (l.map entry) 0 = none ∨ l = [] := by
  cases l with
  | nil => exact .inr rfl
  | cons e l => exact .inl rfl
 rcases hn with hn | rfl
 · have := v6x k W l 0
   simp [Instr.findKey, run_underlying Tryz.underlying123, hn, this, Result.andThen]
 · simp [Instr.findKey, run_underlying Tryz.underlying123, Instr.findNow, k0r, Result.andThen]
def q5x (W : World) (b : Nat) (ps : List (K3 × Value)) : Prop := ∃ (l : List (K3 × Value × Nat)) (c : Nat), l.map (fun e => (e.1, e.2.1)) = ps ∧ W.heap[b]? = some (.map (l.map entry).toArray c)
def q4g (k : K3) : List (K3 × Value) → Option Value
 | [] => none
 | e :: l => if (k.1 == e.1.1 && (k.2.1 == e.1.2.1 && k.2.2 == e.1.2.2)) = true then some e.2 else q4g k l
theorem z7p (k : K3) : ∀ (l : List (K3 × Value × Nat)) (i : Nat), (k0r k l i).map (·.2) = q4g k (l.map fun e => (e.1, e.2.1))
 | [], _ => rfl
 | e :: l, i => by
  have ih := z7p k l (i + 1)
  simp only [k0r, List.map_cons, q4g]
  split
  · rfl
  · exact ih
theorem q5x.below {W W' : World} {b : Nat} {ps : List (K3 × Value)} (h : q5x W b ps) (hb : Below W.heap.size W W') : q5x W' b ps := by
 obtain ⟨l, c, e, h⟩ := h
 exact ⟨l, c, e, (hb.block _ (Array.getElem?_eq_some_iff.1 h).1).trans h⟩
theorem z6n {W : World} {b : Nat} {ps : List (K3 × Value)} (h : q5x W b ps) (k : K3) {T E : TypeId} (hT : Tryz.prog.underlying T = some (.map 123 E)) {z : Value} (hz : (zeroValue E).run Tryz.prog W = .ok z W) (ok : Bool) :
 (Instr.lookup T (.map (some b)) (z0t k) ok).run Tryz.prog W = .ok (if ok = true then .tuple #[(q4g k ps).getD z, .bool (q4g k ps).isSome] else (q4g k ps).getD z) W := by
 obtain ⟨l, c, e, h⟩ := h
 have hf := v3e k W l
 have hc := fun x => z8n x k W
 have ha := z7p k l 0
 rw [e] at ha
 rw [← ha]
 cases ht : k0r k l 0 with
 | none =>
  rw [ht] at hf
  cases ok <;> simp [Instr.lookup, run_underlying hT, MapKept.run_getObj_map h, hc, hf, Result.andThen, hz]
 | some x =>
  rw [ht] at hf
  cases ok <;> simp [Instr.lookup, run_underlying hT, MapKept.run_getObj_map h, hc, hf, Result.andThen]
theorem k0m {W : World} {b : Nat} {ps : List (K3 × Value)} (h : q5x W b ps) (k : K3) (v : Value) {T E : TypeId} (hT : Tryz.prog.underlying T = some (.map 123 E)) (hn : q4g k ps = none) :
 ∃ W', (Instr.mapUpdate T (.map (some b)) (z0t k) v).run Tryz.prog W = .ok () W' ∧ q5x W' b (ps ++ [(k, v)]) ∧ W.grownBy W' (some b) := by
 obtain ⟨l, c, e, h⟩ := h
 have hf := v3e k W l
 have hc := z8n false k W
 have ha := z7p k l 0
 rw [e, hn] at ha
 have ha0 : k0r k l 0 = none := by
  cases g : k0r k l 0 with
  | none => rfl
  | some x => rw [g] at ha; cases ha
 rw [ha0] at hf
 refine ⟨W.putObj b (.map ((l.map entry).toArray.push { key := z0t k, val := v, born := c }) (c + 1)), ?_, ?_, grownBy_putObj' W b _⟩
 · simp [Instr.mapUpdate, run_underlying hT, MapKept.run_getObj_map h, hc, hf, MapKept.run_setObj_map _ h, Result.andThen, World.putObj]
 · refine ⟨l ++ [(k, v, c)], c + 1, by simp [e], ?_⟩
   have hp : (W.putObj b (.map ((l.map entry).toArray.push { key := z0t k, val := v, born := c }) (c + 1))).heap[b]? = some (.map ((l.map entry).toArray.push { key := z0t k, val := v, born := c }) (c + 1)) := (MapKept.heap_set h).1
   rw [hp]
   simp [entry]
section
variable {P : Program} {ops : Array Oper} {rest : List Oper} {o : Oper} {a : Act} {w : World} {Q : Exit → Act → World → Prop}
theorem z4h (hg : o.guard = none) (m x : Operand) (T E : TypeId) (ok : Bool) (hop : o.op = Op.lookup T m x ok) (hT : Tryz.prog.underlying T = some (.map 123 E)) (b : Nat) (hm : a.eval m = .map (some b)) (ps : List (K3 × Value)) (hM : q5x w b ps) (k : K3) (hx : a.eval x = z0t k)
 (z : Value) (hz : (zeroValue E).run Tryz.prog w = .ok z w) (h : wpList Tryz.prog ops Q rest (a.put o.dst (if ok = true then .tuple #[(q4g k ps).getD z, .bool (q4g k ps).isSome] else (q4g k ps).getD z)) w) : wpList Tryz.prog ops Q (o :: rest) a w := by
 refine wpList_plain hg fun K' hK' => ?_
 have hrun := z6n hM k hT hz ok
 unfold Oper.wp
 simp only [execOp, hop, hm, hx]
 simp only [Sem.run_bind, hrun, Result.andThen_ok, Sem.run_pure]
 exact hK' _ _ h
theorem v5l (hg : o.guard = none) (m x v : Operand) (T E : TypeId) (hop : o.op = Op.mapUpdate T m x v) (hT : Tryz.prog.underlying T = some (.map 123 E)) (b : Nat) (hm : a.eval m = .map (some b)) (ps : List (K3 × Value)) (hM : q5x w b ps) (k : K3) (hx : a.eval x = z0t k) (u : Value) (hv : a.eval v = u)
 (hn : q4g k ps = none) (h : ∀ w', q5x w' b (ps ++ [(k, u)]) → w.grownBy w' (some b) → wpList Tryz.prog ops Q rest (a.put o.dst undef) w') : wpList Tryz.prog ops Q (o :: rest) a w := by
 refine wpList_plain hg fun K' hK' => ?_
 obtain ⟨w', hrun, h1, h2⟩ := k0m hM k u hT hn
 unfold Oper.wp
 simp [execOp, hop, hm, hx, hv, hrun, Result.andThen]
 exact hK' _ _ (h w' h1 h2)
end
end Go.Proofs.YtpmcfckechjppaaGreatDoor.LikW
