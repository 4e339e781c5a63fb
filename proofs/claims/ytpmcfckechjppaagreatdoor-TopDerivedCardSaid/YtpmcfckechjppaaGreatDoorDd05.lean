/- Made by a program of this seat's own (shake.py, merge.py): what the claim leans on: Der, May, Ways, RowTop, RowSd, ParseS. -/
import Derived.Test.YtpmcfckechjppaaGreatDoorDd04
import Derived.WalkKit
import Derived.ProofKit
import Derived.OpenShut
import Derived.ShutString
import Derived.ChangeOld
import Derived.Below
import Derived.Shelf.Abstract
set_option linter.unusedVariables false
set_option linter.unusedSimpArgs false
set_option maxRecDepth 100000
set_option maxHeartbeats 8000000
namespace Go.Proofs.YtpmcfckechjppaaGreatDoor.Ps
open Go.RowKit Go.Proofs.YtpmcfckechjppaaGreatDoorW.PrintWords Go.Proofs.YtpmcfckechjppaaGreatDoorW.PrintLast Go.Proofs.YtpmcfckechjppaaGreatDoorW.PrintMore Go.Proofs.YtpmcfckechjppaaGreatDoor.P
open Go.Proofs.YtpmcfckechjppaaGreatDoor.Each Go.Proofs.YtpmcfckechjppaaGreatDoor.Base Go.Proofs.YtpmcfckechjppaaGreatDoor.Pure
def nxt (last ext long : Nat) (p : ByteArray) : Option Nat :=
  if last ≤ 1 ∧ ext < 3 ∧ long ≤ 3 ∧ q5v p = true then some 1
  else if last < 2 ∧ z5e p = true then some 2
  else if last < 3 ∧ z6u p = true then some 3
  else if last ≤ 4 ∧ q6u p = true then some 4
  else if (last ≤ 4 ∨ last = 6) ∧ q5q p = true then some 5
  else if (last = 5 ∨ last = 6) ∧ q3u p = true ∧ q2g p = true then some 6
  else if (last ≤ 4 ∨ last = 6) ∧ p = xB then some 7
  else if (last = 7 ∨ last = 8) ∧ q3u p = true then some 8
  else none
def q2q : List ByteArray → Nat → Nat → Nat → Bool
  | [], last, _, _ => !(last == 5 || last == 7)
  | p :: l, last, ext, long => match nxt last ext long p with
    | none => false
    | some k => q2q l k (if k = 1 then ext + 1 else ext) long
def z5m : List ByteArray → Bool
  | [] => false
  | p :: l => if p = xB then q2q l 7 0 0 else if q2t p = true then q2q l 0 0 p.size else false
def q1u : List ByteArray → Bool → List ByteArray → Bool
  | _, _, [] => false
  | seen, fr, p :: l => if p = xB then false else if (seen.any (fun y => decide (y = p)) && (decide (p.size = 1) || (q6u p && fr))) = true then true else q1u (seen ++ [p]) (fr && !decide (p.size = 1)) l
def twB : List ByteArray → Bool
  | [] => false
  | p :: l => if p = xB then false else q1u [] true l
theorem j0s : q6u xB = false := by decide
theorem k4i : q5q xB = false := by decide
theorem k0a (p : ByteArray) (h : q4d (bytesOf p) = 1) (h4 : p.size = 4) : q4d (bytesOf (p.extract 0 1)) ≠ 2 := by
  obtain ⟨h0, h1⟩ := (v7o _).1 h
  have e : q4d (bytesOf (p.extract 0 1)) = 1 := by
    rw [q4x, List.drop_zero, v7o]
    refine ⟨?_, List.all_eq_true.2 fun c hc => List.all_eq_true.1 h1 c (List.mem_of_mem_take hc)⟩
    cases hb : bytesOf p with
    | nil => exact absurd hb h0
    | cons a l => simp
  omega
theorem kf (p : ByteArray) : ∃ (c d : Int) (n x y : Nat), (q5v p = true ↔ c = 1 ∧ n = 3) ∧ (z5e p = true ↔ c = 1 ∧ n = 4) ∧ (z6u p = true ↔ (c = 1 ∧ n = 2) ∨ (c = 2 ∧ n = 3)) ∧ (q6u p = true ↔ c ≠ 0 ∧ ((5 ≤ n ∧ n ≤ 8) ∨ (n = 4 ∧ d = 2))) ∧ (q5q p = true ↔ c ≠ 0 ∧ n = 1 ∧ y = 0) ∧ (q3u p = true ↔ n ≤ 8 ∧ c ≠ 0) ∧ (q2g p = true ↔ 1 < n) ∧ (p = xB ↔ x = 1) ∧ (q2t p = true ↔ c = 1 ∧ 2 ≤ n ∧ n ≤ 8) ∧ (x = 1 → c = 1 ∧ n = 1 ∧ y = 1) ∧ (c = 1 → n = 4 → d ≠ 2) ∧ p.size = n := by
  refine ⟨q4d (bytesOf p), q4d (bytesOf (p.extract 0 1)), p.size, if p = xB then 1 else 0, if cmpL (q6a p) (q6a xB) == 0 then 1 else 0, ?_, ?_, ?_, ?_, ?_, ?_, ?_, ?_, ?_, ?_, ?_, rfl⟩
  · unfold q5v; simp
  · unfold z5e; simp
  · unfold z6u; simp
  · unfold q6u; simp
  · unfold q5q; simp
  · unfold q3u; simp
  · unfold q2g; simp
  · by_cases h : p = xB <;> simp [h]
  · unfold q2t; simp
  · by_cases h : p = xB
    · subst h; intro _; decide
    · simp [h]
  · exact fun h4 h => k0a p h4 h
theorem v3v {k e g j : Nat} {p : ByteArray} (hk : 2 ≤ k) (h : nxt k e g p = some j) : 2 ≤ j := by
  unfold nxt at h
  rw [if_neg (by omega)] at h
  repeat' split at h
  all_goals first | (cases h; omega) | cases h
theorem k1s {k : Nat} (e g e' g' : Nat) (p : ByteArray) (hk : 2 ≤ k) : nxt k e g p = nxt k e' g' p := by
  unfold nxt
  rw [if_neg (show ¬ (k ≤ 1 ∧ e < 3 ∧ g ≤ 3 ∧ q5v p = true) by omega), if_neg (show ¬ (k ≤ 1 ∧ e' < 3 ∧ g' ≤ 3 ∧ q5v p = true) by omega)]
theorem q5l : ∀ (l : List ByteArray) (k e g e' g' : Nat), 2 ≤ k → q2q l k e g = q2q l k e' g'
  | [], k, e, g, e', g', _ => rfl
  | p :: l, k, e, g, e', g', hk => by
    unfold q2q
    rw [k1s e g e' g' p hk]
    cases h : nxt k e' g' p with
    | none => rfl
    | some j => exact q5l l j _ _ _ _ (v3v hk h)
theorem q4c {l : List ByteArray} {p : ByteArray} {last e g k : Nat} (h : nxt last e g p = some k) : q2q (p :: l) last e g = q2q l k (if k = 1 then e + 1 else e) g := by
  rw [q2q, h]
theorem q8n {l : List ByteArray} {p : ByteArray} {last e g : Nat} (h : nxt last e g p = none) : q2q (p :: l) last e g = false := by
  rw [q2q, h]
theorem z0h {l : List ByteArray} {p : ByteArray} {a e g b e' g' : Nat} (h : nxt a e g p = nxt b e' g' p) (hj : ∀ j, nxt a e g p = some j → 2 ≤ j) : q2q (p :: l) a e g = q2q (p :: l) b e' g' := by
  cases hn : nxt a e g p with
  | none => rw [q8n hn, q8n (h ▸ hn)]
  | some j => rw [q4c hn, q4c (h ▸ hn)]; exact q5l l j _ _ _ _ (hj j hn)
abbrev sn (L : List Pc) : List ByteArray := L.map Prod.snd
abbrev D4 (l : List ByteArray) : Bool := q2q l 4 0 0
theorem k4n (g : Nat) (hg : g ≤ 3) : ∀ (n : Nat) (L : List Pc) (last e : Nat), last ≤ 1 → e + n = 3 → ∃ last' e', last' ≤ 1 ∧ q2q (sn L) last e g = q2q (sn (q4o n L).2) last' e' g ∧ ∀ x m, (q4o n L).2 = x :: m → q5v x.2 = true → ¬ e' < 3
  | 0, L, last, e, hl, hn => ⟨last, e, hl, rfl, fun x m _ _ => by omega⟩
  | n + 1, [], last, e, hl, hn => ⟨last, e, hl, rfl, fun x m h => by cases h⟩
  | n + 1, x :: L, last, e, hl, hn => by
    by_cases h : (q3u x.2 && q5v x.2) = true
    · have e1 : (q4o (n + 1) (x :: L)).2 = (q4o n L).2 := by rw [q4o, if_pos h]
      rw [Bool.and_eq_true] at h
      obtain ⟨last', e', h1, h2, h3⟩ := k4n g hg n L 1 (e + 1) (by omega) (by omega)
      rw [e1]
      refine ⟨last', e', h1, ?_, h3⟩
      rw [← h2]
      exact q4c (by unfold nxt; rw [if_pos ⟨hl, by omega, hg, h.2⟩])
    · have e1 : (q4o (n + 1) (x :: L)).2 = x :: L := by rw [q4o, if_neg h]
      rw [e1]
      refine ⟨last, e, hl, rfl, fun y m hy hx => ?_⟩
      cases hy
      obtain ⟨c, d, n', x', y', k1, k2, k3, k4, k5, k6, k7, k8, k9, k10, k11, k12⟩ := kf x.2
      exfalso; apply h
      rw [Bool.and_eq_true]
      refine ⟨k6.2 ?_, hx⟩
      have h' := k1.1 hx
      clear k1 k2 k3 k4 k5 k6 k7 k8 k9
      omega
theorem k4s {p : ByteArray} (h : z5e p = true) : q3u p = true := by
  obtain ⟨c, d, n', x', y', k1, k2, k3, k4, k5, k6, k7, k8, k9, k10, k11, k12⟩ := kf p
  have h' := k2.1 h
  refine k6.2 ?_
  clear k1 k2 k3 k4 k5 k6 k7 k8 k9
  omega
theorem k4u {p : ByteArray} (h : z6u p = true) : q3u p = true := by
  obtain ⟨c, d, n', x', y', k1, k2, k3, k4, k5, k6, k7, k8, k9, k10, k11, k12⟩ := kf p
  have h' := k3.1 h
  refine k6.2 ?_
  clear k1 k2 k3 k4 k5 k6 k7 k8 k9
  omega
theorem v7r {p : ByteArray} (h : q6u p = true) : q3u p = true ∧ p.size ≠ 1 ∧ p ≠ xB := by
  obtain ⟨c, d, n', x', y', k1, k2, k3, k4, k5, k6, k7, k8, k9, k10, k11, k12⟩ := kf p
  have h' := k4.1 h
  refine ⟨k6.2 ?_, ?_, fun q => ?_⟩
  · clear k1 k2 k3 k4 k5 k6 k7 k8 k9
    omega
  · clear k1 k2 k3 k4 k5 k6 k7 k8 k9
    omega
  · have q' := k8.1 q
    clear k1 k2 k3 k4 k5 k6 k7 k8 k9
    omega
theorem v4c {p : ByteArray} (h : q5q p = true) : q3u p = true ∧ p.size = 1 ∧ p ≠ xB := by
  obtain ⟨c, d, n', x', y', k1, k2, k3, k4, k5, k6, k7, k8, k9, k10, k11, k12⟩ := kf p
  have h' := k5.1 h
  refine ⟨k6.2 ?_, ?_, fun q => ?_⟩
  · clear k1 k2 k3 k4 k5 k6 k7 k8 k9
    omega
  · clear k1 k2 k3 k4 k5 k6 k7 k8 k9
    omega
  · have q' := k8.1 q
    clear k1 k2 k3 k4 k5 k6 k7 k8 k9
    omega
theorem j0t (L : List Pc) (last e g : Nat) (hl : last ≤ 1) (hx : ∀ x m, L = x :: m → q5v x.2 = true → ¬ (e < 3 ∧ g ≤ 3)) : q2q (sn L) last e g = q2q (sn (q5m z5e L).2) 2 0 0 := by
  cases L with
  | nil => show (!(last == 5 || last == 7)) = true; simp; omega
  | cons x m =>
    have h1 := hx x m rfl
    have n1 : ¬ (last ≤ 1 ∧ e < 3 ∧ g ≤ 3 ∧ q5v x.2 = true) := fun ⟨_, a, b, c⟩ => h1 c ⟨a, b⟩
    by_cases h : (q3u x.2 && z5e x.2) = true
    · rw [one_pos h]
      rw [Bool.and_eq_true] at h
      show q2q (x.2 :: sn m) last e g = _
      rw [q4c (show nxt last e g x.2 = some 2 by unfold nxt; rw [if_neg n1, if_pos ⟨by omega, h.2⟩])]
      exact q5l _ _ _ _ _ _ (by omega)
    · rw [q9t h]
      have hs : ¬ z5e x.2 = true := fun q => h (by rw [k4s q, q]; rfl)
      refine z0h ?_ ?_
      · unfold nxt
        rw [if_neg n1, if_neg (show ¬ (2 ≤ 1 ∧ 0 < 3 ∧ 0 ≤ 3 ∧ q5v x.2 = true) by omega)]
        have a1 : last < 3 := by omega
        have a2 : last ≤ 4 := by omega
        have a3 : ¬ (last = 5 ∨ last = 6) := by omega
        have a4 : ¬ (last = 7 ∨ last = 8) := by omega
        have a5 : ¬ last = 6 := by omega
        have a6 : ¬ last = 5 := by omega
        simp [hs, a1, a2, a4, a5, a6]
      · intro j hj
        unfold nxt at hj
        rw [if_neg n1] at hj
        repeat' split at hj
        all_goals first | (cases hj; omega) | cases hj
theorem k8r (L : List Pc) : q2q (sn L) 2 0 0 = D4 (sn (q5m z6u L).2) := by
  cases L with
  | nil => rfl
  | cons x m =>
    by_cases h : (q3u x.2 && z6u x.2) = true
    · rw [one_pos h]
      rw [Bool.and_eq_true] at h
      show q2q (x.2 :: sn m) 2 0 0 = _
      rw [q4c (show nxt 2 0 0 x.2 = some 3 by unfold nxt; rw [if_neg (by omega), if_neg (by omega), if_pos ⟨by omega, h.2⟩])]
      show q2q (sn m) 3 0 0 = q2q (sn m) 4 0 0
      cases hm : sn m with
      | nil => rfl
      | cons y r => exact z0h (by unfold nxt; simp) (fun j hj => v3v (by omega) hj)
    · rw [q9t h]
      have hs : ¬ z6u x.2 = true := fun q => h (by rw [k4u q, q]; rfl)
      exact z0h (by unfold nxt; simp [hs]) (fun j hj => v3v (by omega) hj)
theorem z1w (l : List ByteArray) (p : ByteArray) : (l.any fun y => decide (y = p)) = true ↔ p ∈ l := by
  rw [List.any_eq_true]
  exact ⟨fun ⟨y, h, e⟩ => (of_decide_eq_true e) ▸ h, fun h => ⟨p, h, decide_eq_true rfl⟩⟩
theorem z7d {seen : List ByteArray} {fr : Bool} {p : ByteArray} {l : List ByteArray} (hx : p ≠ xB) (h1 : p.size ≠ 1) (hv : q6u p = false ∨ fr = false ∨ p ∉ seen) : q1u seen fr (p :: l) = q1u (seen ++ [p]) fr l := by
  have e : decide (p.size = 1) = false := decide_eq_false h1
  rw [q1u, if_neg hx, if_neg, e, Bool.not_false, Bool.and_true]
  rw [e, Bool.false_or, Bool.and_eq_true, Bool.and_eq_true, z1w]
  rintro ⟨a, b, c⟩
  rcases hv with h | h | h
  · rw [h] at b; cases b
  · rw [h] at c; cases c
  · exact h a
theorem v6q : ∀ (L : List Pc) (acc seen : List ByteArray), (∀ y ∈ seen, y.size ≠ 1) → (∀ y, q6u y = true → (y ∈ seen ↔ y ∈ acc)) →
    match q5d acc L with
    | .error x => x.2 = 11 ∧ q1u seen true (sn L) = true
    | .ok v => D4 (sn L) = D4 (sn v.2) ∧ ∃ seen', (∀ y ∈ seen', y.size ≠ 1) ∧ q1u seen true (sn L) = q1u seen' true (sn v.2) ∧ ∀ x m, v.2 = x :: m → q6u x.2 = false
  | [], acc, seen, h1, h2 => ⟨rfl, seen, h1, rfl, fun x m h => by cases h⟩
  | x :: L, acc, seen, h1, h2 => by
    by_cases h : (q3u x.2 && q6u x.2) = true
    · have hv : q6u x.2 = true := by rw [Bool.and_eq_true] at h; exact h.2
      obtain ⟨_, v1, v2⟩ := v7r hv
      by_cases ha : (acc.any fun y => decide (y = x.2)) = true
      · have e : q5d acc (x :: L) = .error (x.1, 11) := by rw [q5d, if_pos h, if_pos ha]
        rw [e]
        refine ⟨rfl, ?_⟩
        show q1u seen true (x.2 :: sn L) = true
        rw [q1u, if_neg v2, if_pos]
        rw [hv, (z1w _ _).2 ((h2 _ hv).2 ((z1w _ _).1 ha))]
        simp
      · have e : q5d acc (x :: L) = q5d (acc ++ [x.2]) L := by rw [q5d, if_pos h, if_neg ha]
        rw [e]
        have ih := v6q L (acc ++ [x.2]) (seen ++ [x.2]) (fun y hy => (List.mem_append.1 hy).elim (h1 y) (fun q => by rw [List.mem_singleton.1 q]; exact v1)) (fun y hy => by rw [List.mem_append, List.mem_append, h2 y hy])
        have t : q1u seen true (sn (x :: L)) = q1u (seen ++ [x.2]) true (sn L) := z7d v2 v1 (.inr (.inr fun q => ha ((z1w _ _).2 ((h2 _ hv).1 q))))
        have w : D4 (sn (x :: L)) = D4 (sn L) := q4c (show nxt 4 0 0 x.2 = some 4 by unfold nxt; simp [hv])
        rw [t, w]
        exact ih
    · have e : q5d acc (x :: L) = .ok (acc, x :: L) := by rw [q5d, if_neg h]
      rw [e]
      refine ⟨rfl, seen, h1, rfl, fun y m hy => ?_⟩
      cases hy
      cases hv : q6u x.2 with
      | false => rfl
      | true => exact absurd (by rw [(v7r hv).1, hv]; rfl) h
theorem z2e (f : ByteArray → Bool) : ∀ (L : List Pc) x m, (rowP f L).2 = x :: m → ¬ (q3u x.2 && f x.2) = true
  | [], x, m, h => by cases h
  | y :: L, x, m, h => by
    unfold rowP at h
    split at h
    · exact z2e f L x m h
    · rename_i hn; cases h; exact hn
theorem v8m (f : ByteArray → Bool) : ∀ (L : List Pc) y, y ∈ (rowP f L).1 → q3u y = true ∧ f y = true
  | [], y, h => by cases h
  | x :: L, y, h => by
    unfold rowP at h
    split at h
    · rename_i hp
      rcases List.mem_cons.1 h with rfl | h
      · rw [Bool.and_eq_true] at hp; exact hp
      · exact v8m f L y h
    · cases h
theorem v7c (f : ByteArray → Bool) (a b : Nat) (hk : ∀ p, (q3u p && f p) = true → nxt a 0 0 p = some b ∧ nxt b 0 0 p = some b) (hn : ∀ p, ¬ (q3u p && f p) = true → nxt a 0 0 p = none) (h2 : 2 ≤ b) (h0 : q2q [] a 0 0 = false) :
    ∀ L : List Pc, q2q (sn L) b 0 0 = q2q (sn (rowP f L).2) b 0 0 ∧ q2q (sn L) a 0 0 = if (rowP f L).1 = [] then false else q2q (sn (rowP f L).2) b 0 0
  | [] => ⟨rfl, h0⟩
  | x :: L => by
    obtain ⟨ih, _⟩ := v7c f a b hk hn h2 h0 L
    by_cases h : (q3u x.2 && f x.2) = true
    · have e : rowP f (x :: L) = (x.2 :: (rowP f L).1, (rowP f L).2) := by rw [rowP, if_pos h]
      rw [e, if_neg (by simp), ← ih]
      exact ⟨(q4c (hk _ h).2).trans (q5l _ _ _ _ _ _ h2), (q4c (hk _ h).1).trans (q5l _ _ _ _ _ _ h2)⟩
    · have e : rowP f (x :: L) = ([], x :: L) := by rw [rowP, if_neg h]
      rw [e, if_pos rfl]
      exact ⟨rfl, q8n (hn _ h)⟩
theorem k4y (L : List Pc) : q2q (sn L) 5 0 0 = if (rowP q2g L).1 = [] then false else q2q (sn (rowP q2g L).2) 6 0 0 := by
  refine (v7c q2g 5 6 (fun p h => ?_) (fun p h => ?_) (by omega) rfl L).2
  · rw [Bool.and_eq_true] at h
    obtain ⟨c, d, n', x', y', k1, k2, k3, k4, k5, k6, k7, k8, k9, k10, k11, k12⟩ := kf p
    have hs : ¬ q5q p = true := fun q => by
      have a := k5.1 q
      have b := k7.1 h.2
      clear k1 k2 k3 k4 k5 k6 k7 k8 k9
      omega
    unfold nxt
    simp [h.1, h.2, hs]
  · rw [Bool.and_eq_true] at h
    unfold nxt
    simp [h]
theorem k6g (L : List Pc) : q2q (sn L) 7 0 0 = if (rowP q2b L).1 = [] then false else q2q (sn (rowP q2b L).2) 8 0 0 := by
  refine (v7c q2b 7 8 (fun p h => ?_) (fun p h => ?_) (by omega) rfl L).2
  · rw [Bool.and_eq_true] at h
    unfold nxt
    simp [h.1]
  · rw [Bool.and_eq_true] at h
    unfold nxt
    simp; simpa [q2b] using h
theorem k3q : ∀ (L : List Pc) (seen : List ByteArray), q1u seen false (sn L) = q1u (seen ++ (rowP q2g L).1) false (sn (rowP q2g L).2)
  | [], seen => by rw [rowP, List.append_nil]
  | x :: L, seen => by
    by_cases h : (q3u x.2 && q2g x.2) = true
    · have e : rowP q2g (x :: L) = (x.2 :: (rowP q2g L).1, (rowP q2g L).2) := by rw [rowP, if_pos h]
      rw [Bool.and_eq_true] at h
      obtain ⟨c, d, n', x', y', k1, k2, k3, k4, k5, k6, k7, k8, k9, k10, k11, k12⟩ := kf x.2
      rw [e]
      have hl := k7.1 h.2
      have t : q1u seen false (sn (x :: L)) = q1u (seen ++ [x.2]) false (sn L) := z7d (fun q => by have q' := k8.1 q; clear k1 k2 k3 k4 k5 k6 k7 k8 k9; omega) (by clear k1 k2 k3 k4 k5 k6 k7 k8 k9; omega) (.inr (.inl rfl))
      rw [t, k3q L (seen ++ [x.2])]
      simp
    · have e : rowP q2g (x :: L) = ([], x :: L) := by rw [rowP, if_neg h]
      rw [e]; simp
theorem v7m (e : Int) : ∀ (n : Nat) (L : List Pc) (acc : List (ByteArray × List ByteArray)) (seen : List ByteArray) (fr : Bool), L.length < n → (∀ y : ByteArray, y.size = 1 → (y ∈ seen ↔ ∃ z ∈ acc, z.1 = y)) → (∀ x m, L = x :: m → q6u x.2 = false) →
    match q4j e n acc L with
    | .error x => (x.2 = 11 ∧ q1u seen fr (sn L) = true) ∨ (x.2 = 10 ∧ D4 (sn L) = false)
    | .ok v => D4 (sn L) = D4 (sn v.2) ∧ (∃ seen' fr', q1u seen fr (sn L) = q1u seen' fr' (sn v.2)) ∧ ∀ x m, v.2 = x :: m → q6u x.2 = false ∧ q5q x.2 = false
  | 0, L, acc, seen, fr, hn, h1, h2 => by omega
  | n + 1, [], acc, seen, fr, hn, h1, h2 => ⟨rfl, ⟨seen, fr, rfl⟩, fun x m h => by cases h⟩
  | n + 1, x :: L, acc, seen, fr, hn, h1, h2 => by
    have hv := h2 x L rfl
    by_cases h : (q3u x.2 && q5q x.2) = true
    · have hs : q5q x.2 = true := by rw [Bool.and_eq_true] at h; exact h.2
      obtain ⟨_, s1, s2⟩ := v4c hs
      have hm : x.2 ∈ seen ↔ (acc.any fun y => decide (y.1 = x.2)) = true := by
        rw [h1 _ s1, List.any_eq_true]
        exact ⟨fun ⟨z, a, b⟩ => ⟨z, a, decide_eq_true b⟩, fun ⟨z, a, b⟩ => ⟨z, a, of_decide_eq_true b⟩⟩
      by_cases ha : (acc.any fun y => decide (y.1 = x.2)) = true
      · have ee : q4j e (n + 1) acc (x :: L) = .error (x.1, 11) := by rw [q4j, if_pos h, if_pos ha]
        rw [ee]
        refine .inl ⟨rfl, ?_⟩
        show q1u seen fr (x.2 :: sn L) = true
        rw [q1u, if_neg s2, if_pos]
        rw [(z1w _ _).2 (hm.2 ha), decide_eq_true s1]
        simp
      · have w : D4 (sn (x :: L)) = q2q (sn L) 5 0 0 := (q4c (show nxt 4 0 0 x.2 = some 5 by unfold nxt; simp [hv, hs])).trans (q5l _ _ _ _ _ _ (by omega))
        have t : q1u seen fr (sn (x :: L)) = q1u (seen ++ [x.2]) false (sn L) := by
          show q1u seen fr (x.2 :: sn L) = _
          rw [q1u, if_neg s2, if_neg, decide_eq_true s1]
          · simp
          · rw [Bool.and_eq_true, z1w, hm]; exact fun q => ha q.1
        rw [w, k4y, t, k3q]
        by_cases hr : (rowP q2g L).1 = []
        · have ee : q4j e (n + 1) acc (x :: L) = .error (q4r e (rowP q2g L).2, 10) := by rw [q4j, if_pos h, if_neg ha, if_pos hr]
          rw [ee, if_pos hr]
          exact .inr ⟨rfl, rfl⟩
        · have ee : q4j e (n + 1) acc (x :: L) = q4j e n (acc ++ [(x.2, (rowP q2g L).1)]) (rowP q2g L).2 := by rw [q4j, if_pos h, if_neg ha, if_neg hr]
          rw [ee, if_neg hr]
          have hlen : (rowP q2g L).2.length ≤ L.length := by
            have := congrArg List.length (v3o q2g L)
            simp only [List.length_append, List.length_map] at this
            omega
          have hvn : ∀ y m, (rowP q2g L).2 = y :: m → q6u y.2 = false := fun y m hy => by
            cases hq : q6u y.2 with
            | false => rfl
            | true =>
              obtain ⟨c, d, n', x', y', k1, k2, k3, k4, k5, k6, k7, k8, k9, k10, k11, k12⟩ := kf y.2
              exfalso
              apply z2e q2g L y m hy
              rw [Bool.and_eq_true]
              have q' := k4.1 hq
              refine ⟨k6.2 ?_, k7.2 ?_⟩
              · clear k1 k2 k3 k4 k5 k6 k7 k8 k9
                omega
              · clear k1 k2 k3 k4 k5 k6 k7 k8 k9
                omega
          have w6 : q2q (sn (rowP q2g L).2) 6 0 0 = D4 (sn (rowP q2g L).2) := by
            cases hq : (rowP q2g L).2 with
            | nil => rfl
            | cons y m =>
              have q1 := hvn y m hq
              have q2 := z2e q2g L y m hq
              rw [Bool.and_eq_true] at q2
              exact z0h (by unfold nxt; simp [q1, q2]) (fun j hj => v3v (by omega) hj)
          rw [w6]
          have hin : ∀ y : ByteArray, y.size = 1 → (y ∈ seen ++ [x.2] ++ (rowP q2g L).1 ↔ ∃ z ∈ acc ++ [(x.2, (rowP q2g L).1)], z.1 = y) := fun y hy => by
            have hno : y ∉ (rowP q2g L).1 := fun q => by
              have := (v8m q2g L y q).2
              unfold q2g at this
              simp at this
              omega
            rw [List.mem_append, List.mem_append, h1 y hy, List.mem_singleton]
            constructor
            · rintro ((⟨z, a, b⟩ | rfl) | q)
              · exact ⟨z, List.mem_append_left _ a, b⟩
              · exact ⟨_, List.mem_append_right _ (List.mem_singleton.2 rfl), rfl⟩
              · exact absurd q hno
            · rintro ⟨z, a, b⟩
              rcases List.mem_append.1 a with a | a
              · exact .inl (.inl ⟨z, a, b⟩)
              · rw [List.mem_singleton] at a
                subst a
                exact .inl (.inr b.symm)
          exact v7m e n (rowP q2g L).2 _ _ false (by simp only [List.length_cons] at hn; omega) hin hvn
    · have ee : q4j e (n + 1) acc (x :: L) = .ok (acc, x :: L) := by rw [q4j, if_neg h]
      rw [ee]
      refine ⟨rfl, ⟨seen, fr, rfl⟩, fun y m hy => ?_⟩
      cases hy
      refine ⟨hv, ?_⟩
      cases hs : q5q x.2 with
      | false => rfl
      | true => exact absurd (by rw [(v4c hs).1, hs]; rfl) h
theorem v9m (e : Int) (L : List Pc) (seen : List ByteArray) (fr : Bool) (hd : ∀ x m, L = x :: m → q6u x.2 = false ∧ q5q x.2 = false) :
    match q5n e L with
    | .error x => x.2 = 10 ∧ D4 (sn L) = false
    | .ok p => D4 (sn L) = true ∧ q1u seen fr (sn L) = false := by
  cases L with
  | nil =>
    have ee : q5n e [] = .ok [] := by rw [q5n, if_neg (by decide), if_pos rfl]
    rw [ee]
    exact ⟨rfl, rfl⟩
  | cons x m =>
    obtain ⟨d1, d2⟩ := hd x m rfl
    obtain ⟨c, d, n', x', y', k1, k2, k3, k4, k5, k6, k7, k8, k9, k10, k11, k12⟩ := kf x.2
    by_cases hx : q3s (x :: m) = xB
    · have hxx : x.2 = xB := by obtain ⟨y, r, e1, e2, _⟩ := z2v hx (by decide); cases e1; exact e2
      have w : D4 (sn (x :: m)) = q2q (sn m) 7 0 0 := (q4c (show nxt 4 0 0 x.2 = some 7 by unfold nxt; simp [hxx, j0s, k4i])).trans (q5l _ _ _ _ _ _ (by omega))
      have t : q1u seen fr (sn (x :: m)) = false := by
        show q1u seen fr (x.2 :: sn m) = false
        rw [q1u, if_pos hxx]
      rw [w, t, k6g]
      by_cases h1 : (rowP q2b m).1 = []
      · have ee : q5n e (x :: m) = .error (q4r e (rowP q2b m).2, 10) := by
          unfold q5n
          rw [if_pos hx, if_pos (show (rowP q2b (x :: m).tail).1 = [] from h1)]
          rfl
        rw [ee, if_pos h1]
        exact ⟨rfl, rfl⟩
      · rw [if_neg h1]
        by_cases h2 : (rowP q2b m).2 = []
        · have ee : q5n e (x :: m) = .ok (rowP q2b m).1 := by
            unfold q5n
            rw [if_pos hx, if_neg (show ¬ (rowP q2b (x :: m).tail).1 = [] from h1), if_pos (show (rowP q2b (x :: m).tail).2 = [] from h2)]
            rfl
          rw [ee, h2]
          exact ⟨rfl, rfl⟩
        · have ee : q5n e (x :: m) = .error (q4r e (rowP q2b m).2, 10) := by
            unfold q5n
            rw [if_pos hx, if_neg (show ¬ (rowP q2b (x :: m).tail).1 = [] from h1), if_neg (show ¬ (rowP q2b (x :: m).tail).2 = [] from h2)]
            rfl
          rw [ee]
          refine ⟨rfl, ?_⟩
          cases hq : (rowP q2b m).2 with
          | nil => exact absurd hq h2
          | cons y r =>
            have q2 := z2e q2b m y r hq
            rw [Bool.and_eq_true] at q2
            exact q8n (by unfold nxt; simp; simpa [q2b] using q2)
    · have ee : q5n e (x :: m) = .error (q4r e (x :: m), 10) := by rw [q5n, if_neg hx, if_neg (by simp)]
      rw [ee]
      refine ⟨rfl, q8n ?_⟩
      have hnx : x.2 ≠ xB := fun q => hx (by show (if q3u x.2 = true then x.2 else ⟨#[]⟩) = xB; rw [if_pos (by rw [q]; decide), q])
      unfold nxt
      simp [d1, d2, hnx]
def Quiet (seen : List ByteArray) : Prop := ∀ y ∈ seen, y.size ≠ 1 ∧ q6u y = false
theorem Quiet.snoc {seen : List ByteArray} {p : ByteArray} (h : Quiet seen) (h1 : p.size ≠ 1) (h2 : q6u p = false) : Quiet (seen ++ [p]) := fun y hy => (List.mem_append.1 hy).elim (h y) (fun q => by rw [List.mem_singleton.1 q]; exact ⟨h1, h2⟩)
theorem v6f {p : ByteArray} (h : q5v p = true) : p.size ≠ 1 ∧ q6u p = false ∧ p ≠ xB := by
  obtain ⟨c, d, n', x', y', k1, k2, k3, k4, k5, k6, k7, k8, k9, k10, k11, k12⟩ := kf p
  have h' := k1.1 h
  refine ⟨?_, ?_, fun q => ?_⟩
  · clear k1 k2 k3 k4 k5 k6 k7 k8 k9
    omega
  · cases hv : q6u p with
    | false => rfl
    | true => have v' := k4.1 hv; clear k1 k2 k3 k4 k5 k6 k7 k8 k9; exfalso; omega
  · have q' := k8.1 q
    clear k1 k2 k3 k4 k5 k6 k7 k8 k9
    omega
theorem v9b {p : ByteArray} (h : z5e p = true) : p.size ≠ 1 ∧ q6u p = false ∧ p ≠ xB := by
  obtain ⟨c, d, n', x', y', k1, k2, k3, k4, k5, k6, k7, k8, k9, k10, k11, k12⟩ := kf p
  have h' := k2.1 h
  refine ⟨?_, ?_, fun q => ?_⟩
  · clear k1 k2 k3 k4 k5 k6 k7 k8 k9
    omega
  · cases hv : q6u p with
    | false => rfl
    | true => have v' := k4.1 hv; clear k1 k2 k3 k4 k5 k6 k7 k8 k9; exfalso; omega
  · have q' := k8.1 q
    clear k1 k2 k3 k4 k5 k6 k7 k8 k9
    omega
theorem v9s {p : ByteArray} (h : z6u p = true) : p.size ≠ 1 ∧ q6u p = false ∧ p ≠ xB := by
  obtain ⟨c, d, n', x', y', k1, k2, k3, k4, k5, k6, k7, k8, k9, k10, k11, k12⟩ := kf p
  have h' := k3.1 h
  refine ⟨?_, ?_, fun q => ?_⟩
  · clear k1 k2 k3 k4 k5 k6 k7 k8 k9
    omega
  · cases hv : q6u p with
    | false => rfl
    | true => have v' := k4.1 hv; clear k1 k2 k3 k4 k5 k6 k7 k8 k9; exfalso; omega
  · have q' := k8.1 q
    clear k1 k2 k3 k4 k5 k6 k7 k8 k9
    omega
theorem k3w (f : ByteArray → Bool) (hf : ∀ p, f p = true → p.size ≠ 1 ∧ q6u p = false ∧ p ≠ xB) (L : List Pc) (seen : List ByteArray) (hq : Quiet seen) : ∃ seen', Quiet seen' ∧ q1u seen true (sn L) = q1u seen' true (sn (q5m f L).2) := by
  cases L with
  | nil => exact ⟨seen, hq, rfl⟩
  | cons x m =>
    by_cases h : (q3u x.2 && f x.2) = true
    · rw [one_pos h]
      rw [Bool.and_eq_true] at h
      obtain ⟨h1, h2, h3⟩ := hf _ h.2
      exact ⟨seen ++ [x.2], hq.snoc h1 h2, z7d h3 h1 (.inl h2)⟩
    · rw [q9t h]; exact ⟨seen, hq, rfl⟩
theorem k4a : ∀ (n : Nat) (L : List Pc) (seen : List ByteArray), Quiet seen → ∃ seen', Quiet seen' ∧ q1u seen true (sn L) = q1u seen' true (sn (q4o n L).2)
  | 0, L, seen, hq => ⟨seen, hq, rfl⟩
  | n + 1, [], seen, hq => ⟨seen, hq, rfl⟩
  | n + 1, x :: L, seen, hq => by
    by_cases h : (q3u x.2 && q5v x.2) = true
    · have e1 : (q4o (n + 1) (x :: L)).2 = (q4o n L).2 := by rw [q4o, if_pos h]
      rw [Bool.and_eq_true] at h
      obtain ⟨h1, h2, h3⟩ := v6f h.2
      obtain ⟨s', q', t'⟩ := k4a n L (seen ++ [x.2]) (hq.snoc h1 h2)
      rw [e1]
      exact ⟨s', q', (z7d h3 h1 (.inl h2)).trans t'⟩
    · have e1 : (q4o (n + 1) (x :: L)).2 = x :: L := by rw [q4o, if_neg h]
      rw [e1]; exact ⟨seen, hq, rfl⟩
theorem k5c (e : Int) (t : z4j) (L : List Pc) (seen : List ByteArray) (hq : Quiet seen) :
    match z5l e t L with
    | .error x => (x.2 = 11 ∧ q1u seen true (sn L) = true) ∨ (x.2 = 10 ∧ D4 (sn L) = false)
    | .ok _ => D4 (sn L) = true ∧ q1u seen true (sn L) = false := by
  have hv := v6q L [] seen (fun y hy => (hq y hy).1) (fun y hy => Iff.intro (fun q => absurd hy (by rw [(hq y q).2]; decide)) (fun q => absurd q List.not_mem_nil))
  unfold z5l
  cases hvp : q5d [] L with
  | error z => rw [hvp] at hv; exact .inl hv
  | ok v =>
    rw [hvp] at hv
    obtain ⟨v1, s1, v2, v3, v4⟩ := hv
    have hx := v7m e (v.2.length + 1) v.2 [] s1 true (by omega) (fun y hy => Iff.intro (fun q => absurd hy (v2 y q)) (fun ⟨z, q, _⟩ => absurd q List.not_mem_nil)) v4
    simp only
    rw [v1, v3]
    cases hxp : q4j e (v.2.length + 1) [] v.2 with
    | error z => rw [hxp] at hx; exact hx
    | ok z =>
      rw [hxp] at hx
      obtain ⟨x1, ⟨s2, f2, x2⟩, x3⟩ := hx
      have hp := v9m e z.2 s2 f2 x3
      simp only
      rw [x1, x2]
      cases hpp : q5n e z.2 with
      | error y => rw [hpp] at hp; exact .inr hp
      | ok p => rw [hpp] at hp; exact hp
theorem k4t (e : Int) (L : List Pc) (hL : L ≠ []) :
    match v0j e L with
    | .error x => (x.2 = 11 ∧ twB (sn L) = true) ∨ (x.2 = 10 ∧ z5m (sn L) = false)
    | .ok t => z5m (sn L) = true ∧ twB (sn L) = false := by
  cases L with
  | nil => exact absurd rfl hL
  | cons x m =>
    obtain ⟨c, d, n', x', y', k1, k2, k3, k4, k5, k6, k7, k8, k9, k10, k11, k12⟩ := kf x.2
    by_cases hx : q3s (x :: m) = xB
    · have hxx : x.2 = xB := by obtain ⟨y, r, e1, e2, _⟩ := z2v hx (by decide); cases e1; exact e2
      have d1 : q6u x.2 = false := by rw [hxx]; decide
      have d2 : q5q x.2 = false := by rw [hxx]; decide
      have hp := v9m e (x :: m) [] true (fun y r h => by cases h; exact ⟨d1, d2⟩)
      have w : D4 (sn (x :: m)) = q2q (sn m) 7 0 0 := (q4c (show nxt 4 0 0 x.2 = some 7 by unfold nxt; simp [hxx, j0s, k4i])).trans (q5l _ _ _ _ _ _ (by omega))
      have hd : z5m (sn (x :: m)) = D4 (sn (x :: m)) := by rw [w]; show z5m (x.2 :: sn m) = _; rw [z5m, if_pos hxx]
      have ht : twB (sn (x :: m)) = false := by show twB (x.2 :: sn m) = _; rw [twB, if_pos hxx]
      rw [hd, ht]
      unfold v0j
      rw [if_pos hx]
      cases hq : q5n e (x :: m) with
      | error z => rw [hq] at hp; exact .inr hp
      | ok p => rw [hq] at hp; exact ⟨hp.1, rfl⟩
    · have hnx : x.2 ≠ xB := fun q => hx (by show (if q3u x.2 = true then x.2 else ⟨#[]⟩) = xB; rw [if_pos (by rw [q]; decide), q])
      unfold v0j
      rw [if_neg hx]
      by_cases hl : q2t x.2 = true
      · have hl' := k9.1 hl
        have hsl : (q3u x.2 && q2t x.2) = true := by
          rw [Bool.and_eq_true]
          refine ⟨k6.2 ?_, hl⟩
          clear k1 k2 k3 k4 k5 k6 k7 k8 k9
          omega
        have hsz : x.2.size ≠ 0 := by
          clear k1 k2 k3 k4 k5 k6 k7 k8 k9
          omega
        clear k1 k2 k3 k4 k5 k6 k7 k8 k9
        have hd : z5m (sn (x :: m)) = q2q (sn m) 0 0 x.2.size := by show z5m (x.2 :: sn m) = _; rw [z5m, if_neg hnx, if_pos hl]
        have ht : twB (sn (x :: m)) = q1u [] true (sn m) := by show twB (x.2 :: sn m) = _; rw [twB, if_neg hnx]
        rw [hd, ht, one_pos hsl]
        simp only
        rw [if_neg hsz]
        have hE : ∃ last e', last ≤ 1 ∧ q2q (sn m) 0 0 x.2.size = q2q (sn (exl x.2 m).2) last e' x.2.size ∧ (∀ y r, (exl x.2 m).2 = y :: r → q5v y.2 = true → ¬ (e' < 3 ∧ x.2.size ≤ 3)) := by
          unfold exl
          by_cases h3 : x.2.size = 2 ∨ x.2.size = 3
          · rw [if_pos h3]
            obtain ⟨l', e', a, b, c⟩ := k4n x.2.size (by omega) 3 m 0 0 (by omega) rfl
            exact ⟨l', e', a, b, fun y r hy hq q => c y r hy hq q.1⟩
          · rw [if_neg h3]
            exact ⟨0, 0, by omega, rfl, fun y r _ _ q => by omega⟩
        obtain ⟨l', e', a, b, c⟩ := hE
        have hS := j0t _ _ _ _ a c
        have hT : ∃ s1, Quiet s1 ∧ q1u [] true (sn m) = q1u s1 true (sn (exl x.2 m).2) := by
          unfold exl
          by_cases h3 : x.2.size = 2 ∨ x.2.size = 3
          · rw [if_pos h3]; exact k4a 3 m [] (fun y hy => absurd hy List.not_mem_nil)
          · rw [if_neg h3]; exact ⟨[], ⟨fun y hy => absurd hy List.not_mem_nil, rfl⟩⟩
        obtain ⟨s1, q1, t1⟩ := hT
        obtain ⟨s2, q2, t2⟩ := k3w z5e (fun p h => v9b h) (exl x.2 m).2 s1 q1
        obtain ⟨s3, q3, t3⟩ := k3w z6u (fun p h => v9s h) _ s2 q2
        rw [b, hS, k8r, t1, t2, t3]
        exact k5c e _ _ s3 q3
      · have hsl : ¬ (q3u x.2 && q2t x.2) = true := by rw [Bool.and_eq_true]; exact fun q => hl q.2
        rw [q9t hsl]
        simp only
        rw [if_pos (by rfl)]
        refine .inr ⟨rfl, ?_⟩
        show z5m (x.2 :: sn m) = false
        rw [z5m, if_neg hnx, if_neg hl]
end Go.Proofs.YtpmcfckechjppaaGreatDoor.Ps
namespace Go.Proofs.YtpmcfckechjppaaGreatDoor.Ps
open Go.RowKit Go.Proofs.YtpmcfckechjppaaGreatDoorW.PrintWords Go.Proofs.YtpmcfckechjppaaGreatDoorW.PrintLast Go.Proofs.YtpmcfckechjppaaGreatDoorW.PrintMore Go.Proofs.YtpmcfckechjppaaGreatDoor.P Go.Proofs.YtpmcfckechjppaaGreatDoor.LikW
open Go.Proofs.YtpmcfckechjppaaGreatDoor.Each Go.Proofs.YtpmcfckechjppaaGreatDoor.Base Go.Proofs.YtpmcfckechjppaaGreatDoor.Pure
def z3m (F : FuncId) (f : ByteArray → Bool) : Prop := ∀ (s : ByteArray) (w : World), s.size ≤ 900000 → Calls Tryz.prog F #[.string s] w fun e w' => e = .returned (.bool (f s)) ∧ Below w.heap.size w w'
theorem z7t (s : ByteArray) (hs : s.size ≤ 900000) (w : World) : Calls Tryz.prog 79 #[.string s] w fun e w' => e = .returned (.int .i64 (q4d (bytesOf s))) ∧ Below w.heap.size w w' := by
 obtain ⟨k, hk⟩ := z9a s (by omega)
 exact (q0f.calls k s _ w (hk k (Nat.le_refl _))).mono fun e w' h => ⟨h.1, h.2.below⟩
theorem k5f (s : ByteArray) (hs : s.size ≤ 900000) (w : World) : Calls Tryz.prog 79 #[.string s] w fun e w' => e = .returned (.int .i64 (q4d (bytesOf s))) ∧ q0k w w' := by
 obtain ⟨k, hk⟩ := z9a s (by omega)
 exact q0f.calls k s _ w (hk k (Nat.le_refl _))
theorem k3v (s : ByteArray) : (q4d (bytesOf s) != 0) = decide (q4d (bytesOf s) > 0) := by
 rcases k1b (bytesOf s) with h | h | h | h <;> rw [h] <;> rfl
theorem v7a (s : ByteArray) (lo hi : Int) (hs : s.size ≤ 900000) (w : World) : Calls Tryz.prog 189 #[.string s, .int .i64 lo, .int .i64 hi] w fun e w' => e = .returned (.bool (q4d (bytesOf s) == 1 && (decide (lo ≤ (s.size : Int)) && decide ((s.size : Int) ≤ hi)))) ∧ Below w.heap.size w w' := by
 have HC := aq (fun W => z7t s hs W)
 cases h1 : (q4d (bytesOf s) == 1) <;> cases h2 : decide (lo ≤ (s.size : Int)) <;> cases h3 : decide ((s.size : Int) ≤ hi)
 all_goals
  go_enter Tryz.func189, Tryz.ntmps189
  go_wp2_with (first | (go_at_call 79; refine (HC.out _).mono ?_; rintro e w1 ⟨rfl, hb⟩; have HB := aq hb; clear hb))
  go_ret
  exact ⟨rfl, HB.out⟩
theorem q9b (f : ByteArray → Bool) (lo hi : Int) (h : ∀ s : ByteArray, (q4d (bytesOf s) == 1 && (decide (lo ≤ (s.size : Int)) && decide ((s.size : Int) ≤ hi))) = f s) (s : ByteArray) (hs : s.size ≤ 900000) (w : World) : Calls Tryz.prog 189 #[.string s, .int .i64 lo, .int .i64 hi] w fun e w' => e = .returned (.bool (f s)) ∧ Below w.heap.size w w' :=
 (v7a s lo hi hs w).mono fun e w' q => ⟨by rw [← h s]; exact q.1, q.2⟩
theorem k5s : z3m 135 q2t := fun s w hs => by
 have HC := aq (fun W => q9b q2t 2 8 (fun s => by unfold q2t; congr 1; rw [Bool.eq_iff_iff]; simp; omega) s hs W)
 go_enter Tryz.func135, Tryz.ntmps135
 go_wp2_with (first | (go_at_call 189; refine (HC.out _).mono ?_; rintro e w1 ⟨rfl, hb⟩; have HB := aq hb; clear hb))
 go_ret
 exact ⟨rfl, HB.out⟩
theorem k7w : z3m 136 q5v := fun s w hs => by
 have HC := aq (fun W => q9b q5v 3 3 (fun s => by unfold q5v; congr 1; rw [Bool.eq_iff_iff]; simp; omega) s hs W)
 go_enter Tryz.func136, Tryz.ntmps136
 go_wp2_with (first | (go_at_call 189; refine (HC.out _).mono ?_; rintro e w1 ⟨rfl, hb⟩; have HB := aq hb; clear hb))
 go_ret
 exact ⟨rfl, HB.out⟩
theorem k8f : z3m 137 z5e := fun s w hs => by
 have HC := aq (fun W => q9b z5e 4 4 (fun s => by unfold z5e; congr 1; rw [Bool.eq_iff_iff]; simp; omega) s hs W)
 go_enter Tryz.func137, Tryz.ntmps137
 go_wp2_with (first | (go_at_call 189; refine (HC.out _).mono ?_; rintro e w1 ⟨rfl, hb⟩; have HB := aq hb; clear hb))
 go_ret
 exact ⟨rfl, HB.out⟩
theorem k8l : z3m 138 z6u := fun s w hs => by
 have HC := aq (fun W => q9b (fun s => q4d (bytesOf s) == 1 && decide (s.size = 2)) 2 2 (fun s => by congr 1; rw [Bool.eq_iff_iff]; simp; omega) s hs W)
 have HK := aq (fun W => z7t s hs W)
 have hr : z6u s = ((q4d (bytesOf s) == 1 && decide (s.size = 2)) || (q4d (bytesOf s) == 2 && decide (s.size = 3))) := rfl
 rw [hr]
 clear hr
 cases h1 : (q4d (bytesOf s) == 1 && decide (s.size = 2)) <;> rw [h1] at HC
 all_goals
  by_cases h3 : s.size = 3
  · have d3 : ((s.size : Int) == 3) = true := by simp [h3]
    have e3 : decide (s.size = 3) = true := decide_eq_true h3
    rw [e3]
    clear e3 h1
    cases h2 : (q4d (bytesOf s) == 2)
    all_goals
     go_enter Tryz.func138, Tryz.ntmps138
     go_wp2_with (first | (go_at_call 189; refine (HC.out _).mono ?_; rintro e w1 ⟨rfl, hb⟩; have HB := aq hb; clear hb) | (go_at_call 79; refine (HK.out _).mono ?_; rintro e w2 ⟨rfl, hb⟩; replace HB := bb HB hb; clear hb))
     go_ret
     exact ⟨rfl, HB.out⟩
  · have d3 : ((s.size : Int) == 3) = false := by simp; omega
    have e3 : decide (s.size = 3) = false := decide_eq_false h3
    rw [e3, Bool.and_false, Bool.or_false]
    clear e3 h1
    go_enter Tryz.func138, Tryz.ntmps138
    go_wp2_with (first | (go_at_call 189; refine (HC.out _).mono ?_; rintro e w1 ⟨rfl, hb⟩; have HB := aq hb; clear hb))
    go_ret
    exact ⟨rfl, HB.out⟩
theorem k1m (c : Int) : (q4d [c] == 2) = q7p c := by
 unfold q4d q4p v7f
 simp only [List.all_cons, List.all_nil, Bool.and_true, List.any_cons, List.any_nil, Bool.or_false, Bool.false_or]
 by_cases h1 : q7c c = true
 · rw [h1, z4m c h1]; rfl
 · have h1' : q7c c = false := by simpa using h1
   rw [h1']
   cases h2 : q7p c <;> rfl
theorem v8r (s : ByteArray) (h : s.size = 4) : (q4d (bytesOf (s.extract 0 1)) == 2) = (decide (48 ≤ bt s 0) && decide (bt s 0 ≤ 57)) := by
 have e := take_at s 0 (by omega)
 rw [List.take_zero, List.nil_append] at e
 rw [q4x, List.drop_zero, show (1 - 0) = 0 + 1 from rfl, e, k1m]
 unfold q7p
 rw [Bool.eq_iff_iff]; simp
theorem k3s (s : ByteArray) (w : World) (hs : s.size ≤ 900000) : Calls Tryz.prog 69 #[.string s] w fun e w' => e = .returned (.bool (q6u s)) ∧ q0k w w' := by
 have HC := aq (fun W => k5f s hs W)
 have hv : q6u s = ((q4d (bytesOf s) != 0) && ((decide (5 ≤ s.size) && decide (s.size ≤ 8)) || (decide (s.size = 4) && (q4d (bytesOf (s.extract 0 1)) == 2)))) := rfl
 rw [hv]
 clear hv
 by_cases c0 : q4d (bytesOf s) = 0
 · have e0 : (q4d (bytesOf s) == 0) = true := by simp [c0]
   have e1 : (q4d (bytesOf s) != 0) = false := by simp [c0]
   rw [e1, Bool.false_and]
   clear e1 c0
   go_enter Tryz.func69, Tryz.ntmps69
   go_wp2_with (first | (go_at_call 79; refine (HC.out _).mono ?_; rintro e w1 ⟨rfl, hb⟩; have HB := aq hb; clear hb))
   go_ret
   exact ⟨rfl, HB.out⟩
 · have e0 : (q4d (bytesOf s) == 0) = false := by simp [c0]
   have e1 : (q4d (bytesOf s) != 0) = true := by simp [c0]
   rw [e1, Bool.true_and]
   clear e1 c0
   by_cases h4 : s.size = 4
   · have d1 : decide (5 ≤ (s.size : Int)) = false := by simp [h4]
     have d4 : ((s.size : Int) == 4) = true := by simp [h4]
     have q0 : (0 < s.size) = True := eq_true (by omega)
     have q1 : (0 < (s.size : Int)) = True := eq_true (by omega)
     have hx : ∀ h : 0 < s.size, ((s[0]'h).toNat : Int) = bt s 0 := q5w s 0
     rw [v8r s h4, show (decide (5 ≤ s.size) && decide (s.size ≤ 8) || decide (s.size = 4) && (decide (48 ≤ bt s 0) && decide (bt s 0 ≤ 57))) = (decide (48 ≤ bt s 0) && decide (bt s 0 ≤ 57)) from by simp [h4]]
     clear h4
     cases a1 : decide (48 ≤ bt s 0) <;> cases a2 : decide (bt s 0 ≤ 57)
     all_goals
      go_enter Tryz.func69, Tryz.ntmps69
      go_wp2_with (first | (go_at_call 79; refine (HC.out _).mono ?_; rintro e w1 ⟨rfl, hb⟩; have HB := aq hb; clear hb))
      go_ret
      exact ⟨rfl, HB.out⟩
   · have d4 : ((s.size : Int) == 4) = false := by simp; omega
     rw [decide_eq_false h4, Bool.false_and, Bool.or_false, show decide (5 ≤ s.size) = decide (5 ≤ (s.size : Int)) from by rw [Bool.eq_iff_iff]; simp; omega, show decide (s.size ≤ 8) = decide ((s.size : Int) ≤ 8) from by rw [Bool.eq_iff_iff]; simp; omega]
     cases d1 : decide (5 ≤ (s.size : Int)) <;> cases d2 : decide ((s.size : Int) ≤ 8)
     all_goals
      go_enter Tryz.func69, Tryz.ntmps69
      go_wp2_with (first | (go_at_call 79; refine (HC.out _).mono ?_; rintro e w1 ⟨rfl, hb⟩; have HB := aq hb; clear hb))
      go_ret
      exact ⟨rfl, HB.out⟩
theorem k9x : z3m 69 q6u := fun s w hs => (k3s s w hs).mono fun e w' h => ⟨h.1, h.2.below⟩
theorem k8p : z3m 140 q3u := fun s w hs => by
 have HC := aq (fun W => z7t s hs W)
 have hv : q3u s = (decide (s.size ≤ 8) && (q4d (bytesOf s) != 0)) := rfl
 rw [hv, k3v, show decide (s.size ≤ 8) = decide ((s.size : Int) ≤ 8) from by rw [Bool.eq_iff_iff]; simp; omega]
 clear hv
 cases d2 : decide ((s.size : Int) ≤ 8)
 · go_enter Tryz.func140, Tryz.ntmps140
   go_wp2
   go_ret
   exact ⟨rfl, Below.refl _ _⟩
 · go_enter Tryz.func140, Tryz.ntmps140
   go_wp2_with (first | (go_at_call 79; refine (HC.out _).mono ?_; rintro e w1 ⟨rfl, hb⟩; have HB := aq hb; clear hb))
   go_ret
   exact ⟨by simp, HB.out⟩
theorem k6i (s : ByteArray) (h1 : s.size = 1) : (!(cmpL (q6a s) (q6a xB) == 0)) = (!(s.toList == ([120] : List UInt8)) && !(s.toList == ([88] : List UInt8))) := by
 obtain ⟨b, hb⟩ : ∃ b, bytesOf s = [b] := by
  have := bytesOf_length s
  rw [h1] at this
  match bytesOf s, this with
  | [b], _ => exact ⟨b, rfl⟩
 have e1 : (cmpL (q6a s) (q6a xB) == 0) = decide (z0q b = 120) := by
  rw [Bool.eq_iff_iff, beq_iff_eq, q8o, decide_eq_true_iff]
  unfold q6a
  rw [hb, show bytesOf xB = [120] from rfl]
  simp [show z0q 120 = 120 from by decide]
 have e2 : ∀ x : UInt8, (s.toList == [x]) = decide (b = (x.toNat : Int)) := fun x => by
  have hx : bytesOf ⟨#[x]⟩ = [(x.toNat : Int)] := rfl
  have ht : (⟨#[x]⟩ : ByteArray).toList = [x] := by rw [ByteArray.toList_eq]
  rw [Bool.eq_iff_iff, beq_iff_eq, decide_eq_true_iff, ← ht, Base.toList_inj]
  constructor
  · intro h
    rw [h, hx] at hb
    simpa using hb.symm
  · intro h
    exact q6t (by rw [hb, hx, h])
 rw [e1, e2, e2, Bool.eq_iff_iff]
 simp
 unfold z0q
 split <;> omega
theorem k6u : z3m 139 q5q := fun s w hs => by
 have HC := aq (fun W => z7t s hs W)
 have hv : q5q s = ((q4d (bytesOf s) != 0) && (decide (s.size = 1) && !(cmpL (q6a s) (q6a xB) == 0))) := rfl
 rw [hv, k3v]
 clear hv
 by_cases h1 : s.size = 1
 · have d1 : ((s.size : Int) == 1) = true := by simp [h1]
   rw [k6i s h1, decide_eq_true h1, Bool.true_and]
   clear h1
   cases d2 : decide (q4d (bytesOf s) > 0) <;> cases d3 : (s.toList == ([120] : List UInt8)) <;> cases d4 : (s.toList == ([88] : List UInt8))
   all_goals
    have d5 : decide (0 < q4d (bytesOf s)) = decide (q4d (bytesOf s) > 0) := rfl
    rw [d2] at d5
    go_enter Tryz.func139, Tryz.ntmps139
    go_wp2_with (first | (go_at_call 79; refine (HC.out _).mono ?_; rintro e w1 ⟨rfl, hb⟩; have HB := aq hb; clear hb))
    go_ret
    exact ⟨rfl, HB.out⟩
 · have d1 : ((s.size : Int) == 1) = false := by simp; omega
   rw [decide_eq_false h1, Bool.false_and, Bool.and_false]
   go_enter Tryz.func139, Tryz.ntmps139
   go_wp2
   go_ret
   exact ⟨rfl, Below.refl _ _⟩
def k2o (p : ByteArray) (k : Nat) : Bool := match k with
 | 0 => q2t p | 1 => q5v p | 2 => z5e p | 3 => z6u p | 4 => q6u p | 5 => q5q p | 6 => q3u p && q2g p | 7 => decide (p = xB) | _ => q3u p
theorem j0z (p : ByteArray) : (p.toList == ([120] : List UInt8)) = decide (p = xB) := by
 rw [← show xB.toList = ([120] : List UInt8) from by rw [ByteArray.toList_eq]; rfl, Bool.eq_iff_iff, beq_iff_eq, Base.toList_inj, decide_eq_true_iff]
theorem k8x (p : ByteArray) (hp : p.size ≤ 900000) (k : Nat) (hk : k ≤ 8) (w : World) : Calls Tryz.prog 67 #[.string p, .int .i64 (k : Int)] w fun e w' => e = .returned (.bool (k2o p k)) ∧ Below w.heap.size w w' := by
 have dl : decide ((p.size : Int) > 1) = q2g p := by unfold q2g; rw [Bool.eq_iff_iff]; simp; omega
 have ix := j0z p
 cases hs : q3u p <;> obtain rfl | rfl | rfl | rfl | rfl | rfl | rfl | rfl | rfl : k = 0 ∨ k = 1 ∨ k = 2 ∨ k = 3 ∨ k = 4 ∨ k = 5 ∨ k = 6 ∨ k = 7 ∨ k = 8 := by omega
 all_goals
  go_enter Tryz.func67, Tryz.ntmps67
  go_wp2_with (first
   | (go_at_call 135; refine (k5s p _ hp).mono ?_; rintro e w1 ⟨rfl, hb⟩; have HB := aq hb; clear hb)
   | (go_at_call 136; refine (k7w p _ hp).mono ?_; rintro e w1 ⟨rfl, hb⟩; have HB := aq hb; clear hb)
   | (go_at_call 137; refine (k8f p _ hp).mono ?_; rintro e w1 ⟨rfl, hb⟩; have HB := aq hb; clear hb)
   | (go_at_call 138; refine (k8l p _ hp).mono ?_; rintro e w1 ⟨rfl, hb⟩; have HB := aq hb; clear hb)
   | (go_at_call 69; refine (k9x p _ hp).mono ?_; rintro e w1 ⟨rfl, hb⟩; have HB := aq hb; clear hb)
   | (go_at_call 139; refine (k6u p _ hp).mono ?_; rintro e w1 ⟨rfl, hb⟩; have HB := aq hb; clear hb)
   | (go_at_call 140; refine (k8p p _ hp).mono ?_; rintro e w1 ⟨rfl, hb⟩; have HB := aq hb; clear hb))
  first
   | (go_ret; exact ⟨by first | rfl | (simp [k2o, hs]; done), HB.out⟩)
   | (go_ret; exact ⟨by rw [← ix]; rfl, Below.refl _ _⟩)
   | (go_ret; exact ⟨by simp [k2o], Below.refl _ _⟩)
def j0b (last k ext long : Nat) : Bool := match k with
 | 1 => decide (last ≤ 1) && (decide (ext < 3) && decide (long ≤ 3)) | 2 => decide (last < 2) | 3 => decide (last < 3) | 4 => decide (last ≤ 4) | 5 => decide (last ≤ 4) || decide (last = 6) | 6 => decide (last = 5) || decide (last = 6) | 7 => decide (last ≤ 4) || decide (last = 6) | 8 => decide (last = 7) || decide (last = 8) | _ => false
theorem v9d (last k ext long : Nat) (h1 : 1 ≤ k) (hk : k ≤ 8) (w : World) : Calls Tryz.prog 134 #[.int .i64 (last : Int), .int .i64 (k : Int), .int .i64 (ext : Int), .int .i64 (long : Int)] w fun e w' => e = .returned (.bool (j0b last k ext long)) ∧ Below w.heap.size w w' := by
 have g1 : decide ((last : Int) ≤ 1) = decide (last ≤ 1) := by rw [Bool.eq_iff_iff]; simp; omega
 have g2 : decide ((last : Int) < 2) = decide (last < 2) := by rw [Bool.eq_iff_iff]; simp; omega
 have g3 : decide ((last : Int) < 3) = decide (last < 3) := by rw [Bool.eq_iff_iff]; simp; omega
 have g4 : decide ((last : Int) ≤ 4) = decide (last ≤ 4) := by rw [Bool.eq_iff_iff]; simp; omega
 have g5 : ((last : Int) == 5) = decide (last = 5) := by rw [Bool.eq_iff_iff]; simp; omega
 have g6 : ((last : Int) == 6) = decide (last = 6) := by rw [Bool.eq_iff_iff]; simp; omega
 have g7 : ((last : Int) == 7) = decide (last = 7) := by rw [Bool.eq_iff_iff]; simp; omega
 have g8 : ((last : Int) == 8) = decide (last = 8) := by rw [Bool.eq_iff_iff]; simp; omega
 have g9 : decide ((ext : Int) < 3) = decide (ext < 3) := by rw [Bool.eq_iff_iff]; simp; omega
 have g10 : decide ((long : Int) ≤ 3) = decide (long ≤ 3) := by rw [Bool.eq_iff_iff]; simp; omega
 unfold j0b
 generalize decide (last ≤ 1) = b1 at *
 generalize decide (last < 2) = b2 at *
 generalize decide (last < 3) = b3 at *
 generalize decide (last ≤ 4) = b4 at *
 generalize decide (last = 5) = b5 at *
 generalize decide (last = 6) = b6 at *
 generalize decide (last = 7) = b7 at *
 generalize decide (last = 8) = b8 at *
 generalize decide (ext < 3) = b9 at *
 generalize decide (long ≤ 3) = b10 at *
 obtain rfl | rfl | rfl | rfl | rfl | rfl | rfl | rfl : k = 1 ∨ k = 2 ∨ k = 3 ∨ k = 4 ∨ k = 5 ∨ k = 6 ∨ k = 7 ∨ k = 8 := by omega
 · cases b1 <;> cases b9 <;> cases b10 <;> (go_enter Tryz.func134, Tryz.ntmps134; go_wp2; go_ret; exact ⟨rfl, Below.refl _ _⟩)
 · go_enter Tryz.func134, Tryz.ntmps134; go_wp2; go_ret; exact ⟨rfl, Below.refl _ _⟩
 · go_enter Tryz.func134, Tryz.ntmps134; go_wp2; go_ret; exact ⟨rfl, Below.refl _ _⟩
 · go_enter Tryz.func134, Tryz.ntmps134; go_wp2; go_ret; exact ⟨rfl, Below.refl _ _⟩
 · cases b4 <;> cases b6 <;> (go_enter Tryz.func134, Tryz.ntmps134; go_wp2; go_ret; exact ⟨rfl, Below.refl _ _⟩)
 · cases b5 <;> cases b6 <;> (go_enter Tryz.func134, Tryz.ntmps134; go_wp2; go_ret; exact ⟨rfl, Below.refl _ _⟩)
 · cases b4 <;> cases b6 <;> (go_enter Tryz.func134, Tryz.ntmps134; go_wp2; go_ret; exact ⟨rfl, Below.refl _ _⟩)
 · cases b7 <;> cases b8 <;> (go_enter Tryz.func134, Tryz.ntmps134; go_wp2; go_ret; exact ⟨rfl, Below.refl _ _⟩)
theorem k9i {C1 C2 C3 C4 C5 C6 C7 C8 : Prop} [Decidable C1] [Decidable C2] [Decidable C3] [Decidable C4] [Decidable C5] [Decidable C6] [Decidable C7] [Decidable C8] {k : Nat} (h : (if C1 then some 1 else if C2 then some 2 else if C3 then some 3 else if C4 then some 4 else if C5 then some 5 else if C6 then some 6 else if C7 then some 7 else if C8 then some 8 else none) = some k) :
 (1 = k ∧ C1) ∨ (2 = k ∧ C2) ∨ (3 = k ∧ C3) ∨ (4 = k ∧ C4) ∨ (5 = k ∧ C5) ∨ (6 = k ∧ C6) ∨ (7 = k ∧ C7) ∨ (8 = k ∧ C8) := by
 (repeat' split at h) <;> simp_all
theorem k6p (last ext long k : Nat) (p : ByteArray) (h1 : 1 ≤ k) (hk : k ≤ 8) : (k2o p k && j0b last k ext long) = true ↔ nxt last ext long p = some k := by
 obtain ⟨c, d, n, x, y, k1, k2, k3, k4, k5, k6, k7, k8, k9, k10, k11, k12⟩ := kf p
 have e : nxt last ext long p = (if last ≤ 1 ∧ ext < 3 ∧ long ≤ 3 ∧ (c = 1 ∧ n = 3) then some 1 else if last < 2 ∧ (c = 1 ∧ n = 4) then some 2 else if last < 3 ∧ ((c = 1 ∧ n = 2) ∨ (c = 2 ∧ n = 3)) then some 3 else if last ≤ 4 ∧ (c ≠ 0 ∧ ((5 ≤ n ∧ n ≤ 8) ∨ (n = 4 ∧ d = 2))) then some 4 else if (last ≤ 4 ∨ last = 6) ∧ (c ≠ 0 ∧ n = 1 ∧ y = 0) then some 5 else if (last = 5 ∨ last = 6) ∧ (n ≤ 8 ∧ c ≠ 0) ∧ 1 < n then some 6 else if (last ≤ 4 ∨ last = 6) ∧ x = 1 then some 7 else if (last = 7 ∨ last = 8) ∧ (n ≤ 8 ∧ c ≠ 0) then some 8 else none) := by
  unfold nxt
  simp only [k1, k2, k3, k4, k5, k6, k7, k8]
 rw [e, Bool.and_eq_true]
 obtain rfl | rfl | rfl | rfl | rfl | rfl | rfl | rfl : k = 1 ∨ k = 2 ∨ k = 3 ∨ k = 4 ∨ k = 5 ∨ k = 6 ∨ k = 7 ∨ k = 8 := by omega
 all_goals
  simp only [k2o, j0b, Bool.and_eq_true, Bool.or_eq_true, decide_eq_true_eq, k1, k2, k3, k4, k5, k6, k7, k8]
  clear k1 k2 k3 k4 k5 k6 k7 k8 k9 k12 e
  constructor
  · intro h
    repeat (first | rw [if_neg (by omega)] | rw [if_pos (by omega)])
  · intro h
    rcases k9i h with ⟨e, q⟩ | ⟨e, q⟩ | ⟨e, q⟩ | ⟨e, q⟩ | ⟨e, q⟩ | ⟨e, q⟩ | ⟨e, q⟩ | ⟨e, q⟩ <;> first | exact absurd e (by decide) | (clear h e; omega)
theorem z8v {last ext long j : Nat} {p : ByteArray} (h : nxt last ext long p = some j) : 1 ≤ j ∧ j ≤ 8 := by
 unfold nxt at h
 (repeat' split at h) <;> first | (cases h; omega) | cases h
def bN (b : Bool) : Int := if b = true then 1 else 0
def z2c (last ext long : Nat) (p : ByteArray) (l : List ByteArray) (k : Nat) : Bool := match nxt last ext long p with
 | none => false
 | some j => decide (j < k) && q2q l j (if j = 1 then ext + 1 else ext) long
theorem k0e (last ext long : Nat) (p : ByteArray) (l : List ByteArray) : z2c last ext long p l 1 = false := by
 unfold z2c
 cases h : nxt last ext long p with
 | none => rfl
 | some j => have := z8v h; simp; omega
theorem v7s (last ext long : Nat) (p : ByteArray) (l : List ByteArray) : z2c last ext long p l 9 = q2q (p :: l) last ext long := by
 rw [q2q]
 unfold z2c
 cases h : nxt last ext long p with
 | none => rfl
 | some j =>
  have := z8v h
  simp
  omega
theorem v3w (last ext long k : Nat) (p : ByteArray) (l : List ByteArray) (h : nxt last ext long p ≠ some k) : z2c last ext long p l (k + 1) = z2c last ext long p l k := by
 unfold z2c
 cases hn : nxt last ext long p with
 | none => rfl
 | some j =>
  have : j ≠ k := fun e => h (by rw [hn, e])
  simp only
  congr 1
  rw [Bool.eq_iff_iff]; simp; omega
theorem v7z (last ext long k : Nat) (p : ByteArray) (l : List ByteArray) (h : nxt last ext long p = some k) : z2c last ext long p l k = false ∧ z2c last ext long p l (k + 1) = q2q l k (if k = 1 then ext + 1 else ext) long := by
 unfold z2c
 rw [h]
 exact ⟨by simp, by simp⟩
theorem k5o (p : ByteArray) (l : List ByteArray) : q7o ByteArray.empty (p :: l) 0 = p := rfl
theorem v2t : ∀ (l : List ByteArray) (A : Option Addr) (c last ext long : Nat) (w : World), last ≤ 8 → ext + l.length ≤ 1000000 → (∀ y ∈ l, y.size ≤ 900000) → Kd.C Kd.string w A l.length l → l.length ≤ c →
 Calls Tryz.prog 66 #[.slice A l.length c, .int .i64 (last : Int), .int .i64 (ext : Int), .int .i64 (long : Int)] w fun e w' => e = .returned (.int .i64 (bN (q2q l last ext long))) ∧ Below w.heap.size w w'
 | [], A, c, last, ext, long, w, hl, he, hs, hC, hc => by
  have g5 : ((last : Int) == 5) = (last == 5) := by rw [Bool.eq_iff_iff]; simp; omega
  have g7 : ((last : Int) == 7) = (last == 7) := by rw [Bool.eq_iff_iff]; simp; omega
  have hv : q2q [] last ext long = !(last == 5 || last == 7) := rfl
  rw [hv]
  generalize (last == 5) = b5 at *
  generalize (last == 7) = b7 at *
  clear hC hv
  cases b5 <;> cases b7 <;> (go_enter Tryz.func66, Tryz.ntmps66; go_wp2; go_ret; exact ⟨rfl, Below.refl _ _⟩)
 | p :: l, A, c, last, ext, long, w, hl, he, hs, hC, hc => by
  have ih := v2t l
  obtain ⟨ad, eA, hx⟩ := Kd.q2o hC (0 : Int) (by omega) (by simp only [List.length_cons]; omega)
  subst eA
  rw [k5o, show ad.add (0 : Int).toNat = ad from by show ad.add 0 = ad; unfold Addr.add; (first | rfl | (split <;> simp_all) | (cases ad; simp))] at hx
  obtain ⟨i9, hi9, _, hsz9, _⟩ := info_parts v5m
  obtain ⟨A', hcut, hA', hC'⟩ := q6i (P := Tryz.prog) Value.string ⟨#[]⟩ 26 9 .i64 Tryz.underlying26 hi9 hsz9 (some ad) c (p :: l) 1 (by omega) (by simp only [List.length_cons]; omega) hc
  have HT : q0c (Kd.C Kd.string w A' l.length l) := ⟨Kd.q8w (h1 := fun _ => rfl) (hA' _ (Kd.q6l hC))⟩
  have HTc : q0c (l.length ≤ c - 1) := ⟨hC'⟩
  have HX := aq hx
  have HIH := aq ih
  have HS := aq hs
  have hcut2 : ∀ W : World, (Instr.slice 26 (.slice (some ad) (p :: l).length c) (some (.int .i64 1)) none none).run Tryz.prog W = .ok (.slice A' l.length (c - 1)) W := hcut
  have hlen : (((p :: l).length : Int) == 0) = false := by simp only [List.length_cons]; rw [beq_eq_false_iff_ne]; omega
  have hpos : (0 < ((p :: l).length : Int)) = True := eq_true (by simp only [List.length_cons]; omega)
  have hpos2 : (0 < (p :: l).length) = True := eq_true (by simp)
  have hp := hs p List.mem_cons_self
  have hll : ext + l.length + 1 ≤ 1000000 := by simp only [List.length_cons] at he; omega
  clear hx ih hs hC hcut hA' hC' hi9 hsz9 he
  generalize hn : (p :: l).length = n at *
  go_enter Tryz.func66, Tryz.ntmps66
  go_wp2
  go_loopw [9, 10] (fun vn vk wr => ∃ k : Nat, vn = .int .i64 (bN (z2c last ext long p l k)) ∧ vk = .int .i64 (k : Int) ∧ 1 ≤ k ∧ k ≤ 9 ∧ q0c (Below w.heap.size w wr)) (fun _ vk _ => 9 - (intOf vk).toNat)
  case atStart => exact ⟨1, by rw [k0e]; rfl, rfl, by omega, by omega, ⟨Below.refl _ _⟩⟩
  case round =>
   obtain ⟨k, rfl, rfl, hk1, hk9, B0⟩ := hrel
   have g3 : decide (bN (z2c last ext long p l k) < 3) = true := by unfold bN; split <;> rfl
   by_cases hk : k ≤ 8
   · have d1 : decide ((k : Int) ≤ 8) = true := decide_eq_true (by omega)
     have hxr : wr.cell? ad = some (.string p) := (B0.out.cell (World.block_lt_of_cell? w _ HX.out)).trans HX.out
     have HM := aq (fun W => k8x p hp k hk W)
     have HF := aq (fun W => v9d last k ext long hk1 hk W)
     have hiff := k6p last ext long k p hk1 hk
     have b1 : bN true = 1 := rfl
     have b0 : bN false = 0 := rfl
     cases hm : k2o p k with
     | false =>
      have hno := v3w last ext long k p l (fun q => by have := hiff.2 q; rw [hm, Bool.false_and] at this; cases this)
      rw [hm] at HM
      clear hiff
      go_wp2_with (first
       | (go_at_call 67; refine (HM.out _).mono ?_; rintro e w1 ⟨rfl, hb⟩; replace B0 := bb B0 hb; clear hb hxr)
       | (go_at_call 134; refine (HF.out _).mono ?_; rintro e w2 ⟨rfl, hb⟩; replace B0 := bb B0 hb; clear hb))
      go_roundw
      case rel => exact ⟨k + 1, by rw [hno], by simp, by omega, by omega, B0⟩
      case measure => simp [intOf]; omega
     | true =>
      cases hf : j0b last k ext long with
      | false =>
       have hno := v3w last ext long k p l (fun q => by have := hiff.2 q; rw [hf, Bool.and_false] at this; cases this)
       rw [hf] at HF
       rw [hm] at HM
       clear hiff
       go_wp2_with (first
        | (go_at_call 67; refine (HM.out _).mono ?_; rintro e w1 ⟨rfl, hb⟩; replace B0 := bb B0 hb; clear hb hxr)
        | (go_at_call 134; refine (HF.out _).mono ?_; rintro e w2 ⟨rfl, hb⟩; replace B0 := bb B0 hb; clear hb))
       go_roundw
       case rel => exact ⟨k + 1, by rw [hno], by simp, by omega, by omega, B0⟩
       case measure => simp [intOf]; omega
      | true =>
       have hnx := hiff.1 (by rw [hm, hf]; rfl)
       obtain ⟨t1, t2⟩ := v7z last ext long k p l hnx
       rw [hm] at HM
       rw [hf] at HF
       rw [t1, b0] at g3 ⊢
       clear hiff hnx t1
       have hle1 : ext + 1 + l.length ≤ 1000000 := by omega
       have hle0 : ext + l.length ≤ 1000000 := by omega
       have hwx : wrap64 ((ext : Int) + 1) = (ext : Int) + 1 := by unfold wrap64; omega
       replace hwx := aq hwx
       by_cases k1 : k = 1
       · have d2 : ((k : Int) == 1) = true := by simp [k1]
         rw [if_pos k1] at t2
         clear k1
         have hI := fun W (hW : Below w.heap.size w W) => HIH.out A' (c - 1) k (ext + 1) long W hk hle1 (fun y hy => HS.out y (List.mem_cons_of_mem _ hy)) (Kd.q0h HT.out hW) HTc.out
         rw [Int.natCast_add, Int.natCast_one] at hI
         cases hw : q2q l k (ext + 1) long <;> rw [hw] at t2 hI <;> simp only [b1, b0] at hI <;> replace hI := aq hI
         all_goals
          have hwy := hwx.out
          go_wp2_with (first
           | (go_at_call 67; refine (HM.out _).mono ?_; rintro e w1 ⟨rfl, hb⟩; replace B0 := bb B0 hb; clear hb hxr)
           | (go_at_call 134; refine (HF.out _).mono ?_; rintro e w2 ⟨rfl, hb⟩; replace B0 := bb B0 hb; clear hb)
           | (go_at_call 66; clear hwy; refine (hI.out _ B0.out).mono ?_; rintro e w3 ⟨rfl, hb⟩; replace B0 := bb B0 hb; clear hb))
          go_roundw
          case rel => exact ⟨k + 1, by rw [t2]; rfl, by simp, by omega, by omega, B0⟩
          case measure => simp [intOf]; omega
       · have d2 : ((k : Int) == 1) = false := by simp; omega
         rw [if_neg k1] at t2
         clear k1
         have hI := fun W (hW : Below w.heap.size w W) => HIH.out A' (c - 1) k ext long W hk hle0 (fun y hy => HS.out y (List.mem_cons_of_mem _ hy)) (Kd.q0h HT.out hW) HTc.out
         cases hw : q2q l k ext long <;> rw [hw] at t2 hI <;> simp only [b1, b0] at hI <;> replace hI := aq hI
         all_goals
          have hwy := hwx.out
          go_wp2_with (first
           | (go_at_call 67; refine (HM.out _).mono ?_; rintro e w1 ⟨rfl, hb⟩; replace B0 := bb B0 hb; clear hb hxr)
           | (go_at_call 134; refine (HF.out _).mono ?_; rintro e w2 ⟨rfl, hb⟩; replace B0 := bb B0 hb; clear hb)
           | (go_at_call 66; clear hwy; refine (hI.out _ B0.out).mono ?_; rintro e w3 ⟨rfl, hb⟩; replace B0 := bb B0 hb; clear hb))
          go_roundw
          case rel => exact ⟨k + 1, by rw [t2]; rfl, by simp, by omega, by omega, B0⟩
          case measure => simp [intOf]; omega
   · obtain rfl : k = 9 := by omega
     rw [v7s] at g3 ⊢
     go_wp2
     go_ret
     exact ⟨rfl, B0.out⟩
end Go.Proofs.YtpmcfckechjppaaGreatDoor.Ps
namespace Go.Proofs.YtpmcfckechjppaaGreatDoor.LikW
open Go.RowKit Go.Proofs.YtpmcfckechjppaaGreatDoorW.PrintWords Go.Proofs.YtpmcfckechjppaaGreatDoorW.PrintLast Go.Proofs.YtpmcfckechjppaaGreatDoor.P
section
variable {H : Type} {enc : TypeId × Value → H} {P : Program} {w : World} {base : Nat} {sp : Nat → Bool} {held : Bool} {fuel : Nat} {t : TypeId} {cs : List Value} {x : DataW H × List MemPlace}
theorem open_slice {α : Type} (d : Kd α) {e : TypeId} (ht : P.underlying t = some (.slice e)) (hsz : P.cellsOf e = d.sz) (hel : ∀ (n : Nat) (c : List Value) (y : DataW H × List MemPlace), DataW.trod enc P w base sp held n e c = some y → ∃ p, d.K w p c) (h : DataW.trod enc P w base sp held fuel t cs = some x) :
 ∃ (A : Option Addr) (c : Nat) (l : List α), cs = [.slice A l.length c] ∧ l.length ≤ c ∧ Kd.C d w A l.length l := by
 rcases DataW.trod_slice ht h with ⟨rfl, _⟩ | ⟨a, len, cap, elems, rest, n, _, rfl, _, hb, hl, hm, hlen, hels, _, _⟩
 · exact ⟨none, 0, [], rfl, Nat.le_refl _, rfl, by simp, fun h => absurd h (by simp)⟩
 · have key : ∀ m, m ≤ len → ∃ l : List α, l.length = m ∧ ∀ j p, l[j]? = some p → ∃ c, c.length = d.sz ∧ d.K w p c ∧ ∀ i u, c[i]? = some u → w.cell? (a.add (j * d.sz + i)) = some u := by
    intro m
    induction m with
    | zero => intro _; exact ⟨[], rfl, fun j p h => by simp at h⟩
    | succ m ih =>
     intro hmm
     obtain ⟨l, hl1, hl2⟩ := ih (by omega)
     have h1 := hels m (by omega)
     rw [List.getElem?_eq_getElem (show m < elems.length by omega), Option.bind_eq_some_iff] at h1
     obtain ⟨c, hc, hy⟩ := h1
     obtain ⟨p, hp⟩ := hel _ _ _ hy
     obtain ⟨_, hcl, hcc⟩ := World.cells?_some hc
     refine ⟨l ++ [p], by simp [hl1], fun j q hq => ?_⟩
     by_cases hj : j < l.length
     · rw [List.getElem?_append_left hj] at hq
       exact hl2 j q hq
     · have hj2 : j = l.length := by
        have := (List.getElem?_eq_some_iff.1 hq).1
        simp at this
        omega
       subst hj2
       rw [List.getElem?_append_right (Nat.le_refl _), Nat.sub_self, List.getElem?_cons_zero, Option.some.injEq] at hq
       subst hq
       refine ⟨c, by rw [hcl, hsz], hp, fun i u hu => ?_⟩
       have hi : i < P.cellsOf e := by rw [← hcl]; exact (List.getElem?_eq_some_iff.1 hu).1
       have := hcc i hi
       rw [Addr.add_add, hsz] at this
       rw [hl1, this]
       exact hu
   obtain ⟨l, h1, h2⟩ := key len (Nat.le_refl _)
   refine ⟨some a, cap, l, by rw [h1], by omega, rfl, by rw [h1]; unfold maxLen at hm; omega, fun _ => ⟨a, rfl, h2⟩⟩
end
theorem q7h {H : Type} {enc : TypeId × Value → H} {w : World} {base : Nat} {sp : Nat → Bool} {held : Bool} {fuel : Nat} {cs : List Value} {x : DataW H × List MemPlace} (h : DataW.trod enc Tryz.prog w base sp held fuel 3 cs = some x) : ∃ n : Int, cs = [.int .i64 n] := by
 obtain ⟨n, e, _, _⟩ := DataW.trod_int Tryz.underlying3 h
 exact ⟨n, e⟩
theorem trod_lt {H : Type} {enc : TypeId × Value → H} {w : World} {base : Nat} {sp : Nat → Bool} {held : Bool} {t : TypeId} {v : Value} {d : DataW H} {p : List MemPlace} (h : DataW.Trod enc Tryz.prog w base sp held t v d p) : ∀ x ∈ p, x.block < w.heap.size := by
 obtain ⟨fuel, hf⟩ := h
 exact DataW.trod_lt fuel t _ _ hf
theorem c3 : Tryz.prog.cellsOf 3 = 1 := by kernel_rfl
theorem c23 : Tryz.prog.cellsOf 22 = 1 := by kernel_rfl
theorem c27 : Tryz.prog.cellsOf 24 = 8 := by kernel_rfl
theorem k4e {α : Type} (l : List α) (h : l.length = 8) : ∃ a b c d e f g i, l = [a, b, c, d, e, f, g, i] := by
 match l, h with
 | [a, b, c, d, e, f, g, i], _ => exact ⟨_, _, _, _, _, _, _, _, rfl⟩
theorem z0u {H : Type} {enc : TypeId × Value → H} {w : World} {base : Nat} {sp : Nat → Bool} {held : Bool} {fuel : Nat} {cs : List Value} {x : DataW H × List MemPlace} (h : DataW.trod enc Tryz.prog w base sp held fuel 22 cs = some x) :
 ∃ (A : Option Addr) (c : Nat) (l : List Int), cs = [.slice A l.length c] ∧ l.length ≤ c ∧ Kd.C (Kd.int .i64) w A l.length l :=
 open_slice (Kd.int .i64) Tryz.underlying22 (by kernel_rfl) (fun n c y h => by obtain ⟨m, e⟩ := q7h h; exact ⟨m, e⟩) h
def j0u (w : World) (cs : List Value) : Prop :=
 ∃ (a0 a1 a2 a3 a7 : Int) (A4 : Option Addr) (c4 : Nat) (l4 : List Int) (A5 : Option Addr) (c5 : Nat) (l5 : List Int) (A6 : Option Addr) (c6 : Nat) (l6 : List Int), cs = [.int .i64 a0, .int .i64 a1, .int .i64 a2, .int .i64 a3, .slice A4 l4.length c4, .slice A5 l5.length c5, .slice A6 l6.length c6, .int .i64 a7] ∧
  Kd.C (Kd.int .i64) w A4 l4.length l4 ∧ Kd.C (Kd.int .i64) w A5 l5.length l5 ∧ Kd.C (Kd.int .i64) w A6 l6.length l6
section
variable {H : Type} {enc : TypeId × Value → H} {w : World} {base : Nat} {sp : Nat → Bool} {held : Bool} {fuel : Nat} {cs : List Value} {x : DataW H × List MemPlace}
theorem k1y (h : DataW.trod enc Tryz.prog w base sp held fuel 24 cs = some x) : j0u w cs := by
 obtain ⟨xs, m, rfl, rfl, hlen, hxl, hall⟩ := DataW.trod_struct Tryz.underlying24 h
 rw [c27] at hlen
 obtain ⟨a, b, c, d, e, f, g, i, rfl⟩ := k4e cs hlen
 obtain ⟨x0, x1, x2, x3, x4, x5, x6, x7, rfl⟩ := k4e xs (by simpa using hxl)
 obtain ⟨n0, e0⟩ := q7h (by simpa [c3] using hall 0 _ rfl)
 obtain ⟨n1, e1⟩ := q7h (by simpa [c3] using hall 1 _ rfl)
 obtain ⟨n2, e2⟩ := q7h (by simpa [c3] using hall 2 _ rfl)
 obtain ⟨n3, e3⟩ := q7h (by simpa [c3] using hall 3 _ rfl)
 obtain ⟨A4, k4, l4, e4, g4, h4⟩ := z0u (by simpa [c23] using hall 4 _ rfl)
 obtain ⟨A5, k5, l5, e5, g5, h5⟩ := z0u (by simpa [c23] using hall 5 _ rfl)
 obtain ⟨A6, k6, l6, e6, g6, h6⟩ := z0u (by simpa [c23] using hall 6 _ rfl)
 obtain ⟨n7, e7⟩ := q7h (by simpa [c3] using hall 7 _ rfl)
 refine ⟨n0, n1, n2, n3, n7, A4, k4, l4, A5, k5, l5, A6, k6, l6, ?_, h4, h5, h6⟩
 cases e0; cases e1; cases e2; cases e3; cases e4; cases e5; cases e6; cases e7
 rfl
end
theorem k2r {H : Type} {enc : TypeId × Value → H} {w : World} {b0 : Nat} {r : Reach} {base : Nat} {sp : Nat → Bool} {held : Bool} {v : Value} {d : DataW H} {p : List MemPlace} (hv : Value.okWide Tryz.prog w r b0 24 v) (h : DataW.Trod enc Tryz.prog w base sp held 24 v d p) :
 ∃ cs : List Value, v = .agg cs.toArray ∧ j0u w cs := by
 unfold Value.okWide at hv
 rw [Tryz.underlying24] at hv
 obtain ⟨cs, rfl, _, _⟩ := hv
 obtain ⟨fuel, hf⟩ := h
 exact ⟨cs.toList, by rw [Array.toArray_toList], k1y hf⟩
end Go.Proofs.YtpmcfckechjppaaGreatDoor.LikW
namespace Go.Proofs.YtpmcfckechjppaaGreatDoor.Ps
open Go.RowKit Go.Proofs.YtpmcfckechjppaaGreatDoorW.PrintWords Go.Proofs.YtpmcfckechjppaaGreatDoorW.PrintLast Go.Proofs.YtpmcfckechjppaaGreatDoor.P
def PS (W : World) (g : Nat) (A : Option Addr) (l : List (Int × ByteArray)) : Prop := ∀ i x, l[i]? = some x → ∃ b o, A = some ⟨b, o, none⟩ ∧ b ≠ g ∧ b < W.heap.size ∧ W.cell? ⟨b, o + 2 * i, none⟩ = some (.int .i64 x.1) ∧ W.cell? ⟨b, o + 2 * i + 1, none⟩ = some (.string x.2)
theorem PS.keep {W W1 : World} {g : Nat} {A : Option Addr} {l : List (Int × ByteArray)} (h : PS W g A l) (hk : q0j W W1 g none) : PS W1 g A l := fun i x hx => by
 obtain ⟨b, o, e, n, lt, p0, p1⟩ := h i x hx
 have hb := hk.2 b lt n (by simp)
 exact ⟨b, o, e, n, Nat.lt_of_lt_of_le lt hk.1, (World.cell?_of_block (w := W) (by exact hb)).trans p0, (World.cell?_of_block (w := W) (by exact hb)).trans p1⟩
def rd (A : Option Addr) (n : Nat) (c : Nat) (e : Int) (a b d : ByteArray) : Array Value := #[.slice A n c, .int .i64 e, .string a, .slice none 0 0, .string b, .string d, .slice none 0 0, .slice none 0 0, .slice none 0 0, .string ⟨#[]⟩]
def z1x (k : Nat) : List (Int × ByteArray) → Option ByteArray
 | [] => some ⟨#[]⟩
 | x :: _ => if 8 < x.2.size then some ⟨#[]⟩ else (q1r.f k x.2).bind fun b => some (if b = true then x.2 else ⟨#[]⟩)
theorem z0c (k : Nat) (g : Nat) (A : Option Addr) (c : Nat) (e : Int) (a b d : ByteArray) (l : List (Int × ByteArray)) (w : World) (hR : w.heap[g]? = some (.cells (rd A l.length c e a b d) 87 (0, 0))) (hP : PS w g A l) (r : ByteArray) (hr : z1x k l = some r) :
 Calls Tryz.prog 123 #[.pointer (some ⟨g, 0, none⟩)] w fun e w' => e = .returned (.string r) ∧ q0k w w' := by
 obtain ⟨y0, y1, y2, y3, y4, y5, y6, y7, y8, y9⟩ := z2a hR
 cases l with
 | nil =>
  cases hr
  go_enter Tryz.func123, Tryz.ntmps123
  go_wp2
  go_ret
  exact ⟨rfl, q0k.refl _⟩
 | cons x l =>
  obtain ⟨bk, o, rfl, bg, bl, p0, p1⟩ := hP 0 x rfl
  clear hP hR
  have n0 : (((x :: l).length : Int) == 0) = false := by simp only [List.length_cons]; exact beq_eq_false_iff_ne.2 (by omega)
  have n1 : decide (0 < ((x :: l).length : Int)) = true := by simp only [List.length_cons]; exact decide_eq_true (by omega)
  have n2 : 0 < (x :: l).length := by simp
  generalize (x :: l).length = n at *
  simp only [z1x] at hr
  by_cases h8 : 8 < x.2.size
  · rw [if_pos h8] at hr
    cases hr
    have d8 : decide ((8 : Int) < (x.2.size : Int)) = true := decide_eq_true (by omega)
    go_enter Tryz.func123, Tryz.ntmps123
    go_wp2
    go_ret
    exact ⟨rfl, q0k.refl _⟩
  · rw [if_neg h8] at hr
    obtain ⟨z, hz, hr⟩ := Option.bind_eq_some_iff.1 hr
    cases hr
    have HZ := aq hz
    clear hz
    have d8 : decide ((8 : Int) < (x.2.size : Int)) = false := decide_eq_false (by omega)
    cases z with
    | true =>
     go_enter Tryz.func123, Tryz.ntmps123
     go_wp2_with (first
      | (go_at_call 175; refine (q1r.calls k _ true _ HZ.out).mono ?_; rintro e w' ⟨rfl, ⟨nd, rfl⟩⟩))
     go_ret
     exact ⟨rfl, q0k.step (q0k.refl _) _⟩
    | false =>
     go_enter Tryz.func123, Tryz.ntmps123
     go_wp2_with (first
      | (go_at_call 175; refine (q1r.calls k _ false _ HZ.out).mono ?_; rintro e w' ⟨rfl, ⟨nd, rfl⟩⟩))
     go_ret
     exact ⟨rfl, q0k.step (q0k.refl _) _⟩
theorem k8d (k : Nat) (g : Nat) (A : Option Addr) (c : Nat) (e : Int) (a b d : ByteArray) (x : Int × ByteArray) (l : List (Int × ByteArray)) (w0 w : World) (hB : Below w0.heap.size w0 w) (hg : w0.heap.size ≤ g) (hc : (x :: l).length ≤ c) (hR : w.heap[g]? = some (.cells (rd A (x :: l).length c e a b d) 87 (0, 0))) (hP : PS w g A (x :: l)) (r : ByteArray) (hr : z1x k (x :: l) = some r) :
 Calls Tryz.prog 130 #[.pointer (some ⟨g, 0, none⟩)] w fun e' w' => e' = .returned (.string r) ∧ (∃ A' c', l.length ≤ c' ∧ w'.heap[g]? = some (.cells (rd A' l.length c' e a b d) 87 (0, 0)) ∧ PS w' g A' l) ∧ Below w0.heap.size w0 w' ∧ q0j w w' g none := by
 obtain ⟨y0, y1, y2, y3, y4, y5, y6, y7, y8, y9⟩ := z2a hR
 obtain ⟨f0, -⟩ := v0i hR
 have HR := aq hR
 have HP := aq hP
 have HH := aq hr
 have HB := aq hB
 have hl : (x :: l).length = l.length + 1 := rfl
 have hq : l.length + 1 ≤ c := hc
 obtain ⟨bk, o, rfl, bg, bl, p0, p1⟩ := hP 0 x rfl
 clear hP hR hr hB hc p0 p1
 rw [hl] at y0
 go_enter Tryz.func130, Tryz.ntmps130
 go_wp2_with (first
  | (go_at_call 123; refine (z0c k g _ c e a b d (x :: l) _ HR.out HP.out r HH.out).mono ?_; rintro e w' ⟨rfl, ⟨nd, rfl⟩⟩))
 · have h0 : l = [] := List.eq_nil_of_length_eq_zero (by omega)
   subst h0
   go_ret
   exact ⟨rfl, ⟨_, _, by simp, q0l (w := w.drewN nd) HR.out 0 _ rfl, fun i x hx => by simp at hx⟩, q0r (q0d HB.out _) hg, (q0i (q0j.refl w g none) nd).q8c 0 _⟩
 · go_ret
   refine ⟨rfl, ⟨_, _, by omega, q0l (w := w.drewN nd) HR.out 0 _ rfl, fun i y hy => ?_⟩, q0r (q0d HB.out _) hg, (q0i (q0j.refl w g none) nd).q8c 0 _⟩
   obtain ⟨b', o', e', n', lt', p0, p1⟩ := (HP.out.keep ((q0i (q0j.refl w g none) nd).q8c 0 _)) (i + 1) y hy
   cases e'
   exact ⟨_, _, rfl, n', lt', by rw [show o + 2 + 2 * i = o + 2 * (i + 1) by omega]; exact p0, by rw [show o + 2 + 2 * i + 1 = o + 2 * (i + 1) + 1 by omega]; exact p1⟩
theorem toList_inj {a b : ByteArray} (h : a.toList = b.toList) : a = b := by
 rw [ByteArray.toList_eq, ByteArray.toList_eq] at h
 exact ByteArray.ext (Array.toList_inj.1 h)
theorem full {r : ByteArray} (h : r ≠ ⟨#[]⟩) : r.toList.isEmpty = false := by
 cases e : r.toList.isEmpty with
 | false => rfl
 | true => exact absurd (toList_inj ((List.isEmpty_iff.1 e).trans (by rw [ByteArray.toList_eq] : ([] : List UInt8) = (⟨#[]⟩ : ByteArray).toList))) h
def v6k (F : FuncId) (f : ByteArray → Option Bool) : Prop := Go.Proofs.Enters Tryz.prog F ∧ ∀ s z w, f s = some z → Calls Tryz.prog F #[.string s] w fun e w' => e = .returned (.bool z) ∧ q0k w w'
theorem k4g (k : Nat) (F : FuncId) (f : ByteArray → Option Bool) (hF : v6k F f) (g : Nat) (A : Option Addr) (c : Nat) (e : Int) (a b d : ByteArray) (l : List (Int × ByteArray)) (w : World) (hR : w.heap[g]? = some (.cells (rd A l.length c e a b d) 87 (0, 0))) (hP : PS w g A l) (r : ByteArray) (hr : z1x k l = some r) (hn : r = ⟨#[]⟩ ∨ f r = some false) :
 Calls Tryz.prog 125 #[.pointer (some ⟨g, 0, none⟩), .func (.func F) #[] #[]] w fun e w' => e = .returned (.string ⟨#[]⟩) ∧ q0k w w' := by
 have HR := aq hR
 have HP := aq hP
 have HH := aq hr
 obtain ⟨eF, hF⟩ := hF
 unfold Go.Proofs.Enters at eF
 clear hP hR hr
 by_cases h0 : r = ⟨#[]⟩
 · subst h0
   go_enter Tryz.func125, Tryz.ntmps125
   go_wp2_with (first
    | (go_at_call 123; refine (z0c k g _ c e a b d l _ (by exact HR.out) (by exact HP.out) _ HH.out).mono ?_; rintro e w' ⟨rfl, ⟨nd, rfl⟩⟩))
   go_ret
   exact ⟨rfl, q0k.step (q0k.refl _) _⟩
 · have hf := hn.resolve_left h0
   have q0 := full h0
   have HF := aq hf
   clear hf hn
   go_enter Tryz.func125, Tryz.ntmps125
   go_wp2_with (first
    | (go_at_call 123; refine (z0c k g _ c e a b d l _ (by exact HR.out) (by exact HP.out) _ HH.out).mono ?_; rintro e w' ⟨rfl, ⟨nd, rfl⟩⟩)
    | (refine (hF _ _ _ HF.out).mono ?_; rintro e w' ⟨rfl, ⟨nd, rfl⟩⟩))
   go_ret
   exact ⟨rfl, q0k.step (q0k.refl _) _⟩
theorem v9k (k : Nat) (F : FuncId) (f : ByteArray → Option Bool) (hF : v6k F f) (g : Nat) (A : Option Addr) (c : Nat) (e : Int) (a b d : ByteArray) (x : Int × ByteArray) (l : List (Int × ByteArray)) (w0 w : World) (hB : Below w0.heap.size w0 w) (hg : w0.heap.size ≤ g) (hc : (x :: l).length ≤ c) (hR : w.heap[g]? = some (.cells (rd A (x :: l).length c e a b d) 87 (0, 0))) (hP : PS w g A (x :: l)) (r : ByteArray) (hr : z1x k (x :: l) = some r) (h0 : r ≠ ⟨#[]⟩) (hf : f r = some true) :
 Calls Tryz.prog 125 #[.pointer (some ⟨g, 0, none⟩), .func (.func F) #[] #[]] w fun e' w' => e' = .returned (.string r) ∧ (∃ A' c', l.length ≤ c' ∧ w'.heap[g]? = some (.cells (rd A' l.length c' e a b d) 87 (0, 0)) ∧ PS w' g A' l) ∧ Below w0.heap.size w0 w' ∧ q0j w w' g none := by
 have HR := aq hR
 have HP := aq hP
 have HH := aq hr
 have HB := aq hB
 have HF := aq hf
 have HC := aq hc
 obtain ⟨eF, hF⟩ := hF
 unfold Go.Proofs.Enters at eF
 have q0 := full h0
 clear hP hR hr hB hf hc
 go_enter Tryz.func125, Tryz.ntmps125
 go_wp2_with (first
  | (go_at_call 123; refine (z0c k g _ c e a b d (x :: l) _ (by exact HR.out) (by exact HP.out) _ HH.out).mono ?_; rintro e w' ⟨rfl, ⟨nd, rfl⟩⟩)
  | (go_at_call 130; refine (k8d k g _ c e a b d x l w0 _ (by exact q0d HB.out _) hg HC.out (by exact HR.out) (by exact HP.out) _ HH.out).mono ?_; rintro e w' ⟨rfl, h1, h2, h3⟩; have H1 := aq h1; have H2 := aq h2; have H3 := aq h3; clear h1 h2 h3)
  | (refine (hF _ _ _ HF.out).mono ?_; rintro e w' ⟨rfl, ⟨nd, rfl⟩⟩))
 go_ret
 exact ⟨rfl, H1.out, H2.out, (q0i (q0j.refl w g none) _).trans H3.out (.inl rfl)⟩
theorem v4q (k : Nat) : v6k 176 (q2r.f k) := ⟨enters_of Tryz.func176 (by kernel_rfl) rfl, fun s z w h => q2r.calls k s z w h⟩
theorem z9u (k : Nat) : v6k 126 (q4e.f k) := ⟨enters_of Tryz.func126 (by kernel_rfl) rfl, fun s z w h => q4e.calls k s z w h⟩
theorem z8f (k : Nat) : v6k 127 (q4f.f k) := ⟨enters_of Tryz.func127 (by kernel_rfl) rfl, fun s z w h => q4f.calls k s z w h⟩
def Left (w0 w w' : World) (g : Nat) (e : Int) (a b d : ByteArray) (l : List (Int × ByteArray)) : Prop := (∃ A' c', l.length ≤ c' ∧ w'.heap[g]? = some (.cells (rd A' l.length c' e a b d) 87 (0, 0)) ∧ PS w' g A' l) ∧ Below w0.heap.size w0 w' ∧ q0j w w' g none
theorem v4k (k : Nat) (g : Nat) (A : Option Addr) (c : Nat) (e : Int) (b d : ByteArray) (x : Int × ByteArray) (l : List (Int × ByteArray)) (w0 w : World) (hB : Below w0.heap.size w0 w) (hg : w0.heap.size ≤ g) (hc : (x :: l).length ≤ c) (hR : w.heap[g]? = some (.cells (rd A (x :: l).length c e ⟨#[]⟩ b d) 87 (0, 0))) (hP : PS w g A (x :: l)) (r : ByteArray) (hr : z1x k (x :: l) = some r) (h0 : r ≠ ⟨#[]⟩) (hf : q2r.f k r = some true) (hs : r.size = 2 ∨ r.size = 3) (r2 : ByteArray) (hr2 : z1x k l = some r2) (he : q3m.f k r2 = some false) :
 Calls Tryz.prog 124 #[.pointer (some ⟨g, 0, none⟩)] w fun e' w' => e' = .returned (.tuple #[]) ∧ Left w0 w w' g e r b d l := by
 have HR := aq hR
 have HP := aq hP
 have HH := aq hr
 have HH2 := aq hr2
 have HB := aq hB
 have HF := aq hf
 have HE := aq he
 have HC := aq hc
 have q0 := full h0
 have hz : (((r.size : Int) == 2) = true) ∨ (((r.size : Int) == 2) = false ∧ ((r.size : Int) == 3) = true) := by
  rcases hs with hs | hs
  · exact .inl (by rw [hs]; rfl)
  · exact .inr (by rw [hs]; exact ⟨rfl, rfl⟩)
 clear hP hR hr hB hf hc hr2 he hs
 rcases hz with hz | ⟨hz, hz3⟩
 all_goals
  go_enter Tryz.func124, Tryz.ntmps124
  go_wp2_with (first
   | (go_at_call 125; refine (v9k k _ _ (v4q k) g _ c e _ b d x l w0 _ (by exact HB.out) hg HC.out (by exact HR.out) (by exact HP.out) _ HH.out h0 HF.out).mono ?_; rintro e w1 ⟨rfl, ⟨A1, c1, h1, h2, h3⟩, h4, h5⟩; obtain ⟨y0, y1, y2, y3, y4, y5, y6, y7, y8, y9⟩ := z2a h2; obtain ⟨f0, f1, f2, -⟩ := v0i h2; have HR1 := aq h2; have HP1 := aq h3; have HB1 := aq h4; have HK1 := aq h5; clear h2 h3 h4 h5))
  refine wp_loop_once ?_
  go_wp2_with (first
   | (go_at_call 123; refine (z0c k g _ c1 _ r b d l _ (by exact q0l HR1.out 2 _ rfl) (by exact HP1.out.keep ((q0j.refl w1 g none).q8c 2 _)) r2 HH2.out).mono ?_; rintro e w2 ⟨rfl, ⟨nd, rfl⟩⟩)
   | (go_at_call 177; refine (q3m.calls k _ false _ HE.out).mono ?_; rintro e w2 ⟨rfl, ⟨nd, rfl⟩⟩))
  go_end0
  exact ⟨rfl, ⟨A1, c1, h1, q0l HR1.out 2 _ rfl, HP1.out.keep (q0i ((q0j.refl w1 g none).q8c 2 _) _)⟩, q0d (q0r HB1.out hg) _, HK1.out.trans (q0i ((q0j.refl w1 g none).q8c 2 _) _) (.inl rfl)⟩
theorem PS.nil (W : World) (g : Nat) (A : Option Addr) : PS W g A [] := fun i x hx => by simp at hx
theorem v4m (g : Nat) (A : Option Addr) (c : Nat) (e : Int) (a b d : ByteArray) (w : World) (hR : w.heap[g]? = some (.cells (rd A 0 c e a b d) 87 (0, 0))) :
 Calls Tryz.prog 128 #[.pointer (some ⟨g, 0, none⟩)] w fun e' w' => e' = .returned (.tuple #[]) ∧ q0k w w' := by
 have HR := aq hR
 clear hR
 go_enter Tryz.func128, Tryz.ntmps128
 refine wp_block ?_
 refine wp_loop_once ?_
 go_wp2_with (first
  | (go_at_call 123; refine (z0c 0 g _ c _ _ _ _ [] _ (by exact HR.out) (PS.nil _ _ _) ⟨#[]⟩ rfl).mono ?_; rintro e w2 ⟨rfl, ⟨nd, rfl⟩⟩))
 go_end0
 exact ⟨rfl, q0k.step (q0k.refl _) _⟩
theorem z8z (g : Nat) (A : Option Addr) (c : Nat) (e : Int) (a b d : ByteArray) (w : World) (hR : w.heap[g]? = some (.cells (rd A 0 c e a b d) 87 (0, 0))) :
 Calls Tryz.prog 129 #[.pointer (some ⟨g, 0, none⟩)] w fun e' w' => e' = .returned (.tuple #[]) ∧ Below w.heap.size w w' := by
 have HR := aq hR
 clear hR
 go_enter Tryz.func129, Tryz.ntmps129
 go_wp2
 refine wp_loop_once ?_
 go_wp2_with (first
  | (go_at_call 123; refine (z0c 0 g _ c _ _ _ _ [] _ (by exact bx HR.out) (PS.nil _ _ _) ⟨#[]⟩ rfl).mono ?_; rintro e w2 ⟨rfl, ⟨nd, rfl⟩⟩))
 go_end0
 exact ⟨rfl, q0d (q0b (Below.refl _ _) _) _⟩
def k8c (k : Nat) (f : ByteArray → Option Bool) (l : List (Int × ByteArray)) : Option (ByteArray × List (Int × ByteArray)) := (z1x k l).bind fun r => if r.toList.isEmpty = true then some (⟨#[]⟩, l) else (f r).bind fun z => if z = true then some (r, l.tail) else some (⟨#[]⟩, l)
theorem k9s (k : Nat) (F : FuncId) (f : ByteArray → Option Bool) (hF : v6k F f) (g : Nat) (A : Option Addr) (c : Nat) (e : Int) (a b d : ByteArray) (l l' : List (Int × ByteArray)) (r : ByteArray) (w0 w : World) (hB : Below w0.heap.size w0 w) (hg : w0.heap.size ≤ g) (hc : l.length ≤ c) (hR : w.heap[g]? = some (.cells (rd A l.length c e a b d) 87 (0, 0))) (hP : PS w g A l) (h : k8c k f l = some (r, l')) :
 Calls Tryz.prog 125 #[.pointer (some ⟨g, 0, none⟩), .func (.func F) #[] #[]] w fun e' w' => e' = .returned (.string r) ∧ Left w0 w w' g e a b d l' := by
 have no : ∀ w', q0k w w' → Left w0 w w' g e a b d l := fun w' hd => by
  obtain ⟨nd, rfl⟩ := hd
  exact ⟨⟨A, c, hc, hR, hP.keep (q0i (q0j.refl w g none) nd)⟩, q0d hB _, q0i (q0j.refl w g none) nd⟩
 unfold k8c at h
 obtain ⟨q, hq, h⟩ := Option.bind_eq_some_iff.1 h
 by_cases h0 : q = ⟨#[]⟩
 · subst h0
   rw [if_pos (by rw [ByteArray.toList_eq]; rfl)] at h
   cases h
   exact (k4g k F f hF g A c e a b d l w hR hP _ hq (.inl rfl)).mono fun e' w' ⟨h1, h2⟩ => ⟨h1, no w' h2⟩
 · rw [if_neg (by rw [full h0]; decide)] at h
   obtain ⟨z, hz, h⟩ := Option.bind_eq_some_iff.1 h
   cases z with
   | false =>
    cases h
    exact (k4g k F f hF g A c e a b d l w hR hP _ hq (.inr hz)).mono fun e' w' ⟨h1, h2⟩ => ⟨h1, no w' h2⟩
   | true =>
    cases h
    cases l with
    | nil => cases hq; exact absurd rfl h0
    | cons x l => exact v9k k F f hF g A c e a b d x l w0 w hB hg hc hR hP r hq h0 hz
theorem j1c (k : Nat) (g : Nat) (A : Option Addr) (c : Nat) (e : Int) (x : Int × ByteArray) (l l2 : List (Int × ByteArray)) (w0 w : World) (hB : Below w0.heap.size w0 w) (hg : w0.heap.size ≤ g) (hc : (x :: l).length ≤ c) (hR : w.heap[g]? = some (.cells (rd A (x :: l).length c e ⟨#[]⟩ ⟨#[]⟩ ⟨#[]⟩) 87 (0, 0))) (hP : PS w g A (x :: l)) (r : ByteArray) (hr : z1x k (x :: l) = some r) (h0 : r ≠ ⟨#[]⟩) (hx : r ≠ ⟨#[120]⟩) (hf : q2r.f k r = some true) (hs : r.size = 2 ∨ r.size = 3) (r2 : ByteArray) (hr2 : z1x k l = some r2) (he : q3m.f k r2 = some false)
 (s y : ByteArray) (h1 : k8c k (q4e.f k) l = some (s, l2)) (h2 : k8c k (q4f.f k) l2 = some (y, [])) :
 Calls Tryz.prog 65 #[.pointer (some ⟨g, 0, none⟩)] w fun e' w' => e' = .returned (.tuple #[]) ∧ Left w0 w w' g e r s y [] := by
 have HR := aq hR
 have HP := aq hP
 have HH := aq hr
 have HH2 := aq hr2
 have HB := aq hB
 have HF := aq hf
 have HE := aq he
 have HC := aq hc
 have HS := aq hs
 have H1 := aq h1
 have H2 := aq h2
 clear hP hR hr hB hf hc hr2 he hs h1 h2
 have q1 : (r.toList == [120]) = false := beq_eq_false_iff_ne.2 fun e => hx (toList_inj (e.trans (by rw [ByteArray.toList_eq])))
 go_enter Tryz.func65, Tryz.ntmps65
 go_wp2_with (first
  | (go_at_call 123; refine (z0c k g _ c _ _ _ _ (x :: l) _ (by exact HR.out) (by exact HP.out) _ HH.out).mono ?_; rintro e w2 ⟨rfl, ⟨nd, rfl⟩⟩)
  | (go_at_call 124; refine (v4k k g _ c e _ _ x l w0 _ (by exact q0d HB.out _) hg HC.out (by exact HR.out) (by exact HP.out) r HH.out h0 HF.out HS.out r2 HH2.out HE.out).mono ?_; rintro e w1 ⟨rfl, ⟨A1, c1, g1, g2, g3⟩, g4, g5⟩; have K1 := aq g2; have P1 := aq g3; have B1 := aq g4; have N1 := aq ((q0i (q0j.refl w g none) _).trans g5 (.inl rfl)); clear g2 g3 g4 g5 HR HP HB q1)
  | (go_at_call 125; refine (k9s k _ _ (z9u k) g A1 c1 e _ _ _ l l2 s w0 w1 B1.out hg g1 K1.out P1.out H1.out).mono ?_; rintro e w2 ⟨rfl, ⟨A2, c2, g1', g2, g3⟩, g4, g5⟩; obtain ⟨-, -, -, -, f4, -⟩ := v0i g2; obtain ⟨-, -, -, -, y4, -⟩ := z2a g2; have K2 := aq (q0l g2 4 (.string s) rfl); have P2 := aq (g3.keep ((q0j.refl w2 g none).q8c 4 (.string s))); have B2 := aq (q0r (j := 4) (v := .string s) g4 hg); have N2 := aq (N1.out.trans (g5.trans ((q0j.refl w2 g none).q8c 4 (.string s)) (.inl rfl)) (.inl rfl)); clear g2 g3 g4 g5 K1 P1 B1 N1)
  | (go_at_call 125; refine (k9s k _ _ (z8f k) g A2 c2 e _ _ _ l2 [] y w0 (w2.setCell ⟨g, 4, none⟩ (.string s)) B2.out hg g1' K2.out P2.out H2.out).mono ?_; rintro e w3 ⟨rfl, ⟨A3, c3, -, g2, -⟩, g4, g5⟩; obtain ⟨-, -, -, -, -, f5, -⟩ := v0i g2; obtain ⟨y0, -, -, -, -, y5, -⟩ := z2a g2; have K3 := aq (q0l g2 5 (.string y) rfl); have B3 := aq (q0r (j := 5) (v := .string y) g4 hg); have N3 := aq (N2.out.trans (g5.trans ((q0j.refl w3 g none).q8c 5 (.string y)) (.inl rfl)) (.inl rfl)); clear g2 g4 g5 K2 P2 B2 N2 y4 f4)
  | (go_at_call 128; refine (v4m g A3 c3 e _ _ _ (w3.setCell ⟨g, 5, none⟩ (.string y)) K3.out).mono ?_; rintro e w4 ⟨rfl, ⟨nd, rfl⟩⟩)
  | (go_at_call 129; refine (z8z g A3 c3 e _ _ _ _ (by exact K3.out)).mono ?_; rintro e w5 ⟨rfl, hb⟩; have K5 := aq ((hb.block g (Array.getElem?_eq_some_iff.1 K3.out).1).trans K3.out); have B5 := aq ((q0d B3.out nd).trans (hb.mono (q0d B3.out nd).size)); have N5 := aq (N3.out.trans (q0j.of_below (q0d (Below.refl _ _) nd |>.trans hb) g none) (.inl rfl)); obtain ⟨z0, -⟩ := z2a K5.out; clear hb)
  | (go_at_call 123; refine (z0c k g _ c3 _ _ _ _ [] _ (by exact K5.out) (PS.nil _ _ _) ⟨#[]⟩ rfl).mono ?_; rintro e w6 ⟨rfl, ⟨nd, rfl⟩⟩))
 go_end0
 exact ⟨rfl, ⟨A3, c3, Nat.zero_le _, K5.out, PS.nil _ _ _⟩, q0d B5.out _, N5.out.trans (q0i (q0j.refl w5 g none) _) (.inl rfl)⟩
end Go.Proofs.YtpmcfckechjppaaGreatDoor.Ps
