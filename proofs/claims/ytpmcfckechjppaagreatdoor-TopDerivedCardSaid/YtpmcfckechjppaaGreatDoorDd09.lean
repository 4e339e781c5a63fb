/- Made by a program of this seat's own (shake.py, merge.py): what the claim leans on: Rd6, Rd7, Twice. -/
import Derived.Test.YtpmcfckechjppaaGreatDoorDd08
import Derived.Deep.CutRange
import Derived.Deep.CutBlock
import Derived.Deep.DeepCutAuto
set_option linter.unusedVariables false
set_option linter.unusedSimpArgs false
set_option maxRecDepth 100000
set_option maxHeartbeats 8000000
namespace Go.Proofs.YtpmcfckechjppaaGreatDoor.Ps
open Go.RowKit Go.Shelf Go.Proofs.YtpmcfckechjppaaGreatDoorW.PrintWords Go.Proofs.YtpmcfckechjppaaGreatDoorW.PrintLast Go.Proofs.YtpmcfckechjppaaGreatDoorW.PrintMore Go.Proofs.YtpmcfckechjppaaGreatDoor.P Go.Proofs.YtpmcfckechjppaaGreatDoor.LikW
attribute [local go_sem] Oper.semAt_some
def q5k (xs : List (ByteArray × Value × List ByteArray)) : List Value := xs.flatMap fun x => [.string x.1, x.2.1]
def q8j (W : World) (base : Nat) (v : Value) (xs : List (ByteArray × Value × List ByteArray)) : Prop := W.ownsRow base 65 2 v xs.length (q5k xs) ∧ ∀ x ∈ xs, Own W base x.2.1 x.2.2
theorem q8j.below {W W1 : World} {base : Nat} {v : Value} {xs : List (ByteArray × Value × List ByteArray)} (h : q8j W base v xs) (hb : Below W.heap.size W W1) : q8j W1 base v xs := ⟨q1o h.1 hb, fun x hx => q1o (h.2 x hx) hb⟩
theorem q8j.keep {W W1 : World} {base g : Nat} {v : Value} {xs : List (ByteArray × Value × List ByteArray)} {cs : Array Value} (h : q8j W base v xs) (hR : W.heap[g]? = some (.cells cs TR (0, 0))) (hk : q0j W W1 g none) : q8j W1 base v xs := ⟨z2k h.1 hR (by decide) hk, fun x hx => z2k (h.2 x hx) hR (by decide) hk⟩
theorem z9c : ∀ (m : List (ByteArray × Value × List ByteArray)) (i : Nat) (x : ByteArray × Value × List ByteArray), m[i]? = some x → (q5k m)[2 * i]? = some (.string x.1) ∧ (q5k m)[2 * i + 1]? = some x.2.1
 | [], i, x, h => by simp at h
 | y :: m, 0, x, h => by
  simp only [List.getElem?_cons_zero, Option.some.injEq] at h
  subst h
  exact ⟨rfl, rfl⟩
 | y :: m, i + 1, x, h => by
  obtain ⟨h1, h2⟩ := z9c m i x h
  exact ⟨h1, h2⟩
theorem z1i {W : World} {base : Nat} {A : Option Addr} {c : Nat} {xs : List (ByteArray × Value × List ByteArray)} (h : W.ownsRow base 65 2 (.slice A xs.length c) xs.length (q5k xs)) : xs = [] ∨ ∃ b, A = some ⟨b, 0, none⟩ ∧ b < W.heap.size ∧ xs.length ≤ c ∧ ∀ i x, xs[i]? = some x → W.cell? ⟨b, 2 * i, none⟩ = some (.string x.1) ∧ W.cell? ⟨b, 2 * i + 1, none⟩ = some x.2.1 := by
 obtain ⟨hl, ⟨e, e0⟩ | ⟨g, cap, cur, e, h1, h2, h3, h4, h5, h6⟩⟩ := h
 · exact .inl (List.eq_nil_of_length_eq_zero e0)
 · cases e
   refine .inr ⟨g, rfl, (Array.getElem?_eq_some_iff.1 h2).1, h3, fun i x hx => ?_⟩
   obtain ⟨q1, q2⟩ := z9c xs i x hx
   have hi := (List.getElem?_eq_some_iff.1 hx).1
   rw [← h6, List.getElem?_take, if_pos (by omega), Array.getElem?_toList] at q1 q2
   exact ⟨(q0a h2 _).trans q1, (q0a h2 _).trans q2⟩
theorem z6g (a b : ByteArray) : (a.toList == b.toList) = decide (a = b) := by
 rw [Bool.eq_iff_iff, beq_iff_eq, decide_eq_true_iff]
 exact ⟨fun h => toList_inj h, fun h => by rw [h]⟩
theorem k9l (bx g : Nat) (A : Option Addr) (c : Nat) (e : Int) (s : RS) (l : List Pc) (k : ByteArray) (v : Value) (w : World) (hx : w.heap[bx]? = some (.cells #[.pointer (some ⟨g, 0, none⟩)] 84 (0, 0))) (hR : w.heap[g]? = some (RB s A l.length c e)) (hP : PG w A l) :
 Calls Tryz.prog 185 #[.agg #[.string k, v], .pointer (some ⟨bx, 0, none⟩)] w fun e' w' => e' = .returned (.bool (decide (k = q3s l))) ∧ Below w.heap.size w w' := by
 have KE : q0c ((w.alloc (.cells #[.string k, v] 65)).heap[w.heap.size]? = some (.cells #[.string k, v] 65 (0, 0))) := ⟨aZ rfl⟩
 have KX : q0c ((w.alloc (.cells #[.string k, v] 65)).heap[bx]? = some (.cells #[.pointer (some ⟨g, 0, none⟩)] 84 (0, 0))) := ⟨aN hx⟩
 have HR : q0c ((w.alloc (.cells #[.string k, v] 65)).heap[g]? = some (RB s A l.length c e)) := ⟨aN hR⟩
 have HP : q0c (PG (w.alloc (.cells #[.string k, v] 65)) A l) := ⟨hP.move fun b cs hb => (aN hb).trans hb.symm⟩
 have HB : q0c (Below w.heap.size w (w.alloc (.cells #[.string k, v] 65))) := ⟨q0b (Below.refl _ _) _⟩
 have hk := z6g k (q3s l)
 have HKK := aq hk
 clear hx hR hP hk
 go_enter Tryz.func185, Tryz.ntmps185
 go_wp2
 refine q2w (n := 6) (S := fun w' => w'.cell? ⟨w.heap.size, 0, none⟩ = some (.string k) ∧ w'.cell? ⟨bx, 0, none⟩ = some (.pointer (some ⟨g, 0, none⟩))) (ds := []) (M 6 0) (by kernel_rfl) rfl rfl ⟨(q0a KE.out 0).trans rfl, (q0a KX.out 0).trans rfl⟩ (fun hHeld => ?_)
 obtain ⟨W1, hW1⟩ : ∃ W1, W1 = (w.alloc (.cells #[.string k, v] 65)).drew := ⟨_, rfl⟩
 rw [← hW1] at hHeld ⊢
 replace KE : q0c (W1.heap[w.heap.size]? = some (.cells #[.string k, v] 65 (0, 0))) := by rw [hW1]; exact KE
 replace KX : q0c (W1.heap[bx]? = some (.cells #[.pointer (some ⟨g, 0, none⟩)] 84 (0, 0))) := by rw [hW1]; exact KX
 replace HR : q0c (W1.heap[g]? = some (RB s A l.length c e)) := by rw [hW1]; exact HR
 replace HP : q0c (PG W1 A l) := by rw [hW1]; exact HP
 replace HB : q0c (Below w.heap.size w W1) := by rw [hW1]; exact ⟨q0m HB.out⟩
 clear hW1
 refine pw 0 4 (M 6 1) ?_
 refine tw 1 5 (M 6 3) hHeld ?_
 refine tw 2 6 (M 6 7) hHeld ?_
 refine ow 3 (some 7) (M 6 15) fun K hK => ?_
 refine gow Tryz.func123 #[.pointer (some ⟨g, 0, none⟩)] ?_
 refine (q2s g _ c e s l _ HR.out HP.out).mono ?_
 rintro e3 W2 ⟨rfl, ⟨nd, rfl⟩⟩
 refine ⟨_, rfl, ?_⟩
 refine hK.out _ _ ⟨(q0a KE.out 0).trans rfl, (q0a KX.out 0).trans rfl⟩ (fun hHeld => ?_)
 clear hK K
 refine nw 7 ?_
 refine pw 4 8 (M 6 31) ?_
 refine pw 5 3 (M 6 63) ?_
 refine q4t (by kernel_rfl) ?_
 go_wp2
 go_ret
 exact ⟨by rw [← HKK.out]; rfl, q0d HB.out _⟩
theorem k2b (p : ByteArray → Bool) (xs : List (ByteArray × Value × List ByteArray)) (i : Nat) (x : ByteArray × Value × List ByteArray) (h : xs[i]? = some x) (hn : (xs.take i).any (fun y => p y.1) = false) : (p x.1 = false → (xs.take (i + 1)).any (fun y => p y.1) = false) ∧ (p x.1 = true → xs.any (fun y => p y.1) = true) := by
 constructor
 · intro hp
   rw [List.take_add_one, h, Option.toList_some, List.any_append, hn]
   simp [hp]
 · intro hp
   rw [List.any_eq_true]
   exact ⟨x, List.mem_of_getElem? h, hp⟩
theorem k2t (bx g : Nat) (A : Option Addr) (c : Nat) (e : Int) (s : RS) (l : List Pc) (xs : List (ByteArray × Value × List ByteArray)) (V : Option Addr) (d base : Nat) (w : World) (hx : w.heap[bx]? = some (.cells #[.pointer (some ⟨g, 0, none⟩)] 84 (0, 0))) (hR : w.heap[g]? = some (RB s A l.length c e)) (hP : PG w A l) (hO : w.ownsRow base 65 2 (.slice V xs.length d) xs.length (q5k xs)) (hl : xs.length ≤ 1000000) :
 Calls Tryz.prog 226 #[.slice V xs.length d, .func (.func 185) #[] #[.pointer (some ⟨bx, 0, none⟩)]] w fun e' w' => (∃ i : Int, e' = .returned (.int .i64 i) ∧ decide (0 ≤ i) = xs.any (fun y => decide (y.1 = q3s l))) ∧ Below w.heap.size w w' := by
 have hut := Tryz.underlying65
 have eF : ∀ args W, (callFunc 185 args).run Tryz.prog W = .ok (.enter 185 args) W := enters_of Tryz.func185 (by kernel_rfl) rfl
 have HX := aq hx
 have HR := aq hR
 have HP := aq hP
 have hcell := z1i hO
 have HC := aq hcell
 have HL := aq hl
 clear hx hR hP hO hcell hl
 go_enter Tryz.func226, Tryz.ntmps226
 go_wp2
 go_loopw [8] (fun vi wr => ∃ (i : Nat), vi = .int .i64 (i : Int) ∧ i ≤ xs.length ∧ q0c (Below w.heap.size w wr) ∧ q0c ((xs.take i).any (fun y => decide (y.1 = q3s l)) = false)) (fun vi _ => xs.length - (intOf vi).toNat)
 case atStart => exact ⟨0, rfl, Nat.zero_le _, ⟨Below.refl _ _⟩, ⟨rfl⟩⟩
 case round =>
  obtain ⟨i, rfl, hi, HB, HN⟩ := hrel
  by_cases hlt : i < xs.length
  · have d1 : decide ((i : Int) < (xs.length : Int)) = true := decide_eq_true (by omega)
    have m0 : (0 : Int) ≤ (i : Int) := by omega
    have m1 : (i : Int) < (xs.length : Int) := by omega
    have wi : wrap64 ((i : Int) + 1) = ((i + 1 : Nat) : Int) := by unfold wrap64; have := HL.out; omega
    obtain ⟨x, hx⟩ : ∃ x, xs[i]? = some x := ⟨_, List.getElem?_eq_getElem hlt⟩
    obtain ⟨bk, rfl, hbk, hdc, hcc⟩ := HC.out.resolve_left (fun h => by rw [h] at hlt; simp at hlt)
    obtain ⟨q1, q2⟩ := hcc i x hx
    have r1 := (HB.out.cell (World.block_lt_of_cell? w _ q1)).trans q1
    have r2 := (HB.out.cell (World.block_lt_of_cell? w _ q2)).trans q2
    rw [show 2 * i = i * 2 by omega] at r1 r2
    obtain ⟨f1, f2⟩ := k2b (fun y => decide (y = q3s l)) xs i x hx HN.out
    have hc1 := fun W hb => k9l bx g A c e s l x.1 x.2.1 W (hx := hb)
    have HC1 := aq hc1
    have HRr := kb HR HB.out
    have HXr := kb HX HB.out
    have HPr := aq (HP.out.move fun b cs hb => HB.out.block b (Array.getElem?_eq_some_iff.1 hb).1)
    clear hx hcc q1 q2 hc1 HN
    cases hd : decide (x.1 = q3s l) with
    | false =>
     have HN2 := aq (f1 hd)
     clear f1 f2
     go_wp2_with (first
      | (refine (HC1.out _ HXr.out HRr.out HPr.out).mono ?_; rintro e3 w3 ⟨rfl, hb⟩; rw [hd]; replace HB := bb HB hb; clear hb r1 r2))
     go_roundw
     case rel => exact ⟨i + 1, by rw [wi], by omega, HB, HN2⟩
     case measure => rw [wi]; simp [intOf]; omega
    | true =>
     have HN2 := aq (f2 hd)
     clear f1 f2
     go_wp2_with (first
      | (refine (HC1.out _ HXr.out HRr.out HPr.out).mono ?_; rintro e3 w3 ⟨rfl, hb⟩; rw [hd]; replace HB := bb HB hb; clear hb r1 r2))
     go_ret
     exact ⟨⟨(i : Int), rfl, by rw [HN2.out]; exact decide_eq_true m0⟩, HB.out⟩
  · obtain rfl : i = xs.length := by omega
    have d1 : decide ((xs.length : Int) < (xs.length : Int)) = false := decide_eq_false (by omega)
    have hn := HN.out
    rw [List.take_length] at hn
    have HN2 := aq hn
    clear hn HN
    go_wp2
    go_ret
    exact ⟨⟨-1, rfl, by rw [HN2.out]; rfl⟩, HB.out⟩
theorem z3b (bx g : Nat) (A : Option Addr) (c : Nat) (e : Int) (s : RS) (l : List Pc) (xs : List (ByteArray × Value × List ByteArray)) (V : Option Addr) (d base : Nat) (w : World) (hx : w.heap[bx]? = some (.cells #[.pointer (some ⟨g, 0, none⟩)] 84 (0, 0))) (hR : w.heap[g]? = some (RB s A l.length c e)) (hP : PG w A l) (hO : w.ownsRow base 65 2 (.slice V xs.length d) xs.length (q5k xs)) (hl : xs.length ≤ 1000000) :
 Calls Tryz.prog 184 #[.slice V xs.length d, .func (.func 185) #[] #[.pointer (some ⟨bx, 0, none⟩)]] w fun e' w' => e' = .returned (.bool (xs.any (fun y => decide (y.1 = q3s l)))) ∧ Below w.heap.size w w' := by
 have HC := aq (k2t bx g A c e s l xs V d base w hx hR hP hO hl)
 clear hx hR hP hO hl
 go_enter Tryz.func184, Tryz.ntmps184
 go_wp2_with (first
  | (go_at_call 226; refine (by exact HC.out : Calls _ _ _ _ _).mono ?_; rintro e3 w3 ⟨⟨i, rfl, hi⟩, hb⟩))
 go_ret
 exact ⟨by rw [← hi]; rfl, hb⟩
theorem v0r (m : List (ByteArray × Value × List ByteArray)) (x : ByteArray × Value × List ByteArray) : q5k (m ++ [x]) = q5k m ++ [.string x.1, x.2.1] := by unfold q5k; rw [List.flatMap_append]; rfl
def z0i (xs : List (ByteArray × Value × List ByteArray)) : List (ByteArray × List ByteArray) := xs.map fun x => (x.1, x.2.2)
theorem z5x (p : ByteArray → Bool) (xs : List (ByteArray × Value × List ByteArray)) : (z0i xs).any (fun y => p y.1) = xs.any (fun y => p y.1) := by unfold z0i; rw [List.any_map]; rfl
def k1a (w0 w : World) (g : Nat) (e : Int) (s : RS) (r : Except (Int × Int) (List (ByteArray × List ByteArray) × List Pc)) (e' : Ending) (w' : World) : Prop :=
 (∃ x, r = .error x ∧ v2w w0 w w' g x e') ∨ (∃ v, r = .ok v ∧ e' = .returned (.tuple #[]) ∧ ∃ vX xs, z0i xs = v.1 ∧ q8j w' w0.heap.size vX xs ∧ q7g w0 w w' g e { s with vX := vX } v.2)
theorem v6i {e : Int} {n : Nat} {acc : List (ByteArray × List ByteArray)} {x : Pc} {m : List Pc} (h : ¬ (q3u x.2 && q5q x.2) = true) : q4j e (n + 1) acc (x :: m) = .ok (acc, x :: m) := by
 conv => lhs; unfold q4j
 exact if_neg h
theorem v7d {e : Int} {n : Nat} {acc : List (ByteArray × List ByteArray)} {x : Pc} {m : List Pc} (h : (q3u x.2 && q5q x.2) = true) (hd : acc.any (fun y => decide (y.1 = x.2)) = true) : q4j e (n + 1) acc (x :: m) = .error (x.1, 11) := by
 conv => lhs; unfold q4j
 rw [if_pos h, if_pos hd]
theorem v5s {e : Int} {n : Nat} {acc : List (ByteArray × List ByteArray)} {x : Pc} {m : List Pc} (h : (q3u x.2 && q5q x.2) = true) (hd : acc.any (fun y => decide (y.1 = x.2)) = false) (hr : (rowP q2g m).1 = []) : q4j e (n + 1) acc (x :: m) = .error (q4r e (rowP q2g m).2, 10) := by
 conv => lhs; unfold q4j
 rw [if_pos h, if_neg (by rw [hd]; decide), if_pos hr]
theorem k2z {e : Int} {n : Nat} {acc : List (ByteArray × List ByteArray)} {x : Pc} {m : List Pc} (h : (q3u x.2 && q5q x.2) = true) (hd : acc.any (fun y => decide (y.1 = x.2)) = false) (hr : (rowP q2g m).1 ≠ []) : q4j e (n + 1) acc (x :: m) = q4j e n (acc ++ [(x.2, (rowP q2g m).1)]) (rowP q2g m).2 := by
 conv => lhs; unfold q4j
 rw [if_pos h, if_neg (by rw [hd]; decide), if_neg hr]
theorem k1x {w0 w W5 W6 W7 : World} {g b1 : Nat} {e : Int} {s1 s2 : RS} {A5 : Option Addr} {c5 : Nat} {m : List Pc} {v v5 v6 : Value} {xs : List (ByteArray × Value × List ByteArray)} {k : ByteArray} {L : List ByteArray} (hg : w0.heap.size ≤ g) (hK5 : q0j w W5 g none) (hV : q4y w v) (hO5 : q8j W5 w0.heap.size v xs) (hS5 : Own W5 w0.heap.size v5 L) (hR5 : W5.heap[g]? = some (RB s1 A5 m.length c5 e)) (hc5 : m.length ≤ c5)
 (hG6 : W5.grownBy W6 v.ownBlock) (hP6 : PG W6 A5 m) (hB6 : Below w0.heap.size w0 W6) (hO6 : W6.ownsRow w0.heap.size 65 2 v6 (xs.length + 1) (q5k xs ++ [.string k, v5])) (hR6 : W6.heap[g]? = some (RB s1 A5 m.length c5 e)) (hX6 : W6.heap[b1]? = some (.cells #[.pointer (some ⟨g, 0, none⟩)] 84 (0, 0))) (hne : b1 ≠ g) (hat : v6.ownBlock = v.ownBlock ∨ ∃ b, v6.ownBlock = some b ∧ W5.heap.size ≤ b) (hp : Put g W6 W7) (hk : W7.heap[g]? = some (RB s2 A5 m.length c5 e)) :
 q8j W7 w0.heap.size v6 (xs ++ [(k, v5, L)]) ∧ q4y w v6 ∧ q7g w0 w W7 g e s2 m ∧ W7.heap[b1]? = some (.cells #[.pointer (some ⟨g, 0, none⟩)] 84 (0, 0)) := by
 have k6 : q0j w W6 g none := hK5.trans (q0j.z2s hG6 g) hV.row
 have mv : ∀ {u : Value} {l : List ByteArray}, Own W5 w0.heap.size u l → Own W6 w0.heap.size u l := fun {u l} h => q2j h fun j hj => hG6.block j (q8a h j hj) (fun x => z6o h hO5.1 (by decide) j hj x.symm)
 refine ⟨⟨?_, fun x hx => ?_⟩, hV.app hK5.1 hat, ⟨⟨A5, c5, hc5, hk, hP6.keep hR6 (q6x hp)⟩, Put.below hp hB6 hg, k6.trans (q6x hp) (.inl rfl)⟩, (hp.far b1 hne).trans hX6⟩
 · rw [List.length_append, v0r]
   exact z2k hO6 hR6 (by decide) (q6x hp)
 · rcases List.mem_append.1 hx with h | h
   · exact z2k (mv (hO5.2 x h)) hR6 (by decide) (q6x hp)
   · rw [List.mem_singleton] at h
     subst h
     exact z2k (mv hS5) hR6 (by decide) (q6x hp)
theorem z1p (g : Nat) (A : Option Addr) (c : Nat) (e : Int) (s : RS) (l : List Pc) (w0 w : World) (hB : Below w0.heap.size w0 w) (hg : w0.heap.size ≤ g) (hc : l.length ≤ c) (hR : w.heap[g]? = some (RB s A l.length c e)) (hP : PG w A l) (hl : l.length ≤ 1000000) (hX0 : s.vX = .slice none 0 0) :
 Calls Tryz.prog 129 #[.pointer (some ⟨g, 0, none⟩)] w fun e' w' => k1a w0 w g e s (q4j e (l.length + 1) [] l) e' w' := by
 obtain ⟨b1, hb1⟩ : ∃ b1, b1 = w.heap.size := ⟨_, rfl⟩
 obtain ⟨wz, hwz⟩ : ∃ wz, wz = w.alloc (.cells #[.pointer (some ⟨g, 0, none⟩)] 84) := ⟨_, rfl⟩
 have hbz : Below w.heap.size w wz := by rw [hwz]; exact q0b (Below.refl _ _) _
 have hL : q7g w0 w wz g e { s with vX := .slice none 0 0 } l := ⟨⟨A, c, hc, by rw [← hX0]; exact (hbz.block g (Array.getElem?_eq_some_iff.1 hR).1).trans hR, hP.move fun b cs hb => hbz.block b (Array.getElem?_eq_some_iff.1 hb).1⟩, hB.trans (hbz.mono hB.size), q0j.of_below hbz g none⟩
 have HL0 := aq hL
 have KX0 : q0c (wz.heap[b1]? = some (.cells #[.pointer (some ⟨g, 0, none⟩)] 84 (0, 0))) := ⟨by rw [hwz]; exact aZ hb1⟩
 have HNE : q0c (b1 ≠ g) := ⟨by rw [hb1]; exact fun x => by have := (Array.getElem?_eq_some_iff.1 hR).1; omega⟩
 have HWS : q0c (w.heap.size ≤ b1) := ⟨by omega⟩
 obtain ⟨r, hr⟩ : ∃ r, r = q4j e (l.length + 1) [] l := ⟨_, rfl⟩
 rw [← hr]
 have HRR := aq hr
 have HWZ := aq hwz.symm
 have HBZ := aq hb1
 clear hB hc hR hP hL hr hX0 hbz hwz hb1
 go_enter Tryz.func129, Tryz.ntmps129
 go_wp2
 rw [HWZ.out, ← HBZ.out]
 clear HWZ HBZ
 go_loopw [] (fun wr => ∃ (n : Nat) (xs : List (ByteArray × Value × List ByteArray)) (m : List Pc) (vX : Value), q0c (q8j wr w0.heap.size vX xs) ∧ q0c (q4y w vX) ∧ q0c (q7g w0 w wr g e { s with vX := vX } m) ∧ q0c (wr.heap[b1]? = some (.cells #[.pointer (some ⟨g, 0, none⟩)] 84 (0, 0))) ∧ q0c (q4j e n (z0i xs) m = r) ∧ m.length < n ∧ xs.length + m.length ≤ l.length) (fun wr => v8y wr g)
 case atStart => exact ⟨l.length + 1, [], l, _, ⟨⟨q3a _ _ _ _, fun _ h => by simp at h⟩⟩, ⟨q8v w⟩, HL0, KX0, ⟨HRR.out.symm⟩, by omega, by simp⟩
 case round =>
  clear HL0 HRR KX0
  obtain ⟨n, xs, m, vX, HO, HV, HL, KX, HE, hmn, hn⟩ := hrel
  obtain ⟨V1, d1, e1⟩ := q0u HO.out.1
  subst e1
  obtain ⟨n, rfl⟩ : ∃ n', n = n' + 1 := ⟨n - 1, by omega⟩
  obtain ⟨⟨A1, c1, hc1, hR1, hP1⟩, hB1, hK1⟩ := HL.out
  have HR := aq hR1
  have HP := aq hP1
  have HB := aq hB1
  have HK := aq hK1
  have k0 := (q0a KX.out 0).trans rfl
  clear hR1 hP1 hB1 hK1
  cases m with
  | nil =>
   go_wp2_with (first
    | (go_at_call 123; refine (q2s g _ c1 e _ [] _ (by exact HR.out) (by exact HP.out)).mono ?_; rintro e w' ⟨rfl, ⟨nd, rfl⟩⟩; rw [show q3s [] = ⟨#[]⟩ from rfl]))
   go_end0
   exact .inr ⟨(z0i xs, []), HE.out.symm, rfl, _, xs, rfl, HO.out, ⟨A1, c1, hc1, HR.out, PG.nil _ _⟩, q0d HB.out _, q0i HK.out _⟩
  | cons x m =>
   have done : ¬ (q3u x.2 && q5q x.2) = true → r = .ok (z0i xs, x :: m) := fun h => HE.out.symm.trans (v6i h)
   cases hs : q3u x.2 with
   | false =>
    have he := q7l (l := m) hs
    have HD := aq (done (by rw [hs]; simp))
    clear hs done
    go_wp2_with (first
     | (go_at_call 123; refine (q2s g _ c1 e _ (x :: m) _ (by exact HR.out) (by exact HP.out)).mono ?_; rintro e w' ⟨rfl, ⟨nd, rfl⟩⟩; rw [he]))
    go_end0
    exact .inr ⟨_, HD.out, rfl, _, xs, rfl, HO.out, ⟨A1, c1, hc1, HR.out, HP.out.keep HR.out (q0i (q0j.refl wr g none) _)⟩, q0d HB.out _, q0i HK.out _⟩
   | true =>
    have he := q7d (l := m) hs
    have q0 := z2q hs
    have h8 := (q7r hs).1
    have hF := fun W => v9q.2 x.2 W h8
    cases hf : q5q x.2 with
    | false =>
     rw [hf] at hF
     have HD := aq (done (by rw [hf]; simp))
     clear hs done h8 hf
     go_wp2_with (first
      | (go_at_call 123; refine (q2s g _ c1 e _ (x :: m) _ (by exact HR.out) (by exact HP.out)).mono ?_; rintro e w' ⟨rfl, ⟨nd, rfl⟩⟩; rw [he])
      | (with_reducible refine (hF _).mono ?_; rintro e w' ⟨rfl, ⟨nd, rfl⟩⟩))
     go_end0
     exact .inr ⟨_, HD.out, rfl, _, xs, rfl, HO.out, ⟨A1, c1, hc1, HR.out, HP.out.keep HR.out (q0i (q0j.refl wr g none) _)⟩, q0d HB.out _, q0i HK.out _⟩
    | true =>
     rw [hf] at hF
     have hsv : (q3u x.2 && q5q x.2) = true := by rw [hs, hf]; rfl
     have HLE := aq (show xs.length ≤ 1000000 by omega)
     have HLN := aq (z6d HR.out)
     have HLM := aq (show m.length ≤ 1000000 by simp only [List.length_cons] at hn; omega)
     clear hs done h8 hf
     go_wp2_with (first
      | (go_at_call 123; refine (q2s g _ c1 e _ (x :: m) wr (by exact HR.out) (by exact HP.out)).mono ?_; rintro e w' ⟨rfl, ⟨nd, rfl⟩⟩; rw [he])
      | (go_at_call 123; refine (q2s g _ c1 e _ (x :: m) (wr.drewN nd) (by exact HR.out) (by exact HP.out)).mono ?_; rintro e w' ⟨rfl, ⟨nd1, rfl⟩⟩; rw [he])
      | (with_reducible refine (hF _).mono ?_; rintro e w' ⟨rfl, ⟨nd2, rfl⟩⟩))
     clear k0
     cases hdup : xs.any (fun y => decide (y.1 = x.2)) with
     | true =>
      have HD := aq (HE.out.symm.trans (v7d hsv (by rw [z5x (fun z => decide (z = x.2))]; exact hdup)))
      clear hsv
      refine q2w (n := 9) (S := fun w' => w'.cell? ⟨g, 7, none⟩ = some (.slice V1 xs.length d1) ∧ w'.cell? ⟨b1, 0, none⟩ = some (.pointer (some ⟨g, 0, none⟩))) (ds := [8]) (M 9 0) (by kernel_rfl) rfl rfl ⟨(q0a HR.out 7).trans rfl, (q0a KX.out 0).trans rfl⟩ (fun hHeld => ?_)
      obtain ⟨W1, hW1⟩ : ∃ W1, W1 = (wr.drewN (nd + nd1 + nd2)).drew := ⟨_, rfl⟩
      rw [← hW1] at hHeld ⊢
      replace HR : q0c (W1.heap[g]? = some (RB { s with vX := .slice V1 xs.length d1 } A1 (x :: m).length c1 e)) := by rw [hW1]; exact HR
      replace HP : q0c (PG W1 A1 (x :: m)) := by rw [hW1]; exact HP
      replace HB : q0c (Below w0.heap.size w0 W1) := by rw [hW1]; exact ⟨q0m (q0d HB.out _)⟩
      replace HK : q0c (q0j w W1 g none) := by rw [hW1]; exact ⟨q0i (q0i HK.out _) 1⟩
      replace HO : q0c (q8j W1 w0.heap.size (.slice V1 xs.length d1) xs) := by rw [hW1]; exact HO
      replace KX : q0c (W1.heap[b1]? = some (.cells #[.pointer (some ⟨g, 0, none⟩)] 84 (0, 0))) := by rw [hW1]; exact KX
      clear hW1
      refine pw 6 17 (M 9 64) ?_
      refine tw 0 11 (M 9 65) hHeld ?_
      refine tw 1 12 (M 9 67) hHeld ?_
      refine pw 2 13 (M 9 71) ?_
      refine pw 3 14 (M 9 79) ?_
      refine pw 4 15 (M 9 95) ?_
      refine tw 5 16 (M 9 127) hHeld ?_
      refine ow 7 (some 18) (M 9 255) fun K hK => ?_
      refine gow Tryz.func184 #[.slice V1 xs.length d1, .func (.func 185) #[] #[.pointer (some ⟨b1, 0, none⟩)]] ?_
      refine (z3b b1 g A1 c1 e { s with vX := .slice V1 xs.length d1 } (x :: m) xs V1 d1 w0.heap.size _ KX.out HR.out HP.out HO.out.1 HLE.out).mono ?_
      rintro e3 W2 ⟨rfl, hb2⟩
      rw [he, hdup]
      replace HO := aq (HO.out.below hb2)
      replace HP := aq (HP.out.move fun b cs hb => hb2.block b (Array.getElem?_eq_some_iff.1 hb).1)
      replace HK := aq (HK.out.trans (q0j.of_below hb2 g none) (.inl rfl))
      replace HB := bb HB hb2
      replace HR := kb HR hb2
      replace KX := kb KX hb2
      clear hb2
      refine ⟨_, rfl, ?_⟩
      refine hK.out _ _ ⟨(q0a HR.out 7).trans rfl, (q0a KX.out 0).trans rfl⟩ (fun hHeld => ?_)
      clear hK K
      refine nw 18 ?_
      refine z3g (i := 8) (N := some 19) (M 9 511) rfl rfl (by kernel_rfl) (by decide) (fun K hK => ?_)
      refine k6j Tryz.func181 #[.pointer (some ⟨g, 0, none⟩), .bool true, .string ⟨#[115, 105, 110, 103, 108, 101, 116, 111, 110]⟩] ?_
      refine (z9h g _ c1 e { s with vX := .slice V1 xs.length d1 } _ x m w0 _ HB.out HR.out HP.out).mono ?_
      rintro e3 W4 hbad
      obtain ⟨p, he4, hr4⟩ := hbad
      refine ⟨_, he4, ?_⟩
      exact ⟨rfl, .inl ⟨_, HD.out, v2w.after ⟨p, rfl, hr4⟩ HK.out⟩⟩
     | false =>
      have hd2 : (z0i xs).any (fun y => decide (y.1 = x.2)) = false := by rw [z5x (fun z => decide (z = x.2))]; exact hdup
      refine q2w (n := 9) (S := fun w' => w'.cell? ⟨g, 7, none⟩ = some (.slice V1 xs.length d1) ∧ w'.cell? ⟨b1, 0, none⟩ = some (.pointer (some ⟨g, 0, none⟩))) (ds := []) (M 9 0) (by kernel_rfl) rfl rfl ⟨(q0a HR.out 7).trans rfl, (q0a KX.out 0).trans rfl⟩ (fun hHeld => ?_)
      obtain ⟨W1, hW1⟩ : ∃ W1, W1 = (wr.drewN (nd + nd1 + nd2)).drew := ⟨_, rfl⟩
      rw [← hW1] at hHeld ⊢
      replace HR : q0c (W1.heap[g]? = some (RB { s with vX := .slice V1 xs.length d1 } A1 (x :: m).length c1 e)) := by rw [hW1]; exact HR
      replace HP : q0c (PG W1 A1 (x :: m)) := by rw [hW1]; exact HP
      replace HB : q0c (Below w0.heap.size w0 W1) := by rw [hW1]; exact ⟨q0m (q0d HB.out _)⟩
      replace HK : q0c (q0j w W1 g none) := by rw [hW1]; exact ⟨q0i (q0i HK.out _) 1⟩
      replace HO : q0c (q8j W1 w0.heap.size (.slice V1 xs.length d1) xs) := by rw [hW1]; exact HO
      replace KX : q0c (W1.heap[b1]? = some (.cells #[.pointer (some ⟨g, 0, none⟩)] 84 (0, 0))) := by rw [hW1]; exact KX
      clear hW1
      refine pw 6 17 (M 9 64) ?_
      refine tw 0 11 (M 9 65) hHeld ?_
      refine tw 1 12 (M 9 67) hHeld ?_
      refine pw 2 13 (M 9 71) ?_
      refine pw 3 14 (M 9 79) ?_
      refine pw 4 15 (M 9 95) ?_
      refine tw 5 16 (M 9 127) hHeld ?_
      refine ow 7 (some 18) (M 9 255) fun K hK => ?_
      refine gow Tryz.func184 #[.slice V1 xs.length d1, .func (.func 185) #[] #[.pointer (some ⟨b1, 0, none⟩)]] ?_
      refine (z3b b1 g A1 c1 e { s with vX := .slice V1 xs.length d1 } (x :: m) xs V1 d1 w0.heap.size _ KX.out HR.out HP.out HO.out.1 HLE.out).mono ?_
      rintro e3 W2 ⟨rfl, hb2⟩
      rw [he, hdup]
      replace HO := aq (HO.out.below hb2)
      replace HP := aq (HP.out.move fun b cs hb => hb2.block b (Array.getElem?_eq_some_iff.1 hb).1)
      replace HK := aq (HK.out.trans (q0j.of_below hb2 g none) (.inl rfl))
      replace HB := bb HB hb2
      replace HR := kb HR hb2
      replace KX := kb KX hb2
      clear hb2
      refine ⟨_, rfl, ?_⟩
      refine hK.out _ _ ⟨(q0a HR.out 7).trans rfl, (q0a KX.out 0).trans rfl⟩ (fun hHeld => ?_)
      clear hK K
      refine nw 18 ?_
      refine ow 8 (some 19) (M 9 511) fun K hK => ?_
      refine gow Tryz.func181 #[.pointer (some ⟨g, 0, none⟩), .bool false, .string ⟨#[115, 105, 110, 103, 108, 101, 116, 111, 110]⟩] ?_
      refine (v3f g _ _).mono ?_
      rintro e3 W4 ⟨rfl, hW4⟩
      rw [hW4]
      clear hW4
      refine ⟨_, rfl, ?_⟩
      refine hK.out _ _ ⟨(q0a HR.out 7).trans rfl, (q0a KX.out 0).trans rfl⟩ (fun hHeld => ?_)
      clear hK K
      refine nw 19 ?_
      refine q4t (by kernel_rfl) ?_
      have k0 := (q0a KX.out 0).trans rfl
      go_wp2_with (first
       | (go_at_call 130; refine (z1s g _ c1 e _ x m w0 W2 HB.out hg hc1 HR.out HP.out).mono ?_; rintro e3 W3 ⟨rfl, ⟨A2, c2, hc2, hR2, hP2⟩, hB2, hK2⟩; rw [he]; have HR3 := aq hR2; have HP3 := aq hP2; have HB3 := aq hB2; have HK3 := aq (HK.out.trans hK2 (.inl rfl)); have HO3 := aq (HO.out.keep HR.out hK2); have KX3 := aq ((hK2.2 b1 (q0g KX.out) HNE.out (by simp)).trans KX.out); clear hR2 hP2 hB2 hK2 k0))
      by_cases hrow : (rowP q2g m).1 = []
      · have HD := aq (HE.out.symm.trans (v5s hsv hd2 hrow))
        clear hsv hd2
        refine q2w (n := 16) (S := fun w' => w'.cell? ⟨g, 7, none⟩ = some (.slice V1 xs.length d1) ∧ w'.cell? ⟨b1, 0, none⟩ = some (.pointer (some ⟨g, 0, none⟩))) (ds := [15]) (M 16 0) (by kernel_rfl) rfl rfl ⟨(q0a HR3.out 7).trans rfl, (q0a KX3.out 0).trans rfl⟩ (fun hHeld => ?_)
        obtain ⟨W1, hW1⟩ : ∃ W1, W1 = W3.drew := ⟨_, rfl⟩
        rw [← hW1] at hHeld ⊢
        replace HR3 : q0c (W1.heap[g]? = some (RB { s with vX := .slice V1 xs.length d1 } A2 m.length c2 e)) := by rw [hW1]; exact HR3
        replace HP3 : q0c (PG W1 A2 m) := by rw [hW1]; exact HP3
        replace HB3 : q0c (Below w0.heap.size w0 W1) := by rw [hW1]; exact ⟨q0m HB3.out⟩
        replace HK3 : q0c (q0j w W1 g none) := by rw [hW1]; exact ⟨q0i HK3.out 1⟩
        replace HO3 : q0c (q8j W1 w0.heap.size (.slice V1 xs.length d1) xs) := by rw [hW1]; exact HO3
        replace KX3 : q0c (W1.heap[b1]? = some (.cells #[.pointer (some ⟨g, 0, none⟩)] 84 (0, 0))) := by rw [hW1]; exact KX3
        clear hW1
        refine pw 6 28 (M 16 64) ?_
        refine tw 0 22 (M 16 65) hHeld ?_
        refine tw 1 23 (M 16 67) hHeld ?_
        refine pw 2 24 (M 16 71) ?_
        refine pw 3 25 (M 16 79) ?_
        refine pw 4 26 (M 16 95) ?_
        refine tw 5 27 (M 16 127) hHeld ?_
        refine tw 7 29 (M 16 255) hHeld ?_
        refine ow 8 (some 30) (M 16 511) fun K hK => ?_
        refine k6j Tryz.func131 #[.pointer (some ⟨g, 0, none⟩), .func (.func 186) #[] #[]] ?_
        refine (v8n _ q2g z8c g A2 c2 e { s with vX := .slice V1 xs.length d1 } m w0 _ HB3.out hg hc2 HR3.out HP3.out HLM.out hrow).mono ?_
        rintro e3 W4 hbad
        obtain ⟨p, he4, hr4⟩ := hbad
        refine ⟨_, he4, ?_⟩
        exact ⟨rfl, .inl ⟨_, HD.out, v2w.after ⟨p, rfl, hr4⟩ HK3.out⟩⟩
      · have HE2 := aq ((k2z hsv hd2 hrow).symm.trans HE.out)
        clear hsv hd2
        have HRL := aq (v2e q2g m)
        refine q2w (n := 16) (S := fun w' => w'.cell? ⟨g, 7, none⟩ = some (.slice V1 xs.length d1) ∧ w'.cell? ⟨b1, 0, none⟩ = some (.pointer (some ⟨g, 0, none⟩))) (ds := [15]) (M 16 0) (by kernel_rfl) rfl rfl ⟨(q0a HR3.out 7).trans rfl, (q0a KX3.out 0).trans rfl⟩ (fun hHeld => ?_)
        obtain ⟨W1, hW1⟩ : ∃ W1, W1 = W3.drew := ⟨_, rfl⟩
        rw [← hW1] at hHeld ⊢
        replace HR3 : q0c (W1.heap[g]? = some (RB { s with vX := .slice V1 xs.length d1 } A2 m.length c2 e)) := by rw [hW1]; exact HR3
        replace HP3 : q0c (PG W1 A2 m) := by rw [hW1]; exact HP3
        replace HB3 : q0c (Below w0.heap.size w0 W1) := by rw [hW1]; exact ⟨q0m HB3.out⟩
        replace HK3 : q0c (q0j w W1 g none) := by rw [hW1]; exact ⟨q0i HK3.out 1⟩
        replace HO3 : q0c (q8j W1 w0.heap.size (.slice V1 xs.length d1) xs) := by rw [hW1]; exact HO3
        replace KX3 : q0c (W1.heap[b1]? = some (.cells #[.pointer (some ⟨g, 0, none⟩)] 84 (0, 0))) := by rw [hW1]; exact KX3
        clear hW1
        refine pw 6 28 (M 16 64) ?_
        refine tw 0 22 (M 16 65) hHeld ?_
        refine tw 1 23 (M 16 67) hHeld ?_
        refine pw 2 24 (M 16 71) ?_
        refine pw 3 25 (M 16 79) ?_
        refine pw 4 26 (M 16 95) ?_
        refine tw 5 27 (M 16 127) hHeld ?_
        refine tw 7 29 (M 16 255) hHeld ?_
        refine ow 8 (some 30) (M 16 511) fun K hK => ?_
        refine gow Tryz.func131 #[.pointer (some ⟨g, 0, none⟩), .func (.func 186) #[] #[]] ?_
        refine (z7j _ q2g z8c g A2 c2 e { s with vX := .slice V1 xs.length d1 } m w0 _ HB3.out hg hc2 HR3.out HP3.out HLM.out hrow).mono ?_
        rintro e3 W5 ⟨v5, rfl, hO5, hV5, ⟨A5, c5, hc5, hR5, hP5⟩, hB5, hK5⟩
        obtain ⟨V5, d5, e5⟩ := q0u hO5
        subst e5
        have HS5 := aq hO5
        have HR5 := aq hR5
        have HP5 := aq hP5
        have HB5 := aq hB5
        have HK5 := aq (HK3.out.trans hK5 (.inl rfl))
        have HO5 := aq (HO3.out.keep HR3.out hK5)
        have KX5 := aq ((hK5.2 b1 (q0g KX3.out) HNE.out (by simp)).trans KX3.out)
        clear hO5 hV5 hR5 hP5 hB5 hK5
        refine ⟨_, rfl, ?_⟩
        refine hK.out _ _ ⟨(q0a HR5.out 7).trans rfl, (q0a KX5.out 0).trans rfl⟩ (fun hHeld => ?_)
        clear hK K
        refine nw 30 ?_
        refine pw 9 31 (M 16 1023) ?_
        refine ow 10 (some 32) (M 16 2047) fun K hK => ?_
        refine q2x (w1 := ?_) (v := ?_) (by rfl) rfl ?_ ?_
        rotate_left 2
        · go_simp
          constructor
          · rfl
          · rfl
        refine hK.out _ _ ⟨(q0a (aN HR5.out) 7).trans rfl, (q0a (aN KX5.out) 0).trans rfl⟩ (fun hHeld => ?_)
        clear hK K
        refine nw 32 ?_
        refine ow 11 (some 33) (M 16 4095) fun K hK => ?_
        refine q2u (w0 := w0) w0.heap.size (by rfl) (.tmp 27) (.tmp 32) 31 65 (.agg #[.string ⟨#[]⟩, .slice none 0 0]) 2 40 rfl Tryz.underlying31 (by kernel_rfl) rfl (by decide) (by decide) (.slice V1 xs.length d1) xs.length (q5k xs) [.string x.2, .slice V5 (rowP q2g m).1.length d5] rfl ?hx rfl ?h1 HO5.out.1 HB5.out HB5.out.size ?hl ?_
        (case hx => rfl)
        (case h1 => simp [Value.oneCell'])
        (case hl => have := HLE.out; omega)
        intro v6 W6 hO6 hB6 hG6 hat
        obtain ⟨V6, d6, e6⟩ := q0u hO6
        subst e6
        have HO6 := aq hO6
        have HB6 := aq hB6
        have HG6 := aq hG6
        have HAT := aq hat
        have HR6 := aq ((hG6.block g (Array.getElem?_eq_some_iff.1 HR5.out).1 (own_ne HO5.out.1 HR5.out (by decide))).trans HR5.out)
        have KX6 := aq ((hG6.block b1 (q0g KX5.out) (own_ne HO5.out.1 KX5.out (by decide))).trans KX5.out)
        have HP6 := aq (HP5.out.grown HO5.out.1 (by decide) hG6)
        clear hO6 hB6 hG6 hat
        refine hK.out _ _ ⟨(q0a HR6.out 7).trans rfl, (q0a KX6.out 0).trans rfl⟩ (fun hHeld => ?_)
        clear hK K
        refine nw 33 ?_
        refine pw 12 34 (M 16 8191) ?_
        refine pw 13 35 (M 16 16383) ?_
        refine pw 14 36 (M 16 32767) ?_
        refine z3g (i := 15) (N := none) (M 16 65535) rfl rfl (by kernel_rfl) (by decide) (fun K hK => ?_)
        refine q2d (g := g) (off := 7) (cur := { s with vX := .slice V1 xs.length d1 }.cells A5 (rowP q2g m).2.length c5 e) (new := { s with vX := .slice V6 (xs.length + 1) d6 }.cells A5 (rowP q2g m).2.length c5 e) (seg := [.slice V6 (xs.length + 1) d6]) (u := .slice V6 (xs.length + 1) d6) rfl rfl rfl rfl rfl rfl (by rfl) (by kernel_rfl) rfl rfl (Nat.le_of_ble_eq_true rfl) HR6.out ?_
        intro W7 hk hp
        refine hK.out _ _ ?_
        clear hK K
        refine q4t (by kernel_rfl) ?_
        have HEND := aq (k1x hg HK5.out HV.out HO5.out HS5.out HR5.out hc5 HG6.out HP6.out HB6.out HO6.out HR6.out KX6.out HNE.out HAT.out hp hk)
        go_roundw
        case rel => exact ⟨_, _, _, _, _, _, _, _, _, _, _, _, _, _, _, _, _, _, _, _, _, _, _, _, _, _, _, _, _, _, _, _, _, _, _, ⟨n, xs ++ [(x.2, _, (rowP q2g m).1)], (rowP q2g m).2, _, ⟨HEND.out.1⟩, ⟨HEND.out.2.1⟩, ⟨HEND.out.2.2.1⟩, ⟨HEND.out.2.2.2⟩, ⟨by have h := HE2.out; simpa [z0i] using h⟩, by have := HRL.out; simp only [List.length_cons] at hmn; omega, by have := HRL.out; simp only [List.length_append, List.length_cons, List.length_nil] at hn ⊢; have h1 : (rowP q2g m).1.length ≠ 0 := fun z => hrow (List.eq_nil_of_length_eq_zero z); omega⟩, rfl⟩
        case measure => rw [z6d hk, HLN.out]; have := HRL.out; simp only [List.length_cons]; omega
def z5b (W : World) (base : Nat) (s : RS) (t : z4j) : Prop := s.lang = t.lang ∧ s.scr = t.scr ∧ s.reg = t.reg ∧ Own W base s.vE t.extl ∧ Own W base s.vV t.vars ∧ (∃ xs, z0i xs = t.exts ∧ q8j W base s.vX xs) ∧ Own W base s.vR t.priv
theorem z5b.keep {W W1 : World} {base g : Nat} {s : RS} {t : z4j} {cs : Array Value} (h : z5b W base s t) (hR : W.heap[g]? = some (.cells cs TR (0, 0))) (hk : q0j W W1 g none) : z5b W1 base s t := by
 obtain ⟨h1, h2, h3, h4, h5, ⟨xs, h6, h7⟩, h8⟩ := h
 exact ⟨h1, h2, h3, z2k h4 hR (by decide) hk, z2k h5 hR (by decide) hk, ⟨xs, h6, h7.keep hR hk⟩, z2k h8 hR (by decide) hk⟩
theorem z5b.below {W W1 : World} {base : Nat} {s : RS} {t : z4j} (h : z5b W base s t) (hb : Below W.heap.size W W1) : z5b W1 base s t := by
 obtain ⟨h1, h2, h3, h4, h5, ⟨xs, h6, h7⟩, h8⟩ := h
 exact ⟨h1, h2, h3, q1o h4 hb, q1o h5 hb, ⟨xs, h6, h7.below hb⟩, q1o h8 hb⟩
def k6o (w0 w : World) (g : Nat) (e : Int) (r : Except (Int × Int) z4j) (e' : Ending) (w' : World) : Prop :=
 (∃ x, r = .error x ∧ v2w w0 w w' g x e') ∨ (∃ t, r = .ok t ∧ e' = .returned (.tuple #[]) ∧ ∃ s, z5b w' w0.heap.size s t ∧ q7g w0 w w' g e s [])
def rs0 : RS := ⟨⟨#[]⟩, .slice none 0 0, ⟨#[]⟩, ⟨#[]⟩, .slice none 0 0, .slice none 0 0, .slice none 0 0⟩
theorem k3z (y : ByteArray) : (y.toList == ([120] : List UInt8)) = decide (y = xB) := by
 rw [← show xB.toList = ([120] : List UInt8) from by rw [ByteArray.toList_eq]; rfl]
 exact z6g y xB
def endP (e : Int) (t : z4j) (m : List Pc) : Except (Int × Int) z4j := match q5n e m with
 | .error x => .error x
 | .ok p => .ok { t with priv := p }
theorem j1m {e : Int} {l : List Pc} (h : q3s l = xB) : v0j e l = endP e {} l := by
 unfold v0j endP
 rw [if_pos h]
 cases q5n e l <;> rfl
theorem k8s {e : Int} {l : List Pc} (h : q3s l ≠ xB) (ha : (q5m q2t l).1.size = 0) : v0j e l = .error (q4r e l, 10) := by
 unfold v0j
 rw [if_neg h, if_pos ha]
theorem k9d {e : Int} {l : List Pc} (h : q3s l ≠ xB) (ha : (q5m q2t l).1.size ≠ 0) {x1 x2' : List ByteArray × List Pc} {x2 x3 : ByteArray × List Pc} (h1 : exl (q5m q2t l).1 (q5m q2t l).2 = x1) (h2 : q5m z5e x1.2 = x2) (h3 : q5m z6u x2.2 = x3) : v0j e l = z5l e { lang := (q5m q2t l).1, extl := x1.1, scr := x2.1, reg := x3.1 } x3.2 := by
 subst h3
 subst h2
 subst h1
 unfold v0j
 rw [if_neg h, if_neg ha]
theorem k1p {e : Int} {t : z4j} {l : List Pc} {x : Int × Int} (h : q5d [] l = .error x) : z5l e t l = .error x := by unfold z5l; rw [h]
theorem k3k {e : Int} {t : z4j} {l : List Pc} {v : List ByteArray × List Pc} {x : Int × Int} (h : q5d [] l = .ok v) (hz : q4j e (v.2.length + 1) [] v.2 = .error x) : z5l e t l = .error x := by
 unfold z5l
 rw [h]
 show (match q4j e (v.2.length + 1) [] v.2 with | .error x => _ | .ok z => _) = _
 rw [hz]
theorem k1t {e : Int} {t : z4j} {l : List Pc} {v : List ByteArray × List Pc} {z : List (ByteArray × List ByteArray) × List Pc} (h : q5d [] l = .ok v) (hz : q4j e (v.2.length + 1) [] v.2 = .ok z) : z5l e t l = endP e { t with vars := v.1, exts := z.1 } z.2 := by
 unfold z5l endP
 rw [h]
 show (match q4j e (v.2.length + 1) [] v.2 with | .error x => _ | .ok z => _) = _
 rw [hz]
 dsimp only
 cases q5n e z.2 <;> rfl
theorem k8j {e : Int} {t : z4j} {x : Pc} {m : List Pc} (hx : q3s (x :: m) = xB) (hr : (rowP q2b m).1 = []) : endP e t (x :: m) = .error (q4r e (rowP q2b m).2, 10) := by
 have h : q5n e (x :: m) = .error (q4r e (rowP q2b m).2, 10) := by
  unfold q5n
  rw [if_pos hx]
  exact if_pos hr
 unfold endP
 rw [h]
theorem k0x {e : Int} {t : z4j} {x : Pc} {m : List Pc} (hx : q3s (x :: m) = xB) (hr : (rowP q2b m).1 ≠ []) (h2 : (rowP q2b m).2 ≠ []) : endP e t (x :: m) = .error (q4r e (rowP q2b m).2, 10) := by
 have h : q5n e (x :: m) = .error (q4r e (rowP q2b m).2, 10) := by
  unfold q5n
  rw [if_pos hx]
  exact (if_neg hr).trans (if_neg h2)
 unfold endP
 rw [h]
theorem k6r {e : Int} {t : z4j} {x : Pc} {m : List Pc} (hx : q3s (x :: m) = xB) (hr : (rowP q2b m).1 ≠ []) (h2 : (rowP q2b m).2 = []) : endP e t (x :: m) = .ok { t with priv := (rowP q2b m).1 } := by
 have h : q5n e (x :: m) = .ok (rowP q2b m).1 := by
  unfold q5n
  rw [if_pos hx]
  exact (if_neg hr).trans (if_pos h2)
 unfold endP
 rw [h]
theorem k1z {e : Int} {t : z4j} {m : List Pc} (hx : q3s m ≠ xB) (hm : m = []) : endP e t m = .ok { t with priv := [] } := by
 unfold endP q5n
 rw [if_neg hx, if_pos hm]
theorem k2v {e : Int} {t : z4j} {m : List Pc} (hx : q3s m ≠ xB) (hm : m ≠ []) : endP e t m = .error (q4r e m, 10) := by
 unfold endP q5n
 rw [if_neg hx, if_neg hm]
theorem v1l (f : ByteArray → Bool) (l : List Pc) : (q5m f l).2.length ≤ l.length := by
 rcases z4d f l with ⟨_, h⟩ | ⟨_, _, h⟩
 · rw [h]; exact Nat.le_refl _
 · omega
theorem z9m : ∀ (n : Nat) (l : List Pc), (q4o n l).2.length ≤ l.length
 | 0, l => Nat.le_refl _
 | n + 1, [] => Nat.le_refl _
 | n + 1, x :: l => by
  unfold q4o
  split
  · have := z9m n l; simp only [List.length_cons]; omega
  · exact Nat.le_refl _
theorem k5k (a : ByteArray) (l : List Pc) : (exl a l).2.length ≤ l.length := by
 unfold exl
 split
 · exact z9m 3 l
 · exact Nat.le_refl _
theorem z8y : ∀ (l : List Pc) (acc : List ByteArray) (v : List ByteArray × List Pc), q5d acc l = .ok v → v.2.length ≤ l.length
 | [], acc, v, h => by cases h; exact Nat.le_refl _
 | x :: l, acc, v, h => by
  unfold q5d at h
  split at h
  · split at h
    · cases h
    · have := z8y l _ v h; simp only [List.length_cons]; omega
  · cases h; exact Nat.le_refl _
theorem z9w (e : Int) : ∀ (n : Nat) (l : List Pc) (acc : List (ByteArray × List ByteArray)) (v : List (ByteArray × List ByteArray) × List Pc), q4j e n acc l = .ok v → v.2.length ≤ l.length
 | 0, l, acc, v, h => by cases h; exact Nat.le_refl _
 | n + 1, [], acc, v, h => by cases h; exact Nat.le_refl _
 | n + 1, x :: l, acc, v, h => by
  unfold q4j at h
  split at h
  · split at h
    · cases h
    · split at h
      · cases h
      · have h1 := z9w e n _ _ v h
        have h2 := v2e q2g l
        simp only [List.length_cons]
        omega
  · cases h; exact Nat.le_refl _
theorem j1g (g : Nat) (A0 : Option Addr) (c0 : Nat) (e : Int) (l : List Pc) (w0 w : World) (hB : Below w0.heap.size w0 w) (hg : w0.heap.size ≤ g) (hc0 : l.length ≤ c0) (hR : w.heap[g]? = some (RB rs0 A0 l.length c0 e)) (hP : PG w A0 l) (hl : l.length ≤ 1000000) :
 Calls Tryz.prog 65 #[.pointer (some ⟨g, 0, none⟩)] w fun e' w' => k6o w0 w g e (v0j e l) e' w' := by
 have HR0 := aq hR
 have HP0 := aq hP
 have HB0 := aq hB
 obtain ⟨r, hr⟩ : ∃ r, v0j e l = r := ⟨_, rfl⟩
 obtain ⟨y, hy⟩ : ∃ y, y = q3s l := ⟨_, rfl⟩
 have HY := aq hy
 rw [hr]
 have HR_ := aq hr
 clear hR hP hB hy hr
 go_enter Tryz.func65, Tryz.ntmps65
 go_upto_if 4 with (first
  | (go_at_call 123; refine (q2s g A0 c0 e rs0 l w (by exact HR0.out) (by exact HP0.out)).mono ?_; rintro e3 w3 ⟨rfl, ⟨nd0, rfl⟩⟩; rw [← HY.out]))
 go_cut [] (fun wr => ∃ (s : RS) (m5 : List Pc) (t0 : z4j) (A5 : Option Addr) (c5 : Nat), s.vR = .slice none 0 0 ∧ t0.priv = [] ∧ r = endP e t0 m5 ∧ m5.length ≤ c5 ∧ m5.length ≤ 1000000 ∧ q0c (z5b wr w0.heap.size s t0) ∧ q0c (wr.heap[g]? = some (RB s A5 m5.length c5 e)) ∧ q0c (PG wr A5 m5) ∧ q0c (Below w0.heap.size w0 wr) ∧ q0c (q0j w wr g none))
 case first =>
  have hyx := k3z y
  by_cases hx : y = xB
  · rw [decide_eq_true hx] at hyx
    rw [hyx]
    have hr2 := HR_.out.symm.trans (j1m (by rw [← HY.out]; exact hx))
    clear hx
    have HR2 := aq hr2
    clear hr2
    go_wp2
    go_meet
    exact ⟨rs0, l, {}, A0, c0, rfl, rfl, HR2.out, hc0, hl, ⟨rfl, rfl, rfl, q3a _ _ _ _, q3a _ _ _ _, ⟨[], rfl, q3a _ _ _ _, fun _ h => by simp at h⟩, q3a _ _ _ _⟩, HR0, HP0, ⟨q0d HB0.out _⟩, ⟨q0i (q0j.refl w g none) _⟩⟩
  · rw [decide_eq_false hx] at hyx
    rw [hyx]
    have hx' : q3s l ≠ xB := by rw [← HY.out]; exact hx
    clear hx
    by_cases ha : (q5m q2t l).1.size = 0
    · have HRR := aq (HR_.out.symm.trans (k8s hx' ha))
      clear hx'
      go_wp2_with (first
       | (go_at_call 124; refine (k2d g A0 c0 e rs0 l w0 _ (by exact q0d HB0.out _) hg hc0 (by exact HR0.out) (by exact HP0.out) hl ha).mono ?_; rintro e3 W1 hbad; have HBad := aq (hbad.after (q0i (q0j.refl w g none) _)); clear hbad; obtain ⟨p, he3, -⟩ := HBad.out; subst he3))
      exact ⟨rfl, .inl ⟨_, HRR.out, HBad.out⟩⟩
    · obtain ⟨x1, hx1⟩ : ∃ x1, exl (q5m q2t l).1 (q5m q2t l).2 = x1 := ⟨_, rfl⟩
      obtain ⟨x2, hx2⟩ : ∃ x2, q5m z5e x1.2 = x2 := ⟨_, rfl⟩
      obtain ⟨x3, hx3⟩ : ∃ x3, q5m z6u x2.2 = x3 := ⟨_, rfl⟩
      have hr3 := HR_.out.symm.trans (k9d (x2' := x1) hx' ha hx1 hx2 hx3)
      obtain ⟨a, ha1⟩ : ∃ a, (q5m q2t l).1 = a := ⟨_, rfl⟩
      rw [ha1] at hr3
      have hl1 : x1.2.length ≤ 1000000 := by rw [← hx1]; exact Nat.le_trans (k5k _ _) (Nat.le_trans (v1l _ _) hl)
      have hl2 : x2.2.length ≤ 1000000 := by rw [← hx2]; exact Nat.le_trans (v1l _ _) hl1
      have hl3 : x3.2.length ≤ 1000000 := by rw [← hx3]; exact Nat.le_trans (v1l _ _) hl2
      have HX1 := aq hx1
      have HX2 := aq hx2
      have HX3 := aq hx3
      have HA := aq ha1
      clear hx1 hx2 hx3 ha1 hx'
      cases hv : q5d [] x3.2 with
      | error xx =>
       have HRR := aq (hr3.trans (k1p hv))
       have HV := aq hv
       clear hr3 hv
       go_wp2_with (first
        | (go_at_call 124; refine (z4u g A0 c0 e rs0 l w0 _ (by exact q0d HB0.out _) hg hc0 (by exact HR0.out) (by exact HP0.out) hl rfl ha).mono ?_; rintro e3 V1 ⟨rfl, vE, hOE, hVE, ⟨⟨A1, c1, hc1, hR_, hP_⟩, hB_, hK_⟩⟩; rw [HX1.out] at hOE hc1 hR_ hP_; rw [HA.out] at hR_; have HOE := aq hOE; have HR1 := aq hR_; have HP1 := aq hP_; have HB1 := aq hB_; have HK1 := aq ((q0i (q0j.refl w g none) _).trans hK_ (.inl rfl)); clear hOE hVE; clear hR_ hP_ hB_ hK_)
        | (go_at_call 125; clear y0 y1 y2 y3 y4 y5 y6 y7 y8 y9 f0 f1 f2 f3 f4 f5 f6 f7 f8 f9; refine (z9l _ _ z6y g A2 c2 e { rs0 with lang := a, vE := vE, scr := x2.1 } x2.2 w0 _ HB2.out hg hc2 HR2.out HP2.out).mono ?_; rintro e3 V3 ⟨he3, ⟨⟨A3, c3, hc3, hR_, hP_⟩, hB_, hK_⟩⟩; rw [HX3.out] at he3 hc3 hR_ hP_; subst he3; obtain ⟨y0, y1, y2, y3, y4, y5, y6, y7, y8, y9⟩ := z2a hR_; obtain ⟨f0, f1, f2, f3, f4, f5, f6, f7, f8, f9⟩ := v0i hR_; have HR3 := aq (show (V3.setCell ⟨g, 5, none⟩ (.string x3.1)).heap[g]? = some (RB { rs0 with lang := a, vE := vE, scr := x2.1, reg := x3.1 } A3 x3.2.length c3 e) from q0l hR_ 5 _ rfl); have HP3 := aq (hP_.keep hR_ ((q0j.refl V3 g none).q8c 5 (.string x3.1))); have HB3 := aq (q0r (j := 5) (v := (.string x3.1)) hB_ hg); have hkk := hK_.q8c 5 (.string x3.1); have HK3 := aq (HK2.out.trans hkk (.inl rfl)); have HOE := aq (z2k HOE.out HR2.out (by decide) hkk); clear hkk; clear hR_ hP_ hB_ hK_)
        | (go_at_call 125; refine (z9l _ _ z6i g A1 c1 e { rs0 with lang := a, vE := vE } x1.2 w0 V1 HB1.out hg hc1 HR1.out HP1.out).mono ?_; rintro e3 V2 ⟨he3, ⟨⟨A2, c2, hc2, hR_, hP_⟩, hB_, hK_⟩⟩; rw [HX2.out] at he3 hc2 hR_ hP_; subst he3; obtain ⟨y0, y1, y2, y3, y4, y5, y6, y7, y8, y9⟩ := z2a hR_; obtain ⟨f0, f1, f2, f3, f4, f5, f6, f7, f8, f9⟩ := v0i hR_; have HR2 := aq (show (V2.setCell ⟨g, 4, none⟩ (.string x2.1)).heap[g]? = some (RB { rs0 with lang := a, vE := vE, scr := x2.1 } A2 x2.2.length c2 e) from q0l hR_ 4 _ rfl); have HP2 := aq (hP_.keep hR_ ((q0j.refl V2 g none).q8c 4 (.string x2.1))); have HB2 := aq (q0r (j := 4) (v := (.string x2.1)) hB_ hg); have hkk := hK_.q8c 4 (.string x2.1); have HK2 := aq (HK1.out.trans hkk (.inl rfl)); have HOE := aq (z2k HOE.out HR1.out (by decide) hkk); clear hkk; clear hR_ hP_ hB_ hK_)
        | (go_at_call 128; clear y0 y1 y2 y3 y4 y5 y6 y7 y8 y9 f0 f1 f2 f3 f4 f5 f6 f7 f8 f9; refine (z1a g A3 c3 e { rs0 with lang := a, vE := vE, scr := x2.1, reg := x3.1 } x3.2 w0 _ HB3.out hg hc3 HR3.out HP3.out hl3 rfl).mono ?_; rintro e3 V4 hpost; rw [HV.out] at hpost; obtain ⟨xx, hx, hbad⟩ := hpost.resolve_right (by rintro ⟨v, hx, -⟩; cases hx); cases hx; have HBad := aq (hbad.after HK3.out); clear hpost; clear hbad; obtain ⟨p, he3, -⟩ := HBad.out; subst he3))
       exact ⟨rfl, .inl ⟨_, HRR.out, HBad.out⟩⟩
      | ok v4 =>
       have hl4 : v4.2.length ≤ 1000000 := Nat.le_trans (z8y _ _ _ hv) hl3
       have HV := aq hv
       cases hz : q4j e (v4.2.length + 1) [] v4.2 with
       | error xx =>
        have HRR := aq (hr3.trans (k3k hv hz))
        have HZ := aq hz
        clear hr3 hv hz
        go_wp2_with (first
         | (go_at_call 124; refine (z4u g A0 c0 e rs0 l w0 _ (by exact q0d HB0.out _) hg hc0 (by exact HR0.out) (by exact HP0.out) hl rfl ha).mono ?_; rintro e3 V1 ⟨rfl, vE, hOE, hVE, ⟨⟨A1, c1, hc1, hR_, hP_⟩, hB_, hK_⟩⟩; rw [HX1.out] at hOE hc1 hR_ hP_; rw [HA.out] at hR_; have HOE := aq hOE; have HR1 := aq hR_; have HP1 := aq hP_; have HB1 := aq hB_; have HK1 := aq ((q0i (q0j.refl w g none) _).trans hK_ (.inl rfl)); clear hOE hVE; clear hR_ hP_ hB_ hK_)
         | (go_at_call 125; clear y0 y1 y2 y3 y4 y5 y6 y7 y8 y9 f0 f1 f2 f3 f4 f5 f6 f7 f8 f9; refine (z9l _ _ z6y g A2 c2 e { rs0 with lang := a, vE := vE, scr := x2.1 } x2.2 w0 _ HB2.out hg hc2 HR2.out HP2.out).mono ?_; rintro e3 V3 ⟨he3, ⟨⟨A3, c3, hc3, hR_, hP_⟩, hB_, hK_⟩⟩; rw [HX3.out] at he3 hc3 hR_ hP_; subst he3; obtain ⟨y0, y1, y2, y3, y4, y5, y6, y7, y8, y9⟩ := z2a hR_; obtain ⟨f0, f1, f2, f3, f4, f5, f6, f7, f8, f9⟩ := v0i hR_; have HR3 := aq (show (V3.setCell ⟨g, 5, none⟩ (.string x3.1)).heap[g]? = some (RB { rs0 with lang := a, vE := vE, scr := x2.1, reg := x3.1 } A3 x3.2.length c3 e) from q0l hR_ 5 _ rfl); have HP3 := aq (hP_.keep hR_ ((q0j.refl V3 g none).q8c 5 (.string x3.1))); have HB3 := aq (q0r (j := 5) (v := (.string x3.1)) hB_ hg); have hkk := hK_.q8c 5 (.string x3.1); have HK3 := aq (HK2.out.trans hkk (.inl rfl)); have HOE := aq (z2k HOE.out HR2.out (by decide) hkk); clear hkk; clear hR_ hP_ hB_ hK_)
         | (go_at_call 125; refine (z9l _ _ z6i g A1 c1 e { rs0 with lang := a, vE := vE } x1.2 w0 V1 HB1.out hg hc1 HR1.out HP1.out).mono ?_; rintro e3 V2 ⟨he3, ⟨⟨A2, c2, hc2, hR_, hP_⟩, hB_, hK_⟩⟩; rw [HX2.out] at he3 hc2 hR_ hP_; subst he3; obtain ⟨y0, y1, y2, y3, y4, y5, y6, y7, y8, y9⟩ := z2a hR_; obtain ⟨f0, f1, f2, f3, f4, f5, f6, f7, f8, f9⟩ := v0i hR_; have HR2 := aq (show (V2.setCell ⟨g, 4, none⟩ (.string x2.1)).heap[g]? = some (RB { rs0 with lang := a, vE := vE, scr := x2.1 } A2 x2.2.length c2 e) from q0l hR_ 4 _ rfl); have HP2 := aq (hP_.keep hR_ ((q0j.refl V2 g none).q8c 4 (.string x2.1))); have HB2 := aq (q0r (j := 4) (v := (.string x2.1)) hB_ hg); have hkk := hK_.q8c 4 (.string x2.1); have HK2 := aq (HK1.out.trans hkk (.inl rfl)); have HOE := aq (z2k HOE.out HR1.out (by decide) hkk); clear hkk; clear hR_ hP_ hB_ hK_)
         | (go_at_call 128; clear y0 y1 y2 y3 y4 y5 y6 y7 y8 y9 f0 f1 f2 f3 f4 f5 f6 f7 f8 f9; refine (z1a g A3 c3 e { rs0 with lang := a, vE := vE, scr := x2.1, reg := x3.1 } x3.2 w0 _ HB3.out hg hc3 HR3.out HP3.out hl3 rfl).mono ?_; rintro e3 V4 hpost; rw [HV.out] at hpost; obtain ⟨v, hx, rfl, vV, hOV, hVV, ⟨⟨A4, c4, hc4, hR_, hP_⟩, hB_, hK_⟩⟩ := hpost.resolve_left (by rintro ⟨x, hx, -⟩; cases hx); cases hx; have HOE := aq (z2k HOE.out HR3.out (by decide) hK_); have HOV := aq hOV; have HR4 := aq hR_; have HP4 := aq hP_; have HB4 := aq hB_; have HK4 := aq (HK3.out.trans hK_ (.inl rfl)); clear hOV hVV hpost; clear hR_ hP_ hB_ hK_)
         | (go_at_call 129; refine (z1p g A4 c4 e { rs0 with lang := a, vE := vE, scr := x2.1, reg := x3.1, vV := vV } v4.2 w0 V4 HB4.out hg hc4 HR4.out HP4.out hl4 rfl).mono ?_; rintro e3 V5 hpost; rw [HZ.out] at hpost; obtain ⟨xx, hx, hbad⟩ := hpost.resolve_right (by rintro ⟨v, hx, -⟩; cases hx); cases hx; have HBad := aq (hbad.after HK4.out); clear hpost; clear hbad; obtain ⟨p, he3, -⟩ := HBad.out; subst he3))
        exact ⟨rfl, .inl ⟨_, HRR.out, HBad.out⟩⟩
       | ok z5 =>
        have hl5 : z5.2.length ≤ 1000000 := Nat.le_trans (z9w _ _ _ _ _ hz) hl4
        have HR9 := aq (hr3.trans (k1t hv hz))
        have HZ := aq hz
        clear hr3 hv hz
        go_wp2_with (first
         | (go_at_call 124; refine (z4u g A0 c0 e rs0 l w0 _ (by exact q0d HB0.out _) hg hc0 (by exact HR0.out) (by exact HP0.out) hl rfl ha).mono ?_; rintro e3 V1 ⟨rfl, vE, hOE, hVE, ⟨⟨A1, c1, hc1, hR_, hP_⟩, hB_, hK_⟩⟩; rw [HX1.out] at hOE hc1 hR_ hP_; rw [HA.out] at hR_; have HOE := aq hOE; have HR1 := aq hR_; have HP1 := aq hP_; have HB1 := aq hB_; have HK1 := aq ((q0i (q0j.refl w g none) _).trans hK_ (.inl rfl)); clear hOE hVE; clear hR_ hP_ hB_ hK_)
         | (go_at_call 125; clear y0 y1 y2 y3 y4 y5 y6 y7 y8 y9 f0 f1 f2 f3 f4 f5 f6 f7 f8 f9; refine (z9l _ _ z6y g A2 c2 e { rs0 with lang := a, vE := vE, scr := x2.1 } x2.2 w0 _ HB2.out hg hc2 HR2.out HP2.out).mono ?_; rintro e3 V3 ⟨he3, ⟨⟨A3, c3, hc3, hR_, hP_⟩, hB_, hK_⟩⟩; rw [HX3.out] at he3 hc3 hR_ hP_; subst he3; obtain ⟨y0, y1, y2, y3, y4, y5, y6, y7, y8, y9⟩ := z2a hR_; obtain ⟨f0, f1, f2, f3, f4, f5, f6, f7, f8, f9⟩ := v0i hR_; have HR3 := aq (show (V3.setCell ⟨g, 5, none⟩ (.string x3.1)).heap[g]? = some (RB { rs0 with lang := a, vE := vE, scr := x2.1, reg := x3.1 } A3 x3.2.length c3 e) from q0l hR_ 5 _ rfl); have HP3 := aq (hP_.keep hR_ ((q0j.refl V3 g none).q8c 5 (.string x3.1))); have HB3 := aq (q0r (j := 5) (v := (.string x3.1)) hB_ hg); have hkk := hK_.q8c 5 (.string x3.1); have HK3 := aq (HK2.out.trans hkk (.inl rfl)); have HOE := aq (z2k HOE.out HR2.out (by decide) hkk); clear hkk; clear hR_ hP_ hB_ hK_)
         | (go_at_call 125; refine (z9l _ _ z6i g A1 c1 e { rs0 with lang := a, vE := vE } x1.2 w0 V1 HB1.out hg hc1 HR1.out HP1.out).mono ?_; rintro e3 V2 ⟨he3, ⟨⟨A2, c2, hc2, hR_, hP_⟩, hB_, hK_⟩⟩; rw [HX2.out] at he3 hc2 hR_ hP_; subst he3; obtain ⟨y0, y1, y2, y3, y4, y5, y6, y7, y8, y9⟩ := z2a hR_; obtain ⟨f0, f1, f2, f3, f4, f5, f6, f7, f8, f9⟩ := v0i hR_; have HR2 := aq (show (V2.setCell ⟨g, 4, none⟩ (.string x2.1)).heap[g]? = some (RB { rs0 with lang := a, vE := vE, scr := x2.1 } A2 x2.2.length c2 e) from q0l hR_ 4 _ rfl); have HP2 := aq (hP_.keep hR_ ((q0j.refl V2 g none).q8c 4 (.string x2.1))); have HB2 := aq (q0r (j := 4) (v := (.string x2.1)) hB_ hg); have hkk := hK_.q8c 4 (.string x2.1); have HK2 := aq (HK1.out.trans hkk (.inl rfl)); have HOE := aq (z2k HOE.out HR1.out (by decide) hkk); clear hkk; clear hR_ hP_ hB_ hK_)
         | (go_at_call 128; clear y0 y1 y2 y3 y4 y5 y6 y7 y8 y9 f0 f1 f2 f3 f4 f5 f6 f7 f8 f9; refine (z1a g A3 c3 e { rs0 with lang := a, vE := vE, scr := x2.1, reg := x3.1 } x3.2 w0 _ HB3.out hg hc3 HR3.out HP3.out hl3 rfl).mono ?_; rintro e3 V4 hpost; rw [HV.out] at hpost; obtain ⟨v, hx, rfl, vV, hOV, hVV, ⟨⟨A4, c4, hc4, hR_, hP_⟩, hB_, hK_⟩⟩ := hpost.resolve_left (by rintro ⟨x, hx, -⟩; cases hx); cases hx; have HOE := aq (z2k HOE.out HR3.out (by decide) hK_); have HOV := aq hOV; have HR4 := aq hR_; have HP4 := aq hP_; have HB4 := aq hB_; have HK4 := aq (HK3.out.trans hK_ (.inl rfl)); clear hOV hVV hpost; clear hR_ hP_ hB_ hK_)
         | (go_at_call 129; refine (z1p g A4 c4 e { rs0 with lang := a, vE := vE, scr := x2.1, reg := x3.1, vV := vV } v4.2 w0 V4 HB4.out hg hc4 HR4.out HP4.out hl4 rfl).mono ?_; rintro e3 V5 hpost; rw [HZ.out] at hpost; obtain ⟨v, hx, rfl, vX, xs, hxs, hOX, ⟨⟨A5, c5, hc5, hR_, hP_⟩, hB_, hK_⟩⟩ := hpost.resolve_left (by rintro ⟨x, hx, -⟩; cases hx); cases hx; have HOE := aq (z2k HOE.out HR4.out (by decide) hK_); have HOV := aq (z2k HOV.out HR4.out (by decide) hK_); have HOX := aq hOX; have HR5 := aq hR_; have HP5 := aq hP_; have HB5 := aq hB_; have HK5 := aq (HK4.out.trans hK_ (.inl rfl)); clear hOX hpost; clear hR_ hP_ hB_ hK_))
        go_meet
        exact ⟨{ rs0 with lang := a, vE := vE, scr := x2.1, reg := x3.1, vV := vV, vX := vX }, z5.2, { lang := a, extl := x1.1, scr := x2.1, reg := x3.1, vars := v4.1, exts := z5.1 }, A5, c5, rfl, rfl, HR9.out, hc5, hl5, ⟨rfl, rfl, rfl, HOE.out, HOV.out, ⟨xs, hxs, HOX.out⟩, q3a _ _ _ _⟩, HR5, HP5, HB5, HK5⟩
 case rest =>
  clear HR0 HP0 HB0 HR_ HY
  obtain ⟨s, m5, t0, A5, c5, hs, ht, hr, hc5, hl5, HTG, HR5, HP5, HB5, HK5⟩ := hcut
  obtain ⟨y, hy⟩ : ∃ y, y = q3s m5 := ⟨_, rfl⟩
  have HY := aq hy
  have hyx := k3z y
  obtain ⟨z0, -⟩ := z2a HR5.out
  clear hy
  by_cases hx : y = xB
  · rw [decide_eq_true hx] at hyx
    obtain ⟨x, m, rfl, -, -⟩ := z2v (HY.out.symm.trans hx) (by decide)
    have hx' : q3s (x :: m) = xB := HY.out.symm.trans hx
    clear hx
    have hlm : m.length ≤ 1000000 := by simp only [List.length_cons] at hl5; omega
    by_cases hrow : (rowP q2b m).1 = []
    · have HRR := aq (hr.trans (k8j hx' hrow))
      clear hr hx' z0
      go_wp2_with (first
       | (go_at_call 123; refine (q2s g A5 c5 e s (x :: m) _ (by exact HR5.out) (by exact HP5.out)).mono ?_; rintro e3 w3 ⟨rfl, ⟨nd5, rfl⟩⟩; rw [← HY.out])
       | (go_at_call 130; refine (z1s g A5 c5 e s x m w0 _ (by exact q0d HB5.out _) hg hc5 (by exact HR5.out) (by exact HP5.out)).mono ?_; rintro e3 V6 ⟨rfl, ⟨⟨A6, c6, hc6, hR_, hP_⟩, hB_, hK_⟩⟩; have HTG := aq (z5b.keep HTG.out HR5.out ((q0i (q0j.refl wc g none) _).trans hK_ (.inl rfl))); have HR6 := aq hR_; have HP6 := aq hP_; have HB6 := aq hB_; have HK6 := aq (HK5.out.trans ((q0i (q0j.refl wc g none) _).trans hK_ (.inl rfl)) (.inl rfl)); clear hR_ hP_ hB_ hK_)
       | (go_at_call 131; refine (v8n _ q2b z4f g A6 c6 e s m w0 V6 HB6.out hg hc6 HR6.out HP6.out hlm hrow).mono ?_; rintro e3 V7 hbad; have HBad := aq (hbad.after HK6.out); clear hbad; obtain ⟨p, he3, -⟩ := HBad.out; subst he3))
      exact ⟨rfl, .inl ⟨_, HRR.out, HBad.out⟩⟩
    · by_cases h2 : (rowP q2b m).2 = []
      · have HRR := aq (hr.trans (k6r hx' hrow h2))
        have hz : (rowP q2b m).2.length = 0 := by rw [h2]; rfl
        have d0 : decide ((0 : Int) < ((rowP q2b m).2.length : Int)) = false := decide_eq_false (by omega)
        have d0n : decide (0 < (rowP q2b m).2.length) = false := decide_eq_false (by omega)
        clear hr hx' z0 hz
        go_wp2_with (first
         | (go_at_call 123; refine (q2s g A5 c5 e s (x :: m) _ (by exact HR5.out) (by exact HP5.out)).mono ?_; rintro e3 w3 ⟨rfl, ⟨nd5, rfl⟩⟩; rw [← HY.out])
         | (go_at_call 130; refine (z1s g A5 c5 e s x m w0 _ (by exact q0d HB5.out _) hg hc5 (by exact HR5.out) (by exact HP5.out)).mono ?_; rintro e3 V6 ⟨rfl, ⟨⟨A6, c6, hc6, hR_, hP_⟩, hB_, hK_⟩⟩; have HTG := aq (z5b.keep HTG.out HR5.out ((q0i (q0j.refl wc g none) _).trans hK_ (.inl rfl))); have HR6 := aq hR_; have HP6 := aq hP_; have HB6 := aq hB_; have HK6 := aq (HK5.out.trans ((q0i (q0j.refl wc g none) _).trans hK_ (.inl rfl)) (.inl rfl)); clear hR_ hP_ hB_ hK_)
         | (go_at_call 131; refine (z7j _ q2b z4f g A6 c6 e s m w0 V6 HB6.out hg hc6 HR6.out HP6.out hlm hrow).mono ?_; rintro e3 V7 ⟨vR, rfl, hOR, hVR, ⟨⟨A7, c7, hc7, hR_, hP_⟩, hB_, hK_⟩⟩; obtain ⟨VR, dR, eR⟩ := q0u hOR; subst eR; obtain ⟨y0, y1, y2, y3, y4, y5, y6, y7, y8, y9⟩ := z2a hR_; obtain ⟨f0, f1, f2, f3, f4, f5, f6, f7, f8, f9⟩ := v0i hR_; have HR7 := aq (show (V7.setCell ⟨g, 8, none⟩ (.slice VR (rowP q2b m).1.length dR)).heap[g]? = some (RB { s with vR := (.slice VR (rowP q2b m).1.length dR) } A7 (rowP q2b m).2.length c7 e) from q0l hR_ 8 _ rfl); have HP7 := aq (hP_.keep hR_ ((q0j.refl V7 g none).q8c 8 (.slice VR (rowP q2b m).1.length dR))); have HB7 := aq (q0r (j := 8) (v := (.slice VR (rowP q2b m).1.length dR)) hB_ hg); have hkk := hK_.q8c 8 (.slice VR (rowP q2b m).1.length dR); have HK7 := aq (HK6.out.trans hkk (.inl rfl)); have HTG := aq (z5b.keep HTG.out HR6.out hkk); have HOR := aq (z2k hOR hR_ (by decide) ((q0j.refl V7 g none).q8c 8 (.slice VR (rowP q2b m).1.length dR))); clear hkk hOR hVR; clear hR_ hP_ hB_ hK_))
        go_end0
        refine .inr ⟨_, HRR.out, rfl, { s with vR := .slice VR (rowP q2b m).1.length dR }, ?_, ?_⟩
        · obtain ⟨g1, g2, g3, g4, g5, g6, g7⟩ := HTG.out
          exact ⟨g1, g2, g3, g4, g5, g6, HOR.out⟩
        · exact ⟨⟨A7, c7, Nat.zero_le _, by have h := HR7.out; rw [h2] at h; exact h, PG.nil _ _⟩, HB7.out, HK7.out⟩
      · have HRR := aq (hr.trans (k0x hx' hrow h2))
        have d0 : decide ((0 : Int) < ((rowP q2b m).2.length : Int)) = true := decide_eq_true (by have : (rowP q2b m).2.length ≠ 0 := fun z => h2 (List.eq_nil_of_length_eq_zero z); omega)
        have d0n : decide (0 < (rowP q2b m).2.length) = true := decide_eq_true (by have : (rowP q2b m).2.length ≠ 0 := fun z => h2 (List.eq_nil_of_length_eq_zero z); omega)
        clear hr hx' z0
        go_wp2_with (first
         | (go_at_call 123; refine (q2s g A5 c5 e s (x :: m) _ (by exact HR5.out) (by exact HP5.out)).mono ?_; rintro e3 w3 ⟨rfl, ⟨nd5, rfl⟩⟩; rw [← HY.out])
         | (go_at_call 130; refine (z1s g A5 c5 e s x m w0 _ (by exact q0d HB5.out _) hg hc5 (by exact HR5.out) (by exact HP5.out)).mono ?_; rintro e3 V6 ⟨rfl, ⟨⟨A6, c6, hc6, hR_, hP_⟩, hB_, hK_⟩⟩; have HTG := aq (z5b.keep HTG.out HR5.out ((q0i (q0j.refl wc g none) _).trans hK_ (.inl rfl))); have HR6 := aq hR_; have HP6 := aq hP_; have HB6 := aq hB_; have HK6 := aq (HK5.out.trans ((q0i (q0j.refl wc g none) _).trans hK_ (.inl rfl)) (.inl rfl)); clear hR_ hP_ hB_ hK_)
         | (go_at_call 131; refine (z7j _ q2b z4f g A6 c6 e s m w0 V6 HB6.out hg hc6 HR6.out HP6.out hlm hrow).mono ?_; rintro e3 V7 ⟨vR, rfl, hOR, hVR, ⟨⟨A7, c7, hc7, hR_, hP_⟩, hB_, hK_⟩⟩; obtain ⟨VR, dR, eR⟩ := q0u hOR; subst eR; obtain ⟨y0, y1, y2, y3, y4, y5, y6, y7, y8, y9⟩ := z2a hR_; obtain ⟨f0, f1, f2, f3, f4, f5, f6, f7, f8, f9⟩ := v0i hR_; have HR7 := aq (show (V7.setCell ⟨g, 8, none⟩ (.slice VR (rowP q2b m).1.length dR)).heap[g]? = some (RB { s with vR := (.slice VR (rowP q2b m).1.length dR) } A7 (rowP q2b m).2.length c7 e) from q0l hR_ 8 _ rfl); have HP7 := aq (hP_.keep hR_ ((q0j.refl V7 g none).q8c 8 (.slice VR (rowP q2b m).1.length dR))); have HB7 := aq (q0r (j := 8) (v := (.slice VR (rowP q2b m).1.length dR)) hB_ hg); have hkk := hK_.q8c 8 (.slice VR (rowP q2b m).1.length dR); have HK7 := aq (HK6.out.trans hkk (.inl rfl)); have HTG := aq (z5b.keep HTG.out HR6.out hkk); have HOR := aq (z2k hOR hR_ (by decide) ((q0j.refl V7 g none).q8c 8 (.slice VR (rowP q2b m).1.length dR))); clear hkk hOR hVR; clear hR_ hP_ hB_ hK_)
         | (go_at_call 133; refine (v3b g A7 c7 e { s with vR := (.slice VR (rowP q2b m).1.length dR) } (rowP q2b m).2 w0 _ (by exact HB7.out) (by exact HR7.out) (by exact HP7.out)).mono ?_; rintro e3 V8 hbad; have HBad := aq (hbad.after HK7.out); clear hbad; obtain ⟨p, he3, -⟩ := HBad.out; subst he3))
        exact ⟨rfl, .inl ⟨_, HRR.out, HBad.out⟩⟩
  · rw [decide_eq_false hx] at hyx
    have hx' : q3s m5 ≠ xB := fun h => hx (HY.out.trans h)
    clear hx
    by_cases hm : m5 = []
    · have HRR := aq (hr.trans (k1z hx' hm))
      have d0 : decide ((0 : Int) < (m5.length : Int)) = false := decide_eq_false (by rw [hm]; simp)
      have d0n : decide (0 < m5.length) = false := decide_eq_false (by rw [hm]; simp)
      clear hr hx'
      go_wp2_with (first
       | (go_at_call 123; refine (q2s g A5 c5 e s m5 _ (by exact HR5.out) (by exact HP5.out)).mono ?_; rintro e3 w3 ⟨rfl, ⟨nd5, rfl⟩⟩; rw [← HY.out]))
      go_end0
      refine .inr ⟨_, HRR.out, rfl, s, ?_, ⟨A5, c5, Nat.zero_le _, by have h := HR5.out; rw [hm] at h; exact h, PG.nil _ _⟩, q0d HB5.out _, q0i HK5.out _⟩
      obtain ⟨g1, g2, g3, g4, g5, g6, g7⟩ := HTG.out
      exact ⟨g1, g2, g3, g4, g5, g6, by rw [hs]; exact q3a _ _ _ _⟩
    · have HRR := aq (hr.trans (k2v hx' hm))
      have d0 : decide ((0 : Int) < (m5.length : Int)) = true := decide_eq_true (by have : m5.length ≠ 0 := fun z => hm (List.eq_nil_of_length_eq_zero z); omega)
      have d0n : decide (0 < m5.length) = true := decide_eq_true (by have : m5.length ≠ 0 := fun z => hm (List.eq_nil_of_length_eq_zero z); omega)
      clear hr hx'
      go_wp2_with (first
       | (go_at_call 123; refine (q2s g A5 c5 e s m5 _ (by exact HR5.out) (by exact HP5.out)).mono ?_; rintro e3 w3 ⟨rfl, ⟨nd5, rfl⟩⟩; rw [← HY.out])
       | (go_at_call 133; refine (v3b g A5 c5 e s m5 w0 _ (by exact q0d HB5.out _) (by exact HR5.out) (by exact HP5.out)).mono ?_; rintro e3 V8 hbad; have HBad := aq (hbad.after (q0i HK5.out _)); clear hbad; obtain ⟨p, he3, -⟩ := HBad.out; subst he3))
      exact ⟨rfl, .inl ⟨_, HRR.out, HBad.out⟩⟩
end Go.Proofs.YtpmcfckechjppaaGreatDoor.Ps
namespace Go.Proofs.YtpmcfckechjppaaGreatDoor.Ps
open Go.RowKit Go.Shelf Go.Proofs.YtpmcfckechjppaaGreatDoorW.PrintWords Go.Proofs.YtpmcfckechjppaaGreatDoorW.PrintLast Go.Proofs.YtpmcfckechjppaaGreatDoorW.PrintMore Go.Proofs.YtpmcfckechjppaaGreatDoor.P Go.Proofs.YtpmcfckechjppaaGreatDoor.LikW
open Go.Proofs.YtpmcfckechjppaaGreatDoor.Each Go.Proofs.YtpmcfckechjppaaGreatDoor.Base Go.Proofs.YtpmcfckechjppaaGreatDoor.Pure
def frB (l : List ByteArray) : Bool := (l.drop 1).all fun y => !decide (y.size = 1)
theorem z3z {l : List ByteArray} {i : Nat} {x : ByteArray} (h : l[i]? = some x) (h1 : 1 ≤ i) : (l.take (i + 1)).drop 1 = (l.take i).drop 1 ++ [x] := by
 have hi := (List.getElem?_eq_some_iff.1 h).1
 rw [List.take_add_one, h, List.drop_append_of_le_length (by rw [List.length_take]; omega)]
 rfl
theorem z6h {l : List ByteArray} {i : Nat} {x : ByteArray} (h : l[i]? = some x) (h1 : 1 ≤ i) : frB (l.take (i + 1)) = (frB (l.take i) && !decide (x.size = 1)) := by
 unfold frB
 rw [z3z h h1, List.all_append]
 simp
theorem k8m {l : List ByteArray} {i : Nat} {x : ByteArray} (h : l[i]? = some x) : q7o ByteArray.empty l (i : Int) = x := by
 unfold q7o
 simp [List.getD_eq_getElem?_getD, h]
theorem q8e {W : World} {ad : Addr} {n : Nat} {l : List ByteArray} (hC : Kd.C Kd.string W (some ad) n l) (hn : n = l.length) {i : Nat} {x : ByteArray} (h : l[i]? = some x) : W.cell? (ad.add i) = some (.string x) := by
 have hi := (List.getElem?_eq_some_iff.1 h).1
 obtain ⟨ad', e, hx⟩ := Kd.q2o hC (i : Int) (by omega) (by omega)
 cases e
 rw [k8m h] at hx
 exact hx
theorem v3d (l : List ByteArray) (ad : Addr) (n c : Nat) (w : World) (hn : n = l.length) (hC : Kd.C Kd.string w (some ad) n l) (hb : n ≤ 1000000) : Calls Tryz.prog 70 #[.slice (some ad) n c] w fun e w' => e = .returned (.bool (frB l)) ∧ q0k w w' := by
 have HC := aq hC
 have HN := aq hn
 clear hC hn
 go_enter Tryz.func70, Tryz.ntmps70
 go_wp2
 go_loopw [3] (fun vi wr => ∃ i : Nat, vi = .int .i64 (i : Int) ∧ 1 ≤ i ∧ (i ≤ n ∨ i = 1) ∧ frB (l.take i) = true ∧ w = wr) (fun vi _ => n - (intOf vi).toNat)
 case atStart => exact ⟨1, rfl, by omega, .inr rfl, by unfold frB; cases l <;> simp, rfl⟩
 case round =>
  obtain ⟨i, rfl, h1, h2, hf, rfl⟩ := hrel
  by_cases hi : i < n
  · obtain ⟨x, hx⟩ : ∃ x, l[i]? = some x := ⟨_, List.getElem?_eq_getElem (by rw [← HN.out]; exact hi)⟩
    have hc := q8e HC.out HN.out hx
    have hs := z6h hx h1
    have d1 : decide ((i : Int) < (n : Int)) = true := decide_eq_true (by omega)
    have p0 : (0 ≤ (i : Int)) = True := eq_true (by omega)
    have p1 : ((i : Int) < (n : Int)) = True := eq_true (by omega)
    by_cases h : x.size = 1
    · have d2 : ((x.size : Int) == 1) = true := by simp [h]
      have hv : frB l = false := by
       unfold frB
       rw [← Bool.not_eq_true, List.all_eq_true]
       intro q
       have hm : x ∈ l.drop 1 := by
        rw [List.mem_iff_getElem?]
        exact ⟨i - 1, by rw [List.getElem?_drop, show 1 + (i - 1) = i by omega]; exact hx⟩
       have := q x hm
       simp [h] at this
      have HV := aq hv
      clear hv hs h hx hf
      go_wp2
      go_ret
      exact ⟨by rw [HV.out]; rfl, q0k.refl _⟩
    · have d2 : ((x.size : Int) == 1) = false := by simp; omega
      rw [hf, decide_eq_false h] at hs
      clear hx h hf
      go_wp2
      go_roundw
      case rel => exact ⟨i + 1, by simp, by omega, by omega, hs, trivial⟩
      case measure => simp [intOf]; omega
  · have d1 : decide ((i : Int) < (n : Int)) = false := decide_eq_false (by omega)
    have hv : frB l = true := by
     by_cases e : i ≤ n
     · rwa [List.take_of_length_le (by rw [← HN.out]; omega)] at hf
     · have : l.length ≤ 1 := by rw [← HN.out]; omega
       unfold frB
       rw [List.drop_eq_nil_of_le this]
       rfl
    have HV := aq hv
    clear hv hf
    go_wp2
    go_ret
    exact ⟨by rw [HV.out]; rfl, q0k.refl _⟩
theorem v2b {l : List ByteArray} {i : Nat} {x : ByteArray} (h : l[i]? = some x) : l.drop i = x :: l.drop (i + 1) := by
 have hi := (List.getElem?_eq_some_iff.1 h).1
 rw [List.drop_eq_getElem_cons hi, (List.getElem?_eq_some_iff.1 h).2]
theorem v4a {l : List ByteArray} {i : Nat} {x : ByteArray} (h : x ∈ (l.take i).drop 1) : ∃ j, 1 ≤ j ∧ j < i ∧ l[j]? = some x := by
 obtain ⟨q, hq⟩ := List.mem_iff_getElem?.1 h
 rw [List.getElem?_drop, List.getElem?_take] at hq
 split at hq
 · exact ⟨1 + q, by omega, ‹_›, hq⟩
 · cases hq
theorem mem_seen {l : List ByteArray} {i k : Nat} {y : ByteArray} (h : l[k]? = some y) (h1 : 1 ≤ k) (hk : k < i) : y ∈ (l.take i).drop 1 := by
 rw [List.mem_iff_getElem?]
 exact ⟨k - 1, by rw [List.getElem?_drop, show 1 + (k - 1) = k by omega, List.getElem?_take, if_pos hk]; exact h⟩
theorem k3y {seen : List ByteArray} {x : ByteArray} {fr : Bool} {rest : List ByteArray} (hx : x ≠ xB) (hm : x ∈ seen) (hc : (decide (x.size = 1) || (q6u x && fr)) = true) : q1u seen fr (x :: rest) = true := by
 rw [q1u, if_neg hx, if_pos]
 rw [(z1w _ _).2 hm, hc]
 rfl
theorem j0j {seen : List ByteArray} {x : ByteArray} {fr : Bool} {rest : List ByteArray} (hx : x ≠ xB) (hc : x ∈ seen → (decide (x.size = 1) || (q6u x && fr)) = false) : q1u seen fr (x :: rest) = q1u (seen ++ [x]) (fr && !decide (x.size = 1)) rest := by
 rw [q1u, if_neg hx, if_neg]
 rw [Bool.and_eq_true, z1w]
 rintro ⟨a, b⟩
 rw [hc a] at b
 cases b
theorem j2t {seen : List ByteArray} {x : ByteArray} {fr : Bool} {rest : List ByteArray} (hx : x = xB) : q1u seen fr (x :: rest) = false := by rw [q1u, if_pos hx]
theorem v9p (s : ByteArray) (hs : s.size ≤ 900000) (w : World) : Calls Tryz.prog 30 #[.string s] w fun e w' => e = .returned (.bool (twB (q5r (q5p s)))) ∧ Below w.heap.size w w' := by
 have hls : (q5p s).size ≤ 900000 := by rw [q8i]; exact hs
 obtain ⟨kl, hl⟩ := z0j s (by omega)
 obtain ⟨ks, hk⟩ := z2t (q5p s) hls
 have hlen := z1c (q5p s)
 have hsz := q9o (q5p s)
 obtain ⟨p, l, hpl⟩ := q8k (q5p s)
 have HL := aq (fun W => q0o.calls kl s (q5p s) W (hl kl (Nat.le_refl _)))
 have HK := aq (fun W => q0v.calls ks (q5p s) _ W (hk ks (Nat.le_refl _)))
 generalize q5r (q5p s) = L at *
 clear hl hk
 have ix := j0z p
 have hp0 : L[0]? = some p := by rw [hpl]; rfl
 have hn1 : L.length ≤ 1000000 := by omega
 by_cases hx : p = xB
 · have hv : twB L = false := by rw [hpl, twB, if_pos hx]
   have HV := aq hv
   rw [decide_eq_true hx] at ix
   have hpos : (0 < (L.length : Int)) = True := eq_true (by rw [hpl]; simp only [List.length_cons]; omega)
   have hpos2 : (0 < L.length) = True := eq_true (by rw [hpl]; simp)
   clear hv hx hpl
   go_enter Tryz.func30, Tryz.ntmps30
   go_wp2_with (first
    | (go_at_call 29; refine (HL.out _).mono ?_; rintro e w1 ⟨rfl, hb⟩; have B0 := aq hb; clear hb)
    | (go_at_call 46; refine (HK.out _).mono ?_; rintro e w2 ⟨v, rfl, ho, hb⟩; obtain ⟨A, c, rfl, hc, hC⟩ := Kd.q6o ho; obtain ⟨ad, e, _⟩ := Kd.q2o hC (0 : Int) (by omega) (of_eq_true hpos); subst e; have hx0 := q8e hC rfl hp0; rw [show ad.add 0 = ad from by unfold Addr.add; simp] at hx0; replace B0 := bb B0 hb; clear hb ho hc hC))
   go_ret
   exact ⟨by rw [HV.out]; rfl, B0.out⟩
 · have hv : twB L = q1u [] true l := by rw [hpl, twB, if_neg hx]
   have hst : q1u [] true l = q1u ((L.take 1).drop 1) (frB (L.take 1)) (L.drop 1) := by rw [hpl]; rfl
   have HV := aq hv
   have HST := aq hst
   rw [decide_eq_false hx] at ix
   have hpos : (0 < (L.length : Int)) = True := eq_true (by rw [hpl]; simp only [List.length_cons]; omega)
   have hpos2 : (0 < L.length) = True := eq_true (by rw [hpl]; simp)
   clear hv hx hpl hst
   go_enter Tryz.func30, Tryz.ntmps30
   go_wp2_with (first
    | (go_at_call 29; refine (HL.out _).mono ?_; rintro e w1 ⟨rfl, hb⟩; have B0 := aq hb; clear hb)
    | (go_at_call 46; refine (HK.out _).mono ?_; rintro e w2 ⟨v, rfl, ho, hb⟩; obtain ⟨A, c, rfl, hc, hC⟩ := Kd.q6o ho; obtain ⟨ad, e, _⟩ := Kd.q2o hC (0 : Int) (by omega) (of_eq_true hpos); subst e; have hx0 := q8e hC rfl hp0; rw [show ad.add 0 = ad from by unfold Addr.add; simp] at hx0; replace B0 := bb B0 hb; have HC := aq hC; have HCC := aq hc; clear hb ho hc hC))
   go_loopw [4] (fun vi wr => ∃ i : Nat, vi = .int .i64 (i : Int) ∧ 1 ≤ i ∧ i ≤ L.length ∧ q0c (q1u [] true l = q1u ((L.take i).drop 1) (frB (L.take i)) (L.drop i)) ∧ q0c (Below w2.heap.size w2 wr)) (fun vi _ => L.length - (intOf vi).toNat)
   case atStart => exact ⟨1, rfl, by omega, of_eq_true hpos2, HST, ⟨Below.refl _ _⟩⟩
   case round =>
    clear hx0 HST
    obtain ⟨i, rfl, h1, h2, HI, BI⟩ := hrel
    generalize wr = W5 at *
    by_cases hi : i < L.length
    · obtain ⟨x, hx⟩ : ∃ x, L[i]? = some x := ⟨_, List.getElem?_eq_getElem hi⟩
      have hci := q8e (Kd.q0h HC.out BI.out) rfl hx
      rw [v2b hx] at HI
      have d1 : decide ((i : Int) < (L.length : Int)) = true := decide_eq_true (by omega)
      have p0 : (0 ≤ (i : Int)) = True := eq_true (by omega)
      have p1 : ((i : Int) < (L.length : Int)) = True := eq_true (by omega)
      have p2 : (i < L.length) = True := eq_true hi
      have ixx := j0z x
      by_cases hxx : x = xB
      · rw [decide_eq_true hxx] at ixx
        have HV2 := aq (HV.out.trans (HI.out.trans (j2t hxx)))
        clear hx hxx
        go_wp2
        go_ret
        exact ⟨by rw [HV2.out]; rfl, (bb B0 BI.out).out⟩
      · rw [decide_eq_false hxx] at ixx
        have HX := aq hx
        have HXX := aq hxx
        have HVR := aq (fun W => k3s x W (Nat.le_trans (hsz x (List.mem_of_getElem? hx)) hls))
        have HTK := aq (fun W (hW : Below w2.heap.size w2 W) => show Kd.C Kd.string W (some ad) i (L.take i) from by have h := Kd.k9f (m := i) (Kd.q0h HC.out hW) (by omega); rwa [List.length_take, Nat.min_eq_left (by omega)] at h)
        clear hx hxx
        by_cases hsg : x.size = 1
        · have s1 : ((x.size : Int) == 1) = true := by simp [hsg]
          have SG := aq hsg
          clear hsg
          go_wp2
          go_loopw [6] (fun vk wr => ∃ k : Nat, vk = .int .i64 (k : Int) ∧ 1 ≤ k ∧ k ≤ i ∧ q0c (∀ j, 1 ≤ j → j < k → L[j]? = some x → (decide (x.size = 1) || (q6u x && frB (L.take i))) = false) ∧ q0c (Below w2.heap.size w2 wr)) (fun vk _ => i - (intOf vk).toNat)
          case atStart => exact ⟨1, rfl, by omega, h1, ⟨fun j a b => by omega⟩, BI⟩
          case round =>
           clear hci BI
           obtain ⟨k, rfl, k1, k2, HJ, BK⟩ := hrel
           generalize wr = W6 at *
           by_cases hk : k < i
           · obtain ⟨y, hy⟩ : ∃ y, L[k]? = some y := ⟨_, List.getElem?_eq_getElem (by omega)⟩
             have hck := q8e (Kd.q0h HC.out BK.out) rfl hy
             have hci := q8e (Kd.q0h HC.out BK.out) rfl HX.out
             have dk : decide ((k : Int) < (i : Int)) = true := decide_eq_true (by omega)
             have q0 : (0 ≤ (k : Int)) = True := eq_true (by omega)
             have q1 : ((k : Int) < (L.length : Int)) = True := eq_true (by omega)
             have q2 : (k < L.length) = True := eq_true (by omega)
             have te := z6g y x
             by_cases e : y = x
             · rw [decide_eq_true e] at te
               have HM := aq (mem_seen (e ▸ hy) k1 hk : x ∈ (L.take i).drop 1)
               clear e hy
               have HV2 := aq (HV.out.trans (HI.out.trans (k3y HXX.out HM.out (by rw [decide_eq_true SG.out]; rfl))))
               go_wp2
               repeat (go_quiet (fail))
               try go_wp2
               go_ret
               exact ⟨by rw [HV2.out]; rfl, (bb B0 (w := w) (W := w2) bq).out⟩
             · have HE := aq e
               have HY := aq hy
               rw [decide_eq_false e] at te
               clear e hy
               go_wp2
               repeat (go_quiet (fail))
               try go_wp2
               go_roundw
               case rel => exact ⟨k + 1, by simp, by omega, by omega, ⟨fun j a b q => if ej : j < k then HJ.out j a ej q else by (obtain rfl : j = k := by omega); exact absurd (Option.some.inj (HY.out.symm.trans q)) HE.out⟩, ⟨bq⟩⟩
               case measure => simp [intOf]; omega
           · obtain rfl : k = i := by omega
             have dk : decide ((k : Int) < (k : Int)) = false := decide_eq_false (by omega)
             have hnn := j0j (rest := L.drop (k + 1)) (fr := frB (L.take k)) HXX.out (fun hm => by obtain ⟨j, j1, j2, j3⟩ := v4a hm; exact HJ.out j j1 j2 j3)
             have HNN := aq hnn
             clear hnn
             go_wp2
             go_roundw
             case rel => exact ⟨k + 1, by simp, by omega, by omega, ⟨by rw [HI.out, HNN.out, z3z HX.out k1, z6h HX.out k1]⟩, BK⟩
             case measure => simp [intOf]; omega
        · have s1 : ((x.size : Int) == 1) = false := by simp; omega
          have SG := aq hsg
          clear hsg
          go_wp2
          go_loopw [6] (fun vk wr => ∃ k : Nat, vk = .int .i64 (k : Int) ∧ 1 ≤ k ∧ k ≤ i ∧ q0c (∀ j, 1 ≤ j → j < k → L[j]? = some x → (decide (x.size = 1) || (q6u x && frB (L.take i))) = false) ∧ q0c (Below w2.heap.size w2 wr)) (fun vk _ => i - (intOf vk).toNat)
          case atStart => exact ⟨1, rfl, by omega, h1, ⟨fun j a b => by omega⟩, BI⟩
          case round =>
           clear hci BI
           obtain ⟨k, rfl, k1, k2, HJ, BK⟩ := hrel
           generalize wr = W6 at *
           by_cases hk : k < i
           · obtain ⟨y, hy⟩ : ∃ y, L[k]? = some y := ⟨_, List.getElem?_eq_getElem (by omega)⟩
             have hck := q8e (Kd.q0h HC.out BK.out) rfl hy
             have hci := q8e (Kd.q0h HC.out BK.out) rfl HX.out
             have dk : decide ((k : Int) < (i : Int)) = true := decide_eq_true (by omega)
             have q0 : (0 ≤ (k : Int)) = True := eq_true (by omega)
             have q1 : ((k : Int) < (L.length : Int)) = True := eq_true (by omega)
             have q2 : (k < L.length) = True := eq_true (by omega)
             have te := z6g y x
             by_cases e : y = x
             · rw [decide_eq_true e] at te
               have HM := aq (mem_seen (e ▸ hy) k1 hk : x ∈ (L.take i).drop 1)
               clear e hy
               cases hvr : q6u x with
               | false =>
                rw [hvr] at HVR
                have HF := aq hvr
                clear hvr
                go_wp2_with (first | (go_at_call 69; (with_reducible refine (HVR.out _).mono ?_); rintro e w' ⟨rfl, ⟨nd, rfl⟩⟩; (try first | exact ⟨rfl, _, World.drewN_drewN _ _ _⟩ | exact ⟨rfl, _, Eq.trans (World.drewN_drewN _ _ _) (congrArg (World.drewN _) (Nat.add_assoc _ _ _))⟩)))
                repeat (go_quiet (first | (go_at_call 69; (with_reducible refine (HVR.out _).mono ?_); rintro e w' ⟨rfl, ⟨nd, rfl⟩⟩; (try first | exact ⟨rfl, _, World.drewN_drewN _ _ _⟩ | exact ⟨rfl, _, Eq.trans (World.drewN_drewN _ _ _) (congrArg (World.drewN _) (Nat.add_assoc _ _ _))⟩))))
                try go_wp2
                go_roundw
                case rel => exact ⟨k + 1, by simp, by omega, by omega, ⟨fun j a b q => by rw [decide_eq_false SG.out]; first | rfl | (rw [HF.out]; rfl)⟩, ⟨bq⟩⟩
                case measure => simp [intOf]; omega
               | true =>
                rw [hvr] at HVR
                have HF := aq hvr
                clear hvr
                obtain ⟨fb, hfb⟩ : ∃ b, frB (L.take i) = b := ⟨_, rfl⟩
                have HFR := aq hfb
                clear hfb
                have hil : (i : Int) ≤ (L.length : Int) := by omega
                have hil2 : i ≤ L.length := h2
                obtain ⟨i9, hi9, _, hsz9, _⟩ := info_parts v5m
                have hcut := k9u (P := Tryz.prog) 26 9 .i64 Tryz.underlying26 hi9 (some ad) L.length c (i : Int) (by omega) hil HCC.out
                rw [Int.toNat_natCast] at hcut
                clear hi9 hsz9
                cases fb with
                | true =>
                 have HV2 := aq (HV.out.trans (HI.out.trans (k3y HXX.out HM.out (by rw [decide_eq_false SG.out]; first | rfl | (rw [HF.out]; rfl) | (rw [HFR.out]; rfl) | (rw [HF.out, HFR.out]; rfl)))))
                 go_wp2_with (first | (go_at_call 69; (with_reducible refine (HVR.out _).mono ?_); rintro e w' ⟨rfl, ⟨nd, rfl⟩⟩; (try first | exact ⟨rfl, _, World.drewN_drewN _ _ _⟩ | exact ⟨rfl, _, Eq.trans (World.drewN_drewN _ _ _) (congrArg (World.drewN _) (Nat.add_assoc _ _ _))⟩)) | (go_at_call 70; (with_reducible refine (v3d (L.take i) ad i c _ ?q1 ?q2 ?q3).mono ?_); (case q1 => rw [List.length_take]; omega); (case q2 => exact HTK.out _ bq); (case q3 => omega); rw [HFR.out]; rintro e w' ⟨rfl, ⟨nd, rfl⟩⟩; (try first | exact ⟨rfl, _, World.drewN_drewN _ _ _⟩ | exact ⟨rfl, _, Eq.trans (World.drewN_drewN _ _ _) (congrArg (World.drewN _) (Nat.add_assoc _ _ _))⟩)))
                 repeat (go_quiet (first | (go_at_call 69; (with_reducible refine (HVR.out _).mono ?_); rintro e w' ⟨rfl, ⟨nd, rfl⟩⟩; (try first | exact ⟨rfl, _, World.drewN_drewN _ _ _⟩ | exact ⟨rfl, _, Eq.trans (World.drewN_drewN _ _ _) (congrArg (World.drewN _) (Nat.add_assoc _ _ _))⟩)) | (go_at_call 70; (with_reducible refine (v3d (L.take i) ad i c _ ?q1 ?q2 ?q3).mono ?_); (case q1 => rw [List.length_take]; omega); (case q2 => exact HTK.out _ bq); (case q3 => omega); rw [HFR.out]; rintro e w' ⟨rfl, ⟨nd, rfl⟩⟩; (try first | exact ⟨rfl, _, World.drewN_drewN _ _ _⟩ | exact ⟨rfl, _, Eq.trans (World.drewN_drewN _ _ _) (congrArg (World.drewN _) (Nat.add_assoc _ _ _))⟩))))
                 try go_wp2
                 go_ret
                 exact ⟨by rw [HV2.out]; rfl, (bb B0 (w := w) (W := w2) bq).out⟩
                | false =>
                 go_wp2_with (first | (go_at_call 69; (with_reducible refine (HVR.out _).mono ?_); rintro e w' ⟨rfl, ⟨nd, rfl⟩⟩; (try first | exact ⟨rfl, _, World.drewN_drewN _ _ _⟩ | exact ⟨rfl, _, Eq.trans (World.drewN_drewN _ _ _) (congrArg (World.drewN _) (Nat.add_assoc _ _ _))⟩)) | (go_at_call 70; (with_reducible refine (v3d (L.take i) ad i c _ ?q1 ?q2 ?q3).mono ?_); (case q1 => rw [List.length_take]; omega); (case q2 => exact HTK.out _ bq); (case q3 => omega); rw [HFR.out]; rintro e w' ⟨rfl, ⟨nd, rfl⟩⟩; (try first | exact ⟨rfl, _, World.drewN_drewN _ _ _⟩ | exact ⟨rfl, _, Eq.trans (World.drewN_drewN _ _ _) (congrArg (World.drewN _) (Nat.add_assoc _ _ _))⟩)))
                 repeat (go_quiet (first | (go_at_call 69; (with_reducible refine (HVR.out _).mono ?_); rintro e w' ⟨rfl, ⟨nd, rfl⟩⟩; (try first | exact ⟨rfl, _, World.drewN_drewN _ _ _⟩ | exact ⟨rfl, _, Eq.trans (World.drewN_drewN _ _ _) (congrArg (World.drewN _) (Nat.add_assoc _ _ _))⟩)) | (go_at_call 70; (with_reducible refine (v3d (L.take i) ad i c _ ?q1 ?q2 ?q3).mono ?_); (case q1 => rw [List.length_take]; omega); (case q2 => exact HTK.out _ bq); (case q3 => omega); rw [HFR.out]; rintro e w' ⟨rfl, ⟨nd, rfl⟩⟩; (try first | exact ⟨rfl, _, World.drewN_drewN _ _ _⟩ | exact ⟨rfl, _, Eq.trans (World.drewN_drewN _ _ _) (congrArg (World.drewN _) (Nat.add_assoc _ _ _))⟩))))
                 try go_wp2
                 go_roundw
                 case rel => exact ⟨k + 1, by simp, by omega, by omega, ⟨fun j a b q => by rw [decide_eq_false SG.out]; first | rfl | (rw [HF.out]; rfl) | (rw [HFR.out]; rfl) | (rw [HF.out, HFR.out]; rfl)⟩, ⟨bq⟩⟩
                 case measure => simp [intOf]; omega
             · have HE := aq e
               have HY := aq hy
               rw [decide_eq_false e] at te
               clear e hy
               go_wp2
               repeat (go_quiet (fail))
               try go_wp2
               go_roundw
               case rel => exact ⟨k + 1, by simp, by omega, by omega, ⟨fun j a b q => if ej : j < k then HJ.out j a ej q else by (obtain rfl : j = k := by omega); exact absurd (Option.some.inj (HY.out.symm.trans q)) HE.out⟩, ⟨bq⟩⟩
               case measure => simp [intOf]; omega
           · obtain rfl : k = i := by omega
             have dk : decide ((k : Int) < (k : Int)) = false := decide_eq_false (by omega)
             have hnn := j0j (rest := L.drop (k + 1)) (fr := frB (L.take k)) HXX.out (fun hm => by obtain ⟨j, j1, j2, j3⟩ := v4a hm; exact HJ.out j j1 j2 j3)
             have HNN := aq hnn
             clear hnn
             go_wp2
             go_roundw
             case rel => exact ⟨k + 1, by simp, by omega, by omega, ⟨by rw [HI.out, HNN.out, z3z HX.out k1, z6h HX.out k1]⟩, BK⟩
             case measure => simp [intOf]; omega
    · obtain rfl : i = L.length := by omega
      have d1 : decide ((L.length : Int) < (L.length : Int)) = false := decide_eq_false (by omega)
      have HV2 := aq (HV.out.trans (HI.out.trans (by rw [List.drop_length]; rfl : _ = false)))
      go_wp2
      go_ret
      exact ⟨by rw [HV2.out]; rfl, (bb B0 BI.out).out⟩
end Go.Proofs.YtpmcfckechjppaaGreatDoor.Ps
