/- Made by a program of this seat's own (shake.py, merge.py): what the claim leans on: Made06, Text06. -/
import Derived.Test.YtpmcfckechjppaaGreatDoorDd11
import Derived.Test.YtpmcfckechjppaaGreatDoorDd12
import Derived.Deep.CutRange
import Derived.Deep.CutBlock
set_option linter.unusedVariables false
set_option linter.unusedSimpArgs false
set_option maxRecDepth 100000
set_option maxHeartbeats 8000000
namespace Go.Proofs.YtpmcfckechjppaaGreatDoor.Ps
open Go.RowKit Go.Shelf Go.Proofs.YtpmcfckechjppaaGreatDoorW.PrintWords Go.Proofs.YtpmcfckechjppaaGreatDoorW.PrintLast Go.Proofs.YtpmcfckechjppaaGreatDoorW.PrintMore Go.Proofs.YtpmcfckechjppaaGreatDoor.P Go.Proofs.YtpmcfckechjppaaGreatDoor.LikW
def v2y : Bool × List (List Nat × List Nat) := (true, [([], []), ([], []), ([1], [1]), ([0, 2, 0], [0, 2]), ([3], []), ([], []), ([5], [5]), ([4, 6, 4], [4, 6]), ([7], []), ([], []), ([9], [9]), ([8, 10, 8], [8, 10]), ([3, 7, 11], [3, 7, 11]), ([], []), ([13, 12, 11, 0, 1, 2, 3, 4, 5, 6, 7, 8, 9, 10, 11, 12, 13], [12, 13])])
def k3g : List Nat := [0, 0, 2, 7, 15, 0, 32, 127, 255, 0, 512, 2047, 4095, 0, 16383]
theorem v5u : q9c .any (opsOf Tryz.f11 1) = v2y := by kernel_rfl
theorem v1x : q6y v2y.2 k3g = true := by kernel_rfl
def v1n (x : ByteArray) : List Value := [.string x]
theorem v2i {W : World} {B : Nat} {T : TypeId} {m : Nat × Nat} (xs : List ByteArray) (hn : xs.length ≤ 9223372036854775807) (h : W.heap[B]? = some (.cells (xs.flatMap v1n).toArray T m)) : Kd.C Kd.string W (some ⟨B, 0, none⟩) xs.length xs := v6y Kd.string v1n (fun _ => rfl) (fun w x => rfl) xs hn h
def q3r : List ByteArray := [⟨#[101, 110]⟩, ⟨#[122, 104]⟩, ⟨#[115, 114]⟩, ⟨#[117, 110, 100]⟩, ⟨#[105, 119]⟩, ⟨#[110, 111]⟩, ⟨#[115, 103, 110]⟩, ⟨#[109, 111]⟩, ⟨#[104, 97, 110, 116]⟩, ⟨#[97, 98, 99, 100, 101, 102, 103, 104]⟩, ⟨#[100, 101]⟩, ⟨#[114, 111, 111, 116]⟩]
theorem v1c : q3r.length = 12 := rfl
def q3b : List ByteArray := [⟨#[]⟩, ⟨#[]⟩, ⟨#[108, 97, 116, 110]⟩, ⟨#[99, 121, 114, 108]⟩, ⟨#[104, 97, 110, 115]⟩, ⟨#[113, 97, 97, 105]⟩, ⟨#[104, 97, 110, 116]⟩]
theorem z7c : q3b.length = 7 := rfl
def q3c : List ByteArray := [⟨#[]⟩, ⟨#[]⟩, ⟨#[117, 115]⟩, ⟨#[103, 98]⟩, ⟨#[52, 49, 57]⟩, ⟨#[100, 100]⟩, ⟨#[99, 110]⟩, ⟨#[98, 114]⟩, ⟨#[115, 117]⟩]
theorem z6z : q3c.length = 9 := rfl
def q4q : List ByteArray := [⟨#[49, 57, 57, 52]⟩, ⟨#[104, 101, 112, 108, 111, 99]⟩, ⟨#[102, 111, 110, 105, 112, 97]⟩, ⟨#[97, 114, 101, 118, 101, 108, 97]⟩, ⟨#[49, 97, 50, 98]⟩, ⟨#[115, 99, 111, 117, 115, 101]⟩]
theorem z5a : q4q.length = 6 := rfl
def q7m : List ByteArray := [⟨#[99, 97]⟩, ⟨#[98, 117, 100, 100, 104, 105, 115, 116]⟩, ⟨#[99, 111]⟩, ⟨#[116, 114, 117, 101]⟩, ⟨#[107, 110]⟩, ⟨#[112, 104, 111, 110, 101, 98, 107]⟩, ⟨#[109, 48]⟩, ⟨#[101, 110]⟩, ⟨#[97, 98, 49]⟩, ⟨#[105, 115, 108, 97, 109, 105, 99, 99]⟩, ⟨#[104, 48]⟩]
theorem v2d : q7m.length = 11 := rfl
def v8x : List ByteArray := [⟨#[121, 117, 101]⟩, ⟨#[99, 109, 110]⟩, ⟨#[109, 105, 110]⟩]
theorem k2p : v8x.length = 3 := rfl
def z6l : List ByteArray := [⟨#[97]⟩, ⟨#[117, 115]⟩, ⟨#[112, 114, 105, 118, 97, 116, 101, 49]⟩, ⟨#[120]⟩]
theorem v4i : z6l.length = 4 := rfl
theorem v0l (w : World) : Calls Tryz.prog 35 #[] w fun e W => (∃ B, e = .returned (.slice (some ⟨B, 0, none⟩) 12 12) ∧ Kd.C Kd.string W (some ⟨B, 0, none⟩) q3r.length q3r) ∧ Below w.heap.size w W := by
 refine (q4i (w' := w.alloc (.cells (q3r.flatMap v1n).toArray 9)) (v := .slice (some ⟨w.heap.size, 0, none⟩) 12 12) Tryz.func35 0 rfl (by kernel_rfl)).mono ?_
 rintro e W ⟨rfl, rfl⟩
 exact ⟨⟨_, rfl, v2i q3r (by decide) (World.alloc_heap_new w _)⟩, q0b (Below.refl _ _) _⟩
theorem z7o (w : World) : Calls Tryz.prog 36 #[] w fun e W => (∃ B, e = .returned (.slice (some ⟨B, 0, none⟩) 7 7) ∧ Kd.C Kd.string W (some ⟨B, 0, none⟩) q3b.length q3b) ∧ Below w.heap.size w W := by
 refine (q4i (w' := w.alloc (.cells (q3b.flatMap v1n).toArray 9)) (v := .slice (some ⟨w.heap.size, 0, none⟩) 7 7) Tryz.func36 0 rfl (by kernel_rfl)).mono ?_
 rintro e W ⟨rfl, rfl⟩
 exact ⟨⟨_, rfl, v2i q3b (by decide) (World.alloc_heap_new w _)⟩, q0b (Below.refl _ _) _⟩
theorem z7k (w : World) : Calls Tryz.prog 37 #[] w fun e W => (∃ B, e = .returned (.slice (some ⟨B, 0, none⟩) 9 9) ∧ Kd.C Kd.string W (some ⟨B, 0, none⟩) q3c.length q3c) ∧ Below w.heap.size w W := by
 refine (q4i (w' := w.alloc (.cells (q3c.flatMap v1n).toArray 9)) (v := .slice (some ⟨w.heap.size, 0, none⟩) 9 9) Tryz.func37 0 rfl (by kernel_rfl)).mono ?_
 rintro e W ⟨rfl, rfl⟩
 exact ⟨⟨_, rfl, v2i q3c (by decide) (World.alloc_heap_new w _)⟩, q0b (Below.refl _ _) _⟩
theorem z5g (w : World) : Calls Tryz.prog 38 #[] w fun e W => (∃ B, e = .returned (.slice (some ⟨B, 0, none⟩) 6 6) ∧ Kd.C Kd.string W (some ⟨B, 0, none⟩) q4q.length q4q) ∧ Below w.heap.size w W := by
 refine (q4i (w' := w.alloc (.cells (q4q.flatMap v1n).toArray 9)) (v := .slice (some ⟨w.heap.size, 0, none⟩) 6 6) Tryz.func38 0 rfl (by kernel_rfl)).mono ?_
 rintro e W ⟨rfl, rfl⟩
 exact ⟨⟨_, rfl, v2i q4q (by decide) (World.alloc_heap_new w _)⟩, q0b (Below.refl _ _) _⟩
theorem v1w (w : World) : Calls Tryz.prog 39 #[] w fun e W => (∃ B, e = .returned (.slice (some ⟨B, 0, none⟩) 11 11) ∧ Kd.C Kd.string W (some ⟨B, 0, none⟩) q7m.length q7m) ∧ Below w.heap.size w W := by
 refine (q4i (w' := w.alloc (.cells (q7m.flatMap v1n).toArray 9)) (v := .slice (some ⟨w.heap.size, 0, none⟩) 11 11) Tryz.func39 0 rfl (by kernel_rfl)).mono ?_
 rintro e W ⟨rfl, rfl⟩
 exact ⟨⟨_, rfl, v2i q7m (by decide) (World.alloc_heap_new w _)⟩, q0b (Below.refl _ _) _⟩
theorem z2j (l : List ByteArray) (h0 : l ≠ []) (h1 : l.length ≤ 1000) (n : Int) : ∃ x, x ∈ l ∧ q2n.f l n = some x := by
 have hp : 0 < l.length := List.length_pos_iff.2 h0
 unfold q2n.f
 have lo := Int.lt_tmod_of_pos n (show (0 : Int) < l.length by omega)
 have up := Int.tmod_lt_of_pos n (show (0 : Int) < l.length by omega)
 have w : wrap64 (Int.tmod n l.length + l.length) = Int.tmod n l.length + l.length := by unfold wrap64; omega
 rw [w]
 have r0 := Int.tmod_nonneg (l.length : Int) (show 0 ≤ Int.tmod n l.length + l.length by omega)
 have r1 := Int.tmod_lt_of_pos (Int.tmod n l.length + l.length) (show (0 : Int) < l.length by omega)
 rw [if_neg (by omega), if_pos r0, if_pos r1]
 generalize Int.tmod (Int.tmod n l.length + l.length) l.length = r at r0 r1
 refine ⟨q7o ByteArray.empty l r, ?_, rfl⟩
 have hr : r.toNat < l.length := by omega
 unfold q7o
 simp only [List.getD_eq_getElem?_getD, List.getElem?_eq_getElem hr, Option.getD_some]
 exact List.getElem_mem hr
theorem z2p {B : Nat} (l : List ByteArray) (n : Nat) (a : Int) (x : ByteArray) (h : q2n.f l a = some x) (hn : l.length = n) (w : World) (hC : Kd.C Kd.string w (some ⟨B, 0, none⟩) l.length l) :
 Calls Tryz.prog 34 #[.slice (some ⟨B, 0, none⟩) n n, .int .i64 a] w fun e w' => e = .returned (.string x) ∧ Below w.heap.size w w' := by
 subst hn
 exact (q2n.calls _ l.length l a x w hC (Nat.le_refl _) h).mono (fun e w' h => ⟨h.1, h.2.below⟩)
theorem k7y (x : ByteArray) (hx : x ∈ q3r) : ∃ y, q1c.f 20 x = some y ∧ y.size ≤ 9 := by
 have h := List.all_eq_true.1 (show (q3r.all fun x => ((q1c.f 20 x).map fun y => Nat.ble y.size 9) == some true) = true by kernel_rfl) x hx
 rw [beq_iff_eq] at h
 obtain ⟨y, h1, h2⟩ := Option.map_eq_some_iff.1 h
 exact ⟨y, h1, Nat.le_of_ble_eq_true h2⟩
theorem k3b (l : List ByteArray) (h : (l.all fun x => Nat.ble x.size 9) = true) (x : ByteArray) (hx : x ∈ l) : x.size ≤ 9 := Nat.le_of_ble_eq_true (List.all_eq_true.1 h x hx)
theorem z0r {B : Nat} (l : List ByteArray) (n : Nat) (a : Int) (h0 : l ≠ []) (h1 : l.length ≤ 1000) (h9 : (l.all fun x => Nat.ble x.size 9) = true) (hn : l.length = n) (w : World) (hC : Kd.C Kd.string w (some ⟨B, 0, none⟩) l.length l) :
 Calls Tryz.prog 34 #[.slice (some ⟨B, 0, none⟩) n n, .int .i64 a] w fun e w' => ∃ x : ByteArray, e = .returned (.string x) ∧ x.size ≤ 9 ∧ Below w.heap.size w w' := by
 obtain ⟨x, hm, hx⟩ := z2j l h0 h1 a
 exact (z2p l n a x hx hn w hC).mono fun e w' h => ⟨x, h.1, k3b l h9 x hm, h.2⟩
theorem v3u {W : World} {g : Nat} {t : TypeId} (h : W.heap[g]? = some (.cells #[.string ⟨#[117]⟩, .string ⟨#[116]⟩, .string ⟨#[97]⟩, .string ⟨#[57]⟩] t (0, 0))) (i : Nat) (hi : i < 3) : ∃ s : ByteArray, W.cell? ⟨g, i, none⟩ = some (.string s) ∧ s.size ≤ 9 := by
 obtain ⟨h0, h1, h2, h3⟩ := cz4 h
 obtain rfl | rfl | rfl : i = 0 ∨ i = 1 ∨ i = 2 := by omega
 · exact ⟨_, h0, by decide⟩
 · exact ⟨_, h1, by decide⟩
 · exact ⟨_, h2, by decide⟩
theorem k1l {P : Program} {ops : Array Oper} {o : Oper} {a : Act} {Q : Exit → Act → World → Prop} {Kc : Act → World → Prop} {W : World} {cs : Array Value} {e : TypeId} {n : Nat} (hw : Region.wanted o (yielded ops a.tmps) = true) {N : Tmp} (_hd : o.dst = some N) (hrun : (execOp a.eval o).run P W = .ok (.value (.slice (some ⟨W.heap.size, 0, none⟩) n n)) (W.alloc (.cells cs e (0, 0))))
 (h : ∀ g, g = W.heap.size → ∀ w1, w1.heap[g]? = some (.cells cs e (0, 0)) → Below W.heap.size W w1 → Kc (a.put o.dst (.slice (some ⟨g, 0, none⟩) n n)) w1) : if Region.wanted o (yielded ops a.tmps) = true then Oper.wp P o a W Kc Q else Kc (a.put o.dst undef) W :=
 z5o hw hrun (h _ rfl _ (z6p W _) (q0b (Below.refl _ _) _))
theorem z1t (a0 a1 a2 a3 a7 : Int) (A4 A5 A6 : Option Addr) (c4 c5 c6 : Nat) (l4 l5 l6 : List Int) (w : World) (h4 : Kd.C (Kd.int .i64) w A4 l4.length l4) (h5 : Kd.C (Kd.int .i64) w A5 l5.length l5) (h6 : Kd.C (Kd.int .i64) w A6 l6.length l6) :
 Calls Tryz.prog 11 #[.agg #[.int .i64 a0, .int .i64 a1, .int .i64 a2, .int .i64 a3, .slice A4 l4.length c4, .slice A5 l5.length c5, .slice A6 l6.length c6, .int .i64 a7]] w fun e w' => k1e w.heap.size w e w' := by
 have hu44 := Tryz.underlying33
 have hu27 := Tryz.underlying24
 have hu74 := Tryz.underlying65
 obtain ⟨x0, x0m, x0_⟩ := z2j q3r (by decide) (by decide) a0
 replace x0_ := aq x0_
 obtain ⟨x2, x2m, x2_⟩ := z2j q3b (by decide) (by decide) a2
 replace x2_ := aq x2_
 obtain ⟨x3, x3m, x3_⟩ := z2j q3c (by decide) (by decide) a3
 replace x3_ := aq x3_
 have TX := aq (k7y x0 x0m)
 have HZ := aq (And.intro (k3b q3r (by kernel_rfl) x0 x0m) (And.intro (k3b q3b (by kernel_rfl) x2 x2m) (k3b q3c (by kernel_rfl) x3 x3m)))
 clear x0m x2m x3m
 have B0 := aq (Below.refl w.heap.size w)
 have X4 := aq h4
 have X5 := aq h5
 have X6 := aq h6
 have M4 := Kd.v2m h4
 have M5 := Kd.v2m h5
 have M6 := Kd.v2m h6
 clear h4 h5 h6
 go_enter Tryz.func11, Tryz.ntmps11
 go_wp2_with (first
  | ((with_reducible refine q3l (N := 1) rfl ?_); refine be 1 #[.int .i64 a0, .int .i64 a1, .int .i64 a2, .int .i64 a3, .slice A4 l4.length c4, .slice A5 l5.length c5, .slice A6 l6.length c6, .int .i64 a7] 24 ?_; intro b1 hg v1 hbox hb; have G_b1 := aq (show w.heap.size ≤ b1 by rw [hg]; exact B0.out.size); replace B0 := bb B0 hb; have K_b1 := aq hbox; clear hb hbox hg)
  | ((with_reducible refine q3l (N := 2) rfl ?_); refine be 2 #[.string ⟨#[]⟩, .slice none 0 0, .string ⟨#[]⟩, .string ⟨#[]⟩, .slice none 0 0, .slice none 0 0, .slice none 0 0, .string ⟨#[]⟩] 33 ?_; intro b2 hg v2 hbox hb; have N_b1_b2 := kn K_b1 hg; have G_b2 := aq (show w.heap.size ≤ b2 by rw [hg]; exact B0.out.size); replace K_b1 := kb K_b1 hb; replace B0 := bb B0 hb; have K_b2 := aq hbox; clear hb hbox hg))
 obtain ⟨V, hV⟩ : ∃ V, V = v2.drew := ⟨_, rfl⟩
 have vB : Below v2.heap.size v2 V := by rw [hV]; exact q0m (Below.refl _ _)
 replace K_b1 := kb K_b1 vB
 replace K_b2 := kb K_b2 vB
 replace B0 := bb B0 vB
 have HV := aq hV
 have HB := aq (Below.refl V.heap.size V)
 clear hV vB
 refine q2w (n := 15) (S := fun w' => True) (ds := []) (M 15 0) (by kernel_rfl) rfl rfl trivial (fun hHeld => ?_); refine z3d v5u v1x (fun HT_ HW_ => ?_)
 rw [← HV.out]
 refine k3n [0, 1, 2, 3, 4, 5, 6, 7, 8, 9, 10, 11, 12, 13, 14] (fun a0_ b a w' => ∃ (g0 : Nat) (g4 : Nat) (g8 : Nat) (g13 : Nat) (m0_ : Value) (m4_ : Value) (m8_ : Value) (m13_ : Value), a = q3j a0_ b [(0, 13, m0_), (1, 14, .pointer (some ⟨b1, 0, none⟩)), (2, 15, .int .i64 a0), (3, 16, .string x0), (4, 17, m4_), (5, 18, .pointer (some ⟨b1, 2, none⟩)), (6, 19, .int .i64 a2), (7, 20, .string x2), (8, 21, m8_), (9, 22, .pointer (some ⟨b1, 3, none⟩)), (10, 23, .int .i64 a3), (11, 24, .string x3), (12, 25, .agg #[.string x0, .slice none 0 0, .string x2, .string x3, .slice none 0 0, .slice none 0 0, .slice none 0 0, .string ⟨#[]⟩]), (13, 3, m13_)] ∧ (Below V.heap.size V w') ∧ (b 0 = true → b 3 = false → Kd.C Kd.string w' (some ⟨g0, 0, none⟩) q3r.length q3r) ∧ (b 4 = true → b 7 = false → Kd.C Kd.string w' (some ⟨g4, 0, none⟩) q3b.length q3b) ∧ (b 8 = true → b 11 = false → Kd.C Kd.string w' (some ⟨g8, 0, none⟩) q3c.length q3c) ∧ (b 13 = true → b 14 = false → w'.heap[g13]? = some (.cells #[.string ⟨#[]⟩, .slice none 0 0, .string ⟨#[]⟩, .string ⟨#[]⟩, .slice none 0 0, .slice none 0 0, .slice none 0 0, .string ⟨#[]⟩] 33 (0, 0)) ∧ V.heap.size ≤ g13) ∧ (b 14 = true → w'.heap[g13]? = some (.cells #[.string x0, .slice none 0 0, .string x2, .string x3, .slice none 0 0, .slice none 0 0, .slice none 0 0, .string ⟨#[]⟩] 33 (0, 0)) ∧ V.heap.size ≤ g13) ∧ (b 0 = true → (m0_ : Value) = .slice (some ⟨g0, 0, none⟩) 12 12) ∧ (b 4 = true → (m4_ : Value) = .slice (some ⟨g4, 0, none⟩) 7 7) ∧ (b 8 = true → (m8_ : Value) = .slice (some ⟨g8, 0, none⟩) 9 9) ∧ (b 13 = true → (m13_ : Value) = .pointer (some ⟨g13, 0, none⟩))) HT_.out HW_.out (by kernel_rfl) (by kernel_rfl) ?_ ?_ ?_
 · exact ⟨0, 0, 0, 0, .bool false, .bool false, .bool false, .bool false, by simp only [q3j, Bool.false_eq_true, if_false], HB.out, fun h_ => absurd h_ (by decide), fun h_ => absurd h_ (by decide), fun h_ => absurd h_ (by decide), fun h_ => absurd h_ (by decide), fun h_ => absurd h_ (by decide), fun h_ => absurd h_ (by decide), fun h_ => absurd h_ (by decide), fun h_ => absurd h_ (by decide), fun h_ => absurd h_ (by decide)⟩
 · skip
   clear HB
   refine q1k ?_ ?_
   · rintro b a w' ⟨g0, g4, g8, g13, m0_, m4_, m8_, m13_, ha, Q_HB, Q_C0, Q_C4, Q_C8, Q_A13, Q_B13, Q_X0_, Q_X4_, Q_X8_, Q_X13_⟩ hb_ hon hoff
     refine ⟨_, rfl, fun K hK => ?_⟩
     replace ha := aq ha
     have HB := aq Q_HB
     refine q5j Tryz.func35 (by kernel_rfl) rfl #[] (by rfl) rfl rfl (by first | (simp only [List.map_toArray, List.map_cons, List.map_nil, Act.eval, Array.getD_eq_getD_getElem?, Option.getD_some]; done) | (simp only [List.map_toArray, List.map_cons, List.map_nil, Act.eval, Array.getD_eq_getD_getElem?, Option.getD_some]; rfl)) ?_
     with_reducible refine (v0l _).mono ?_
     rintro e w3 ⟨⟨gb, rfl, hc⟩, hb⟩
     refine ⟨_, rfl, ?_⟩
     refine hK.out _ _ ⟨gb, g4, g8, g13, (.slice (some ⟨gb, 0, none⟩) 12 12), m4_, m8_, m13_, (by rw [ha.out]; exact q1p 0 hb_ rfl rfl rfl), HB.out.trans (hb.mono HB.out.size), fun _ _ => hc, fun h0_ _ => absurd ((hoff 4 (by kernel_rfl)).symm.trans h0_) (by decide), fun h0_ _ => absurd ((hoff 8 (by kernel_rfl)).symm.trans h0_) (by decide), fun h0_ h1_ => ⟨(hb.block _ (q0g (Q_A13 h0_ h1_).1)).trans (Q_A13 h0_ h1_).1, (Q_A13 h0_ h1_).2⟩, fun h0_ => absurd ((hoff 14 (by kernel_rfl)).symm.trans h0_) (by decide), fun _ => rfl, fun h0_ => absurd ((hoff 4 (by kernel_rfl)).symm.trans h0_) (by decide), fun h0_ => absurd ((hoff 8 (by kernel_rfl)).symm.trans h0_) (by decide), Q_X13_⟩
   refine q1k ?_ ?_
   · rintro b a w' ⟨g0, g4, g8, g13, m0_, m4_, m8_, m13_, ha, Q_HB, Q_C0, Q_C4, Q_C8, Q_A13, Q_B13, Q_X0_, Q_X4_, Q_X8_, Q_X13_⟩ hb_ hon hoff
     refine ⟨_, rfl, fun K hK => ?_⟩
     have e1 : a.tmps[1]? = some (.pointer (some ⟨b1, 0, none⟩)) := by rw [ha]; exact (q3t rfl).trans rfl
     replace ha := aq ha
     have HB := aq Q_HB
     refine q2x (w1 := w') (v := .pointer (some ⟨b1, 0, none⟩)) (by rfl) rfl ?_ ?_
     · go_simp
       (try simp only [q6g])
       try rfl
     refine hK.out _ _ ⟨g0, g4, g8, g13, m0_, m4_, m8_, m13_, (by rw [ha.out]; exact q1p 1 hb_ rfl rfl rfl), Q_HB, Q_C0, fun h0_ _ => absurd ((hoff 4 (by kernel_rfl)).symm.trans h0_) (by decide), fun h0_ _ => absurd ((hoff 8 (by kernel_rfl)).symm.trans h0_) (by decide), Q_A13, fun h0_ => absurd ((hoff 14 (by kernel_rfl)).symm.trans h0_) (by decide), Q_X0_, fun h0_ => absurd ((hoff 4 (by kernel_rfl)).symm.trans h0_) (by decide), fun h0_ => absurd ((hoff 8 (by kernel_rfl)).symm.trans h0_) (by decide), Q_X13_⟩
   refine q1k ?_ ?_
   · rintro b a w' ⟨g0, g4, g8, g13, m0_, m4_, m8_, m13_, ha, Q_HB, Q_C0, Q_C4, Q_C8, Q_A13, Q_B13, Q_X0_, Q_X4_, Q_X8_, Q_X13_⟩ hb_ hon hoff
     refine ⟨_, rfl, fun K hK => ?_⟩
     have e14 : a.tmps[14]? = some (.pointer (some ⟨b1, 0, none⟩)) := by rw [ha]; exact q1w (e := (1, 14, .pointer (some ⟨b1, 0, none⟩))) 1 rfl rfl (hon 1 (by kernel_rfl)) rfl
     replace ha := aq ha
     have HB := aq Q_HB
     have hV_ := (HB.out.block _ (q0g K_b1.out)).trans K_b1.out
     obtain ⟨y0, y1, y2, y3, y4, y5, y6, y7⟩ := cz8 hV_
     clear hV_
     refine q2x (w1 := w') (v := .int .i64 a0) (by rfl) rfl ?_ ?_
     · go_simp
       (try simp only [q6g])
       try rfl
     refine hK.out _ _ ⟨g0, g4, g8, g13, m0_, m4_, m8_, m13_, (by rw [ha.out]; exact q1p 2 hb_ rfl rfl rfl), Q_HB, Q_C0, fun h0_ _ => absurd ((hoff 4 (by kernel_rfl)).symm.trans h0_) (by decide), fun h0_ _ => absurd ((hoff 8 (by kernel_rfl)).symm.trans h0_) (by decide), Q_A13, fun h0_ => absurd ((hoff 14 (by kernel_rfl)).symm.trans h0_) (by decide), Q_X0_, fun h0_ => absurd ((hoff 4 (by kernel_rfl)).symm.trans h0_) (by decide), fun h0_ => absurd ((hoff 8 (by kernel_rfl)).symm.trans h0_) (by decide), Q_X13_⟩
   refine q1k ?_ ?_
   · rintro b a w' ⟨g0, g4, g8, g13, m0_, m4_, m8_, m13_, ha, Q_HB, Q_C0, Q_C4, Q_C8, Q_A13, Q_B13, Q_X0_, Q_X4_, Q_X8_, Q_X13_⟩ hb_ hon hoff
     refine ⟨_, rfl, fun K hK => ?_⟩
     have e13 : a.tmps[13]? = some (m0_) := by rw [ha]; exact q1w (e := (0, 13, m0_)) 0 rfl rfl (hon 0 (by kernel_rfl)) rfl
     rw [Q_X0_ (hon 0 (by kernel_rfl))] at e13
     have e15 : a.tmps[15]? = some (.int .i64 a0) := by rw [ha]; exact q1w (e := (2, 15, .int .i64 a0)) 2 rfl rfl (hon 2 (by kernel_rfl)) rfl
     replace ha := aq ha
     have HB := aq Q_HB
     have C0 := aq (Q_C0 (hon 0 (by kernel_rfl)) hb_)
     refine q5j Tryz.func34 (by kernel_rfl) rfl #[.slice (some ⟨g0, 0, none⟩) 12 12, .int .i64 a0] (by rfl) rfl rfl (by first | (simp only [List.map_toArray, List.map_cons, List.map_nil, Act.eval, Array.getD_eq_getD_getElem?, Option.getD_some, e13, e15]; done) | (simp only [List.map_toArray, List.map_cons, List.map_nil, Act.eval, Array.getD_eq_getD_getElem?, Option.getD_some, e13, e15]; rfl)) ?_
     with_reducible refine (z2p q3r 12 a0 x0 x0_.out v1c _ C0.out).mono ?_
     rintro e w3 ⟨rfl, hb⟩
     refine ⟨_, rfl, ?_⟩
     refine hK.out _ _ ⟨g0, g4, g8, g13, m0_, m4_, m8_, m13_, (by rw [ha.out]; exact q1p 3 hb_ rfl rfl rfl), HB.out.trans (hb.mono HB.out.size), fun _ h1_ => absurd ((q7b b 3).symm.trans h1_) (by decide), fun h0_ _ => absurd ((hoff 4 (by kernel_rfl)).symm.trans h0_) (by decide), fun h0_ _ => absurd ((hoff 8 (by kernel_rfl)).symm.trans h0_) (by decide), fun h0_ h1_ => ⟨(hb.block _ (q0g (Q_A13 h0_ h1_).1)).trans (Q_A13 h0_ h1_).1, (Q_A13 h0_ h1_).2⟩, fun h0_ => absurd ((hoff 14 (by kernel_rfl)).symm.trans h0_) (by decide), Q_X0_, fun h0_ => absurd ((hoff 4 (by kernel_rfl)).symm.trans h0_) (by decide), fun h0_ => absurd ((hoff 8 (by kernel_rfl)).symm.trans h0_) (by decide), Q_X13_⟩
   refine q1k ?_ ?_
   · rintro b a w' ⟨g0, g4, g8, g13, m0_, m4_, m8_, m13_, ha, Q_HB, Q_C0, Q_C4, Q_C8, Q_A13, Q_B13, Q_X0_, Q_X4_, Q_X8_, Q_X13_⟩ hb_ hon hoff
     refine ⟨_, rfl, fun K hK => ?_⟩
     replace ha := aq ha
     have HB := aq Q_HB
     refine q5j Tryz.func36 (by kernel_rfl) rfl #[] (by rfl) rfl rfl (by first | (simp only [List.map_toArray, List.map_cons, List.map_nil, Act.eval, Array.getD_eq_getD_getElem?, Option.getD_some]; done) | (simp only [List.map_toArray, List.map_cons, List.map_nil, Act.eval, Array.getD_eq_getD_getElem?, Option.getD_some]; rfl)) ?_
     with_reducible refine (z7o _).mono ?_
     rintro e w3 ⟨⟨gb, rfl, hc⟩, hb⟩
     refine ⟨_, rfl, ?_⟩
     refine hK.out _ _ ⟨g0, gb, g8, g13, m0_, (.slice (some ⟨gb, 0, none⟩) 7 7), m8_, m13_, (by rw [ha.out]; exact q1p 4 hb_ rfl rfl rfl), HB.out.trans (hb.mono HB.out.size), fun _ h1_ => absurd ((hon 3 (by kernel_rfl)).symm.trans h1_) (by decide), fun _ _ => hc, fun h0_ _ => absurd ((hoff 8 (by kernel_rfl)).symm.trans h0_) (by decide), fun h0_ h1_ => ⟨(hb.block _ (q0g (Q_A13 h0_ h1_).1)).trans (Q_A13 h0_ h1_).1, (Q_A13 h0_ h1_).2⟩, fun h0_ => absurd ((hoff 14 (by kernel_rfl)).symm.trans h0_) (by decide), Q_X0_, fun _ => rfl, fun h0_ => absurd ((hoff 8 (by kernel_rfl)).symm.trans h0_) (by decide), Q_X13_⟩
   refine q1k ?_ ?_
   · rintro b a w' ⟨g0, g4, g8, g13, m0_, m4_, m8_, m13_, ha, Q_HB, Q_C0, Q_C4, Q_C8, Q_A13, Q_B13, Q_X0_, Q_X4_, Q_X8_, Q_X13_⟩ hb_ hon hoff
     refine ⟨_, rfl, fun K hK => ?_⟩
     have e1 : a.tmps[1]? = some (.pointer (some ⟨b1, 0, none⟩)) := by rw [ha]; exact (q3t rfl).trans rfl
     replace ha := aq ha
     have HB := aq Q_HB
     refine q2x (w1 := w') (v := .pointer (some ⟨b1, 2, none⟩)) (by rfl) rfl ?_ ?_
     · go_simp
       (try simp only [q6g])
       try rfl
     refine hK.out _ _ ⟨g0, g4, g8, g13, m0_, m4_, m8_, m13_, (by rw [ha.out]; exact q1p 5 hb_ rfl rfl rfl), Q_HB, Q_C0, Q_C4, fun h0_ _ => absurd ((hoff 8 (by kernel_rfl)).symm.trans h0_) (by decide), Q_A13, fun h0_ => absurd ((hoff 14 (by kernel_rfl)).symm.trans h0_) (by decide), Q_X0_, Q_X4_, fun h0_ => absurd ((hoff 8 (by kernel_rfl)).symm.trans h0_) (by decide), Q_X13_⟩
   refine q1k ?_ ?_
   · rintro b a w' ⟨g0, g4, g8, g13, m0_, m4_, m8_, m13_, ha, Q_HB, Q_C0, Q_C4, Q_C8, Q_A13, Q_B13, Q_X0_, Q_X4_, Q_X8_, Q_X13_⟩ hb_ hon hoff
     refine ⟨_, rfl, fun K hK => ?_⟩
     have e18 : a.tmps[18]? = some (.pointer (some ⟨b1, 2, none⟩)) := by rw [ha]; exact q1w (e := (5, 18, .pointer (some ⟨b1, 2, none⟩))) 5 rfl rfl (hon 5 (by kernel_rfl)) rfl
     replace ha := aq ha
     have HB := aq Q_HB
     have hV_ := (HB.out.block _ (q0g K_b1.out)).trans K_b1.out
     obtain ⟨y0, y1, y2, y3, y4, y5, y6, y7⟩ := cz8 hV_
     clear hV_
     refine q2x (w1 := w') (v := .int .i64 a2) (by rfl) rfl ?_ ?_
     · go_simp
       (try simp only [q6g])
       try rfl
     refine hK.out _ _ ⟨g0, g4, g8, g13, m0_, m4_, m8_, m13_, (by rw [ha.out]; exact q1p 6 hb_ rfl rfl rfl), Q_HB, Q_C0, Q_C4, fun h0_ _ => absurd ((hoff 8 (by kernel_rfl)).symm.trans h0_) (by decide), Q_A13, fun h0_ => absurd ((hoff 14 (by kernel_rfl)).symm.trans h0_) (by decide), Q_X0_, Q_X4_, fun h0_ => absurd ((hoff 8 (by kernel_rfl)).symm.trans h0_) (by decide), Q_X13_⟩
   refine q1k ?_ ?_
   · rintro b a w' ⟨g0, g4, g8, g13, m0_, m4_, m8_, m13_, ha, Q_HB, Q_C0, Q_C4, Q_C8, Q_A13, Q_B13, Q_X0_, Q_X4_, Q_X8_, Q_X13_⟩ hb_ hon hoff
     refine ⟨_, rfl, fun K hK => ?_⟩
     have e17 : a.tmps[17]? = some (m4_) := by rw [ha]; exact q1w (e := (4, 17, m4_)) 4 rfl rfl (hon 4 (by kernel_rfl)) rfl
     rw [Q_X4_ (hon 4 (by kernel_rfl))] at e17
     have e19 : a.tmps[19]? = some (.int .i64 a2) := by rw [ha]; exact q1w (e := (6, 19, .int .i64 a2)) 6 rfl rfl (hon 6 (by kernel_rfl)) rfl
     replace ha := aq ha
     have HB := aq Q_HB
     have C4 := aq (Q_C4 (hon 4 (by kernel_rfl)) hb_)
     refine q5j Tryz.func34 (by kernel_rfl) rfl #[.slice (some ⟨g4, 0, none⟩) 7 7, .int .i64 a2] (by rfl) rfl rfl (by first | (simp only [List.map_toArray, List.map_cons, List.map_nil, Act.eval, Array.getD_eq_getD_getElem?, Option.getD_some, e17, e19]; done) | (simp only [List.map_toArray, List.map_cons, List.map_nil, Act.eval, Array.getD_eq_getD_getElem?, Option.getD_some, e17, e19]; rfl)) ?_
     with_reducible refine (z2p q3b 7 a2 x2 x2_.out z7c _ C4.out).mono ?_
     rintro e w3 ⟨rfl, hb⟩
     refine ⟨_, rfl, ?_⟩
     refine hK.out _ _ ⟨g0, g4, g8, g13, m0_, m4_, m8_, m13_, (by rw [ha.out]; exact q1p 7 hb_ rfl rfl rfl), HB.out.trans (hb.mono HB.out.size), fun _ h1_ => absurd ((hon 3 (by kernel_rfl)).symm.trans h1_) (by decide), fun _ h1_ => absurd ((q7b b 7).symm.trans h1_) (by decide), fun h0_ _ => absurd ((hoff 8 (by kernel_rfl)).symm.trans h0_) (by decide), fun h0_ h1_ => ⟨(hb.block _ (q0g (Q_A13 h0_ h1_).1)).trans (Q_A13 h0_ h1_).1, (Q_A13 h0_ h1_).2⟩, fun h0_ => absurd ((hoff 14 (by kernel_rfl)).symm.trans h0_) (by decide), Q_X0_, Q_X4_, fun h0_ => absurd ((hoff 8 (by kernel_rfl)).symm.trans h0_) (by decide), Q_X13_⟩
   refine q1k ?_ ?_
   · rintro b a w' ⟨g0, g4, g8, g13, m0_, m4_, m8_, m13_, ha, Q_HB, Q_C0, Q_C4, Q_C8, Q_A13, Q_B13, Q_X0_, Q_X4_, Q_X8_, Q_X13_⟩ hb_ hon hoff
     refine ⟨_, rfl, fun K hK => ?_⟩
     replace ha := aq ha
     have HB := aq Q_HB
     refine q5j Tryz.func37 (by kernel_rfl) rfl #[] (by rfl) rfl rfl (by first | (simp only [List.map_toArray, List.map_cons, List.map_nil, Act.eval, Array.getD_eq_getD_getElem?, Option.getD_some]; done) | (simp only [List.map_toArray, List.map_cons, List.map_nil, Act.eval, Array.getD_eq_getD_getElem?, Option.getD_some]; rfl)) ?_
     with_reducible refine (z7k _).mono ?_
     rintro e w3 ⟨⟨gb, rfl, hc⟩, hb⟩
     refine ⟨_, rfl, ?_⟩
     refine hK.out _ _ ⟨g0, g4, gb, g13, m0_, m4_, (.slice (some ⟨gb, 0, none⟩) 9 9), m13_, (by rw [ha.out]; exact q1p 8 hb_ rfl rfl rfl), HB.out.trans (hb.mono HB.out.size), fun _ h1_ => absurd ((hon 3 (by kernel_rfl)).symm.trans h1_) (by decide), fun _ h1_ => absurd ((hon 7 (by kernel_rfl)).symm.trans h1_) (by decide), fun _ _ => hc, fun h0_ h1_ => ⟨(hb.block _ (q0g (Q_A13 h0_ h1_).1)).trans (Q_A13 h0_ h1_).1, (Q_A13 h0_ h1_).2⟩, fun h0_ => absurd ((hoff 14 (by kernel_rfl)).symm.trans h0_) (by decide), Q_X0_, Q_X4_, fun _ => rfl, Q_X13_⟩
   refine q1k ?_ ?_
   · rintro b a w' ⟨g0, g4, g8, g13, m0_, m4_, m8_, m13_, ha, Q_HB, Q_C0, Q_C4, Q_C8, Q_A13, Q_B13, Q_X0_, Q_X4_, Q_X8_, Q_X13_⟩ hb_ hon hoff
     refine ⟨_, rfl, fun K hK => ?_⟩
     have e1 : a.tmps[1]? = some (.pointer (some ⟨b1, 0, none⟩)) := by rw [ha]; exact (q3t rfl).trans rfl
     replace ha := aq ha
     have HB := aq Q_HB
     refine q2x (w1 := w') (v := .pointer (some ⟨b1, 3, none⟩)) (by rfl) rfl ?_ ?_
     · go_simp
       (try simp only [q6g])
       try rfl
     refine hK.out _ _ ⟨g0, g4, g8, g13, m0_, m4_, m8_, m13_, (by rw [ha.out]; exact q1p 9 hb_ rfl rfl rfl), Q_HB, Q_C0, Q_C4, Q_C8, Q_A13, fun h0_ => absurd ((hoff 14 (by kernel_rfl)).symm.trans h0_) (by decide), Q_X0_, Q_X4_, Q_X8_, Q_X13_⟩
   refine q1k ?_ ?_
   · rintro b a w' ⟨g0, g4, g8, g13, m0_, m4_, m8_, m13_, ha, Q_HB, Q_C0, Q_C4, Q_C8, Q_A13, Q_B13, Q_X0_, Q_X4_, Q_X8_, Q_X13_⟩ hb_ hon hoff
     refine ⟨_, rfl, fun K hK => ?_⟩
     have e22 : a.tmps[22]? = some (.pointer (some ⟨b1, 3, none⟩)) := by rw [ha]; exact q1w (e := (9, 22, .pointer (some ⟨b1, 3, none⟩))) 9 rfl rfl (hon 9 (by kernel_rfl)) rfl
     replace ha := aq ha
     have HB := aq Q_HB
     have hV_ := (HB.out.block _ (q0g K_b1.out)).trans K_b1.out
     obtain ⟨y0, y1, y2, y3, y4, y5, y6, y7⟩ := cz8 hV_
     clear hV_
     refine q2x (w1 := w') (v := .int .i64 a3) (by rfl) rfl ?_ ?_
     · go_simp
       (try simp only [q6g])
       try rfl
     refine hK.out _ _ ⟨g0, g4, g8, g13, m0_, m4_, m8_, m13_, (by rw [ha.out]; exact q1p 10 hb_ rfl rfl rfl), Q_HB, Q_C0, Q_C4, Q_C8, Q_A13, fun h0_ => absurd ((hoff 14 (by kernel_rfl)).symm.trans h0_) (by decide), Q_X0_, Q_X4_, Q_X8_, Q_X13_⟩
   refine q1k ?_ ?_
   · rintro b a w' ⟨g0, g4, g8, g13, m0_, m4_, m8_, m13_, ha, Q_HB, Q_C0, Q_C4, Q_C8, Q_A13, Q_B13, Q_X0_, Q_X4_, Q_X8_, Q_X13_⟩ hb_ hon hoff
     refine ⟨_, rfl, fun K hK => ?_⟩
     have e21 : a.tmps[21]? = some (m8_) := by rw [ha]; exact q1w (e := (8, 21, m8_)) 8 rfl rfl (hon 8 (by kernel_rfl)) rfl
     rw [Q_X8_ (hon 8 (by kernel_rfl))] at e21
     have e23 : a.tmps[23]? = some (.int .i64 a3) := by rw [ha]; exact q1w (e := (10, 23, .int .i64 a3)) 10 rfl rfl (hon 10 (by kernel_rfl)) rfl
     replace ha := aq ha
     have HB := aq Q_HB
     have C8 := aq (Q_C8 (hon 8 (by kernel_rfl)) hb_)
     refine q5j Tryz.func34 (by kernel_rfl) rfl #[.slice (some ⟨g8, 0, none⟩) 9 9, .int .i64 a3] (by rfl) rfl rfl (by first | (simp only [List.map_toArray, List.map_cons, List.map_nil, Act.eval, Array.getD_eq_getD_getElem?, Option.getD_some, e21, e23]; done) | (simp only [List.map_toArray, List.map_cons, List.map_nil, Act.eval, Array.getD_eq_getD_getElem?, Option.getD_some, e21, e23]; rfl)) ?_
     with_reducible refine (z2p q3c 9 a3 x3 x3_.out z6z _ C8.out).mono ?_
     rintro e w3 ⟨rfl, hb⟩
     refine ⟨_, rfl, ?_⟩
     refine hK.out _ _ ⟨g0, g4, g8, g13, m0_, m4_, m8_, m13_, (by rw [ha.out]; exact q1p 11 hb_ rfl rfl rfl), HB.out.trans (hb.mono HB.out.size), fun _ h1_ => absurd ((hon 3 (by kernel_rfl)).symm.trans h1_) (by decide), fun _ h1_ => absurd ((hon 7 (by kernel_rfl)).symm.trans h1_) (by decide), fun _ h1_ => absurd ((q7b b 11).symm.trans h1_) (by decide), fun h0_ h1_ => ⟨(hb.block _ (q0g (Q_A13 h0_ h1_).1)).trans (Q_A13 h0_ h1_).1, (Q_A13 h0_ h1_).2⟩, fun h0_ => absurd ((hoff 14 (by kernel_rfl)).symm.trans h0_) (by decide), Q_X0_, Q_X4_, Q_X8_, Q_X13_⟩
   refine q1k ?_ ?_
   · rintro b a w' ⟨g0, g4, g8, g13, m0_, m4_, m8_, m13_, ha, Q_HB, Q_C0, Q_C4, Q_C8, Q_A13, Q_B13, Q_X0_, Q_X4_, Q_X8_, Q_X13_⟩ hb_ hon hoff
     refine ⟨_, rfl, fun K hK => ?_⟩
     have e16 : a.tmps[16]? = some (.string x0) := by rw [ha]; exact q1w (e := (3, 16, .string x0)) 3 rfl rfl (hon 3 (by kernel_rfl)) rfl
     have e20 : a.tmps[20]? = some (.string x2) := by rw [ha]; exact q1w (e := (7, 20, .string x2)) 7 rfl rfl (hon 7 (by kernel_rfl)) rfl
     have e24 : a.tmps[24]? = some (.string x3) := by rw [ha]; exact q1w (e := (11, 24, .string x3)) 11 rfl rfl (hon 11 (by kernel_rfl)) rfl
     replace ha := aq ha
     have HB := aq Q_HB
     refine q2x (w1 := w') (v := .agg #[.string x0, .slice none 0 0, .string x2, .string x3, .slice none 0 0, .slice none 0 0, .slice none 0 0, .string ⟨#[]⟩]) (by rfl) rfl ?_ ?_
     · go_simp
       (try simp only [q6g])
       try rfl
     refine hK.out _ _ ⟨g0, g4, g8, g13, m0_, m4_, m8_, m13_, (by rw [ha.out]; exact q1p 12 hb_ rfl rfl rfl), Q_HB, fun _ h1_ => absurd ((hon 3 (by kernel_rfl)).symm.trans h1_) (by decide), fun _ h1_ => absurd ((hon 7 (by kernel_rfl)).symm.trans h1_) (by decide), fun _ h1_ => absurd ((hon 11 (by kernel_rfl)).symm.trans h1_) (by decide), Q_A13, fun h0_ => absurd ((hoff 14 (by kernel_rfl)).symm.trans h0_) (by decide), Q_X0_, Q_X4_, Q_X8_, Q_X13_⟩
   refine q1k ?_ ?_
   · rintro b a w' ⟨g0, g4, g8, g13, m0_, m4_, m8_, m13_, ha, Q_HB, Q_C0, Q_C4, Q_C8, Q_A13, Q_B13, Q_X0_, Q_X4_, Q_X8_, Q_X13_⟩ hb_ hon hoff
     refine ⟨_, rfl, fun K hK => ?_⟩
     replace ha := aq ha
     have HB := aq Q_HB
     refine z6q ?hg (N := 3) ?hd (cs := #[.string ⟨#[]⟩, .slice none 0 0, .string ⟨#[]⟩, .string ⟨#[]⟩, .slice none 0 0, .slice none 0 0, .slice none 0 0, .string ⟨#[]⟩]) (t := 33) ?hr ?_; (case hd => rfl); (case hg => rfl); (case hr => first | (go_simp; done) | (go_simp; rfl))
     intro gb hg w3 hbox hb
     refine hK.out _ _ ⟨g0, g4, g8, gb, m0_, m4_, m8_, (.pointer (some ⟨gb, 0, none⟩)), (by rw [ha.out]; exact q1p 13 hb_ rfl rfl rfl), HB.out.trans (hb.mono HB.out.size), fun h0_ h1_ => Kd.q0h (Q_C0 h0_ h1_) hb, fun h0_ h1_ => Kd.q0h (Q_C4 h0_ h1_) hb, fun h0_ h1_ => Kd.q0h (Q_C8 h0_ h1_) hb, fun _ _ => ⟨hbox, by rw [hg]; exact HB.out.size⟩, fun h0_ => absurd ((hoff 14 (by kernel_rfl)).symm.trans h0_) (by decide), Q_X0_, Q_X4_, Q_X8_, fun _ => rfl⟩
   refine q1k ?_ ?_
   · rintro b a w' ⟨g0, g4, g8, g13, m0_, m4_, m8_, m13_, ha, Q_HB, Q_C0, Q_C4, Q_C8, Q_A13, Q_B13, Q_X0_, Q_X4_, Q_X8_, Q_X13_⟩ hb_ hon hoff
     refine ⟨_, rfl, fun K hK => ?_⟩
     have e3 : a.tmps[3]? = some (m13_) := by rw [ha]; exact q1w (e := (13, 3, m13_)) 13 rfl rfl (hon 13 (by kernel_rfl)) rfl
     rw [Q_X13_ (hon 13 (by kernel_rfl))] at e3
     have e25 : a.tmps[25]? = some (.agg #[.string x0, .slice none 0 0, .string x2, .string x3, .slice none 0 0, .slice none 0 0, .slice none 0 0, .string ⟨#[]⟩]) := by rw [ha]; exact q1w (e := (12, 25, .agg #[.string x0, .slice none 0 0, .string x2, .string x3, .slice none 0 0, .slice none 0 0, .slice none 0 0, .string ⟨#[]⟩])) 12 rfl rfl (hon 12 (by kernel_rfl)) rfl
     replace ha := aq ha
     have HB := aq Q_HB
     have A13 := aq (Q_A13 (hon 13 (by kernel_rfl)) hb_)
     refine q2d (g := g13) (off := 0) (cur := #[.string ⟨#[]⟩, .slice none 0 0, .string ⟨#[]⟩, .string ⟨#[]⟩, .slice none 0 0, .slice none 0 0, .slice none 0 0, .string ⟨#[]⟩]) (new := #[.string x0, .slice none 0 0, .string x2, .string x3, .slice none 0 0, .slice none 0 0, .slice none 0 0, .string ⟨#[]⟩]) (seg := [.string x0, .slice none 0 0, .string x2, .string x3, .slice none 0 0, .slice none 0 0, .slice none 0 0, .string ⟨#[]⟩]) (u := .agg #[.string x0, .slice none 0 0, .string x2, .string x3, .slice none 0 0, .slice none 0 0, .slice none 0 0, .string ⟨#[]⟩]) rfl rfl rfl (by simp only [Act.eval, Array.getD_eq_getD_getElem?, e3, Option.getD_some]) (by simp only [Act.eval, Array.getD_eq_getD_getElem?, e25, Option.getD_some]) rfl (by rfl) (by kernel_rfl) rfl rfl (Nat.le_of_ble_eq_true rfl) A13.out.1 ?_
     intro w3 hk hp
     refine hK.out _ _ ⟨g0, g4, g8, g13, m0_, m4_, m8_, m13_, (by rw [ha.out]; exact q9p (v := undef) rfl), Put.below hp HB.out A13.out.2, fun _ h1_ => absurd ((hon 3 (by kernel_rfl)).symm.trans h1_) (by decide), fun _ h1_ => absurd ((hon 7 (by kernel_rfl)).symm.trans h1_) (by decide), fun _ h1_ => absurd ((hon 11 (by kernel_rfl)).symm.trans h1_) (by decide), fun _ h1_ => absurd ((q7b b 14).symm.trans h1_) (by decide), fun _ => ⟨hk, A13.out.2⟩, Q_X0_, Q_X4_, Q_X8_, Q_X13_⟩
   exact z8i
 · rintro b a w' hall ⟨g0, g4, g8, g13, m0_, m4_, m8_, m13_, ha, Q_HB, Q_C0, Q_C4, Q_C8, Q_A13, Q_B13, Q_X0_, Q_X4_, Q_X8_, Q_X13_⟩
   clear HB
   have hb0_ := hall 0 (by kernel_rfl)
   have hb1_ := hall 1 (by kernel_rfl)
   have hb2_ := hall 2 (by kernel_rfl)
   have hb3_ := hall 3 (by kernel_rfl)
   have hb4_ := hall 4 (by kernel_rfl)
   have hb5_ := hall 5 (by kernel_rfl)
   have hb6_ := hall 6 (by kernel_rfl)
   have hb7_ := hall 7 (by kernel_rfl)
   have hb8_ := hall 8 (by kernel_rfl)
   have hb9_ := hall 9 (by kernel_rfl)
   have hb10_ := hall 10 (by kernel_rfl)
   have hb11_ := hall 11 (by kernel_rfl)
   have hb12_ := hall 12 (by kernel_rfl)
   have hb13_ := hall 13 (by kernel_rfl)
   have hb14_ := hall 14 (by kernel_rfl)
   subst ha
   obtain rfl := Q_X0_ hb0_
   obtain rfl := Q_X4_ hb4_
   obtain rfl := Q_X8_ hb8_
   obtain rfl := Q_X13_ hb13_
   simp only [q3j, hb0_, hb1_, hb2_, hb3_, hb4_, hb5_, hb6_, hb7_, hb8_, hb9_, hb10_, hb11_, hb12_, hb13_, hb14_, if_true, Act.put, List.setIfInBounds_toArray, List.set_cons_zero, List.set_cons_succ]
   have HB := aq Q_HB
   clear Q_HB
   clear Q_C0
   clear Q_C4
   clear Q_C8
   clear Q_A13
   have B13 := aq (Q_B13 hb14_)
   clear Q_B13
   clear hall hb0_ hb1_ hb2_ hb3_ hb4_ hb5_ hb6_ hb7_ hb8_ hb9_ hb10_ hb11_ hb12_ hb13_ hb14_
   clear Q_X0_ Q_X4_ Q_X8_ Q_X13_ HV
   have N_b1_g13 := aq (show b1 ≠ g13 from Nat.ne_of_lt (Nat.lt_of_lt_of_le (q0g K_b1.out) B13.out.2))
   have N_b2_g13 := aq (show b2 ≠ g13 from Nat.ne_of_lt (Nat.lt_of_lt_of_le (q0g K_b2.out) B13.out.2))
   have G_g13 := aq (show w.heap.size ≤ g13 from Nat.le_trans B0.out.size B13.out.2)
   have hb := HB.out
   replace K_b1 := kb K_b1 hb
   replace K_b2 := kb K_b2 hb
   replace B0 := bb B0 hb
   clear hb HB
   have K_g13 := aq B13.out.1
   clear B13
   generalize w' = z1 at *
   go_upto_region 2 with fail
   go_cut [35] from 26 to 26 (fun s35 wx => ∃ q : Bool, s35 = .bool q ∧ wx = z1)
   case first =>
    obtain ⟨y1_0, y1_1, y1_2, y1_3, y1_4, y1_5, y1_6, y1_7⟩ := cz8 K_b1.out
    obtain ⟨y3_0, y3_1, y3_2, y3_3, y3_4, y3_5, y3_6, y3_7⟩ := cz8 K_g13.out
    cases h1_ : decide ((x0.size : Int) ≤ 3) with
    | false => go_wp2; go_meet; exact ⟨_, rfl, rfl⟩
    | true =>
     cases h2_ : (Int.tmod a1 4 == 1) with
     | false => go_wp2; go_meet; exact ⟨_, rfl, rfl⟩
     | true => go_wp2; go_meet; exact ⟨_, rfl, rfl⟩
   case rest =>
   obtain ⟨q, rfl, rfl⟩ := hcut
   go_upto_if 35 with fail
   go_cut [] from 36 to 42 (fun wx => ∃ (A1 : Option Addr) (n1 c1 : Nat), n1 ≤ 1 ∧ q0c (Rw wx w.heap.size n1 (.slice A1 n1 c1) 0 (.slice none 0 0) 0 (.slice none 0 0) 0 (.slice none 0 0)) ∧ q0c (Below w.heap.size w wx) ∧ q0c (wx.heap[b1]? = some (.cells #[.int .i64 a0, .int .i64 a1, .int .i64 a2, .int .i64 a3, .slice A4 l4.length c4, .slice A5 l5.length c5, .slice A6 l6.length c6, .int .i64 a7] 24 (0, 0))) ∧ q0c (wx.heap[b2]? = some (.cells #[.string ⟨#[]⟩, .slice none 0 0, .string ⟨#[]⟩, .string ⟨#[]⟩, .slice none 0 0, .slice none 0 0, .slice none 0 0, .string ⟨#[]⟩] 33 (0, 0))) ∧ q0c (wx.heap[g13]? = some (.cells #[.string x0, .slice A1 n1 c1, .string x2, .string x3, .slice none 0 0, .slice none 0 0, .slice none 0 0, .string ⟨#[]⟩] 33 (0, 0))))
   case first =>
    cases q with
    | false => go_wp2; go_meet; exact ⟨none, 0, 0, by omega, ⟨rw0 (q3f.nil _ _ _ _ _)⟩, B0, K_b1, K_b2, K_g13⟩
    | true =>
     obtain ⟨y1_0, y1_1, y1_2, y1_3, y1_4, y1_5, y1_6, y1_7⟩ := cz8 K_b1.out
     go_wp2_with (first
      | ((with_reducible refine q3l (N := 36) rfl ?_); refine q7e ?hg (N := 36) ?hd (cs := #[.string ⟨#[121, 117, 101]⟩, .string ⟨#[99, 109, 110]⟩, .string ⟨#[109, 105, 110]⟩]) (e := 9) (n := 3) ?hr ?_; (case hd => rfl); (case hg => rfl); (case hr => first | (go_simp; done) | (go_simp; rfl)); intro g36 hg v3 hbox hb; clear y1_0 y1_1 y1_2 y1_3 y1_4 y1_5 y1_6 y1_7; replace K_b1 := kb K_b1 hb; replace K_b2 := kb K_b2 hb; replace K_g13 := kb K_g13 hb; replace B0 := bb B0 hb; have C36 := aq (v2i (B := g36) v8x (by decide) hbox); clear hb hbox hg; obtain ⟨y_b1_0, y_b1_1, y_b1_2, y_b1_3, y_b1_4, y_b1_5, y_b1_6, y_b1_7⟩ := cz8 K_b1.out)
      | ((with_reducible refine q0s (f := 34) rfl ?_); refine q2e (some 40) rfl rfl Tryz.func34 (by kernel_rfl) rfl #[.slice (some ⟨g36, 0, none⟩) 3 3, .int .i64 (wrap64 (Int.tdiv a1 4))] rfl mq ?_; (with_reducible refine (z0r v8x 3 (wrap64 (Int.tdiv a1 4)) (by decide) (by decide) (by kernel_rfl) k2p _ C36.out).mono ?_); rintro e v4 ⟨x40, rfl, h40, hb⟩; refine ⟨_, rfl, ?_⟩; clear y_b1_0 y_b1_1 y_b1_2 y_b1_3 y_b1_4 y_b1_5 y_b1_6 y_b1_7; clear C36; have S40 := aq h40; clear h40; replace K_b1 := kb K_b1 hb; replace K_b2 := kb K_b2 hb; replace K_g13 := kb K_g13 hb; replace B0 := bb B0 hb; clear hb)
      | ((with_reducible refine q3l (N := 41) rfl ?_); refine q7e ?hg (N := 41) ?hd (cs := #[.string x40]) (e := 9) (n := 1) ?hr ?_; (case hd => rfl); (case hg => rfl); (case hr => first | (go_simp; done) | (go_simp; rfl)); intro g41 hg v5 hbox hb; have RR := aq (rw0 (q3f.k5l (v0p (base := w.heap.size) (g := g41) [x40] (by simp) (by simp) (by rw [hg]; have := B0.out.size; omega) hbox) (fun y hy => by (obtain rfl := List.mem_singleton.1 hy; exact S40.out)))); replace K_b1 := kb K_b1 hb; replace K_b2 := kb K_b2 hb; replace K_g13 := kb K_g13 hb; replace B0 := bb B0 hb; clear hb hbox hg)
      | ((with_reducible refine q9q (.store 26 (.tmp 42) (.tmp 41)) rfl ?_); refine pe g13 1 #[.string x0, .slice (some ⟨g41, 0, none⟩) 1 1, .string x2, .string x3, .slice none 0 0, .slice none 0 0, .slice none 0 0, .string ⟨#[]⟩] [.slice (some ⟨g41, 0, none⟩) 1 1] K_g13.out ?_; intro v6 hk hp; replace RR := rp RR hp K_g13.out; replace K_b1 := kp K_b1 hp N_b1_g13.out; replace K_b2 := kp K_b2 hp N_b2_g13.out; replace B0 := bp B0 hp G_g13.out; replace K_g13 := aq hk; clear hk hp))
     go_meet
     exact ⟨some ⟨g41, 0, none⟩, 1, 1, by omega, RR, B0, K_b1, K_b2, K_g13⟩
   case rest =>
   clear B0 K_b1 K_b2 K_g13
   obtain ⟨A1, n1, c1, hn1, RR, B0, K_b1, K_b2, K_g13⟩ := hcut
   generalize wc = z2 at *
   go_upto_block 0 with fail
   go_cut [] from 43 to 85 (fun wr => ∃ (n : Nat) (AV : Option Addr) (cV : Nat), n ≤ 4 ∧ q0c (Rw wr w.heap.size n1 (.slice A1 n1 c1) n (.slice AV n cV) 0 (.slice none 0 0) 0 (.slice none 0 0)) ∧ q0c (Below w.heap.size w wr) ∧ q0c (wr.heap[b1]? = some (.cells #[.int .i64 a0, .int .i64 a1, .int .i64 a2, .int .i64 a3, .slice A4 l4.length c4, .slice A5 l5.length c5, .slice A6 l6.length c6, .int .i64 a7] 24 (0, 0))) ∧ q0c (wr.heap[b2]? = some (.cells #[.string ⟨#[]⟩, .slice none 0 0, .string ⟨#[]⟩, .string ⟨#[]⟩, .slice none 0 0, .slice none 0 0, .slice none 0 0, .string ⟨#[]⟩] 33 (0, 0))) ∧ q0c (wr.heap[g13]? = some (.cells #[.string x0, .slice A1 n1 c1, .string x2, .string x3, .slice AV n cV, .slice none 0 0, .slice none 0 0, .string ⟨#[]⟩] 33 (0, 0))))
   case first =>
    go_wp2_with fail
    go_loopw [4] (fun vi wr => ∃ (i n : Nat) (AV : Option Addr) (cV : Nat), vi = .int .i64 (i : Int) ∧ i ≤ 4 ∧ n ≤ i ∧ q0c (Rw wr w.heap.size n1 (.slice A1 n1 c1) n (.slice AV n cV) 0 (.slice none 0 0) 0 (.slice none 0 0)) ∧ q0c (Below w.heap.size w wr) ∧ q0c (wr.heap[b1]? = some (.cells #[.int .i64 a0, .int .i64 a1, .int .i64 a2, .int .i64 a3, .slice A4 l4.length c4, .slice A5 l5.length c5, .slice A6 l6.length c6, .int .i64 a7] 24 (0, 0))) ∧ q0c (wr.heap[b2]? = some (.cells #[.string ⟨#[]⟩, .slice none 0 0, .string ⟨#[]⟩, .string ⟨#[]⟩, .slice none 0 0, .slice none 0 0, .slice none 0 0, .string ⟨#[]⟩] 33 (0, 0))) ∧ q0c (wr.heap[g13]? = some (.cells #[.string x0, .slice A1 n1 c1, .string x2, .string x3, .slice AV n cV, .slice none 0 0, .slice none 0 0, .string ⟨#[]⟩] 33 (0, 0)))) (fun vi _ => 4 - (intOf vi).toNat)
    case atStart => exact ⟨0, 0, none, 0, rfl, by omega, by omega, RR, B0, K_b1, K_b2, K_g13⟩
    case round =>
     clear RR B0 K_b1 K_b2 K_g13
     obtain ⟨i, n, AV, cV, rfl, hi, hn, RR, B0, K_b1, K_b2, K_g13⟩ := hrel
     generalize wr = z3 at *
     by_cases hlt : i < l4.length
     · by_cases hl4 : i < 4
       · obtain ⟨ad, e, hx⟩ := Kd.v7x X4.out (i : Int) (by omega) (by omega)
         cases e
         obtain ⟨ex, hex⟩ : ∃ ex, ex = Go.Proofs.YtpmcfckechjppaaGreatDoorW.PrintWords.rd l4 (i : Int) := ⟨_, rfl⟩
         rw [← hex] at hx
         simp only [Int.toNat_natCast] at hx
         have E4 := aq hx
         clear hx hex
         have d1 : decide ((i : Int) < (l4.length : Int)) = true := decide_eq_true (by omega)
         have d2 : decide ((i : Int) < 4) = true := decide_eq_true (by omega)
         have HI := aq (And.intro hi (And.intro hn (And.intro hlt hl4)))
         clear hi hn
         obtain ⟨y_b1_0, y_b1_1, y_b1_2, y_b1_3, y_b1_4, y_b1_5, y_b1_6, y_b1_7⟩ := cz8 K_b1.out
         go_wp2
         clear d1 d2 hl4
         refine q2w (n := 8) (S := fun w' => w'.cell? ⟨b1, 4, none⟩ = some (.slice (some ad) l4.length c4) ∧ w'.cell? (ad.add i) = some (.int .i64 ex)) (ds := []) (M 8 0) (by kernel_rfl) rfl rfl ⟨(q0a K_b1.out 4).trans rfl, (B0.out.cell (World.block_lt_of_cell? w _ E4.out)).trans E4.out⟩ (fun hHeld => ?_)
         have hb : Below z3.heap.size z3 z3.drew := q0m (Below.refl _ _)
         generalize z3.drew = v7 at hb hHeld ⊢
         clear y_b1_0 y_b1_1 y_b1_2 y_b1_3 y_b1_4 y_b1_5 y_b1_6 y_b1_7
         replace RR := rb RR hb
         replace K_b1 := kb K_b1 hb
         replace K_b2 := kb K_b2 hb
         replace K_g13 := kb K_g13 hb
         replace B0 := bb B0 hb
         clear hb
         refine pw 1 55 (M 8 2) ?_
         refine pw 3 57 (M 8 10) ?_
         refine tw 2 56 (M 8 14) hHeld ?_
         refine pw 4 58 (M 8 30) ?_
         refine tw 5 59 (M 8 62) hHeld ?_
         refine ow 0 (some 54) (M 8 63) fun K hK => ?_
         refine gow Tryz.func38 #[] ?_
         with_reducible refine (z5g _).mono ?_
         rintro e v8 ⟨⟨gv, rfl, hc⟩, hb⟩
         refine ⟨_, rfl, ?_⟩
         replace RR := rb RR hb
         replace K_b1 := kb K_b1 hb
         replace K_b2 := kb K_b2 hb
         replace K_g13 := kb K_g13 hb
         replace B0 := bb B0 hb
         have CV := aq hc
         clear hc
         clear hb
         refine hK.out _ _ ⟨(q0a K_b1.out 4).trans rfl, (B0.out.cell (World.block_lt_of_cell? w _ E4.out)).trans E4.out⟩ (fun hHeld => ?_)
         clear hK K
         refine nw 54 ?_
         refine ow 6 (some 60) (M 8 127) fun K hK => ?_
         refine gow Tryz.func34 #[.slice (some ⟨gv, 0, none⟩) 6 6, .int .i64 ex] ?_
         with_reducible refine (z0r q4q 6 ex (by decide) (by decide) (by kernel_rfl) z5a _ CV.out).mono ?_
         rintro e v9 ⟨xv, rfl, hxv, hb⟩
         refine ⟨_, rfl, ?_⟩
         replace RR := rb RR hb
         replace K_b1 := kb K_b1 hb
         replace K_b2 := kb K_b2 hb
         replace K_g13 := kb K_g13 hb
         replace B0 := bb B0 hb
         clear CV
         have SV := aq hxv
         clear hxv
         clear hb
         refine hK.out _ _ ⟨(q0a K_b1.out 4).trans rfl, (B0.out.cell (World.block_lt_of_cell? w _ E4.out)).trans E4.out⟩ (fun hHeld => ?_)
         clear hK K
         refine nw 60 ?_
         refine pw 7 5 (M 8 255) ?_
         refine q4t (by kernel_rfl) ?_
         clear hlt
         go_wp2
         go_loopw [6, 7] (fun vb vk wr => ∃ (b : Bool) (k : Nat), vb = .bool b ∧ vk = .int .i64 (k : Int) ∧ k ≤ n ∧ v9 = wr) (fun _ vk _ => n - (intOf vk).toNat)
         case atStart => exact ⟨false, 0, rfl, rfl, Nat.zero_le _, rfl⟩
         case round =>
          obtain ⟨b, k, rfl, rfl, hk, hw_⟩ := hrel
          subst hw_
          by_cases hkn : k < n
          · obtain ⟨gq, sq, hA, hmax, hcell⟩ := (q3f.str RR.out.2.1).at_ k hkn
            have hi4 : n ≤ 4 := Nat.le_trans HI.out.2.1 HI.out.1
            cases hA
            have e1 : decide ((k : Int) < (n : Int)) = true := decide_eq_true (by omega)
            obtain ⟨y3_0, y3_1, y3_2, y3_3, y3_4, y3_5, y3_6, y3_7⟩ := cz8 K_g13.out
            cases b with
            | true =>
             go_wp2
             go_roundw
             case rel => exact ⟨_, k + 1, rfl, by simp, by omega, trivial⟩
             case measure => simp [intOf]; omega
            | false =>
             go_wp2
             go_roundw
             case rel => exact ⟨_, k + 1, rfl, by simp, by omega, trivial⟩
             case measure => simp [intOf]; omega
          · obtain rfl : k = n := by omega
            have e1 : decide ((k : Int) < (k : Int)) = false := decide_eq_false (by omega)
            have hi3 : i < 4 := HI.out.2.2.2
            obtain ⟨y3_0, y3_1, y3_2, y3_3, y3_4, y3_5, y3_6, y3_7⟩ := cz8 K_g13.out
            cases b with
            | true =>
             go_wp2
             go_roundw
             case rel => exact ⟨i + 1, k, AV, cV, by simp, by have := HI.out; omega, by have := HI.out; omega, RR, B0, K_b1, K_b2, K_g13⟩
             case measure => simp [intOf]; have := HI.out; omega
            | false =>
             go_wp2_with (first
              | ((with_reducible refine q1d (b := .append) (xs := #[.tmp 81, .tmp 83]) rfl ?_); at_builtin; refine g1 (w0 := w) 1 (.tmp 81) (.tmp 83) (.slice AV k cV) (k) [.string xv] rfl (h1S SV.out) (RR.out.2.1) B0.out B0.out.size ?hl ?_; (case hl => have := HI.out; omega); intro AW cW v10 ho hb hg hat; clear y3_0 y3_1 y3_2 y3_3 y3_4 y3_5 y3_6 y3_7; replace K_b1 := kg (RR.out.2.1) hg K_b1; replace K_b2 := kg (RR.out.2.1) hg K_b2; replace K_g13 := kg (RR.out.2.1) hg K_g13; replace RR := rg4 RR ho hg hat; replace B0 := aq hb; clear ho hb hg hat)
              | ((with_reducible refine q9q (.store 26 (.tmp 85) (.tmp 84)) rfl ?_); refine pe g13 4 #[.string x0, .slice A1 n1 c1, .string x2, .string x3, .slice AW (k + 1) cW, .slice none 0 0, .slice none 0 0, .string ⟨#[]⟩] [.slice AW (k + 1) cW] K_g13.out ?_; intro v11 hk hp; replace RR := rp RR hp K_g13.out; replace K_b1 := kp K_b1 hp N_b1_g13.out; replace K_b2 := kp K_b2 hp N_b2_g13.out; replace B0 := bp B0 hp G_g13.out; replace K_g13 := aq hk; clear hk hp))
             go_roundw
             case rel => exact ⟨i + 1, k + 1, AW, cW, by simp, by have := HI.out; omega, by have := HI.out; omega, RR, B0, K_b1, K_b2, K_g13⟩
             case measure => simp [intOf]; have := HI.out; omega
       · have d1 : decide ((i : Int) < (l4.length : Int)) = true := decide_eq_true (by omega)
         have d2 : decide ((i : Int) < 4) = false := decide_eq_false (by omega)
         obtain ⟨y1_0, y1_1, y1_2, y1_3, y1_4, y1_5, y1_6, y1_7⟩ := cz8 K_b1.out
         go_wp2
         go_meet
         exact ⟨n, AV, cV, by omega, RR, B0, K_b1, K_b2, K_g13⟩
     · have d1 : decide ((i : Int) < (l4.length : Int)) = false := decide_eq_false (by omega)
       obtain ⟨y1_0, y1_1, y1_2, y1_3, y1_4, y1_5, y1_6, y1_7⟩ := cz8 K_b1.out
       go_wp2
       go_meet
       exact ⟨n, AV, cV, by omega, RR, B0, K_b1, K_b2, K_g13⟩
   case rest =>
   clear RR B0 K_b1 K_b2 K_g13
   obtain ⟨n, AV, cV, hn, RR, B0, K_b1, K_b2, K_g13⟩ := hcut
   generalize wc = z4 at *
   go_upto_block 4 with fail
   go_cut [] from 86 to 135 (fun wr => ∃ (i : Nat) (AX : Option Addr) (cX : Nat), i ≤ 3 ∧ q0c (Rw wr w.heap.size n1 (.slice A1 n1 c1) n (.slice AV n cV) i (.slice AX i cX) 0 (.slice none 0 0)) ∧ q0c (Below w.heap.size w wr) ∧ q0c (wr.heap[b1]? = some (.cells #[.int .i64 a0, .int .i64 a1, .int .i64 a2, .int .i64 a3, .slice A4 l4.length c4, .slice A5 l5.length c5, .slice A6 l6.length c6, .int .i64 a7] 24 (0, 0))) ∧ q0c (wr.heap[b2]? = some (.cells #[.string ⟨#[]⟩, .slice none 0 0, .string ⟨#[]⟩, .string ⟨#[]⟩, .slice none 0 0, .slice none 0 0, .slice none 0 0, .string ⟨#[]⟩] 33 (0, 0))) ∧ q0c (wr.heap[g13]? = some (.cells #[.string x0, .slice A1 n1 c1, .string x2, .string x3, .slice AV n cV, .slice AX i cX, .slice none 0 0, .string ⟨#[]⟩] 33 (0, 0))))
   case first =>
    go_wp2_with fail
    go_loopw [8] (fun vi wr => ∃ (i : Nat) (AX : Option Addr) (cX : Nat), vi = .int .i64 (i : Int) ∧ i ≤ 3 ∧ q0c (Rw wr w.heap.size n1 (.slice A1 n1 c1) n (.slice AV n cV) i (.slice AX i cX) 0 (.slice none 0 0)) ∧ q0c (Below w.heap.size w wr) ∧ q0c (wr.heap[b1]? = some (.cells #[.int .i64 a0, .int .i64 a1, .int .i64 a2, .int .i64 a3, .slice A4 l4.length c4, .slice A5 l5.length c5, .slice A6 l6.length c6, .int .i64 a7] 24 (0, 0))) ∧ q0c (wr.heap[b2]? = some (.cells #[.string ⟨#[]⟩, .slice none 0 0, .string ⟨#[]⟩, .string ⟨#[]⟩, .slice none 0 0, .slice none 0 0, .slice none 0 0, .string ⟨#[]⟩] 33 (0, 0))) ∧ q0c (wr.heap[g13]? = some (.cells #[.string x0, .slice A1 n1 c1, .string x2, .string x3, .slice AV n cV, .slice AX i cX, .slice none 0 0, .string ⟨#[]⟩] 33 (0, 0)))) (fun vi _ => 4 - (intOf vi).toNat)
    case atStart => exact ⟨0, none, 0, rfl, by omega, RR, B0, K_b1, K_b2, K_g13⟩
    case round =>
     clear RR B0 K_b1 K_b2 K_g13
     obtain ⟨i, AX, cX, rfl, hi, RR, B0, K_b1, K_b2, K_g13⟩ := hrel
     generalize wr = z5 at *
     by_cases hlt : i < l5.length
     · by_cases hl3 : i < 3
       · obtain ⟨ad, e, hx⟩ := Kd.v7x X5.out (i : Int) (by omega) (by omega)
         cases e
         obtain ⟨ex, hex⟩ : ∃ ex, ex = Go.Proofs.YtpmcfckechjppaaGreatDoorW.PrintWords.rd l5 (i : Int) := ⟨_, rfl⟩
         rw [← hex] at hx
         simp only [Int.toNat_natCast] at hx
         have E5 := aq hx
         clear hx hex
         have d1 : decide ((i : Int) < (l5.length : Int)) = true := decide_eq_true (by omega)
         have d2 : decide ((i : Int) < 3) = true := decide_eq_true (by omega)
         have hm4 : (i : Int) < 4 := by omega
         obtain ⟨y_b1_0, y_b1_1, y_b1_2, y_b1_3, y_b1_4, y_b1_5, y_b1_6, y_b1_7⟩ := cz8 K_b1.out
         go_wp2_with (first
          | ((with_reducible refine q3l (N := 97) rfl ?_); refine q7e ?hg (N := 97) ?hd (cs := #[.string ⟨#[117]⟩, .string ⟨#[116]⟩, .string ⟨#[97]⟩, .string ⟨#[57]⟩]) (e := 9) (n := 4) ?hr ?_; (case hd => rfl); (case hg => rfl); (case hr => first | (go_simp; done) | (go_simp; rfl)); intro g97 hg v12 hbox hb; clear y_b1_0 y_b1_1 y_b1_2 y_b1_3 y_b1_4 y_b1_5 y_b1_6 y_b1_7; replace RR := rb RR hb; replace K_b1 := kb K_b1 hb; replace K_b2 := kb K_b2 hb; replace K_g13 := kb K_g13 hb; replace B0 := bb B0 hb; obtain ⟨sk, hsk, hks⟩ := v3u hbox i hl3; have SK := aq hks; clear hks; clear hb hbox hg)
          | ((with_reducible refine q3l (N := 9) rfl ?_); refine be 9 #[.string ⟨#[]⟩, .slice none 0 0] 65 ?_; intro b9 hg v13 hbox hb; clear hsk; have D_b9 := aq (RR.out.2.2.1.fresh hg); have N_b1_b9 := kn K_b1 hg; have N_b2_b9 := kn K_b2 hg; have N_g13_b9 := kn K_g13 hg; have G_b9 := aq (show w.heap.size ≤ b9 by rw [hg]; exact B0.out.size); replace RR := rb RR hb; replace K_b1 := kb K_b1 hb; replace K_b2 := kb K_b2 hb; replace K_g13 := kb K_g13 hb; replace B0 := bb B0 hb; have K_b9 := aq hbox; clear hb hbox hg)
          | ((with_reducible refine q9q (.store 65 (.tmp 9) (.tmp 101)) rfl ?_); refine pe b9 0 #[.string sk, .slice none 0 0] [.string sk, .slice none 0 0] K_b9.out ?_; intro v14 hk hp; replace RR := rp2 RR hp K_b9.out D_b9.out; replace K_b1 := kp K_b1 hp N_b1_b9.out; replace K_b2 := kp K_b2 hp N_b2_b9.out; replace K_g13 := kp K_g13 hp N_g13_b9.out; replace B0 := bp B0 hp G_b9.out; replace K_b9 := aq hk; clear hk hp; have y5e := (B0.out.cell (World.block_lt_of_cell? w _ E5.out)).trans E5.out; obtain ⟨y_b1_0, y_b1_1, y_b1_2, y_b1_3, y_b1_4, y_b1_5, y_b1_6, y_b1_7⟩ := cz8 K_b1.out))
         clear y_b1_0 y_b1_1 y_b1_2 y_b1_3 y_b1_4 y_b1_5 y_b1_6 y_b1_7 y5e
         obtain ⟨N, hN⟩ : ∃ N : Int, N = (wrap64 (Int.tmod ex 1000 + 1000)).tmod 1000 := ⟨_, rfl⟩
         rw [← hN]
         clear hN
         have hN4 := Int.tmod_lt_of_pos N (show (0 : Int) < 4 by omega)
         clear d1 d2 hm4
         go_loopw [11] (fun vk wr => ∃ (k : Nat) (AS : Option Addr) (cS : Nat), vk = .int .i64 (k : Int) ∧ k ≤ 4 ∧ q0c (Rw wr w.heap.size n1 (.slice A1 n1 c1) n (.slice AV n cV) i (.slice AX i cX) k (.slice AS k cS)) ∧ q0c (Below w.heap.size w wr) ∧ q0c (wr.heap[b1]? = some (.cells #[.int .i64 a0, .int .i64 a1, .int .i64 a2, .int .i64 a3, .slice A4 l4.length c4, .slice (some ad) l5.length c5, .slice A6 l6.length c6, .int .i64 a7] 24 (0, 0))) ∧ q0c (wr.heap[b2]? = some (.cells #[.string ⟨#[]⟩, .slice none 0 0, .string ⟨#[]⟩, .string ⟨#[]⟩, .slice none 0 0, .slice none 0 0, .slice none 0 0, .string ⟨#[]⟩] 33 (0, 0))) ∧ q0c (wr.heap[g13]? = some (.cells #[.string x0, .slice A1 n1 c1, .string x2, .string x3, .slice AV n cV, .slice AX i cX, .slice none 0 0, .string ⟨#[]⟩] 33 (0, 0))) ∧ q0c (wr.heap[b9]? = some (.cells #[.string sk, .slice AS k cS] 65 (0, 0)))) (fun vk _ => 5 - (intOf vk).toNat)
         case atStart => exact ⟨0, none, 0, rfl, by omega, RR, B0, K_b1, K_b2, K_g13, K_b9⟩
         case round =>
          clear RR B0 K_b1 K_b2 K_g13 K_b9
          obtain ⟨k, AS, cS, rfl, hk4, RR, B0, K_b1, K_b2, K_g13, K_b9⟩ := hrel
          generalize wr = z6 at *
          by_cases hkm : (k : Int) ≤ Int.tmod N 4
          · have e1 : decide ((k : Int) ≤ Int.tmod N 4) = true := decide_eq_true hkm
            go_wp2
            refine q2w (n := 15) (S := fun w' => w'.cell? ⟨b9, 1, none⟩ = some (.slice AS k cS)) (ds := [14]) (M 15 0) (by kernel_rfl) rfl rfl ((q0a K_b9.out 1).trans rfl) (fun hHeld => ?_)
            have hb : Below z6.heap.size z6 z6.drew := q0m (Below.refl _ _)
            generalize z6.drew = v15 at hb hHeld ⊢
            replace RR := rb RR hb
            replace K_b1 := kb K_b1 hb
            replace K_b2 := kb K_b2 hb
            replace K_g13 := kb K_g13 hb
            replace K_b9 := kb K_b9 hb
            replace B0 := bb B0 hb
            clear hb
            refine pw 0 116 (M 15 1) ?_
            refine pw 3 119 (M 15 9) ?_
            refine pw 4 120 (M 15 25) ?_
            refine pw 5 121 (M 15 57) ?_
            refine pw 6 122 (M 15 121) ?_
            refine pw 7 123 (M 15 249) ?_
            refine pw 8 124 (M 15 505) ?_
            refine pw 9 125 (M 15 1017) ?_
            refine tw 1 117 (M 15 1019) hHeld ?_
            refine ow 2 (some 118) (M 15 1023) fun K hK => ?_
            refine gow Tryz.func39 #[] ?_
            with_reducible refine (v1w _).mono ?_
            rintro e v16 ⟨⟨gw, rfl, hc⟩, hb⟩
            refine ⟨_, rfl, ?_⟩
            replace RR := rb RR hb
            replace K_b1 := kb K_b1 hb
            replace K_b2 := kb K_b2 hb
            replace K_g13 := kb K_g13 hb
            replace K_b9 := kb K_b9 hb
            replace B0 := bb B0 hb
            have CW := aq hc
            clear hc
            clear hb
            refine hK.out _ _ ((q0a K_b9.out 1).trans rfl) (fun hHeld => ?_)
            clear hK K
            refine nw 118 ?_
            refine ow 10 (some 126) (M 15 2047) fun K hK => ?_
            refine gow Tryz.func34 #[.slice (some ⟨gw, 0, none⟩) 11 11, .int .i64 _] ?_
            with_reducible refine (z0r q7m 11 _ (by decide) (by decide) (by kernel_rfl) v2d _ CW.out).mono ?_
            rintro e v17 ⟨xw, rfl, hxw, hb⟩
            refine ⟨_, rfl, ?_⟩
            replace RR := rb RR hb
            replace K_b1 := kb K_b1 hb
            replace K_b2 := kb K_b2 hb
            replace K_g13 := kb K_g13 hb
            replace K_b9 := kb K_b9 hb
            replace B0 := bb B0 hb
            clear CW
            have SW := aq hxw
            clear hxw
            clear hb
            refine hK.out _ _ ((q0a K_b9.out 1).trans rfl) (fun hHeld => ?_)
            clear hK K
            refine nw 126 ?_
            refine ow 11 (some 127) (M 15 4095) fun K hK => ?_
            refine q2x (w1 := ?_) (v := ?_) (by rfl) rfl ?_ ?_
            rotate_left 2
            · go_simp
              constructor
              · rfl
              · rfl
            refine hK.out _ _ ((q0a (((q0b (Below.refl v17.heap.size v17) _).block _ (q0g K_b9.out)).trans K_b9.out) 1).trans rfl) (fun hHeld => ?_)
            clear hK K
            refine nw 127 ?_
            refine ow 12 (some 128) (M 15 8191) fun K hK => ?_
            refine s1 (w0 := w) (.tmp 117) (.tmp 127) (.slice AS k cS) (k) xw (SW.out) (RR.out.2.2.2.1) B0.out B0.out.size ?hl ?_
            (case hl => have := hk4; omega)
            intro AW cW v18 ho hb hg hat
            replace K_b1 := kg (RR.out.2.2.2.1) hg K_b1
            replace K_b2 := kg (RR.out.2.2.2.1) hg K_b2
            replace K_g13 := kg (RR.out.2.2.2.1) hg K_g13
            replace K_b9 := kg (RR.out.2.2.2.1) hg K_b9
            replace RR := rg6 RR ho hg hat
            replace B0 := aq hb
            clear ho hb hg hat
            refine hK.out _ _ ((q0a K_b9.out 1).trans rfl) (fun hHeld => ?_)
            clear hK K
            refine nw 128 ?_
            refine pw 13 129 (M 15 16383) ?_
            refine z3g (i := 14) (N := none) (M 15 32767) rfl rfl (by kernel_rfl) (by decide) (fun K hK => ?_)
            refine q2d (g := b9) (off := 1) (cur := #[.string sk, .slice AS k cS]) (new := #[.string sk, .slice AW (k + 1) cW]) (seg := [.slice AW (k + 1) cW]) (u := .slice AW (k + 1) cW) rfl rfl rfl rfl rfl rfl (by rfl) (by kernel_rfl) rfl rfl (Nat.le_of_ble_eq_true rfl) K_b9.out ?_
            intro v19 hk hp
            replace RR := rp2 RR hp K_b9.out D_b9.out
            replace K_b1 := kp K_b1 hp N_b1_b9.out
            replace K_b2 := kp K_b2 hp N_b2_b9.out
            replace K_g13 := kp K_g13 hp N_g13_b9.out
            replace B0 := bp B0 hp G_b9.out
            replace K_b9 := aq hk
            clear hk hp
            refine hK.out _ _ ?_
            clear hK K
            refine q4t (by kernel_rfl) ?_
            go_wp2
            go_roundw
            case rel => exact ⟨k + 1, AW, cW, by simp, by omega, RR, B0, K_b1, K_b2, K_g13, K_b9⟩
            case measure => simp [intOf]; omega
          · have e1 : decide ((k : Int) ≤ Int.tmod N 4) = false := decide_eq_false hkm
            obtain ⟨LS, hLS, OLS, SLS⟩ := q3f.texts RR.out.2.2.2.1
            have PSV := aq RR.out.2.2.2.2.1
            replace OLS := aq OLS
            replace SLS := aq SLS
            replace hLS := aq hLS
            replace hk4 := aq hk4
            replace RR := rz RR
            obtain ⟨y_g13_0, y_g13_1, y_g13_2, y_g13_3, y_g13_4, y_g13_5, y_g13_6, y_g13_7⟩ := cz8 K_g13.out
            obtain ⟨y_b9_0, y_b9_1⟩ := cz2 K_b9.out
            clear K_b9
            go_wp2_with (first
             | ((with_reducible refine q3l (N := 97) rfl ?_); refine q7e ?hg (N := 97) ?hd (cs := #[.string ⟨#[117]⟩, .string ⟨#[116]⟩, .string ⟨#[97]⟩, .string ⟨#[57]⟩]) (e := 9) (n := 4) ?hr ?_; (case hd => rfl); (case hg => rfl); (case hr => first | (go_simp; done) | (go_simp; rfl)); intro g97 hg v12 hbox hb; clear y_b1_0 y_b1_1 y_b1_2 y_b1_3 y_b1_4 y_b1_5 y_b1_6 y_b1_7; replace RR := rb RR hb; replace K_b1 := kb K_b1 hb; replace K_b2 := kb K_b2 hb; replace K_g13 := kb K_g13 hb; replace B0 := bb B0 hb; obtain ⟨sk, hsk, hks⟩ := v3u hbox i hl3; have SK := aq hks; clear hks; clear hb hbox hg)
             | ((with_reducible refine q3l (N := 9) rfl ?_); refine be 9 #[.string ⟨#[]⟩, .slice none 0 0] 65 ?_; intro b9 hg v13 hbox hb; clear hsk; have D_b9 := aq (RR.out.2.2.1.fresh hg); have N_b1_b9 := kn K_b1 hg; have N_b2_b9 := kn K_b2 hg; have N_g13_b9 := kn K_g13 hg; have G_b9 := aq (show w.heap.size ≤ b9 by rw [hg]; exact B0.out.size); replace RR := rb RR hb; replace K_b1 := kb K_b1 hb; replace K_b2 := kb K_b2 hb; replace K_g13 := kb K_g13 hb; replace B0 := bb B0 hb; have K_b9 := aq hbox; clear hb hbox hg)
             | ((with_reducible refine q9q (.store 65 (.tmp 9) (.tmp 101)) rfl ?_); refine pe b9 0 #[.string sk, .slice none 0 0] [.string sk, .slice none 0 0] K_b9.out ?_; intro v14 hk hp; replace RR := rp2 RR hp K_b9.out D_b9.out; replace K_b1 := kp K_b1 hp N_b1_b9.out; replace K_b2 := kp K_b2 hp N_b2_b9.out; replace K_g13 := kp K_g13 hp N_g13_b9.out; replace B0 := bp B0 hp G_b9.out; replace K_b9 := aq hk; clear hk hp; have y5e := (B0.out.cell (World.block_lt_of_cell? w _ E5.out)).trans E5.out; obtain ⟨y_b1_0, y_b1_1, y_b1_2, y_b1_3, y_b1_4, y_b1_5, y_b1_6, y_b1_7⟩ := cz8 K_b1.out)
             | ((with_reducible refine q1d (b := .append) (xs := #[.tmp 131, .tmp 133]) rfl ?_); at_builtin; refine q8p (w0 := w) (w.heap.size) 1 rfl (.tmp 131) (.tmp 133) rfl (.slice AX i cX) (.slice AV n cV) (.slice none 0 0) (i) [(sk, .slice AS k cS, LS)] [.string sk, .slice AS k cS] rfl rfl ?hx rfl ?h1 RR.out.2.2.1 ?HY ?HS B0.out B0.out.size ?hl ?_; (case hx => rfl); (case h1 => simp [Value.oneCell']); (case HY => exact fun y hy => by (obtain rfl := List.mem_singleton.1 hy; exact ⟨OLS.out, PSV.out, v9w _⟩)); (case HS => exact fun y hy => by (obtain rfl := List.mem_singleton.1 hy; exact ⟨SK.out, by (show LS.length ≤ 4; have h1 := hLS.out; have h2 := hk4.out; omega), SLS.out⟩)); (case hl => have := hl3; omega); intro AY cY v20 ho hb hg hat; clear y_g13_0 y_g13_1 y_g13_2 y_g13_3 y_g13_4 y_g13_5 y_g13_6 y_g13_7 y_b9_0 y_b9_1; replace K_b1 := kg (RR.out.2.2.1.toP) hg K_b1; replace K_b2 := kg (RR.out.2.2.1.toP) hg K_b2; replace K_g13 := kg (RR.out.2.2.1.toP) hg K_g13; replace RR := rg5 RR ho hg; replace B0 := aq hb; clear ho hb hg hat)
             | ((with_reducible refine q9q (.store 31 (.tmp 135) (.tmp 134)) rfl ?_); refine pe g13 5 #[.string x0, .slice A1 n1 c1, .string x2, .string x3, .slice AV n cV, .slice AY (i + 1) cY, .slice none 0 0, .string ⟨#[]⟩] [.slice AY (i + 1) cY] K_g13.out ?_; intro v21 hk hp; replace RR := rp RR hp K_g13.out; replace K_b1 := kp K_b1 hp N_b1_g13.out; replace K_b2 := kp K_b2 hp N_b2_g13.out; replace B0 := bp B0 hp G_g13.out; replace K_g13 := aq hk; clear hk hp))
            go_roundw
            case rel => exact ⟨i + 1, AY, cY, by simp, by omega, RR, B0, K_b1, K_b2, K_g13⟩
            case measure => simp [intOf]; omega
       · have d1 : decide ((i : Int) < (l5.length : Int)) = true := decide_eq_true (by omega)
         have d2 : decide ((i : Int) < 3) = false := decide_eq_false (by omega)
         obtain ⟨y1_0, y1_1, y1_2, y1_3, y1_4, y1_5, y1_6, y1_7⟩ := cz8 K_b1.out
         go_wp2
         go_meet
         exact ⟨i, AX, cX, by omega, RR, B0, K_b1, K_b2, K_g13⟩
     · have d1 : decide ((i : Int) < (l5.length : Int)) = false := decide_eq_false (by omega)
       obtain ⟨y1_0, y1_1, y1_2, y1_3, y1_4, y1_5, y1_6, y1_7⟩ := cz8 K_b1.out
       go_wp2
       go_meet
       exact ⟨i, AX, cX, by omega, RR, B0, K_b1, K_b2, K_g13⟩
   case rest =>
   clear RR B0 K_b1 K_b2 K_g13
   obtain ⟨i5, AX, cX, hi5, RR, B0, K_b1, K_b2, K_g13⟩ := hcut
   generalize wc = z7 at *
   go_upto_block 8 with fail
   go_cut [] from 136 to 158 (fun wr => ∃ (i : Nat) (AP : Option Addr) (cP : Nat), i ≤ 3 ∧ q0c (Rw wr w.heap.size n1 (.slice A1 n1 c1) n (.slice AV n cV) i5 (.slice AX i5 cX) i (.slice AP i cP)) ∧ q0c (Below w.heap.size w wr) ∧ q0c (wr.heap[b1]? = some (.cells #[.int .i64 a0, .int .i64 a1, .int .i64 a2, .int .i64 a3, .slice A4 l4.length c4, .slice A5 l5.length c5, .slice A6 l6.length c6, .int .i64 a7] 24 (0, 0))) ∧ q0c (wr.heap[b2]? = some (.cells #[.string ⟨#[]⟩, .slice none 0 0, .string ⟨#[]⟩, .string ⟨#[]⟩, .slice none 0 0, .slice none 0 0, .slice none 0 0, .string ⟨#[]⟩] 33 (0, 0))) ∧ q0c (wr.heap[g13]? = some (.cells #[.string x0, .slice A1 n1 c1, .string x2, .string x3, .slice AV n cV, .slice AX i5 cX, .slice AP i cP, .string ⟨#[]⟩] 33 (0, 0))))
   case first =>
    go_wp2_with fail
    go_loopw [12] (fun vi wr => ∃ (i : Nat) (AP : Option Addr) (cP : Nat), vi = .int .i64 (i : Int) ∧ i ≤ 3 ∧ q0c (Rw wr w.heap.size n1 (.slice A1 n1 c1) n (.slice AV n cV) i5 (.slice AX i5 cX) i (.slice AP i cP)) ∧ q0c (Below w.heap.size w wr) ∧ q0c (wr.heap[b1]? = some (.cells #[.int .i64 a0, .int .i64 a1, .int .i64 a2, .int .i64 a3, .slice A4 l4.length c4, .slice A5 l5.length c5, .slice A6 l6.length c6, .int .i64 a7] 24 (0, 0))) ∧ q0c (wr.heap[b2]? = some (.cells #[.string ⟨#[]⟩, .slice none 0 0, .string ⟨#[]⟩, .string ⟨#[]⟩, .slice none 0 0, .slice none 0 0, .slice none 0 0, .string ⟨#[]⟩] 33 (0, 0))) ∧ q0c (wr.heap[g13]? = some (.cells #[.string x0, .slice A1 n1 c1, .string x2, .string x3, .slice AV n cV, .slice AX i5 cX, .slice AP i cP, .string ⟨#[]⟩] 33 (0, 0)))) (fun vi _ => 4 - (intOf vi).toNat)
    case atStart => exact ⟨0, none, 0, rfl, by omega, RR, B0, K_b1, K_b2, K_g13⟩
    case round =>
     clear RR B0 K_b1 K_b2 K_g13
     obtain ⟨i, AP, cP, rfl, hi, RR, B0, K_b1, K_b2, K_g13⟩ := hrel
     generalize wr = z8 at *
     by_cases hlt : i < l6.length
     · by_cases hl3 : i < 3
       · obtain ⟨ad, e, hx⟩ := Kd.v7x X6.out (i : Int) (by omega) (by omega)
         cases e
         obtain ⟨ex, hex⟩ : ∃ ex, ex = Go.Proofs.YtpmcfckechjppaaGreatDoorW.PrintWords.rd l6 (i : Int) := ⟨_, rfl⟩
         rw [← hex] at hx
         simp only [Int.toNat_natCast] at hx
         have E6 := aq hx
         clear hx hex
         have d1 : decide ((i : Int) < (l6.length : Int)) = true := decide_eq_true (by omega)
         have d2 : decide ((i : Int) < 3) = true := decide_eq_true (by omega)
         obtain ⟨y_b1_0, y_b1_1, y_b1_2, y_b1_3, y_b1_4, y_b1_5, y_b1_6, y_b1_7⟩ := cz8 K_b1.out
         go_wp2
         clear d1 d2
         refine q2w (n := 13) (S := fun w' => w'.cell? ⟨g13, 6, none⟩ = some (.slice AP i cP) ∧ w'.cell? ⟨b1, 6, none⟩ = some (.slice (some ad) l6.length c6) ∧ w'.cell? (ad.add i) = some (.int .i64 ex)) (ds := [12]) (M 13 0) (by kernel_rfl) rfl rfl ⟨(q0a K_g13.out 6).trans rfl, (q0a K_b1.out 6).trans rfl, (B0.out.cell (World.block_lt_of_cell? w _ E6.out)).trans E6.out⟩ (fun hHeld => ?_)
         have hb : Below z8.heap.size z8 z8.drew := q0m (Below.refl _ _)
         generalize z8.drew = v22 at hb hHeld ⊢
         clear y_b1_0 y_b1_1 y_b1_2 y_b1_3 y_b1_4 y_b1_5 y_b1_6 y_b1_7
         replace RR := rb RR hb
         replace K_b1 := kb K_b1 hb
         replace K_b2 := kb K_b2 hb
         replace K_g13 := kb K_g13 hb
         replace B0 := bb B0 hb
         clear hb
         refine pw 0 147 (M 13 1) ?_
         refine pw 3 150 (M 13 9) ?_
         refine pw 5 152 (M 13 41) ?_
         refine tw 1 148 (M 13 43) hHeld ?_
         refine tw 4 151 (M 13 59) hHeld ?_
         refine pw 6 153 (M 13 123) ?_
         refine tw 7 154 (M 13 251) hHeld ?_
         refine ow 2 (some 149) (M 13 255) fun K hK => ?_
         refine k1l (by rfl) (N := 149) ?hd (cs := #[.string ⟨#[97]⟩, .string ⟨#[117, 115]⟩, .string ⟨#[112, 114, 105, 118, 97, 116, 101, 49]⟩, .string ⟨#[120]⟩]) (e := 9) (n := 4) ?hr ?_
         (case hd => rfl)
         (case hr => first | (go_simp; done) | (go_simp; rfl))
         intro gp hg v23 hbox hb
         replace RR := rb RR hb
         replace K_b1 := kb K_b1 hb
         replace K_b2 := kb K_b2 hb
         replace K_g13 := kb K_g13 hb
         replace B0 := bb B0 hb
         have CP := aq (v2i (B := gp) z6l (by decide) hbox)
         clear hb hbox hg
         refine hK.out _ _ ⟨(q0a K_g13.out 6).trans rfl, (q0a K_b1.out 6).trans rfl, (B0.out.cell (World.block_lt_of_cell? w _ E6.out)).trans E6.out⟩ (fun hHeld => ?_)
         clear hK K
         refine nw 149 ?_
         refine ow 8 (some 155) (M 13 511) fun K hK => ?_
         refine gow Tryz.func34 #[.slice (some ⟨gp, 0, none⟩) 4 4, .int .i64 ex] ?_
         with_reducible refine (z0r z6l 4 ex (by decide) (by decide) (by kernel_rfl) v4i _ CP.out).mono ?_
         rintro e v24 ⟨xp, rfl, hxp, hb⟩
         refine ⟨_, rfl, ?_⟩
         replace RR := rb RR hb
         replace K_b1 := kb K_b1 hb
         replace K_b2 := kb K_b2 hb
         replace K_g13 := kb K_g13 hb
         replace B0 := bb B0 hb
         clear CP
         have SP := aq hxp
         clear hxp
         clear hb
         refine hK.out _ _ ⟨(q0a K_g13.out 6).trans rfl, (q0a K_b1.out 6).trans rfl, (B0.out.cell (World.block_lt_of_cell? w _ E6.out)).trans E6.out⟩ (fun hHeld => ?_)
         clear hK K
         refine nw 155 ?_
         refine ow 9 (some 156) (M 13 1023) fun K hK => ?_
         refine q2x (w1 := ?_) (v := ?_) (by rfl) rfl ?_ ?_
         rotate_left 2
         · go_simp
           constructor
           · rfl
           · rfl
         refine hK.out _ _ ⟨(q0a (((q0b (Below.refl v24.heap.size v24) _).block _ (q0g K_g13.out)).trans K_g13.out) 6).trans rfl, (q0a (((q0b (Below.refl v24.heap.size v24) _).block _ (q0g K_b1.out)).trans K_b1.out) 6).trans rfl, ((B0.out.trans ((q0b (Below.refl v24.heap.size v24) _).mono B0.out.size)).cell (World.block_lt_of_cell? w _ E6.out)).trans E6.out⟩ (fun hHeld => ?_)
         clear hK K
         refine nw 156 ?_
         refine ow 10 (some 157) (M 13 2047) fun K hK => ?_
         refine s1 (w0 := w) (.tmp 148) (.tmp 156) (.slice AP i cP) (i) xp (SP.out) (RR.out.2.2.2.1) B0.out B0.out.size ?hl ?_
         (case hl => have := hl3; omega)
         intro AQ cQ v25 ho hb hg hat
         replace K_b1 := kg (RR.out.2.2.2.1) hg K_b1
         replace K_b2 := kg (RR.out.2.2.2.1) hg K_b2
         replace K_g13 := kg (RR.out.2.2.2.1) hg K_g13
         replace RR := rg6 RR ho hg hat
         replace B0 := aq hb
         clear ho hb hg hat
         refine hK.out _ _ ⟨(q0a K_g13.out 6).trans rfl, (q0a K_b1.out 6).trans rfl, (B0.out.cell (World.block_lt_of_cell? w _ E6.out)).trans E6.out⟩ (fun hHeld => ?_)
         clear hK K
         refine nw 157 ?_
         refine pw 11 158 (M 13 4095) ?_
         refine z3g (i := 12) (N := none) (M 13 8191) rfl rfl (by kernel_rfl) (by decide) (fun K hK => ?_)
         refine q2d (g := g13) (off := 6) (cur := #[.string x0, .slice A1 n1 c1, .string x2, .string x3, .slice AV n cV, .slice AX i5 cX, .slice AP i cP, .string ⟨#[]⟩]) (new := #[.string x0, .slice A1 n1 c1, .string x2, .string x3, .slice AV n cV, .slice AX i5 cX, .slice AQ (i + 1) cQ, .string ⟨#[]⟩]) (seg := [.slice AQ (i + 1) cQ]) (u := .slice AQ (i + 1) cQ) rfl rfl rfl rfl rfl rfl (by rfl) (by kernel_rfl) rfl rfl (Nat.le_of_ble_eq_true rfl) K_g13.out ?_
         intro v26 hk hp
         replace RR := rp RR hp K_g13.out
         replace K_b1 := kp K_b1 hp N_b1_g13.out
         replace K_b2 := kp K_b2 hp N_b2_g13.out
         replace B0 := bp B0 hp G_g13.out
         replace K_g13 := aq hk
         clear hk hp
         refine hK.out _ _ ?_
         clear hK K
         refine q4t (by kernel_rfl) ?_
         go_wp2
         go_roundw
         case rel => exact ⟨i + 1, AQ, cQ, by simp, by omega, RR, B0, K_b1, K_b2, K_g13⟩
         case measure => simp [intOf]; omega
       · have d1 : decide ((i : Int) < (l6.length : Int)) = true := decide_eq_true (by omega)
         have d2 : decide ((i : Int) < 3) = false := decide_eq_false (by omega)
         obtain ⟨y1_0, y1_1, y1_2, y1_3, y1_4, y1_5, y1_6, y1_7⟩ := cz8 K_b1.out
         go_wp2
         go_meet
         exact ⟨i, AP, cP, by omega, RR, B0, K_b1, K_b2, K_g13⟩
     · have d1 : decide ((i : Int) < (l6.length : Int)) = false := decide_eq_false (by omega)
       obtain ⟨y1_0, y1_1, y1_2, y1_3, y1_4, y1_5, y1_6, y1_7⟩ := cz8 K_b1.out
       go_wp2
       go_meet
       exact ⟨i, AP, cP, by omega, RR, B0, K_b1, K_b2, K_g13⟩
   case rest =>
   clear RR B0 K_b1 K_b2 K_g13
   obtain ⟨i, AP, cP, hi, RR, B0, K_b1, K_b2, K_g13⟩ := hcut
   generalize wc = z9 at *
   obtain ⟨y_g13_0, y_g13_1, y_g13_2, y_g13_3, y_g13_4, y_g13_5, y_g13_6, y_g13_7⟩ := cz8 K_g13.out
   obtain ⟨y_b1_0, y_b1_1, y_b1_2, y_b1_3, y_b1_4, y_b1_5, y_b1_6, y_b1_7⟩ := cz8 K_b1.out
   go_wp2_with (first
    | ((with_reducible refine q0s (f := 40) rfl ?_); refine q2e (some 165) rfl rfl Tryz.func40 (by kernel_rfl) rfl #[.agg #[.string x0, .slice A1 n1 c1, .string x2, .string x3, .slice AV n cV, .slice AX i5 cX, .slice AP i cP, .string ⟨#[]⟩], .int .i64 (Int.tmod (wrap64 (Int.tmod a7 12 + 12)) 12)] rfl mq ?_; (with_reducible refine (z5i x0 x2 x3 ⟨#[]⟩ A1 AV AX AP n1 c1 n cV i5 cX i cP (Int.tmod (wrap64 (Int.tmod a7 12 + 12)) 12) w _ B0.out hn1 ⟨hn, by omega, by omega⟩ ⟨HZ.out.1, HZ.out.2.1, HZ.out.2.2, by decide⟩ RR.out TX.out b2 _ K_b2.out).mono ?_); rintro e zA ⟨⟨L, B1, m1, e1, Sc, Rg, B4, m4, e4, B5, m5, e5, B6, m6, e6, Gr, rfl, hsz, hr, hb⟩, hk⟩; refine ⟨_, rfl, ?_⟩; clear y_g13_0 y_g13_1 y_g13_2 y_g13_3 y_g13_4 y_g13_5 y_g13_6 y_g13_7 y_b1_0 y_b1_1 y_b1_2 y_b1_3 y_b1_4 y_b1_5 y_b1_6 y_b1_7; replace B0 := aq hb; replace K_b2 := aq hk; have HSZ := aq hsz; clear hk hsz hb K_b1 K_g13 RR; have RR := aq hr; clear hr)
    | ((with_reducible refine q9q (.store 33 (.tmp 2) (.tmp 165)) rfl ?_); refine pe b2 0 #[.string L, .slice B1 m1 e1, .string Sc, .string Rg, .slice B4 m4 e4, .slice B5 m5 e5, .slice B6 m6 e6, .string Gr] [.string L, .slice B1 m1 e1, .string Sc, .string Rg, .slice B4 m4 e4, .slice B5 m5 e5, .slice B6 m6 e6, .string Gr] K_b2.out ?_; intro zB hk hp; replace RR := rp RR hp K_b2.out; replace B0 := bp B0 hp G_b2.out; replace K_b2 := aq hk; clear hk hp))
   refine bodyPost_ret (results_cell_row rfl _ _ b2 33 #[.string L, .slice B1 m1 e1, .string Sc, .string Rg, .slice B4 m4 e4, .slice B5 m5 e5, .slice B6 m6 e6, .string Gr] (0, 0) _ rfl K_b2.out hu44 rfl (by kernel_rfl)) rfl ?_
   exact ⟨_, _, _, _, _, _, _, _, _, _, _, _, _, _, _, _, rfl, HSZ.out, RR.out, B0.out⟩
end Go.Proofs.YtpmcfckechjppaaGreatDoor.Ps
namespace Go.Proofs.YtpmcfckechjppaaGreatDoor.Ps
open Go.RowKit Go.Shelf Go.Proofs.YtpmcfckechjppaaGreatDoorW.PrintWords Go.Proofs.YtpmcfckechjppaaGreatDoorW.PrintLast Go.Proofs.YtpmcfckechjppaaGreatDoorW.PrintMore Go.Proofs.YtpmcfckechjppaaGreatDoor.P Go.Proofs.YtpmcfckechjppaaGreatDoor.LikW
open Go.Proofs.YtpmcfckechjppaaGreatDoor.Each Go.Proofs.YtpmcfckechjppaaGreatDoor.Base Go.Proofs.YtpmcfckechjppaaGreatDoor.Pure
attribute [local go_sem] Oper.semAt_some
theorem k4v (l : List ByteArray) (h : ∀ x ∈ l, x.size ≤ 9) : (jn l).size ≤ l.length * 10 := by
 rw [← k1h]
 have h2 : (q8d l).size = (Lib.join (l.map (·.data.toList)) [45]).length := by unfold q8d; exact List.size_toArray
 rw [h2]
 have h3 := k3a 9 (l.map (·.data.toList)) (fun x hx => by
  obtain ⟨y, hy, rfl⟩ := List.mem_map.1 hx
  exact h y hy)
 rwa [List.length_map] at h3
theorem v7w : ∀ (l : List ByteArray), (∀ x ∈ l, x.size ≤ 9) → k7n l ≤ l.length * 10
 | [], _ => Nat.zero_le _
 | x :: l, h => by
  have h1 := h x List.mem_cons_self
  have h2 := v7w l fun y hy => h y (List.mem_cons_of_mem _ hy)
  unfold k7n
  simp only [List.length_cons]
  omega
def v3t (n : Nat) (W : World) (v : Value) : Prop := ∃ (A : Option Addr) (c : Nat) (l : List ByteArray), v = .slice A l.length c ∧ l.length ≤ c ∧ Kd.C Kd.string W A l.length l ∧ l.length ≤ n ∧ ∀ y ∈ l, y.size ≤ 9
theorem k9b (s : ByteArray) (hs : s.size ≤ 9) (w : World) : Calls Tryz.prog 46 #[.string s] w fun e w' => ∃ v, e = .returned v ∧ v3t 46 w' v ∧ Below w.heap.size w w' := by
 obtain ⟨k, hk⟩ := z2t s (by omega)
 refine (q0v.calls k s _ w (hk k (Nat.le_refl _))).mono ?_
 rintro e w' ⟨v, rfl, ho, hb⟩
 obtain ⟨A, c, rfl, hc, h⟩ := Kd.q6o ho
 have h1 := z1c s
 exact ⟨_, rfl, ⟨A, c, _, rfl, hc, h, by omega, fun y hy => Nat.le_trans (q9o s y hy) hs⟩, hb⟩
theorem k7r (L Sc Rg G : ByteArray) (v1 v4 v5 v6 : Value) (s1 : ∃ A n c, v1 = .slice A n c) (s4 : ∃ A n c, v4 = .slice A n c) (s5 : ∃ A n c, v5 = .slice A n c) (s6 : ∃ A n c, v6 = .slice A n c) (w : World) (hG : G.size ≠ 0) (h9 : G.size ≤ 9) :
 Calls Tryz.prog 33 #[.agg #[.string L, v1, .string Sc, .string Rg, v4, v5, v6, .string G]] w fun e w' => ∃ v, e = .returned v ∧ v3t 46 w' v ∧ Below w.heap.size w w' := by
 have hut := Tryz.underlying33
 have hge : G.toList.isEmpty = false := by rw [q8y]; exact decide_eq_false hG
 have HC := aq (fun W => k9b G h9 W)
 obtain ⟨A1, n1, c1, rfl⟩ := s1
 obtain ⟨A4, n4, c4, rfl⟩ := s4
 obtain ⟨A5, n5, c5, rfl⟩ := s5
 obtain ⟨A6, n6, c6, rfl⟩ := s6
 clear hG h9
 go_enter Tryz.func33, Tryz.ntmps33
 go_wp2_with (first
  | (go_at_call 46; refine (HC.out _).mono ?_; rintro e w1 ⟨v, rfl, hO, hB⟩; have HO := aq hO; have HB := aq hB; clear hO hB))
 go_ret
 exact ⟨v, rfl, HO.out, (q0b (Below.refl _ _) _).trans (HB.out.mono (by simp))⟩
theorem k6a (R : Nat) (w0 : World) (e0 : Ending) (w : World) (h : k1e R w0 e0 w) : ∃ (L : ByteArray) (A1 : Option Addr) (n1 c1 : Nat) (S Rg : ByteArray) (A4 : Option Addr) (n4 c4 : Nat) (A5 : Option Addr) (n5 c5 : Nat) (A6 : Option Addr) (n6 c6 : Nat) (G : ByteArray), e0 = .returned (.agg #[.string L, .slice A1 n1 c1, .string S, .string Rg, .slice A4 n4 c4, .slice A5 n5 c5, .slice A6 n6 c6, .string G]) ∧ Below R w0 w ∧ ∀ W, Below w.heap.size w W → Calls Tryz.prog 33 #[.agg #[.string L, .slice A1 n1 c1, .string S, .string Rg, .slice A4 n4 c4, .slice A5 n5 c5, .slice A6 n6 c6, .string G]] W fun e w' => ∃ v, e = .returned v ∧ v3t 46 w' v ∧ Below W.heap.size W w' := by
 obtain ⟨L, A1, n1, c1, S, Rg, A4, n4, c4, A5, n5, c5, A6, n6, c6, G, rfl, ⟨z1, z2, z3, z4, z5, z6, z7, z8⟩, ⟨h1, h4, ⟨xs, rfl, hX, hS, _⟩, h6, _⟩, hb⟩ := h
 refine ⟨_, _, _, _, _, _, _, _, _, _, _, _, _, _, _, _, rfl, hb, fun W hW => ?_⟩
 by_cases hG : G.size = 0
 · refine (k8k R L S Rg G A1 A4 A5 A6 n1 c1 n4 c4 c5 n6 c6 xs W ⟨z1, z2, z3, z5, z6, z8⟩ z7 (h1.below hW) (h4.below hW) (hX.below hW) hS (h6.below hW) hG).mono ?_
   rintro e w' ⟨n, A, c, rfl, hn, ho, hb2⟩
   obtain ⟨l, rfl, hO, hl⟩ := q3f.texts ho
   obtain ⟨A', c', e1, hc, hC⟩ := k1r hO
   exact ⟨_, rfl, ⟨A', c', l, e1, hc, hC, hn, hl⟩, hb2⟩
 · exact k7r L S Rg G _ _ _ _ ⟨_, _, _, rfl⟩ ⟨_, _, _, rfl⟩ ⟨_, _, _, rfl⟩ ⟨_, _, _, rfl⟩ W hG z4
theorem j2a (W : World) (v : Value) (h : v3t 46 W v) : Calls Tryz.prog 32 #[v] W fun e w' => ∃ s : ByteArray, e = .returned (.string s) ∧ s.size ≤ 460 ∧ Below W.heap.size W w' := by
 obtain ⟨A, c, l, rfl, hc, hC, hn, hl⟩ := h
 obtain ⟨k, hk⟩ := k0w l (by omega) (Nat.le_trans (v7w l hl) (by omega))
 refine (q1b.calls k A c l _ W hC hc (hk k (Nat.le_refl _))).mono ?_
 rintro e w' ⟨rfl, hd⟩
 exact ⟨_, rfl, Nat.le_trans (k4v l hl) (by omega), hd.below⟩
theorem z9p (R : Nat) (w0 : World) (e0 : Ending) (w : World) (h : k1e R w0 e0 w) : ∃ v, e0 = .returned v ∧ Below R w0 w ∧ Calls Tryz.prog 10 #[v] w fun e w' => ∃ s : ByteArray, e = .returned (.string s) ∧ s.size ≤ 460 ∧ Below w.heap.size w w' := by
 obtain ⟨L, A1, n1, c1, S, Rg, A4, n4, c4, A5, n5, c5, A6, n6, c6, G, rfl, hb, hc⟩ := k6a R w0 e0 w h
 refine ⟨_, rfl, hb, ?_⟩
 have hut := Tryz.underlying33
 have HC := aq hc
 clear hc hb h
 go_enter Tryz.func10, Tryz.ntmps10
 go_wp2_with (first
  | (go_at_call 33; refine (HC.out _ (q0b (Below.refl _ _) _)).mono ?_; rintro e w1 ⟨u, rfl, hO, hB⟩; have HO := aq hO; have HB := aq hB; clear hO hB)
  | (go_at_call 32; refine (j2a _ _ HO.out).mono ?_; rintro e w2 ⟨s, rfl, hs, hB2⟩; have HS := aq hs; have HB2 := aq hB2; clear hs hB2))
 go_ret
 exact ⟨s, rfl, HS.out, ((q0b (Below.refl _ _) _).trans (HB.out.mono (by simp))).trans (HB2.out.mono (Nat.le_trans (by simp) HB.out.size))⟩
end Go.Proofs.YtpmcfckechjppaaGreatDoor.Ps
