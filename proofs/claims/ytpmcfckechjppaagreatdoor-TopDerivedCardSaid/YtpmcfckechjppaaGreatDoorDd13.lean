/- Made by a program of this seat's own (shake.py, merge.py): what the claim leans on: Find5, Drvs. -/
import Derived.Test.YtpmcfckechjppaaGreatDoorDd11
import Derived.Test.YtpmcfckechjppaaGreatDoorDd12
set_option linter.unusedVariables false
set_option linter.unusedSimpArgs false
set_option maxRecDepth 100000
set_option maxHeartbeats 8000000
namespace Go.Proofs.YtpmcfckechjppaaGreatDoor.Ps
open Go.RowKit Go.Shelf Go.Proofs.YtpmcfckechjppaaGreatDoorW.PrintWords Go.Proofs.YtpmcfckechjppaaGreatDoorW.PrintLast Go.Proofs.YtpmcfckechjppaaGreatDoorW.PrintMore Go.Proofs.YtpmcfckechjppaaGreatDoor.P Go.Proofs.YtpmcfckechjppaaGreatDoor.LikW
open Go.Proofs.YtpmcfckechjppaaGreatDoor.Each Go.Proofs.YtpmcfckechjppaaGreatDoor.Base Go.Proofs.YtpmcfckechjppaaGreatDoor.Pure Go.Proofs.YtpmcfckechjppaaGreatDoor.GrandW
theorem z2y (s : ByteArray) (hs : s.size ≤ 900000) (w : World) :
 Calls Tryz.prog 28 #[.string s] w fun e w' => ∃ r : Int, e = .returned (.int .i64 r) ∧ Below w.heap.size w w' ∧ ((0 ≤ r ∧ r < 26 ∧ q6v r = q6a s) ∨ (r = -1 ∧ ∀ j : Int, 0 ≤ j → j < 26 → q6v j ≠ q6a s)) := by
 obtain ⟨kl, hl⟩ := z0j s (by omega)
 have HR := aq (fun W => q0o.calls kl s (q5p s) W (hl kl (Nat.le_refl _)))
 clear hl
 go_enter Tryz.func28, Tryz.ntmps28
 go_wp2_with (first
  | (go_at_call 7; refine (z3c q7n _ v2k).mono ?_; rintro e w1 ⟨vl, rfl, ho, hb⟩; obtain ⟨A, c, rfl, hc, hC⟩ := Kd.q6o ho; obtain ⟨ad, eA, _⟩ := Kd.q2o hC (0 : Int) (by decide) (by decide); subst eA; have HC := aq hC; have B0 := aq hb; clear ho hc hC hb))
 go_loopw [4] (fun vi wr => ∃ i : Nat, vi = .int .i64 (i : Int) ∧ i ≤ 26 ∧ q0c (∀ j : Int, 0 ≤ j → j < i → q6v j ≠ q6a s) ∧ q0c (Kd.C Kd.string wr (some ad) q7n.length q7n) ∧ q0c (Below w.heap.size w wr)) (fun vi _ => 26 - (intOf vi).toNat)
 case atStart => exact ⟨0, rfl, by omega, ⟨fun j a b => absurd b (by omega)⟩, HC, B0⟩
 case round =>
  clear HC B0
  obtain ⟨i, rfl, hi, HJ, HC, B0⟩ := hrel
  by_cases hlt : i < 26
  · have d1 : decide ((i : Int) < (q7n.length : Int)) = true := decide_eq_true (by show (i : Int) < 26; omega)
    have p0 : (0 ≤ (i : Int)) = True := eq_true (by omega)
    have p1 : ((i : Int) < (q7n.length : Int)) = True := eq_true (by show (i : Int) < 26; omega)
    have p2 : (i < q7n.length) = True := eq_true hlt
    have HN := aq (v8d (i : Int) (by omega) (by omega))
    have hx0 : wr.cell? (ad.add i) = some (.string (q7o ByteArray.empty q7n (i : Int))) := by
     obtain ⟨ad2, e2, hx⟩ := Kd.q2o HC.out (i : Int) (by omega) (of_eq_true p1)
     cases e2
     exact hx
    go_wp2
    refine q2w (n := 8) (S := fun w' => w'.cell? (ad.add i) = some (.string (q7o ByteArray.empty q7n (i : Int)))) (ds := []) (M 8 0) (by kernel_rfl) rfl rfl (hx0) (fun hHeld => ?_)
    have hb : Below wr.heap.size wr wr.drew := q0m (Below.refl _ _)
    generalize wr.drew = w4 at hb hHeld ⊢
    replace HC := aq (Kd.q0h HC.out hb)
    replace B0 := bb B0 hb
    replace hx0 := (hb.cell (World.block_lt_of_cell? _ _ hx0)).trans hx0
    clear hb
    refine pw 0 12 (M 8 1) ?_
    refine pw 2 14 (M 8 5) ?_
    refine pw 3 15 (M 8 13) ?_
    refine pw 4 16 (M 8 29) ?_
    refine tw 5 17 (M 8 61) hHeld ?_
    refine ow 1 (some 13) (M 8 63) fun K hK => ?_
    refine q5j Tryz.func29 (by kernel_rfl) rfl #[.string s] (by rfl) rfl rfl (by (try simp only [List.map_toArray, List.map_cons, List.map_nil]); first | done | rfl) ?_
    with_reducible refine (HR.out _).mono ?_
    rintro e w5 ⟨rfl, hb⟩
    refine ⟨_, rfl, ?_⟩
    replace HC := aq (Kd.q0h HC.out hb)
    replace B0 := bb B0 hb
    replace hx0 := (hb.cell (World.block_lt_of_cell? _ _ hx0)).trans hx0
    clear hb
    refine hK.out _ _ (hx0) (fun hHeld => ?_)
    clear hK K
    refine nw 13 ?_
    refine ow 6 (some 18) (M 8 127) fun K hK => ?_
    refine q5j Tryz.func12 (by kernel_rfl) rfl #[.string (q7o ByteArray.empty q7n (i : Int))] (by rfl) rfl rfl (by (try simp only [List.map_toArray, List.map_cons, List.map_nil]); first | done | rfl) ?_
    with_reducible refine (q2m.calls _ (nameAt (i : Int)) _ HN.out).mono ?_
    rintro e w6 ⟨rfl, hd⟩
    have hb := hd.below
    refine ⟨_, rfl, ?_⟩
    replace HC := aq (Kd.q0h HC.out hb)
    replace B0 := bb B0 hb
    replace hx0 := (hb.cell (World.block_lt_of_cell? _ _ hx0)).trans hx0
    clear hb
    clear hd
    refine hK.out _ _ (hx0) (fun hHeld => ?_)
    clear hK K
    refine nw 18 ?_
    refine pw 7 19 (M 8 255) ?_
    refine q4t (by kernel_rfl) ?_
    cases hq : ((q5p s).toList == (nameAt (i : Int)).toList) with
    | true =>
     have HQ := aq ((v2o (i : Int) (by omega) (by omega) s).1 (eq_of_beq hq))
     clear hq hx0
     go_wp2
     go_ret
     exact ⟨_, rfl, B0.out, .inl ⟨by omega, by omega, HQ.out⟩⟩
    | false =>
     have HQ := aq (show ¬ q6v (i : Int) = q6a s from fun h => ne_of_beq_false hq ((v2o (i : Int) (by omega) (by omega) s).2 h))
     clear hq hx0
     go_wp2
     go_roundw
     case rel => exact ⟨i + 1, by simp, by omega, ⟨fun j a b => by
      by_cases hj : j = i
      · rw [hj]; exact HQ.out
      · exact HJ.out j a (by omega)⟩, HC, B0⟩
     case measure => simp [intOf]; omega
  · have d1 : decide ((i : Int) < (q7n.length : Int)) = false := decide_eq_false (by show ¬ (i : Int) < 26; omega)
    go_wp2
    go_ret
    exact ⟨_, rfl, B0.out, .inr ⟨rfl, fun j a b => HJ.out j a (by omega)⟩⟩
end Go.Proofs.YtpmcfckechjppaaGreatDoor.Ps
namespace Go.Proofs.YtpmcfckechjppaaGreatDoor.Ps
open Go.RowKit Go.Shelf Go.Proofs.YtpmcfckechjppaaGreatDoorW.PrintWords Go.Proofs.YtpmcfckechjppaaGreatDoorW.PrintLast Go.Proofs.YtpmcfckechjppaaGreatDoorW.PrintMore Go.Proofs.YtpmcfckechjppaaGreatDoor.P Go.Proofs.YtpmcfckechjppaaGreatDoor.LikW
open Go.Proofs.YtpmcfckechjppaaGreatDoor.Each Go.Proofs.YtpmcfckechjppaaGreatDoor.Base Go.Proofs.YtpmcfckechjppaaGreatDoor.Pure
attribute [local go_sem] Oper.semAt_some
theorem v6p (s : ByteArray) (hs : s.size ≤ 900000) (i : Int) (h0 : 0 ≤ i) (h1 : i < 26) (hn : q6v i = q6a s) (w : World) : Calls Tryz.prog 28 #[.string s] w fun e w' => ∃ r : Int, e = .returned (.int .i64 r) ∧ 0 ≤ r ∧ Below w.heap.size w w' := by
 refine (z2y s hs w).mono ?_
 rintro e w' ⟨r, rfl, hb, ⟨a, _⟩ | ⟨_, a⟩⟩
 · exact ⟨r, rfl, a, hb⟩
 · exact absurd hn (a i h0 h1)
theorem v2p (s : ByteArray) (hs : s.size ≤ 900000) (hn : ∀ i : Int, 0 ≤ i → i < 26 → q6v i ≠ q6a s) (w : World) : Calls Tryz.prog 28 #[.string s] w fun e w' => e = .returned (.int .i64 (-1)) ∧ Below w.heap.size w w' := by
 refine (z2y s hs w).mono ?_
 rintro e w' ⟨r, rfl, hb, ⟨a, b, c⟩ | ⟨rfl, _⟩⟩
 · exact absurd c (hn r a b)
 · exact ⟨rfl, hb⟩
theorem k3e (w : World) : Calls Tryz.prog 31 #[.nilIface] w fun e w' => e = .returned (.int .i64 0) ∧ Below w.heap.size w w' := by
 go_enter Tryz.func31, Tryz.ntmps31
 go_wp2
 go_ret
 exact ⟨rfl, Below.refl _ _⟩
theorem v6c (k : Nat) (s : ByteArray) (hs : s.size ≤ 800) (w : World) (hG : GrandW.G w) (i : Int) (hf : q0t.f k s = some (i, true)) (kl : Nat) (hlow : q0o.f kl s = some (q5p s)) (h0 : 0 ≤ i) (h1 : i < 26) (hn : q6v i = q6a s) :
 Calls Tryz.prog 8 #[.string s] w fun e w' => e = .returned (.bool true) ∧ Below w.heap.size w w' := by
 have hut := Tryz.underlying33
 have HPC := aq (k1d k s (Nat.le_trans hs (by decide)) w hG i hf)
 have hs9 : s.size ≤ 900000 := Nat.le_trans hs (by decide)
 have HD := aq (fun W => z2u s hs9 W)
 have HFD := aq (fun W => v6p s hs9 i h0 h1 hn W)
 have HR := aq (fun W => q0o.calls kl s (q5p s) W hlow)
 clear hf hG hlow h0 h1 hn hs9
 unfold v2x at HPC
 go_enter Tryz.func8, Tryz.ntmps8
 go_wp2_with (first
  | (go_at_call 26; refine HPC.out.mono ?_; rintro e w1 ⟨rfl, hb⟩; have HB := aq hb; clear hb; simp only)
  | (go_at_call 27; refine (HD.out _).mono ?_; rintro e w3 ⟨rfl, hb2⟩; have K3 := aq ((hb2.block w1.heap.size (by simp)).trans (aZ rfl)); have B3 := aq ((HB.out.trans ((q0b (Below.refl _ _) _).mono HB.out.size)).trans (hb2.mono (by have := HB.out.size; simp; omega))); clear hb2)
  | (go_at_call 28; refine (HFD.out _).mono ?_; rintro e w4 ⟨r, rfl, hr, hb3⟩; have d1 : decide (r ≥ 0) = true := decide_eq_true hr; clear hr; have K4 := aq ((hb3.block _ (q0g K3.out)).trans K3.out); have B4 := bb B3 hb3; obtain ⟨z0, z1, z2, z3, z4, z5, z6, z7⟩ := cz8 K4.out; clear hb3))
 refine q2w (n := 10) (S := fun w' => w'.cell? ⟨w1.heap.size, 7, none⟩ = some (.string (q5p s))) (ds := []) (M 10 0) (by kernel_rfl) rfl rfl ((q0a K4.out 7).trans rfl) (fun hHeld => ?_)
 have hb : Below w4.heap.size w4 w4.drew := q0m (Below.refl _ _)
 generalize w4.drew = v4 at hb hHeld ⊢
 replace K4 := aq ((hb.block _ (q0g K4.out)).trans K4.out)
 replace B4 := bb B4 hb
 clear hb
 refine pw 0 17 (M 10 1) ?_
 refine pw 1 18 (M 10 3) ?_
 refine pw 2 19 (M 10 7) ?_
 refine pw 3 20 (M 10 15) ?_
 refine pw 5 22 (M 10 47) ?_
 refine tw 4 21 (M 10 63) hHeld ?_
 refine ow 6 (some 23) (M 10 127) fun K hK => ?_
 refine q5j Tryz.func29 (by kernel_rfl) rfl #[.string s] (by rfl) rfl rfl (by (try simp only [List.map_toArray, List.map_cons, List.map_nil]); first | done | rfl) ?_
 with_reducible refine (HR.out _).mono ?_
 rintro e w5 ⟨rfl, hb⟩
 refine ⟨_, rfl, ?_⟩
 replace K4 := aq ((hb.block _ (q0g K4.out)).trans K4.out)
 replace B4 := bb B4 hb
 clear hb
 refine hK.out _ _ ((q0a K4.out 7).trans rfl) (fun hHeld => ?_)
 clear hK K
 refine nw 23 ?_
 refine pw 7 24 (M 10 255) ?_
 refine pw 8 25 (M 10 511) ?_
 refine pw 9 2 (M 10 1023) ?_
 refine q4t (by kernel_rfl) ?_
 go_wp2
 go_ret
 exact ⟨rfl, B4.out⟩
theorem v1j (k : Nat) (s : ByteArray) (hs : s.size ≤ 800) (w : World) (hG : GrandW.G w) (hE : EHw w) (i : Int) (hf : q0t.f k s = some (i, false)) (x : Int × Int) (hr : v0j s.size ((q3e s).map z0f) = .error x) (hfd : ∀ i : Int, 0 ≤ i → i < 26 → q6v i ≠ q6a s) (n : Int) (ag : Bool) (hd : bN (z5m (q5r (q5p s))) = n) (ht : twB (q5r (q5p s)) = ag)
 (hq : (n = 0 ∧ ag = true ∧ x.2 = 11) ∨ (n = 1 ∧ ag = true ∧ x.2 = 11) ∨ (n = 0 ∧ ag = false ∧ x.2 = 10) ∨ (n = 0 ∧ ag = true ∧ x.2 = 10)) :
 Calls Tryz.prog 8 #[.string s] w fun e w' => e = .returned (.bool true) ∧ Below w.heap.size w w' := by
 have hut := Tryz.underlying33
 have hs9 : s.size ≤ 900000 := Nat.le_trans hs (by decide)
 have hpc := k0i k s hs9 w hG i hf _ (v0d s hs9)
 rw [hr] at hpc
 have HPC := aq hpc
 have HD := aq (fun W => z2u s hs9 W)
 have HT := aq (fun W => v9p s hs9 W)
 rw [hd] at HD
 rw [ht] at HT
 have HFD := aq (fun W => v2p s hs9 hfd W)
 obtain ⟨xa, xb⟩ := x
 simp only at hq
 have HE := aq hE
 clear hpc hE hr hf hG hd ht hfd hs9
 rcases hq with ⟨rfl, rfl, rfl⟩ | ⟨rfl, rfl, rfl⟩ | ⟨rfl, rfl, rfl⟩ | ⟨rfl, rfl, rfl⟩
 all_goals
  go_enter Tryz.func8, Tryz.ntmps8
  go_wp2_with (first
   | (go_at_call 26; refine HPC.out.mono ?_; rintro e w1 ⟨hb, ⟨_, _, hh, _⟩ | ⟨x', p, hx', rfl, hF, hp⟩⟩; (· cases hh); cases hx'; have HC := aq (show Cry w w1 p _ from ⟨hb, HE.out.below hb, hF⟩); clear hb hF hp; unfold j1b)
   | (go_at_call 27; refine (HD.out _).mono ?_; rintro e w2 ⟨rfl, hb2⟩; have HC2 := aq ((HC.out.on (q0b (Below.refl _ _) _)).on hb2); clear hb2)
   | (go_at_call 28; refine (HFD.out _).mono ?_; rintro e w3 ⟨rfl, hb3⟩; have HC3 := aq (HC2.out.on hb3); clear hb3)
   | (go_at_call 30; refine (HT.out _).mono ?_; rintro e w4 ⟨rfl, hb4⟩; have HC4 := aq (HC3.out.on hb4); clear hb4)
   | (go_at_call 31; refine (k6z p _ _ HC4.out.2.1 HC4.out.2.2).mono ?_; rintro e w5 ⟨rfl, hb5⟩; have HC5 := aq (HC4.out.on hb5); clear hb5))
  go_ret
  exact ⟨rfl, HC5.out.1⟩
theorem v4j (k : Nat) (s : ByteArray) (hs : s.size ≤ 800) (w : World) (hG : GrandW.G w) (i : Int) (hf : q0t.f k s = some (i, false)) (t : z4j) (hr : v0j s.size ((q3e s).map z0f) = .ok t) (hfd : ∀ i : Int, 0 ≤ i → i < 26 → q6v i ≠ q6a s) (hd : bN (z5m (q5r (q5p s))) = 1) (ht : twB (q5r (q5p s)) = false) :
 Calls Tryz.prog 8 #[.string s] w fun e w' => e = .returned (.bool true) ∧ Below w.heap.size w w' := by
 have hut := Tryz.underlying33
 have hs9 : s.size ≤ 900000 := Nat.le_trans hs (by decide)
 have hpc := k0i k s hs9 w hG i hf _ (v0d s hs9)
 rw [hr] at hpc
 have HPC := aq hpc
 have HD := aq (fun W => z2u s hs9 W)
 have HW := aq (fun W => v9p s hs9 W)
 rw [hd] at HD
 rw [ht] at HW
 have HFD := aq (fun W => v2p s hs9 hfd W)
 clear hpc hr hf hG hd ht hfd hs9
 go_enter Tryz.func8, Tryz.ntmps8
 go_wp2_with (first
  | (go_at_call 26; refine HPC.out.mono ?_; rintro e w1 ⟨hb, ⟨t', s', hh, rfl, hT⟩ | ⟨x', p, hx', _⟩⟩; rotate_left; (· cases hx'); cases hh; obtain ⟨l', vE, sc, rg, vV, vX, vR⟩ := s'; obtain ⟨AE, cE, eE⟩ := q0u hT.2.2.2.1; obtain ⟨AV, cV, eV⟩ := q0u hT.2.2.2.2.1; obtain ⟨xs, _, hX⟩ := hT.2.2.2.2.2.1; obtain ⟨AX, cX, eX⟩ := q0u hX.1; obtain ⟨AR, cR, eR⟩ := q0u hT.2.2.2.2.2.2; simp only at eE eV eX eR; subst eE eV eX eR; have HB := aq hb; clear hb hT hX; unfold tagV; simp only)
  | (go_at_call 27; refine (HD.out _).mono ?_; rintro e w2 ⟨rfl, hb2⟩; have B2 := aq ((HB.out.trans ((q0b (Below.refl _ _) _).mono HB.out.size)).trans (hb2.mono (by have := HB.out.size; simp; omega))); clear hb2)
  | (go_at_call 28; refine (HFD.out _).mono ?_; rintro e w3 ⟨rfl, hb3⟩; have B3 := bb B2 hb3; clear hb3)
  | (go_at_call 30; refine (HW.out _).mono ?_; rintro e w4 ⟨rfl, hb4⟩; have B4 := bb B3 hb4; clear hb4)
  | (go_at_call 31; refine (k3e _).mono ?_; rintro e w5 ⟨rfl, hb5⟩; have B5 := bb B4 hb5; clear hb5))
 go_ret
 exact ⟨rfl, B5.out⟩
theorem z0k (s : ByteArray) : q5r (q5p s) = sn ((q3e s).map z0f) := by
 unfold q5r
 rw [v7n]
theorem z0o (s : ByteArray) (hs : s.size ≤ 800) (w : World) (hG : GrandW.G w) (hE : EHw w) :
 Calls Tryz.prog 8 #[.string s] w fun e w' => e = .returned (.bool true) ∧ Below w.heap.size w w' := by
 obtain ⟨r, b, ⟨k, hk⟩, hb⟩ := k6q s (by omega)
 have hf := hk k (Nat.le_refl _)
 rcases hb with ⟨rfl, h0, h26, hn⟩ | ⟨rfl, rfl, hn⟩
 · obtain ⟨kl, hl⟩ := z0j s (by omega)
   exact v6c k s hs w hG r hf kl (hl kl (Nat.le_refl _)) h0 h26 hn
 · skip
   have hne : (q3e s).map z0f ≠ [] := by
    obtain ⟨p, l, hp⟩ := q8k (q5p s)
    intro e
    rw [z0k, e] at hp
    cases hp
   have hall := k4t (s.size : Int) _ hne
   cases hr : v0j s.size ((q3e s).map z0f) with
   | error x =>
    rw [hr] at hall
    refine v1j k s hs w hG hE 0 hf x hr hn _ _ rfl rfl ?_
    rw [z0k]
    rcases hall with ⟨a, b⟩ | ⟨a, b⟩
    · cases h : z5m (sn ((q3e s).map z0f)) with
      | false => exact .inl ⟨rfl, b, a⟩
      | true => exact .inr (.inl ⟨rfl, b, a⟩)
    · rw [b]
      cases h : twB (sn ((q3e s).map z0f)) with
      | false => exact .inr (.inr (.inl ⟨rfl, rfl, a⟩))
      | true => exact .inr (.inr (.inr ⟨rfl, rfl, a⟩))
   | ok t =>
    rw [hr] at hall
    refine v4j k s hs w hG 0 hf t hr hn ?_ ?_
    · rw [z0k, hall.1]; rfl
    · rw [z0k, hall.2]
end Go.Proofs.YtpmcfckechjppaaGreatDoor.Ps
