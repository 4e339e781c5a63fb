/- Made by a program of this seat's own (shake.py, merge.py): what the claim leans on: Heap, HeapW, HeapP, Canon, Trace, Canonical. -/
import Derived.Test.YtpmcfckechjppaaGreatDoorDd16
import Derived.Laws.EntriesVeiled
import Derived.Handy
import Derived.LoopN
set_option linter.unusedVariables false
set_option linter.unusedSimpArgs false
set_option maxRecDepth 100000
set_option maxHeartbeats 8000000
namespace Go.Proofs.YtpmcfckechjppaaGreatDoor.Ps
open Go.RowKit Go.Shelf Go.Proofs.YtpmcfckechjppaaGreatDoorW.PrintWords Go.Proofs.YtpmcfckechjppaaGreatDoorW.PrintLast Go.Proofs.YtpmcfckechjppaaGreatDoorW.PrintMore Go.Proofs.YtpmcfckechjppaaGreatDoor.P Go.Proofs.YtpmcfckechjppaaGreatDoor.LikW
theorem k1q (A : Option Addr) (n c : Nat) (w : World) : Calls Tryz.prog 395 #[.slice A n c] w fun e w' => e = .returned (.int .i64 (n : Int)) ∧ w' = w := by
 go_enter Tryz.func395, Tryz.ntmps395
 go_wp2
 go_ret
 exact ⟨rfl, rfl⟩
theorem j1v (x : Int) (w : World) : Calls Tryz.prog 402 #[.int .i64 x] w fun e w' => e = .returned (.bool false) ∧ w' = w := by
 go_enter Tryz.func402, Tryz.ntmps402
 go_wp2
 go_ret
 exact ⟨by simp, rfl⟩
def v6l (x y : Int) : Int := if x < y then -1 else if x > y then 1 else 0
theorem k7a (x y : Int) (w : World) : Calls Tryz.prog 401 #[.int .i64 x, .int .i64 y] w fun e w' => e = .returned (.int .i64 (v6l x y)) ∧ w' = w := by
 cases h1 : decide (x < y) <;> cases h2 : decide (x > y)
 all_goals
  go_enter Tryz.func401, Tryz.ntmps401
  go_wp2_with (first | (go_at_call 402; refine (j1v _ _).mono ?_; rintro e w1 ⟨rfl, rfl⟩))
  go_ret
  refine ⟨?_, rfl⟩
  have h1' := of_decide_eq_true (p := x < y)
  have h2' := of_decide_eq_true (p := x > y)
  have g1' := of_decide_eq_false (p := x < y)
  have g2' := of_decide_eq_false (p := x > y)
  unfold v6l
  first
   | (rw [if_pos (h1' h1)]; rfl)
   | (rw [if_neg (g1' h1), if_pos (h2' h2)]; rfl)
   | (rw [if_neg (g1' h1), if_neg (g2' h2)]; rfl)
theorem j2l (b c n : Nat) (hn : 0 < n) (v : Int) (hv : v ≠ 0) (w : World) (hc : w.cell? ⟨b, 0, none⟩ = some (.int .i64 v)) : Calls Tryz.prog 400 #[.slice (some ⟨b, 0, none⟩) n c] w fun e w' => e = .returned (.int .i64 v) ∧ w' = w := by
 have d1 : decide ((0 : Int) < (n : Int)) = true := decide_eq_true (by omega)
 have m1 : (0 : Int) < (n : Int) := by omega
 have d2 : (v == 0) = false := by simpa using hv
 go_enter Tryz.func400, Tryz.ntmps400
 go_wp2
 refine wp_loop_once ?_
 go_wp2
 go_ret
 exact ⟨rfl, rfl⟩
theorem q4u {w V : World} {b : Nat} {b0 b1 b2 a0 a1 a2 : Int} (hb : Below w.heap.size w V) (h : w.cell? ⟨b, 0, none⟩ = some (.int .i64 b0) ∧ w.cell? ⟨b, 1, none⟩ = some (.int .i64 b1) ∧ w.cell? ⟨b, 2, none⟩ = some (.int .i64 b2) ∧ w.cell? ⟨b, 3, none⟩ = some (.int .i64 a0) ∧ w.cell? ⟨b, 4, none⟩ = some (.int .i64 a1) ∧ w.cell? ⟨b, 5, none⟩ = some (.int .i64 a2)) :
 V.cell? ⟨b, 0, none⟩ = some (.int .i64 b0) ∧ V.cell? ⟨b, 1, none⟩ = some (.int .i64 b1) ∧ V.cell? ⟨b, 2, none⟩ = some (.int .i64 b2) ∧ V.cell? ⟨b, 3, none⟩ = some (.int .i64 a0) ∧ V.cell? ⟨b, 4, none⟩ = some (.int .i64 a1) ∧ V.cell? ⟨b, 5, none⟩ = some (.int .i64 a2) := by
 obtain ⟨c0, c1, c2, c3, c4, c5⟩ := h
 have hl := World.block_lt_of_cell? w _ c0
 exact ⟨(hb.cell (p := ⟨b, 0, none⟩) hl).trans c0, (hb.cell (p := ⟨b, 1, none⟩) hl).trans c1, (hb.cell (p := ⟨b, 2, none⟩) hl).trans c2, (hb.cell (p := ⟨b, 3, none⟩) hl).trans c3, (hb.cell (p := ⟨b, 4, none⟩) hl).trans c4, (hb.cell (p := ⟨b, 5, none⟩) hl).trans c5⟩
theorem k5t (b c : Nat) (a0 a1 a2 b0 b1 b2 : Int) (hv : b2 < a2) (w : World) (hc : w.cell? ⟨b, 0, none⟩ = some (.int .i64 b0) ∧ w.cell? ⟨b, 1, none⟩ = some (.int .i64 b1) ∧ w.cell? ⟨b, 2, none⟩ = some (.int .i64 b2) ∧ w.cell? ⟨b, 3, none⟩ = some (.int .i64 a0) ∧ w.cell? ⟨b, 4, none⟩ = some (.int .i64 a1) ∧ w.cell? ⟨b, 5, none⟩ = some (.int .i64 a2)) :
 Calls Tryz.prog 396 #[.slice (some ⟨b, 0, none⟩) 2 c, .int .i64 1, .int .i64 0] w fun e w' => e = .returned (.bool false) ∧ Below w.heap.size w w' := by
 have hu := Tryz.underlying336
 have hum := Tryz.underlying247
 obtain ⟨c0, c1, c2, c3, c4, c5⟩ := hc
 go_enter Tryz.func396, Tryz.ntmps396
 go_wp2
 refine q2w (n := 12) (S := fun w' => w'.cell? ⟨b, 0, none⟩ = some (.int .i64 b0) ∧ w'.cell? ⟨b, 1, none⟩ = some (.int .i64 b1) ∧ w'.cell? ⟨b, 2, none⟩ = some (.int .i64 b2) ∧ w'.cell? ⟨b, 3, none⟩ = some (.int .i64 a0) ∧ w'.cell? ⟨b, 4, none⟩ = some (.int .i64 a1) ∧ w'.cell? ⟨b, 5, none⟩ = some (.int .i64 a2)) (ds := []) (M 12 0) (by kernel_rfl) rfl rfl (q4u (q1a (Below.refl _ _)) ⟨c0, c1, c2, c3, c4, c5⟩) (fun hHeld => ?_)
 obtain ⟨V0, hV0⟩ : ∃ V0, V0 = w.drew := ⟨_, rfl⟩
 have KB : q0c (Below w.heap.size w V0) := ⟨by rw [hV0]; exact q1a (Below.refl _ _)⟩
 rw [← hV0] at hHeld ⊢
 clear hV0
 refine pw 0 9 (M 12 1) ?_
 refine pw 1 10 (M 12 3) ?_
 refine pw 2 11 (M 12 7) ?_
 refine pw 4 13 (M 12 23) ?_
 refine pw 5 14 (M 12 55) ?_
 refine pw 6 15 (M 12 119) ?_
 refine tw 3 12 (M 12 127) hHeld ?_
 refine tw 7 16 (M 12 255) hHeld ?_
 refine j2f (i := 8) (j := 9) (Ni := some 7) (Nj := some 8) (M 12 511) (M 12 767) rfl rfl rfl rfl (by kernel_rfl) (by decide) (by decide) (fun K hK => ?_) (fun K hK => ?_)
 refine q2x (w1 := ?_) (v := ?_) (by rfl) rfl ?_ ?_
 rotate_left 2
 · go_simp
   constructor
   · rfl
   · rfl
 obtain ⟨pa, hpa⟩ : ∃ x, x = V0.heap.size := ⟨_, rfl⟩
 obtain ⟨V1, hV⟩ : ∃ V, V = V0.alloc (.cells #[.int .i64 0, .int .i64 0, .int .i64 0] 247) := ⟨_, rfl⟩
 rw [← hV, ← hpa]
 have Kpa : q0c (V1.heap[pa]? = some (.cells #[.int .i64 0, .int .i64 0, .int .i64 0] 247 (0, 0))) := ⟨by rw [hV]; exact aZ hpa⟩
 have gpa : q0c (w.heap.size ≤ pa) := ⟨by have := KB.out.size; omega⟩
 replace KB : q0c (Below w.heap.size w V1) := ⟨by rw [hV]; exact q0b KB.out _⟩
 clear hV hpa
 refine hK.out _ _ ((q4u KB.out ⟨c0, c1, c2, c3, c4, c5⟩)) (fun hHeld => ?_)
 clear hK K
 refine nw 7 ?_
 refine ow 9 (some 8) (M 12 1023) fun K hK => ?_
 refine q2x (w1 := ?_) (v := ?_) (by rfl) rfl ?_ ?_
 rotate_left 2
 · go_simp
   constructor
   · rfl
   · rfl
 obtain ⟨pb, hpb⟩ : ∃ x, x = V1.heap.size := ⟨_, rfl⟩
 obtain ⟨V2, hV⟩ : ∃ V, V = V1.alloc (.cells #[.int .i64 0, .int .i64 0, .int .i64 0] 247) := ⟨_, rfl⟩
 rw [← hV, ← hpb]
 have Kpb : q0c (V2.heap[pb]? = some (.cells #[.int .i64 0, .int .i64 0, .int .i64 0] 247 (0, 0))) := ⟨by rw [hV]; exact aZ hpb⟩
 have hne : q0c (pa ≠ pb) := ⟨by have := q0g Kpa.out; omega⟩
 replace Kpa : q0c (V2.heap[pa]? = some (.cells #[.int .i64 0, .int .i64 0, .int .i64 0] 247 (0, 0))) := ⟨by rw [hV]; exact aN Kpa.out⟩
 have gpb : q0c (w.heap.size ≤ pb) := ⟨by have := KB.out.size; omega⟩
 replace KB : q0c (Below w.heap.size w V2) := ⟨by rw [hV]; exact q0b KB.out _⟩
 clear hV hpb
 refine hK.out _ _ ((q4u KB.out ⟨c0, c1, c2, c3, c4, c5⟩)) (fun hHeld => ?_)
 clear hK K
 refine nw 8 ?_
 refine ow 10 (none) (M 12 2047) fun K hK => ?_
 refine q2d (g := pa) (off := 0) (cur := #[.int .i64 0, .int .i64 0, .int .i64 0]) (new := #[.int .i64 a0, .int .i64 a1, .int .i64 a2]) (seg := [.int .i64 a0, .int .i64 a1, .int .i64 a2]) (u := .agg #[.int .i64 a0, .int .i64 a1, .int .i64 a2]) rfl rfl rfl rfl rfl rfl (by rfl) (by kernel_rfl) rfl rfl (Nat.le_of_ble_eq_true rfl) Kpa.out ?_
 intro V3 hk hp
 replace Kpb := kp Kpb hp hne.out.symm
 replace KB := bp KB hp gpa.out
 replace Kpa := aq hk
 clear hk hp
 refine hK.out _ _ ((q4u KB.out ⟨c0, c1, c2, c3, c4, c5⟩)) (fun hHeld => ?_)
 clear hK K
 refine ow 11 (none) (M 12 4095) fun K hK => ?_
 refine q2d (g := pb) (off := 0) (cur := #[.int .i64 0, .int .i64 0, .int .i64 0]) (new := #[.int .i64 b0, .int .i64 b1, .int .i64 b2]) (seg := [.int .i64 b0, .int .i64 b1, .int .i64 b2]) (u := .agg #[.int .i64 b0, .int .i64 b1, .int .i64 b2]) rfl rfl rfl rfl rfl rfl (by rfl) (by kernel_rfl) rfl rfl (Nat.le_of_ble_eq_true rfl) Kpb.out ?_
 intro V4 hk hp
 replace Kpa := kp Kpa hp hne.out
 replace KB := bp KB hp gpb.out
 replace Kpb := aq hk
 clear hk hp
 refine hK.out _ _ ((q4u KB.out ⟨c0, c1, c2, c3, c4, c5⟩)) (fun hHeld => ?_)
 clear hK K
 refine q4t (by kernel_rfl) ?_
 rotate_left
 refine q2x (w1 := ?_) (v := ?_) (by rfl) rfl ?_ ?_
 rotate_left 2
 · go_simp
   constructor
   · rfl
   · rfl
 obtain ⟨pb, hpb⟩ : ∃ x, x = V0.heap.size := ⟨_, rfl⟩
 obtain ⟨V1, hV⟩ : ∃ V, V = V0.alloc (.cells #[.int .i64 0, .int .i64 0, .int .i64 0] 247) := ⟨_, rfl⟩
 rw [← hV, ← hpb]
 have Kpb : q0c (V1.heap[pb]? = some (.cells #[.int .i64 0, .int .i64 0, .int .i64 0] 247 (0, 0))) := ⟨by rw [hV]; exact aZ hpb⟩
 have gpb : q0c (w.heap.size ≤ pb) := ⟨by have := KB.out.size; omega⟩
 replace KB : q0c (Below w.heap.size w V1) := ⟨by rw [hV]; exact q0b KB.out _⟩
 clear hV hpb
 refine hK.out _ _ ((q4u KB.out ⟨c0, c1, c2, c3, c4, c5⟩)) (fun hHeld => ?_)
 clear hK K
 refine nw 8 ?_
 refine ow 8 (some 7) (M 12 1023) fun K hK => ?_
 refine q2x (w1 := ?_) (v := ?_) (by rfl) rfl ?_ ?_
 rotate_left 2
 · go_simp
   constructor
   · rfl
   · rfl
 obtain ⟨pa, hpa⟩ : ∃ x, x = V1.heap.size := ⟨_, rfl⟩
 obtain ⟨V2, hV⟩ : ∃ V, V = V1.alloc (.cells #[.int .i64 0, .int .i64 0, .int .i64 0] 247) := ⟨_, rfl⟩
 rw [← hV, ← hpa]
 have Kpa : q0c (V2.heap[pa]? = some (.cells #[.int .i64 0, .int .i64 0, .int .i64 0] 247 (0, 0))) := ⟨by rw [hV]; exact aZ hpa⟩
 have hne : q0c (pa ≠ pb) := ⟨by have := q0g Kpb.out; omega⟩
 replace Kpb : q0c (V2.heap[pb]? = some (.cells #[.int .i64 0, .int .i64 0, .int .i64 0] 247 (0, 0))) := ⟨by rw [hV]; exact aN Kpb.out⟩
 have gpa : q0c (w.heap.size ≤ pa) := ⟨by have := KB.out.size; omega⟩
 replace KB : q0c (Below w.heap.size w V2) := ⟨by rw [hV]; exact q0b KB.out _⟩
 clear hV hpa
 refine hK.out _ _ ((q4u KB.out ⟨c0, c1, c2, c3, c4, c5⟩)) (fun hHeld => ?_)
 clear hK K
 refine nw 7 ?_
 refine ow 10 (none) (M 12 2047) fun K hK => ?_
 refine q2d (g := pa) (off := 0) (cur := #[.int .i64 0, .int .i64 0, .int .i64 0]) (new := #[.int .i64 a0, .int .i64 a1, .int .i64 a2]) (seg := [.int .i64 a0, .int .i64 a1, .int .i64 a2]) (u := .agg #[.int .i64 a0, .int .i64 a1, .int .i64 a2]) rfl rfl rfl rfl rfl rfl (by rfl) (by kernel_rfl) rfl rfl (Nat.le_of_ble_eq_true rfl) Kpa.out ?_
 intro V3 hk hp
 replace Kpb := kp Kpb hp hne.out.symm
 replace KB := bp KB hp gpa.out
 replace Kpa := aq hk
 clear hk hp
 refine hK.out _ _ ((q4u KB.out ⟨c0, c1, c2, c3, c4, c5⟩)) (fun hHeld => ?_)
 clear hK K
 refine ow 11 (none) (M 12 4095) fun K hK => ?_
 refine q2d (g := pb) (off := 0) (cur := #[.int .i64 0, .int .i64 0, .int .i64 0]) (new := #[.int .i64 b0, .int .i64 b1, .int .i64 b2]) (seg := [.int .i64 b0, .int .i64 b1, .int .i64 b2]) (u := .agg #[.int .i64 b0, .int .i64 b1, .int .i64 b2]) rfl rfl rfl rfl rfl rfl (by rfl) (by kernel_rfl) rfl rfl (Nat.le_of_ble_eq_true rfl) Kpb.out ?_
 intro V4 hk hp
 replace Kpa := kp Kpa hp hne.out
 replace KB := bp KB hp gpb.out
 replace Kpb := aq hk
 clear hk hp
 refine hK.out _ _ ((q4u KB.out ⟨c0, c1, c2, c3, c4, c5⟩)) (fun hHeld => ?_)
 clear hK K
 refine q4t (by kernel_rfl) ?_
 all_goals
  clear hHeld
  go_wp2
  refine q2w (n := 19) (S := fun w' => w'.cell? ⟨pa, 0, none⟩ = some (.int .i64 a0) ∧ w'.cell? ⟨pa, 1, none⟩ = some (.int .i64 a1) ∧ w'.cell? ⟨pa, 2, none⟩ = some (.int .i64 a2) ∧ w'.cell? ⟨pb, 0, none⟩ = some (.int .i64 b0) ∧ w'.cell? ⟨pb, 1, none⟩ = some (.int .i64 b1) ∧ w'.cell? ⟨pb, 2, none⟩ = some (.int .i64 b2)) (ds := []) (M 19 0) (by kernel_rfl) rfl rfl ⟨(q0a (w := V4.drew) Kpa.out 0).trans rfl, (q0a (w := V4.drew) Kpa.out 1).trans rfl, (q0a (w := V4.drew) Kpa.out 2).trans rfl, (q0a (w := V4.drew) Kpb.out 0).trans rfl, (q0a (w := V4.drew) Kpb.out 1).trans rfl, (q0a (w := V4.drew) Kpb.out 2).trans rfl⟩ (fun hHeld => ?_)
  obtain ⟨V5, hV5⟩ : ∃ V, V = V4.drew := ⟨_, rfl⟩
  replace Kpa := dwK Kpa hV5
  replace Kpb := dwK Kpb hV5
  replace KB : q0c (Below w.heap.size w V5) := ⟨by rw [hV5]; exact q0m KB.out⟩
  rw [← hV5] at hHeld ⊢
  clear hV5
  refine pw 0 17 (M 19 1) ?_
  refine pw 2 19 (M 19 5) ?_
  refine pw 5 22 (M 19 37) ?_
  refine pw 7 24 (M 19 165) ?_
  refine pw 10 27 (M 19 1189) ?_
  refine pw 12 29 (M 19 5285) ?_
  refine tw 1 18 (M 19 5287) hHeld ?_
  refine tw 3 20 (M 19 5295) hHeld ?_
  refine tw 6 23 (M 19 5359) hHeld ?_
  refine tw 8 25 (M 19 5615) hHeld ?_
  refine tw 11 28 (M 19 7663) hHeld ?_
  refine tw 13 30 (M 19 15855) hHeld ?_
  refine ow 4 (some 21) (M 19 15871) fun K hK => ?_
  refine gow Tryz.func401 #[.int .i64 a2, .int .i64 b2] ?_
  refine (k7a a2 b2 _).mono ?_
  rintro e w1 ⟨rfl, hw⟩
  rw [hw]
  clear hw
  refine ⟨_, rfl, ?_⟩
  refine hK.out _ _ ⟨(q0a Kpa.out 0).trans rfl, (q0a Kpa.out 1).trans rfl, (q0a Kpa.out 2).trans rfl, (q0a Kpb.out 0).trans rfl, (q0a Kpb.out 1).trans rfl, (q0a Kpb.out 2).trans rfl⟩ (fun hHeld => ?_)
  clear hK K
  refine nw 21 ?_
  refine ow 9 (some 26) (M 19 16383) fun K hK => ?_
  refine gow Tryz.func401 #[.int .i64 a1, .int .i64 b1] ?_
  refine (k7a a1 b1 _).mono ?_
  rintro e w1 ⟨rfl, hw⟩
  rw [hw]
  clear hw
  refine ⟨_, rfl, ?_⟩
  refine hK.out _ _ ⟨(q0a Kpa.out 0).trans rfl, (q0a Kpa.out 1).trans rfl, (q0a Kpa.out 2).trans rfl, (q0a Kpb.out 0).trans rfl, (q0a Kpb.out 1).trans rfl, (q0a Kpb.out 2).trans rfl⟩ (fun hHeld => ?_)
  clear hK K
  refine nw 26 ?_
  refine ow 14 (some 31) (M 19 32767) fun K hK => ?_
  refine gow Tryz.func401 #[.int .i64 a0, .int .i64 b0] ?_
  refine (k7a a0 b0 _).mono ?_
  rintro e w1 ⟨rfl, hw⟩
  rw [hw]
  clear hw
  refine ⟨_, rfl, ?_⟩
  refine hK.out _ _ ⟨(q0a Kpa.out 0).trans rfl, (q0a Kpa.out 1).trans rfl, (q0a Kpa.out 2).trans rfl, (q0a Kpb.out 0).trans rfl, (q0a Kpb.out 1).trans rfl, (q0a Kpb.out 2).trans rfl⟩ (fun hHeld => ?_)
  clear hK K
  refine nw 31 ?_
  refine ow 15 (some 32) (M 19 65535) fun K hK => ?_
  refine q2x (w1 := ?_) (v := ?_) (by rfl) rfl ?_ ?_
  rotate_left 2
  · go_simp
    constructor
    · rfl
    · rfl
  obtain ⟨ps, hps⟩ : ∃ x, x = V5.heap.size := ⟨_, rfl⟩
  obtain ⟨V6, hV⟩ : ∃ V, V = V5.alloc (.cells #[.int .i64 (v6l a2 b2), .int .i64 (v6l a1 b1), .int .i64 (v6l a0 b0)] 3) := ⟨_, rfl⟩
  rw [← hV, ← hps]
  have Kps : q0c (V6.heap[ps]? = some (.cells #[.int .i64 (v6l a2 b2), .int .i64 (v6l a1 b1), .int .i64 (v6l a0 b0)] 3 (0, 0))) := ⟨by rw [hV]; exact aZ hps⟩
  replace Kpa : q0c (V6.heap[pa]? = some (.cells #[.int .i64 a0, .int .i64 a1, .int .i64 a2] 247 (0, 0))) := ⟨by rw [hV]; exact aN Kpa.out⟩
  replace Kpb : q0c (V6.heap[pb]? = some (.cells #[.int .i64 b0, .int .i64 b1, .int .i64 b2] 247 (0, 0))) := ⟨by rw [hV]; exact aN Kpb.out⟩
  replace KB : q0c (Below w.heap.size w V6) := ⟨by rw [hV]; exact q0b KB.out _⟩
  clear hV hps
  refine hK.out _ _ ⟨(q0a Kpa.out 0).trans rfl, (q0a Kpa.out 1).trans rfl, (q0a Kpa.out 2).trans rfl, (q0a Kpb.out 0).trans rfl, (q0a Kpb.out 1).trans rfl, (q0a Kpb.out 2).trans rfl⟩ (fun hHeld => ?_)
  clear hK K
  refine nw 32 ?_
  refine ow 16 (some 33) (M 19 131071) fun K hK => ?_
  refine gow Tryz.func400 #[.slice (some ⟨ps, 0, none⟩) 3 3] ?_
  refine (j2l ps 3 3 (by omega) (v6l a2 b2) (by unfold v6l; rw [if_neg (by omega), if_pos (by omega)]; decide) _ ((q0a Kps.out 0).trans rfl)).mono ?_
  rintro e w1 ⟨rfl, hw⟩
  rw [hw]
  clear hw
  have hc1 : v6l a2 b2 = 1 := by unfold v6l; rw [if_neg (by omega), if_pos (by omega)]
  rw [hc1]
  refine ⟨_, rfl, ?_⟩
  refine hK.out _ _ ⟨(q0a Kpa.out 0).trans rfl, (q0a Kpa.out 1).trans rfl, (q0a Kpa.out 2).trans rfl, (q0a Kpb.out 0).trans rfl, (q0a Kpb.out 1).trans rfl, (q0a Kpb.out 2).trans rfl⟩ (fun hHeld => ?_)
  clear hK K
  refine nw 33 ?_
  refine pw 17 34 (M 19 262143) ?_
  refine pw 18 6 (M 19 524287) ?_
  refine q4t (by kernel_rfl) ?_
  go_wp2
  go_ret
  exact ⟨rfl, KB.out⟩
def enc3 (m : Int × Int × Int) : List Value := [.int .i64 m.1, .int .i64 m.2.1, .int .i64 m.2.2]
def PQ (W : World) (base p : Nat) (v : Value) (l : List (Int × Int × Int)) : Prop := W.heap[p]? = some (.cells #[v] 336 (0, 0)) ∧ W.ownsRow base 247 3 v l.length (l.flatMap enc3)
theorem v9l (base p : Nat) (v : Value) (l : List (Int × Int × Int)) (m0 m1 m2 : Int) (hl : l.length ≤ 1000) (w0 w : World) (hB : Below base w0 w) (hb : base ≤ p) (hq : PQ w base p v l) :
 Calls Tryz.prog 398 #[.pointer (some ⟨p, 0, none⟩), .iface 247 (.agg #[.int .i64 m0, .int .i64 m1, .int .i64 m2])] w fun e w' => (∃ x, e = .returned x) ∧ ∃ v', PQ w' base p v' (l ++ [(m0, m1, m2)]) ∧ Below base w0 w' ∧ q0j w w' p v.ownBlock ∧ (v'.ownBlock = v.ownBlock ∨ ∃ b, v'.ownBlock = some b ∧ w.heap.size ≤ b) := by
 have hu := Tryz.underlying336
 have hum := Tryz.underlying247
 obtain ⟨hq1, hq2⟩ := hq
 obtain ⟨A, c, rfl⟩ := q0u hq2
 have KP := aq hq1
 have O_V := aq hq2
 have KB := aq hB
 have KN := aq hl
 clear hq1 hq2 hB hl
 go_enter Tryz.func398, Tryz.ntmps398
 have hta : ∀ (u : Value) (W : World), (Instr.typeAssert (.iface 247 u) 20 247 true).run Tryz.prog W = .ok (.tuple #[u, .bool true]) W := fun u W => by kernel_rfl
 go_wp2
 obtain ⟨q, hM⟩ : ∃ q, q = w.heap.size := ⟨_, rfl⟩
 obtain ⟨V0, hV0⟩ : ∃ V, V = w.alloc (.cells #[.int .i64 m0, .int .i64 m1, .int .i64 m2] 247) := ⟨_, rfl⟩
 have KM : q0c (V0.heap[q]? = some (.cells #[.int .i64 m0, .int .i64 m1, .int .i64 m2] 247 (0, 0))) := ⟨by rw [hV0]; exact aZ hM⟩
 have hpl := q0g KP.out
 have O_W := O_V
 replace KP : q0c (V0.heap[p]? = some (.cells #[.slice A l.length c] 336 (0, 0))) := ⟨by rw [hV0]; exact aN KP.out⟩
 replace O_V : q0c (V0.ownsRow base 247 3 (.slice A l.length c) l.length (l.flatMap enc3)) := ⟨by rw [hV0]; exact World.ownsRow.alloc O_V.out _⟩
 replace KB : q0c (Below base w0 V0) := ⟨by rw [hV0]; exact KB.out.alloc (by omega) _⟩
 have KW : q0c (Below w.heap.size w V0) := ⟨by rw [hV0]; exact q0b (Below.refl _ _) _⟩
 have HM := aq hM
 have HP := aq hpl
 rw [← hV0, ← hM]
 clear hV0 hM hpl
 have HNM : q0c (some q ≠ (Value.slice A l.length c).ownBlock) := ⟨fun e => by have := q8a O_W.out q e.symm; have h2 := HM.out; omega⟩
 refine q2w (n := 9) (S := fun w' => w'.cell? ⟨p, 0, none⟩ = some (.slice A l.length c) ∧ w'.cell? ⟨q, 0, none⟩ = some (.int .i64 m0) ∧ w'.cell? ⟨q, 1, none⟩ = some (.int .i64 m1) ∧ w'.cell? ⟨q, 2, none⟩ = some (.int .i64 m2)) (ds := [8]) (M 9 0) (by kernel_rfl) rfl rfl ⟨(q0a (w := V0.drew) KP.out 0).trans rfl, (q0a (w := V0.drew) KM.out 0).trans rfl, (q0a (w := V0.drew) KM.out 1).trans rfl, (q0a (w := V0.drew) KM.out 2).trans rfl⟩ (fun hHeld => ?_)
 obtain ⟨V1, hV1⟩ : ∃ V, V = V0.drew := ⟨_, rfl⟩
 replace KP := dwK KP hV1
 replace KM := dwK KM hV1
 replace O_V := dwO O_V hV1
 replace KB : q0c (Below base w0 V1) := by rw [hV1]; exact ⟨q0m KB.out⟩
 replace KW : q0c (Below w.heap.size w V1) := by rw [hV1]; exact ⟨q0m KW.out⟩
 rw [← hV1] at hHeld ⊢
 clear hV1
 refine pw 0 12 (M 9 1) ?_
 refine pw 1 13 (M 9 3) ?_
 refine pw 2 14 (M 9 7) ?_
 refine tw 3 15 (M 9 15) hHeld ?_
 refine tw 4 16 (M 9 31) hHeld ?_
 refine ow 5 (some 17) (M 9 63) fun K hK => ?_
 refine q2x (w1 := ?_) (v := ?_) (by rfl) rfl ?_ ?_
 rotate_left 2
 · go_simp
   constructor
   · rfl
   · rfl
 refine hK.out _ _ ⟨(q0a (((q0b (Below.refl V1.heap.size V1) _).block _ (q0g KP.out)).trans KP.out) 0).trans rfl, (q0a (((q0b (Below.refl V1.heap.size V1) _).block _ (q0g KM.out)).trans KM.out) 0).trans rfl, (q0a (((q0b (Below.refl V1.heap.size V1) _).block _ (q0g KM.out)).trans KM.out) 1).trans rfl, (q0a (((q0b (Below.refl V1.heap.size V1) _).block _ (q0g KM.out)).trans KM.out) 2).trans rfl⟩ (fun hHeld => ?_)
 clear hK K
 refine nw 17 ?_
 refine ow 6 (some 18) (M 9 127) fun K hK => ?_
 refine q2u (w0 := w0) base (by rfl) (.tmp 15) (.tmp 17) 336 247 (.agg #[.int .i64 0, .int .i64 0, .int .i64 0]) 3 24 rfl hu (by kernel_rfl) rfl (by decide) (by decide) (.slice A l.length c) l.length (l.flatMap enc3) [.int .i64 m0, .int .i64 m1, .int .i64 m2] rfl ?hx rfl ?h1 O_V.out KB.out ?hbb ?hl ?_
 (case hx => rfl)
 (case h1 => simp [Value.oneCell'])
 (case hbb => have := q0g KP.out; omega)
 (case hl => have := KN.out; omega)
 intro v2 V2 ho hb2 hg hat
 obtain ⟨A2, c2, rfl⟩ := q0u ho
 have hne := own_ne O_V.out KP.out (by decide)
 have hnm : some q ≠ (Value.slice A l.length c).ownBlock := fun e => absurd e (HNM.out)
 have KG := aq hg
 have HAT := aq hat
 have O_2 := aq ho
 have KB2 := aq hb2
 have KM2 := aq ((hg.block _ (q0g KM.out) hnm).trans KM.out)
 have KP2 := aq ((hg.block _ (q0g KP.out) hne).trans KP.out)
 clear ho hb2 hg hat hne hnm
 refine hK.out _ _ ⟨(q0a KP2.out 0).trans rfl, (q0a KM2.out 0).trans rfl, (q0a KM2.out 1).trans rfl, (q0a KM2.out 2).trans rfl⟩ (fun hHeld => ?_)
 clear hK K
 refine nw 18 ?_
 refine pw 7 19 (M 9 255) ?_
 refine z3g (i := 8) (N := none) (M 9 511) rfl rfl (by kernel_rfl) (by decide) (fun K hK => ?_)
 refine q2d (g := p) (off := 0) (cur := #[.slice A l.length c]) (new := #[.slice A2 (l.length + 1) c2]) (seg := [.slice A2 (l.length + 1) c2]) (u := .slice A2 (l.length + 1) c2) rfl rfl rfl rfl rfl rfl (by rfl) (by kernel_rfl) rfl rfl (Nat.le_of_ble_eq_true rfl) KP2.out ?_
 intro V3 hk hp
 have KP3 := aq hk
 have HPut := aq hp
 clear hk hp
 refine hK.out _ _ ?_
 clear hK K
 refine q4t (by kernel_rfl) ?_
 go_wp2
 go_end0
 refine ⟨⟨_, rfl⟩, .slice A2 (l.length + 1) c2, ⟨?_, ?_⟩, ?_, ?_, ?_⟩
 · exact KP3.out
 · rw [List.length_append, List.flatMap_append]
   exact q2j O_2.out fun k hv => HPut.out.far k (fun e => own_ne O_2.out KP2.out (by decide) (by rw [hv, e]))
 · exact HPut.out.below KB2.out hb
 · have h1 := KG.out
   have h3 := q0g KP.out
   exact ⟨by rw [HPut.out.size]; exact Nat.le_trans KW.out.size h1.size, fun k hk n1 n2 => (HPut.out.far k n1).trans ((h1.block k (Nat.lt_of_lt_of_le hk KW.out.size) n2).trans (KW.out.block k hk))⟩
 · rcases HAT.out with h | ⟨b, h1, h2⟩
   · exact .inl h
   · exact .inr ⟨b, h1, Nat.le_trans KW.out.size h2⟩
theorem k6b (b c : Nat) (cur : Array Value) (a0 a1 a2 b0 b1 b2 : Int) (w : World) (hc : w.heap[b]? = some (.cells cur 247 (0, 0))) (h6 : cur.toList.take 6 = [.int .i64 b0, .int .i64 b1, .int .i64 b2, .int .i64 a0, .int .i64 a1, .int .i64 a2]) :
 Calls Tryz.prog 399 #[.slice (some ⟨b, 0, none⟩) 2 c, .int .i64 0, .int .i64 1] w fun e w' => (∃ x, e = .returned x) ∧ w'.heap[b]? = some (.cells ([Value.int .i64 a0, .int .i64 a1, .int .i64 a2, .int .i64 b0, .int .i64 b1, .int .i64 b2] ++ cur.toList.drop 6).toArray 247 (0, 0)) ∧ Put b w w' := by
 have hu := Tryz.underlying336
 have hum := Tryz.underlying247
 have hcur : cur.toList = [.int .i64 b0, .int .i64 b1, .int .i64 b2, .int .i64 a0, .int .i64 a1, .int .i64 a2] ++ cur.toList.drop 6 := by rw [← h6, List.take_append_drop]
 obtain ⟨tl, htl⟩ : ∃ tl, tl = cur.toList.drop 6 := ⟨_, rfl⟩
 rw [← htl] at hcur ⊢
 have hcu : cur = ([Value.int .i64 b0, .int .i64 b1, .int .i64 b2, .int .i64 a0, .int .i64 a1, .int .i64 a2] ++ tl).toArray := by rw [← hcur]
 have KC := aq (hcu ▸ hc)
 clear hcur hcu htl h6 hc
 go_enter Tryz.func399, Tryz.ntmps399
 go_wp2
 refine q2w (n := 16) (S := fun w' => True) (ds := []) (M 16 0) (by kernel_rfl) rfl rfl trivial (fun hHeld => ?_)
 obtain ⟨V0, hV0⟩ : ∃ V, V = w.drew := ⟨_, rfl⟩
 replace KC := dwK KC hV0
 have PW : q0c (Put b w V0) := ⟨by rw [hV0]; exact ⟨rfl, rfl, rfl, rfl, fun _ _ => rfl⟩⟩
 rw [← hV0]
 clear hV0
 have e0 := (q0a KC.out 0).trans rfl
 have e1 := (q0a KC.out 1).trans rfl
 have e2 := (q0a KC.out 2).trans rfl
 have e3 := (q0a KC.out 3).trans rfl
 have e4 := (q0a KC.out 4).trans rfl
 have e5 := (q0a KC.out 5).trans rfl
 refine pw 0 6 (M 16 1) ?_
 refine pw 1 7 (M 16 3) ?_
 refine pw 2 8 (M 16 7) ?_
 refine pw 3 9 (M 16 15) ?_
 refine pw 4 10 (M 16 31) ?_
 refine pw 5 11 (M 16 63) ?_
 refine pw 6 12 (M 16 127) ?_
 refine pw 8 14 (M 16 383) ?_
 refine pw 9 15 (M 16 895) ?_
 refine pw 10 16 (M 16 1919) ?_
 refine j2f (i := 7) (j := 11) (Ni := some 13) (Nj := some 17) (M 16 2047) (M 16 3967) rfl rfl rfl rfl (by kernel_rfl) (by decide) (by decide) (fun K hK => ?_) (fun K hK => ?_)
 refine q2x (w1 := ?_) (v := ?_) (by rfl) rfl ?_ ?_
 rotate_left 2
 · go_simp
   constructor
   · rfl
   · rfl
 refine hK.out _ _ trivial (fun hHeld => ?_)
 clear hK K
 refine nw 13 ?_
 refine ow 11 (some 17) (M 16 4095) fun K hK => ?_
 refine q2x (w1 := ?_) (v := ?_) (by rfl) rfl ?_ ?_
 rotate_left 2
 · go_simp
   constructor
   · rfl
   · rfl
 refine hK.out _ _ trivial (fun hHeld => ?_)
 clear hK K
 refine nw 17 ?_
 refine pw 12 18 (M 16 8191) ?_
 refine ow 13 (none) (M 16 16383) fun K hK => ?_
 refine q2d (g := b) (off := 0) (cur := ([Value.int .i64 b0, Value.int .i64 b1, Value.int .i64 b2, Value.int .i64 a0, Value.int .i64 a1, Value.int .i64 a2] ++ tl).toArray) (new := ([Value.int .i64 a0, Value.int .i64 a1, Value.int .i64 a2, Value.int .i64 a0, Value.int .i64 a1, Value.int .i64 a2] ++ tl).toArray) (seg := [.int .i64 a0, .int .i64 a1, .int .i64 a2]) (u := .agg #[.int .i64 a0, .int .i64 a1, .int .i64 a2]) rfl rfl rfl rfl rfl rfl (by rfl) (by kernel_rfl) rfl (by simp) (by simp) KC.out ?_
 intro V1 hk hp
 replace KC := aq hk
 replace PW := aq (PW.out.trans hp)
 clear hk hp
 refine hK.out _ _ trivial (fun hHeld => ?_)
 clear hK K
 refine pw 14 19 (M 16 32767) ?_
 refine ow 15 (none) (M 16 65535) fun K hK => ?_
 refine q2d (g := b) (off := 3) (cur := ([Value.int .i64 a0, Value.int .i64 a1, Value.int .i64 a2, Value.int .i64 a0, Value.int .i64 a1, Value.int .i64 a2] ++ tl).toArray) (new := ([Value.int .i64 a0, Value.int .i64 a1, Value.int .i64 a2, Value.int .i64 b0, Value.int .i64 b1, Value.int .i64 b2] ++ tl).toArray) (seg := [.int .i64 b0, .int .i64 b1, .int .i64 b2]) (u := .agg #[.int .i64 b0, .int .i64 b1, .int .i64 b2]) rfl rfl rfl rfl rfl rfl (by rfl) (by kernel_rfl) rfl (by simp) (by simp) KC.out ?_
 intro V2 hk hp
 replace KC := aq hk
 replace PW := aq (PW.out.trans hp)
 clear hk hp
 refine hK.out _ _ trivial (fun hHeld => ?_)
 clear hK K
 refine q4t (by kernel_rfl) ?_
 rotate_left
 refine q2x (w1 := ?_) (v := ?_) (by rfl) rfl ?_ ?_
 rotate_left 2
 · go_simp
   constructor
   · rfl
   · rfl
 refine hK.out _ _ trivial (fun hHeld => ?_)
 clear hK K
 refine nw 17 ?_
 refine ow 7 (some 13) (M 16 4095) fun K hK => ?_
 refine q2x (w1 := ?_) (v := ?_) (by rfl) rfl ?_ ?_
 rotate_left 2
 · go_simp
   constructor
   · rfl
   · rfl
 refine hK.out _ _ trivial (fun hHeld => ?_)
 clear hK K
 refine nw 13 ?_
 refine pw 12 18 (M 16 8191) ?_
 refine ow 13 (none) (M 16 16383) fun K hK => ?_
 refine q2d (g := b) (off := 0) (cur := ([Value.int .i64 b0, Value.int .i64 b1, Value.int .i64 b2, Value.int .i64 a0, Value.int .i64 a1, Value.int .i64 a2] ++ tl).toArray) (new := ([Value.int .i64 a0, Value.int .i64 a1, Value.int .i64 a2, Value.int .i64 a0, Value.int .i64 a1, Value.int .i64 a2] ++ tl).toArray) (seg := [.int .i64 a0, .int .i64 a1, .int .i64 a2]) (u := .agg #[.int .i64 a0, .int .i64 a1, .int .i64 a2]) rfl rfl rfl rfl rfl rfl (by rfl) (by kernel_rfl) rfl (by simp) (by simp) KC.out ?_
 intro V1 hk hp
 replace KC := aq hk
 replace PW := aq (PW.out.trans hp)
 clear hk hp
 refine hK.out _ _ trivial (fun hHeld => ?_)
 clear hK K
 refine pw 14 19 (M 16 32767) ?_
 refine ow 15 (none) (M 16 65535) fun K hK => ?_
 refine q2d (g := b) (off := 3) (cur := ([Value.int .i64 a0, Value.int .i64 a1, Value.int .i64 a2, Value.int .i64 a0, Value.int .i64 a1, Value.int .i64 a2] ++ tl).toArray) (new := ([Value.int .i64 a0, Value.int .i64 a1, Value.int .i64 a2, Value.int .i64 b0, Value.int .i64 b1, Value.int .i64 b2] ++ tl).toArray) (seg := [.int .i64 b0, .int .i64 b1, .int .i64 b2]) (u := .agg #[.int .i64 b0, .int .i64 b1, .int .i64 b2]) rfl rfl rfl rfl rfl rfl (by rfl) (by kernel_rfl) rfl (by simp) (by simp) KC.out ?_
 intro V2 hk hp
 replace KC := aq hk
 replace PW := aq (PW.out.trans hp)
 clear hk hp
 refine hK.out _ _ trivial (fun hHeld => ?_)
 clear hK K
 refine q4t (by kernel_rfl) ?_
 go_wp2
 all_goals
  go_end0
  exact ⟨⟨_, rfl⟩, KC.out, PW.out⟩
theorem j0k (base p b c : Nat) (m0 m1 m2 : Int) (w0 w : World) (hB : Below base w0 w) (hb : base ≤ p) (h2 : 2 ≤ c) (hp : w.heap[p]? = some (.cells #[.slice (some ⟨b, 0, none⟩) 2 c] 336 (0, 0))) (hbp : b ≠ p) (c3 : w.cell? ⟨b, 3, none⟩ = some (.int .i64 m0)) (c4 : w.cell? ⟨b, 4, none⟩ = some (.int .i64 m1)) (c5 : w.cell? ⟨b, 5, none⟩ = some (.int .i64 m2)) :
 Calls Tryz.prog 397 #[.pointer (some ⟨p, 0, none⟩)] w fun e w' => e = .returned (.iface 247 (.agg #[.int .i64 m0, .int .i64 m1, .int .i64 m2])) ∧ Below base w0 w' := by
 have hu := Tryz.underlying336
 have hum := Tryz.underlying247
 have z := (q0a hp 0).trans rfl
 obtain ⟨V, hV⟩ : ∃ V, V = w.alloc (.cells #[.int .i64 m0, .int .i64 m1, .int .i64 m2] 247) := ⟨_, rfl⟩
 have KM : V.heap[w.heap.size]? = some (.cells #[.int .i64 m0, .int .i64 m1, .int .i64 m2] 247 (0, 0)) := by rw [hV]; exact aZ rfl
 have KP : V.heap[p]? = some (.cells #[.slice (some ⟨b, 0, none⟩) 2 c] 336 (0, 0)) := by rw [hV]; exact aN hp
 have hpl := q0g hp
 have BV : Below base w0 V := by rw [hV]; exact hB.alloc (by omega) _
 have z1 := (q0a KP 0).trans rfl
 have f1 := q0e KP 0
 obtain ⟨V2, hV2⟩ : ∃ V2, V2 = V.setCell ⟨p, 0, none⟩ (.slice (some ⟨b, 0, none⟩) 1 c) := ⟨_, rfl⟩
 have KM2 : V2.heap[w.heap.size]? = some (.cells #[.int .i64 m0, .int .i64 m1, .int .i64 m2] 247 (0, 0)) := by rw [hV2]; exact q1e KM (by show w.heap.size ≠ p; omega) _
 have B2 : Below base w0 V2 := by rw [hV2]; exact q1y BV hb
 have y0 := (q0a KM2 0).trans rfl
 have y1 := (q0a KM2 1).trans rfl
 have y2 := (q0a KM2 2).trans rfl
 have HV := aq hV.symm
 have HV2 := aq hV2.symm
 have KB := aq B2
 clear hB hp hV hV2 KM KP KM2 BV B2 hpl
 go_enter Tryz.func397, Tryz.ntmps397
 go_wp2_with (first | (rw [HV.out]) | (rw [HV2.out]))
 go_ret
 exact ⟨rfl, KB.out⟩
theorem z2n (p : Nat) (W : World) (v : Value) (h : W.cell? ⟨p, 0, none⟩ = some v) : (method 496 312 (.pointer (some ⟨p, 0, none⟩)) "Len").run Tryz.prog W = .ok (395, v) W := by
 have e : (method 496 312 (.pointer (some ⟨p, 0, none⟩)) "Len").run Tryz.prog W = (Sem.load .plain ⟨p, 0, none⟩ (fun v => Sem.pure (395, v))).run Tryz.prog W := by kernel_rfl
 rw [e]
 simp [Sem.run, h]
theorem v7v (p : Nat) (W : World) (v : Value) (h : W.cell? ⟨p, 0, none⟩ = some v) : (method 496 312 (.pointer (some ⟨p, 0, none⟩)) "Less").run Tryz.prog W = .ok (396, v) W := by
 have e : (method 496 312 (.pointer (some ⟨p, 0, none⟩)) "Less").run Tryz.prog W = (Sem.load .plain ⟨p, 0, none⟩ (fun v => Sem.pure (396, v))).run Tryz.prog W := by kernel_rfl
 rw [e]
 simp [Sem.run, h]
theorem v9n (p : Nat) (W : World) (v : Value) (h : W.cell? ⟨p, 0, none⟩ = some v) : (method 496 312 (.pointer (some ⟨p, 0, none⟩)) "Swap").run Tryz.prog W = .ok (399, v) W := by
 have e : (method 496 312 (.pointer (some ⟨p, 0, none⟩)) "Swap").run Tryz.prog W = (Sem.load .plain ⟨p, 0, none⟩ (fun v => Sem.pure (399, v))).run Tryz.prog W := by kernel_rfl
 rw [e]
 simp [Sem.run, h]
theorem j1k (h : Value) (w : World) : Calls Tryz.prog 342 #[h, .int .i64 0] w fun e w' => (∃ x, e = .returned x) ∧ w' = w := by
 go_enter Tryz.func342, Tryz.ntmps342
 go_wp2
 refine wp_loop_once ?_
 go_wp2
 go_end0
 exact ⟨⟨_, rfl⟩, rfl⟩
theorem j1h (p b c : Nat) (a0 a1 a2 b0 b1 b2 : Int) (hv : b2 < a2) (w : World) (hp : w.cell? ⟨p, 0, none⟩ = some (.slice (some ⟨b, 0, none⟩) 2 c)) (hc : w.cell? ⟨b, 0, none⟩ = some (.int .i64 b0) ∧ w.cell? ⟨b, 1, none⟩ = some (.int .i64 b1) ∧ w.cell? ⟨b, 2, none⟩ = some (.int .i64 b2) ∧ w.cell? ⟨b, 3, none⟩ = some (.int .i64 a0) ∧ w.cell? ⟨b, 4, none⟩ = some (.int .i64 a1) ∧ w.cell? ⟨b, 5, none⟩ = some (.int .i64 a2)) :
 Calls Tryz.prog 342 #[.iface 312 (.pointer (some ⟨p, 0, none⟩)), .int .i64 1] w fun e w' => (∃ x, e = .returned x) ∧ Below w.heap.size w w' := by
 have HC := aq hc
 have hm := v7v p w _ hp
 clear hc
 go_enter Tryz.func342, Tryz.ntmps342
 go_wp2
 refine wp_loop_once ?_
 go_wp2_with (first
  | (go_at_call 396; refine (k5t b c a0 a1 a2 b0 b1 b2 hv _ HC.out).mono ?_; rintro e w1 ⟨rfl, hB⟩))
 go_end0
 exact ⟨⟨_, rfl⟩, hB⟩
theorem k3x {W : World} {base : Nat} {v : Value} {b0 b1 b2 a0 a1 a2 : Int} (h : W.ownsRow base 247 3 v 2 ([(b0, b1, b2), (a0, a1, a2)].flatMap enc3)) : ∃ b c cur, v = .slice (some ⟨b, 0, none⟩) 2 c ∧ 2 ≤ c ∧ base ≤ b ∧ W.heap[b]? = some (.cells cur 247 (0, 0)) ∧ cur.toList.take 6 = [.int .i64 b0, .int .i64 b1, .int .i64 b2, .int .i64 a0, .int .i64 a1, .int .i64 a2] ∧
 (W.cell? ⟨b, 0, none⟩ = some (.int .i64 b0) ∧ W.cell? ⟨b, 1, none⟩ = some (.int .i64 b1) ∧ W.cell? ⟨b, 2, none⟩ = some (.int .i64 b2) ∧ W.cell? ⟨b, 3, none⟩ = some (.int .i64 a0) ∧ W.cell? ⟨b, 4, none⟩ = some (.int .i64 a1) ∧ W.cell? ⟨b, 5, none⟩ = some (.int .i64 a2)) := by
 obtain ⟨hl, ⟨e, e0⟩ | ⟨g, cap, cur, e, h1, h2, h3, h4, h5, h6⟩⟩ := h
 · omega
 · subst e
   have h6' : cur.toList.take 6 = [.int .i64 b0, .int .i64 b1, .int .i64 b2, .int .i64 a0, .int .i64 a1, .int .i64 a2] := h6
   have hk : ∀ (j : Nat) (u : Value), j < 6 → ([.int .i64 b0, .int .i64 b1, .int .i64 b2, .int .i64 a0, .int .i64 a1, .int .i64 a2] : List Value)[j]? = some u → W.cell? ⟨g, j, none⟩ = some u := fun j u hj hu => by
    rw [← h6', List.getElem?_take, if_pos hj, Array.getElem?_toList] at hu
    exact (q0a h2 j).trans hu
   exact ⟨g, cap, cur, rfl, h3, h1, h2, h6', hk 0 _ (by decide) rfl, hk 1 _ (by decide) rfl, hk 2 _ (by decide) rfl, hk 3 _ (by decide) rfl, hk 4 _ (by decide) rfl, hk 5 _ (by decide) rfl⟩
theorem k6e (base p : Nat) (v : Value) (m0 m1 m2 : Int) (w0 w : World) (hB : Below base w0 w) (hb : base ≤ p) (hq : PQ w base p v []) :
 Calls Tryz.prog 324 #[.iface 312 (.pointer (some ⟨p, 0, none⟩)), .iface 247 (.agg #[.int .i64 m0, .int .i64 m1, .int .i64 m2])] w fun e w' => (∃ x, e = .returned x) ∧ ∃ v', PQ w' base p v' [(m0, m1, m2)] ∧ Below base w0 w' ∧ q0j w w' p v.ownBlock ∧ (v'.ownBlock = v.ownBlock ∨ ∃ b, v'.ownBlock = some b ∧ w.heap.size ≤ b) := by
 have HQ := aq hq
 have HB := aq hB
 clear hq hB
 go_enter Tryz.func324, Tryz.ntmps324
 go_wp2_with (first
  | (go_at_call 398; refine (v9l base p v [] m0 m1 m2 (by simp) w0 _ HB.out hb HQ.out).mono ?_; rintro e w1 ⟨⟨x, rfl⟩, v1, hq, hb1, hk, ho⟩; have Q1 := aq hq; have B1 := aq hb1; have K1 := aq hk; have O1 := aq ho; obtain ⟨A1, c1, rfl⟩ := q0u hq.2; have z1 := z2n p w1 _ ((q0a hq.1 0).trans rfl); clear hq hb1 hk ho)
  | (go_at_call 395; refine (k1q _ _ _ _).mono ?_; rintro e w2 ⟨rfl, rfl⟩)
  | (go_at_call 342; refine (j1k _ _).mono ?_; rintro e w2 ⟨⟨x, rfl⟩, rfl⟩))
 go_end0
 exact ⟨⟨_, rfl⟩, _, Q1.out, B1.out, K1.out, O1.out⟩
theorem k5v (base p : Nat) (v : Value) (b0 b1 b2 m0 m1 m2 : Int) (hv : b2 < m2) (w0 w : World) (hB : Below base w0 w) (hb : base ≤ p) (hq : PQ w base p v [(b0, b1, b2)]) :
 Calls Tryz.prog 324 #[.iface 312 (.pointer (some ⟨p, 0, none⟩)), .iface 247 (.agg #[.int .i64 m0, .int .i64 m1, .int .i64 m2])] w fun e w' => (∃ x, e = .returned x) ∧ ∃ v', PQ w' base p v' [(b0, b1, b2), (m0, m1, m2)] ∧ Below base w0 w' ∧ q0j w w' p v.ownBlock ∧ (v'.ownBlock = v.ownBlock ∨ ∃ b, v'.ownBlock = some b ∧ w.heap.size ≤ b) := by
 have HQ := aq hq
 have HB := aq hB
 clear hq hB
 go_enter Tryz.func324, Tryz.ntmps324
 go_wp2_with (first
  | (go_at_call 398; refine (v9l base p v [(b0, b1, b2)] m0 m1 m2 (by simp) w0 _ HB.out hb HQ.out).mono ?_; rintro e w1 ⟨⟨x, rfl⟩, v1, hq, hb1, hk, ho⟩; have Q1 := aq hq; have B1 := aq hb1; have K1 := aq hk; have O1 := aq ho; obtain ⟨bb, c1, cur, rfl, hc1, -, -, -, h6⟩ := k3x hq.2; have H6 := aq h6; have P1 := aq ((q0a hq.1 0).trans rfl); have z1 := z2n p w1 _ ((q0a hq.1 0).trans rfl); clear hq hb1 hk ho h6)
  | (go_at_call 395; refine (k1q _ _ _ _).mono ?_; rintro e w2 ⟨rfl, hw2⟩; rw [hw2]; clear hw2)
  | (go_at_call 342; refine (j1h p bb c1 m0 m1 m2 b0 b1 b2 hv _ P1.out H6.out).mono ?_; rintro e w3 ⟨⟨x, rfl⟩, hb3⟩))
 go_end0
 have hq := Q1.out
 exact ⟨⟨_, rfl⟩, _, ⟨(hb3.block _ (q0g hq.1)).trans hq.1, q1o hq.2 hb3⟩, B1.out.trans (hb3.mono (by have := q0g hq.1; omega)), ⟨Nat.le_trans K1.out.1 hb3.size, fun k hk n1 n2 => (hb3.block k (Nat.lt_of_lt_of_le hk K1.out.1)).trans (K1.out.2 k hk n1 n2)⟩, O1.out⟩
theorem k7o (h : Value) (w : World) : Calls Tryz.prog 325 #[h, .int .i64 0, .int .i64 1] w fun e w' => e = .returned (.bool false) ∧ w' = w := by
 go_enter Tryz.func325, Tryz.ntmps325
 go_wp2
 refine wp_loop_once ?_
 go_wp2
 go_ret
 exact ⟨rfl, rfl⟩
theorem k8u (base p : Nat) (v : Value) (b0 b1 b2 m0 m1 m2 : Int) (w0 w : World) (hB : Below base w0 w) (hb : base ≤ p) (hq : PQ w base p v [(b0, b1, b2), (m0, m1, m2)]) :
 Calls Tryz.prog 305 #[.iface 312 (.pointer (some ⟨p, 0, none⟩))] w fun e w' => e = .returned (.iface 247 (.agg #[.int .i64 b0, .int .i64 b1, .int .i64 b2])) ∧ Below base w0 w' := by
 obtain ⟨bb, c1, cur, rfl, hc1, hbb, hcur, h6, hx⟩ := k3x hq.2
 have hbp : bb ≠ p := fun e => own_ne hq.2 hq.1 (by decide) (by rw [← e]; rfl)
 have HQ := aq hq.1
 have HB := aq hB
 have HC := aq hcur
 have H6 := aq h6
 have HP := aq hbp
 have HBB := aq hbb
 have z1 := z2n p w _ ((q0a hq.1 0).trans rfl)
 have z2 := v9n p w _ ((q0a hq.1 0).trans rfl)
 clear hq hB hcur h6 hx hbp
 go_enter Tryz.func305, Tryz.ntmps305
 go_wp2_with (first
  | (go_at_call 395; refine (k1q _ _ _ _).mono ?_; rintro e w2 ⟨rfl, hw2⟩; rw [hw2]; clear hw2)
  | (go_at_call 399; refine (k6b bb c1 cur m0 m1 m2 b0 b1 b2 _ HC.out H6.out).mono ?_; rintro e w3 ⟨⟨x, rfl⟩, hs, hp⟩; have P3 := aq ((hp.far _ HP.out.symm).trans HQ.out); have B3 := aq (hp.below HB.out HBB.out); have c3 := (q0a hs 3).trans rfl; have c4 := (q0a hs 4).trans rfl; have c5 := (q0a hs 5).trans rfl; clear hs hp)
  | (go_at_call 325; refine (k7o _ _).mono ?_; rintro e w4 ⟨rfl, hw4⟩; rw [hw4]; clear hw4)
  | (go_at_call 397; refine (j0k base p bb c1 b0 b1 b2 w0 _ B3.out hb hc1 P3.out HP.out c3 c4 c5).mono ?_; rintro e w5 ⟨rfl, hb5⟩))
 go_ret
 exact ⟨rfl, hb5⟩
theorem v5o (w : World) : Calls Tryz.prog 258 #[.slice none 0 0] w fun e w' => e = .returned (.slice none 0 0) ∧ w' = w := by
 have he : ∀ W : World, (binOp BinOp.eql 31 (.slice none 0 0) (.slice none 0 0)).run Tryz.prog W = .ok (.bool true) W := fun W => by kernel_rfl
 go_enter Tryz.func258, Tryz.ntmps258
 go_wp2
 go_ret
 exact ⟨rfl, rfl⟩
theorem v0q (g : Value) (k : Int) (hk : 0 ≤ k) (w : World) : Calls Tryz.prog 301 #[.slice none 0 0, .int .i64 0, .int .i64 0, g] w fun e w' => (∃ v, e = .returned v) ∧ w' = w := by
 go_enter Tryz.func301, Tryz.ntmps301
 go_wp2
 refine wp_loop_once ?_
 go_wp2
 go_end0
 exact ⟨⟨_, rfl⟩, rfl⟩
theorem v0y (g : Value) (w : World) : Calls Tryz.prog 261 #[.slice none 0 0, .int .i64 0, g] w fun e w' => (∃ v, e = .returned v) ∧ w' = w := by
 go_enter Tryz.func261, Tryz.ntmps261
 go_wp2
 refine wp_loop_once ?_
 go_wp2_with (first | (go_at_call 301; refine (v0q _ 0 (by decide) _).mono ?_; rintro e w' ⟨⟨v, rfl⟩, rfl⟩))
 refine wp_loop_once ?_
 go_wp2
 go_end0
 exact ⟨⟨_, rfl⟩, rfl⟩
theorem v9i (g : Value) (w : World) : Calls Tryz.prog 213 #[.slice none 0 0, g] w fun e w' => (∃ v, e = .returned v) ∧ w' = w := by
 go_enter Tryz.func213, Tryz.ntmps213
 go_wp2_with (first | (go_at_call 261; refine (v0y _ _).mono ?_; rintro e w' ⟨⟨v, rfl⟩, rfl⟩))
 go_end0
 exact ⟨⟨_, rfl⟩, rfl⟩
theorem k5w (x y z : ByteArray) (w : World) : Calls Tryz.prog 211 #[T3 x y z] w fun e w' => e = .returned (T3 x y z) ∧ Below w.heap.size w w' := by
 have hut := Tryz.underlying33
 unfold T3
 go_enter Tryz.func211, Tryz.ntmps211
 go_wp2
 obtain ⟨W0, hW0⟩ : ∃ W0, W0 = ((w.alloc (.cells (T3c x y z) 33)).alloc (.cells (T3c ⟨#[]⟩ ⟨#[]⟩ ⟨#[]⟩) 33)) := ⟨_, rfl⟩
 have KT : q0c (W0.heap[w.heap.size]? = some (.cells (T3c x y z) 33 (0, 0))) := ⟨by rw [hW0]; exact aN (aZ rfl)⟩
 have KZ : q0c (W0.heap[w.heap.size + 1]? = some (.cells (T3c ⟨#[]⟩ ⟨#[]⟩ ⟨#[]⟩) 33 (0, 0))) := ⟨by rw [hW0]; exact aZ (by simp)⟩
 have KB : q0c (Below w.heap.size w W0) := ⟨by rw [hW0]; exact q0b (q0b (Below.refl _ _) _) _⟩
 unfold T3c at hW0 KT
 try rw [← hW0]
 clear hW0
 refine q2w (n := 20) (S := fun w' => w'.cell? ⟨w.heap.size, 1, none⟩ = some (.slice none 0 0) ∧ w'.cell? ⟨w.heap.size, 4, none⟩ = some (.slice none 0 0) ∧ w'.cell? ⟨w.heap.size, 5, none⟩ = some (.slice none 0 0) ∧ w'.cell? ⟨w.heap.size, 6, none⟩ = some (.slice none 0 0)) (ds := []) (M 20 0) (by kernel_rfl) rfl rfl ⟨(q0a (w := W0.drew) KT.out 1).trans rfl, (q0a (w := W0.drew) KT.out 4).trans rfl, (q0a (w := W0.drew) KT.out 5).trans rfl, (q0a (w := W0.drew) KT.out 6).trans rfl⟩ (fun hHeld => ?_)
 obtain ⟨W1, hW1⟩ : ∃ W1, W1 = W0.drew := ⟨_, rfl⟩
 rw [← hW1] at hHeld ⊢
 replace KT := dwK KT hW1
 replace KZ := dwK KZ hW1
 replace KB : q0c (Below w.heap.size w W1) := by rw [hW1]; exact ⟨q0m KB.out⟩
 clear hW1
 refine pw 0 5 (M 20 1) ?_
 refine pw 3 8 (M 20 9) ?_
 refine pw 6 11 (M 20 73) ?_
 refine pw 9 14 (M 20 585) ?_
 refine tw 1 6 (M 20 587) hHeld ?_
 refine tw 4 9 (M 20 603) hHeld ?_
 refine tw 7 12 (M 20 731) hHeld ?_
 refine tw 10 15 (M 20 1755) hHeld ?_
 refine ow 2 (some 7) (M 20 1759) fun K hK => ?_
 refine gow Tryz.func244 #[.slice none 0 0] ?_
 refine (Tryz.slices_Clone_string_nil 0 0 _).mono ?_
 rintro e W3 ⟨rfl, rfl⟩
 refine ⟨_, rfl, ?_⟩
 refine hK.out _ _ ⟨(q0a KT.out 1).trans rfl, (q0a KT.out 4).trans rfl, (q0a KT.out 5).trans rfl, (q0a KT.out 6).trans rfl⟩ (fun hHeld => ?_)
 clear hK K
 refine nw 7 ?_
 refine pw 12 17 (M 20 5855) ?_
 refine ow 5 (some 10) (M 20 5887) fun K hK => ?_
 refine gow Tryz.func244 #[.slice none 0 0] ?_
 refine (Tryz.slices_Clone_string_nil 0 0 _).mono ?_
 rintro e W3 ⟨rfl, rfl⟩
 refine ⟨_, rfl, ?_⟩
 refine hK.out _ _ ⟨(q0a KT.out 1).trans rfl, (q0a KT.out 4).trans rfl, (q0a KT.out 5).trans rfl, (q0a KT.out 6).trans rfl⟩ (fun hHeld => ?_)
 clear hK K
 refine nw 10 ?_
 refine ow 8 (some 13) (M 20 6143) fun K hK => ?_
 refine gow Tryz.func244 #[.slice none 0 0] ?_
 refine (Tryz.slices_Clone_string_nil 0 0 _).mono ?_
 rintro e W3 ⟨rfl, rfl⟩
 refine ⟨_, rfl, ?_⟩
 refine hK.out _ _ ⟨(q0a KT.out 1).trans rfl, (q0a KT.out 4).trans rfl, (q0a KT.out 5).trans rfl, (q0a KT.out 6).trans rfl⟩ (fun hHeld => ?_)
 clear hK K
 refine nw 13 ?_
 refine ow 11 (some 16) (M 20 8191) fun K hK => ?_
 refine gow Tryz.func258 #[.slice none 0 0] ?_
 refine (v5o _).mono ?_
 rintro e W3 ⟨rfl, rfl⟩
 refine ⟨_, rfl, ?_⟩
 refine hK.out _ _ ⟨(q0a KT.out 1).trans rfl, (q0a KT.out 4).trans rfl, (q0a KT.out 5).trans rfl, (q0a KT.out 6).trans rfl⟩ (fun hHeld => ?_)
 clear hK K
 refine nw 16 ?_
 refine ow 13 (none) (M 20 16383) fun K hK => ?_
 refine q2d (g := w.heap.size) (off := 1) (cur := #[.string x, .slice none 0 0, .string y, .string z, .slice none 0 0, .slice none 0 0, .slice none 0 0, .string ⟨#[]⟩]) (new := #[.string x, .slice none 0 0, .string y, .string z, .slice none 0 0, .slice none 0 0, .slice none 0 0, .string ⟨#[]⟩]) (seg := [.slice none 0 0]) (u := .slice none 0 0) rfl rfl rfl rfl rfl rfl (by rfl) (by kernel_rfl) rfl rfl (Nat.le_of_ble_eq_true rfl) KT.out ?_
 intro W3 hk hp
 replace KZ := kp KZ hp (by omega)
 replace KB := bp KB hp (Nat.le_refl _)
 replace KT := aq hk
 clear hk hp
 refine hK.out _ _ ⟨(q0a KT.out 1).trans rfl, (q0a KT.out 4).trans rfl, (q0a KT.out 5).trans rfl, (q0a KT.out 6).trans rfl⟩ (fun hHeld => ?_)
 clear hK K
 refine pw 14 18 (M 20 32767) ?_
 refine ow 15 (none) (M 20 65535) fun K hK => ?_
 refine q2d (g := w.heap.size) (off := 4) (cur := #[.string x, .slice none 0 0, .string y, .string z, .slice none 0 0, .slice none 0 0, .slice none 0 0, .string ⟨#[]⟩]) (new := #[.string x, .slice none 0 0, .string y, .string z, .slice none 0 0, .slice none 0 0, .slice none 0 0, .string ⟨#[]⟩]) (seg := [.slice none 0 0]) (u := .slice none 0 0) rfl rfl rfl rfl rfl rfl (by rfl) (by kernel_rfl) rfl rfl (Nat.le_of_ble_eq_true rfl) KT.out ?_
 intro W3 hk hp
 replace KZ := kp KZ hp (by omega)
 replace KB := bp KB hp (Nat.le_refl _)
 replace KT := aq hk
 clear hk hp
 refine hK.out _ _ ⟨(q0a KT.out 1).trans rfl, (q0a KT.out 4).trans rfl, (q0a KT.out 5).trans rfl, (q0a KT.out 6).trans rfl⟩ (fun hHeld => ?_)
 clear hK K
 refine pw 16 19 (M 20 131071) ?_
 refine ow 17 (none) (M 20 262143) fun K hK => ?_
 refine q2d (g := w.heap.size) (off := 6) (cur := #[.string x, .slice none 0 0, .string y, .string z, .slice none 0 0, .slice none 0 0, .slice none 0 0, .string ⟨#[]⟩]) (new := #[.string x, .slice none 0 0, .string y, .string z, .slice none 0 0, .slice none 0 0, .slice none 0 0, .string ⟨#[]⟩]) (seg := [.slice none 0 0]) (u := .slice none 0 0) rfl rfl rfl rfl rfl rfl (by rfl) (by kernel_rfl) rfl rfl (Nat.le_of_ble_eq_true rfl) KT.out ?_
 intro W3 hk hp
 replace KZ := kp KZ hp (by omega)
 replace KB := bp KB hp (Nat.le_refl _)
 replace KT := aq hk
 clear hk hp
 refine hK.out _ _ ⟨(q0a KT.out 1).trans rfl, (q0a KT.out 4).trans rfl, (q0a KT.out 5).trans rfl, (q0a KT.out 6).trans rfl⟩ (fun hHeld => ?_)
 clear hK K
 refine pw 18 20 (M 20 524287) ?_
 refine ow 19 (none) (M 20 1048575) fun K hK => ?_
 refine q2d (g := w.heap.size) (off := 5) (cur := #[.string x, .slice none 0 0, .string y, .string z, .slice none 0 0, .slice none 0 0, .slice none 0 0, .string ⟨#[]⟩]) (new := #[.string x, .slice none 0 0, .string y, .string z, .slice none 0 0, .slice none 0 0, .slice none 0 0, .string ⟨#[]⟩]) (seg := [.slice none 0 0]) (u := .slice none 0 0) rfl rfl rfl rfl rfl rfl (by rfl) (by kernel_rfl) rfl rfl (Nat.le_of_ble_eq_true rfl) KT.out ?_
 intro W3 hk hp
 replace KZ := kp KZ hp (by omega)
 replace KB := bp KB hp (Nat.le_refl _)
 replace KT := aq hk
 clear hk hp
 refine hK.out _ _ ⟨(q0a KT.out 1).trans rfl, (q0a KT.out 4).trans rfl, (q0a KT.out 5).trans rfl, (q0a KT.out 6).trans rfl⟩ (fun hHeld => ?_)
 clear hK K
 refine q4t (by kernel_rfl) ?_
 obtain ⟨z0, z1, z2, z3, z4, z5, z6, z7⟩ := q5u KT.out
 go_wp2
 refine wp_loop_once ?_
 obtain ⟨y0, y1, y2, y3, y4, y5, y6, y7⟩ := q5u KZ.out
 obtain ⟨f0, f1, f2, f3, f4, f5, f6, f7⟩ := v0x KZ.out
 go_wp2
 rw [q3q]
 obtain ⟨c0, c1, c2, c3, c4, c5, c6, c7⟩ := q5u (q5y KZ.out x y z)
 refine bodyPost_ret (v := .agg #[.string x, .slice none 0 0, .string y, .string z, .slice none 0 0, .slice none 0 0, .slice none 0 0, .string ⟨#[]⟩]) ?_ rfl ⟨rfl, q2k KB.out (by omega) _ _ _⟩
 simp [results, Tryz.results211, asAddr, c0, c1, c2, c3, c4, c5, c6, c7, hut, go_sem]
theorem k5y (x y z : ByteArray) (w : World) : Calls Tryz.prog 163 #[T3 x y z] w fun e w' => e = .returned (T3 x y z) ∧ Below w.heap.size w w' := by
 have hut := Tryz.underlying33
 have hm : ∀ W : World, (Instr.makeMap 238 none).run Tryz.prog W = .ok (.map (some W.heap.size)) (W.alloc (.map #[] 0)) := fun W => run_makeMap_plain W _
 obtain ⟨W0, hW0⟩ : ∃ W0, W0 = ((w.alloc (.cells (T3c x y z) 33)).alloc (.cells (T3c ⟨#[]⟩ ⟨#[]⟩ ⟨#[]⟩) 33)) := ⟨_, rfl⟩
 have K0 : W0.heap[w.heap.size]? = some (.cells (T3c x y z) 33 (0, 0)) := by rw [hW0]; exact aN (aZ rfl)
 have Z0 : W0.heap[w.heap.size + 1]? = some (.cells (T3c ⟨#[]⟩ ⟨#[]⟩ ⟨#[]⟩) 33 (0, 0)) := by rw [hW0]; exact aZ (by simp)
 have B0 : Below w.heap.size w W0 := by rw [hW0]; exact q0b (q0b (Below.refl _ _) _) _
 have s0 : W0.heap.size = w.heap.size + 1 + 1 := by rw [hW0]; simp
 have h0 : (W0.alloc (.map #[] 0)).heap[W0.heap.size]? = some (.map #[] 0) := World.alloc_heap_new _ _
 have B1 : Below W0.heap.size W0 (W0.alloc (.map #[] 0)) := (Below.refl _ _).alloc (Nat.le_refl _) _
 obtain ⟨W1, u1, h1, B1, q1, -⟩ := q3o (b := W0.heap.size) Tryz.underlying238 Tryz.underlying9 h0 B1 (Nat.le_refl _) (.string ⟨#[117]⟩) (.func (.func 203) #[] #[]) (by simp [MapKept.IsKey]) rfl
 obtain ⟨W2, u2, h2, B2, q2, -⟩ := q3o (b := W0.heap.size) Tryz.underlying238 Tryz.underlying9 h1 B1 (Nat.le_refl _) (.string ⟨#[116]⟩) (.func (.func 207) #[] #[]) (by simp [MapKept.IsKey]) rfl
 have KT : q0c (W2.heap[w.heap.size]? = some (.cells (T3c x y z) 33 (0, 0))) := ⟨(B2.block _ (by omega)).trans K0⟩
 have KZ : q0c (W2.heap[w.heap.size + 1]? = some (.cells (T3c ⟨#[]⟩ ⟨#[]⟩ ⟨#[]⟩) 33 (0, 0))) := ⟨(B2.block _ (by omega)).trans Z0⟩
 have KB : q0c (Below w.heap.size w W2) := ⟨B0.trans (B2.mono B0.size)⟩
 obtain ⟨z0, z1, z2, z3, z4, z5, z6, z7⟩ := q5u KT.out
 unfold T3c at hW0
 have HW := aq hW0
 clear hW0 K0 Z0 B0 s0 h0 h1 B1 h2 B2 q1 q2
 unfold T3
 go_enter Tryz.func163, Tryz.ntmps163
 go_wp2_with (first
  | (rw [← HW.out])
  | (go_at_call 211; refine (k5w x y z _).mono ?_; rintro e w3 ⟨rfl, hB⟩; unfold T3; have K3 := kb KT hB; have Z3 := kb KZ hB; have B3 := bb KB hB; clear z0 z1 z2 z3 z4 z5 z6 z7 hB; obtain ⟨z0, z1, z2, z3, z4, z5, z6, z7⟩ := q5u K3.out; obtain ⟨f0, f1, f2, f3, f4, f5, f6, f7⟩ := v0x K3.out)
  | (go_at_call 212; rw [q3q]; obtain ⟨W4, hW4⟩ : ∃ W4, W4 = q6f w3 w.heap.size x y z := ⟨_, rfl⟩; have K4 : q0c (W4.heap[w.heap.size]? = some (.cells (T3c x y z) 33 (0, 0))) := ⟨by rw [hW4]; exact q5y K3.out x y z⟩; have Z4 : q0c (W4.heap[w.heap.size + 1]? = some (.cells (T3c ⟨#[]⟩ ⟨#[]⟩ ⟨#[]⟩) 33 (0, 0))) := ⟨by rw [hW4]; exact (q4s x y z (by omega)).trans Z3.out⟩; have B4 : q0c (Below w.heap.size w W4) := ⟨by rw [hW4]; exact q2k B3.out (Nat.le_refl _) x y z⟩; rw [← hW4]; clear hW4 z0 z1 z2 z3 z4 z5 z6 z7 f0 f1 f2 f3 f4 f5 f6 f7; obtain ⟨z0, z1, z2, z3, z4, z5, z6, z7⟩ := q5u K4.out; refine (Tryz.slices_Sort_string_none none 0 _).mono ?_; rintro e w5 ⟨rfl, rfl⟩)
  | (go_at_call 213; refine (v9i _ _).mono ?_; rintro e w6 ⟨⟨v, rfl⟩, rfl⟩))
 refine wp_loop_once ?_
 obtain ⟨y0, y1, y2, y3, y4, y5, y6, y7⟩ := q5u Z4.out
 obtain ⟨f0, f1, f2, f3, f4, f5, f6, f7⟩ := v0x Z4.out
 go_wp2
 rw [q3q]
 obtain ⟨c0, c1, c2, c3, c4, c5, c6, c7⟩ := q5u (q5y Z4.out x y z)
 refine bodyPost_ret (v := .agg #[.string x, .slice none 0 0, .string y, .string z, .slice none 0 0, .slice none 0 0, .slice none 0 0, .string ⟨#[]⟩]) ?_ rfl ⟨rfl, q2k B4.out (by omega) _ _ _⟩
 simp [results, Tryz.results163, asAddr, c0, c1, c2, c3, c4, c5, c6, c7, hut, go_sem]
end Go.Proofs.YtpmcfckechjppaaGreatDoor.Ps
namespace Go.Proofs.YtpmcfckechjppaaGreatDoor.Ps
open Go.RowKit Go.Shelf Go.Proofs.YtpmcfckechjppaaGreatDoorW.PrintWords Go.Proofs.YtpmcfckechjppaaGreatDoorW.PrintLast Go.Proofs.YtpmcfckechjppaaGreatDoorW.PrintMore Go.Proofs.YtpmcfckechjppaaGreatDoor.P Go.Proofs.YtpmcfckechjppaaGreatDoor.LikW
attribute [local go_sem] Oper.semAt_some
structure KC (L : Nat) (W W' : World) : Prop where
 size : W.heap.size ≤ W'.heap.size
 same : ∀ k o, k ≠ L → W.heap[k]? = some o → o.isCells = true → W'.heap[k]? = some o
theorem KC.trans {L : Nat} {A B C : World} (h : KC L A B) (k : KC L B C) : KC L A C := ⟨Nat.le_trans h.size k.size, fun i o hi ho hc => k.same i o hi (h.same i o hi ho hc) hc⟩
theorem KC.put (L : Nat) (W : World) (l : Nat) (o o' : Obj) (hl : W.heap[l]? = some o) (h1 : o.isCells = false) : KC L W (W.putObj l o') := ⟨by simp, fun k q hk hq hc => by
 refine (World.putObj_heap_other ?_).trans hq
 rintro rfl
 rw [hl] at hq
 cases hq
 rw [h1] at hc
 cases hc⟩
theorem KC.below {L : Nat} {W W' : World} (h : Below W.heap.size W W') : KC L W W' := ⟨h.size, fun k o _ ho _ => (h.block _ (q0g ho)).trans ho⟩
theorem KC.G {L : Nat} {W W' : World} (h : KC L W W') (hL : L ≠ 0) (hG : GrandW.G W) : GrandW.G W' := by
 obtain ⟨t, fr, hg⟩ := hG
 exact ⟨t, fr, h.same 0 _ (fun e => hL e.symm) hg rfl⟩
theorem KC.C {L B1 : Nat} {W W' : World} (h : KC L W W') (hL : B1 ≠ L) (hC : Kd.C k59 W (some ⟨B1, 0, none⟩) q0p.length q0p) : Kd.C k59 W' (some ⟨B1, 0, none⟩) q0p.length q0p := by
 obtain ⟨ad, e, x0, -⟩ := v2r hC 0 (by omega) (by rw [q5s]; decide)
 cases e
 obtain ⟨q, hq, hc⟩ := cells_of_cell x0
 have hB : ((⟨B1, 0, none⟩ : Addr).add ((0 : Int).toNat * 6)).block = B1 := by simp [Addr.add]
 rw [hB] at hq
 exact z6b v8a hC fun a e => by cases e; exact (h.same B1 q hL hq hc).trans hq.symm
theorem j2j {w : World} {B1 : Nat} (hC : Kd.C k59 w (some ⟨B1, 0, none⟩) q0p.length q0p) : B1 < w.heap.size := by
 obtain ⟨ad, e, x0, -⟩ := v2r hC 0 (by omega) (by rw [q5s]; decide)
 cases e
 have h := World.block_lt_of_cell? w _ x0
 simpa [Addr.add] using h
def j0h (x : Int × K3) : Array Value := #[.int .i64 x.1, T3 x.2.1 x.2.2.1 x.2.2.2]
theorem z4t (a b c : ByteArray) : (q3i [a, b, c]).length ≤ 3 := List.length_filter_le _ _
theorem v5i (n : Nat) (k : Nat) (B1 B2 B3 B4 pt pi L : Nat) (x y z : ByteArray) (hN : q3d k x y z) (w0 : World) (hG : GrandW.G w0) (hC : Kd.C k59 w0 (some ⟨B1, 0, none⟩) q0p.length q0p)
 (ht : w0.heap[pt]? = some (.cells (T3c x y z) 33 (0, 0))) (hi : w0.heap[pi]? = some (.cells (q4k B1 B2 B3 B4) 51 (0, 0))) :
 z8l Fence.wide n Tryz.prog 201 #[.pointer (some ⟨pt, 0, none⟩), .pointer (some ⟨pi, 0, none⟩)] j0h (KC L) [] w0 := fun l J Jx W hW hJ hJx hY h0 => by
 have key : Calls Tryz.prog 201 #[.func (.yield l) #[] #[], .pointer (some ⟨pt, 0, none⟩), .pointer (some ⟨pi, 0, none⟩)] W fun e W' => (∃ v, e = .returned v) ∧ Below W.heap.size W W' := by
  have hu := Tryz.underlying33
  have hui := Tryz.underlying51
  have HT := aq ((hW.block _ (q0g ht)).trans ht)
  have HI := aq ((hW.block _ (q0g hi)).trans hi)
  have HG := aq (hG.below hW)
  have HC := aq (Kd.q0h hC hW)
  have HN := aq hN
  clear hG hC ht hi hN h0 hY hJ hJx hW
  obtain ⟨z0, z1, z2, z3, z4, z5, z6, z7⟩ := cz8 HT.out
  obtain ⟨W1, hW1⟩ : ∃ W1, W.alloc (.cells (T3c x y z) 33) = W1 := ⟨_, rfl⟩
  have a1 : W1.heap[W.heap.size]? = some (.cells (T3c x y z) 33 (0, 0)) := by rw [← hW1]; exact aZ rfl
  have B1w : Below W.heap.size W W1 := by rw [← hW1]; exact q0b (Below.refl _ _) _
  have HA := aq a1
  have H1 := aq B1w
  unfold T3c at hW1
  have HW := aq hW1
  clear hW1 a1 B1w
  obtain ⟨y0, y1, y2, y3, y4, y5, y6, y7⟩ := cz8 ((H1.out.block _ (q0g HT.out)).trans HT.out)
  go_enter Tryz.func201, Tryz.ntmps201
  go_wp2_with (first
   | (rw [HW.out])
   | (go_at_call 75; refine (z0n x y z _).mono ?_; rintro e w2 ⟨v, rfl, hO, hB⟩; obtain ⟨A, c, rfl⟩ := q0u hO; have H2 := aq (H1.out.trans (hB.mono H1.out.size)); have HA2 := aq ((hB.block _ (q0g HA.out)).trans HA.out); clear hO hB))
  obtain ⟨m, hm⟩ : ∃ m, m = (q3i [x, y, z]).length := ⟨_, rfl⟩
  have hm3 : m ≤ 3 := by rw [hm]; exact z4t x y z
  rw [← hm]
  clear hm
  have d1 : decide ((0 : Int) < wrap64 (10 + (m : Int))) = true := by
   obtain rfl | rfl | rfl | rfl : m = 0 ∨ m = 1 ∨ m = 2 ∨ m = 3 := by omega
   all_goals kernel_rfl
  obtain ⟨z0, z1, z2, z3, z4, z5, z6, z7⟩ := cz8 HA2.out
  obtain ⟨i0, i1, i2, i3, i4, i5⟩ := cz6 (show w2.heap[pi]? = some (.cells #[.slice (some ⟨B1, 0, none⟩) 54 54, .slice (some ⟨B2, 0, none⟩) 32 32, .slice (some ⟨B3, 0, none⟩) 15 15, .slice (some ⟨B4, 0, none⟩) 7 7, .int .i64 40, .int .i64 5] 51 (0, 0)) from (H2.out.block _ (q0g HI.out)).trans HI.out)
  clear y0 y1 y2 y3 y4 y5 y6 y7
  refine wp_loop_rounds 1 ?_
  rw [rounds_succ]
  go_wp2_with (first
   | (go_at_call 202; refine (v7h k B1 B2 B3 B4 x y z HN.out _ (HG.out.below H2.out) (Kd.q0h HC.out H2.out)).mono ?_; rintro e w3 ⟨rfl, hB⟩; unfold T3; have H3 := aq (H2.out.trans (hB.mono H2.out.size)); clear hB))
  refine bodyPost_ret (results_none rfl _ _ _) rfl ?_
  exact ⟨⟨_, rfl⟩, by
   have h : Below W.heap.size W w3 := H3.out
   repeat (first | exact h | refine q0b ?_ _ | refine q1y ?_ (by have := H3.out.size; simp; omega))⟩
 refine callsIn_wide.2 (key.mono ?_)
 rintro e W' ⟨hv, hb⟩
 exact ⟨hv, .inl (hJ _ _ _ none h0 (q3v hb none) (fun r e => by cases e))⟩
theorem trace_one (n : Nat) (hn : 1 ≤ n) (k : Nat) (B1 B2 B3 B4 pt pi L : Nat) (hL0 : L ≠ 0) (hLB : B1 ≠ L) (hLp : pi ≠ L) (x y z : ByteArray) (i1 i2 : Int) (hl : (Lib.join ((q3i [x, y, z]).map (·.data.toList)) [45]).length ≤ 140737488355328) (hi1 : q0t.f k (q8d (q3i [x, y, z])) = some (i1, false)) (hi2 : q0t.f k ⟨#[]⟩ = some (i2, false)) (i : Nat) (r : S59) (hi : q0p[i]? = some r) (hf : q6c 2 x z = ((i : Int), true))
 (hN : q3d k r.f3 y ⟨#[]⟩) (w0 : World) (hL : L < w0.heap.size) (hG : GrandW.G w0) (hC : Kd.C k59 w0 (some ⟨B1, 0, none⟩) q0p.length q0p)
 (ht : w0.heap[pt]? = some (.cells (T3c x y z) 33 (0, 0))) (hpi : w0.heap[pi]? = some (.cells (q4k B1 B2 B3 B4) 51 (0, 0))) :
 z8l Fence.wide n Tryz.prog 201 #[.pointer (some ⟨pt, 0, none⟩), .pointer (some ⟨pi, 0, none⟩)] j0h (KC L) [((i : Int), r.f3, y, ⟨#[]⟩)] w0 := fun l J Jx W hW hJ hJx hY h0 => by
 have hu := Tryz.underlying33
 have hui := Tryz.underlying51
 have HT := aq ((hW.block _ (q0g ht)).trans ht)
 have HI := aq ((hW.block _ (q0g hpi)).trans hpi)
 have HG := aq (hG.below hW)
 have HC := aq (Kd.q0h hC hW)
 have HN := aq hN
 have HF := aq hf
 have HI1 := aq hi1
 have HI2 := aq hi2
 have HIr := aq hi
 have HY := aq hY
 have H0 := aq h0
 have HJ := aq hJ
 have HLW := aq (Nat.lt_of_lt_of_le hL hW.size)
 clear hG hC ht hpi hN h0 hY hJ hJx hW hf hi1 hi2 hi hL
 obtain ⟨z0, z1, z2, z3, z4, z5, z6, z7⟩ := cz8 HT.out
 obtain ⟨W1, hW1⟩ : ∃ W1, W.alloc (.cells (T3c x y z) 33) = W1 := ⟨_, rfl⟩
 have a1 : W1.heap[W.heap.size]? = some (.cells (T3c x y z) 33 (0, 0)) := by rw [← hW1]; exact aZ rfl
 have B1w : Below W.heap.size W W1 := by rw [← hW1]; exact q0b (Below.refl _ _) _
 have HA := aq a1
 have H1 := aq B1w
 unfold T3c at hW1
 have HW := aq hW1
 clear hW1 a1 B1w
 obtain ⟨y0, y1, y2, y3, y4, y5, y6, y7⟩ := cz8 ((H1.out.block _ (q0g HT.out)).trans HT.out)
 refine callsIn_of_wp Tryz.func201 rfl trivial ?_ rfl
 simp only [Tryz.ntmps201, List.size_toArray, List.length_cons, List.length_nil, Nat.reduceAdd, Nat.reduceSub, Array.replicate_succ, Array.replicate_zero, List.push_toArray, List.append_toArray, List.nil_append, List.cons_append]
 gi_wp2_with (first
  | (rw [HW.out])
  | (refine ⟨trivial, callsIn_wide.2 (Calls.mono (z0n x y z _) ?_)⟩; rintro e w2 ⟨v, rfl, hO, hB⟩; obtain ⟨A, c, rfl⟩ := q0u hO; have H2 := aq (H1.out.trans (hB.mono H1.out.size)); have HA2 := aq ((hB.block _ (q0g HA.out)).trans HA.out); clear hO hB))
 obtain ⟨m, hm⟩ : ∃ m, m = (q3i [x, y, z]).length := ⟨_, rfl⟩
 have hm3 : m ≤ 3 := by rw [hm]; exact z4t x y z
 rw [← hm]
 clear hm
 have d1 : decide ((0 : Int) < wrap64 (10 + (m : Int))) = true := by
  obtain rfl | rfl | rfl | rfl : m = 0 ∨ m = 1 ∨ m = 2 ∨ m = 3 := by omega
  all_goals kernel_rfl
 have d2 : decide ((1 : Int) < wrap64 (10 + (m : Int))) = true := by
  obtain rfl | rfl | rfl | rfl : m = 0 ∨ m = 1 ∨ m = 2 ∨ m = 3 := by omega
  all_goals kernel_rfl
 obtain ⟨z0, z1, z2, z3, z4, z5, z6, z7⟩ := cz8 HA2.out
 obtain ⟨i0, i1, i2, i3, i4, i5⟩ := cz6 (show w2.heap[pi]? = some (.cells #[.slice (some ⟨B1, 0, none⟩) 54 54, .slice (some ⟨B2, 0, none⟩) 32 32, .slice (some ⟨B3, 0, none⟩) 15 15, .slice (some ⟨B4, 0, none⟩) 7 7, .int .i64 40, .int .i64 5] 51 (0, 0)) from (H2.out.block _ (q0g HI.out)).trans HI.out)
 clear y0 y1 y2 y3 y4 y5 y6 y7
 refine wpIn_loop_rounds 2 ?_
 rw [roundsIn_succ]
 gi_wp2_with (fail)
 refine ⟨trivial, callsIn_wide.2 (Calls.mono (v6u k B1 B2 B3 B4 x y z _ _ hl HI1.out HI2.out i r HIr.out HF.out _ (HG.out.below H2.out) (Kd.q0h HC.out H2.out)) ?_)⟩
 rintro e w3 ⟨rfl, hB⟩
 unfold T3
 have H3 := aq (H2.out.trans (hB.mono H2.out.size))
 have HA3 := aq ((hB.block _ (q0g HA2.out)).trans HA2.out)
 clear hB
 obtain ⟨w4, hw4⟩ : ∃ w4, w4 = w3.alloc (.cells (T3c r.f3 y ⟨#[]⟩) 33) := ⟨_, rfl⟩
 have X4 : Below w3.heap.size w3 w4 := by rw [hw4]; exact q0b (Below.refl _ _) _
 have U4 : w4.heap[w3.heap.size]? = some (.cells (T3c r.f3 y ⟨#[]⟩) 33 (0, 0)) := by rw [hw4]; exact aZ rfl
 have J4 : J [] w4 := HJ.out _ _ _ none H0.out (q3v (H3.out.trans (X4.mono H3.out.size)) none) (fun r e => by cases e)
 obtain ⟨fn, tmps, assign, body, hy, hR⟩ := HY.out [] ((i : Int), r.f3, y, ⟨#[]⟩) w4 J4 (List.prefix_refl _)
 have HX4 := aq X4
 have HU4 := aq U4
 have HR := aq hR
 have HW4 := aq hw4
 rw [hw4] at hy
 unfold j0h T3 T3c at hy
 clear hR X4 U4 J4 hw4 z0 z1 z2 z3 z4 z5 z6 z7 i0 i1 i2 i3 i4 i5
 gi_wp2_with (fail)
 have hw5 := HW4.out
 unfold T3c at hw5
 rw [← hw5]
 clear hw5
 refine HR.out.mono ?_
 have hN3 : w3.heap.size ≠ L := by have h1 := HLW.out; have h2 := H3.out.size; omega
 have hNW : W.heap.size ≠ L := by have h1 := HLW.out; omega
 have hlt3 : W.heap.size < w3.heap.size := q0g HA3.out
 have B4 : Below W.heap.size W w4 := H3.out.trans (HX4.out.mono H3.out.size)
 rintro e W5 (⟨rfl, hJ5, hk5⟩ | ⟨rfl, hJ5⟩)
 · have U5 := aq (hk5.same _ _ hN3 HU4.out rfl)
   have A5 := aq (hk5.same _ _ hNW ((HX4.out.block _ hlt3).trans HA3.out) rfl)
   have P5 := aq (hk5.same _ _ hLp ((B4.block _ (q0g HI.out)).trans HI.out) rfl)
   have G5 := aq (hk5.G hL0 (HG.out.below B4))
   have C5 := aq (hk5.C hLB (Kd.q0h HC.out B4))
   have HJ5 := aq hJ5
   have N5 := aq hNW
   have M5 := aq hlt3
   have S5 := aq hk5.size
   have Lp := aq hLp
   have npi := aq (show pi ≠ W.heap.size from fun e => by have := q0g HI.out; omega)
   clear hJ5 hk5 hN3 hNW hlt3 B4 hy
   obtain ⟨z0, z1, z2, z3, z4, z5, z6, z7⟩ := q5u U5.out
   obtain ⟨y0, y1, y2, y3, y4, y5, y6, y7⟩ := q5u A5.out
   obtain ⟨f0, f1, f2, f3, f4, f5, f6, f7⟩ := v0x A5.out
   gi_wp2_with (fail)
   have s5 : W.heap.size < W5.heap.size := q0g A5.out
   have b56 := q8l W5 W.heap.size r.f3 y ⟨#[]⟩
   have hA6 := q5y A5.out r.f3 y ⟨#[]⟩
   have hP6 := (q4s (W := W5) r.f3 y ⟨#[]⟩ npi.out).trans P5.out
   have hG6 : GrandW.G (q6f W5 W.heap.size r.f3 y ⟨#[]⟩) := by
    obtain ⟨t, fr, hg⟩ := G5.out
    exact ⟨t, fr, (q4s _ _ _ (fun e => by have h1 := HLW.out; omega)).trans hg⟩
   have hC6 := z6b v8a C5.out (W' := q6f W5 W.heap.size r.f3 y ⟨#[]⟩) fun a e => by cases e; exact q4s _ _ _ (Nat.ne_of_lt (j2j HC.out))
   have hJ6 := HJ.out _ _ _ _ HJ5.out b56 (fun r e => by cases e; exact Nat.le_refl _)
   have hs6 : W.heap.size ≤ (q6f W5 W.heap.size r.f3 y ⟨#[]⟩).heap.size := by rw [z4s]; exact Nat.le_of_lt s5
   obtain ⟨W6, hW6⟩ : ∃ W6, q6f W5 W.heap.size r.f3 y ⟨#[]⟩ = W6 := ⟨_, rfl⟩
   rw [q3q]
   rw [hW6] at hA6 hP6 hG6 hC6 hJ6 hs6 ⊢
   have J6 := aq hJ6
   have G6 := aq hG6
   have C6 := aq hC6
   have S6 := aq hs6
   clear hW6 b56 hG6 hC6 hJ6 s5 hs6 z0 z1 z2 z3 z4 z5 z6 z7 y0 y1 y2 y3 y4 y5 y6 y7 f0 f1 f2 f3 f4 f5 f6 f7
   obtain ⟨z0, z1, z2, z3, z4, z5, z6, z7⟩ := q5u hA6
   obtain ⟨i0, i1, i2, i3, i4, i5⟩ := cz6 (show W6.heap[pi]? = some (.cells #[.slice (some ⟨B1, 0, none⟩) 54 54, .slice (some ⟨B2, 0, none⟩) 32 32, .slice (some ⟨B3, 0, none⟩) 15 15, .slice (some ⟨B4, 0, none⟩) 7 7, .int .i64 40, .int .i64 5] 51 (0, 0)) from hP6)
   clear hA6 hP6
   rw [roundsIn_succ]
   gi_wp2_with (first
    | (refine ⟨trivial, callsIn_wide.2 (Calls.mono (v7h k B1 B2 B3 B4 r.f3 y ⟨#[]⟩ HN.out _ G6.out C6.out) ?_)⟩; rintro e w7 ⟨rfl, hB⟩; unfold T3; have B7 := aq hB; clear hB))
   refine ⟨fun f h => by simp at h, ?_⟩
   gi_wp2_with (fail)
   refine bodyPost_ret (results_none rfl _ _ _) rfl ?_
   refine ⟨⟨_, rfl⟩, .inl ?_⟩
   have hJ7 := HJ.out.below J6.out B7.out
   have hs7 := Nat.le_trans S6.out B7.out.size
   repeat (first | exact hJ7 | refine HJ.out.alloc _ ?_ | refine HJ.out.set ?_ hs7)
 · have HJ5 := aq hJ5
   clear hJ5 hy
   gi_wp2_with (fail)
   refine bodyPost_ret (results_none rfl _ _ _) rfl ?_
   exact ⟨⟨_, rfl⟩, .inr ⟨_, List.prefix_refl _, HJ5.out⟩⟩
def lastT (t : K3) (l : List (Int × K3)) : K3 := match l.getLast? with | some x => x.2 | none => t
theorem v4r (t : K3) (l : List (Int × K3)) (x : Int × K3) : lastT t (l ++ [x]) = x.2 := by simp [lastT]
theorem k7b (n : Nat) (B1 B2 B3 B4 : Nat) (x y z : ByteArray) (w : World) : CallsIn Fence.wide n Tryz.prog 162 #[q6h B1 B2 B3 B4, T3 x y z] w fun e w' =>
 e = .returned (.func (.func 201) #[] #[.pointer (some ⟨w.heap.size + 1, 0, none⟩), .pointer (some ⟨w.heap.size, 0, none⟩)]) ∧ w' = (w.alloc (.cells (q4k B1 B2 B3 B4) 51)).alloc (.cells (T3c x y z) 33) := by
 have hmf : ∀ (fn : Fn) (first cap : Array Value) (w : World), (Instr.makeFunc fn first cap).run Tryz.prog w = .ok (.func fn first cap) w := fun _ _ _ _ => rfl
 have hut := Tryz.underlying33
 have hui := Tryz.underlying51
 unfold q6h T3 q4k T3c
 refine callsIn_of_wp Tryz.func162 rfl trivial ?_ rfl
 simp only [Tryz.ntmps162, List.size_toArray, List.length_cons, List.length_nil, Nat.reduceAdd, Nat.reduceSub, Array.replicate_succ, Array.replicate_zero, List.push_toArray, List.append_toArray, List.nil_append, List.cons_append]
 gi_wp2
 go_ret
 exact ⟨rfl, rfl⟩
theorem z1n (k : Nat) (B1 B2 B3 B4 : Nat) (x y z : ByteArray) (l : List (Int × K3)) (w : World) (hG : GrandW.G w) (hC : Kd.C k59 w (some ⟨B1, 0, none⟩) q0p.length q0p)
 (hseq : ∀ (w0 : World) (pt pi L : Nat), L ≠ 0 → B1 ≠ L → pi ≠ L → L < w0.heap.size → GrandW.G w0 → Kd.C k59 w0 (some ⟨B1, 0, none⟩) q0p.length q0p → w0.heap[pt]? = some (.cells (T3c x y z) 33 (0, 0)) → w0.heap[pi]? = some (.cells (q4k B1 B2 B3 B4) 51 (0, 0)) →
  z8l Fence.wide 3 Tryz.prog 201 #[.pointer (some ⟨pt, 0, none⟩), .pointer (some ⟨pi, 0, none⟩)] j0h (KC L) l w0) :
 Calls Tryz.prog 97 #[q6h B1 B2 B3 B4, T3 x y z] w fun e w' => e = .returned (T3 (lastT (x, y, z) l).1 (lastT (x, y, z) l).2.1 (lastT (x, y, z) l).2.2) ∧ Below w.heap.size w w' := by
 have hut := Tryz.underlying33
 have hui := Tryz.underlying51
 have HG := aq hG
 have HC := aq hC
 have HS := aq hseq
 clear hG hC hseq
 unfold q6h T3
 refine (callsIn_wide (n := 4)).1 ?_
 refine callsIn_of_wp_marks Tryz.func97 rfl trivial ?_ rfl
 simp only [Tryz.ntmps97, List.size_toArray, List.length_cons, List.length_nil, Nat.reduceAdd, Nat.reduceSub, Array.replicate_succ, Array.replicate_zero, List.push_toArray, List.append_toArray, List.nil_append, List.cons_append]
 gi_wp2_with (first
  | (refine ⟨trivial, ?_⟩; gi_at_call 162; refine (k7b _ B1 B2 B3 B4 x y z _).mono ?_; rintro e w2 ⟨rfl, rfl⟩))
 obtain ⟨N, hN⟩ : ∃ N, N = w.heap.size := ⟨_, rfl⟩
 obtain ⟨W0, hW0⟩ : ∃ W0, ((((((w.alloc (.cells (q4k B1 B2 B3 B4) 51)).alloc (.cells (T3c x y z) 33)).alloc (.cells (T3c ⟨#[]⟩ ⟨#[]⟩ ⟨#[]⟩) 33)).alloc (.cells (T3c x y z) 33)).alloc (.cells (q4k B1 B2 B3 B4) 51)).alloc (.cells (T3c x y z) 33)) = W0 := ⟨_, rfl⟩
 have b2 : W0.heap[N + 1 + 1]? = some (.cells (T3c ⟨#[]⟩ ⟨#[]⟩ ⟨#[]⟩) 33 (0, 0)) := by rw [← hW0, hN]; exact aN (aN (aN (aZ (by simp))))
 have b3 : W0.heap[N + 1 + 1 + 1]? = some (.cells (T3c x y z) 33 (0, 0)) := by rw [← hW0, hN]; exact aN (aN (aZ (by simp)))
 have b4 : W0.heap[N + 1 + 1 + 1 + 1]? = some (.cells (q4k B1 B2 B3 B4) 51 (0, 0)) := by rw [← hW0, hN]; exact aN (aZ (by simp))
 have b5 : W0.heap[N + 1 + 1 + 1 + 1 + 1]? = some (.cells (T3c x y z) 33 (0, 0)) := by rw [← hW0, hN]; exact aZ (by simp)
 have B0 : Below N w W0 := by rw [← hW0, hN]; exact q0b (q0b (q0b (q0b (q0b (q0b (Below.refl _ _) _) _) _) _) _) _
 have s0 : W0.heap.size = N + 1 + 1 + 1 + 1 + 1 + 1 := by rw [← hW0, hN]; simp
 unfold q4k T3c at hW0 ⊢
 rw [hW0, ← hN]
 have HN := aq hN
 have HB0 := aq B0
 have hB1 : B1 < N := by rw [hN]; exact j2j HC.out
 have hlt : 0 < N := by omega
 clear hW0 hN
 refine z8e rfl (by omega) (gf := 201) (lb := #[.pointer (some ⟨N + 1 + 1 + 1 + 1 + 1, 0, none⟩), .pointer (some ⟨N + 1 + 1 + 1 + 1, 0, none⟩)]) rfl trivial (enters_of Tryz.func201 (by kernel_rfl) rfl)
  (HS.out W0 (N + 1 + 1 + 1 + 1 + 1) (N + 1 + 1 + 1 + 1) (N + 1 + 1 + 1) (by omega) (by omega) (by omega) (by omega) (HG.out.below (by rw [← HN.out]; exact B0)) (Kd.q0h HC.out (by rw [← HN.out]; exact B0)) b5 b4)
  KC.trans (fun W lw o o' _ h h1 _ => KC.put _ W lw o o' h h1) (Below.refl _ _) (fun _ => rfl)
  (fun (pre : List (Int × K3)) W => W.heap[N + 1 + 1 + 1]? = some (.cells (T3c (lastT (x, y, z) pre).1 (lastT (x, y, z) pre).2.1 (lastT (x, y, z) pre).2.2) 33 (0, 0)) ∧ W.heap[N + 1 + 1]? = some (.cells (T3c ⟨#[]⟩ ⟨#[]⟩ ⟨#[]⟩) 33 (0, 0)) ∧ Below N w W)
  (fun _ _ _ => False)
  (fun pre A B row ⟨i1, i2, i3⟩ hg hr => ⟨(hg.block _ (q0g i1) (fun e => by have := hr _ e.symm; omega)).trans i1, (hg.block _ (q0g i2) (fun e => by have := hr _ e.symm; omega)).trans i2, i3.grown hg (by have := q0g i1; omega) (fun r e => by have := hr r e; omega)⟩)
  (fun _ _ _ _ _ hs _ _ => hs) ⟨b3, b2, B0⟩ ?round ?done ?stop
 case round =>
  rintro lp pre ⟨ui, u1, u2, u3⟩ W K hlp ⟨i1, i2, i3⟩ hpre hK
  simp only [j0h]
  unfold T3
  have I1 := aq i1
  have I2 := aq i2
  have I3 := aq i3
  clear i1 i2 i3
  gi_wp2
  have hu0 : (W.alloc (.cells (T3c u1 u2 u3) 33)).heap[W.heap.size]? = some (.cells (T3c u1 u2 u3) 33 (0, 0)) := aZ rfl
  have hb0 : Below W.heap.size W (W.alloc (.cells (T3c u1 u2 u3) 33)) := q0b (Below.refl _ _) _
  unfold T3c at hu0 hb0
  refine hK _ _ ((q5f hb0).from _) (KC.below hb0) ?_
  rintro W2 ⟨r, o, hr, hW2, ⟨q, hq, hqc⟩, hoc⟩
  have hrne : ∀ (k : Nat) (o' : Obj), (W.alloc (.cells #[.string u1, .slice none 0 0, .string u2, .string u3, .slice none 0 0, .slice none 0 0, .slice none 0 0, .string ⟨#[]⟩] 33)).heap[k]? = some o' → o'.isCells = true → W2.heap[k]? = some o' := fun k o' h1 h2 => by
   rw [hW2]
   refine (World.putObj_heap_other ?_).trans h1
   rintro rfl
   rw [hq] at h1
   cases h1
   rw [hqc] at h2
   cases h2
  have U2 := aq (hrne _ _ hu0 rfl)
  have L2 := aq (hrne _ _ ((hb0.block _ (q0g I1.out)).trans I1.out) rfl)
  have Z2 := aq (hrne _ _ ((hb0.block _ (q0g I2.out)).trans I2.out) rfl)
  have B2 : q0c (Below N w W2) := ⟨by rw [hW2]; have h1 := I3.out.size; have h2 := hb0.size; have h3 := HN.out; exact q8z (by omega) (by omega) (I3.out.trans (hb0.mono (by omega))) (by omega) _⟩
  clear hu0 hb0 hW2 hq hqc hoc hrne hK I1 I2 I3
  obtain ⟨z0, z1, z2, z3, z4, z5, z6, z7⟩ := q5u U2.out
  obtain ⟨y0, y1, y2, y3, y4, y5, y6, y7⟩ := q5u L2.out
  obtain ⟨f0, f1, f2, f3, f4, f5, f6, f7⟩ := v0x L2.out
  refine wpIn_block ?_
  gi_wp2
  rw [q3q]
  exact ⟨(KeepsOthers.of_grownBy (q8l W2 _ u1 u2 u3) (fun k o e ho => by cases e; rw [L2.out] at ho; cases ho; rfl)).from _, ⟨by rw [z4s]; exact Nat.le_refl _, fun k o hk ho _ => (q4s _ _ _ hk).trans ho⟩,
   by rw [v4r]; exact q5y L2.out u1 u2 u3, (q4s _ _ _ (by omega)).trans Z2.out, q2k B2.out (by omega) _ _ _⟩
 case done =>
  rintro D W hD ⟨i1, i2, i3⟩ hK
  have I1 := aq i1
  have I2 := aq i2
  have I3 := aq i3
  have K_D := aq hK
  clear i1 i2 i3 hK
  obtain ⟨⟨l1, l2, l3⟩, hl⟩ : ∃ u, lastT (x, y, z) l = u := ⟨_, rfl⟩
  rw [hl] at I1
  have HL := aq hl
  clear hl
  obtain ⟨z0, z1, z2, z3, z4, z5, z6, z7⟩ := q5u I1.out
  gi_wp2_with (first
   | (refine ⟨trivial, callsIn_wide.2 (Calls.mono (k5y l1 l2 l3 _) ?_)⟩; rintro e w5 ⟨rfl, hb5⟩; unfold T3; have J2 := kb I2 hb5; obtain ⟨y0, y1, y2, y3, y4, y5, y6, y7⟩ := q5u J2.out; obtain ⟨f0, f1, f2, f3, f4, f5, f6, f7⟩ := v0x J2.out))
  rw [q3q]
  have T6 := q5y J2.out l1 l2 l3
  have D5 := (hb5.block _ (q0g K_D.out)).trans K_D.out
  have D6 := (q4s (W := w5) l1 l2 l3 (show D ≠ N + 1 + 1 by omega)).trans D5
  have h0 := HN.out
  have h1 := I3.out.size
  have B6 := q2k (I3.out.trans (hb5.mono (by omega))) (show N ≤ N + 1 + 1 by omega) l1 l2 l3
  refine ⟨by simp, .inl ⟨D, _, rfl, run_takeDeferred D6, ?_⟩⟩
  obtain ⟨W8, hW8⟩ : ∃ W8, W8 = (q6f w5 (N + 1 + 1) l1 l2 l3).putObj D (.deferred none) := ⟨_, rfl⟩
  have T8 : W8.heap[N + 1 + 1]? = some (.cells (T3c l1 l2 l3) 33 (0, 0)) := by rw [hW8]; exact (World.putObj_heap_other (by omega)).trans T6
  have B8 : Below w.heap.size w W8 := by
   rw [hW8, ← h0]
   exact B6.trans (belowK_b (w := w) (by omega) _ D _ _ (by omega) D6 rfl rfl)
  obtain ⟨c0, c1, c2, c3, c4, c5, c6, c7⟩ := q5u T8
  rw [← hW8]
  show ∃ v, _ ∧ _
  refine ⟨.agg #[.string l1, .slice none 0 0, .string l2, .string l3, .slice none 0 0, .slice none 0 0, .slice none 0 0, .string ⟨#[]⟩], ?_, by rw [HL.out], B8⟩
  simp [results, Tryz.results97, asAddr, c0, c1, c2, c3, c4, c5, c6, c7, hut, go_sem]
 case stop =>
  rintro D c pre W _ _ h _
  exact h.elim
theorem q9f (k : Nat) (B1 B2 B3 B4 : Nat) (x y z : ByteArray) (hN : q3d k x y z) (w : World) (hG : GrandW.G w) (hC : Kd.C k59 w (some ⟨B1, 0, none⟩) q0p.length q0p) :
 Calls Tryz.prog 97 #[q6h B1 B2 B3 B4, T3 x y z] w fun e w' => e = .returned (T3 x y z) ∧ Below w.heap.size w w' :=
 z1n k B1 B2 B3 B4 x y z [] w hG hC fun w0 pt pi L _ _ _ _ g c h1 h2 => v5i 3 k B1 B2 B3 B4 pt pi L x y z hN w0 g c h1 h2
theorem z6r (k : Nat) (B1 B2 B3 B4 : Nat) (x y z : ByteArray) (i1 i2 : Int) (hl : (Lib.join ((q3i [x, y, z]).map (·.data.toList)) [45]).length ≤ 140737488355328) (hi1 : q0t.f k (q8d (q3i [x, y, z])) = some (i1, false)) (hi2 : q0t.f k ⟨#[]⟩ = some (i2, false)) (i : Nat) (r : S59) (hi : q0p[i]? = some r) (hf : q6c 2 x z = ((i : Int), true))
 (hN : q3d k r.f3 y ⟨#[]⟩) (w : World) (hG : GrandW.G w) (hC : Kd.C k59 w (some ⟨B1, 0, none⟩) q0p.length q0p) :
 Calls Tryz.prog 97 #[q6h B1 B2 B3 B4, T3 x y z] w fun e w' => e = .returned (T3 r.f3 y ⟨#[]⟩) ∧ Below w.heap.size w w' :=
 z1n k B1 B2 B3 B4 x y z [((i : Int), r.f3, y, ⟨#[]⟩)] w hG hC fun w0 pt pi L h0 hB hp hL g c h1 h2 => trace_one 3 (by decide) k B1 B2 B3 B4 pt pi L h0 hB hp x y z i1 i2 hl hi1 hi2 i r hi hf hN w0 hL g c h1 h2
end Go.Proofs.YtpmcfckechjppaaGreatDoor.Ps
