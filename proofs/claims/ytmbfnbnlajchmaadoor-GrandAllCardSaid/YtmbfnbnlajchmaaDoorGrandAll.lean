/- The law on telling all tags: two loops over the iterator, walked. -/
import Derived.Test.YtmbfnbnlajchmaaDoorGrandIter
import Derived.Test.YtmbfnbnlajchmaaDoorP4
import Derived.Test.YtmbfnbnlajchmaaDoorGrandEv
import Derived.Test.YtmbfnbnlajchmaaDoorP1
import Derived.RangeFuncNested
import Derived.RangeFuncBound
import Derived.RangeFuncCalls
import Derived.RangeFuncLeaves
import Derived.Shelf.Abstract
import Derived.Shelf.RegionOpen
import Derived.WalkKit
import Derived.OwnWalkIn
import Derived.TacticsInMore
import Derived.LoopNIn
import Derived.LoopIn
namespace Go.Proofs.YtmbfnbnlajchmaaDoor.GrandAll
open Go.RowKit Go.Shelf Go.Proofs.YtmbfnbnlajchmaaDoorW.PrintWords Go.Proofs.YtmbfnbnlajchmaaDoorW.PrintLast Go.Proofs.YtmbfnbnlajchmaaDoorW.PrintMore
open Go.Proofs.YtmbfnbnlajchmaaDoor.GrandW Go.Proofs.YtmbfnbnlajchmaaDoor.GrandIter Go.Proofs.YtmbfnbnlajchmaaDoor.P Go.Proofs.YtmbfnbnlajchmaaDoor.Pure Go.Proofs.YtmbfnbnlajchmaaDoor.Base Go.Proofs.YtmbfnbnlajchmaaDoor.Each
attribute [local go_sem] Oper.semAt_some max2_int min2_int
set_option linter.unusedVariables false
set_option linter.unusedSimpArgs false

/-- The tag ahead of the k-th: at the first one none. -/
def lastAt (k : Nat) : ByteArray := if k = 0 then ⟨#[]⟩ else nameAt ((k - 1 : Nat) : Int)
theorem last_size (k : Nat) : (lastAt k).size ≤ 20 := by
  unfold lastAt
  split
  · decide
  · exact nameAt_size _
theorem rises : ∀ k < 26, 0 < cmpL (lowL (nameAt ((k : Nat) : Int))) (lowL (lastAt k)) := by decide +kernel
theorem compares (k : Nat) (hk : k < 26) : ∃ K r, isoglossref02_Compare.f K (nameAt (k : Int)) (lastAt k) = some r ∧ 0 < r := by
  obtain ⟨K, h⟩ := (rCompare_ev (nameAt (k : Int)) (lastAt k) (nameAt_le _) (Nat.le_trans (last_size k) (by decide))).rounds
  exact ⟨K, _, h, rises k hk⟩

theorem boxed_below {W W' : World} {B : Nat} {t : TypeId} {v : Value} (h : Boxed W B t v) (hb : Below W.heap.size W W') : Boxed W' B t v :=
  (hb.block B (Array.getElem?_eq_some_iff.1 h).1).trans h
theorem keeps_below {W W' : World} (hb : Below W.heap.size W W') : KeepsOthers W W' :=
  ⟨hb.size, fun k o hk _ => (hb.block k (Array.getElem?_eq_some_iff.1 hk).1).trans hk⟩

theorem own_at {β : Type} {B D : Nat} {o : Obj} (hD : D < B) : OwnFrom B (fun (_ : β) (W : World) => W.heap[D]? = some o) := fun s X Y row hs hg hr =>
  (hg.block D (Array.getElem?_eq_some_iff.1 hs).1 (fun e => by have := (hr D e.symm).1; omega)).trans hs
theorem wp_normal {P : Program} {c : Code} {Q : Exit → Act → World → Prop} {a : Act} {w : World} (h : c.wp P (fun e a w => e = .normal ∧ Q e a w) a w) : c.wp P Q a w := wp_mono h (fun _ _ _ h => h.2)
/-- What abides while the second loop goes. -/
def Keep (w w1 w4 : World) (q : Int) (D : Nat) (W : World) : Prop :=
  (((Boxed W w4.heap.size 3 (.int .i64 q) ∧ Boxed W w1.heap.size 3 (.int .i64 26)) ∧ Boxed W w.heap.size 4 (.bool false)) ∧ W.heap[D]? = some (.deferred (some []))) ∧ Below w.heap.size w W
theorem keep_own {β : Type} (w w1 w4 : World) (q : Int) (D B : Nat) (hD : D < B) (hB : w.heap.size ≤ B) : OwnFrom B (fun (_ : β) W => Keep w w1 w4 q D W) :=
  OwnFrom.and (OwnFrom.and (OwnFrom.and (OwnFrom.and ((boxed_own _ _ _).from _) ((boxed_own _ _ _).from _)) ((boxed_own _ _ _).from _)) (own_at hD)) (ownFrom_below (Nat.le_refl _) hB)

set_option maxRecDepth 100000 in
set_option maxHeartbeats 4000000 in
theorem all_law (n : Int) (w : World) (hG : G w) :
    CallsIn Fence.wide 5 Tryd.prog 4 #[.int .i64 n] w fun e W' => e = .returned (.bool true) ∧ Below w.heap.size w W' := by
  obtain ⟨Ka, hawake⟩ := gawake_ev.rounds
  obtain ⟨q, hrest, q0, q1⟩ := rest_eq n 30 (by decide) (by decide)
  have HG := Aside0.mk hG
  have HA := Aside0.mk hawake
  have HR := Aside0.mk hrest
  clear hG hawake hrest
  have hB0 : Below w.heap.size w (w.alloc (.cells #[.bool false] 4)) := (Below.refl _ w).alloc (Nat.le_refl _) _
  have HB0 := Aside0.mk hB0
  clear hB0
  have hnil : ∀ W : World, (binOp .eql 33 (.func (.func 47) #[] #[]) .nilFunc).run Tryd.prog W = .ok (.bool false) W := fun _ => by kernel_rfl
  refine callsIn_of_wp_marks Tryd.func4 rfl trivial ?_ rfl
  simp only [Tryd.ntmps4, List.size_toArray, List.length_cons, List.length_nil, Nat.reduceAdd, Nat.reduceSub, Array.replicate_succ, Array.replicate_zero, List.push_toArray, List.append_toArray, List.nil_append, List.cons_append]
  gi_wp2_with (first | (refine ⟨trivial, ?_⟩; gi_at_call 14; refine (callsIn_wide.2 (isoglosslaw05_awake.calls Ka true _ HA.out (HG.out.below HB0.out))).mono ?_; rintro e w1 ⟨rfl, hb1⟩) | (refine ⟨trivial, ?_⟩; gi_at_call 20; refine (all_in Fence.wide 4 trivial rfl _).mono ?_; rintro e w' ⟨rfl, rfl⟩))
  have hlt : w.heap.size < w'.heap.size := by
    have := hb1.size
    rw [World.size_alloc] at this
    omega
  have hB1 : Below w.heap.size w w' := HB0.out.trans (hb1.mono (by rw [World.size_alloc]; omega))
  obtain ⟨W2, hW2⟩ : ∃ W2, W2 = (w'.alloc (.cells #[.int .i64 0] 3)).alloc (.cells #[.string ⟨#[]⟩] 9) := ⟨_, rfl⟩
  have bR : Boxed W2 w.heap.size 4 (.bool false) := by
    rw [hW2]
    exact ((boxed_below (Boxed.new w _ _) hb1).alloc _).alloc _
  have bN : Boxed W2 w'.heap.size 3 (.int .i64 0) := by
    rw [hW2]
    exact (Boxed.new w' _ _).alloc _
  have bL : Boxed W2 (w'.heap.size + 1) 9 (.string ⟨#[]⟩) := by
    have := Boxed.new (w'.alloc (.cells #[.int .i64 0] 3)) 9 (.string ⟨#[]⟩)
    rw [World.size_alloc] at this
    rw [hW2]
    exact this
  have hB2 : Below w.heap.size w W2 := by
    rw [hW2]
    exact (hB1.alloc (by omega) _).alloc (by rw [World.size_alloc]; omega) _
  rw [← hW2]
  have hz2 : w.heap.size ≤ W2.heap.size := hB2.size
  clear hW2 hB1 hb1
  refine wpIn_rangeFunc_ownG rfl (by omega) (gf := 47) (lb := #[]) rfl trivial (enters_of Tryd.func47 (by kernel_rfl) rfl)
    (all_stops Fence.wide 4 trivial rfl (by omega) w.heap.size W2 (HG.out.below hB2) hz2) belowK_t (belowK_b hz2) (Below.refl _ _) (fun _ => rfl)
    (fun pre W => (((pre = List.range pre.length ∧ Boxed W w'.heap.size 3 (.int .i64 (pre.length : Int))) ∧ Boxed W (w'.heap.size + 1) 9 (.string (lastAt pre.length))) ∧ Boxed W w.heap.size 4 (.bool false)) ∧ Below w.heap.size w W)
    (fun _ pre _ => pre ≠ List.range pre.length)
    (OwnFrom.and (OwnFrom.and (OwnFrom.and (OwnFrom.and (ownFrom_pure _ _) ((boxed_own _ _ _).from _)) ((boxed_own _ _ _).from _)) ((boxed_own _ _ _).from _)) (ownFrom_below (Nat.le_refl _) hz2))
    (fun _ => ownFrom_pure _ _)
    ⟨⟨⟨⟨rfl, bN⟩, bL⟩, bR⟩, hB2⟩
    (fun x => { tmps := #[.int .i64 n, undef, .pointer (some ⟨w.heap.size, 0, none⟩), .bool true, .func (.func 47) #[] #[], .pointer (some ⟨w'.heap.size, 0, none⟩), .pointer (some ⟨w'.heap.size + 1, 0, none⟩), .int .i64 ((x : Nat) : Int), .string (nameAt ((x : Nat) : Int)), undef, undef, undef, undef, .bool true, .func (.func 47) #[] #[], .func (.func 47) #[] #[], .bool false, .func (.func 47) #[] #[], .int .i64 ((x : Nat) : Int), .string (nameAt ((x : Nat) : Int)), undef, undef, undef, undef, undef, undef, undef, undef, undef, undef, undef, undef, undef, undef, undef, undef, undef, undef, undef, undef, undef, undef, undef, undef, undef, undef, undef, undef, undef, undef, undef, undef, undef, undef, undef, undef, undef, undef, undef, undef, undef, undef, undef, undef, undef, undef, undef, undef, undef], defers := [] }) ?assign ?body ?done ?stop
  case assign =>
    intro l x W K hK
    gi_wp2
    exact hK
  case body =>
    rintro l pre x W ⟨⟨⟨⟨hp, bN⟩, bL⟩, bR⟩, hB⟩ hl
    have cN := bN.cell
    have cL := bL.cell
    have HP := Aside0.mk hp
    clear hp
    by_cases hx : x = pre.length
    · subst hx
      obtain ⟨K, r, hc, hr⟩ := compares pre.length hl
      have HC := Aside0.mk hc
      have dr : decide (r ≤ 0) = false := by simpa using hr
      clear hc hr
      gi_wp2_with (first | (refine ⟨trivial, ?_⟩; gi_at_call 21; refine (CallsIn.inRound l (callsIn_wide.2 (name_some (pre.length : Int) _ (HG.out.below hB) (by omega) (by omega)))).mono ?_; rintro e w3 ⟨rfl, rfl⟩) | (refine ⟨trivial, ?_⟩; gi_at_call 22; refine (CallsIn.inRound l (callsIn_wide.2 (isoglossref02_Compare.calls K _ _ r _ HC.out))).mono ?_; rintro e w3 ⟨rfl, hb3⟩; have bN3 := boxed_below bN hb3; have bL3 := boxed_below bL hb3; have bR3 := boxed_below bR hb3; have cN3 := bN3.cell; have fN3 := bN3.frozen; have cL3 := bL3.cell; have fL3 := bL3.frozen))
      have e1 : (pre ++ [pre.length]).length = pre.length + 1 := by simp
      have nLN : w'.heap.size + 1 ≠ w'.heap.size := by omega
      have hz := hB.size
      have hbW : Below w.heap.size W ((w3.setCell ⟨w'.heap.size + 1, 0, none⟩ (.string (nameAt (pre.length : Int)))).setCell ⟨w'.heap.size, 0, none⟩ (.int .i64 ((pre.length : Int) + 1))) :=
        ((hb3.mono hz).setCell (p := ⟨w'.heap.size + 1, 0, none⟩) (show w.heap.size ≤ w'.heap.size + 1 by omega) _).setCell (p := ⟨w'.heap.size, 0, none⟩) (show w.heap.size ≤ w'.heap.size by omega) _
      refine ⟨((keeps_below hb3).trans ((KeepsOthers.setCell _ _ _).trans (KeepsOthers.setCell _ _ _))).from _, hbW, ⟨⟨⟨?_, ?_⟩, ?_⟩, ?_⟩, hB.trans hbW⟩
      · rw [e1, List.range_succ, ← HP.out]
      · rw [e1]
        exact (bN3.other (fun e => nLN e.symm) _).set _
      · rw [e1]
        exact (bL3.set _).other nLN _
      · exact (bR3.other (by omega) _).other (by omega) _
    · obtain ⟨s, b, hcall⟩ : ∃ s b, ∀ W : World, G W → Calls Tryd.prog 21 #[.int .i64 ((x : Nat) : Int)] W fun e w' => e = .returned (.tuple #[.string s, .bool b]) ∧ W = w' := by
        by_cases h26 : x < 26
        · exact ⟨_, _, fun W hg => name_some (x : Int) W hg (by omega) (by omega)⟩
        · exact ⟨_, _, fun W hg => name_none (x : Int) W (by omega)⟩
      have ne1 : ((x : Int) == (pre.length : Int)) = false := by rw [beq_eq_false_iff_ne]; omega
      have ne2 : ((x : Int) != (pre.length : Int)) = true := by rw [bne_iff_ne]; omega
      have HX := Aside0.mk hx
      have fR := bR.frozen
      have cR := bR.cell
      clear hx
      gi_wp2_with (first | (refine ⟨trivial, ?_⟩; gi_at_call 21; refine (CallsIn.inRound l (callsIn_wide.2 (hcall _ (HG.out.below hB)))).mono ?_; rintro e w3 ⟨rfl, rfl⟩) | refine ⟨trivial, ?_⟩)
      refine ⟨(KeepsOthers.setCell _ _ _).from _, ?_⟩
      intro h
      apply HX.out
      rw [List.length_append, List.length_singleton, List.range_succ] at h
      exact (List.cons.inj (List.append_inj_right' h rfl)).1
  case done =>
    rintro D ys W hD rfl ⟨⟨⟨⟨_, bN⟩, bL⟩, bR⟩, hB⟩ hK
    rw [List.length_range] at bN bL
    have cN := bN.cell
    gi_wp2_with (refine ⟨trivial, ?_⟩; gi_at_call 17; refine (callsIn_wide.2 (isoglosslaw05_rest.calls n 30 q _ HR.out)).mono ?_; rintro e w4 ⟨rfl, hd⟩; have hb4 := hd.below; clear hd; have bN4 := boxed_below bN hb4; have cN4 := bN4.cell)
    have hW4 : W.heap.size ≤ w4.heap.size := hb4.size
    have hDW : D < W.heap.size := (Array.getElem?_eq_some_iff.1 hK).1
    have hwW := hB.size
    have hNW := bN.lt
    obtain ⟨W5, hW5⟩ : ∃ W5, W5 = (w4.alloc (.cells #[.int .i64 q] 3)).alloc (.cells #[.int .i64 0] 3) := ⟨_, rfl⟩
    have z5 : W5.heap.size = w4.heap.size + 1 + 1 := by rw [hW5, World.size_alloc, World.size_alloc]
    have bR5 : Boxed W5 w.heap.size 4 (.bool false) := by
      rw [hW5]
      exact ((boxed_below bR hb4).alloc _).alloc _
    have bN5 : Boxed W5 w'.heap.size 3 (.int .i64 26) := by
      rw [hW5]
      exact (bN4.alloc _).alloc _
    have bQ5 : Boxed W5 w4.heap.size 3 (.int .i64 q) := by
      rw [hW5]
      exact (Boxed.new w4 _ _).alloc _
    have bG5 : Boxed W5 (w4.heap.size + 1) 3 (.int .i64 0) := by
      have := Boxed.new (w4.alloc (.cells #[.int .i64 q] 3)) 3 (.int .i64 0)
      rw [World.size_alloc] at this
      rw [hW5]
      exact this
    have hbW5 : Below W.heap.size W W5 := by
      rw [hW5]
      exact (hb4.alloc hW4 _).alloc (by rw [World.size_alloc]; omega) _
    have hK5 : W5.heap[D]? = some (.deferred (some [])) := (hbW5.block D hDW).trans hK
    have hB5 : Below w.heap.size w W5 := hB.trans (hbW5.mono hwW)
    rw [← hW5]
    have hz5 : w.heap.size ≤ W5.heap.size := hB5.size
    have keep5 : Keep w w' w4 q D W5 := ⟨⟨⟨⟨bQ5, bN5⟩, bR5⟩, hK5⟩, hB5⟩
    have HW4 := Aside0.mk hW4
    clear hW5 bR5 bN5 bQ5 hK5 hbW5 bR bL bN cN bN4 cN4 hb4 hW4 hK hB
    refine wpIn_rangeFunc_ownG rfl (by omega) (gf := 47) (lb := #[]) rfl trivial (enters_of Tryd.func47 (by kernel_rfl) rfl)
      (all_stops Fence.wide 4 trivial rfl (by omega) w.heap.size W5 (HG.out.below hB5) hz5) belowK_t (belowK_b hz5) (Below.refl _ _) (fun _ => rfl)
      (fun pre W' => ((pre.length : Int) ≤ q ∧ Boxed W' (w4.heap.size + 1) 3 (.int .i64 (pre.length : Int))) ∧ Keep w w' w4 q D W')
      (fun c pre W' => ((c = .exit 2 ∧ q < 26) ∧ Boxed W' (w4.heap.size + 1) 3 (.int .i64 q)) ∧ Keep w w' w4 q D W')
      (OwnFrom.and (OwnFrom.and (ownFrom_pure _ _) ((boxed_own _ _ _).from _)) (keep_own _ _ _ _ D W5.heap.size (by have := HW4.out; omega) hz5))
      (fun _ => OwnFrom.and (OwnFrom.and (ownFrom_pure _ _) ((boxed_own _ _ _).from _)) (keep_own _ _ _ _ D W5.heap.size (by have := HW4.out; omega) hz5))
      ⟨⟨q0, bG5⟩, keep5⟩
      (fun x => { tmps := #[.int .i64 n, undef, .pointer (some ⟨w.heap.size, 0, none⟩), .bool true, .func (.func 47) #[] #[], .pointer (some ⟨w'.heap.size, 0, none⟩), .pointer (some ⟨w'.heap.size + 1, 0, none⟩), undef, undef, undef, undef, .pointer (some ⟨w4.heap.size, 0, none⟩), .pointer (some ⟨w4.heap.size + 1, 0, none⟩), .bool true, .func (.func 47) #[] #[], .func (.func 47) #[] #[], .bool false, .func (.func 47) #[] #[], undef, undef, undef, undef, undef, undef, undef, undef, undef, undef, undef, undef, undef, undef, undef, undef, undef, undef, undef, undef, undef, undef, undef, undef, undef, undef, undef, undef, .int .i64 n, .int .i64 q, .func (.func 47) #[] #[], .int .i64 ((x : Nat) : Int), .string (nameAt ((x : Nat) : Int)), undef, undef, undef, undef, undef, undef, undef, undef, undef, undef, undef, undef, undef, undef, undef, undef, undef, undef], defers := [] }) ?assign2 ?body2 ?done2 ?stop2
    case assign2 =>
      intro l x W' K hK
      gi_wp2
      exact hK
    case body2 =>
      rintro l pre x W' ⟨⟨hle, bG⟩, kp⟩ hl
      obtain ⟨⟨⟨⟨bQ, bN⟩, bR⟩, hK⟩, hB⟩ := kp
      have cG := bG.cell
      have fG := bG.frozen
      have cQ := bQ.cell
      by_cases hq : (pre.length : Int) = q
      · have e1 : ((pre.length : Int) == q) = true := beq_iff_eq.mpr hq
        have HQ := Aside0.mk hq
        clear hq
        gi_wp2
        refine ⟨KeepsFrom.refl _ _, ⟨⟨rfl, by have := HQ.out; omega⟩, ?_⟩, ⟨⟨⟨⟨bQ, bN⟩, bR⟩, hK⟩, hB⟩⟩
        rw [← HQ.out]
        exact bG
      · have e1 : ((pre.length : Int) == q) = false := beq_eq_false_iff_ne.mpr hq
        have HQ := Aside0.mk hq
        clear hq
        gi_wp2
        have hbW : Below w.heap.size W' (W'.setCell ⟨w4.heap.size + 1, 0, none⟩ (.int .i64 ((pre.length : Int) + 1))) :=
          (Below.refl w.heap.size W').setCell (p := ⟨w4.heap.size + 1, 0, none⟩) (show w.heap.size ≤ w4.heap.size + 1 by have := HW4.out; omega) _
        have e2 : (pre ++ [x]).length = pre.length + 1 := by simp
        have hle2 := HW4.out
        refine ⟨(KeepsOthers.setCell _ _ _).from _, hbW, ⟨?_, ?_⟩, ⟨⟨⟨⟨bQ.other (B' := w4.heap.size + 1) (by omega) _, bN.other (B' := w4.heap.size + 1) (by omega) _⟩, bR.other (B' := w4.heap.size + 1) (by omega) _⟩, ?_⟩, hB.trans hbW⟩⟩
        · rw [e2]; have := HQ.out; omega
        · rw [e2]; exact bG.set _
        · exact (KeepsOthers.setCell W' ⟨w4.heap.size + 1, 0, none⟩ _).same D _ hK rfl
    case done2 =>
      rintro D2 ys W' hD2 rfl ⟨⟨hle, bG⟩, ⟨⟨⟨⟨bQ, bN⟩, bR⟩, hK⟩, hB⟩⟩ hK2
      rw [List.length_range] at hle bG
      have hmn : ((26 : Int) == if 26 < q then 26 else q) = true := by rw [beq_iff_eq]; split <;> omega
      have HB2 := Aside0.mk hle
      clear hle
      gi_wp2
      refine wpIn_wide.2 (wp_normal ?_)
      refine start_ (n := 14) (S := fun u_ => u_.cell? ⟨w4.heap.size, 0, none⟩ = some (.int .i64 q) ∧ u_.cell? ⟨w4.heap.size + 1, 0, none⟩ = some (.int .i64 26) ∧ u_.cell? ⟨w'.heap.size, 0, none⟩ = some (.int .i64 26)) (ds := []) #[false, false, false, false, false, false, false, false, false, false, false, false, false, false] (by kernel_rfl) rfl rfl ⟨bQ.cell, bG.cell, bN.cell⟩ (fun hHeld => ?_)
      have bR : Boxed W'.drew w.heap.size 4 (.bool false) := bR
      have bN : Boxed W'.drew w'.heap.size 3 (.int .i64 26) := bN
      have bQ : Boxed W'.drew w4.heap.size 3 (.int .i64 q) := bQ
      have bG : Boxed W'.drew (w4.heap.size + 1) 3 (.int .i64 26) := bG
      have hK : W'.drew.heap[D]? = some (.deferred (some [])) := hK
      have hK2 : W'.drew.heap[D2]? = some (.deferred (some [])) := hK2
      have hB : Below w.heap.size w W'.drew := below_drew1 hB
      generalize W'.drew = w6 at bR bN bQ bG hK hK2 hB hHeld ⊢
      refine pure_ (i := 0) (N := some 56) (v := ?_) (a' := ?_) #[true, false, false, false, false, false, false, false, false, false, false, false, false, false] rfl rfl (by kernel_rfl) (fun _ _ _ h => nomatch h.1) (Or.inl ⟨by rfl, ?_⟩) ?_ ?_
      rotate_left
      · intro w'
        go_simp
        with_reducible rfl
      rotate_left
      · simp only [Act.put, List.setIfInBounds_toArray, List.set_cons_zero, List.set_cons_succ, i64_w, i32_w]
        rfl
      refine pure_ (i := 1) (N := some 57) (v := ?_) (a' := ?_) #[true, true, false, false, false, false, false, false, false, false, false, false, false, false] rfl rfl (by kernel_rfl) (fun _ _ _ h => nomatch h.1) (Or.inl ⟨by rfl, ?_⟩) ?_ ?_
      rotate_left
      · intro w'
        go_simp
        with_reducible rfl
      rotate_left
      · simp only [Act.put, List.setIfInBounds_toArray, List.set_cons_zero, List.set_cons_succ, i64_w, i32_w]
        rfl
      refine take_ (i := 2) (N := some 58) (v := ?_) (a' := ?_) #[true, true, true, false, false, false, false, false, false, false, false, false, false, false] rfl rfl (by kernel_rfl) (fun _ _ _ h => nomatch h.1) (Or.inl ⟨by rfl, ?_⟩) hHeld ?_ ?_
      rotate_left
      · rintro w' ⟨s0, s1, s2⟩
        go_simp
        with_reducible rfl
      rotate_left
      · simp only [Act.put, List.setIfInBounds_toArray, List.set_cons_zero, List.set_cons_succ, i64_w, i32_w]
        rfl
      refine one_ (i := 3) (N := some 59) #[true, true, true, true, false, false, false, false, false, false, false, false, false, false] rfl rfl (by kernel_rfl) (by decide) (fun K hK_ => ?_)
      refine goes_ Tryd.func23 (by kernel_rfl) rfl #[] (by rfl) rfl rfl (by simp) ?_
      with_reducible refine (len_any _ (HG.out.below hB)).mono ?_
      rintro e w7 ⟨rfl, hb⟩
      refine ⟨_, rfl, ?_⟩
      have hB7 := hB.trans (hb.mono hB.size)
      have bR7 := boxed_below bR hb
      have bN7 := boxed_below bN hb
      have bQ7 := boxed_below bQ hb
      have bG7 := boxed_below bG hb
      have hK7 := (hb.block D (Array.getElem?_eq_some_iff.1 hK).1).trans hK
      have hK27 := (hb.block D2 (Array.getElem?_eq_some_iff.1 hK2).1).trans hK2
      clear hb bR bN bQ bG hK hK2 hB
      refine hK_.out _ _ ⟨bQ7.cell, bG7.cell, bN7.cell⟩ (fun hHeld => ?_)
      clear hK_ K
      refine norm_ (a' := ?_) ?_ ?_
      rotate_left
      · show Act.put _ (some 59) _ = _
        simp only [Act.put, List.setIfInBounds_toArray, List.set_cons_zero, List.set_cons_succ, i64_w, i32_w]
        rfl
      refine pure_ (i := 4) (N := some 60) (v := ?_) (a' := ?_) #[true, true, true, true, true, false, false, false, false, false, false, false, false, false] rfl rfl (by kernel_rfl) (fun _ _ _ h => nomatch h.1) (Or.inl ⟨by rfl, ?_⟩) ?_ ?_
      rotate_left
      · intro w'
        go_simp
        with_reducible rfl
      rotate_left
      · simp only [Act.put, List.setIfInBounds_toArray, List.set_cons_zero, List.set_cons_succ, i64_w, i32_w]
        rfl
      refine pure_ (i := 5) (N := some 61) (v := ?_) (a' := ?_) #[true, true, true, true, true, true, false, false, false, false, false, false, false, false] rfl rfl (by kernel_rfl) (fun _ _ _ h => nomatch h.1) (Or.inl ⟨by rfl, ?_⟩) ?_ ?_
      rotate_left
      · intro w'
        go_simp
        with_reducible rfl
      rotate_left
      · simp only [Act.put, List.setIfInBounds_toArray, List.set_cons_zero, List.set_cons_succ, i64_w, i32_w]
        rfl
      refine pure_ (i := 6) (N := some 62) (v := ?_) (a' := ?_) #[true, true, true, true, true, true, true, false, false, false, false, false, false, false] rfl rfl (by kernel_rfl) (fun _ _ _ h => nomatch h.1) (Or.inl ⟨by rfl, ?_⟩) ?_ ?_
      rotate_left
      · intro w'
        go_simp
        with_reducible rfl
      rotate_left
      · simp only [Act.put, List.setIfInBounds_toArray, List.set_cons_zero, List.set_cons_succ, i64_w, i32_w]
        rfl
      refine take_ (i := 7) (N := some 63) (v := ?_) (a' := ?_) #[true, true, true, true, true, true, true, true, false, false, false, false, false, false] rfl rfl (by kernel_rfl) (fun _ _ _ h => nomatch h.1) (Or.inl ⟨by rfl, ?_⟩) hHeld ?_ ?_
      rotate_left
      · rintro w' ⟨s0, s1, s2⟩
        go_simp
        with_reducible rfl
      rotate_left
      · simp only [Act.put, List.setIfInBounds_toArray, List.set_cons_zero, List.set_cons_succ, i64_w, i32_w]
        rfl
      refine take_ (i := 8) (N := some 64) (v := ?_) (a' := ?_) #[true, true, true, true, true, true, true, true, true, false, false, false, false, false] rfl rfl (by kernel_rfl) (fun _ _ _ h => nomatch h.1) (Or.inl ⟨by rfl, ?_⟩) hHeld ?_ ?_
      rotate_left
      · rintro w' ⟨s0, s1, s2⟩
        go_simp
        with_reducible rfl
      rotate_left
      · simp only [Act.put, List.setIfInBounds_toArray, List.set_cons_zero, List.set_cons_succ, i64_w, i32_w]
        rfl
      refine take_ (i := 9) (N := some 65) (v := ?_) (a' := ?_) #[true, true, true, true, true, true, true, true, true, true, false, false, false, false] rfl rfl (by kernel_rfl) (fun _ _ _ h => nomatch h.1) (Or.inl ⟨by rfl, ?_⟩) hHeld ?_ ?_
      rotate_left
      · rintro w' ⟨s0, s1, s2⟩
        go_simp
        with_reducible rfl
      rotate_left
      · simp only [Act.put, List.setIfInBounds_toArray, List.set_cons_zero, List.set_cons_succ, i64_w, i32_w]
        rfl
      refine pure_ (i := 10) (N := some 66) (v := ?_) (a' := ?_) #[true, true, true, true, true, true, true, true, true, true, true, false, false, false] rfl rfl (by kernel_rfl) (fun _ _ _ h => nomatch h.1) (Or.inl ⟨by rfl, ?_⟩) ?_ ?_
      rotate_left
      · intro w'
        go_simp
        with_reducible rfl
      rotate_left
      · simp only [Act.put, List.setIfInBounds_toArray, List.set_cons_zero, List.set_cons_succ, i64_w, i32_w]
        rfl
      refine pure_ (i := 11) (N := some 67) (v := ?_) (a' := ?_) #[true, true, true, true, true, true, true, true, true, true, true, true, false, false] rfl rfl (by kernel_rfl) (fun _ _ _ h => nomatch h.1) (Or.inl ⟨by rfl, ?_⟩) ?_ ?_
      rotate_left
      · intro w'
        go_simp
        with_reducible rfl
      rotate_left
      · simp only [Act.put, List.setIfInBounds_toArray, List.set_cons_zero, List.set_cons_succ, i64_w, i32_w]
        rfl
      refine pure_ (i := 12) (N := some 68) (v := ?_) (a' := ?_) #[true, true, true, true, true, true, true, true, true, true, true, true, true, false] rfl rfl (by kernel_rfl) (fun _ _ _ h => nomatch h.1) (Or.inl ⟨by rfl, ?_⟩) ?_ ?_
      rotate_left
      · intro w'
        go_simp
        with_reducible rfl
      rotate_left
      · simp only [Act.put, List.setIfInBounds_toArray, List.set_cons_zero, List.set_cons_succ, i64_w, i32_w]
        rfl
      refine one_ (i := 13) (N := none) #[true, true, true, true, true, true, true, true, true, true, true, true, true, true] rfl rfl (by kernel_rfl) (by decide) (fun K hK_ => ?_)
      have cR7 := bR7.cell
      have fR7 := bR7.frozen
      refine skip_ (w1 := ?_) (by rfl) rfl ?_ ?_
      rotate_left
      · go_simp
        rfl
      have hle4 := HW4.out
      have bR8 := bR7.set (.bool true)
      have bQ8 := bQ7.other (B' := w.heap.size) (by omega) (.bool true)
      have bG8 := bG7.other (B' := w.heap.size) (by omega) (.bool true)
      have bN8 := bN7.other (B' := w.heap.size) (by omega) (.bool true)
      have ks := KeepsOthers.setCell w7 ⟨w.heap.size, 0, none⟩ (.bool true)
      have hK8 := ks.same D _ hK7 rfl
      have hK28 := ks.same D2 _ hK27 rfl
      have hB8 := hB7.setCell (p := ⟨w.heap.size, 0, none⟩) (Nat.le_refl _) (.bool true)
      refine hK_.out _ _ ⟨bQ8.cell, bG8.cell, bN8.cell⟩ (fun hHeld => ?_)
      clear hK_ K
      refine done_ (by kernel_rfl) ⟨rfl, ?_⟩
      gi_wp2
      all_goals
        have hne : D ≠ D2 := by omega
        have hK9 : ((w7.setCell ⟨w.heap.size, 0, none⟩ (.bool true)).putObj D2 (.deferred none)).heap[D]? = some (.deferred (some [])) := ((grownBy_putObj' (w7.setCell ⟨w.heap.size, 0, none⟩ (.bool true)) D2 (.deferred none)).block D (Array.getElem?_eq_some_iff.1 hK8).1 (fun e => hne (Option.some.inj e))).trans hK8
        refine ⟨by simp, .inl ⟨_, _, rfl, run_takeDeferred hK28, by simp, .inl ⟨_, _, rfl, run_takeDeferred hK9, ?_⟩⟩⟩
        have c9 := cell_kept (cell_kept bR8.cell (grownBy_putObj' _ D2 (.deferred none)) (fun r e => by cases e; exact ⟨_, hK28, rfl⟩)) (grownBy_putObj' _ D (.deferred none)) (fun r e => by cases e; exact ⟨_, hK9, rfl⟩)
        refine ⟨.bool true, by simp [results, Tryd.f4, go_sem, c9], rfl, ?_⟩
        have k1 := belowK_b (w := w) (Nat.le_refl _) (w7.setCell ⟨w.heap.size, 0, none⟩ (.bool true)) D2 _ (.deferred none) (by omega) hK28 rfl rfl
        have k2 := belowK_b (w := w) (Nat.le_refl _) ((w7.setCell ⟨w.heap.size, 0, none⟩ (.bool true)).putObj D2 (.deferred none)) D _ (.deferred none) (by omega) hK9 rfl rfl
        exact (hB8.trans k1).trans k2
    case stop2 =>
      rintro D2 c pre W' hD2 _ ⟨⟨⟨rfl, hlt26⟩, bG⟩, ⟨⟨⟨⟨bQ, bN⟩, bR⟩, hK⟩, hB⟩⟩ hK2
      have hmn : (q == if 26 < q then 26 else q) = true := by rw [beq_iff_eq]; split <;> omega
      gi_wp2
      refine wpIn_wide.2 (wp_normal ?_)
      refine start_ (n := 14) (S := fun u_ => u_.cell? ⟨w4.heap.size, 0, none⟩ = some (.int .i64 q) ∧ u_.cell? ⟨w4.heap.size + 1, 0, none⟩ = some (.int .i64 q) ∧ u_.cell? ⟨w'.heap.size, 0, none⟩ = some (.int .i64 26)) (ds := []) #[false, false, false, false, false, false, false, false, false, false, false, false, false, false] (by kernel_rfl) rfl rfl ⟨bQ.cell, bG.cell, bN.cell⟩ (fun hHeld => ?_)
      have bR : Boxed W'.drew w.heap.size 4 (.bool false) := bR
      have bN : Boxed W'.drew w'.heap.size 3 (.int .i64 26) := bN
      have bQ : Boxed W'.drew w4.heap.size 3 (.int .i64 q) := bQ
      have bG : Boxed W'.drew (w4.heap.size + 1) 3 (.int .i64 q) := bG
      have hK : W'.drew.heap[D]? = some (.deferred (some [])) := hK
      have hK2 : W'.drew.heap[D2]? = some (.deferred (some [])) := hK2
      have hB : Below w.heap.size w W'.drew := below_drew1 hB
      generalize W'.drew = w6 at bR bN bQ bG hK hK2 hB hHeld ⊢
      refine pure_ (i := 0) (N := some 56) (v := ?_) (a' := ?_) #[true, false, false, false, false, false, false, false, false, false, false, false, false, false] rfl rfl (by kernel_rfl) (fun _ _ _ h => nomatch h.1) (Or.inl ⟨by rfl, ?_⟩) ?_ ?_
      rotate_left
      · intro w'
        go_simp
        with_reducible rfl
      rotate_left
      · simp only [Act.put, List.setIfInBounds_toArray, List.set_cons_zero, List.set_cons_succ, i64_w, i32_w]
        rfl
      refine pure_ (i := 1) (N := some 57) (v := ?_) (a' := ?_) #[true, true, false, false, false, false, false, false, false, false, false, false, false, false] rfl rfl (by kernel_rfl) (fun _ _ _ h => nomatch h.1) (Or.inl ⟨by rfl, ?_⟩) ?_ ?_
      rotate_left
      · intro w'
        go_simp
        with_reducible rfl
      rotate_left
      · simp only [Act.put, List.setIfInBounds_toArray, List.set_cons_zero, List.set_cons_succ, i64_w, i32_w]
        rfl
      refine take_ (i := 2) (N := some 58) (v := ?_) (a' := ?_) #[true, true, true, false, false, false, false, false, false, false, false, false, false, false] rfl rfl (by kernel_rfl) (fun _ _ _ h => nomatch h.1) (Or.inl ⟨by rfl, ?_⟩) hHeld ?_ ?_
      rotate_left
      · rintro w' ⟨s0, s1, s2⟩
        go_simp
        with_reducible rfl
      rotate_left
      · simp only [Act.put, List.setIfInBounds_toArray, List.set_cons_zero, List.set_cons_succ, i64_w, i32_w]
        rfl
      refine one_ (i := 3) (N := some 59) #[true, true, true, true, false, false, false, false, false, false, false, false, false, false] rfl rfl (by kernel_rfl) (by decide) (fun K hK_ => ?_)
      refine goes_ Tryd.func23 (by kernel_rfl) rfl #[] (by rfl) rfl rfl (by simp) ?_
      with_reducible refine (len_any _ (HG.out.below hB)).mono ?_
      rintro e w7 ⟨rfl, hb⟩
      refine ⟨_, rfl, ?_⟩
      have hB7 := hB.trans (hb.mono hB.size)
      have bR7 := boxed_below bR hb
      have bN7 := boxed_below bN hb
      have bQ7 := boxed_below bQ hb
      have bG7 := boxed_below bG hb
      have hK7 := (hb.block D (Array.getElem?_eq_some_iff.1 hK).1).trans hK
      have hK27 := (hb.block D2 (Array.getElem?_eq_some_iff.1 hK2).1).trans hK2
      clear hb bR bN bQ bG hK hK2 hB
      refine hK_.out _ _ ⟨bQ7.cell, bG7.cell, bN7.cell⟩ (fun hHeld => ?_)
      clear hK_ K
      refine norm_ (a' := ?_) ?_ ?_
      rotate_left
      · show Act.put _ (some 59) _ = _
        simp only [Act.put, List.setIfInBounds_toArray, List.set_cons_zero, List.set_cons_succ, i64_w, i32_w]
        rfl
      refine pure_ (i := 4) (N := some 60) (v := ?_) (a' := ?_) #[true, true, true, true, true, false, false, false, false, false, false, false, false, false] rfl rfl (by kernel_rfl) (fun _ _ _ h => nomatch h.1) (Or.inl ⟨by rfl, ?_⟩) ?_ ?_
      rotate_left
      · intro w'
        go_simp
        with_reducible rfl
      rotate_left
      · simp only [Act.put, List.setIfInBounds_toArray, List.set_cons_zero, List.set_cons_succ, i64_w, i32_w]
        rfl
      refine pure_ (i := 5) (N := some 61) (v := ?_) (a' := ?_) #[true, true, true, true, true, true, false, false, false, false, false, false, false, false] rfl rfl (by kernel_rfl) (fun _ _ _ h => nomatch h.1) (Or.inl ⟨by rfl, ?_⟩) ?_ ?_
      rotate_left
      · intro w'
        go_simp
        with_reducible rfl
      rotate_left
      · simp only [Act.put, List.setIfInBounds_toArray, List.set_cons_zero, List.set_cons_succ, i64_w, i32_w]
        rfl
      refine pure_ (i := 6) (N := some 62) (v := ?_) (a' := ?_) #[true, true, true, true, true, true, true, false, false, false, false, false, false, false] rfl rfl (by kernel_rfl) (fun _ _ _ h => nomatch h.1) (Or.inl ⟨by rfl, ?_⟩) ?_ ?_
      rotate_left
      · intro w'
        go_simp
        with_reducible rfl
      rotate_left
      · simp only [Act.put, List.setIfInBounds_toArray, List.set_cons_zero, List.set_cons_succ, i64_w, i32_w]
        rfl
      refine take_ (i := 7) (N := some 63) (v := ?_) (a' := ?_) #[true, true, true, true, true, true, true, true, false, false, false, false, false, false] rfl rfl (by kernel_rfl) (fun _ _ _ h => nomatch h.1) (Or.inl ⟨by rfl, ?_⟩) hHeld ?_ ?_
      rotate_left
      · rintro w' ⟨s0, s1, s2⟩
        go_simp
        with_reducible rfl
      rotate_left
      · simp only [Act.put, List.setIfInBounds_toArray, List.set_cons_zero, List.set_cons_succ, i64_w, i32_w]
        rfl
      refine take_ (i := 8) (N := some 64) (v := ?_) (a' := ?_) #[true, true, true, true, true, true, true, true, true, false, false, false, false, false] rfl rfl (by kernel_rfl) (fun _ _ _ h => nomatch h.1) (Or.inl ⟨by rfl, ?_⟩) hHeld ?_ ?_
      rotate_left
      · rintro w' ⟨s0, s1, s2⟩
        go_simp
        with_reducible rfl
      rotate_left
      · simp only [Act.put, List.setIfInBounds_toArray, List.set_cons_zero, List.set_cons_succ, i64_w, i32_w]
        rfl
      refine take_ (i := 9) (N := some 65) (v := ?_) (a' := ?_) #[true, true, true, true, true, true, true, true, true, true, false, false, false, false] rfl rfl (by kernel_rfl) (fun _ _ _ h => nomatch h.1) (Or.inl ⟨by rfl, ?_⟩) hHeld ?_ ?_
      rotate_left
      · rintro w' ⟨s0, s1, s2⟩
        go_simp
        with_reducible rfl
      rotate_left
      · simp only [Act.put, List.setIfInBounds_toArray, List.set_cons_zero, List.set_cons_succ, i64_w, i32_w]
        rfl
      refine pure_ (i := 10) (N := some 66) (v := ?_) (a' := ?_) #[true, true, true, true, true, true, true, true, true, true, true, false, false, false] rfl rfl (by kernel_rfl) (fun _ _ _ h => nomatch h.1) (Or.inl ⟨by rfl, ?_⟩) ?_ ?_
      rotate_left
      · intro w'
        go_simp
        with_reducible rfl
      rotate_left
      · simp only [Act.put, List.setIfInBounds_toArray, List.set_cons_zero, List.set_cons_succ, i64_w, i32_w]
        rfl
      refine pure_ (i := 11) (N := some 67) (v := ?_) (a' := ?_) #[true, true, true, true, true, true, true, true, true, true, true, true, false, false] rfl rfl (by kernel_rfl) (fun _ _ _ h => nomatch h.1) (Or.inl ⟨by rfl, ?_⟩) ?_ ?_
      rotate_left
      · intro w'
        go_simp
        with_reducible rfl
      rotate_left
      · simp only [Act.put, List.setIfInBounds_toArray, List.set_cons_zero, List.set_cons_succ, i64_w, i32_w]
        rfl
      refine pure_ (i := 12) (N := some 68) (v := ?_) (a' := ?_) #[true, true, true, true, true, true, true, true, true, true, true, true, true, false] rfl rfl (by kernel_rfl) (fun _ _ _ h => nomatch h.1) (Or.inl ⟨by rfl, ?_⟩) ?_ ?_
      rotate_left
      · intro w'
        go_simp
        with_reducible rfl
      rotate_left
      · simp only [Act.put, List.setIfInBounds_toArray, List.set_cons_zero, List.set_cons_succ, i64_w, i32_w]
        rfl
      refine one_ (i := 13) (N := none) #[true, true, true, true, true, true, true, true, true, true, true, true, true, true] rfl rfl (by kernel_rfl) (by decide) (fun K hK_ => ?_)
      have cR7 := bR7.cell
      have fR7 := bR7.frozen
      refine skip_ (w1 := ?_) (by rfl) rfl ?_ ?_
      rotate_left
      · go_simp
        rfl
      have hle4 := HW4.out
      have bR8 := bR7.set (.bool true)
      have bQ8 := bQ7.other (B' := w.heap.size) (by omega) (.bool true)
      have bG8 := bG7.other (B' := w.heap.size) (by omega) (.bool true)
      have bN8 := bN7.other (B' := w.heap.size) (by omega) (.bool true)
      have ks := KeepsOthers.setCell w7 ⟨w.heap.size, 0, none⟩ (.bool true)
      have hK8 := ks.same D _ hK7 rfl
      have hK28 := ks.same D2 _ hK27 rfl
      have hB8 := hB7.setCell (p := ⟨w.heap.size, 0, none⟩) (Nat.le_refl _) (.bool true)
      refine hK_.out _ _ ⟨bQ8.cell, bG8.cell, bN8.cell⟩ (fun hHeld => ?_)
      clear hK_ K
      refine done_ (by kernel_rfl) ⟨rfl, ?_⟩
      gi_wp2
      all_goals
        have hne : D ≠ D2 := by omega
        have hK9 : ((w7.setCell ⟨w.heap.size, 0, none⟩ (.bool true)).putObj D2 (.deferred none)).heap[D]? = some (.deferred (some [])) := ((grownBy_putObj' (w7.setCell ⟨w.heap.size, 0, none⟩ (.bool true)) D2 (.deferred none)).block D (Array.getElem?_eq_some_iff.1 hK8).1 (fun e => hne (Option.some.inj e))).trans hK8
        refine ⟨by simp, .inl ⟨_, _, rfl, run_takeDeferred hK28, by simp, .inl ⟨_, _, rfl, run_takeDeferred hK9, ?_⟩⟩⟩
        have c9 := cell_kept (cell_kept bR8.cell (grownBy_putObj' _ D2 (.deferred none)) (fun r e => by cases e; exact ⟨_, hK28, rfl⟩)) (grownBy_putObj' _ D (.deferred none)) (fun r e => by cases e; exact ⟨_, hK9, rfl⟩)
        refine ⟨.bool true, by simp [results, Tryd.f4, go_sem, c9], rfl, ?_⟩
        have k1 := belowK_b (w := w) (Nat.le_refl _) (w7.setCell ⟨w.heap.size, 0, none⟩ (.bool true)) D2 _ (.deferred none) (by omega) hK28 rfl rfl
        have k2 := belowK_b (w := w) (Nat.le_refl _) ((w7.setCell ⟨w.heap.size, 0, none⟩ (.bool true)).putObj D2 (.deferred none)) D _ (.deferred none) (by omega) hK9 rfl rfl
        exact (hB8.trans k1).trans k2
  case stop =>
    rintro D c pre W _ ⟨k, _, rfl⟩ h _
    exact absurd (by rw [List.length_range]) h
end Go.Proofs.YtmbfnbnlajchmaaDoor.GrandAll
