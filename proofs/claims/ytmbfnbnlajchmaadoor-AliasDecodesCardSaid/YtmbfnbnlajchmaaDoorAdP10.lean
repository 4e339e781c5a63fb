/- Made by a program of this seat's own (myprint.py, round the kit's print): what the functions compute, and that they do. -/
import Derived.Test.YtmbfnbnlajchmaaDoorAdP0
import Derived.Test.YtmbfnbnlajchmaaDoorAdP2
import Derived.Test.YtmbfnbnlajchmaaDoorAdP3
import Derived.Test.YtmbfnbnlajchmaaDoorAdP4
import Derived.Test.YtmbfnbnlajchmaaDoorAdP5
import Derived.Test.YtmbfnbnlajchmaaDoorAdP9
namespace Go.Proofs.YtmbfnbnlajchmaaDoor.P
open Go.RowKit Go.Proofs.YtmbfnbnlajchmaaDoorW.PrintWords Go.Proofs.YtmbfnbnlajchmaaDoorW.PrintLast Go.Proofs.YtmbfnbnlajchmaaDoorW.PrintMore
attribute [local go_sem] StrOrd.binOp_gtr StrOrd.binOp_leq max2_int min2_int max_two min_two max_three min_three max_four min_four   -- for this text's walks alone
set_option linter.unusedVariables false
set_option linter.unusedSimpArgs false

def ascii_Lower.f (a0 : ByteArray) : Option (ByteArray) := if a0.size ≤ 140737488351232 then some (strOfNums (Each.eachF Each.lowF a0)) else none
theorem ascii_Lower.calls (a0 : ByteArray) (r : ByteArray) (w : World) (h : ascii_Lower.f a0 = some r) :
    Calls Tryd.prog 65 #[.string a0] w fun e w' => e = .returned (.string r) ∧ Below w.heap.size w w' := by
  unfold ascii_Lower.f at h
  by_cases hs : a0.size ≤ 140737488351232
  · rw [if_pos hs] at h
    obtain rfl := Option.some.inj h
    exact Each.case_low a0 w hs
  · rw [if_neg hs] at h
    cases h

def alias_Right.g : List ByteArray → Option Bool
  | [] => some true
  | s :: l => (ascii_Lower.f s).bind fun t => (if s.toList = t.toList then (alias_Right.g l) else (some false))
def alias_Right.m (k : Nat) (a0_0 : Int) (a0_1 : ByteArray) (a0_2 : ByteArray) (a0_3 : ByteArray) (a0_4 : ByteArray) (a0_5 : ByteArray) : Option Bool := (if a0_0 = 1 then (alias_rule_1.f k a0_0 a0_1 a0_2 a0_3 a0_4 a0_5) else (if a0_0 = 2 then (alias_rule_2.f k a0_0 a0_1 a0_2 a0_3 a0_4 a0_5) else (if a0_0 = 3 then (alias_rule_3.f k a0_0 a0_1 a0_2 a0_3 a0_4 a0_5) else (if a0_0 = 4 then (alias_rule_4.f k a0_0 a0_1 a0_2 a0_3 a0_4 a0_5) else (if a0_0 = 5 then (alias_rule_5.f k a0_0 a0_1 a0_2 a0_3 a0_4 a0_5) else (if a0_0 = 6 then (alias_rule_6.f k a0_0 a0_1 a0_2 a0_3 a0_4 a0_5) else (if a0_0 = 7 then (alias_rule_7.f k a0_0 a0_1 a0_2 a0_3 a0_4 a0_5) else (some false))))))))
def alias_Right.f (k : Nat) (a0_0 : Int) (a0_1 : ByteArray) (a0_2 : ByteArray) (a0_3 : ByteArray) (a0_4 : ByteArray) (a0_5 : ByteArray) : Option (Bool) := (alias_Right.g [a0_1, a0_2, a0_3, a0_4, a0_5]).bind fun b => (if b = true then (alias_Right.m k a0_0 a0_1 a0_2 a0_3 a0_4 a0_5) else (some false))
theorem alias_Right.cut (T : List ByteArray) (i : Nat) (s : ByteArray) (h : T[i]? = some s) : T.drop i = s :: T.drop (i + 1) := by
  obtain ⟨hl, e⟩ := List.getElem?_eq_some_iff.1 h
  rw [List.drop_eq_getElem_cons hl, e]
set_option maxHeartbeats 4000000 in
set_option maxRecDepth 100000 in
theorem alias_Right.calls (k : Nat) (a0_0 : Int) (a0_1 : ByteArray) (a0_2 : ByteArray) (a0_3 : ByteArray) (a0_4 : ByteArray) (a0_5 : ByteArray) (r : Bool) (w : World) (h : alias_Right.f k a0_0 a0_1 a0_2 a0_3 a0_4 a0_5 = some r) (hG : GrandW.G w) :
    Calls Tryd.prog 35 #[.agg #[.int .i64 a0_0, .string a0_1, .string a0_2, .string a0_3, .string a0_4, .string a0_5]] w fun e w' => e = .returned (.bool r) ∧ Below w.heap.size w w' := by
  have HG := Aside0.mk hG
  clear hG
  unfold alias_Right.f at h
  obtain ⟨b, hb, H0⟩ := Option.bind_eq_some_iff.mp h
  clear h
  have HGL := Aside0.mk hb
  have HM := Aside0.mk H0
  clear hb H0
  obtain ⟨T, hT⟩ : ∃ T : List ByteArray, T = [a0_1, a0_2, a0_3, a0_4, a0_5] := ⟨_, rfl⟩
  rw [← hT] at HGL
  have hu := Tryd.underlying50
  have hcells : ∀ (i : Nat) (s : ByteArray), T[i]? = some s → (#[.int .i64 a0_0, .string a0_1, .string a0_2, .string a0_3, .string a0_4, .string a0_5] : Array Value)[i + 1]? = some (.string s) := by
    intro i s hs
    rw [hT] at hs
    match i, hs with
    | 0, hs => exact congrArg (Option.map Value.string) hs
    | 1, hs => exact congrArg (Option.map Value.string) hs
    | 2, hs => exact congrArg (Option.map Value.string) hs
    | 3, hs => exact congrArg (Option.map Value.string) hs
    | 4, hs => exact congrArg (Option.map Value.string) hs
    | i + 5, hs => simp at hs
  have HC := Aside0.mk hcells
  have hT5 : T.length = 5 := by rw [hT]; rfl
  clear hcells hT
  go_enter Tryd.func35, Tryd.ntmps35
  have BK0 : (w.alloc (.cells #[.int .i64 a0_0, .string a0_1, .string a0_2, .string a0_3, .string a0_4, .string a0_5] 50)).heap[w.heap.size]? = some (.cells #[.int .i64 a0_0, .string a0_1, .string a0_2, .string a0_3, .string a0_4, .string a0_5] 50 (0, 0)) := World.alloc_heap_new w _
  have HB0 : Below w.heap.size w (w.alloc (.cells #[.int .i64 a0_0, .string a0_1, .string a0_2, .string a0_3, .string a0_4, .string a0_5] 50)) := (Below.refl _ w).alloc (Nat.le_refl _) _
  have BK := Aside0.mk BK0
  have HB := Aside0.mk HB0
  clear BK0 HB0
  go_wp2_with (go_at_call 64; refine (AliasW.fields_calls w.heap.size _).mono ?_; rintro e w1 ⟨rfl, hb⟩; have n0_ := Aside0.mk (blk_below BK.out hb); have n1_ := Aside0.mk (below_step HB.out hb); clear BK HB hb; have BK := n0_; have HB := n1_; clear n0_ n1_)
  go_loopw [7] (fun vi wr => ∃ i : Nat, vi = .int .i64 (i : Int) ∧ i ≤ 5 ∧ Aside0 (alias_Right.g (T.drop i) = some b) ∧ Aside0 (wr.heap[w.heap.size]? = some (.cells #[.int .i64 a0_0, .string a0_1, .string a0_2, .string a0_3, .string a0_4, .string a0_5] 50 (0, 0))) ∧ Aside0 (Below w.heap.size w wr)) (fun vi _ => 5 - (intOf vi).toNat)
  case atStart => exact ⟨0, rfl, by omega, ⟨HGL.out⟩, BK, HB⟩
  case round =>
    clear BK HB HGL
    obtain ⟨i, rfl, hi, HGL, BK, HB⟩ := hrel
    by_cases hlt : i < 5
    · obtain ⟨s, hs⟩ : ∃ s, T[i]? = some s := ⟨_, List.getElem?_eq_getElem (by omega)⟩
      have hcell : ∀ W : World, W.heap[w.heap.size]? = some (.cells #[.int .i64 a0_0, .string a0_1, .string a0_2, .string a0_3, .string a0_4, .string a0_5] 50 (0, 0)) → W.cell? ⟨w.heap.size, i + 1, none⟩ = some (.string s) := fun W hW => (blk_cell hW (i + 1)).trans (HC.out i s hs)
      have hg := HGL.out
      rw [alias_Right.cut T i s hs] at hg
      unfold alias_Right.g at hg
      obtain ⟨t, ht, hg⟩ := Option.bind_eq_some_iff.mp hg
      have AT := Aside0.mk ht
      have HG2 := Aside0.mk hg
      clear ht hg HGL hs
      have hix := fun W => AliasW.ptr_at w.heap.size W i hlt
      have d1 : decide ((i : Int) < 5) = true := decide_eq_true (by omega)
      go_wp2
      refine start_ (n := 8) (S := fun u_ => u_.cell? ⟨w.heap.size, i + 1, none⟩ = some (.string s)) (ds := []) #[false, false, false, false, false, false, false, false] (by kernel_rfl) rfl rfl (hcell wr BK.out) (fun hHeld => ?_)
      have n0_ : Aside0 (wr.drew.heap[w.heap.size]? = some (.cells #[.int .i64 a0_0, .string a0_1, .string a0_2, .string a0_3, .string a0_4, .string a0_5] 50 (0, 0))) := ⟨BK.out⟩
      have n1_ : Aside0 (Below w.heap.size w wr.drew) := ⟨below_drew1 HB.out⟩
      clear BK HB
      have BK := n0_
      have HB := n1_
      clear n0_ n1_
      generalize wr.drew = w6 at BK HB hHeld ⊢
      by_cases hq : s.toList = t.toList
      · have e1 : (s.toList != t.toList) = false := bne_eq_false_iff_eq.mpr hq
        have e2 : (s.toList == t.toList) = true := beq_iff_eq.mpr hq
        have hg := HG2.out
        rw [if_pos hq] at hg
        have HGL := Aside0.mk hg
        clear hg hq
        refine pure_ (i := 0) (N := some 10) (v := ?_) (a' := ?_) #[true, false, false, false, false, false, false, false] rfl rfl (by kernel_rfl) (fun _ _ _ h => h) (Or.inl ⟨by rfl, ?_⟩) ?_ ?_
        rotate_left
        · intro w'
          go_simp
          with_reducible rfl
        rotate_left
        · simp only [Act.put, List.setIfInBounds_toArray, List.set_cons_zero, List.set_cons_succ, i64_w, i32_w]
          rfl
        refine pure_ (i := 1) (N := some 11) (v := ?_) (a' := ?_) #[true, true, false, false, false, false, false, false] rfl rfl (by kernel_rfl) (fun _ _ _ h => h) (Or.inl ⟨by rfl, ?_⟩) ?_ ?_
        rotate_left
        · intro w'
          go_simp
          with_reducible rfl
        rotate_left
        · simp only [Act.put, List.setIfInBounds_toArray, List.set_cons_zero, List.set_cons_succ, i64_w, i32_w]
          rfl
        refine take_ (i := 2) (N := some 12) (v := ?_) (a' := ?_) #[true, true, true, false, false, false, false, false] rfl rfl (by kernel_rfl) (fun _ _ _ h => h) (Or.inl ⟨by rfl, ?_⟩) hHeld ?_ ?_
        rotate_left
        · intro w' s0
          go_simp
          with_reducible rfl
        rotate_left
        · simp only [Act.put, List.setIfInBounds_toArray, List.set_cons_zero, List.set_cons_succ, i64_w, i32_w]
          rfl
        refine pure_ (i := 3) (N := some 13) (v := ?_) (a' := ?_) #[true, true, true, true, false, false, false, false] rfl rfl (by kernel_rfl) (fun _ _ _ h => h) (Or.inl ⟨by rfl, ?_⟩) ?_ ?_
        rotate_left
        · intro w'
          go_simp
          with_reducible rfl
        rotate_left
        · simp only [Act.put, List.setIfInBounds_toArray, List.set_cons_zero, List.set_cons_succ, i64_w, i32_w]
          rfl
        refine pure_ (i := 4) (N := some 14) (v := ?_) (a' := ?_) #[true, true, true, true, true, false, false, false] rfl rfl (by kernel_rfl) (fun _ _ _ h => h) (Or.inl ⟨by rfl, ?_⟩) ?_ ?_
        rotate_left
        · intro w'
          go_simp
          with_reducible rfl
        rotate_left
        · simp only [Act.put, List.setIfInBounds_toArray, List.set_cons_zero, List.set_cons_succ, i64_w, i32_w]
          rfl
        refine take_ (i := 5) (N := some 15) (v := ?_) (a' := ?_) #[true, true, true, true, true, true, false, false] rfl rfl (by kernel_rfl) (fun _ _ _ h => h) (Or.inl ⟨by rfl, ?_⟩) hHeld ?_ ?_
        rotate_left
        · intro w' s0
          go_simp
          with_reducible rfl
        rotate_left
        · simp only [Act.put, List.setIfInBounds_toArray, List.set_cons_zero, List.set_cons_succ, i64_w, i32_w]
          rfl
        refine one_ (i := 6) (N := some 16) #[true, true, true, true, true, true, true, false] rfl rfl (by kernel_rfl) (by decide) (fun K hK_ => ?_)
        refine goes_ Tryd.func65 (by kernel_rfl) rfl #[.string s] (by rfl) rfl rfl (by (try simp only [List.map_toArray, List.map_cons, List.map_nil]); first | done | rfl) ?_
        with_reducible refine (ascii_Lower.calls s t _ AT.out).mono ?_
        rintro e w7 ⟨rfl, hb⟩
        refine ⟨_, rfl, ?_⟩
        have n0_ := Aside0.mk (blk_below BK.out hb)
        have n1_ := Aside0.mk (below_step HB.out hb)
        clear BK HB hb
        have BK := n0_
        have HB := n1_
        clear n0_ n1_
        refine hK_.out _ _ (hcell w7 BK.out) (fun hHeld => ?_)
        clear hK_ K
        refine norm_ (a' := ?_) ?_ ?_
        rotate_left
        · show Act.put _ (some 16) _ = _
          simp only [Act.put, List.setIfInBounds_toArray, List.set_cons_zero, List.set_cons_succ, i64_w, i32_w]
          rfl
        refine pure_ (i := 7) (N := some 17) (v := ?_) (a' := ?_) #[true, true, true, true, true, true, true, true] rfl rfl (by kernel_rfl) (fun _ _ _ h => h) (Or.inl ⟨by rfl, ?_⟩) ?_ ?_
        rotate_left
        · intro w'
          go_simp
          with_reducible rfl
        rotate_left
        · simp only [Act.put, List.setIfInBounds_toArray, List.set_cons_zero, List.set_cons_succ, i64_w, i32_w]
          rfl
        refine done_ (by kernel_rfl) ?_
        go_wp2
        go_roundw
        case rel => exact ⟨i + 1, by simp, by omega, HGL, BK, HB⟩
        case measure => simp [intOf]; omega
      · have e1 : (s.toList != t.toList) = true := bne_iff_ne.mpr hq
        have e2 : (s.toList == t.toList) = false := beq_eq_false_iff_ne.mpr hq
        have hg := HG2.out
        rw [if_neg hq] at hg
        obtain rfl := Option.some.inj hg
        have hr := HM.out
        rw [if_neg (by decide)] at hr
        obtain rfl := Option.some.inj hr
        clear hg hq hr
        refine pure_ (i := 0) (N := some 10) (v := ?_) (a' := ?_) #[true, false, false, false, false, false, false, false] rfl rfl (by kernel_rfl) (fun _ _ _ h => h) (Or.inl ⟨by rfl, ?_⟩) ?_ ?_
        rotate_left
        · intro w'
          go_simp
          with_reducible rfl
        rotate_left
        · simp only [Act.put, List.setIfInBounds_toArray, List.set_cons_zero, List.set_cons_succ, i64_w, i32_w]
          rfl
        refine pure_ (i := 1) (N := some 11) (v := ?_) (a' := ?_) #[true, true, false, false, false, false, false, false] rfl rfl (by kernel_rfl) (fun _ _ _ h => h) (Or.inl ⟨by rfl, ?_⟩) ?_ ?_
        rotate_left
        · intro w'
          go_simp
          with_reducible rfl
        rotate_left
        · simp only [Act.put, List.setIfInBounds_toArray, List.set_cons_zero, List.set_cons_succ, i64_w, i32_w]
          rfl
        refine take_ (i := 2) (N := some 12) (v := ?_) (a' := ?_) #[true, true, true, false, false, false, false, false] rfl rfl (by kernel_rfl) (fun _ _ _ h => h) (Or.inl ⟨by rfl, ?_⟩) hHeld ?_ ?_
        rotate_left
        · intro w' s0
          go_simp
          with_reducible rfl
        rotate_left
        · simp only [Act.put, List.setIfInBounds_toArray, List.set_cons_zero, List.set_cons_succ, i64_w, i32_w]
          rfl
        refine pure_ (i := 3) (N := some 13) (v := ?_) (a' := ?_) #[true, true, true, true, false, false, false, false] rfl rfl (by kernel_rfl) (fun _ _ _ h => h) (Or.inl ⟨by rfl, ?_⟩) ?_ ?_
        rotate_left
        · intro w'
          go_simp
          with_reducible rfl
        rotate_left
        · simp only [Act.put, List.setIfInBounds_toArray, List.set_cons_zero, List.set_cons_succ, i64_w, i32_w]
          rfl
        refine pure_ (i := 4) (N := some 14) (v := ?_) (a' := ?_) #[true, true, true, true, true, false, false, false] rfl rfl (by kernel_rfl) (fun _ _ _ h => h) (Or.inl ⟨by rfl, ?_⟩) ?_ ?_
        rotate_left
        · intro w'
          go_simp
          with_reducible rfl
        rotate_left
        · simp only [Act.put, List.setIfInBounds_toArray, List.set_cons_zero, List.set_cons_succ, i64_w, i32_w]
          rfl
        refine take_ (i := 5) (N := some 15) (v := ?_) (a' := ?_) #[true, true, true, true, true, true, false, false] rfl rfl (by kernel_rfl) (fun _ _ _ h => h) (Or.inl ⟨by rfl, ?_⟩) hHeld ?_ ?_
        rotate_left
        · intro w' s0
          go_simp
          with_reducible rfl
        rotate_left
        · simp only [Act.put, List.setIfInBounds_toArray, List.set_cons_zero, List.set_cons_succ, i64_w, i32_w]
          rfl
        refine one_ (i := 6) (N := some 16) #[true, true, true, true, true, true, true, false] rfl rfl (by kernel_rfl) (by decide) (fun K hK_ => ?_)
        refine goes_ Tryd.func65 (by kernel_rfl) rfl #[.string s] (by rfl) rfl rfl (by (try simp only [List.map_toArray, List.map_cons, List.map_nil]); first | done | rfl) ?_
        with_reducible refine (ascii_Lower.calls s t _ AT.out).mono ?_
        rintro e w7 ⟨rfl, hb⟩
        refine ⟨_, rfl, ?_⟩
        have n0_ := Aside0.mk (blk_below BK.out hb)
        have n1_ := Aside0.mk (below_step HB.out hb)
        clear BK HB hb
        have BK := n0_
        have HB := n1_
        clear n0_ n1_
        refine hK_.out _ _ (hcell w7 BK.out) (fun hHeld => ?_)
        clear hK_ K
        refine norm_ (a' := ?_) ?_ ?_
        rotate_left
        · show Act.put _ (some 16) _ = _
          simp only [Act.put, List.setIfInBounds_toArray, List.set_cons_zero, List.set_cons_succ, i64_w, i32_w]
          rfl
        refine pure_ (i := 7) (N := some 17) (v := ?_) (a' := ?_) #[true, true, true, true, true, true, true, true] rfl rfl (by kernel_rfl) (fun _ _ _ h => h) (Or.inl ⟨by rfl, ?_⟩) ?_ ?_
        rotate_left
        · intro w'
          go_simp
          with_reducible rfl
        rotate_left
        · simp only [Act.put, List.setIfInBounds_toArray, List.set_cons_zero, List.set_cons_succ, i64_w, i32_w]
          rfl
        refine done_ (by kernel_rfl) ?_
        go_wp2
        go_ret
        exact ⟨rfl, HB.out⟩
    · obtain rfl : i = 5 := by omega
      have hg := HGL.out
      rw [List.drop_of_length_le (by omega)] at hg
      obtain rfl := Option.some.inj hg
      have hm := HM.out
      rw [if_pos rfl] at hm
      unfold alias_Right.m at hm
      clear hg
      have cc0 := (blk_cell BK.out 0)
      clear HM
      by_cases h1 : a0_0 = 1
      · have er : AliasW.ruleV a0_0 = .func (.func 92) #[] #[] := by unfold AliasW.ruleV; rw [if_pos h1]
        rw [if_pos h1] at hm
        have HM := Aside0.mk hm
        have hnn : ∀ W : World, (binOp .neq 54 (.func (.func 92) #[] #[]) .nilFunc).run Tryd.prog W = .ok (.bool true) W := fun _ => by kernel_rfl
        clear hm h1
        go_wp2_with (first | (go_at_call 66; refine (AliasW.rule_calls a0_0 _).mono ?_; rintro e w8 ⟨he, hb⟩; rw [er] at he; subst he; have n0_ := Aside0.mk (blk_below BK.out hb); have n1_ := Aside0.mk (below_step HB.out hb); clear BK HB hb; have BK := n0_; have HB := n1_; clear n0_ n1_; have cz0 : w8.cell? ⟨w.heap.size, 0, none⟩ = some (.int .i64 a0_0) := (blk_cell BK.out 0).trans rfl; have cz1 : w8.cell? ⟨w.heap.size, 1, none⟩ = some (.string a0_1) := (blk_cell BK.out 1).trans rfl; have cz2 : w8.cell? ⟨w.heap.size, 2, none⟩ = some (.string a0_2) := (blk_cell BK.out 2).trans rfl; have cz3 : w8.cell? ⟨w.heap.size, 3, none⟩ = some (.string a0_3) := (blk_cell BK.out 3).trans rfl; have cz4 : w8.cell? ⟨w.heap.size, 4, none⟩ = some (.string a0_4) := (blk_cell BK.out 4).trans rfl; have cz5 : w8.cell? ⟨w.heap.size, 5, none⟩ = some (.string a0_5) := (blk_cell BK.out 5).trans rfl) | (go_at_call 92; refine (alias_rule_1.calls k a0_0 a0_1 a0_2 a0_3 a0_4 a0_5 r _ HM.out (by repeat (first | exact HG.out | exact GrandW.G.below HG.out HB.out | apply GrandW.G.alloc | apply GrandW.G.drewN | apply GrandW.G.drew))).mono ?_; rintro e w9 ⟨rfl, hb⟩; have n1_ := Aside0.mk (below_step HB.out hb); clear HB hb; have HB := n1_; clear n1_))
        go_ret
        exact ⟨rfl, HB.out⟩
      by_cases h2 : a0_0 = 2
      · have er : AliasW.ruleV a0_0 = .func (.func 96) #[] #[] := by unfold AliasW.ruleV; rw [if_neg h1, if_pos h2]
        rw [if_neg h1, if_pos h2] at hm
        have HM := Aside0.mk hm
        have hnn : ∀ W : World, (binOp .neq 54 (.func (.func 96) #[] #[]) .nilFunc).run Tryd.prog W = .ok (.bool true) W := fun _ => by kernel_rfl
        clear hm h1 h2
        go_wp2_with (first | (go_at_call 66; refine (AliasW.rule_calls a0_0 _).mono ?_; rintro e w8 ⟨he, hb⟩; rw [er] at he; subst he; have n0_ := Aside0.mk (blk_below BK.out hb); have n1_ := Aside0.mk (below_step HB.out hb); clear BK HB hb; have BK := n0_; have HB := n1_; clear n0_ n1_; have cz0 : w8.cell? ⟨w.heap.size, 0, none⟩ = some (.int .i64 a0_0) := (blk_cell BK.out 0).trans rfl; have cz1 : w8.cell? ⟨w.heap.size, 1, none⟩ = some (.string a0_1) := (blk_cell BK.out 1).trans rfl; have cz2 : w8.cell? ⟨w.heap.size, 2, none⟩ = some (.string a0_2) := (blk_cell BK.out 2).trans rfl; have cz3 : w8.cell? ⟨w.heap.size, 3, none⟩ = some (.string a0_3) := (blk_cell BK.out 3).trans rfl; have cz4 : w8.cell? ⟨w.heap.size, 4, none⟩ = some (.string a0_4) := (blk_cell BK.out 4).trans rfl; have cz5 : w8.cell? ⟨w.heap.size, 5, none⟩ = some (.string a0_5) := (blk_cell BK.out 5).trans rfl) | (go_at_call 96; refine (alias_rule_2.calls k a0_0 a0_1 a0_2 a0_3 a0_4 a0_5 r _ HM.out).mono ?_; rintro e w9 ⟨rfl, hb⟩; have n1_ := Aside0.mk (below_step HB.out hb); clear HB hb; have HB := n1_; clear n1_))
        go_ret
        exact ⟨rfl, HB.out⟩
      by_cases h3 : a0_0 = 3
      · have er : AliasW.ruleV a0_0 = .func (.func 99) #[] #[] := by unfold AliasW.ruleV; rw [if_neg h1, if_neg h2, if_pos h3]
        rw [if_neg h1, if_neg h2, if_pos h3] at hm
        have HM := Aside0.mk hm
        have hnn : ∀ W : World, (binOp .neq 54 (.func (.func 99) #[] #[]) .nilFunc).run Tryd.prog W = .ok (.bool true) W := fun _ => by kernel_rfl
        clear hm h1 h2 h3
        go_wp2_with (first | (go_at_call 66; refine (AliasW.rule_calls a0_0 _).mono ?_; rintro e w8 ⟨he, hb⟩; rw [er] at he; subst he; have n0_ := Aside0.mk (blk_below BK.out hb); have n1_ := Aside0.mk (below_step HB.out hb); clear BK HB hb; have BK := n0_; have HB := n1_; clear n0_ n1_; have cz0 : w8.cell? ⟨w.heap.size, 0, none⟩ = some (.int .i64 a0_0) := (blk_cell BK.out 0).trans rfl; have cz1 : w8.cell? ⟨w.heap.size, 1, none⟩ = some (.string a0_1) := (blk_cell BK.out 1).trans rfl; have cz2 : w8.cell? ⟨w.heap.size, 2, none⟩ = some (.string a0_2) := (blk_cell BK.out 2).trans rfl; have cz3 : w8.cell? ⟨w.heap.size, 3, none⟩ = some (.string a0_3) := (blk_cell BK.out 3).trans rfl; have cz4 : w8.cell? ⟨w.heap.size, 4, none⟩ = some (.string a0_4) := (blk_cell BK.out 4).trans rfl; have cz5 : w8.cell? ⟨w.heap.size, 5, none⟩ = some (.string a0_5) := (blk_cell BK.out 5).trans rfl) | (go_at_call 99; refine (alias_rule_3.calls k a0_0 a0_1 a0_2 a0_3 a0_4 a0_5 r _ HM.out).mono ?_; rintro e w9 ⟨rfl, hb⟩; have n1_ := Aside0.mk (below_step HB.out hb); clear HB hb; have HB := n1_; clear n1_))
        go_ret
        exact ⟨rfl, HB.out⟩
      by_cases h4 : a0_0 = 4
      · have er : AliasW.ruleV a0_0 = .func (.func 100) #[] #[] := by unfold AliasW.ruleV; rw [if_neg h1, if_neg h2, if_neg h3, if_pos h4]
        rw [if_neg h1, if_neg h2, if_neg h3, if_pos h4] at hm
        have HM := Aside0.mk hm
        have hnn : ∀ W : World, (binOp .neq 54 (.func (.func 100) #[] #[]) .nilFunc).run Tryd.prog W = .ok (.bool true) W := fun _ => by kernel_rfl
        clear hm h1 h2 h3 h4
        go_wp2_with (first | (go_at_call 66; refine (AliasW.rule_calls a0_0 _).mono ?_; rintro e w8 ⟨he, hb⟩; rw [er] at he; subst he; have n0_ := Aside0.mk (blk_below BK.out hb); have n1_ := Aside0.mk (below_step HB.out hb); clear BK HB hb; have BK := n0_; have HB := n1_; clear n0_ n1_; have cz0 : w8.cell? ⟨w.heap.size, 0, none⟩ = some (.int .i64 a0_0) := (blk_cell BK.out 0).trans rfl; have cz1 : w8.cell? ⟨w.heap.size, 1, none⟩ = some (.string a0_1) := (blk_cell BK.out 1).trans rfl; have cz2 : w8.cell? ⟨w.heap.size, 2, none⟩ = some (.string a0_2) := (blk_cell BK.out 2).trans rfl; have cz3 : w8.cell? ⟨w.heap.size, 3, none⟩ = some (.string a0_3) := (blk_cell BK.out 3).trans rfl; have cz4 : w8.cell? ⟨w.heap.size, 4, none⟩ = some (.string a0_4) := (blk_cell BK.out 4).trans rfl; have cz5 : w8.cell? ⟨w.heap.size, 5, none⟩ = some (.string a0_5) := (blk_cell BK.out 5).trans rfl) | (go_at_call 100; refine (alias_rule_4.calls k a0_0 a0_1 a0_2 a0_3 a0_4 a0_5 r _ HM.out).mono ?_; rintro e w9 ⟨rfl, hb⟩; have n1_ := Aside0.mk (below_step HB.out hb); clear HB hb; have HB := n1_; clear n1_))
        go_ret
        exact ⟨rfl, HB.out⟩
      by_cases h5 : a0_0 = 5
      · have er : AliasW.ruleV a0_0 = .func (.func 102) #[] #[] := by unfold AliasW.ruleV; rw [if_neg h1, if_neg h2, if_neg h3, if_neg h4, if_pos h5]
        rw [if_neg h1, if_neg h2, if_neg h3, if_neg h4, if_pos h5] at hm
        have HM := Aside0.mk hm
        have hnn : ∀ W : World, (binOp .neq 54 (.func (.func 102) #[] #[]) .nilFunc).run Tryd.prog W = .ok (.bool true) W := fun _ => by kernel_rfl
        clear hm h1 h2 h3 h4 h5
        go_wp2_with (first | (go_at_call 66; refine (AliasW.rule_calls a0_0 _).mono ?_; rintro e w8 ⟨he, hb⟩; rw [er] at he; subst he; have n0_ := Aside0.mk (blk_below BK.out hb); have n1_ := Aside0.mk (below_step HB.out hb); clear BK HB hb; have BK := n0_; have HB := n1_; clear n0_ n1_; have cz0 : w8.cell? ⟨w.heap.size, 0, none⟩ = some (.int .i64 a0_0) := (blk_cell BK.out 0).trans rfl; have cz1 : w8.cell? ⟨w.heap.size, 1, none⟩ = some (.string a0_1) := (blk_cell BK.out 1).trans rfl; have cz2 : w8.cell? ⟨w.heap.size, 2, none⟩ = some (.string a0_2) := (blk_cell BK.out 2).trans rfl; have cz3 : w8.cell? ⟨w.heap.size, 3, none⟩ = some (.string a0_3) := (blk_cell BK.out 3).trans rfl; have cz4 : w8.cell? ⟨w.heap.size, 4, none⟩ = some (.string a0_4) := (blk_cell BK.out 4).trans rfl; have cz5 : w8.cell? ⟨w.heap.size, 5, none⟩ = some (.string a0_5) := (blk_cell BK.out 5).trans rfl) | (go_at_call 102; refine (alias_rule_5.calls k a0_0 a0_1 a0_2 a0_3 a0_4 a0_5 r _ HM.out).mono ?_; rintro e w9 ⟨rfl, hb⟩; have n1_ := Aside0.mk (below_step HB.out hb); clear HB hb; have HB := n1_; clear n1_))
        go_ret
        exact ⟨rfl, HB.out⟩
      by_cases h6 : a0_0 = 6
      · have er : AliasW.ruleV a0_0 = .func (.func 103) #[] #[] := by unfold AliasW.ruleV; rw [if_neg h1, if_neg h2, if_neg h3, if_neg h4, if_neg h5, if_pos h6]
        rw [if_neg h1, if_neg h2, if_neg h3, if_neg h4, if_neg h5, if_pos h6] at hm
        have HM := Aside0.mk hm
        have hnn : ∀ W : World, (binOp .neq 54 (.func (.func 103) #[] #[]) .nilFunc).run Tryd.prog W = .ok (.bool true) W := fun _ => by kernel_rfl
        clear hm h1 h2 h3 h4 h5 h6
        go_wp2_with (first | (go_at_call 66; refine (AliasW.rule_calls a0_0 _).mono ?_; rintro e w8 ⟨he, hb⟩; rw [er] at he; subst he; have n0_ := Aside0.mk (blk_below BK.out hb); have n1_ := Aside0.mk (below_step HB.out hb); clear BK HB hb; have BK := n0_; have HB := n1_; clear n0_ n1_; have cz0 : w8.cell? ⟨w.heap.size, 0, none⟩ = some (.int .i64 a0_0) := (blk_cell BK.out 0).trans rfl; have cz1 : w8.cell? ⟨w.heap.size, 1, none⟩ = some (.string a0_1) := (blk_cell BK.out 1).trans rfl; have cz2 : w8.cell? ⟨w.heap.size, 2, none⟩ = some (.string a0_2) := (blk_cell BK.out 2).trans rfl; have cz3 : w8.cell? ⟨w.heap.size, 3, none⟩ = some (.string a0_3) := (blk_cell BK.out 3).trans rfl; have cz4 : w8.cell? ⟨w.heap.size, 4, none⟩ = some (.string a0_4) := (blk_cell BK.out 4).trans rfl; have cz5 : w8.cell? ⟨w.heap.size, 5, none⟩ = some (.string a0_5) := (blk_cell BK.out 5).trans rfl) | (go_at_call 103; refine (alias_rule_6.calls k a0_0 a0_1 a0_2 a0_3 a0_4 a0_5 r _ HM.out).mono ?_; rintro e w9 ⟨rfl, hb⟩; have n1_ := Aside0.mk (below_step HB.out hb); clear HB hb; have HB := n1_; clear n1_))
        go_ret
        exact ⟨rfl, HB.out⟩
      by_cases h7 : a0_0 = 7
      · have er : AliasW.ruleV a0_0 = .func (.func 105) #[] #[] := by unfold AliasW.ruleV; rw [if_neg h1, if_neg h2, if_neg h3, if_neg h4, if_neg h5, if_neg h6, if_pos h7]
        rw [if_neg h1, if_neg h2, if_neg h3, if_neg h4, if_neg h5, if_neg h6, if_pos h7] at hm
        have HM := Aside0.mk hm
        have hnn : ∀ W : World, (binOp .neq 54 (.func (.func 105) #[] #[]) .nilFunc).run Tryd.prog W = .ok (.bool true) W := fun _ => by kernel_rfl
        clear hm h1 h2 h3 h4 h5 h6 h7
        go_wp2_with (first | (go_at_call 66; refine (AliasW.rule_calls a0_0 _).mono ?_; rintro e w8 ⟨he, hb⟩; rw [er] at he; subst he; have n0_ := Aside0.mk (blk_below BK.out hb); have n1_ := Aside0.mk (below_step HB.out hb); clear BK HB hb; have BK := n0_; have HB := n1_; clear n0_ n1_; have cz0 : w8.cell? ⟨w.heap.size, 0, none⟩ = some (.int .i64 a0_0) := (blk_cell BK.out 0).trans rfl; have cz1 : w8.cell? ⟨w.heap.size, 1, none⟩ = some (.string a0_1) := (blk_cell BK.out 1).trans rfl; have cz2 : w8.cell? ⟨w.heap.size, 2, none⟩ = some (.string a0_2) := (blk_cell BK.out 2).trans rfl; have cz3 : w8.cell? ⟨w.heap.size, 3, none⟩ = some (.string a0_3) := (blk_cell BK.out 3).trans rfl; have cz4 : w8.cell? ⟨w.heap.size, 4, none⟩ = some (.string a0_4) := (blk_cell BK.out 4).trans rfl; have cz5 : w8.cell? ⟨w.heap.size, 5, none⟩ = some (.string a0_5) := (blk_cell BK.out 5).trans rfl) | (go_at_call 105; refine (alias_rule_7.calls k a0_0 a0_1 a0_2 a0_3 a0_4 a0_5 r _ HM.out).mono ?_; rintro e w9 ⟨rfl, hb⟩; have n1_ := Aside0.mk (below_step HB.out hb); clear HB hb; have HB := n1_; clear n1_))
        go_ret
        exact ⟨rfl, HB.out⟩
      have er : AliasW.ruleV a0_0 = .nilFunc := by unfold AliasW.ruleV; rw [if_neg h1, if_neg h2, if_neg h3, if_neg h4, if_neg h5, if_neg h6, if_neg h7]
      rw [if_neg h1, if_neg h2, if_neg h3, if_neg h4, if_neg h5, if_neg h6, if_neg h7] at hm
      obtain rfl := Option.some.inj hm
      have hnn : ∀ W : World, (binOp .neq 54 .nilFunc .nilFunc).run Tryd.prog W = .ok (.bool false) W := fun _ => by kernel_rfl
      clear hm h1 h2 h3 h4 h5 h6 h7
      go_wp2_with (go_at_call 66; refine (AliasW.rule_calls a0_0 _).mono ?_; rintro e w8 ⟨he, hb⟩; rw [er] at he; subst he; have n0_ := Aside0.mk (blk_below BK.out hb); have n1_ := Aside0.mk (below_step HB.out hb); clear BK HB hb; have BK := n0_; have HB := n1_; clear n0_ n1_; have cz0 : w8.cell? ⟨w.heap.size, 0, none⟩ = some (.int .i64 a0_0) := (blk_cell BK.out 0).trans rfl; have cz1 : w8.cell? ⟨w.heap.size, 1, none⟩ = some (.string a0_1) := (blk_cell BK.out 1).trans rfl; have cz2 : w8.cell? ⟨w.heap.size, 2, none⟩ = some (.string a0_2) := (blk_cell BK.out 2).trans rfl; have cz3 : w8.cell? ⟨w.heap.size, 3, none⟩ = some (.string a0_3) := (blk_cell BK.out 3).trans rfl; have cz4 : w8.cell? ⟨w.heap.size, 4, none⟩ = some (.string a0_4) := (blk_cell BK.out 4).trans rfl; have cz5 : w8.cell? ⟨w.heap.size, 5, none⟩ = some (.string a0_5) := (blk_cell BK.out 5).trans rfl)
      go_ret
      exact ⟨rfl, HB.out⟩

end Go.Proofs.YtmbfnbnlajchmaaDoor.P
