/- likely.rows, walked: the first row of each key. -/
import Derived.Test.YtdjbanhoejegjaaDqLikW
namespace Go.Proofs.Ytdjbanhoejegjaa.LikW
open Go.RowKit Go.Proofs.YtdjbanhoejegjaaW.PrintWords Go.Proofs.YtdjbanhoejegjaaW.PrintLast Go.Proofs.Ytdjbanhoejegjaa.P
set_option linter.unusedVariables false
set_option linter.unusedSimpArgs false

def likV (x : S66) : Value := .agg #[.string x.f0, .string x.f1, .string x.f2, .string x.f3, .string x.f4, .string x.f5]
def likK (x : S66) : K3 := (x.f0, x.f1, x.f2)
def rowsP : List S66 → List (K3 × Value) → List (K3 × Value)
 | [], ps => ps
 | x :: l, ps => rowsP l (if (findP (likK x) ps).isSome = true then ps else ps ++ [(likK x, likV x)])
theorem rowsP_snoc : ∀ (l : List S66) (x : S66) (ps : List (K3 × Value)), rowsP (l ++ [x]) ps = if (findP (likK x) (rowsP l ps)).isSome = true then rowsP l ps else rowsP l ps ++ [(likK x, likV x)]
 | [], x, ps => rfl
 | y :: l, x, ps => rowsP_snoc l x _
theorem key_eq (k k' : K3) : (k.1 == k'.1 && (k.2.1 == k'.2.1 && k.2.2 == k'.2.2)) = true ↔ k = k' := by
 rw [Bool.and_eq_true, Bool.and_eq_true, MapKept.bytes_beq, MapKept.bytes_beq, MapKept.bytes_beq]
 constructor
 · rintro ⟨a, b, c⟩
   exact Prod.ext a (Prod.ext b c)
 · rintro rfl
   exact ⟨rfl, rfl, rfl⟩
instance : DecidableEq ByteArray := fun a b => decidable_of_iff _ (MapKept.bytes_beq a b)
instance : DecidableEq K3 := fun a b => decidable_of_iff _ (key_eq a b)
theorem findP_cons (k : K3) (e : K3 × Value) (l : List (K3 × Value)) : findP k (e :: l) = if k = e.1 then some e.2 else findP k l := by
 rw [findP]
 by_cases h : k = e.1
 · rw [if_pos ((key_eq _ _).2 h), if_pos h]
 · rw [if_neg (fun z => h ((key_eq _ _).1 z)), if_neg h]
theorem findP_snoc (k k' : K3) (v : Value) : ∀ ps, findP k (ps ++ [(k', v)]) = (findP k ps).or (if k = k' then some v else none)
 | [] => by rw [List.nil_append, findP_cons]; rfl
 | e :: ps => by
  rw [List.cons_append, findP_cons, findP_cons, findP_snoc k k' v ps]
  split <;> rfl
def rowOf (l : List S66) (k : K3) : Option S66 := l.find? fun x => decide (k = likK x)
theorem rowOf_snoc (l : List S66) (x : S66) (k : K3) : rowOf (l ++ [x]) k = (rowOf l k).or (if k = likK x then some x else none) := by
 unfold rowOf
 rw [List.find?_append]
 by_cases h : k = likK x
 · rw [if_pos h]; simp [List.find?, h]
 · rw [if_neg h]; simp [List.find?, h]
theorem find_rows (k : K3) : ∀ (n : Nat) (l : List S66), l.length = n → findP k (rowsP l []) = (rowOf l k).map likV
 | 0, l, h => by rw [List.eq_nil_of_length_eq_zero h]; rfl
 | n + 1, l, h => by
  have hne : l ≠ [] := by intro e; rw [e] at h; cases h
  obtain ⟨m, x, rfl⟩ : ∃ m x, l = m ++ [x] := ⟨l.dropLast, l.getLast hne, (List.dropLast_concat_getLast hne).symm⟩
  have hm : m.length = n := by simpa using h
  have ih := fun k => find_rows k n m hm
  rw [rowsP_snoc, rowOf_snoc, ih (likK x)]
  cases hx : rowOf m (likK x) with
  | some y =>
   rw [if_pos (by simp), ih k]
   by_cases e : k = likK x
   · rw [e, hx]; rfl
   · rw [if_neg e, Option.or_none]
  | none =>
   rw [if_neg (by simp), findP_snoc, ih k]
   cases rowOf m k with
   | some y => rfl
   | none =>
    by_cases e : k = likK x
    · rw [if_pos e, if_pos e]; rfl
    · rw [if_neg e, if_neg e]; rfl
theorem zero_lik (W : World) : (zeroValue 66).run Try.prog W = .ok (likV z66) W := by kernel_rfl
set_option maxRecDepth 100000 in
set_option maxHeartbeats 4000000 in
theorem rows_calls (A0 : Option Addr) (n0 c0 : Nat) (A1 : Option Addr) (c1 : Nat) (l : List S66) (A2 : Option Addr) (n2 c2 : Nat) (A3 : Option Addr) (n3 c3 : Nat) (p q : Int) (w : World) (hC : Kd.C k66 w A1 l.length l) :
 Calls Try.prog 58 #[.agg #[.slice A0 n0 c0, .slice A1 l.length c1, .slice A2 n2 c2, .slice A3 n3 c3, .int .i64 p, .int .i64 q]] w fun e w' => ∃ b, e = .returned (.map (some b)) ∧ w.heap.size ≤ b ∧ MapIs w' b (rowsP l []) ∧ Below w.heap.size w w' := by
 have hu39 := Try.underlying39
 have hu66 := Try.underlying66
 have hu30 := Try.underlying30
 have hm : ∀ W : World, (Instr.makeMap 93 none).run Try.prog W = .ok (.map (some W.heap.size)) (W.alloc (.map #[] 0)) := fun W => run_makeMap_plain W _
 have HC := Aside0.mk hC
 have hmax := Kd.C_max hC
 clear hC
 go_enter Try.func58, Try.ntmps58
 go_wp2
 obtain ⟨W0, hW0⟩ : ∃ W0, W0 = (w.alloc (.cells #[.slice A0 n0 c0, .slice A1 l.length c1, .slice A2 n2 c2, .slice A3 n3 c3, .int .i64 p, .int .i64 q] 39)).alloc (.map #[] 0) := ⟨_, rfl⟩
 rw [← hW0]
 have M0 : MapIs W0 (w.heap.size + 1) [] := ⟨[], 0, rfl, by rw [hW0]; simpa using World.alloc_heap_new (w.alloc (.cells #[.slice A0 n0 c0, .slice A1 l.length c1, .slice A2 n2 c2, .slice A3 n3 c3, .int .i64 p, .int .i64 q] 39)) (.map #[] 0)⟩
 have B0 : Below w.heap.size w W0 := by rw [hW0]; exact below_alloc (below_alloc (Below.refl _ _) _) _
 clear hW0
 go_loopw [13] (fun vi wr => ∃ i : Nat, vi = .int .i64 (i : Int) ∧ i ≤ l.length ∧ Aside0 (MapIs wr (w.heap.size + 1) (rowsP (l.take i) [])) ∧ Aside0 (Below w.heap.size w wr)) (fun vi _ => l.length - (intOf vi).toNat)
 case atStart => exact ⟨0, rfl, Nat.zero_le _, ⟨M0⟩, ⟨B0⟩⟩
 case round =>
  clear M0 B0
  obtain ⟨i, rfl, hi, HM, HB⟩ := hrel
  by_cases hlt : i < l.length
  · obtain ⟨ad, e, x0, x1, x2, x3, x4, x5⟩ := at_T66 HC.out (i : Int) (by omega) (by omega)
    cases e
    replace x0 := (HB.out.cell (World.block_lt_of_cell? w _ x0)).trans x0
    replace x1 := (HB.out.cell (World.block_lt_of_cell? w _ x1)).trans x1
    replace x2 := (HB.out.cell (World.block_lt_of_cell? w _ x2)).trans x2
    replace x3 := (HB.out.cell (World.block_lt_of_cell? w _ x3)).trans x3
    replace x4 := (HB.out.cell (World.block_lt_of_cell? w _ x4)).trans x4
    replace x5 := (HB.out.cell (World.block_lt_of_cell? w _ x5)).trans x5
    obtain ⟨x, hx⟩ : ∃ x, x = rd_T66 l (i : Int) := ⟨_, rfl⟩
    rw [← hx] at x0 x1 x2 x3 x4 x5
    simp only [Int.toNat_natCast] at x0 x1 x2 x3 x4 x5
    have HX := Aside0.mk hx
    clear hx
    have d1 : decide ((i : Int) < (l.length : Int)) = true := decide_eq_true (by omega)
    have bel : ∀ W, Below wr.heap.size wr W → MapIs W (w.heap.size + 1) (rowsP (l.take i) []) := fun W hb => HM.out.below hb
    have HF := Aside0.mk bel
    clear bel
    have hf := find_rows (likK x) _ (l.take i) rfl
    have hsn : rowsP (l.take (i + 1)) [] = if (findP (likK x) (rowsP (l.take i) [])).isSome = true then rowsP (l.take i) [] else rowsP (l.take i) [] ++ [(likK x, likV x)] := by
     rw [List.take_succ_eq_append_getElem hlt, rowsP_snoc, HX.out]
     simp [rd_T66, List.getD_eq_getElem?_getD, List.getElem?_eq_getElem hlt]
    rw [hf] at hsn
    have HS := Aside0.mk hsn
    have HN := Aside0.mk hf
    clear hf hsn
    cases hr : rowOf (l.take i) (likK x) with
    | some y =>
     rw [hr] at HN HS
     clear hr
     go_wp2_with (first | (at_lookup; refine wpList_look rfl _ _ 93 66 true rfl Try.underlying93 (w.heap.size + 1) rfl (rowsP (l.take i) []) ?hM (likK x) rfl _ (zero_lik _) ?_; (case hM => exact HF.out _ (by repeat (first | exact Below.refl _ _ | apply below_alloc | apply pw_below_drewN | apply below_drew1 | refine below_set ?_ (by simp)))); rw [HN.out]; simp only [Option.map_some, Option.getD_some, Option.isSome_some, if_true, likV]))
     go_roundw
     case rel =>
      have e := HS.out
      rw [if_pos (by simp)] at e
      exact ⟨i + 1, by simp, by omega, ⟨by rw [e]; exact HF.out _ (by repeat (first | exact Below.refl _ _ | apply below_alloc | apply pw_below_drewN | apply below_drew1 | refine below_set ?_ (by simp)))⟩, ⟨by repeat (first | exact HB.out | apply below_alloc | apply pw_below_drewN | apply below_drew1)⟩⟩
     case measure => simp [intOf]; omega
    | none =>
     rw [hr] at HN HS
     clear hr
     have hz : w.heap.size + 1 < wr.heap.size := by
      obtain ⟨_, _, _, hb⟩ := HM.out
      exact (Array.getElem?_eq_some_iff.1 hb).1
     go_wp2_with (first | (at_lookup; refine wpList_look rfl _ _ 93 66 true rfl Try.underlying93 (w.heap.size + 1) rfl (rowsP (l.take i) []) ?hM (likK x) rfl _ (zero_lik _) ?_; (case hM => exact HF.out _ (by repeat (first | exact Below.refl _ _ | apply below_alloc | apply pw_below_drewN | apply below_drew1 | refine below_set ?_ (by simp)))); rw [HN.out]; simp only [Option.map_none, Option.getD_none, Option.isSome_none, if_true, likV]) | (at_mapUpdate; refine wpList_upd rfl _ _ _ 93 66 rfl Try.underlying93 (w.heap.size + 1) rfl (rowsP (l.take i) []) ?hM (likK x) rfl (likV x) rfl HN.out ?_; (case hM => exact HF.out _ (by repeat (first | exact Below.refl _ _ | apply below_alloc | apply pw_below_drewN | apply below_drew1 | refine below_set ?_ (by simp)))); intro w9 hM9 hg9))
     go_roundw
     case rel =>
      have e := HS.out
      rw [if_neg (by simp)] at e
      exact ⟨i + 1, by simp, by omega, ⟨by rw [e]; exact hM9⟩, ⟨pw_below_grown (by repeat (first | exact HB.out | apply below_alloc | apply pw_below_drewN | apply below_drew1)) _ (by have := HB.out.size; simp; omega) hg9 (fun k ek => by cases ek; omega)⟩⟩
     case measure => simp [intOf]; omega
  · obtain rfl : i = l.length := by omega
    have d1 : decide (((l.length : Nat) : Int) < (l.length : Int)) = false := decide_eq_false (by omega)
    have hM := HM.out
    rw [List.take_length] at hM
    have HM2 := Aside0.mk hM
    clear hM
    go_wp2
    go_ret
    exact ⟨_, rfl, by omega, HM2.out, HB.out⟩
end Go.Proofs.Ytdjbanhoejegjaa.LikW
