/- Made by a program of this seat's own (shake.py, merge.py): what the claim leans on: LikRows, DistIn, DistFit, DistFits, DistBoth, DistCost, Run, Data, List5. -/
import Derived.Test.YtpmcfckechjppaaGreatDoorDd06
import Derived.Deep.RegionWith
import Derived.StillTailTactics
set_option linter.unusedVariables false
set_option linter.unusedSimpArgs false
set_option maxRecDepth 100000
set_option maxHeartbeats 8000000
namespace Go.Proofs.YtpmcfckechjppaaGreatDoor.LikW
open Go.RowKit Go.Proofs.YtpmcfckechjppaaGreatDoorW.PrintWords Go.Proofs.YtpmcfckechjppaaGreatDoorW.PrintLast Go.Proofs.YtpmcfckechjppaaGreatDoor.P
def k0q (x : S66) : Value := .agg #[.string x.f0, .string x.f1, .string x.f2, .string x.f3, .string x.f4, .string x.f5]
def z8a (x : S66) : K3 := (x.f0, x.f1, x.f2)
def q7x : List S66 → List (K3 × Value) → List (K3 × Value)
 | [], ps => ps
 | x :: l, ps => q7x l (if (q4g (z8a x) ps).isSome = true then ps else ps ++ [(z8a x, k0q x)])
theorem z1e : ∀ (l : List S66) (x : S66) (ps : List (K3 × Value)), q7x (l ++ [x]) ps = if (q4g (z8a x) (q7x l ps)).isSome = true then q7x l ps else q7x l ps ++ [(z8a x, k0q x)]
 | [], x, ps => rfl
 | y :: l, x, ps => z1e l x _
theorem key_eq (k k' : K3) : (k.1 == k'.1 && (k.2.1 == k'.2.1 && k.2.2 == k'.2.2)) = true ↔ k = k' := by
 rw [Bool.and_eq_true, Bool.and_eq_true, MapKept.bytes_beq, MapKept.bytes_beq, MapKept.bytes_beq]
 constructor
 · rintro ⟨a, b, c⟩
   exact Prod.ext a (Prod.ext b c)
 · rintro rfl
   exact ⟨rfl, rfl, rfl⟩
instance : DecidableEq ByteArray := fun a b => decidable_of_iff _ (MapKept.bytes_beq a b)
instance : DecidableEq K3 := fun a b => decidable_of_iff _ (key_eq a b)
theorem q8x (k : K3) (e : K3 × Value) (l : List (K3 × Value)) : q4g k (e :: l) = if k = e.1 then some e.2 else q4g k l := by
 rw [q4g]
 by_cases h : k = e.1
 · rw [if_pos ((key_eq _ _).2 h), if_pos h]
 · rw [if_neg (fun z => h ((key_eq _ _).1 z)), if_neg h]
theorem z5u (k k' : K3) (v : Value) : ∀ ps, q4g k (ps ++ [(k', v)]) = (q4g k ps).or (if k = k' then some v else none)
 | [] => by rw [List.nil_append, q8x]; rfl
 | e :: ps => by
  rw [List.cons_append, q8x, q8x, z5u k k' v ps]
  split <;> rfl
def rowOf (l : List S66) (k : K3) : Option S66 := l.find? fun x => decide (k = z8a x)
theorem v6h (l : List S66) (x : S66) (k : K3) : rowOf (l ++ [x]) k = (rowOf l k).or (if k = z8a x then some x else none) := by
 unfold rowOf
 rw [List.find?_append]
 by_cases h : k = z8a x
 · rw [if_pos h]; simp [List.find?, h]
 · rw [if_neg h]; simp [List.find?, h]
theorem z2x (k : K3) : ∀ (n : Nat) (l : List S66), l.length = n → q4g k (q7x l []) = (rowOf l k).map k0q
 | 0, l, h => by rw [List.eq_nil_of_length_eq_zero h]; rfl
 | n + 1, l, h => by
  have hne : l ≠ [] := by intro e; rw [e] at h; cases h
  obtain ⟨m, x, rfl⟩ : ∃ m x, l = m ++ [x] := ⟨l.dropLast, l.getLast hne, (List.dropLast_concat_getLast hne).symm⟩
  have hm : m.length = n := by simpa using h
  have ih := fun k => z2x k n m hm
  rw [z1e, v6h, ih (z8a x)]
  cases hx : rowOf m (z8a x) with
  | some y =>
   rw [if_pos (by simp), ih k]
   by_cases e : k = z8a x
   · rw [e, hx]; rfl
   · rw [if_neg e, Option.or_none]
  | none =>
   rw [if_neg (by simp), z5u, ih k]
   cases rowOf m k with
   | some y => rfl
   | none =>
    by_cases e : k = z8a x
    · rw [if_pos e, if_pos e]; rfl
    · rw [if_neg e, if_neg e]; rfl
theorem z2m (W : World) : (zeroValue 122).run Tryz.prog W = .ok (k0q z66) W := by kernel_rfl
theorem v4p (A0 : Option Addr) (n0 c0 : Nat) (A1 : Option Addr) (c1 : Nat) (l : List S66) (A2 : Option Addr) (n2 c2 : Nat) (A3 : Option Addr) (n3 c3 : Nat) (p q : Int) (w : World) (hC : Kd.C k66 w A1 l.length l) :
 Calls Tryz.prog 164 #[.agg #[.slice A0 n0 c0, .slice A1 l.length c1, .slice A2 n2 c2, .slice A3 n3 c3, .int .i64 p, .int .i64 q]] w fun e w' => ∃ b, e = .returned (.map (some b)) ∧ w.heap.size ≤ b ∧ q5x w' b (q7x l []) ∧ Below w.heap.size w w' := by
 have hu39 := Tryz.underlying51
 have hu66 := Tryz.underlying122
 have hu30 := Tryz.underlying123
 have hm : ∀ W : World, (Instr.makeMap 178 none).run Tryz.prog W = .ok (.map (some W.heap.size)) (W.alloc (.map #[] 0)) := fun W => run_makeMap_plain W _
 have HC := aq hC
 have hmax := Kd.v2m hC
 clear hC
 go_enter Tryz.func164, Tryz.ntmps164
 go_wp2
 obtain ⟨W0, hW0⟩ : ∃ W0, W0 = (w.alloc (.cells #[.slice A0 n0 c0, .slice A1 l.length c1, .slice A2 n2 c2, .slice A3 n3 c3, .int .i64 p, .int .i64 q] 51)).alloc (.map #[] 0) := ⟨_, rfl⟩
 rw [← hW0]
 have M0 : q5x W0 (w.heap.size + 1) [] := ⟨[], 0, rfl, by rw [hW0]; simpa using World.alloc_heap_new (w.alloc (.cells #[.slice A0 n0 c0, .slice A1 l.length c1, .slice A2 n2 c2, .slice A3 n3 c3, .int .i64 p, .int .i64 q] 51)) (.map #[] 0)⟩
 have B0 : Below w.heap.size w W0 := by rw [hW0]; exact q0b (q0b (Below.refl _ _) _) _
 clear hW0
 go_loopw [13] (fun vi wr => ∃ i : Nat, vi = .int .i64 (i : Int) ∧ i ≤ l.length ∧ q0c (q5x wr (w.heap.size + 1) (q7x (l.take i) [])) ∧ q0c (Below w.heap.size w wr)) (fun vi _ => l.length - (intOf vi).toNat)
 case atStart => exact ⟨0, rfl, Nat.zero_le _, ⟨M0⟩, ⟨B0⟩⟩
 case round =>
  clear M0 B0
  obtain ⟨i, rfl, hi, HM, HB⟩ := hrel
  by_cases hlt : i < l.length
  · obtain ⟨ad, e, x0, x1, x2, x3, x4, x5⟩ := k8n HC.out (i : Int) (by omega) (by omega)
    cases e
    replace x0 := (HB.out.cell (World.block_lt_of_cell? w _ x0)).trans x0
    replace x1 := (HB.out.cell (World.block_lt_of_cell? w _ x1)).trans x1
    replace x2 := (HB.out.cell (World.block_lt_of_cell? w _ x2)).trans x2
    replace x3 := (HB.out.cell (World.block_lt_of_cell? w _ x3)).trans x3
    replace x4 := (HB.out.cell (World.block_lt_of_cell? w _ x4)).trans x4
    replace x5 := (HB.out.cell (World.block_lt_of_cell? w _ x5)).trans x5
    obtain ⟨x, hx⟩ : ∃ x, x = z1k l (i : Int) := ⟨_, rfl⟩
    rw [← hx] at x0 x1 x2 x3 x4 x5
    simp only [Int.toNat_natCast] at x0 x1 x2 x3 x4 x5
    have HX := aq hx
    clear hx
    have d1 : decide ((i : Int) < (l.length : Int)) = true := decide_eq_true (by omega)
    have bel : ∀ W, Below wr.heap.size wr W → q5x W (w.heap.size + 1) (q7x (l.take i) []) := fun W hb => HM.out.below hb
    have HF := aq bel
    clear bel
    have hf := z2x (z8a x) _ (l.take i) rfl
    have hsn : q7x (l.take (i + 1)) [] = if (q4g (z8a x) (q7x (l.take i) [])).isSome = true then q7x (l.take i) [] else q7x (l.take i) [] ++ [(z8a x, k0q x)] := by
     rw [List.take_succ_eq_append_getElem hlt, z1e, HX.out]
     simp [z1k, List.getD_eq_getElem?_getD, List.getElem?_eq_getElem hlt]
    rw [hf] at hsn
    have HS := aq hsn
    have HN := aq hf
    clear hf hsn
    cases hr : rowOf (l.take i) (z8a x) with
    | some y =>
     rw [hr] at HN HS
     clear hr
     go_wp2_with (first | (at_lookup; refine z4h rfl _ _ 178 122 true rfl Tryz.underlying178 (w.heap.size + 1) rfl (q7x (l.take i) []) ?hM (z8a x) rfl _ (z2m _) ?_; (case hM => exact HF.out _ (by repeat (first | exact Below.refl _ _ | apply q0b | apply q0d | apply q0m | refine q0r ?_ (by simp)))); rw [HN.out]; simp only [Option.map_some, Option.getD_some, Option.isSome_some, if_true, k0q]))
     go_roundw
     case rel =>
      have e := HS.out
      rw [if_pos (by simp)] at e
      exact ⟨i + 1, by simp, by omega, ⟨by rw [e]; exact HF.out _ (by repeat (first | exact Below.refl _ _ | apply q0b | apply q0d | apply q0m | refine q0r ?_ (by simp)))⟩, ⟨by repeat (first | exact HB.out | apply q0b | apply q0d | apply q0m)⟩⟩
     case measure => simp [intOf]; omega
    | none =>
     rw [hr] at HN HS
     clear hr
     have hz : w.heap.size + 1 < wr.heap.size := by
      obtain ⟨_, _, _, hb⟩ := HM.out
      exact (Array.getElem?_eq_some_iff.1 hb).1
     go_wp2_with (first | (at_lookup; refine z4h rfl _ _ 178 122 true rfl Tryz.underlying178 (w.heap.size + 1) rfl (q7x (l.take i) []) ?hM (z8a x) rfl _ (z2m _) ?_; (case hM => exact HF.out _ (by repeat (first | exact Below.refl _ _ | apply q0b | apply q0d | apply q0m | refine q0r ?_ (by simp)))); rw [HN.out]; simp only [Option.map_none, Option.getD_none, Option.isSome_none, if_true, k0q]) | (at_mapUpdate; refine v5l rfl _ _ _ 178 122 rfl Tryz.underlying178 (w.heap.size + 1) rfl (q7x (l.take i) []) ?hM (z8a x) rfl (k0q x) rfl HN.out ?_; (case hM => exact HF.out _ (by repeat (first | exact Below.refl _ _ | apply q0b | apply q0d | apply q0m | refine q0r ?_ (by simp)))); intro w9 hM9 hg9))
     go_roundw
     case rel =>
      have e := HS.out
      rw [if_neg (by simp)] at e
      exact ⟨i + 1, by simp, by omega, ⟨by rw [e]; exact hM9⟩, ⟨q9k (by repeat (first | exact HB.out | apply q0b | apply q0d | apply q0m)) _ (by have := HB.out.size; simp; omega) hg9 (fun k ek => by cases ek; omega)⟩⟩
     case measure => simp [intOf]; omega
  · obtain rfl : i = l.length := by omega
    have d1 : decide (((l.length : Nat) : Int) < (l.length : Int)) = false := decide_eq_false (by omega)
    have hM := HM.out
    rw [List.take_length] at hM
    have HM2 := aq hM
    clear hM
    go_wp2
    go_ret
    exact ⟨_, rfl, by omega, HM2.out, HB.out⟩
theorem toList_inj {a b : ByteArray} (h : a.toList = b.toList) : a = b := by
 rw [ByteArray.toList_eq, ByteArray.toList_eq] at h
 exact ByteArray.ext (Array.toList_inj.1 h)
def inP (ms : List S69) (s r : ByteArray) : Bool := ms.any fun m => decide (m.f0 = s ∧ m.f1 = r)
theorem v3r (A0 : Option Addr) (n0 c0 : Nat) (A1 : Option Addr) (n1 c1 : Nat) (A2 : Option Addr) (n2 c2 : Nat) (A3 : Option Addr) (c3 : Nat) (ms : List S69) (p q : Int) (s r : ByteArray) (w : World) (hC : Kd.C k69 w A3 ms.length ms) :
 Calls Tryz.prog 355 #[.agg #[.slice A0 n0 c0, .slice A1 n1 c1, .slice A2 n2 c2, .slice A3 ms.length c3, .int .i64 p, .int .i64 q], .string s, .string r] w fun e w' => e = .returned (.bool (inP ms s r)) ∧ Below w.heap.size w w' := by
 have hu39 := Tryz.underlying51
 have hu69 := Tryz.underlying127
 have HC := aq hC
 have hmax := Kd.v2m hC
 clear hC
 go_enter Tryz.func355, Tryz.ntmps355
 go_wp2
 obtain ⟨W0, hW0⟩ : ∃ W0, W0 = (w.alloc (.cells #[.slice A0 n0 c0, .slice A1 n1 c1, .slice A2 n2 c2, .slice A3 ms.length c3, .int .i64 p, .int .i64 q] 51)) := ⟨_, rfl⟩
 rw [← hW0]
 have B0 : Below w.heap.size w W0 := by rw [hW0]; exact q0b (Below.refl _ _) _
 clear hW0
 go_loopw [12] (fun vi wr => ∃ i : Nat, vi = .int .i64 (i : Int) ∧ i ≤ ms.length ∧ q0c (inP (ms.take i) s r = false) ∧ q0c (Below w.heap.size w wr)) (fun vi _ => ms.length - (intOf vi).toNat)
 case atStart => exact ⟨0, rfl, Nat.zero_le _, ⟨rfl⟩, ⟨B0⟩⟩
 case round =>
  clear B0
  obtain ⟨i, rfl, hi, HN, HB⟩ := hrel
  by_cases hlt : i < ms.length
  · obtain ⟨ad, e, x0, x1⟩ := k9t HC.out (i : Int) (by omega) (by omega)
    cases e
    replace x0 := (HB.out.cell (World.block_lt_of_cell? w _ x0)).trans x0
    replace x1 := (HB.out.cell (World.block_lt_of_cell? w _ x1)).trans x1
    obtain ⟨x, hx⟩ : ∃ x, x = v3j ms (i : Int) := ⟨_, rfl⟩
    rw [← hx] at x0 x1
    simp only [Int.toNat_natCast] at x0 x1
    have hx2 : x = ms[i]'hlt := by rw [hx]; simp [v3j, List.getD_eq_getElem?_getD, List.getElem?_eq_getElem hlt]
    have hs : inP (ms.take (i + 1)) s r = (inP (ms.take i) s r || decide (x.f0 = s ∧ x.f1 = r)) := by unfold inP; rw [List.take_succ_eq_append_getElem hlt, List.any_append, hx2]; simp only [List.any_cons, List.any_nil, Bool.or_false]
    rw [HN.out] at hs
    have HS := aq hs
    have HX := aq hx2
    clear hx hx2 hs
    have d1 : decide ((i : Int) < (ms.length : Int)) = true := decide_eq_true (by omega)
    go_wp2
    · rename_i g1 g2
      go_ret
      refine ⟨?_, by repeat (first | exact HB.out | apply q0b)⟩
      have : inP ms s r = true := by
       unfold inP
       rw [List.any_eq_true]
       exact ⟨ms[i], List.getElem_mem hlt, by rw [← HX.out]; exact decide_eq_true ⟨toList_inj g1, toList_inj g2⟩⟩
      simp [this]
    · rename_i g1 g2
      have e := HS.out
      rw [decide_eq_false (fun h => g2 (by rw [h.2])), Bool.or_false] at e
      go_roundw
      case rel => exact ⟨i + 1, by simp, by omega, ⟨e⟩, ⟨by repeat (first | exact HB.out | apply q0b)⟩⟩
      case measure => simp [intOf]; omega
    · rename_i g1
      have e := HS.out
      rw [decide_eq_false (fun h => g1 (by rw [h.1])), Bool.or_false] at e
      go_roundw
      case rel => exact ⟨i + 1, by simp, by omega, ⟨e⟩, ⟨by repeat (first | exact HB.out | apply q0b)⟩⟩
      case measure => simp [intOf]; omega
  · obtain rfl : i = ms.length := by omega
    have d1 : decide (((ms.length : Nat) : Int) < (ms.length : Int)) = false := decide_eq_false (by omega)
    have hN := HN.out
    rw [List.take_length] at hN
    go_wp2
    go_ret
    exact ⟨by simp [hN], HB.out⟩
def z9i : ByteArray := ⟨#[42]⟩
def z1q (ms : List S69) (i : Int) (s r : ByteArray) : Bool :=
 if s = r ∨ s = z9i then true else if i = 2 then (if h : 0 < s.size then (if ((s[0]'h).toNat : Int) = 33 then !(inP ms (s.extract 1 s.size) r) else if ((s[0]'h).toNat : Int) = 36 then inP ms (s.extract 1 s.size) r else false) else false) else false
theorem q9a (s : ByteArray) : (s.toList == [42]) = true ↔ s = z9i := by
 rw [beq_iff_eq]
 exact ⟨fun h => toList_inj (h.trans (by rw [ByteArray.toList_eq]; rfl)), fun h => by rw [h, ByteArray.toList_eq]; rfl⟩
theorem q8y (s : ByteArray) : s.toList.isEmpty = true ↔ ¬ 0 < s.size := by
 rw [List.isEmpty_iff_length_eq_zero, ByteArray.toList_eq, Array.length_toList]
 exact ⟨fun h => by have : s.size = s.data.size := rfl; omega, fun h => by have : s.size = s.data.size := rfl; omega⟩
theorem q3n (A0 : Option Addr) (n0 c0 : Nat) (A1 : Option Addr) (n1 c1 : Nat) (A2 : Option Addr) (n2 c2 : Nat) (A3 : Option Addr) (c3 : Nat) (ms : List S69) (p q : Int) (i : Int) (s r : ByteArray) (w : World) (hC : Kd.C k69 w A3 ms.length ms) :
 Calls Tryz.prog 354 #[.agg #[.slice A0 n0 c0, .slice A1 n1 c1, .slice A2 n2 c2, .slice A3 ms.length c3, .int .i64 p, .int .i64 q], .int .i64 i, .string s, .string r] w fun e w' => e = .returned (.bool (z1q ms i s r)) ∧ Below w.heap.size w w' := by
 have hu39 := Tryz.underlying51
 have HC := aq hC
 clear hC
 go_enter Tryz.func354, Tryz.ntmps354
 go_wp2
 · have g : s.toList = r.toList := by assumption
   go_ret
   exact ⟨by simp [z1q, toList_inj g], by repeat (first | exact hb | exact Below.refl _ _ | apply q0b | apply q0d | apply q0m)⟩
 · have g : ¬ s.toList = r.toList := by assumption
   have g2 : (s.toList == r.toList) = true ∨ (s.toList == [42]) = true := by assumption
   go_ret
   have : s = z9i := (q9a s).1 (g2.resolve_left (fun e => g (eq_of_beq e)))
   exact ⟨by simp [z1q, this], by repeat (first | exact hb | exact Below.refl _ _ | apply q0b | apply q0d | apply q0m)⟩
 · have g : ¬ s.toList = r.toList := by assumption
   have g2 : (s.toList == r.toList) = false ∧ (s.toList == [42]) = false := by assumption
   have ge : s.toList.isEmpty = true := by assumption
   go_ret
   have h1 : ¬ s = r := fun e => g (by rw [e])
   have h2 : ¬ s = z9i := fun e => by have := (q9a s).2 e; rw [g2.2] at this; cases this
   have h3 := (q8y s).1 ge
   exact ⟨by unfold z1q; rw [if_neg (fun e => e.elim h1 h2), dif_neg h3]; simp, by repeat (first | exact hb | exact Below.refl _ _ | apply q0b | apply q0d | apply q0m)⟩
 · have g : ¬ s.toList = r.toList := by assumption
   have g2 : (s.toList == r.toList) = false ∧ (s.toList == [42]) = false := by assumption
   have gs : 0 < s.size := by assumption
   have gi : i = 2 := by assumption
   subst gi
   have g33 : (((s[0]'gs).toNat : Int) == 33) = true := by assumption
   have h1 : ¬ s = r := fun e => g (by rw [e])
   have h2 : ¬ s = z9i := fun e => by have := (q9a s).2 e; rw [g2.2] at this; cases this
   have hv : z1q ms 2 s r = !(inP ms (s.extract 1 s.size) r) := by unfold z1q; rw [if_neg (fun e => e.elim h1 h2), if_pos rfl, dif_pos gs, if_pos (eq_of_beq g33)]
   have HV := aq hv
   clear hv
   go_region_with (go_at_call 355; refine (v3r A0 n0 c0 A1 n1 c1 A2 n2 c2 A3 c3 ms p q _ r _ (Kd.q0h HC.out (by repeat (first | exact Below.refl _ _ | apply q0b | apply q0d | apply q0m)))).mono ?_; rintro e w9 ⟨rfl, hb⟩; replace hb := Below.trans (show Below w.heap.size w _ by repeat (first | exact Below.refl _ _ | apply q0b | apply q0d | apply q0m)) (hb.mono (by simp)))
   all_goals go_wp2
   all_goals go_ret
   all_goals exact ⟨by rw [HV.out]; rfl, by repeat (first | exact hb | exact Below.refl _ _ | apply q0b | apply q0d | apply q0m)⟩
 · have g : ¬ s.toList = r.toList := by assumption
   have g2 : (s.toList == r.toList) = false ∧ (s.toList == [42]) = false := by assumption
   have gs : 0 < s.size := by assumption
   have gi : i = 2 := by assumption
   subst gi
   have g33 : (((s[0]'gs).toNat : Int) == 33) = false := by assumption
   have g36 : (((s[0]'gs).toNat : Int) == 36) = true := by assumption
   have h1 : ¬ s = r := fun e => g (by rw [e])
   have h2 : ¬ s = z9i := fun e => by have := (q9a s).2 e; rw [g2.2] at this; cases this
   have hv : z1q ms 2 s r = inP ms (s.extract 1 s.size) r := by unfold z1q; rw [if_neg (fun e => e.elim h1 h2), if_pos rfl, dif_pos gs, if_neg (ne_of_beq_false g33), if_pos (eq_of_beq g36)]
   have HV := aq hv
   clear hv
   go_region_with (go_at_call 355; refine (v3r A0 n0 c0 A1 n1 c1 A2 n2 c2 A3 c3 ms p q _ r _ (Kd.q0h HC.out (by repeat (first | exact Below.refl _ _ | apply q0b | apply q0d | apply q0m)))).mono ?_; rintro e w9 ⟨rfl, hb⟩; replace hb := Below.trans (show Below w.heap.size w _ by repeat (first | exact Below.refl _ _ | apply q0b | apply q0d | apply q0m)) (hb.mono (by simp)))
   all_goals go_wp2
   all_goals go_ret
   all_goals exact ⟨by rw [HV.out]; rfl, by repeat (first | exact hb | exact Below.refl _ _ | apply q0b | apply q0d | apply q0m)⟩
 · have g : ¬ s.toList = r.toList := by assumption
   have g2 : (s.toList == r.toList) = false ∧ (s.toList == [42]) = false := by assumption
   have gs : 0 < s.size := by assumption
   have gi : i = 2 := by assumption
   subst gi
   have g33 : (((s[0]'gs).toNat : Int) == 33) = false := by assumption
   have g36 : (((s[0]'gs).toNat : Int) == 36) = false := by assumption
   go_ret
   have h1 : ¬ s = r := fun e => g (by rw [e])
   have h2 : ¬ s = z9i := fun e => by have := (q9a s).2 e; rw [g2.2] at this; cases this
   have hv : z1q ms 2 s r = false := by unfold z1q; rw [if_neg (fun e => e.elim h1 h2), if_pos rfl, dif_pos gs, if_neg (ne_of_beq_false g33), if_neg (ne_of_beq_false g36)]
   exact ⟨by simp [hv], by repeat (first | exact hb | exact Below.refl _ _ | apply q0b | apply q0d | apply q0m)⟩
 · have ge : s.toList.isEmpty = false := by assumption
   have gs : ¬ 0 < s.size := by assumption
   rw [(q8y s).2 gs] at ge
   cases ge
 · have g : ¬ s.toList = r.toList := by assumption
   have g2 : (s.toList == r.toList) = false ∧ (s.toList == [42]) = false := by assumption
   have gi : ¬ i = 2 := by assumption
   go_ret
   have h1 : ¬ s = r := fun e => g (by rw [e])
   have h2 : ¬ s = z9i := fun e => by have := (q9a s).2 e; rw [g2.2] at this; cases this
   have hv : z1q ms i s r = false := by unfold z1q; rw [if_neg (fun e => e.elim h1 h2), if_neg gi]
   exact ⟨by simp [hv], by repeat (first | exact hb | exact Below.refl _ _ | apply q0b | apply q0d | apply q0m)⟩
theorem q0w {W : World} {g : Nat} {t : TypeId} {cs : Array Value} (h : W.heap[g]? = some (.cells cs t (0, 0))) (i : Nat) : W.cell? ⟨g, i, none⟩ = cs[i]? := q0a h i
def at3 (t : K3) : Nat → ByteArray
 | 0 => t.1
 | 1 => t.2.1
 | _ => t.2.2
def upN (ms : List S69) (a b : K3) (n : Nat) : Bool := (List.range n).all fun j => z1q ms (j : Int) (at3 a j) (at3 b j)
def z4p (ms : List S69) (a b : K3) (lv : Int) : Bool := upN ms a b (max 0 (min lv 3)).toNat
theorem z2f (ms : List S69) (a b : K3) (n : Nat) : upN ms a b (n + 1) = (upN ms a b n && z1q ms (n : Int) (at3 a n) (at3 b n)) := by
 unfold upN
 rw [List.range_succ, List.all_append]
 simp
theorem q6s (ms : List S69) (a b : K3) : ∀ (d n : Nat), upN ms a b n = false → upN ms a b (n + d) = false
 | 0, n, h => h
 | d + 1, n, h => by rw [← Nat.add_assoc, z2f, q6s ms a b d n h, Bool.false_and]
theorem z1d (A0 : Option Addr) (n0 c0 : Nat) (A1 : Option Addr) (n1 c1 : Nat) (A2 : Option Addr) (n2 c2 : Nat) (A3 : Option Addr) (c3 : Nat) (ms : List S69) (p q : Int) (a b : K3) (lv : Int) (w : World) (hC : Kd.C k69 w A3 ms.length ms) :
 Calls Tryz.prog 353 #[.agg #[.slice A0 n0 c0, .slice A1 n1 c1, .slice A2 n2 c2, .slice A3 ms.length c3, .int .i64 p, .int .i64 q], .agg #[.string a.1, .string a.2.1, .string a.2.2], .agg #[.string b.1, .string b.2.1, .string b.2.2], .int .i64 lv] w fun e w' => e = .returned (.bool (z4p ms a b lv)) ∧ Below w.heap.size w w' := by
 have hu39 := Tryz.underlying51
 have hu30 := Tryz.underlying123
 have HC := aq hC
 clear hC
 go_enter Tryz.func353, Tryz.ntmps353
 obtain ⟨W0, hW0⟩ : ∃ W0, W0 = ((w.alloc (.cells #[.slice A0 n0 c0, .slice A1 n1 c1, .slice A2 n2 c2, .slice A3 ms.length c3, .int .i64 p, .int .i64 q] 51)).alloc (.cells #[.string a.1, .string a.2.1, .string a.2.2] 123)).alloc (.cells #[.string b.1, .string b.2.1, .string b.2.2] 123) := ⟨_, rfl⟩
 have b0 : W0.heap[w.heap.size]? = some (.cells #[.slice A0 n0 c0, .slice A1 n1 c1, .slice A2 n2 c2, .slice A3 ms.length c3, .int .i64 p, .int .i64 q] 51 (0, 0)) := by rw [hW0]; exact ((q0b (q0b (Below.refl _ _) _) _).block _ (by simp)).trans (World.alloc_heap_new w _)
 have b1 : W0.heap[w.heap.size + 1]? = some (.cells #[.string a.1, .string a.2.1, .string a.2.2] 123 (0, 0)) := by
  have := World.alloc_heap_new (w.alloc (.cells #[.slice A0 n0 c0, .slice A1 n1 c1, .slice A2 n2 c2, .slice A3 ms.length c3, .int .i64 p, .int .i64 q] 51)) (.cells #[.string a.1, .string a.2.1, .string a.2.2] 123)
  rw [World.size_alloc] at this
  rw [hW0]; exact ((q0b (Below.refl _ _) _).block _ (by simp)).trans this
 have b2 : W0.heap[w.heap.size + 1 + 1]? = some (.cells #[.string b.1, .string b.2.1, .string b.2.2] 123 (0, 0)) := by
  have := World.alloc_heap_new ((w.alloc (.cells #[.slice A0 n0 c0, .slice A1 n1 c1, .slice A2 n2 c2, .slice A3 ms.length c3, .int .i64 p, .int .i64 q] 51)).alloc (.cells #[.string a.1, .string a.2.1, .string a.2.2] 123)) (.cells #[.string b.1, .string b.2.1, .string b.2.2] 123)
  rw [World.size_alloc, World.size_alloc] at this
  rw [hW0]; exact this
 have B0 : Below w.heap.size w W0 := by rw [hW0]; repeat (first | exact Below.refl _ _ | apply q0b)
 have sz0 : W0.heap.size = w.heap.size + 3 := by rw [hW0]; simp
 have HW := aq hW0
 clear hW0
 go_wp2
 · have h3 : 3 < lv := by assumption
   have hv : z4p ms a b lv = upN ms a b 3 := by unfold z4p; congr 1; omega
   have HV := aq hv
   clear hv
   rw [← HW.out]
   go_loopw [13] (fun vi wr => ∃ i : Nat, vi = .int .i64 (i : Int) ∧ i ≤ 3 ∧ q0c (upN ms a b i = true) ∧ q0c (Below W0.heap.size W0 wr)) (fun vi _ => 3 - (intOf vi).toNat)
   case atStart => exact ⟨0, rfl, Nat.zero_le _, ⟨rfl⟩, ⟨Below.refl _ _⟩⟩
   case round =>
    obtain ⟨i, rfl, hi, HN, HB⟩ := hrel
    by_cases hlt : (i : Int) < 3
    · have d1 : decide ((i : Int) < 3) = true := decide_eq_true hlt
      have B2 : Below w.heap.size w wr := B0.trans (HB.out.mono B0.size)
      have HC2 := aq (Kd.q0h HC.out B2)
      have k0 := (HB.out.block _ (by omega)).trans b0
      have k1 := (HB.out.block _ (by omega)).trans b1
      have k2 := (HB.out.block _ (by omega)).trans b2
      have z0 := q0w k0
      have z1 := q0w k1
      have z2 := q0w k2
      have HB2 := aq B2
      have q0 := z0 0
      have q1 := z0 1
      have q2 := z0 2
      have q3 := z0 3
      have q4 := z0 4
      have q5 := z0 5
      have r0 := z1 0
      have r1 := z1 1
      have r2 := z1 2
      have s0 := z2 0
      have s1 := z2 1
      have s2 := z2 2
      simp only [List.getElem?_toArray, List.getElem?_cons_zero, List.getElem?_cons_succ] at q0 q1 q2 q3 q4 q5 r0 r1 r2 s0 s1 s2
      have sw : w.heap.size + 1 + 1 < wr.heap.size := by have := HB.out.size; omega
      have U := z2f ms a b i
      rw [HN.out, Bool.true_and] at U
      have HU := aq U
      clear k0 k1 k2 z0 z1 z2 B2 U b0 b1 b2
      obtain rfl | rfl | rfl : i = 0 ∨ i = 1 ∨ i = 2 := by omega
      · cases hv : z1q ms 0 a.1 b.1
        · go_wp2
          go_still_tail 8, (by kernel_rfl)
          change wpList _ _ _ _ _ (World.drew wr)
          go_wp2_with (go_at_call 354; refine (q3n A0 n0 c0 A1 n1 c1 A2 n2 c2 A3 c3 ms p q 0 _ _ _ (Kd.q0h HC2.out (q1a (Below.refl _ _)))).mono ?_; rintro e w9 ⟨rfl, hb⟩; rw [hv]; replace hb := Below.trans (q1a (Below.refl wr.heap.size wr)) (hb.mono (Nat.le_refl _)))
          all_goals go_wp2
          all_goals go_ret
          all_goals refine ⟨?_, HB2.out.trans (hb.mono HB2.out.size)⟩
          all_goals
           have e := HU.out
           rw [show z1q ms ((0 : Nat) : Int) (at3 a 0) (at3 b 0) = false from hv] at e
           have e2 := q6s ms a b (3 - 1) 1 e
           rw [show 1 + (3 - 1) = 3 by omega] at e2
           rw [HV.out, e2]; rfl
        · go_wp2
          go_still_tail 8, (by kernel_rfl)
          change wpList _ _ _ _ _ (World.drew wr)
          go_wp2_with (go_at_call 354; refine (q3n A0 n0 c0 A1 n1 c1 A2 n2 c2 A3 c3 ms p q 0 _ _ _ (Kd.q0h HC2.out (q1a (Below.refl _ _)))).mono ?_; rintro e w9 ⟨rfl, hb⟩; rw [hv]; replace hb := Below.trans (q1a (Below.refl wr.heap.size wr)) (hb.mono (Nat.le_refl _)))
          all_goals go_wp2
          all_goals go_roundw
          all_goals first
           | (case rel => exact ⟨1, by simp, by omega, ⟨HU.out.trans hv⟩, ⟨HB.out.trans (hb.mono HB.out.size)⟩⟩)
           | (case measure => simp [intOf]; omega)
           | (case measure => simp [intOf])
      · cases hv : z1q ms 1 a.2.1 b.2.1
        · go_wp2
          go_still_tail 8, (by kernel_rfl)
          change wpList _ _ _ _ _ (World.drew wr)
          go_wp2_with (go_at_call 354; refine (q3n A0 n0 c0 A1 n1 c1 A2 n2 c2 A3 c3 ms p q 1 _ _ _ (Kd.q0h HC2.out (q1a (Below.refl _ _)))).mono ?_; rintro e w9 ⟨rfl, hb⟩; rw [hv]; replace hb := Below.trans (q1a (Below.refl wr.heap.size wr)) (hb.mono (Nat.le_refl _)))
          all_goals go_wp2
          all_goals go_ret
          all_goals refine ⟨?_, HB2.out.trans (hb.mono HB2.out.size)⟩
          all_goals
           have e := HU.out
           rw [show z1q ms ((1 : Nat) : Int) (at3 a 1) (at3 b 1) = false from hv] at e
           have e2 := q6s ms a b (3 - 2) 2 e
           rw [show 2 + (3 - 2) = 3 by omega] at e2
           rw [HV.out, e2]; rfl
        · go_wp2
          go_still_tail 8, (by kernel_rfl)
          change wpList _ _ _ _ _ (World.drew wr)
          go_wp2_with (go_at_call 354; refine (q3n A0 n0 c0 A1 n1 c1 A2 n2 c2 A3 c3 ms p q 1 _ _ _ (Kd.q0h HC2.out (q1a (Below.refl _ _)))).mono ?_; rintro e w9 ⟨rfl, hb⟩; rw [hv]; replace hb := Below.trans (q1a (Below.refl wr.heap.size wr)) (hb.mono (Nat.le_refl _)))
          all_goals go_wp2
          all_goals go_roundw
          all_goals first
           | (case rel => exact ⟨2, by simp, by omega, ⟨HU.out.trans hv⟩, ⟨HB.out.trans (hb.mono HB.out.size)⟩⟩)
           | (case measure => simp [intOf]; omega)
           | (case measure => simp [intOf])
      · cases hv : z1q ms 2 a.2.2 b.2.2
        · go_wp2
          go_still_tail 8, (by kernel_rfl)
          change wpList _ _ _ _ _ (World.drew wr)
          go_wp2_with (go_at_call 354; refine (q3n A0 n0 c0 A1 n1 c1 A2 n2 c2 A3 c3 ms p q 2 _ _ _ (Kd.q0h HC2.out (q1a (Below.refl _ _)))).mono ?_; rintro e w9 ⟨rfl, hb⟩; rw [hv]; replace hb := Below.trans (q1a (Below.refl wr.heap.size wr)) (hb.mono (Nat.le_refl _)))
          all_goals go_wp2
          all_goals go_ret
          all_goals refine ⟨?_, HB2.out.trans (hb.mono HB2.out.size)⟩
          all_goals
           have e := HU.out
           rw [show z1q ms ((2 : Nat) : Int) (at3 a 2) (at3 b 2) = false from hv] at e
           have e2 := q6s ms a b (3 - 3) 3 e
           rw [show 3 + (3 - 3) = 3 by omega] at e2
           rw [HV.out, e2]; rfl
        · go_wp2
          go_still_tail 8, (by kernel_rfl)
          change wpList _ _ _ _ _ (World.drew wr)
          go_wp2_with (go_at_call 354; refine (q3n A0 n0 c0 A1 n1 c1 A2 n2 c2 A3 c3 ms p q 2 _ _ _ (Kd.q0h HC2.out (q1a (Below.refl _ _)))).mono ?_; rintro e w9 ⟨rfl, hb⟩; rw [hv]; replace hb := Below.trans (q1a (Below.refl wr.heap.size wr)) (hb.mono (Nat.le_refl _)))
          all_goals go_wp2
          all_goals go_roundw
          all_goals first
           | (case rel => exact ⟨3, by simp, by omega, ⟨HU.out.trans hv⟩, ⟨HB.out.trans (hb.mono HB.out.size)⟩⟩)
           | (case measure => simp [intOf]; omega)
           | (case measure => simp [intOf])
    · have d1 : decide ((i : Int) < 3) = false := decide_eq_false hlt
      have e : i = 3 := by omega
      have E := HN.out
      rw [e] at E
      rw [← HV.out] at E
      have HE := aq E
      clear E
      go_wp2
      go_ret
      exact ⟨by rw [HE.out]; rfl, B0.trans (HB.out.mono B0.size)⟩
 · have h3 : lv ≤ 3 := by assumption
   have h4 : 0 < lv := by assumption
   have hv : z4p ms a b lv = upN ms a b lv.toNat := by unfold z4p; congr 1; omega
   have HV := aq hv
   clear hv
   rw [← HW.out]
   go_loopw [13] (fun vi wr => ∃ i : Nat, vi = .int .i64 (i : Int) ∧ i ≤ lv.toNat ∧ q0c (upN ms a b i = true) ∧ q0c (Below W0.heap.size W0 wr)) (fun vi _ => lv.toNat - (intOf vi).toNat)
   case atStart => exact ⟨0, rfl, Nat.zero_le _, ⟨rfl⟩, ⟨Below.refl _ _⟩⟩
   case round =>
    obtain ⟨i, rfl, hi, HN, HB⟩ := hrel
    by_cases hlt : (i : Int) < lv
    · have d1 : decide ((i : Int) < lv) = true := decide_eq_true hlt
      have B2 : Below w.heap.size w wr := B0.trans (HB.out.mono B0.size)
      have HC2 := aq (Kd.q0h HC.out B2)
      have k0 := (HB.out.block _ (by omega)).trans b0
      have k1 := (HB.out.block _ (by omega)).trans b1
      have k2 := (HB.out.block _ (by omega)).trans b2
      have z0 := q0w k0
      have z1 := q0w k1
      have z2 := q0w k2
      have HB2 := aq B2
      have q0 := z0 0
      have q1 := z0 1
      have q2 := z0 2
      have q3 := z0 3
      have q4 := z0 4
      have q5 := z0 5
      have r0 := z1 0
      have r1 := z1 1
      have r2 := z1 2
      have s0 := z2 0
      have s1 := z2 1
      have s2 := z2 2
      simp only [List.getElem?_toArray, List.getElem?_cons_zero, List.getElem?_cons_succ] at q0 q1 q2 q3 q4 q5 r0 r1 r2 s0 s1 s2
      have sw : w.heap.size + 1 + 1 < wr.heap.size := by have := HB.out.size; omega
      have U := z2f ms a b i
      rw [HN.out, Bool.true_and] at U
      have HU := aq U
      clear k0 k1 k2 z0 z1 z2 B2 U b0 b1 b2
      obtain rfl | rfl | rfl : i = 0 ∨ i = 1 ∨ i = 2 := by omega
      · cases hv : z1q ms 0 a.1 b.1
        · go_wp2
          go_still_tail 8, (by kernel_rfl)
          change wpList _ _ _ _ _ (World.drew wr)
          go_wp2_with (go_at_call 354; refine (q3n A0 n0 c0 A1 n1 c1 A2 n2 c2 A3 c3 ms p q 0 _ _ _ (Kd.q0h HC2.out (q1a (Below.refl _ _)))).mono ?_; rintro e w9 ⟨rfl, hb⟩; rw [hv]; replace hb := Below.trans (q1a (Below.refl wr.heap.size wr)) (hb.mono (Nat.le_refl _)))
          all_goals go_wp2
          all_goals go_ret
          all_goals refine ⟨?_, HB2.out.trans (hb.mono HB2.out.size)⟩
          all_goals
           have e := HU.out
           rw [show z1q ms ((0 : Nat) : Int) (at3 a 0) (at3 b 0) = false from hv] at e
           have e2 := q6s ms a b (lv.toNat - 1) 1 e
           rw [show 1 + (lv.toNat - 1) = lv.toNat by omega] at e2
           rw [HV.out, e2]; rfl
        · go_wp2
          go_still_tail 8, (by kernel_rfl)
          change wpList _ _ _ _ _ (World.drew wr)
          go_wp2_with (go_at_call 354; refine (q3n A0 n0 c0 A1 n1 c1 A2 n2 c2 A3 c3 ms p q 0 _ _ _ (Kd.q0h HC2.out (q1a (Below.refl _ _)))).mono ?_; rintro e w9 ⟨rfl, hb⟩; rw [hv]; replace hb := Below.trans (q1a (Below.refl wr.heap.size wr)) (hb.mono (Nat.le_refl _)))
          all_goals go_wp2
          all_goals go_roundw
          all_goals first
           | (case rel => exact ⟨1, by simp, by omega, ⟨HU.out.trans hv⟩, ⟨HB.out.trans (hb.mono HB.out.size)⟩⟩)
           | (case measure => simp [intOf]; omega)
           | (case measure => simp [intOf])
      · cases hv : z1q ms 1 a.2.1 b.2.1
        · go_wp2
          go_still_tail 8, (by kernel_rfl)
          change wpList _ _ _ _ _ (World.drew wr)
          go_wp2_with (go_at_call 354; refine (q3n A0 n0 c0 A1 n1 c1 A2 n2 c2 A3 c3 ms p q 1 _ _ _ (Kd.q0h HC2.out (q1a (Below.refl _ _)))).mono ?_; rintro e w9 ⟨rfl, hb⟩; rw [hv]; replace hb := Below.trans (q1a (Below.refl wr.heap.size wr)) (hb.mono (Nat.le_refl _)))
          all_goals go_wp2
          all_goals go_ret
          all_goals refine ⟨?_, HB2.out.trans (hb.mono HB2.out.size)⟩
          all_goals
           have e := HU.out
           rw [show z1q ms ((1 : Nat) : Int) (at3 a 1) (at3 b 1) = false from hv] at e
           have e2 := q6s ms a b (lv.toNat - 2) 2 e
           rw [show 2 + (lv.toNat - 2) = lv.toNat by omega] at e2
           rw [HV.out, e2]; rfl
        · go_wp2
          go_still_tail 8, (by kernel_rfl)
          change wpList _ _ _ _ _ (World.drew wr)
          go_wp2_with (go_at_call 354; refine (q3n A0 n0 c0 A1 n1 c1 A2 n2 c2 A3 c3 ms p q 1 _ _ _ (Kd.q0h HC2.out (q1a (Below.refl _ _)))).mono ?_; rintro e w9 ⟨rfl, hb⟩; rw [hv]; replace hb := Below.trans (q1a (Below.refl wr.heap.size wr)) (hb.mono (Nat.le_refl _)))
          all_goals go_wp2
          all_goals go_roundw
          all_goals first
           | (case rel => exact ⟨2, by simp, by omega, ⟨HU.out.trans hv⟩, ⟨HB.out.trans (hb.mono HB.out.size)⟩⟩)
           | (case measure => simp [intOf]; omega)
           | (case measure => simp [intOf])
      · cases hv : z1q ms 2 a.2.2 b.2.2
        · go_wp2
          go_still_tail 8, (by kernel_rfl)
          change wpList _ _ _ _ _ (World.drew wr)
          go_wp2_with (go_at_call 354; refine (q3n A0 n0 c0 A1 n1 c1 A2 n2 c2 A3 c3 ms p q 2 _ _ _ (Kd.q0h HC2.out (q1a (Below.refl _ _)))).mono ?_; rintro e w9 ⟨rfl, hb⟩; rw [hv]; replace hb := Below.trans (q1a (Below.refl wr.heap.size wr)) (hb.mono (Nat.le_refl _)))
          all_goals go_wp2
          all_goals go_ret
          all_goals refine ⟨?_, HB2.out.trans (hb.mono HB2.out.size)⟩
          all_goals
           have e := HU.out
           rw [show z1q ms ((2 : Nat) : Int) (at3 a 2) (at3 b 2) = false from hv] at e
           have e2 := q6s ms a b (lv.toNat - 3) 3 e
           rw [show 3 + (lv.toNat - 3) = lv.toNat by omega] at e2
           rw [HV.out, e2]; rfl
        · go_wp2
          go_still_tail 8, (by kernel_rfl)
          change wpList _ _ _ _ _ (World.drew wr)
          go_wp2_with (go_at_call 354; refine (q3n A0 n0 c0 A1 n1 c1 A2 n2 c2 A3 c3 ms p q 2 _ _ _ (Kd.q0h HC2.out (q1a (Below.refl _ _)))).mono ?_; rintro e w9 ⟨rfl, hb⟩; rw [hv]; replace hb := Below.trans (q1a (Below.refl wr.heap.size wr)) (hb.mono (Nat.le_refl _)))
          all_goals go_wp2
          all_goals go_roundw
          all_goals first
           | (case rel => exact ⟨3, by simp, by omega, ⟨HU.out.trans hv⟩, ⟨HB.out.trans (hb.mono HB.out.size)⟩⟩)
           | (case measure => simp [intOf]; omega)
           | (case measure => simp [intOf])
    · have d1 : decide ((i : Int) < lv) = false := decide_eq_false hlt
      have e : i = lv.toNat := by omega
      have E := HN.out
      rw [e] at E
      rw [← HV.out] at E
      have HE := aq E
      clear E
      go_wp2
      go_ret
      exact ⟨by rw [HE.out]; rfl, B0.trans (HB.out.mono B0.size)⟩
 · have h3 : lv ≤ 3 := by assumption
   have h4 : lv ≤ 0 := by assumption
   have hv : z4p ms a b lv = upN ms a b 0 := by unfold z4p; congr 1; omega
   have HV := aq hv
   clear hv
   rw [← HW.out]
   go_loopw [13] (fun vi wr => ∃ i : Nat, vi = .int .i64 (i : Int) ∧ i ≤ 0 ∧ q0c (upN ms a b i = true) ∧ q0c (Below W0.heap.size W0 wr)) (fun vi _ => 0 - (intOf vi).toNat)
   case atStart => exact ⟨0, rfl, Nat.zero_le _, ⟨rfl⟩, ⟨Below.refl _ _⟩⟩
   case round =>
    obtain ⟨i, rfl, hi, HN, HB⟩ := hrel
    by_cases hlt : (i : Int) < 0
    · have d1 : decide ((i : Int) < 0) = true := decide_eq_true hlt
      have B2 : Below w.heap.size w wr := B0.trans (HB.out.mono B0.size)
      have HC2 := aq (Kd.q0h HC.out B2)
      have k0 := (HB.out.block _ (by omega)).trans b0
      have k1 := (HB.out.block _ (by omega)).trans b1
      have k2 := (HB.out.block _ (by omega)).trans b2
      have z0 := q0w k0
      have z1 := q0w k1
      have z2 := q0w k2
      have HB2 := aq B2
      have q0 := z0 0
      have q1 := z0 1
      have q2 := z0 2
      have q3 := z0 3
      have q4 := z0 4
      have q5 := z0 5
      have r0 := z1 0
      have r1 := z1 1
      have r2 := z1 2
      have s0 := z2 0
      have s1 := z2 1
      have s2 := z2 2
      simp only [List.getElem?_toArray, List.getElem?_cons_zero, List.getElem?_cons_succ] at q0 q1 q2 q3 q4 q5 r0 r1 r2 s0 s1 s2
      have sw : w.heap.size + 1 + 1 < wr.heap.size := by have := HB.out.size; omega
      have U := z2f ms a b i
      rw [HN.out, Bool.true_and] at U
      have HU := aq U
      clear k0 k1 k2 z0 z1 z2 B2 U b0 b1 b2
      omega
    · have d1 : decide ((i : Int) < 0) = false := decide_eq_false hlt
      have e : i = 0 := by omega
      have E := HN.out
      rw [e] at E
      rw [← HV.out] at E
      have HE := aq E
      clear E
      go_wp2
      go_ret
      exact ⟨by rw [HE.out]; rfl, B0.trans (HB.out.mono B0.size)⟩
def k3 (s : S30) : K3 := (s.f0, s.f1, s.f2)
def k8z (x : S53) : Value := .agg #[.int .i64 x.f0, .int .i64 x.f1, .bool x.f2, .string x.f3.f0, .string x.f3.f1, .string x.f3.f2, .string x.f4.f0, .string x.f4.f1, .string x.f4.f2]
def z6j (ms : List S69) (x : S53) (a b : K3) (lv : Int) : Bool := z4p ms (k3 x.f3) a lv && z4p ms (k3 x.f4) b lv
theorem q6m (bi bl : Nat) (A0 : Option Addr) (n0 c0 : Nat) (A1 : Option Addr) (n1 c1 : Nat) (A2 : Option Addr) (n2 c2 : Nat) (A3 : Option Addr) (c3 : Nat) (ms : List S69) (p q : Int) (x : S53) (a b : K3) (lv : Int) (w : World) (hC : Kd.C k69 w A3 ms.length ms)
 (hi : w.heap[bi]? = some (.cells #[.slice A0 n0 c0, .slice A1 n1 c1, .slice A2 n2 c2, .slice A3 ms.length c3, .int .i64 p, .int .i64 q] 51 (0, 0))) (hl : w.heap[bl]? = some (.cells #[.int .i64 lv] 3 (0, 0))) :
 Calls Tryz.prog 352 #[k8z x, .agg #[.string a.1, .string a.2.1, .string a.2.2], .agg #[.string b.1, .string b.2.1, .string b.2.2], .pointer (some ⟨bi, 0, none⟩), .pointer (some ⟨bl, 0, none⟩)] w fun e w' => e = .returned (.bool (z6j ms x a b lv)) ∧ Below w.heap.size w w' := by
 have hu39 := Tryz.underlying51
 have hu30 := Tryz.underlying123
 have hu53 := Tryz.underlying125
 have z0 := q0w hi
 have q0 := z0 0
 have q1 := z0 1
 have q2 := z0 2
 have q3 := z0 3
 have q4 := z0 4
 have q5 := z0 5
 have r0 := q0w hl 0
 simp only [List.getElem?_toArray, List.getElem?_cons_zero, List.getElem?_cons_succ] at q0 q1 q2 q3 q4 q5 r0
 have si : bi < w.heap.size := (Array.getElem?_eq_some_iff.1 hi).1
 have sl : bl < w.heap.size := (Array.getElem?_eq_some_iff.1 hl).1
 have m0 : bi ≠ w.heap.size := by omega
 have m1 : bi ≠ w.heap.size + 1 := by omega
 have m2 : bi ≠ w.heap.size + 1 + 1 := by omega
 have m3 : bl ≠ w.heap.size := by omega
 have m4 : bl ≠ w.heap.size + 1 := by omega
 have m5 : bl ≠ w.heap.size + 1 + 1 := by omega
 have u0 : bi < w.heap.size + 1 := by omega
 have u1 : bi < w.heap.size + 1 + 1 := by omega
 have u2 : bl < w.heap.size + 1 := by omega
 have u3 : bl < w.heap.size + 1 + 1 := by omega
 have HC := aq hC
 obtain ⟨W0, hW0⟩ : ∃ W0, W0 = ((w.alloc (.cells #[.int .i64 x.f0, .int .i64 x.f1, .bool x.f2, .string x.f3.f0, .string x.f3.f1, .string x.f3.f2, .string x.f4.f0, .string x.f4.f1, .string x.f4.f2] 125)).alloc (.cells #[.string a.1, .string a.2.1, .string a.2.2] 123)).alloc (.cells #[.string b.1, .string b.2.1, .string b.2.2] 123) := ⟨_, rfl⟩
 have B0 : Below w.heap.size w W0 := by rw [hW0]; exact q0b (q0b (q0b (Below.refl _ _) _) _) _
 have sz0 : W0.heap.size = w.heap.size + 3 := by rw [hW0]; simp
 have hi0 := (B0.block bi si).trans hi
 have hl0 := (B0.block bl sl).trans hl
 have h5 : W0.heap[w.heap.size]? = some (.cells #[.int .i64 x.f0, .int .i64 x.f1, .bool x.f2, .string x.f3.f0, .string x.f3.f1, .string x.f3.f2, .string x.f4.f0, .string x.f4.f1, .string x.f4.f2] 125 (0, 0)) := by rw [hW0]; exact ((q0b (q0b (Below.refl _ _) _) _).block _ (by simp)).trans (World.alloc_heap_new w _)
 have h7 : W0.heap[w.heap.size + 1 + 1]? = some (.cells #[.string b.1, .string b.2.1, .string b.2.2] 123 (0, 0)) := by
  have := World.alloc_heap_new ((w.alloc (.cells #[.int .i64 x.f0, .int .i64 x.f1, .bool x.f2, .string x.f3.f0, .string x.f3.f1, .string x.f3.f2, .string x.f4.f0, .string x.f4.f1, .string x.f4.f2] 125)).alloc (.cells #[.string a.1, .string a.2.1, .string a.2.2] 123)) (.cells #[.string b.1, .string b.2.1, .string b.2.2] 123)
  rw [World.size_alloc, World.size_alloc] at this
  rw [hW0]; exact this
 have HW := aq hW0
 have I0 := aq hi0
 have L0 := aq hl0
 have H5 := aq h5
 have H7 := aq h7
 have HB0 := aq B0
 clear hC z0 hi hl hW0 hi0 hl0 h5 h7 B0
 unfold k8z
 go_enter Tryz.func352, Tryz.ntmps352
 cases hv : z4p ms (k3 x.f3) a lv
 · have hb0 : z6j ms x a b lv = false := by unfold z6j; rw [hv]; rfl
   have HB := aq hb0
   clear hb0
   go_wp2_with (go_at_call 353; refine (z1d A0 n0 c0 A1 n1 c1 A2 n2 c2 A3 c3 ms p q (k3 x.f3) a lv _ (Kd.q0h HC.out (by repeat (first | exact Below.refl _ _ | apply q0b)))).mono ?_; rintro e w1 ⟨rfl, hb⟩; rw [hv]; replace hb := Below.trans (show Below w.heap.size w _ by repeat (first | exact Below.refl _ _ | apply q0b)) (hb.mono (by simp; omega)))
   go_ret
   exact ⟨by rw [HB.out]; rfl, hb⟩
 · have hb0 : z6j ms x a b lv = z4p ms (k3 x.f4) b lv := by unfold z6j; rw [hv]; rfl
   have HB := aq hb0
   clear hb0
   go_wp2_with (first | (go_at_call 353; rw [← HW.out]; refine (z1d A0 n0 c0 A1 n1 c1 A2 n2 c2 A3 c3 ms p q (k3 x.f3) a lv W0 (Kd.q0h HC.out HB0.out)).mono ?_; rintro e w1 ⟨rfl, hb⟩; rw [hv]; have s1 := hb.size; rw [sz0] at s1; have zi := q0w ((hb.block bi (by omega)).trans I0.out); have zl := q0w ((hb.block bl (by omega)).trans L0.out); have z5 := q0w ((hb.block w.heap.size (by omega)).trans H5.out); have z7 := q0w ((hb.block (w.heap.size + 1 + 1) (by omega)).trans H7.out); have y0 := zi 0; have y1 := zi 1; have y2 := zi 2; have y3 := zi 3; have y4 := zi 4; have y5 := zi 5; have v0 := zl 0; have x6 := z5 6; have x7 := z5 7; have x8 := z5 8; have u4 := z7 0; have u5 := z7 1; have u6 := z7 2; simp only [List.getElem?_toArray, List.getElem?_cons_zero, List.getElem?_cons_succ] at y0 y1 y2 y3 y4 y5 v0 x6 x7 x8 u4 u5 u6; clear zi zl z5 z7; have K1 := aq hb; clear hb) | (go_at_call 353; refine (z1d A0 n0 c0 A1 n1 c1 A2 n2 c2 A3 c3 ms p q (k3 x.f4) b lv _ (Kd.q0h HC.out (HB0.out.trans (K1.out.mono HB0.out.size)))).mono ?_; rintro e w2 ⟨rfl, hb2⟩))
   go_ret
   exact ⟨by rw [HB.out]; rfl, (HB0.out.trans (K1.out.mono HB0.out.size)).trans (hb2.mono (by omega))⟩
def v6b (ms : List S69) (r : S53) (d s : K3) (lv : Int) : Bool := decide (r.f0 = lv) && (z6j ms r d s lv || (!r.f2 && z6j ms r s d lv))
def z3o (rs : List S53) (ms : List S69) (lv : Int) (d s : K3) : Int :=
 if lv < 1 ∨ 3 < lv then 100 else if at3 d (lv - 1).toNat = at3 s (lv - 1).toNat then 0 else match rs.find? fun r => v6b ms r d s lv with
 | some r => r.f1
 | none => 100
theorem q7a {α : Type} (P : α → Bool) (l : List α) (i : Nat) (h : i < l.length) (hn : (l.take i).find? P = none) (hp : P (l[i]'h) = false) : (l.take (i + 1)).find? P = none := by
 rw [List.take_succ_eq_append_getElem h, List.find?_append, hn]
 simp [List.find?, hp]
theorem q9g {α : Type} (P : α → Bool) (l : List α) (i : Nat) (h : i < l.length) (hn : (l.take i).find? P = none) (hp : P (l[i]'h) = true) : l.find? P = some (l[i]'h) := by
 have e : l.find? P = (l.take (i + 1) ++ l.drop (i + 1)).find? P := by rw [List.take_append_drop]
 rw [e, List.find?_append, List.take_succ_eq_append_getElem h, List.find?_append, hn]
 simp [List.find?, hp]
theorem v4o (A0 : Option Addr) (n0 c0 : Nat) (A1 : Option Addr) (n1 c1 : Nat) (A2 : Option Addr) (c2 : Nat) (A3 : Option Addr) (c3 : Nat) (rs : List S53) (ms : List S69) (p q : Int) (lv : Int) (d s : K3) (w : World) (hR : Kd.C k53 w A2 rs.length rs) (hC : Kd.C k69 w A3 ms.length ms) :
 Calls Tryz.prog 349 #[.agg #[.slice A0 n0 c0, .slice A1 n1 c1, .slice A2 rs.length c2, .slice A3 ms.length c3, .int .i64 p, .int .i64 q], .int .i64 lv, .agg #[.string d.1, .string d.2.1, .string d.2.2], .agg #[.string s.1, .string s.2.1, .string s.2.2]] w fun e w' => e = .returned (.int .i64 (z3o rs ms lv d s)) ∧ Below w.heap.size w w' := by
 have hu39 := Tryz.underlying51
 have hu30 := Tryz.underlying123
 have hu53 := Tryz.underlying125
 have hmax := Kd.v2m hR
 obtain ⟨W0, hW0⟩ : ∃ W0, W0 = (((w.alloc (.cells #[.slice A0 n0 c0, .slice A1 n1 c1, .slice A2 rs.length c2, .slice A3 ms.length c3, .int .i64 p, .int .i64 q] 51)).alloc (.cells #[.int .i64 lv] 3)).alloc (.cells #[.string d.1, .string d.2.1, .string d.2.2] 123)).alloc (.cells #[.string s.1, .string s.2.1, .string s.2.2] 123) := ⟨_, rfl⟩
 have B0 : Below w.heap.size w W0 := by rw [hW0]; exact q0b (q0b (q0b (q0b (Below.refl _ _) _) _) _) _
 have sz0 : W0.heap.size = w.heap.size + 4 := by rw [hW0]; simp
 have h0 : W0.heap[w.heap.size]? = some (.cells #[.slice A0 n0 c0, .slice A1 n1 c1, .slice A2 rs.length c2, .slice A3 ms.length c3, .int .i64 p, .int .i64 q] 51 (0, 0)) := by rw [hW0]; exact ((q0b (q0b (q0b (Below.refl _ _) _) _) _).block _ (by simp)).trans (World.alloc_heap_new w _)
 have h1 : W0.heap[w.heap.size + 1]? = some (.cells #[.int .i64 lv] 3 (0, 0)) := by
  have := World.alloc_heap_new (w.alloc (.cells #[.slice A0 n0 c0, .slice A1 n1 c1, .slice A2 rs.length c2, .slice A3 ms.length c3, .int .i64 p, .int .i64 q] 51)) (.cells #[.int .i64 lv] 3)
  rw [World.size_alloc] at this
  rw [hW0]; exact ((q0b (q0b (Below.refl _ _) _) _).block _ (by simp)).trans this
 have h2 : W0.heap[w.heap.size + 1 + 1]? = some (.cells #[.string d.1, .string d.2.1, .string d.2.2] 123 (0, 0)) := by
  have := World.alloc_heap_new ((w.alloc (.cells #[.slice A0 n0 c0, .slice A1 n1 c1, .slice A2 rs.length c2, .slice A3 ms.length c3, .int .i64 p, .int .i64 q] 51)).alloc (.cells #[.int .i64 lv] 3)) (.cells #[.string d.1, .string d.2.1, .string d.2.2] 123)
  rw [World.size_alloc, World.size_alloc] at this
  rw [hW0]; exact ((q0b (Below.refl _ _) _).block _ (by simp)).trans this
 have h3 : W0.heap[w.heap.size + 1 + 1 + 1]? = some (.cells #[.string s.1, .string s.2.1, .string s.2.2] 123 (0, 0)) := by
  have := World.alloc_heap_new (((w.alloc (.cells #[.slice A0 n0 c0, .slice A1 n1 c1, .slice A2 rs.length c2, .slice A3 ms.length c3, .int .i64 p, .int .i64 q] 51)).alloc (.cells #[.int .i64 lv] 3)).alloc (.cells #[.string d.1, .string d.2.1, .string d.2.2] 123)) (.cells #[.string s.1, .string s.2.1, .string s.2.2] 123)
  rw [World.size_alloc, World.size_alloc, World.size_alloc] at this
  rw [hW0]; exact this
 have HR := aq (Kd.q0h hR B0)
 have HC := aq (Kd.q0h hC B0)
 have HW := aq hW0
 have H0 := aq h0
 have H1 := aq h1
 have H2 := aq h2
 have H3 := aq h3
 have HB0 := aq B0
 clear hR hC hW0 h0 h1 h2 h3 B0
 go_enter Tryz.func349, Tryz.ntmps349
 by_cases hlv : lv < 1 ∨ 3 < lv
 · have hv : z3o rs ms lv d s = 100 := by unfold z3o; rw [if_pos hlv]
   have HV := aq hv
   clear hv
   rcases hlv with hl | hl
   · go_wp2
     go_ret
     exact ⟨by rw [HV.out]; rfl, by repeat (first | exact Below.refl _ _ | apply q0b)⟩
   · have hl2 : ¬ lv < 1 := by omega
     go_wp2
     go_ret
     exact ⟨by rw [HV.out]; rfl, by repeat (first | exact Below.refl _ _ | apply q0b)⟩
 · obtain ⟨L, hL⟩ : ∃ L : Int, L = lv := ⟨_, rfl⟩
   have HL := aq hL
   clear hL
   obtain rfl | rfl | rfl : lv = 1 ∨ lv = 2 ∨ lv = 3 := by omega
   all_goals
    clear hlv
    go_wp2
    rw [← HW.out]
    have w1 := q0w H1.out 0
    have zd := q0w H2.out
    have zs := q0w H3.out
    have zi := q0w H0.out
    have v0 := zd 0
    have v1 := zd 1
    have v2 := zd 2
    have v3 := zs 0
    have v4 := zs 1
    have v5 := zs 2
    have i2 := zi 2
    simp only [List.getElem?_toArray, List.getElem?_cons_zero, List.getElem?_cons_succ] at w1 v0 v1 v2 v3 v4 v5 i2
    clear zd zs zi
    have hw : IntKind.i64.wrap 0 = 0 := by rfl
    have hw1 : IntKind.i64.wrap 1 = 1 := by rfl
    have hw2 : IntKind.i64.wrap 2 = 2 := by rfl
    go_still (by kernel_rfl)
    go_wp2
    · have he : at3 d (L - 1).toNat = at3 s (L - 1).toNat := by rw [HL.out]; exact toList_inj (eq_of_beq (by assumption))
      have hv : z3o rs ms L d s = 0 := by { unfold z3o; rw [if_neg (by have := HL.out; omega), if_pos he] }
      rw [HL.out] at hv
      go_ret
      exact ⟨by rw [hv]; rfl, HB0.out.trans ((q1a (Below.refl W0.heap.size W0)).mono HB0.out.size)⟩
    first
     | rw [show (d.1.toList == s.1.toList) = false by assumption]
     | rw [show (d.2.1.toList == s.2.1.toList) = false by assumption]
     | rw [show (d.2.2.toList == s.2.2.toList) = false by assumption]
    have he : ¬ at3 d (L - 1).toNat = at3 s (L - 1).toNat := by rw [HL.out]; exact fun e => ne_of_beq_false (by assumption) (congrArg ByteArray.toList e)
    have hc : z3o rs ms L d s = match rs.find? fun r => v6b ms r d s L with
     | some r => r.f1
     | none => 100 := by unfold z3o; rw [if_neg (by have := HL.out; omega), if_neg he]
    clear he
    have HCC := aq hc
    clear hc
    go_loopw [31] (fun vi wr => ∃ i : Nat, vi = .int .i64 (i : Int) ∧ i ≤ rs.length ∧ q0c ((rs.take i).find? (fun r => v6b ms r d s L) = none) ∧ q0c (Below W0.heap.size W0 wr)) (fun vi _ => rs.length - (intOf vi).toNat)
    case atStart => exact ⟨0, rfl, Nat.zero_le _, ⟨rfl⟩, ⟨q1a (Below.refl _ _)⟩⟩
    case round =>
     clear w1 v0 v1 v2 v3 v4 v5 i2
     obtain ⟨i, rfl, hi, HN, HB⟩ := hrel
     have BW := HB0.out.trans (HB.out.mono HB0.out.size)
     have HBW := aq BW
     by_cases hlt : i < rs.length
     · have sr := HB.out.size
       have sw0 : w.heap.size < wr.heap.size := by omega
       have sw1 : w.heap.size + 1 < wr.heap.size := by omega
       have sw2 : w.heap.size + 1 + 1 < wr.heap.size := by omega
       have sw3 : w.heap.size + 1 + 1 + 1 < wr.heap.size := by omega
       have K0 := aq ((HB.out.block _ (by omega)).trans H0.out)
       have K1 := aq ((HB.out.block _ (by omega)).trans H1.out)
       have K2 := aq ((HB.out.block _ (by omega)).trans H2.out)
       have K3 := aq ((HB.out.block _ (by omega)).trans H3.out)
       obtain ⟨ad, e, x0, x1, x2, x3, x4, x5, x6, x7, x8⟩ := j0e HR.out (i : Int) (by omega) (by omega)
       cases e
       have bl := World.block_lt_of_cell? W0 _ x0
       replace x0 := (HB.out.cell (World.block_lt_of_cell? W0 _ x0)).trans x0
       replace x1 := (HB.out.cell (World.block_lt_of_cell? W0 _ x1)).trans x1
       replace x2 := (HB.out.cell (World.block_lt_of_cell? W0 _ x2)).trans x2
       replace x3 := (HB.out.cell (World.block_lt_of_cell? W0 _ x3)).trans x3
       replace x4 := (HB.out.cell (World.block_lt_of_cell? W0 _ x4)).trans x4
       replace x5 := (HB.out.cell (World.block_lt_of_cell? W0 _ x5)).trans x5
       replace x6 := (HB.out.cell (World.block_lt_of_cell? W0 _ x6)).trans x6
       replace x7 := (HB.out.cell (World.block_lt_of_cell? W0 _ x7)).trans x7
       replace x8 := (HB.out.cell (World.block_lt_of_cell? W0 _ x8)).trans x8
       obtain ⟨x, hx⟩ : ∃ x, x = q8m rs (i : Int) := ⟨_, rfl⟩
       rw [← hx] at x0 x1 x2 x3 x4 x5 x6 x7 x8
       simp only [Int.toNat_natCast] at x0 x1 x2 x3 x4 x5 x6 x7 x8
       have hx2 : x = rs[i]'hlt := by rw [hx]; simp [q8m, List.getD_eq_getElem?_getD, List.getElem?_eq_getElem hlt]
       have HX := aq hx2
       clear hx hx2 bl BW
       have zd := q0w K2.out
       have zs := q0w K3.out
       have l0 := q0w K1.out 0
       have v0 := zd 0
       have v1 := zd 1
       have v2 := zd 2
       have v3 := zs 0
       have v4 := zs 1
       have v5 := zs 2
       simp only [List.getElem?_toArray, List.getElem?_cons_zero, List.getElem?_cons_succ] at l0 v0 v1 v2 v3 v4 v5
       clear zd zs
       have tok1 : q0c (1 = 1) := ⟨rfl⟩
       have d1 : decide ((i : Int) < (rs.length : Int)) = true := decide_eq_true (by omega)
       by_cases hf0 : x.f0 = L
       · have hq : (x.f0 == L) = true := by rw [hf0]; exact beq_self_eq_true _
         rw [HL.out] at hq
         have HF0 := aq hf0
         clear hf0
         cases hv1 : z6j ms x d s L
         · have hl1 := hv1
           rw [HL.out] at hl1
           cases hf2 : x.f2
           · have hq2 : (!x.f2) = true := by rw [hf2]; rfl
             have HF2 := aq hf2
             clear hf2
             cases hv2 : z6j ms x s d L
             · have hl2 := hv2
               rw [HL.out] at hl2
               have hh : v6b ms x d s L = false := by unfold v6b; rw [hv1, hv2, HF2.out]; simp
               have HH := aq hh
               clear hh
               go_wp2_with (first | (go_at_call 352; clear tok1; refine (q6m w.heap.size (w.heap.size + 1) A0 n0 c0 A1 n1 c1 (some ad) rs.length c2 A3 c3 ms p q x d s _ _ (Kd.q0h HC.out (HB.out.trans ((q0b (Below.refl wr.heap.size wr) _).mono HB.out.size))) (((q0b (Below.refl wr.heap.size wr) _).block _ (by omega)).trans K0.out) (((q0b (Below.refl wr.heap.size wr) _).block _ (by omega)).trans K1.out)).mono ?_; rintro e w1 ⟨rfl, hb⟩; rw [hl1]; have s1 := hb.size; rw [World.size_alloc] at s1; have zr := q0w ((hb.block wr.heap.size (by simp)).trans (World.alloc_heap_new wr (.cells #[.int .i64 x.f0, .int .i64 x.f1, .bool x.f2, .string x.f3.f0, .string x.f3.f1, .string x.f3.f2, .string x.f4.f0, .string x.f4.f1, .string x.f4.f2] 125))); have hb1 := Below.trans (q0b (Below.refl wr.heap.size wr) (.cells #[.int .i64 x.f0, .int .i64 x.f1, .bool x.f2, .string x.f3.f0, .string x.f3.f1, .string x.f3.f2, .string x.f4.f0, .string x.f4.f1, .string x.f4.f2] 125)) (hb.mono (by simp)); have zd := q0w ((hb1.block _ (by omega)).trans K2.out); have zs := q0w ((hb1.block _ (by omega)).trans K3.out); have x0 := zr 0; have x1 := zr 1; have x2 := zr 2; have x3 := zr 3; have x4 := zr 4; have x5 := zr 5; have x6 := zr 6; have x7 := zr 7; have x8 := zr 8; have v0 := zd 0; have v1 := zd 1; have v2 := zd 2; have v3 := zs 0; have v4 := zs 1; have v5 := zs 2; simp only [List.getElem?_toArray, List.getElem?_cons_zero, List.getElem?_cons_succ] at x0 x1 x2 x3 x4 x5 x6 x7 x8 v0 v1 v2 v3 v4 v5; clear zr zd zs; have KR := aq ((hb.block wr.heap.size (by simp)).trans (World.alloc_heap_new wr (.cells #[.int .i64 x.f0, .int .i64 x.f1, .bool x.f2, .string x.f3.f0, .string x.f3.f1, .string x.f3.f2, .string x.f4.f0, .string x.f4.f1, .string x.f4.f2] 125))); have KB := aq hb1; clear hb hb1) | (go_at_call 352; refine (q6m w.heap.size (w.heap.size + 1) A0 n0 c0 A1 n1 c1 (some ad) rs.length c2 A3 c3 ms p q x s d _ _ (Kd.q0h HC.out (HB.out.trans (KB.out.mono HB.out.size))) ((KB.out.block _ (by omega)).trans K0.out) ((KB.out.block _ (by omega)).trans K1.out)).mono ?_; rintro e w2 ⟨rfl, hb2⟩; rw [hl2]; have zr2 := q0w ((hb2.block wr.heap.size (by omega)).trans KR.out); have y1 := zr2 1; simp only [List.getElem?_toArray, List.getElem?_cons_zero, List.getElem?_cons_succ] at y1; clear zr2; have KB2 := aq hb2; clear hb2))
               go_roundw
               case rel => exact ⟨i + 1, by simp, by omega, ⟨q7a _ rs i hlt HN.out (by rw [← HX.out]; exact HH.out)⟩, ⟨(HB.out.trans (KB.out.mono HB.out.size)).trans (KB2.out.mono (by omega))⟩⟩
               case measure => simp [intOf]; omega
             · have hl2 := hv2
               rw [HL.out] at hl2
               have hh : v6b ms x d s L = true := by unfold v6b; rw [hv1, hv2, HF2.out, decide_eq_true HF0.out]; rfl
               have hv : z3o rs ms L d s = x.f1 := by rw [HCC.out, q9g _ rs i hlt HN.out (by rw [← HX.out]; exact hh), ← HX.out]
               rw [HL.out] at hv
               have HV := aq hv
               clear hv hh
               go_wp2_with (first | (go_at_call 352; clear tok1; refine (q6m w.heap.size (w.heap.size + 1) A0 n0 c0 A1 n1 c1 (some ad) rs.length c2 A3 c3 ms p q x d s _ _ (Kd.q0h HC.out (HB.out.trans ((q0b (Below.refl wr.heap.size wr) _).mono HB.out.size))) (((q0b (Below.refl wr.heap.size wr) _).block _ (by omega)).trans K0.out) (((q0b (Below.refl wr.heap.size wr) _).block _ (by omega)).trans K1.out)).mono ?_; rintro e w1 ⟨rfl, hb⟩; rw [hl1]; have s1 := hb.size; rw [World.size_alloc] at s1; have zr := q0w ((hb.block wr.heap.size (by simp)).trans (World.alloc_heap_new wr (.cells #[.int .i64 x.f0, .int .i64 x.f1, .bool x.f2, .string x.f3.f0, .string x.f3.f1, .string x.f3.f2, .string x.f4.f0, .string x.f4.f1, .string x.f4.f2] 125))); have hb1 := Below.trans (q0b (Below.refl wr.heap.size wr) (.cells #[.int .i64 x.f0, .int .i64 x.f1, .bool x.f2, .string x.f3.f0, .string x.f3.f1, .string x.f3.f2, .string x.f4.f0, .string x.f4.f1, .string x.f4.f2] 125)) (hb.mono (by simp)); have zd := q0w ((hb1.block _ (by omega)).trans K2.out); have zs := q0w ((hb1.block _ (by omega)).trans K3.out); have x0 := zr 0; have x1 := zr 1; have x2 := zr 2; have x3 := zr 3; have x4 := zr 4; have x5 := zr 5; have x6 := zr 6; have x7 := zr 7; have x8 := zr 8; have v0 := zd 0; have v1 := zd 1; have v2 := zd 2; have v3 := zs 0; have v4 := zs 1; have v5 := zs 2; simp only [List.getElem?_toArray, List.getElem?_cons_zero, List.getElem?_cons_succ] at x0 x1 x2 x3 x4 x5 x6 x7 x8 v0 v1 v2 v3 v4 v5; clear zr zd zs; have KR := aq ((hb.block wr.heap.size (by simp)).trans (World.alloc_heap_new wr (.cells #[.int .i64 x.f0, .int .i64 x.f1, .bool x.f2, .string x.f3.f0, .string x.f3.f1, .string x.f3.f2, .string x.f4.f0, .string x.f4.f1, .string x.f4.f2] 125))); have KB := aq hb1; clear hb hb1) | (go_at_call 352; refine (q6m w.heap.size (w.heap.size + 1) A0 n0 c0 A1 n1 c1 (some ad) rs.length c2 A3 c3 ms p q x s d _ _ (Kd.q0h HC.out (HB.out.trans (KB.out.mono HB.out.size))) ((KB.out.block _ (by omega)).trans K0.out) ((KB.out.block _ (by omega)).trans K1.out)).mono ?_; rintro e w2 ⟨rfl, hb2⟩; rw [hl2]; have zr2 := q0w ((hb2.block wr.heap.size (by omega)).trans KR.out); have y1 := zr2 1; simp only [List.getElem?_toArray, List.getElem?_cons_zero, List.getElem?_cons_succ] at y1; clear zr2; have KB2 := aq hb2; clear hb2))
               go_ret
               exact ⟨by rw [HV.out]; rfl, (HBW.out.trans (KB.out.mono HBW.out.size)).trans (KB2.out.mono (by omega))⟩
           · have hq2 : (!x.f2) = false := by rw [hf2]; rfl
             have HF2 := aq hf2
             clear hf2
             have hh : v6b ms x d s L = false := by unfold v6b; rw [hv1, HF2.out]; simp
             have HH := aq hh
             clear hh
             go_wp2_with (go_at_call 352; clear tok1; refine (q6m w.heap.size (w.heap.size + 1) A0 n0 c0 A1 n1 c1 (some ad) rs.length c2 A3 c3 ms p q x d s _ _ (Kd.q0h HC.out (HB.out.trans ((q0b (Below.refl wr.heap.size wr) _).mono HB.out.size))) (((q0b (Below.refl wr.heap.size wr) _).block _ (by omega)).trans K0.out) (((q0b (Below.refl wr.heap.size wr) _).block _ (by omega)).trans K1.out)).mono ?_; rintro e w1 ⟨rfl, hb⟩; rw [hl1]; have s1 := hb.size; rw [World.size_alloc] at s1; have zr := q0w ((hb.block wr.heap.size (by simp)).trans (World.alloc_heap_new wr (.cells #[.int .i64 x.f0, .int .i64 x.f1, .bool x.f2, .string x.f3.f0, .string x.f3.f1, .string x.f3.f2, .string x.f4.f0, .string x.f4.f1, .string x.f4.f2] 125))); have hb1 := Below.trans (q0b (Below.refl wr.heap.size wr) (.cells #[.int .i64 x.f0, .int .i64 x.f1, .bool x.f2, .string x.f3.f0, .string x.f3.f1, .string x.f3.f2, .string x.f4.f0, .string x.f4.f1, .string x.f4.f2] 125)) (hb.mono (by simp)); have zd := q0w ((hb1.block _ (by omega)).trans K2.out); have zs := q0w ((hb1.block _ (by omega)).trans K3.out); have x0 := zr 0; have x1 := zr 1; have x2 := zr 2; have x3 := zr 3; have x4 := zr 4; have x5 := zr 5; have x6 := zr 6; have x7 := zr 7; have x8 := zr 8; have v0 := zd 0; have v1 := zd 1; have v2 := zd 2; have v3 := zs 0; have v4 := zs 1; have v5 := zs 2; simp only [List.getElem?_toArray, List.getElem?_cons_zero, List.getElem?_cons_succ] at x0 x1 x2 x3 x4 x5 x6 x7 x8 v0 v1 v2 v3 v4 v5; clear zr zd zs; have KR := aq ((hb.block wr.heap.size (by simp)).trans (World.alloc_heap_new wr (.cells #[.int .i64 x.f0, .int .i64 x.f1, .bool x.f2, .string x.f3.f0, .string x.f3.f1, .string x.f3.f2, .string x.f4.f0, .string x.f4.f1, .string x.f4.f2] 125))); have KB := aq hb1; clear hb hb1)
             go_roundw
             case rel => exact ⟨i + 1, by simp, by omega, ⟨q7a _ rs i hlt HN.out (by rw [← HX.out]; exact HH.out)⟩, ⟨HB.out.trans (KB.out.mono HB.out.size)⟩⟩
             case measure => simp [intOf]; omega
         · have hl1 := hv1
           rw [HL.out] at hl1
           have hh : v6b ms x d s L = true := by unfold v6b; rw [hv1, decide_eq_true HF0.out]; rfl
           have hv : z3o rs ms L d s = x.f1 := by rw [HCC.out, q9g _ rs i hlt HN.out (by rw [← HX.out]; exact hh), ← HX.out]
           rw [HL.out] at hv
           have HV := aq hv
           clear hv hh
           go_wp2_with (go_at_call 352; clear tok1; refine (q6m w.heap.size (w.heap.size + 1) A0 n0 c0 A1 n1 c1 (some ad) rs.length c2 A3 c3 ms p q x d s _ _ (Kd.q0h HC.out (HB.out.trans ((q0b (Below.refl wr.heap.size wr) _).mono HB.out.size))) (((q0b (Below.refl wr.heap.size wr) _).block _ (by omega)).trans K0.out) (((q0b (Below.refl wr.heap.size wr) _).block _ (by omega)).trans K1.out)).mono ?_; rintro e w1 ⟨rfl, hb⟩; rw [hl1]; have s1 := hb.size; rw [World.size_alloc] at s1; have zr := q0w ((hb.block wr.heap.size (by simp)).trans (World.alloc_heap_new wr (.cells #[.int .i64 x.f0, .int .i64 x.f1, .bool x.f2, .string x.f3.f0, .string x.f3.f1, .string x.f3.f2, .string x.f4.f0, .string x.f4.f1, .string x.f4.f2] 125))); have hb1 := Below.trans (q0b (Below.refl wr.heap.size wr) (.cells #[.int .i64 x.f0, .int .i64 x.f1, .bool x.f2, .string x.f3.f0, .string x.f3.f1, .string x.f3.f2, .string x.f4.f0, .string x.f4.f1, .string x.f4.f2] 125)) (hb.mono (by simp)); have zd := q0w ((hb1.block _ (by omega)).trans K2.out); have zs := q0w ((hb1.block _ (by omega)).trans K3.out); have x0 := zr 0; have x1 := zr 1; have x2 := zr 2; have x3 := zr 3; have x4 := zr 4; have x5 := zr 5; have x6 := zr 6; have x7 := zr 7; have x8 := zr 8; have v0 := zd 0; have v1 := zd 1; have v2 := zd 2; have v3 := zs 0; have v4 := zs 1; have v5 := zs 2; simp only [List.getElem?_toArray, List.getElem?_cons_zero, List.getElem?_cons_succ] at x0 x1 x2 x3 x4 x5 x6 x7 x8 v0 v1 v2 v3 v4 v5; clear zr zd zs; have KR := aq ((hb.block wr.heap.size (by simp)).trans (World.alloc_heap_new wr (.cells #[.int .i64 x.f0, .int .i64 x.f1, .bool x.f2, .string x.f3.f0, .string x.f3.f1, .string x.f3.f2, .string x.f4.f0, .string x.f4.f1, .string x.f4.f2] 125))); have KB := aq hb1; clear hb hb1)
           go_ret
           exact ⟨by rw [HV.out]; rfl, HBW.out.trans (KB.out.mono HBW.out.size)⟩
       · have hf1 := hf0
         rw [HL.out] at hf1
         have hh : v6b ms x d s L = false := by unfold v6b; rw [decide_eq_false hf0]; rfl
         have HH := aq hh
         clear hh
         go_wp2
         go_roundw
         case rel => exact ⟨i + 1, by simp, by omega, ⟨q7a _ rs i hlt HN.out (by rw [← HX.out]; exact HH.out)⟩, ⟨HB.out.trans ((q0b (Below.refl wr.heap.size wr) _).mono HB.out.size)⟩⟩
         case measure => simp [intOf]; omega
     · obtain rfl : i = rs.length := by omega
       have d1 : decide (((rs.length : Nat) : Int) < (rs.length : Int)) = false := decide_eq_false (by omega)
       have hN := HN.out
       rw [List.take_length] at hN
       have hv : z3o rs ms L d s = 100 := by rw [HCC.out, hN]
       rw [HL.out] at hv
       have HV := aq hv
       clear hv hN
       go_wp2
       go_ret
       exact ⟨by rw [HV.out]; rfl, HBW.out⟩
def k9z (P : Program) : List Oper → Act → World → Option (Act × World)
 | [], a, w => some (a, w)
 | o :: r, a, w => match o.guard with
  | some _ => none
  | none => match (execOp a.eval o).run P w with
   | .ok (.value v) w' => k9z P r (a.put o.dst v) w'
   | .ok .skip w' => k9z P r (a.put o.dst undef) w'
   | _ => none
theorem q9y {P : Program} {ops : Array Oper} {Q : Exit → Act → World → Prop} : ∀ (l : List Oper) (a : Act) (w : World) (a' : Act) (w' : World), k9z P l a w = some (a', w') → Q .normal a' w' → wpList P ops Q l a w
 | [], a, w, a', w', h, hQ => by
  cases h
  exact wpList_nil hQ
 | o :: r, a, w, a', w', h, hQ => by
  unfold k9z at h
  split at h
  · cases h
  · rename_i hg
    split at h
    · rename_i v w1 hr
      refine wpList_plain hg fun K hK => ?_
      unfold Oper.wp
      rw [hr]
      exact hK _ _ (q9y r _ _ a' w' h hQ)
    · rename_i w1 hr
      refine wpList_plain hg fun K hK => ?_
      unfold Oper.wp
      rw [hr]
      exact hK _ _ (q9y r _ _ a' w' h hQ)
    · cases h
def k2e (P : Program) : Code → Act → World → Option (Bool × Act × World)
 | .region _ ops false, a, w => (k9z P ops.toList a w).map fun x => (false, x)
 | .seq x y, a, w => match k2e P x a w with
  | some (false, a', w') => k2e P y a' w'
  | r => r
 | .ret, a, w => some (true, a, w)
 | .skip, a, w => some (false, a, w)
 | _, _, _ => none
theorem k7j {P : Program} : ∀ (c : Code) (Q : Exit → Act → World → Prop) (a : Act) (w : World) (e : Bool) (a' : Act) (w' : World), k2e P c a w = some (e, a', w') → Q (if e = true then .ret else .normal) a' w' → c.wp P Q a w := by
 intro c
 induction c with
 | seq x y hx hy =>
  intro Q a w e a' w' h hQ
  simp only [k2e] at h
  refine wp_seq ?_
  cases hr : k2e P x a w with
  | none => rw [hr] at h; cases h
  | some r =>
   obtain ⟨e1, a1, w1⟩ := r
   rw [hr] at h
   cases e1 with
   | false => exact hx _ a w false a1 w1 hr (hy Q a1 w1 e a' w' h hQ)
   | true =>
    cases h
    exact hx _ a w true _ _ hr hQ
 | region id ops d =>
  intro Q a w e a' w' h hQ
  cases d with
  | false =>
   simp only [k2e, Option.map_eq_some_iff] at h
   obtain ⟨x, hx, hh⟩ := h
   cases hh
   exact wp_region_list (q9y _ _ _ _ _ hx hQ)
  | true => simp [k2e] at h
 | ret =>
  intro Q a w e a' w' h hQ
  cases h
  exact wp_ret hQ
 | skip =>
  intro Q a w e a' w' h hQ
  cases h
  exact wp_skip hQ
 | _ =>
  intro Q a w e a' w' h hQ
  simp [k2e] at h
theorem q4i {P : Program} {f : FuncId} {fn : Func} {args : Array Value} {w w' : World} {v : Value} (hf : P.funcs[f]? = some fn) (t : Tmp) (ht : fn.results = #[.tmp t])
 (h : ((fn.body.bind fun c => k2e P c { tmps := args ++ Array.replicate (fn.ntmps - args.size) undef, defers := [] } w).map fun x => (x.1, x.2.1.tmps.getD t undef, x.2.1.defers, x.2.2)) = some (true, v, [], w')) :
 Calls P f args w fun e W => e = .returned v ∧ W = w' := by
 rw [Option.map_eq_some_iff] at h
 obtain ⟨⟨e, a', W⟩, hx, hh⟩ := h
 rw [Option.bind_eq_some_iff] at hx
 obtain ⟨c, hc, hx⟩ := hx
 simp only [Prod.mk.injEq] at hh
 obtain ⟨he, hv, hd, hW⟩ := hh
 refine calls_of_wp hf hc (k7j c _ _ _ _ _ _ hx ?_)
 rw [he, if_pos rfl]
 exact bodyPost_ret (results_tmp ht _ _ _) hd ⟨by rw [hv], hW⟩
theorem v6y {α : Type} (d : Kd α) (enc : α → List Value) (hs : ∀ x, (enc x).length = d.sz) (hK : ∀ w x, d.K w x (enc x)) {W : World} {B : Nat} {T : TypeId} {m : Nat × Nat} (xs : List α) (hn : xs.length ≤ 9223372036854775807) (h : W.heap[B]? = some (.cells (xs.flatMap enc).toArray T m)) :
 Kd.C d W (some ⟨B, 0, none⟩) xs.length xs := by
 refine ⟨rfl, hn, fun _ => ⟨_, rfl, fun j p hp => ⟨enc p, hs p, hK W p, fun i u hu => ?_⟩⟩⟩
 have hl : i < d.sz := by rw [← hs p]; exact (List.getElem?_eq_some_iff.1 hu).1
 have hf : ∀ (ys : List α) (j : Nat) (p : α), ys[j]? = some p → (ys.flatMap enc)[j * d.sz + i]? = some u ∨ enc p ≠ enc p ∨ ¬ (enc p)[i]? = some u := by
  intro ys
  induction ys with
  | nil => intro j p hp; simp at hp
  | cons y ys ih =>
   intro j p hp
   cases j with
   | zero =>
    simp only [List.getElem?_cons_zero, Option.some.injEq] at hp
    subst hp
    by_cases hu : (enc y)[i]? = some u
    · left
      rw [List.flatMap_cons, Nat.zero_mul, Nat.zero_add, List.getElem?_append_left (by rw [hs y]; exact hl)]
      exact hu
    · exact .inr (.inr hu)
   | succ j =>
    rw [List.getElem?_cons_succ] at hp
    rcases ih j p hp with h | h
    · left
      rw [List.flatMap_cons, List.getElem?_append_right (by rw [hs y, Nat.succ_mul]; omega), hs y, show (j + 1) * d.sz + i - d.sz = j * d.sz + i by rw [Nat.succ_mul]; omega]
      exact h
    · exact .inr h
 have := (hf xs j p hp).resolve_right (fun h => h.elim (fun h => h rfl) (fun h => h hu))
 rw [show (⟨B, 0, none⟩ : Addr).add (j * d.sz + i) = ⟨B, j * d.sz + i, none⟩ by (simp [Addr.add]; intro a b; rw [a, b]), Go.cell_of_row _ _ _ _ _ _ h]
 simpa using this
def k7q (x : S66) : List Value := [.string x.f0, .string x.f1, .string x.f2, .string x.f3, .string x.f4, .string x.f5]
def k6y (x : S69) : List Value := [.string x.f0, .string x.f1]
def k4x (x : S53) : List Value := [.int .i64 x.f0, .int .i64 x.f1, .bool x.f2, .string x.f3.f0, .string x.f3.f1, .string x.f3.f2, .string x.f4.f0, .string x.f4.f1, .string x.f4.f2]
theorem C66 {W : World} {B : Nat} {T : TypeId} {m : Nat × Nat} (xs : List S66) (hn : xs.length ≤ 9223372036854775807) (h : W.heap[B]? = some (.cells (xs.flatMap k7q).toArray T m)) : Kd.C k66 W (some ⟨B, 0, none⟩) xs.length xs := v6y k66 k7q (fun _ => rfl) (fun w x => k4b w x) xs hn h
theorem C69 {W : World} {B : Nat} {T : TypeId} {m : Nat × Nat} (xs : List S69) (hn : xs.length ≤ 9223372036854775807) (h : W.heap[B]? = some (.cells (xs.flatMap k6y).toArray T m)) : Kd.C k69 W (some ⟨B, 0, none⟩) xs.length xs := v6y k69 k6y (fun _ => rfl) (fun w x => k4d w x) xs hn h
theorem C53 {W : World} {B : Nat} {T : TypeId} {m : Nat × Nat} (xs : List S53) (hn : xs.length ≤ 9223372036854775807) (h : W.heap[B]? = some (.cells (xs.flatMap k4x).toArray T m)) : Kd.C k53 W (some ⟨B, 0, none⟩) xs.length xs := v6y k53 k4x (fun _ => rfl) (fun w x => k3p w x) xs hn h
theorem z6b {α : Type} {d : Kd α} (hf : ∀ {w w' : World} {x : α} {c : List Value}, d.K w x c → d.K w' x c) {W W' : World} {A : Option Addr} {n : Nat} {xs : List α} (h : Kd.C d W A n xs) (hs : ∀ a, A = some a → W'.heap[a.block]? = W.heap[a.block]?) : Kd.C d W' A n xs := by
 refine ⟨h.1, h.2.1, fun hn => ?_⟩
 obtain ⟨ad, e, hc⟩ := h.2.2 hn
 refine ⟨ad, e, fun j p hp => ?_⟩
 obtain ⟨c, h1, h2, h3⟩ := hc j p hp
 refine ⟨c, h1, hf h2, fun i u hu => ?_⟩
 have hb : (ad.add (j * d.sz + i)).block = ad.block := by unfold Addr.add; split <;> rfl
 rw [World.cell?_of_block (w := W) (by rw [hb]; exact hs ad e)]
 exact h3 i u hu
theorem j0g {w w' : World} {x : S66} {c : List Value} (h : k66.K w x c) : k66.K w' x c := by rw [v3q h]; exact k4b w' x
theorem k8w {w w' : World} {x : S53} {c : List Value} (h : k53.K w x c) : k53.K w' x c := by rw [v2v h]; exact k3p w' x
theorem j0a {w w' : World} {x : S69} {c : List Value} (h : k69.K w x c) : k69.K w' x c := by rw [v4f h]; exact k4d w' x
theorem v8a {w w' : World} {x : S59} {c : List Value} (h : k59.K w x c) : k59.K w' x c := by rw [v3i h]; exact k3o w' x
theorem z2g (W : World) (g i : Nat) (v : Value) (k : Nat) (h : k ≠ g) : (W.setCell ⟨g, i, none⟩ v).heap[k]? = W.heap[k]? := by
 simp only [World.setCell, Array.getElem?_modify]
 rw [if_neg (fun e => h e.symm)]
def q0p : List S59 := [
 ⟨1, ⟨#[49, 56]⟩, ⟨#[]⟩, ⟨#[115, 102, 98]⟩, ⟨#[]⟩, ⟨#[]⟩⟩,
 ⟨1, ⟨#[49, 57]⟩, ⟨#[]⟩, ⟨#[118, 103, 116]⟩, ⟨#[]⟩, ⟨#[]⟩⟩,
 ⟨1, ⟨#[50, 48]⟩, ⟨#[]⟩, ⟨#[115, 103, 103]⟩, ⟨#[]⟩, ⟨#[]⟩⟩,
 ⟨1, ⟨#[48, 51]⟩, ⟨#[]⟩, ⟨#[97, 109, 105]⟩, ⟨#[]⟩, ⟨#[]⟩⟩,
 ⟨1, ⟨#[48, 56]⟩, ⟨#[]⟩, ⟨#[116, 108, 104]⟩, ⟨#[]⟩, ⟨#[]⟩⟩,
 ⟨1, ⟨#[48, 57]⟩, ⟨#[]⟩, ⟨#[108, 98]⟩, ⟨#[]⟩, ⟨#[]⟩⟩,
 ⟨1, ⟨#[49, 49]⟩, ⟨#[]⟩, ⟨#[110, 118]⟩, ⟨#[]⟩, ⟨#[]⟩⟩,
 ⟨1, ⟨#[49, 50]⟩, ⟨#[]⟩, ⟨#[112, 119, 110]⟩, ⟨#[]⟩, ⟨#[]⟩⟩,
 ⟨1, ⟨#[49, 51]⟩, ⟨#[]⟩, ⟨#[116, 97, 111]⟩, ⟨#[]⟩, ⟨#[]⟩⟩,
 ⟨1, ⟨#[49, 52]⟩, ⟨#[]⟩, ⟨#[116, 97, 121]⟩, ⟨#[]⟩, ⟨#[]⟩⟩,
 ⟨1, ⟨#[49, 53]⟩, ⟨#[]⟩, ⟨#[116, 115, 117]⟩, ⟨#[]⟩, ⟨#[]⟩⟩,
 ⟨1, ⟨#[49, 54]⟩, ⟨#[]⟩, ⟨#[110, 98]⟩, ⟨#[]⟩, ⟨#[]⟩⟩,
 ⟨1, ⟨#[49, 55]⟩, ⟨#[]⟩, ⟨#[110, 110]⟩, ⟨#[]⟩, ⟨#[]⟩⟩,
 ⟨1, ⟨#[48, 48]⟩, ⟨#[]⟩, ⟨#[106, 98, 111]⟩, ⟨#[]⟩, ⟨#[]⟩⟩,
 ⟨1, ⟨#[50, 50]⟩, ⟨#[]⟩, ⟨#[104, 97, 107]⟩, ⟨#[]⟩, ⟨#[]⟩⟩,
 ⟨1, ⟨#[50, 52]⟩, ⟨#[]⟩, ⟨#[110, 97, 110]⟩, ⟨#[]⟩, ⟨#[]⟩⟩,
 ⟨1, ⟨#[50, 53]⟩, ⟨#[]⟩, ⟨#[104, 115, 110]⟩, ⟨#[]⟩, ⟨#[]⟩⟩,
 ⟨1, ⟨#[48, 55]⟩, ⟨#[]⟩, ⟨#[104, 97, 107]⟩, ⟨#[]⟩, ⟨#[]⟩⟩,
 ⟨1, ⟨#[48, 52]⟩, ⟨#[]⟩, ⟨#[98, 110, 110]⟩, ⟨#[]⟩, ⟨#[]⟩⟩,
 ⟨2, ⟨#[115, 103, 110]⟩, ⟨#[98, 114]⟩, ⟨#[98, 122, 115]⟩, ⟨#[]⟩, ⟨#[]⟩⟩,
 ⟨2, ⟨#[115, 103, 110]⟩, ⟨#[117, 115]⟩, ⟨#[97, 115, 101]⟩, ⟨#[]⟩, ⟨#[]⟩⟩,
 ⟨2, ⟨#[115, 103, 110]⟩, ⟨#[103, 98]⟩, ⟨#[98, 102, 105]⟩, ⟨#[]⟩, ⟨#[]⟩⟩,
 ⟨2, ⟨#[115, 103, 110]⟩, ⟨#[100, 101]⟩, ⟨#[103, 115, 103]⟩, ⟨#[]⟩, ⟨#[]⟩⟩,
 ⟨3, ⟨#[105, 119]⟩, ⟨#[]⟩, ⟨#[104, 101]⟩, ⟨#[]⟩, ⟨#[]⟩⟩,
 ⟨3, ⟨#[105, 110]⟩, ⟨#[]⟩, ⟨#[105, 100]⟩, ⟨#[]⟩, ⟨#[]⟩⟩,
 ⟨3, ⟨#[106, 105]⟩, ⟨#[]⟩, ⟨#[121, 105]⟩, ⟨#[]⟩, ⟨#[]⟩⟩,
 ⟨3, ⟨#[109, 111]⟩, ⟨#[]⟩, ⟨#[114, 111]⟩, ⟨#[]⟩, ⟨#[]⟩⟩,
 ⟨3, ⟨#[110, 111]⟩, ⟨#[]⟩, ⟨#[110, 98]⟩, ⟨#[]⟩, ⟨#[]⟩⟩,
 ⟨3, ⟨#[116, 108]⟩, ⟨#[]⟩, ⟨#[102, 105, 108]⟩, ⟨#[]⟩, ⟨#[]⟩⟩,
 ⟨3, ⟨#[115, 104]⟩, ⟨#[]⟩, ⟨#[115, 114]⟩, ⟨#[108, 97, 116, 110]⟩, ⟨#[]⟩⟩,
 ⟨3, ⟨#[99, 109, 110]⟩, ⟨#[]⟩, ⟨#[122, 104]⟩, ⟨#[]⟩, ⟨#[]⟩⟩,
 ⟨3, ⟨#[99, 110, 114]⟩, ⟨#[]⟩, ⟨#[115, 114]⟩, ⟨#[]⟩, ⟨#[109, 101]⟩⟩,
 ⟨3, ⟨#[101, 110, 103]⟩, ⟨#[]⟩, ⟨#[101, 110]⟩, ⟨#[]⟩, ⟨#[]⟩⟩,
 ⟨3, ⟨#[100, 101, 117]⟩, ⟨#[]⟩, ⟨#[100, 101]⟩, ⟨#[]⟩, ⟨#[]⟩⟩,
 ⟨3, ⟨#[102, 114, 97]⟩, ⟨#[]⟩, ⟨#[102, 114]⟩, ⟨#[]⟩, ⟨#[]⟩⟩,
 ⟨4, ⟨#[113, 97, 97, 105]⟩, ⟨#[]⟩, ⟨#[]⟩, ⟨#[122, 105, 110, 104]⟩, ⟨#[]⟩⟩,
 ⟨5, ⟨#[100, 100]⟩, ⟨#[]⟩, ⟨#[]⟩, ⟨#[]⟩, ⟨#[100, 101]⟩⟩,
 ⟨5, ⟨#[115, 117]⟩, ⟨#[]⟩, ⟨#[]⟩, ⟨#[]⟩, ⟨#[114, 117]⟩⟩,
 ⟨5, ⟨#[98, 117]⟩, ⟨#[]⟩, ⟨#[]⟩, ⟨#[]⟩, ⟨#[109, 109]⟩⟩,
 ⟨5, ⟨#[102, 120]⟩, ⟨#[]⟩, ⟨#[]⟩, ⟨#[]⟩, ⟨#[102, 114]⟩⟩,
 ⟨5, ⟨#[56, 52, 48]⟩, ⟨#[]⟩, ⟨#[]⟩, ⟨#[]⟩, ⟨#[117, 115]⟩⟩,
 ⟨5, ⟨#[50, 55, 54]⟩, ⟨#[]⟩, ⟨#[]⟩, ⟨#[]⟩, ⟨#[100, 101]⟩⟩,
 ⟨5, ⟨#[56, 50, 54]⟩, ⟨#[]⟩, ⟨#[]⟩, ⟨#[]⟩, ⟨#[103, 98]⟩⟩,
 ⟨5, ⟨#[49, 53, 54]⟩, ⟨#[]⟩, ⟨#[]⟩, ⟨#[]⟩, ⟨#[99, 110]⟩⟩,
 ⟨5, ⟨#[116, 112]⟩, ⟨#[]⟩, ⟨#[]⟩, ⟨#[]⟩, ⟨#[116, 108]⟩⟩,
 ⟨5, ⟨#[122, 114]⟩, ⟨#[]⟩, ⟨#[]⟩, ⟨#[]⟩, ⟨#[99, 100]⟩⟩,
 ⟨5, ⟨#[121, 117]⟩, ⟨#[]⟩, ⟨#[]⟩, ⟨#[]⟩, ⟨#[114, 115]⟩⟩,
 ⟨5, ⟨#[99, 115]⟩, ⟨#[]⟩, ⟨#[]⟩, ⟨#[]⟩, ⟨#[114, 115]⟩⟩,
 ⟨6, ⟨#[104, 101, 112, 108, 111, 99]⟩, ⟨#[]⟩, ⟨#[97, 108, 97, 108, 99, 57, 55]⟩, ⟨#[]⟩, ⟨#[]⟩⟩,
 ⟨6, ⟨#[112, 111, 108, 121, 116, 111, 110, 105]⟩, ⟨#[]⟩, ⟨#[112, 111, 108, 121, 116, 111, 110]⟩, ⟨#[]⟩, ⟨#[]⟩⟩,
 ⟨7, ⟨#[99, 97]⟩, ⟨#[105, 115, 108, 97, 109, 105, 99, 99]⟩, ⟨#[99, 105, 118, 105, 108]⟩, ⟨#[]⟩, ⟨#[]⟩⟩,
 ⟨7, ⟨#[109, 115]⟩, ⟨#[105, 109, 112, 101, 114, 105, 97, 108]⟩, ⟨#[117, 107, 115, 121, 115, 116, 101, 109]⟩, ⟨#[]⟩, ⟨#[]⟩⟩,
 ⟨7, ⟨#[99, 111]⟩, ⟨#[100, 105, 99, 116, 105, 111, 110]⟩, ⟨#[100, 105, 99, 116]⟩, ⟨#[]⟩, ⟨#[]⟩⟩,
 ⟨7, ⟨#[107, 98]⟩, ⟨#[121, 101, 115]⟩, ⟨#[116, 114, 117, 101]⟩, ⟨#[]⟩, ⟨#[]⟩⟩]
def q3x : List S66 := [
 ⟨⟨#[101, 110]⟩, ⟨#[]⟩, ⟨#[]⟩, ⟨#[101, 110]⟩, ⟨#[108, 97, 116, 110]⟩, ⟨#[117, 115]⟩⟩,
 ⟨⟨#[101, 110]⟩, ⟨#[115, 104, 97, 119]⟩, ⟨#[]⟩, ⟨#[101, 110]⟩, ⟨#[115, 104, 97, 119]⟩, ⟨#[103, 98]⟩⟩,
 ⟨⟨#[117, 110, 100]⟩, ⟨#[]⟩, ⟨#[]⟩, ⟨#[101, 110]⟩, ⟨#[108, 97, 116, 110]⟩, ⟨#[117, 115]⟩⟩,
 ⟨⟨#[117, 110, 100]⟩, ⟨#[]⟩, ⟨#[52, 49, 57]⟩, ⟨#[101, 115]⟩, ⟨#[108, 97, 116, 110]⟩, ⟨#[52, 49, 57]⟩⟩,
 ⟨⟨#[100, 101]⟩, ⟨#[]⟩, ⟨#[]⟩, ⟨#[100, 101]⟩, ⟨#[108, 97, 116, 110]⟩, ⟨#[100, 101]⟩⟩,
 ⟨⟨#[102, 114]⟩, ⟨#[]⟩, ⟨#[]⟩, ⟨#[102, 114]⟩, ⟨#[108, 97, 116, 110]⟩, ⟨#[102, 114]⟩⟩,
 ⟨⟨#[101, 115]⟩, ⟨#[]⟩, ⟨#[]⟩, ⟨#[101, 115]⟩, ⟨#[108, 97, 116, 110]⟩, ⟨#[101, 115]⟩⟩,
 ⟨⟨#[122, 104]⟩, ⟨#[]⟩, ⟨#[]⟩, ⟨#[122, 104]⟩, ⟨#[104, 97, 110, 115]⟩, ⟨#[99, 110]⟩⟩,
 ⟨⟨#[122, 104]⟩, ⟨#[]⟩, ⟨#[116, 119]⟩, ⟨#[122, 104]⟩, ⟨#[104, 97, 110, 116]⟩, ⟨#[116, 119]⟩⟩,
 ⟨⟨#[122, 104]⟩, ⟨#[]⟩, ⟨#[104, 107]⟩, ⟨#[122, 104]⟩, ⟨#[104, 97, 110, 116]⟩, ⟨#[104, 107]⟩⟩,
 ⟨⟨#[122, 104]⟩, ⟨#[104, 97, 110, 116]⟩, ⟨#[]⟩, ⟨#[122, 104]⟩, ⟨#[104, 97, 110, 116]⟩, ⟨#[116, 119]⟩⟩,
 ⟨⟨#[117, 110, 100]⟩, ⟨#[104, 97, 110, 116]⟩, ⟨#[]⟩, ⟨#[122, 104]⟩, ⟨#[104, 97, 110, 116]⟩, ⟨#[116, 119]⟩⟩,
 ⟨⟨#[117, 110, 100]⟩, ⟨#[104, 97, 110, 115]⟩, ⟨#[]⟩, ⟨#[122, 104]⟩, ⟨#[104, 97, 110, 115]⟩, ⟨#[99, 110]⟩⟩,
 ⟨⟨#[115, 114]⟩, ⟨#[]⟩, ⟨#[]⟩, ⟨#[115, 114]⟩, ⟨#[99, 121, 114, 108]⟩, ⟨#[114, 115]⟩⟩,
 ⟨⟨#[115, 114]⟩, ⟨#[108, 97, 116, 110]⟩, ⟨#[]⟩, ⟨#[115, 114]⟩, ⟨#[108, 97, 116, 110]⟩, ⟨#[114, 115]⟩⟩,
 ⟨⟨#[115, 114]⟩, ⟨#[]⟩, ⟨#[109, 101]⟩, ⟨#[115, 114]⟩, ⟨#[108, 97, 116, 110]⟩, ⟨#[109, 101]⟩⟩,
 ⟨⟨#[117, 110, 100]⟩, ⟨#[99, 121, 114, 108]⟩, ⟨#[]⟩, ⟨#[114, 117]⟩, ⟨#[99, 121, 114, 108]⟩, ⟨#[114, 117]⟩⟩,
 ⟨⟨#[114, 117]⟩, ⟨#[]⟩, ⟨#[]⟩, ⟨#[114, 117]⟩, ⟨#[99, 121, 114, 108]⟩, ⟨#[114, 117]⟩⟩,
 ⟨⟨#[104, 101]⟩, ⟨#[]⟩, ⟨#[]⟩, ⟨#[104, 101]⟩, ⟨#[104, 101, 98, 114]⟩, ⟨#[105, 108]⟩⟩,
 ⟨⟨#[117, 110, 100]⟩, ⟨#[104, 101, 98, 114]⟩, ⟨#[]⟩, ⟨#[104, 101]⟩, ⟨#[104, 101, 98, 114]⟩, ⟨#[105, 108]⟩⟩,
 ⟨⟨#[97, 114]⟩, ⟨#[]⟩, ⟨#[]⟩, ⟨#[97, 114]⟩, ⟨#[97, 114, 97, 98]⟩, ⟨#[101, 103]⟩⟩,
 ⟨⟨#[117, 110, 100]⟩, ⟨#[97, 114, 97, 98]⟩, ⟨#[]⟩, ⟨#[97, 114]⟩, ⟨#[97, 114, 97, 98]⟩, ⟨#[101, 103]⟩⟩,
 ⟨⟨#[110, 98]⟩, ⟨#[]⟩, ⟨#[]⟩, ⟨#[110, 98]⟩, ⟨#[108, 97, 116, 110]⟩, ⟨#[110, 111]⟩⟩,
 ⟨⟨#[110, 110]⟩, ⟨#[]⟩, ⟨#[]⟩, ⟨#[110, 110]⟩, ⟨#[108, 97, 116, 110]⟩, ⟨#[110, 111]⟩⟩,
 ⟨⟨#[100, 97]⟩, ⟨#[]⟩, ⟨#[]⟩, ⟨#[100, 97]⟩, ⟨#[108, 97, 116, 110]⟩, ⟨#[100, 107]⟩⟩,
 ⟨⟨#[112, 116]⟩, ⟨#[]⟩, ⟨#[]⟩, ⟨#[112, 116]⟩, ⟨#[108, 97, 116, 110]⟩, ⟨#[98, 114]⟩⟩,
 ⟨⟨#[104, 105]⟩, ⟨#[]⟩, ⟨#[]⟩, ⟨#[104, 105]⟩, ⟨#[100, 101, 118, 97]⟩, ⟨#[105, 110]⟩⟩,
 ⟨⟨#[104, 105]⟩, ⟨#[108, 97, 116, 110]⟩, ⟨#[]⟩, ⟨#[104, 105]⟩, ⟨#[108, 97, 116, 110]⟩, ⟨#[105, 110]⟩⟩,
 ⟨⟨#[106, 97]⟩, ⟨#[]⟩, ⟨#[]⟩, ⟨#[106, 97]⟩, ⟨#[106, 112, 97, 110]⟩, ⟨#[106, 112]⟩⟩,
 ⟨⟨#[105, 100]⟩, ⟨#[]⟩, ⟨#[]⟩, ⟨#[105, 100]⟩, ⟨#[108, 97, 116, 110]⟩, ⟨#[105, 100]⟩⟩,
 ⟨⟨#[102, 105, 108]⟩, ⟨#[]⟩, ⟨#[]⟩, ⟨#[102, 105, 108]⟩, ⟨#[108, 97, 116, 110]⟩, ⟨#[112, 104]⟩⟩,
 ⟨⟨#[114, 111]⟩, ⟨#[]⟩, ⟨#[]⟩, ⟨#[114, 111]⟩, ⟨#[108, 97, 116, 110]⟩, ⟨#[114, 111]⟩⟩]
def q7k : List S53 := [
 ⟨1, 1, false, ⟨⟨#[110, 98]⟩, ⟨#[]⟩, ⟨#[]⟩⟩, ⟨⟨#[110, 111]⟩, ⟨#[]⟩, ⟨#[]⟩⟩⟩,
 ⟨1, 4, false, ⟨⟨#[110, 98]⟩, ⟨#[]⟩, ⟨#[]⟩⟩, ⟨⟨#[100, 97]⟩, ⟨#[]⟩, ⟨#[]⟩⟩⟩,
 ⟨1, 20, false, ⟨⟨#[110, 110]⟩, ⟨#[]⟩, ⟨#[]⟩⟩, ⟨⟨#[110, 98]⟩, ⟨#[]⟩, ⟨#[]⟩⟩⟩,
 ⟨1, 8, false, ⟨⟨#[110, 110]⟩, ⟨#[]⟩, ⟨#[]⟩⟩, ⟨⟨#[100, 97]⟩, ⟨#[]⟩, ⟨#[]⟩⟩⟩,
 ⟨1, 30, true, ⟨⟨#[105, 100]⟩, ⟨#[]⟩, ⟨#[]⟩⟩, ⟨⟨#[109, 115]⟩, ⟨#[]⟩, ⟨#[]⟩⟩⟩,
 ⟨1, 80, false, ⟨⟨#[42]⟩, ⟨#[]⟩, ⟨#[]⟩⟩, ⟨⟨#[42]⟩, ⟨#[]⟩, ⟨#[]⟩⟩⟩,
 ⟨2, 15, true, ⟨⟨#[122, 104]⟩, ⟨#[104, 97, 110, 115]⟩, ⟨#[]⟩⟩, ⟨⟨#[122, 104]⟩, ⟨#[104, 97, 110, 116]⟩, ⟨#[]⟩⟩⟩,
 ⟨2, 19, true, ⟨⟨#[122, 104]⟩, ⟨#[104, 97, 110, 116]⟩, ⟨#[]⟩⟩, ⟨⟨#[122, 104]⟩, ⟨#[104, 97, 110, 115]⟩, ⟨#[]⟩⟩⟩,
 ⟨2, 20, false, ⟨⟨#[115, 114]⟩, ⟨#[108, 97, 116, 110]⟩, ⟨#[]⟩⟩, ⟨⟨#[115, 114]⟩, ⟨#[99, 121, 114, 108]⟩, ⟨#[]⟩⟩⟩,
 ⟨2, 50, false, ⟨⟨#[42]⟩, ⟨#[42]⟩, ⟨#[]⟩⟩, ⟨⟨#[42]⟩, ⟨#[42]⟩, ⟨#[]⟩⟩⟩,
 ⟨3, 3, false, ⟨⟨#[101, 110]⟩, ⟨#[42]⟩, ⟨#[36, 101, 110, 117, 115]⟩⟩, ⟨⟨#[101, 110]⟩, ⟨#[42]⟩, ⟨#[36, 101, 110, 117, 115]⟩⟩⟩,
 ⟨3, 3, false, ⟨⟨#[101, 110]⟩, ⟨#[42]⟩, ⟨#[33, 101, 110, 117, 115]⟩⟩, ⟨⟨#[101, 110]⟩, ⟨#[42]⟩, ⟨#[33, 101, 110, 117, 115]⟩⟩⟩,
 ⟨3, 4, false, ⟨⟨#[101, 115]⟩, ⟨#[42]⟩, ⟨#[36, 97, 109, 101, 114]⟩⟩, ⟨⟨#[101, 115]⟩, ⟨#[42]⟩, ⟨#[36, 97, 109, 101, 114]⟩⟩⟩,
 ⟨3, 5, false, ⟨⟨#[101, 115]⟩, ⟨#[42]⟩, ⟨#[33, 97, 109, 101, 114]⟩⟩, ⟨⟨#[101, 115]⟩, ⟨#[42]⟩, ⟨#[36, 97, 109, 101, 114]⟩⟩⟩,
 ⟨3, 4, false, ⟨⟨#[42]⟩, ⟨#[42]⟩, ⟨#[42]⟩⟩, ⟨⟨#[42]⟩, ⟨#[42]⟩, ⟨#[42]⟩⟩⟩]
def q4h : List S69 := [
 ⟨⟨#[97, 109, 101, 114]⟩, ⟨#[52, 49, 57]⟩⟩,
 ⟨⟨#[97, 109, 101, 114]⟩, ⟨#[97, 114]⟩⟩,
 ⟨⟨#[97, 109, 101, 114]⟩, ⟨#[109, 120]⟩⟩,
 ⟨⟨#[97, 109, 101, 114]⟩, ⟨#[117, 115]⟩⟩,
 ⟨⟨#[101, 110, 117, 115]⟩, ⟨#[117, 115]⟩⟩,
 ⟨⟨#[101, 110, 117, 115]⟩, ⟨#[112, 114]⟩⟩,
 ⟨⟨#[101, 110, 117, 115]⟩, ⟨#[103, 117]⟩⟩]
def k5h (x : S59) : List Value := [.int .i64 x.f0, .string x.f1, .string x.f2, .string x.f3, .string x.f4, .string x.f5]
theorem z7x (w : World) : Calls Tryz.prog 54 #[] w fun e W => e = .returned (.slice (some ⟨w.heap.size, 0, none⟩) 54 54) ∧ W = w.alloc (.cells (q0p.flatMap k5h).toArray 120) := by
 exact q4i Tryz.func54 0 rfl (by kernel_rfl)
theorem v2f (w : World) : Calls Tryz.prog 55 #[] w fun e W => e = .returned (.slice (some ⟨w.heap.size, 0, none⟩) 32 32) ∧ W = w.alloc (.cells (q3x.flatMap k7q).toArray 122) := by
 exact q4i Tryz.func55 0 rfl (by kernel_rfl)
theorem z8j (w : World) : Calls Tryz.prog 56 #[] w fun e W => e = .returned (.slice (some ⟨w.heap.size, 0, none⟩) 15 15) ∧ W = w.alloc (.cells (q7k.flatMap k4x).toArray 125) := by
 exact q4i Tryz.func56 0 rfl (by kernel_rfl)
theorem z5h (w : World) : Calls Tryz.prog 57 #[] w fun e W => e = .returned (.slice (some ⟨w.heap.size, 0, none⟩) 7 7) ∧ W = w.alloc (.cells (q4h.flatMap k6y).toArray 127) := by
 exact q4i Tryz.func57 0 rfl (by kernel_rfl)
end Go.Proofs.YtpmcfckechjppaaGreatDoor.LikW
namespace Go.Proofs.YtpmcfckechjppaaGreatDoor.P
open Go.RowKit Go.Proofs.YtpmcfckechjppaaGreatDoorW.PrintWords Go.Proofs.YtpmcfckechjppaaGreatDoorW.PrintLast Go.Proofs.YtpmcfckechjppaaGreatDoorW.PrintMore Go.Proofs.YtpmcfckechjppaaGreatDoor.LikW
theorem z3c (r : List ByteArray) (w : World) (h : q1x.f = some r) :
 Calls Tryz.prog 7 #[] w fun e w' => ∃ v0_ : Value, e = .returned (v0_) ∧ Kd.R Kd.string 9 w' w.heap.size (fun _ => True) v0_ r ∧ Below w.heap.size w w' := by
 have e : r = q1x.f.getD [] := by rw [h]; rfl
 subst e
 refine (q4i (w' := w.alloc (.cells ((q1x.f.getD []).map Value.string).toArray 9)) (v := .slice (some ⟨w.heap.size, 0, none⟩) 26 26) Tryz.func7 0 rfl (by kernel_rfl)).mono ?_
 rintro e w' ⟨rfl, rfl⟩
 exact ⟨_, rfl, Kd.k2m ⟨by simp [q9r], .inr ⟨w.heap.size, 26, _, rfl, Nat.le_refl _, World.alloc_heap_new w _, Nat.le_refl _, by decide, by simp [q1x.f], by rw [Nat.mul_one]; exact List.take_of_length_le (by simp [q1x.f])⟩⟩ (fun _ _ => trivial), q0b (Below.refl _ _) _⟩
end Go.Proofs.YtpmcfckechjppaaGreatDoor.P
