/- Made by a program of this seat's own (shake.py, merge.py): what the claim leans on: LikRows, DistIn, DistFit, DistFits, DistBoth. -/
import Derived.Test.YtpmcfckechjppaaGreatDoorTb05
import Derived.Deep.RegionWith
import Derived.StillTailTactics
namespace Go.Proofs.YtpmcfckechjppaaGreatDoor.LikW
open Go.RowKit Go.Proofs.YtpmcfckechjppaaGreatDoorW.PrintWords Go.Proofs.YtpmcfckechjppaaGreatDoorW.PrintLast Go.Proofs.YtpmcfckechjppaaGreatDoor.P
set_option linter.unusedVariables false
set_option linter.unusedSimpArgs false
set_option maxRecDepth 100000
set_option maxHeartbeats 8000000
def likV (x : S66) : Value := .agg #[.string x.f0, .string x.f1, .string x.f2, .string x.f3, .string x.f4, .string x.f5]
def likK (x : S66) : K3 := (x.f0, x.f1, x.f2)
def rowsP : List S66 → List (K3 × Value) → List (K3 × Value)
 | [], ps => ps
 | x :: l, ps => rowsP l (if (findP (likK x) ps).isSome = true then ps else ps ++ [(likK x, likV x)])
theorem rowsP_snoc : ∀ (l : List S66) (x : S66) (ps : List (K3 × Value)), rowsP (l ++ [x]) ps = if (findP (likK x) (rowsP l ps)).isSome = true then rowsP l ps else rowsP l ps ++ [(likK x, likV x)]
 | [], x, ps => rfl
 | y :: l, x, ps => rowsP_snoc l x _
theorem key_eq (k k' : K3) : (k.1 == k'.1 && (k.2.1 == k'.2.1 && k.2.2 == k'.2.2)) = true ↔ k = k' := by
 rw [Bool.and_eq_true, Bool.and_eq_true, MapKept.bytes_beq, MapKept.bytes_beq, MapKept.bytes_beq]
 constructor
 · rintro ⟨a, b, c⟩
   exact Prod.ext a (Prod.ext b c)
 · rintro rfl
   exact ⟨rfl, rfl, rfl⟩
instance : DecidableEq ByteArray := fun a b => decidable_of_iff _ (MapKept.bytes_beq a b)
instance : DecidableEq K3 := fun a b => decidable_of_iff _ (key_eq a b)
theorem findP_cons (k : K3) (e : K3 × Value) (l : List (K3 × Value)) : findP k (e :: l) = if k = e.1 then some e.2 else findP k l := by
 rw [findP]
 by_cases h : k = e.1
 · rw [if_pos ((key_eq _ _).2 h), if_pos h]
 · rw [if_neg (fun z => h ((key_eq _ _).1 z)), if_neg h]
theorem findP_snoc (k k' : K3) (v : Value) : ∀ ps, findP k (ps ++ [(k', v)]) = (findP k ps).or (if k = k' then some v else none)
 | [] => by rw [List.nil_append, findP_cons]; rfl
 | e :: ps => by
  rw [List.cons_append, findP_cons, findP_cons, findP_snoc k k' v ps]
  split <;> rfl
def rowOf (l : List S66) (k : K3) : Option S66 := l.find? fun x => decide (k = likK x)
theorem rowOf_snoc (l : List S66) (x : S66) (k : K3) : rowOf (l ++ [x]) k = (rowOf l k).or (if k = likK x then some x else none) := by
 unfold rowOf
 rw [List.find?_append]
 by_cases h : k = likK x
 · rw [if_pos h]; simp [List.find?, h]
 · rw [if_neg h]; simp [List.find?, h]
theorem find_rows (k : K3) : ∀ (n : Nat) (l : List S66), l.length = n → findP k (rowsP l []) = (rowOf l k).map likV
 | 0, l, h => by rw [List.eq_nil_of_length_eq_zero h]; rfl
 | n + 1, l, h => by
  have hne : l ≠ [] := by intro e; rw [e] at h; cases h
  obtain ⟨m, x, rfl⟩ : ∃ m x, l = m ++ [x] := ⟨l.dropLast, l.getLast hne, (List.dropLast_concat_getLast hne).symm⟩
  have hm : m.length = n := by simpa using h
  have ih := fun k => find_rows k n m hm
  rw [rowsP_snoc, rowOf_snoc, ih (likK x)]
  cases hx : rowOf m (likK x) with
  | some y =>
   rw [if_pos (by simp), ih k]
   by_cases e : k = likK x
   · rw [e, hx]; rfl
   · rw [if_neg e, Option.or_none]
  | none =>
   rw [if_neg (by simp), findP_snoc, ih k]
   cases rowOf m k with
   | some y => rfl
   | none =>
    by_cases e : k = likK x
    · rw [if_pos e, if_pos e]; rfl
    · rw [if_neg e, if_neg e]; rfl
theorem zero_lik (W : World) : (zeroValue 122).run Tryz.prog W = .ok (likV z66) W := by kernel_rfl
theorem rows_calls (A0 : Option Addr) (n0 c0 : Nat) (A1 : Option Addr) (c1 : Nat) (l : List S66) (A2 : Option Addr) (n2 c2 : Nat) (A3 : Option Addr) (n3 c3 : Nat) (p q : Int) (w : World) (hC : Kd.C k66 w A1 l.length l) :
 Calls Tryz.prog 164 #[.agg #[.slice A0 n0 c0, .slice A1 l.length c1, .slice A2 n2 c2, .slice A3 n3 c3, .int .i64 p, .int .i64 q]] w fun e w' => ∃ b, e = .returned (.map (some b)) ∧ w.heap.size ≤ b ∧ MapIs w' b (rowsP l []) ∧ Below w.heap.size w w' := by
 have hu39 := Tryz.underlying51
 have hu66 := Tryz.underlying122
 have hu30 := Tryz.underlying123
 have hm : ∀ W : World, (Instr.makeMap 178 none).run Tryz.prog W = .ok (.map (some W.heap.size)) (W.alloc (.map #[] 0)) := fun W => run_makeMap_plain W _
 have HC := Aside0.mk hC
 have hmax := Kd.C_max hC
 clear hC
 go_enter Tryz.func164, Tryz.ntmps164
 go_wp2
 obtain ⟨W0, hW0⟩ : ∃ W0, W0 = (w.alloc (.cells #[.slice A0 n0 c0, .slice A1 l.length c1, .slice A2 n2 c2, .slice A3 n3 c3, .int .i64 p, .int .i64 q] 51)).alloc (.map #[] 0) := ⟨_, rfl⟩
 rw [← hW0]
 have M0 : MapIs W0 (w.heap.size + 1) [] := ⟨[], 0, rfl, by rw [hW0]; simpa using World.alloc_heap_new (w.alloc (.cells #[.slice A0 n0 c0, .slice A1 l.length c1, .slice A2 n2 c2, .slice A3 n3 c3, .int .i64 p, .int .i64 q] 51)) (.map #[] 0)⟩
 have B0 : Below w.heap.size w W0 := by rw [hW0]; exact below_alloc (below_alloc (Below.refl _ _) _) _
 clear hW0
 go_loopw [13] (fun vi wr => ∃ i : Nat, vi = .int .i64 (i : Int) ∧ i ≤ l.length ∧ Aside0 (MapIs wr (w.heap.size + 1) (rowsP (l.take i) [])) ∧ Aside0 (Below w.heap.size w wr)) (fun vi _ => l.length - (intOf vi).toNat)
 case atStart => exact ⟨0, rfl, Nat.zero_le _, ⟨M0⟩, ⟨B0⟩⟩
 case round =>
  clear M0 B0
  obtain ⟨i, rfl, hi, HM, HB⟩ := hrel
  by_cases hlt : i < l.length
  · obtain ⟨ad, e, x0, x1, x2, x3, x4, x5⟩ := at_T66 HC.out (i : Int) (by omega) (by omega)
    cases e
    replace x0 := (HB.out.cell (World.block_lt_of_cell? w _ x0)).trans x0
    replace x1 := (HB.out.cell (World.block_lt_of_cell? w _ x1)).trans x1
    replace x2 := (HB.out.cell (World.block_lt_of_cell? w _ x2)).trans x2
    replace x3 := (HB.out.cell (World.block_lt_of_cell? w _ x3)).trans x3
    replace x4 := (HB.out.cell (World.block_lt_of_cell? w _ x4)).trans x4
    replace x5 := (HB.out.cell (World.block_lt_of_cell? w _ x5)).trans x5
    obtain ⟨x, hx⟩ : ∃ x, x = rd_T66 l (i : Int) := ⟨_, rfl⟩
    rw [← hx] at x0 x1 x2 x3 x4 x5
    simp only [Int.toNat_natCast] at x0 x1 x2 x3 x4 x5
    have HX := Aside0.mk hx
    clear hx
    have d1 : decide ((i : Int) < (l.length : Int)) = true := decide_eq_true (by omega)
    have bel : ∀ W, Below wr.heap.size wr W → MapIs W (w.heap.size + 1) (rowsP (l.take i) []) := fun W hb => HM.out.below hb
    have HF := Aside0.mk bel
    clear bel
    have hf := find_rows (likK x) _ (l.take i) rfl
    have hsn : rowsP (l.take (i + 1)) [] = if (findP (likK x) (rowsP (l.take i) [])).isSome = true then rowsP (l.take i) [] else rowsP (l.take i) [] ++ [(likK x, likV x)] := by
     rw [List.take_succ_eq_append_getElem hlt, rowsP_snoc, HX.out]
     simp [rd_T66, List.getD_eq_getElem?_getD, List.getElem?_eq_getElem hlt]
    rw [hf] at hsn
    have HS := Aside0.mk hsn
    have HN := Aside0.mk hf
    clear hf hsn
    cases hr : rowOf (l.take i) (likK x) with
    | some y =>
     rw [hr] at HN HS
     clear hr
     go_wp2_with (first | (at_lookup; refine wpList_look rfl _ _ 178 122 true rfl Tryz.underlying178 (w.heap.size + 1) rfl (rowsP (l.take i) []) ?hM (likK x) rfl _ (zero_lik _) ?_; (case hM => exact HF.out _ (by repeat (first | exact Below.refl _ _ | apply below_alloc | apply pw_below_drewN | apply below_drew1 | refine below_set ?_ (by simp)))); rw [HN.out]; simp only [Option.map_some, Option.getD_some, Option.isSome_some, if_true, likV]))
     go_roundw
     case rel =>
      have e := HS.out
      rw [if_pos (by simp)] at e
      exact ⟨i + 1, by simp, by omega, ⟨by rw [e]; exact HF.out _ (by repeat (first | exact Below.refl _ _ | apply below_alloc | apply pw_below_drewN | apply below_drew1 | refine below_set ?_ (by simp)))⟩, ⟨by repeat (first | exact HB.out | apply below_alloc | apply pw_below_drewN | apply below_drew1)⟩⟩
     case measure => simp [intOf]; omega
    | none =>
     rw [hr] at HN HS
     clear hr
     have hz : w.heap.size + 1 < wr.heap.size := by
      obtain ⟨_, _, _, hb⟩ := HM.out
      exact (Array.getElem?_eq_some_iff.1 hb).1
     go_wp2_with (first | (at_lookup; refine wpList_look rfl _ _ 178 122 true rfl Tryz.underlying178 (w.heap.size + 1) rfl (rowsP (l.take i) []) ?hM (likK x) rfl _ (zero_lik _) ?_; (case hM => exact HF.out _ (by repeat (first | exact Below.refl _ _ | apply below_alloc | apply pw_below_drewN | apply below_drew1 | refine below_set ?_ (by simp)))); rw [HN.out]; simp only [Option.map_none, Option.getD_none, Option.isSome_none, if_true, likV]) | (at_mapUpdate; refine wpList_upd rfl _ _ _ 178 122 rfl Tryz.underlying178 (w.heap.size + 1) rfl (rowsP (l.take i) []) ?hM (likK x) rfl (likV x) rfl HN.out ?_; (case hM => exact HF.out _ (by repeat (first | exact Below.refl _ _ | apply below_alloc | apply pw_below_drewN | apply below_drew1 | refine below_set ?_ (by simp)))); intro w9 hM9 hg9))
     go_roundw
     case rel =>
      have e := HS.out
      rw [if_neg (by simp)] at e
      exact ⟨i + 1, by simp, by omega, ⟨by rw [e]; exact hM9⟩, ⟨pw_below_grown (by repeat (first | exact HB.out | apply below_alloc | apply pw_below_drewN | apply below_drew1)) _ (by have := HB.out.size; simp; omega) hg9 (fun k ek => by cases ek; omega)⟩⟩
     case measure => simp [intOf]; omega
  · obtain rfl : i = l.length := by omega
    have d1 : decide (((l.length : Nat) : Int) < (l.length : Int)) = false := decide_eq_false (by omega)
    have hM := HM.out
    rw [List.take_length] at hM
    have HM2 := Aside0.mk hM
    clear hM
    go_wp2
    go_ret
    exact ⟨_, rfl, by omega, HM2.out, HB.out⟩
theorem toList_inj {a b : ByteArray} (h : a.toList = b.toList) : a = b := by
 rw [ByteArray.toList_eq, ByteArray.toList_eq] at h
 exact ByteArray.ext (Array.toList_inj.1 h)
def inP (ms : List S69) (s r : ByteArray) : Bool := ms.any fun m => decide (m.f0 = s ∧ m.f1 = r)
theorem in_calls (A0 : Option Addr) (n0 c0 : Nat) (A1 : Option Addr) (n1 c1 : Nat) (A2 : Option Addr) (n2 c2 : Nat) (A3 : Option Addr) (c3 : Nat) (ms : List S69) (p q : Int) (s r : ByteArray) (w : World) (hC : Kd.C k69 w A3 ms.length ms) :
 Calls Tryz.prog 355 #[.agg #[.slice A0 n0 c0, .slice A1 n1 c1, .slice A2 n2 c2, .slice A3 ms.length c3, .int .i64 p, .int .i64 q], .string s, .string r] w fun e w' => e = .returned (.bool (inP ms s r)) ∧ Below w.heap.size w w' := by
 have hu39 := Tryz.underlying51
 have hu69 := Tryz.underlying127
 have HC := Aside0.mk hC
 have hmax := Kd.C_max hC
 clear hC
 go_enter Tryz.func355, Tryz.ntmps355
 go_wp2
 obtain ⟨W0, hW0⟩ : ∃ W0, W0 = (w.alloc (.cells #[.slice A0 n0 c0, .slice A1 n1 c1, .slice A2 n2 c2, .slice A3 ms.length c3, .int .i64 p, .int .i64 q] 51)) := ⟨_, rfl⟩
 rw [← hW0]
 have B0 : Below w.heap.size w W0 := by rw [hW0]; exact below_alloc (Below.refl _ _) _
 clear hW0
 go_loopw [12] (fun vi wr => ∃ i : Nat, vi = .int .i64 (i : Int) ∧ i ≤ ms.length ∧ Aside0 (inP (ms.take i) s r = false) ∧ Aside0 (Below w.heap.size w wr)) (fun vi _ => ms.length - (intOf vi).toNat)
 case atStart => exact ⟨0, rfl, Nat.zero_le _, ⟨rfl⟩, ⟨B0⟩⟩
 case round =>
  clear B0
  obtain ⟨i, rfl, hi, HN, HB⟩ := hrel
  by_cases hlt : i < ms.length
  · obtain ⟨ad, e, x0, x1⟩ := at_T69 HC.out (i : Int) (by omega) (by omega)
    cases e
    replace x0 := (HB.out.cell (World.block_lt_of_cell? w _ x0)).trans x0
    replace x1 := (HB.out.cell (World.block_lt_of_cell? w _ x1)).trans x1
    obtain ⟨x, hx⟩ : ∃ x, x = rd_T69 ms (i : Int) := ⟨_, rfl⟩
    rw [← hx] at x0 x1
    simp only [Int.toNat_natCast] at x0 x1
    have hx2 : x = ms[i]'hlt := by rw [hx]; simp [rd_T69, List.getD_eq_getElem?_getD, List.getElem?_eq_getElem hlt]
    have hs : inP (ms.take (i + 1)) s r = (inP (ms.take i) s r || decide (x.f0 = s ∧ x.f1 = r)) := by unfold inP; rw [List.take_succ_eq_append_getElem hlt, List.any_append, hx2]; simp only [List.any_cons, List.any_nil, Bool.or_false]
    rw [HN.out] at hs
    have HS := Aside0.mk hs
    have HX := Aside0.mk hx2
    clear hx hx2 hs
    have d1 : decide ((i : Int) < (ms.length : Int)) = true := decide_eq_true (by omega)
    go_wp2
    · rename_i g1 g2
      go_ret
      refine ⟨?_, by repeat (first | exact HB.out | apply below_alloc)⟩
      have : inP ms s r = true := by
       unfold inP
       rw [List.any_eq_true]
       exact ⟨ms[i], List.getElem_mem hlt, by rw [← HX.out]; exact decide_eq_true ⟨toList_inj g1, toList_inj g2⟩⟩
      simp [this]
    · rename_i g1 g2
      have e := HS.out
      rw [decide_eq_false (fun h => g2 (by rw [h.2])), Bool.or_false] at e
      go_roundw
      case rel => exact ⟨i + 1, by simp, by omega, ⟨e⟩, ⟨by repeat (first | exact HB.out | apply below_alloc)⟩⟩
      case measure => simp [intOf]; omega
    · rename_i g1
      have e := HS.out
      rw [decide_eq_false (fun h => g1 (by rw [h.1])), Bool.or_false] at e
      go_roundw
      case rel => exact ⟨i + 1, by simp, by omega, ⟨e⟩, ⟨by repeat (first | exact HB.out | apply below_alloc)⟩⟩
      case measure => simp [intOf]; omega
  · obtain rfl : i = ms.length := by omega
    have d1 : decide (((ms.length : Nat) : Int) < (ms.length : Int)) = false := decide_eq_false (by omega)
    have hN := HN.out
    rw [List.take_length] at hN
    go_wp2
    go_ret
    exact ⟨by simp [hN], HB.out⟩
def starB : ByteArray := ⟨#[42]⟩
def fitP (ms : List S69) (i : Int) (s r : ByteArray) : Bool :=
 if s = r ∨ s = starB then true else if i = 2 then (if h : 0 < s.size then (if ((s[0]'h).toNat : Int) = 33 then !(inP ms (s.extract 1 s.size) r) else if ((s[0]'h).toNat : Int) = 36 then inP ms (s.extract 1 s.size) r else false) else false) else false
theorem star_iff (s : ByteArray) : (s.toList == [42]) = true ↔ s = starB := by
 rw [beq_iff_eq]
 exact ⟨fun h => toList_inj (h.trans (by rw [ByteArray.toList_eq]; rfl)), fun h => by rw [h, ByteArray.toList_eq]; rfl⟩
theorem empty_size (s : ByteArray) : s.toList.isEmpty = true ↔ ¬ 0 < s.size := by
 rw [List.isEmpty_iff_length_eq_zero, ByteArray.toList_eq, Array.length_toList]
 exact ⟨fun h => by have : s.size = s.data.size := rfl; omega, fun h => by have : s.size = s.data.size := rfl; omega⟩
theorem fit_calls (A0 : Option Addr) (n0 c0 : Nat) (A1 : Option Addr) (n1 c1 : Nat) (A2 : Option Addr) (n2 c2 : Nat) (A3 : Option Addr) (c3 : Nat) (ms : List S69) (p q : Int) (i : Int) (s r : ByteArray) (w : World) (hC : Kd.C k69 w A3 ms.length ms) :
 Calls Tryz.prog 354 #[.agg #[.slice A0 n0 c0, .slice A1 n1 c1, .slice A2 n2 c2, .slice A3 ms.length c3, .int .i64 p, .int .i64 q], .int .i64 i, .string s, .string r] w fun e w' => e = .returned (.bool (fitP ms i s r)) ∧ Below w.heap.size w w' := by
 have hu39 := Tryz.underlying51
 have HC := Aside0.mk hC
 clear hC
 go_enter Tryz.func354, Tryz.ntmps354
 go_wp2
 · have g : s.toList = r.toList := by assumption
   go_ret
   exact ⟨by simp [fitP, toList_inj g], by repeat (first | exact hb | exact Below.refl _ _ | apply below_alloc | apply pw_below_drewN | apply below_drew1)⟩
 · have g : ¬ s.toList = r.toList := by assumption
   have g2 : (s.toList == r.toList) = true ∨ (s.toList == [42]) = true := by assumption
   go_ret
   have : s = starB := (star_iff s).1 (g2.resolve_left (fun e => g (eq_of_beq e)))
   exact ⟨by simp [fitP, this], by repeat (first | exact hb | exact Below.refl _ _ | apply below_alloc | apply pw_below_drewN | apply below_drew1)⟩
 · have g : ¬ s.toList = r.toList := by assumption
   have g2 : (s.toList == r.toList) = false ∧ (s.toList == [42]) = false := by assumption
   have ge : s.toList.isEmpty = true := by assumption
   go_ret
   have h1 : ¬ s = r := fun e => g (by rw [e])
   have h2 : ¬ s = starB := fun e => by have := (star_iff s).2 e; rw [g2.2] at this; cases this
   have h3 := (empty_size s).1 ge
   exact ⟨by unfold fitP; rw [if_neg (fun e => e.elim h1 h2), dif_neg h3]; simp, by repeat (first | exact hb | exact Below.refl _ _ | apply below_alloc | apply pw_below_drewN | apply below_drew1)⟩
 · have g : ¬ s.toList = r.toList := by assumption
   have g2 : (s.toList == r.toList) = false ∧ (s.toList == [42]) = false := by assumption
   have gs : 0 < s.size := by assumption
   have gi : i = 2 := by assumption
   subst gi
   have g33 : (((s[0]'gs).toNat : Int) == 33) = true := by assumption
   have h1 : ¬ s = r := fun e => g (by rw [e])
   have h2 : ¬ s = starB := fun e => by have := (star_iff s).2 e; rw [g2.2] at this; cases this
   have hv : fitP ms 2 s r = !(inP ms (s.extract 1 s.size) r) := by unfold fitP; rw [if_neg (fun e => e.elim h1 h2), if_pos rfl, dif_pos gs, if_pos (eq_of_beq g33)]
   have HV := Aside0.mk hv
   clear hv
   go_region_with (go_at_call 355; refine (in_calls A0 n0 c0 A1 n1 c1 A2 n2 c2 A3 c3 ms p q _ r _ (Kd.C_below HC.out (by repeat (first | exact Below.refl _ _ | apply below_alloc | apply pw_below_drewN | apply below_drew1)))).mono ?_; rintro e w9 ⟨rfl, hb⟩; replace hb := Below.trans (show Below w.heap.size w _ by repeat (first | exact Below.refl _ _ | apply below_alloc | apply pw_below_drewN | apply below_drew1)) (hb.mono (by simp)))
   all_goals go_wp2
   all_goals go_ret
   all_goals exact ⟨by rw [HV.out]; rfl, by repeat (first | exact hb | exact Below.refl _ _ | apply below_alloc | apply pw_below_drewN | apply below_drew1)⟩
 · have g : ¬ s.toList = r.toList := by assumption
   have g2 : (s.toList == r.toList) = false ∧ (s.toList == [42]) = false := by assumption
   have gs : 0 < s.size := by assumption
   have gi : i = 2 := by assumption
   subst gi
   have g33 : (((s[0]'gs).toNat : Int) == 33) = false := by assumption
   have g36 : (((s[0]'gs).toNat : Int) == 36) = true := by assumption
   have h1 : ¬ s = r := fun e => g (by rw [e])
   have h2 : ¬ s = starB := fun e => by have := (star_iff s).2 e; rw [g2.2] at this; cases this
   have hv : fitP ms 2 s r = inP ms (s.extract 1 s.size) r := by unfold fitP; rw [if_neg (fun e => e.elim h1 h2), if_pos rfl, dif_pos gs, if_neg (ne_of_beq_false g33), if_pos (eq_of_beq g36)]
   have HV := Aside0.mk hv
   clear hv
   go_region_with (go_at_call 355; refine (in_calls A0 n0 c0 A1 n1 c1 A2 n2 c2 A3 c3 ms p q _ r _ (Kd.C_below HC.out (by repeat (first | exact Below.refl _ _ | apply below_alloc | apply pw_below_drewN | apply below_drew1)))).mono ?_; rintro e w9 ⟨rfl, hb⟩; replace hb := Below.trans (show Below w.heap.size w _ by repeat (first | exact Below.refl _ _ | apply below_alloc | apply pw_below_drewN | apply below_drew1)) (hb.mono (by simp)))
   all_goals go_wp2
   all_goals go_ret
   all_goals exact ⟨by rw [HV.out]; rfl, by repeat (first | exact hb | exact Below.refl _ _ | apply below_alloc | apply pw_below_drewN | apply below_drew1)⟩
 · have g : ¬ s.toList = r.toList := by assumption
   have g2 : (s.toList == r.toList) = false ∧ (s.toList == [42]) = false := by assumption
   have gs : 0 < s.size := by assumption
   have gi : i = 2 := by assumption
   subst gi
   have g33 : (((s[0]'gs).toNat : Int) == 33) = false := by assumption
   have g36 : (((s[0]'gs).toNat : Int) == 36) = false := by assumption
   go_ret
   have h1 : ¬ s = r := fun e => g (by rw [e])
   have h2 : ¬ s = starB := fun e => by have := (star_iff s).2 e; rw [g2.2] at this; cases this
   have hv : fitP ms 2 s r = false := by unfold fitP; rw [if_neg (fun e => e.elim h1 h2), if_pos rfl, dif_pos gs, if_neg (ne_of_beq_false g33), if_neg (ne_of_beq_false g36)]
   exact ⟨by simp [hv], by repeat (first | exact hb | exact Below.refl _ _ | apply below_alloc | apply pw_below_drewN | apply below_drew1)⟩
 · have ge : s.toList.isEmpty = false := by assumption
   have gs : ¬ 0 < s.size := by assumption
   rw [(empty_size s).2 gs] at ge
   cases ge
 · have g : ¬ s.toList = r.toList := by assumption
   have g2 : (s.toList == r.toList) = false ∧ (s.toList == [42]) = false := by assumption
   have gi : ¬ i = 2 := by assumption
   go_ret
   have h1 : ¬ s = r := fun e => g (by rw [e])
   have h2 : ¬ s = starB := fun e => by have := (star_iff s).2 e; rw [g2.2] at this; cases this
   have hv : fitP ms i s r = false := by unfold fitP; rw [if_neg (fun e => e.elim h1 h2), if_neg gi]
   exact ⟨by simp [hv], by repeat (first | exact hb | exact Below.refl _ _ | apply below_alloc | apply pw_below_drewN | apply below_drew1)⟩
theorem cell_of_blk {W : World} {g : Nat} {t : TypeId} {cs : Array Value} (h : W.heap[g]? = some (.cells cs t (0, 0))) (i : Nat) : W.cell? ⟨g, i, none⟩ = cs[i]? := blk_cell h i
def at3 (t : K3) : Nat → ByteArray
 | 0 => t.1
 | 1 => t.2.1
 | _ => t.2.2
def upN (ms : List S69) (a b : K3) (n : Nat) : Bool := (List.range n).all fun j => fitP ms (j : Int) (at3 a j) (at3 b j)
def fitsP (ms : List S69) (a b : K3) (lv : Int) : Bool := upN ms a b (max 0 (min lv 3)).toNat
theorem upN_succ (ms : List S69) (a b : K3) (n : Nat) : upN ms a b (n + 1) = (upN ms a b n && fitP ms (n : Int) (at3 a n) (at3 b n)) := by
 unfold upN
 rw [List.range_succ, List.all_append]
 simp
theorem upN_false (ms : List S69) (a b : K3) : ∀ (d n : Nat), upN ms a b n = false → upN ms a b (n + d) = false
 | 0, n, h => h
 | d + 1, n, h => by rw [← Nat.add_assoc, upN_succ, upN_false ms a b d n h, Bool.false_and]
theorem fits_calls (A0 : Option Addr) (n0 c0 : Nat) (A1 : Option Addr) (n1 c1 : Nat) (A2 : Option Addr) (n2 c2 : Nat) (A3 : Option Addr) (c3 : Nat) (ms : List S69) (p q : Int) (a b : K3) (lv : Int) (w : World) (hC : Kd.C k69 w A3 ms.length ms) :
 Calls Tryz.prog 353 #[.agg #[.slice A0 n0 c0, .slice A1 n1 c1, .slice A2 n2 c2, .slice A3 ms.length c3, .int .i64 p, .int .i64 q], .agg #[.string a.1, .string a.2.1, .string a.2.2], .agg #[.string b.1, .string b.2.1, .string b.2.2], .int .i64 lv] w fun e w' => e = .returned (.bool (fitsP ms a b lv)) ∧ Below w.heap.size w w' := by
 have hu39 := Tryz.underlying51
 have hu30 := Tryz.underlying123
 have HC := Aside0.mk hC
 clear hC
 go_enter Tryz.func353, Tryz.ntmps353
 obtain ⟨W0, hW0⟩ : ∃ W0, W0 = ((w.alloc (.cells #[.slice A0 n0 c0, .slice A1 n1 c1, .slice A2 n2 c2, .slice A3 ms.length c3, .int .i64 p, .int .i64 q] 51)).alloc (.cells #[.string a.1, .string a.2.1, .string a.2.2] 123)).alloc (.cells #[.string b.1, .string b.2.1, .string b.2.2] 123) := ⟨_, rfl⟩
 have b0 : W0.heap[w.heap.size]? = some (.cells #[.slice A0 n0 c0, .slice A1 n1 c1, .slice A2 n2 c2, .slice A3 ms.length c3, .int .i64 p, .int .i64 q] 51 (0, 0)) := by rw [hW0]; exact ((below_alloc (below_alloc (Below.refl _ _) _) _).block _ (by simp)).trans (World.alloc_heap_new w _)
 have b1 : W0.heap[w.heap.size + 1]? = some (.cells #[.string a.1, .string a.2.1, .string a.2.2] 123 (0, 0)) := by
  have := World.alloc_heap_new (w.alloc (.cells #[.slice A0 n0 c0, .slice A1 n1 c1, .slice A2 n2 c2, .slice A3 ms.length c3, .int .i64 p, .int .i64 q] 51)) (.cells #[.string a.1, .string a.2.1, .string a.2.2] 123)
  rw [World.size_alloc] at this
  rw [hW0]; exact ((below_alloc (Below.refl _ _) _).block _ (by simp)).trans this
 have b2 : W0.heap[w.heap.size + 1 + 1]? = some (.cells #[.string b.1, .string b.2.1, .string b.2.2] 123 (0, 0)) := by
  have := World.alloc_heap_new ((w.alloc (.cells #[.slice A0 n0 c0, .slice A1 n1 c1, .slice A2 n2 c2, .slice A3 ms.length c3, .int .i64 p, .int .i64 q] 51)).alloc (.cells #[.string a.1, .string a.2.1, .string a.2.2] 123)) (.cells #[.string b.1, .string b.2.1, .string b.2.2] 123)
  rw [World.size_alloc, World.size_alloc] at this
  rw [hW0]; exact this
 have B0 : Below w.heap.size w W0 := by rw [hW0]; repeat (first | exact Below.refl _ _ | apply below_alloc)
 have sz0 : W0.heap.size = w.heap.size + 3 := by rw [hW0]; simp
 have HW := Aside0.mk hW0
 clear hW0
 go_wp2
 · have h3 : 3 < lv := by assumption
   have hv : fitsP ms a b lv = upN ms a b 3 := by unfold fitsP; congr 1; omega
   have HV := Aside0.mk hv
   clear hv
   rw [← HW.out]
   go_loopw [13] (fun vi wr => ∃ i : Nat, vi = .int .i64 (i : Int) ∧ i ≤ 3 ∧ Aside0 (upN ms a b i = true) ∧ Aside0 (Below W0.heap.size W0 wr)) (fun vi _ => 3 - (intOf vi).toNat)
   case atStart => exact ⟨0, rfl, Nat.zero_le _, ⟨rfl⟩, ⟨Below.refl _ _⟩⟩
   case round =>
    obtain ⟨i, rfl, hi, HN, HB⟩ := hrel
    by_cases hlt : (i : Int) < 3
    · have d1 : decide ((i : Int) < 3) = true := decide_eq_true hlt
      have B2 : Below w.heap.size w wr := B0.trans (HB.out.mono B0.size)
      have HC2 := Aside0.mk (Kd.C_below HC.out B2)
      have k0 := (HB.out.block _ (by omega)).trans b0
      have k1 := (HB.out.block _ (by omega)).trans b1
      have k2 := (HB.out.block _ (by omega)).trans b2
      have z0 := cell_of_blk k0
      have z1 := cell_of_blk k1
      have z2 := cell_of_blk k2
      have HB2 := Aside0.mk B2
      have q0 := z0 0
      have q1 := z0 1
      have q2 := z0 2
      have q3 := z0 3
      have q4 := z0 4
      have q5 := z0 5
      have r0 := z1 0
      have r1 := z1 1
      have r2 := z1 2
      have s0 := z2 0
      have s1 := z2 1
      have s2 := z2 2
      simp only [List.getElem?_toArray, List.getElem?_cons_zero, List.getElem?_cons_succ] at q0 q1 q2 q3 q4 q5 r0 r1 r2 s0 s1 s2
      have sw : w.heap.size + 1 + 1 < wr.heap.size := by have := HB.out.size; omega
      have U := upN_succ ms a b i
      rw [HN.out, Bool.true_and] at U
      have HU := Aside0.mk U
      clear k0 k1 k2 z0 z1 z2 B2 U b0 b1 b2
      obtain rfl | rfl | rfl : i = 0 ∨ i = 1 ∨ i = 2 := by omega
      · cases hv : fitP ms 0 a.1 b.1
        · go_wp2
          go_still_tail 8, (by kernel_rfl)
          change wpList _ _ _ _ _ (World.drew wr)
          go_wp2_with (go_at_call 354; refine (fit_calls A0 n0 c0 A1 n1 c1 A2 n2 c2 A3 c3 ms p q 0 _ _ _ (Kd.C_below HC2.out (below_drew (Below.refl _ _)))).mono ?_; rintro e w9 ⟨rfl, hb⟩; rw [hv]; replace hb := Below.trans (below_drew (Below.refl wr.heap.size wr)) (hb.mono (Nat.le_refl _)))
          all_goals go_wp2
          all_goals go_ret
          all_goals refine ⟨?_, HB2.out.trans (hb.mono HB2.out.size)⟩
          all_goals
           have e := HU.out
           rw [show fitP ms ((0 : Nat) : Int) (at3 a 0) (at3 b 0) = false from hv] at e
           have e2 := upN_false ms a b (3 - 1) 1 e
           rw [show 1 + (3 - 1) = 3 by omega] at e2
           rw [HV.out, e2]; rfl
        · go_wp2
          go_still_tail 8, (by kernel_rfl)
          change wpList _ _ _ _ _ (World.drew wr)
          go_wp2_with (go_at_call 354; refine (fit_calls A0 n0 c0 A1 n1 c1 A2 n2 c2 A3 c3 ms p q 0 _ _ _ (Kd.C_below HC2.out (below_drew (Below.refl _ _)))).mono ?_; rintro e w9 ⟨rfl, hb⟩; rw [hv]; replace hb := Below.trans (below_drew (Below.refl wr.heap.size wr)) (hb.mono (Nat.le_refl _)))
          all_goals go_wp2
          all_goals go_roundw
          all_goals first
           | (case rel => exact ⟨1, by simp, by omega, ⟨HU.out.trans hv⟩, ⟨HB.out.trans (hb.mono HB.out.size)⟩⟩)
           | (case measure => simp [intOf]; omega)
           | (case measure => simp [intOf])
      · cases hv : fitP ms 1 a.2.1 b.2.1
        · go_wp2
          go_still_tail 8, (by kernel_rfl)
          change wpList _ _ _ _ _ (World.drew wr)
          go_wp2_with (go_at_call 354; refine (fit_calls A0 n0 c0 A1 n1 c1 A2 n2 c2 A3 c3 ms p q 1 _ _ _ (Kd.C_below HC2.out (below_drew (Below.refl _ _)))).mono ?_; rintro e w9 ⟨rfl, hb⟩; rw [hv]; replace hb := Below.trans (below_drew (Below.refl wr.heap.size wr)) (hb.mono (Nat.le_refl _)))
          all_goals go_wp2
          all_goals go_ret
          all_goals refine ⟨?_, HB2.out.trans (hb.mono HB2.out.size)⟩
          all_goals
           have e := HU.out
           rw [show fitP ms ((1 : Nat) : Int) (at3 a 1) (at3 b 1) = false from hv] at e
           have e2 := upN_false ms a b (3 - 2) 2 e
           rw [show 2 + (3 - 2) = 3 by omega] at e2
           rw [HV.out, e2]; rfl
        · go_wp2
          go_still_tail 8, (by kernel_rfl)
          change wpList _ _ _ _ _ (World.drew wr)
          go_wp2_with (go_at_call 354; refine (fit_calls A0 n0 c0 A1 n1 c1 A2 n2 c2 A3 c3 ms p q 1 _ _ _ (Kd.C_below HC2.out (below_drew (Below.refl _ _)))).mono ?_; rintro e w9 ⟨rfl, hb⟩; rw [hv]; replace hb := Below.trans (below_drew (Below.refl wr.heap.size wr)) (hb.mono (Nat.le_refl _)))
          all_goals go_wp2
          all_goals go_roundw
          all_goals first
           | (case rel => exact ⟨2, by simp, by omega, ⟨HU.out.trans hv⟩, ⟨HB.out.trans (hb.mono HB.out.size)⟩⟩)
           | (case measure => simp [intOf]; omega)
           | (case measure => simp [intOf])
      · cases hv : fitP ms 2 a.2.2 b.2.2
        · go_wp2
          go_still_tail 8, (by kernel_rfl)
          change wpList _ _ _ _ _ (World.drew wr)
          go_wp2_with (go_at_call 354; refine (fit_calls A0 n0 c0 A1 n1 c1 A2 n2 c2 A3 c3 ms p q 2 _ _ _ (Kd.C_below HC2.out (below_drew (Below.refl _ _)))).mono ?_; rintro e w9 ⟨rfl, hb⟩; rw [hv]; replace hb := Below.trans (below_drew (Below.refl wr.heap.size wr)) (hb.mono (Nat.le_refl _)))
          all_goals go_wp2
          all_goals go_ret
          all_goals refine ⟨?_, HB2.out.trans (hb.mono HB2.out.size)⟩
          all_goals
           have e := HU.out
           rw [show fitP ms ((2 : Nat) : Int) (at3 a 2) (at3 b 2) = false from hv] at e
           have e2 := upN_false ms a b (3 - 3) 3 e
           rw [show 3 + (3 - 3) = 3 by omega] at e2
           rw [HV.out, e2]; rfl
        · go_wp2
          go_still_tail 8, (by kernel_rfl)
          change wpList _ _ _ _ _ (World.drew wr)
          go_wp2_with (go_at_call 354; refine (fit_calls A0 n0 c0 A1 n1 c1 A2 n2 c2 A3 c3 ms p q 2 _ _ _ (Kd.C_below HC2.out (below_drew (Below.refl _ _)))).mono ?_; rintro e w9 ⟨rfl, hb⟩; rw [hv]; replace hb := Below.trans (below_drew (Below.refl wr.heap.size wr)) (hb.mono (Nat.le_refl _)))
          all_goals go_wp2
          all_goals go_roundw
          all_goals first
           | (case rel => exact ⟨3, by simp, by omega, ⟨HU.out.trans hv⟩, ⟨HB.out.trans (hb.mono HB.out.size)⟩⟩)
           | (case measure => simp [intOf]; omega)
           | (case measure => simp [intOf])
    · have d1 : decide ((i : Int) < 3) = false := decide_eq_false hlt
      have e : i = 3 := by omega
      have E := HN.out
      rw [e] at E
      rw [← HV.out] at E
      have HE := Aside0.mk E
      clear E
      go_wp2
      go_ret
      exact ⟨by rw [HE.out]; rfl, B0.trans (HB.out.mono B0.size)⟩
 · have h3 : lv ≤ 3 := by assumption
   have h4 : 0 < lv := by assumption
   have hv : fitsP ms a b lv = upN ms a b lv.toNat := by unfold fitsP; congr 1; omega
   have HV := Aside0.mk hv
   clear hv
   rw [← HW.out]
   go_loopw [13] (fun vi wr => ∃ i : Nat, vi = .int .i64 (i : Int) ∧ i ≤ lv.toNat ∧ Aside0 (upN ms a b i = true) ∧ Aside0 (Below W0.heap.size W0 wr)) (fun vi _ => lv.toNat - (intOf vi).toNat)
   case atStart => exact ⟨0, rfl, Nat.zero_le _, ⟨rfl⟩, ⟨Below.refl _ _⟩⟩
   case round =>
    obtain ⟨i, rfl, hi, HN, HB⟩ := hrel
    by_cases hlt : (i : Int) < lv
    · have d1 : decide ((i : Int) < lv) = true := decide_eq_true hlt
      have B2 : Below w.heap.size w wr := B0.trans (HB.out.mono B0.size)
      have HC2 := Aside0.mk (Kd.C_below HC.out B2)
      have k0 := (HB.out.block _ (by omega)).trans b0
      have k1 := (HB.out.block _ (by omega)).trans b1
      have k2 := (HB.out.block _ (by omega)).trans b2
      have z0 := cell_of_blk k0
      have z1 := cell_of_blk k1
      have z2 := cell_of_blk k2
      have HB2 := Aside0.mk B2
      have q0 := z0 0
      have q1 := z0 1
      have q2 := z0 2
      have q3 := z0 3
      have q4 := z0 4
      have q5 := z0 5
      have r0 := z1 0
      have r1 := z1 1
      have r2 := z1 2
      have s0 := z2 0
      have s1 := z2 1
      have s2 := z2 2
      simp only [List.getElem?_toArray, List.getElem?_cons_zero, List.getElem?_cons_succ] at q0 q1 q2 q3 q4 q5 r0 r1 r2 s0 s1 s2
      have sw : w.heap.size + 1 + 1 < wr.heap.size := by have := HB.out.size; omega
      have U := upN_succ ms a b i
      rw [HN.out, Bool.true_and] at U
      have HU := Aside0.mk U
      clear k0 k1 k2 z0 z1 z2 B2 U b0 b1 b2
      obtain rfl | rfl | rfl : i = 0 ∨ i = 1 ∨ i = 2 := by omega
      · cases hv : fitP ms 0 a.1 b.1
        · go_wp2
          go_still_tail 8, (by kernel_rfl)
          change wpList _ _ _ _ _ (World.drew wr)
          go_wp2_with (go_at_call 354; refine (fit_calls A0 n0 c0 A1 n1 c1 A2 n2 c2 A3 c3 ms p q 0 _ _ _ (Kd.C_below HC2.out (below_drew (Below.refl _ _)))).mono ?_; rintro e w9 ⟨rfl, hb⟩; rw [hv]; replace hb := Below.trans (below_drew (Below.refl wr.heap.size wr)) (hb.mono (Nat.le_refl _)))
          all_goals go_wp2
          all_goals go_ret
          all_goals refine ⟨?_, HB2.out.trans (hb.mono HB2.out.size)⟩
          all_goals
           have e := HU.out
           rw [show fitP ms ((0 : Nat) : Int) (at3 a 0) (at3 b 0) = false from hv] at e
           have e2 := upN_false ms a b (lv.toNat - 1) 1 e
           rw [show 1 + (lv.toNat - 1) = lv.toNat by omega] at e2
           rw [HV.out, e2]; rfl
        · go_wp2
          go_still_tail 8, (by kernel_rfl)
          change wpList _ _ _ _ _ (World.drew wr)
          go_wp2_with (go_at_call 354; refine (fit_calls A0 n0 c0 A1 n1 c1 A2 n2 c2 A3 c3 ms p q 0 _ _ _ (Kd.C_below HC2.out (below_drew (Below.refl _ _)))).mono ?_; rintro e w9 ⟨rfl, hb⟩; rw [hv]; replace hb := Below.trans (below_drew (Below.refl wr.heap.size wr)) (hb.mono (Nat.le_refl _)))
          all_goals go_wp2
          all_goals go_roundw
          all_goals first
           | (case rel => exact ⟨1, by simp, by omega, ⟨HU.out.trans hv⟩, ⟨HB.out.trans (hb.mono HB.out.size)⟩⟩)
           | (case measure => simp [intOf]; omega)
           | (case measure => simp [intOf])
      · cases hv : fitP ms 1 a.2.1 b.2.1
        · go_wp2
          go_still_tail 8, (by kernel_rfl)
          change wpList _ _ _ _ _ (World.drew wr)
          go_wp2_with (go_at_call 354; refine (fit_calls A0 n0 c0 A1 n1 c1 A2 n2 c2 A3 c3 ms p q 1 _ _ _ (Kd.C_below HC2.out (below_drew (Below.refl _ _)))).mono ?_; rintro e w9 ⟨rfl, hb⟩; rw [hv]; replace hb := Below.trans (below_drew (Below.refl wr.heap.size wr)) (hb.mono (Nat.le_refl _)))
          all_goals go_wp2
          all_goals go_ret
          all_goals refine ⟨?_, HB2.out.trans (hb.mono HB2.out.size)⟩
          all_goals
           have e := HU.out
           rw [show fitP ms ((1 : Nat) : Int) (at3 a 1) (at3 b 1) = false from hv] at e
           have e2 := upN_false ms a b (lv.toNat - 2) 2 e
           rw [show 2 + (lv.toNat - 2) = lv.toNat by omega] at e2
           rw [HV.out, e2]; rfl
        · go_wp2
          go_still_tail 8, (by kernel_rfl)
          change wpList _ _ _ _ _ (World.drew wr)
          go_wp2_with (go_at_call 354; refine (fit_calls A0 n0 c0 A1 n1 c1 A2 n2 c2 A3 c3 ms p q 1 _ _ _ (Kd.C_below HC2.out (below_drew (Below.refl _ _)))).mono ?_; rintro e w9 ⟨rfl, hb⟩; rw [hv]; replace hb := Below.trans (below_drew (Below.refl wr.heap.size wr)) (hb.mono (Nat.le_refl _)))
          all_goals go_wp2
          all_goals go_roundw
          all_goals first
           | (case rel => exact ⟨2, by simp, by omega, ⟨HU.out.trans hv⟩, ⟨HB.out.trans (hb.mono HB.out.size)⟩⟩)
           | (case measure => simp [intOf]; omega)
           | (case measure => simp [intOf])
      · cases hv : fitP ms 2 a.2.2 b.2.2
        · go_wp2
          go_still_tail 8, (by kernel_rfl)
          change wpList _ _ _ _ _ (World.drew wr)
          go_wp2_with (go_at_call 354; refine (fit_calls A0 n0 c0 A1 n1 c1 A2 n2 c2 A3 c3 ms p q 2 _ _ _ (Kd.C_below HC2.out (below_drew (Below.refl _ _)))).mono ?_; rintro e w9 ⟨rfl, hb⟩; rw [hv]; replace hb := Below.trans (below_drew (Below.refl wr.heap.size wr)) (hb.mono (Nat.le_refl _)))
          all_goals go_wp2
          all_goals go_ret
          all_goals refine ⟨?_, HB2.out.trans (hb.mono HB2.out.size)⟩
          all_goals
           have e := HU.out
           rw [show fitP ms ((2 : Nat) : Int) (at3 a 2) (at3 b 2) = false from hv] at e
           have e2 := upN_false ms a b (lv.toNat - 3) 3 e
           rw [show 3 + (lv.toNat - 3) = lv.toNat by omega] at e2
           rw [HV.out, e2]; rfl
        · go_wp2
          go_still_tail 8, (by kernel_rfl)
          change wpList _ _ _ _ _ (World.drew wr)
          go_wp2_with (go_at_call 354; refine (fit_calls A0 n0 c0 A1 n1 c1 A2 n2 c2 A3 c3 ms p q 2 _ _ _ (Kd.C_below HC2.out (below_drew (Below.refl _ _)))).mono ?_; rintro e w9 ⟨rfl, hb⟩; rw [hv]; replace hb := Below.trans (below_drew (Below.refl wr.heap.size wr)) (hb.mono (Nat.le_refl _)))
          all_goals go_wp2
          all_goals go_roundw
          all_goals first
           | (case rel => exact ⟨3, by simp, by omega, ⟨HU.out.trans hv⟩, ⟨HB.out.trans (hb.mono HB.out.size)⟩⟩)
           | (case measure => simp [intOf]; omega)
           | (case measure => simp [intOf])
    · have d1 : decide ((i : Int) < lv) = false := decide_eq_false hlt
      have e : i = lv.toNat := by omega
      have E := HN.out
      rw [e] at E
      rw [← HV.out] at E
      have HE := Aside0.mk E
      clear E
      go_wp2
      go_ret
      exact ⟨by rw [HE.out]; rfl, B0.trans (HB.out.mono B0.size)⟩
 · have h3 : lv ≤ 3 := by assumption
   have h4 : lv ≤ 0 := by assumption
   have hv : fitsP ms a b lv = upN ms a b 0 := by unfold fitsP; congr 1; omega
   have HV := Aside0.mk hv
   clear hv
   rw [← HW.out]
   go_loopw [13] (fun vi wr => ∃ i : Nat, vi = .int .i64 (i : Int) ∧ i ≤ 0 ∧ Aside0 (upN ms a b i = true) ∧ Aside0 (Below W0.heap.size W0 wr)) (fun vi _ => 0 - (intOf vi).toNat)
   case atStart => exact ⟨0, rfl, Nat.zero_le _, ⟨rfl⟩, ⟨Below.refl _ _⟩⟩
   case round =>
    obtain ⟨i, rfl, hi, HN, HB⟩ := hrel
    by_cases hlt : (i : Int) < 0
    · have d1 : decide ((i : Int) < 0) = true := decide_eq_true hlt
      have B2 : Below w.heap.size w wr := B0.trans (HB.out.mono B0.size)
      have HC2 := Aside0.mk (Kd.C_below HC.out B2)
      have k0 := (HB.out.block _ (by omega)).trans b0
      have k1 := (HB.out.block _ (by omega)).trans b1
      have k2 := (HB.out.block _ (by omega)).trans b2
      have z0 := cell_of_blk k0
      have z1 := cell_of_blk k1
      have z2 := cell_of_blk k2
      have HB2 := Aside0.mk B2
      have q0 := z0 0
      have q1 := z0 1
      have q2 := z0 2
      have q3 := z0 3
      have q4 := z0 4
      have q5 := z0 5
      have r0 := z1 0
      have r1 := z1 1
      have r2 := z1 2
      have s0 := z2 0
      have s1 := z2 1
      have s2 := z2 2
      simp only [List.getElem?_toArray, List.getElem?_cons_zero, List.getElem?_cons_succ] at q0 q1 q2 q3 q4 q5 r0 r1 r2 s0 s1 s2
      have sw : w.heap.size + 1 + 1 < wr.heap.size := by have := HB.out.size; omega
      have U := upN_succ ms a b i
      rw [HN.out, Bool.true_and] at U
      have HU := Aside0.mk U
      clear k0 k1 k2 z0 z1 z2 B2 U b0 b1 b2
      omega
    · have d1 : decide ((i : Int) < 0) = false := decide_eq_false hlt
      have e : i = 0 := by omega
      have E := HN.out
      rw [e] at E
      rw [← HV.out] at E
      have HE := Aside0.mk E
      clear E
      go_wp2
      go_ret
      exact ⟨by rw [HE.out]; rfl, B0.trans (HB.out.mono B0.size)⟩
def k3 (s : S30) : K3 := (s.f0, s.f1, s.f2)
def ruleV (x : S53) : Value := .agg #[.int .i64 x.f0, .int .i64 x.f1, .bool x.f2, .string x.f3.f0, .string x.f3.f1, .string x.f3.f2, .string x.f4.f0, .string x.f4.f1, .string x.f4.f2]
def bothP (ms : List S69) (x : S53) (a b : K3) (lv : Int) : Bool := fitsP ms (k3 x.f3) a lv && fitsP ms (k3 x.f4) b lv
theorem both_calls (bi bl : Nat) (A0 : Option Addr) (n0 c0 : Nat) (A1 : Option Addr) (n1 c1 : Nat) (A2 : Option Addr) (n2 c2 : Nat) (A3 : Option Addr) (c3 : Nat) (ms : List S69) (p q : Int) (x : S53) (a b : K3) (lv : Int) (w : World) (hC : Kd.C k69 w A3 ms.length ms)
 (hi : w.heap[bi]? = some (.cells #[.slice A0 n0 c0, .slice A1 n1 c1, .slice A2 n2 c2, .slice A3 ms.length c3, .int .i64 p, .int .i64 q] 51 (0, 0))) (hl : w.heap[bl]? = some (.cells #[.int .i64 lv] 3 (0, 0))) :
 Calls Tryz.prog 352 #[ruleV x, .agg #[.string a.1, .string a.2.1, .string a.2.2], .agg #[.string b.1, .string b.2.1, .string b.2.2], .pointer (some ⟨bi, 0, none⟩), .pointer (some ⟨bl, 0, none⟩)] w fun e w' => e = .returned (.bool (bothP ms x a b lv)) ∧ Below w.heap.size w w' := by
 have hu39 := Tryz.underlying51
 have hu30 := Tryz.underlying123
 have hu53 := Tryz.underlying125
 have z0 := cell_of_blk hi
 have q0 := z0 0
 have q1 := z0 1
 have q2 := z0 2
 have q3 := z0 3
 have q4 := z0 4
 have q5 := z0 5
 have r0 := cell_of_blk hl 0
 simp only [List.getElem?_toArray, List.getElem?_cons_zero, List.getElem?_cons_succ] at q0 q1 q2 q3 q4 q5 r0
 have si : bi < w.heap.size := (Array.getElem?_eq_some_iff.1 hi).1
 have sl : bl < w.heap.size := (Array.getElem?_eq_some_iff.1 hl).1
 have m0 : bi ≠ w.heap.size := by omega
 have m1 : bi ≠ w.heap.size + 1 := by omega
 have m2 : bi ≠ w.heap.size + 1 + 1 := by omega
 have m3 : bl ≠ w.heap.size := by omega
 have m4 : bl ≠ w.heap.size + 1 := by omega
 have m5 : bl ≠ w.heap.size + 1 + 1 := by omega
 have u0 : bi < w.heap.size + 1 := by omega
 have u1 : bi < w.heap.size + 1 + 1 := by omega
 have u2 : bl < w.heap.size + 1 := by omega
 have u3 : bl < w.heap.size + 1 + 1 := by omega
 have HC := Aside0.mk hC
 obtain ⟨W0, hW0⟩ : ∃ W0, W0 = ((w.alloc (.cells #[.int .i64 x.f0, .int .i64 x.f1, .bool x.f2, .string x.f3.f0, .string x.f3.f1, .string x.f3.f2, .string x.f4.f0, .string x.f4.f1, .string x.f4.f2] 125)).alloc (.cells #[.string a.1, .string a.2.1, .string a.2.2] 123)).alloc (.cells #[.string b.1, .string b.2.1, .string b.2.2] 123) := ⟨_, rfl⟩
 have B0 : Below w.heap.size w W0 := by rw [hW0]; exact below_alloc (below_alloc (below_alloc (Below.refl _ _) _) _) _
 have sz0 : W0.heap.size = w.heap.size + 3 := by rw [hW0]; simp
 have hi0 := (B0.block bi si).trans hi
 have hl0 := (B0.block bl sl).trans hl
 have h5 : W0.heap[w.heap.size]? = some (.cells #[.int .i64 x.f0, .int .i64 x.f1, .bool x.f2, .string x.f3.f0, .string x.f3.f1, .string x.f3.f2, .string x.f4.f0, .string x.f4.f1, .string x.f4.f2] 125 (0, 0)) := by rw [hW0]; exact ((below_alloc (below_alloc (Below.refl _ _) _) _).block _ (by simp)).trans (World.alloc_heap_new w _)
 have h7 : W0.heap[w.heap.size + 1 + 1]? = some (.cells #[.string b.1, .string b.2.1, .string b.2.2] 123 (0, 0)) := by
  have := World.alloc_heap_new ((w.alloc (.cells #[.int .i64 x.f0, .int .i64 x.f1, .bool x.f2, .string x.f3.f0, .string x.f3.f1, .string x.f3.f2, .string x.f4.f0, .string x.f4.f1, .string x.f4.f2] 125)).alloc (.cells #[.string a.1, .string a.2.1, .string a.2.2] 123)) (.cells #[.string b.1, .string b.2.1, .string b.2.2] 123)
  rw [World.size_alloc, World.size_alloc] at this
  rw [hW0]; exact this
 have HW := Aside0.mk hW0
 have I0 := Aside0.mk hi0
 have L0 := Aside0.mk hl0
 have H5 := Aside0.mk h5
 have H7 := Aside0.mk h7
 have HB0 := Aside0.mk B0
 clear hC z0 hi hl hW0 hi0 hl0 h5 h7 B0
 unfold ruleV
 go_enter Tryz.func352, Tryz.ntmps352
 cases hv : fitsP ms (k3 x.f3) a lv
 · have hb0 : bothP ms x a b lv = false := by unfold bothP; rw [hv]; rfl
   have HB := Aside0.mk hb0
   clear hb0
   go_wp2_with (go_at_call 353; refine (fits_calls A0 n0 c0 A1 n1 c1 A2 n2 c2 A3 c3 ms p q (k3 x.f3) a lv _ (Kd.C_below HC.out (by repeat (first | exact Below.refl _ _ | apply below_alloc)))).mono ?_; rintro e w1 ⟨rfl, hb⟩; rw [hv]; replace hb := Below.trans (show Below w.heap.size w _ by repeat (first | exact Below.refl _ _ | apply below_alloc)) (hb.mono (by simp; omega)))
   go_ret
   exact ⟨by rw [HB.out]; rfl, hb⟩
 · have hb0 : bothP ms x a b lv = fitsP ms (k3 x.f4) b lv := by unfold bothP; rw [hv]; rfl
   have HB := Aside0.mk hb0
   clear hb0
   go_wp2_with (first | (go_at_call 353; rw [← HW.out]; refine (fits_calls A0 n0 c0 A1 n1 c1 A2 n2 c2 A3 c3 ms p q (k3 x.f3) a lv W0 (Kd.C_below HC.out HB0.out)).mono ?_; rintro e w1 ⟨rfl, hb⟩; rw [hv]; have s1 := hb.size; rw [sz0] at s1; have zi := cell_of_blk ((hb.block bi (by omega)).trans I0.out); have zl := cell_of_blk ((hb.block bl (by omega)).trans L0.out); have z5 := cell_of_blk ((hb.block w.heap.size (by omega)).trans H5.out); have z7 := cell_of_blk ((hb.block (w.heap.size + 1 + 1) (by omega)).trans H7.out); have y0 := zi 0; have y1 := zi 1; have y2 := zi 2; have y3 := zi 3; have y4 := zi 4; have y5 := zi 5; have v0 := zl 0; have x6 := z5 6; have x7 := z5 7; have x8 := z5 8; have u4 := z7 0; have u5 := z7 1; have u6 := z7 2; simp only [List.getElem?_toArray, List.getElem?_cons_zero, List.getElem?_cons_succ] at y0 y1 y2 y3 y4 y5 v0 x6 x7 x8 u4 u5 u6; clear zi zl z5 z7; have K1 := Aside0.mk hb; clear hb) | (go_at_call 353; refine (fits_calls A0 n0 c0 A1 n1 c1 A2 n2 c2 A3 c3 ms p q (k3 x.f4) b lv _ (Kd.C_below HC.out (HB0.out.trans (K1.out.mono HB0.out.size)))).mono ?_; rintro e w2 ⟨rfl, hb2⟩))
   go_ret
   exact ⟨by rw [HB.out]; rfl, (HB0.out.trans (K1.out.mono HB0.out.size)).trans (hb2.mono (by omega))⟩
end Go.Proofs.YtpmcfckechjppaaGreatDoor.LikW
