/- Made by a program of this seat's own (shake.py, merge.py): what the claim leans on: LikLad, LikMax, DistPl. -/
import Derived.Test.YtpmcfckechjppaaGreatDoorDd12
import Derived.RangeFuncNested
import Derived.RangeFuncBound
import Derived.RangeFuncCalls
import Derived.RangeFuncLeaves
import Derived.Shelf.Abstract
import Derived.Shelf.RegionOpen
import Derived.OwnWalkIn
import Derived.TacticsInMore
import Derived.LoopNIn
import Derived.LoopIn
import Derived.Maps.OwnIn
import Derived.Sort.CutIn
set_option linter.unusedVariables false
set_option linter.unusedSimpArgs false
set_option maxRecDepth 100000
set_option maxHeartbeats 8000000
namespace Go.Proofs.YtpmcfckechjppaaGreatDoor.LikW
open Go.RowKit Go.Shelf Go.Proofs.YtpmcfckechjppaaGreatDoorW.PrintWords Go.Proofs.YtpmcfckechjppaaGreatDoorW.PrintLast Go.Proofs.YtpmcfckechjppaaGreatDoor.P
attribute [local go_sem] Oper.semAt_some
def j1o : ByteArray := ⟨#[117, 110, 100]⟩
def v4b : ByteArray := ⟨#[]⟩
def z8b (l s r : ByteArray) : List K3 := [(l, s, r), (l, v4b, r), (l, s, v4b), (l, v4b, v4b), (j1o, s, v4b)]
def z6w (l : ByteArray) (pre : List K3) (x : K3) : List K3 := if (pre.any fun y => decide (x = y)) = true then pre else if x.1 = l then pre ++ [x] else if x.2.1 = v4b then pre else pre ++ [x]
def z0a (l s r : ByteArray) (k : Nat) : List K3 := ((z8b l s r).take k).foldl (z6w l) []
def v6v (l s r : ByteArray) : List K3 := if l = v4b then [] else z0a l s r 5
def Kp (W W' : World) : Prop := W.heap.size ≤ W'.heap.size ∧ ∀ (k : Nat) (o : Obj), W.heap[k]? = some o → o.isCells = true ∨ o.isWalk = true → W'.heap[k]? = some o
theorem Kp.trans {A B C : World} (h : Kp A B) (k : Kp B C) : Kp A C := ⟨Nat.le_trans h.1 k.1, fun i o hi ho => k.2 i o (h.2 i o hi ho) ho⟩
theorem Kp.put (W : World) (l : Nat) (o o' : Obj) (hl : W.heap[l]? = some o) (h1 : o.isCells = false) (h2 : o.isWalk = false) : Kp W (W.putObj l o') := by
 refine ⟨by simp, fun k o2 hk ho => ?_⟩
 rw [World.putObj_heap_other ?_]
 · exact hk
 · rintro rfl
   rw [hl] at hk
   cases hk
   rw [h1, h2] at ho
   rcases ho with h | h <;> cases h
theorem Kp.map {W W' : World} (h : Kp W W') {b : Nat} {ps : List (K3 × Value)} (hm : q5x W b ps) : q5x W' b ps := by
 obtain ⟨l, c, e, hb⟩ := hm
 exact ⟨l, c, e, h.2 _ _ hb (.inr rfl)⟩
theorem q5x.walk {W : World} {b : Nat} {ps : List (K3 × Value)} (h : q5x W b ps) : ∃ o : Obj, W.heap[b]? = some o ∧ o.isWalk = true := by
 obtain ⟨l, c, _, hb⟩ := h
 exact ⟨_, hb, rfl⟩
def Kc (W W' : World) : Prop := W.heap.size ≤ W'.heap.size ∧ ∀ (k : Nat) (o : Obj), W.heap[k]? = some o → o.isCells = true → W'.heap[k]? = some o
theorem Kc.refl (W : World) : Kc W W := ⟨Nat.le_refl _, fun _ _ h _ => h⟩
theorem Kc.trans {A B C : World} (h : Kc A B) (k : Kc B C) : Kc A C := ⟨Nat.le_trans h.1 k.1, fun i o hi ho => k.2 i o (h.2 i o hi ho) ho⟩
theorem Kc.cell {W W' : World} (h : Kc W W') {a : Addr} {v : Value} (hc : W.cell? a = some v) : W'.cell? a = some v := by
 obtain ⟨o, ho, hcl⟩ := cells_of_cell hc
 rw [← hc]
 exact World.cell?_of_block (w := W) ((h.2 _ _ ho hcl).trans ho.symm)
theorem Kp.kc {W W' : World} (h : Kp W W') : Kc W W' := ⟨h.1, fun k o hk ho => h.2 k o hk (.inl ho)⟩
theorem Kp.alloc (W : World) (o : Obj) : Kp W (W.alloc o) := ⟨(q0b (Below.refl W.heap.size W) o).size, fun k _ hk _ => ((q0b (Below.refl _ W) o).block k (Array.getElem?_eq_some_iff.1 hk).1).trans hk⟩
theorem Kc.grown {W W' : World} {b : Nat} {ps : List (K3 × Value)} (hm : q5x W b ps) (hg : W.grownBy W' (some b)) : Kc W W' := by
 obtain ⟨l, c, _, hb⟩ := hm
 refine ⟨hg.size, fun k o hk ho => (hg.block k (Array.getElem?_eq_some_iff.1 hk).1 ?_).trans hk⟩
 rintro e
 obtain rfl := Option.some.inj e
 rw [hb] at hk
 cases hk
 cases ho
section
variable {F : Fence} {n : Nat} {ops : Array Oper} {rest : List Oper} {o : Oper} {a : Act} {w : World} {Q : Exit → Act → World → Prop}
theorem q6j (hro : F.round = none) (hg : o.guard = none) (m x : Operand) (T E : TypeId) (ok : Bool) (hop : o.op = Op.lookup T m x ok) (hT : Tryz.prog.underlying T = some (.map 123 E)) (b : Nat) (hm : a.eval m = .map (some b)) (ps : List (K3 × Value)) (hM : q5x w b ps) (k : K3) (hx : a.eval x = z0t k)
 (z : Value) (hz : (zeroValue E).run Tryz.prog w = .ok z w) (h : wpListIn F n Tryz.prog ops Q rest (a.put o.dst (if ok = true then .tuple #[(q4g k ps).getD z, .bool (q4g k ps).isSome] else (q4g k ps).getD z)) w) : wpListIn F n Tryz.prog ops Q (o :: rest) a w := by
 refine wpListIn_plain hg fun K' hK' => ⟨fun f hf => ?_, ?_⟩
 · simp [Oper.about, hop] at hf
 · rw [hro]
   have hrun := z6n hM k hT hz ok
   have e : (o.semAt none a.eval).run Tryz.prog w = .ok (.value (if ok = true then .tuple #[(q4g k ps).getD z, .bool (q4g k ps).isSome] else (q4g k ps).getD z)) w := by
    unfold Oper.semAt execOp
    simp only [hop, hm, hx, Sem.run_bind, Sem.run_pure, Result.andThen_ok, hrun]
   rw [e]
   exact hK' _ _ h
theorem z1j (hro : F.round = none) (hg : o.guard = none) (m x v : Operand) (T E : TypeId) (hop : o.op = Op.mapUpdate T m x v) (hT : Tryz.prog.underlying T = some (.map 123 E)) (b : Nat) (hm : a.eval m = .map (some b)) (ps : List (K3 × Value)) (hM : q5x w b ps) (k : K3) (hx : a.eval x = z0t k) (u : Value) (hv : a.eval v = u)
 (hn : q4g k ps = none) (h : ∀ w', q5x w' b (ps ++ [(k, u)]) → w.grownBy w' (some b) → wpListIn F n Tryz.prog ops Q rest (a.put o.dst undef) w') : wpListIn F n Tryz.prog ops Q (o :: rest) a w := by
 obtain ⟨w', hrun, h1, h2⟩ := k0m hM k u hT hn
 refine wpListIn_plain hg fun K' hK' => ⟨fun f hf => ?_, ?_⟩
 · simp [Oper.about, hop] at hf
 · rw [hro]
   have e : (o.semAt none a.eval).run Tryz.prog w = .ok .skip w' := by
    unfold Oper.semAt execOp
    simp only [hop, hm, hx, hv, Sem.run_bind, Sem.run_pure, Result.andThen_ok, hrun]
   rw [e]
   exact hK' _ _ (h w' h1 h2)
end
def z1z (pre : List K3) : List (K3 × Value) := pre.map fun y => (y, Value.bool true)
theorem z8u (x : K3) : ∀ pre : List K3, q4g x (z1z pre) = if (pre.any fun y => decide (x = y)) = true then some (.bool true) else none
 | [] => rfl
 | y :: pre => by
  have ih := z8u x pre
  unfold z1z at ih ⊢
  rw [List.map_cons, q8x, ih, List.any_cons]
  by_cases h : x = y
  · rw [if_pos h, decide_eq_true h]; rfl
  · rw [if_neg h, decide_eq_false h]; rfl
theorem z3u (l s r : ByteArray) (k : Nat) (hk : k < 5) : z0a l s r (k + 1) = z6w l (z0a l s r k) ((z8b l s r)[k]'hk) := by
 unfold z0a
 rw [List.take_succ_eq_append_getElem hk, List.foldl_append]
 rfl
theorem v7g (l : ByteArray) (pre : List K3) (x : K3) : pre <+: z6w l pre x := by
 unfold z6w
 (repeat' split) <;> first | exact List.prefix_refl _ | exact List.prefix_append _ _
theorem z6s (l s r : ByteArray) : ∀ (d k : Nat), k + d = 5 → z0a l s r k <+: z0a l s r 5
 | 0, k, h => by obtain rfl : k = 5 := by omega
                 exact List.prefix_refl _
 | d + 1, k, h => by
  have ih := z6s l s r d (k + 1) (by omega)
  rw [z3u l s r k (by omega)] at ih
  exact (v7g _ _ _).trans ih
theorem z6t (l s r : ByteArray) : ∀ k, k ≤ 5 → (z0a l s r k).length ≤ k
 | 0, _ => by simp [z0a]
 | k + 1, h => by
  have ih := z6t l s r k (by omega)
  rw [z3u l s r k (by omega)]
  unfold z6w
  (repeat' split) <;> first | omega | (rw [List.length_append]; simp; omega)
theorem z0b (W : World) : (zeroValue 4).run Tryz.prog W = .ok (.bool false) W := by kernel_rfl
theorem k5i (F : Fence) (n : Nat) (hf : F.fn 216) (hro : F.round = none) (hn : 1 ≤ n) (y Bt : Nat) (l s r : ByteArray) (J Jx : List K3 → World → Prop) (W : World)
 (hJ : AbidesFrom W.heap.size J) (hJx : AbidesFrom W.heap.size Jx)
 (hY : ∀ pre x W1, J pre W1 → pre.length < 5 → YieldAt F (n - 1) Tryz.prog y #[z0t x] W1 fun e W' =>
  (e = .returned (.bool true) ∧ J (pre ++ [x]) W' ∧ Kp W1 W') ∨ (e = .returned (.bool false) ∧ Jx (pre ++ [x]) W'))
 (z0 : W.cell? ⟨Bt, 0, none⟩ = some (.string l)) (z2 : W.cell? ⟨Bt, 2, none⟩ = some (.string s)) (z3 : W.cell? ⟨Bt, 3, none⟩ = some (.string r)) (h0 : J [] W) :
 CallsIn F n Tryz.prog 216 #[.func (.yield y) #[] #[], .pointer (some ⟨Bt, 0, none⟩)] W fun e W' => (∃ v, e = .returned v) ∧
  ((∃ ys, ys = v6v l s r ∧ J ys W') ∨ (∃ pre, pre <+: v6v l s r ∧ Jx pre W')) := by
 have hu44 := Tryz.underlying33
 have hu30 := Tryz.underlying123
 have hm : ∀ W : World, (Instr.makeMap 243 none).run Tryz.prog W = .ok (.map (some W.heap.size)) (W.alloc (.map #[] 0)) := fun W => run_makeMap_plain W _
 have hBt : Bt < W.heap.size := World.block_lt_of_cell? W _ z0
 refine callsIn_of_wp Tryz.func216 rfl hf ?_ hro
 simp only [Tryz.ntmps216, List.size_toArray, List.length_cons, List.length_nil, Nat.reduceAdd, Nat.reduceSub, Array.replicate_succ, Array.replicate_zero, List.push_toArray, List.append_toArray, List.nil_append, List.cons_append]
 by_cases hl : l = v4b
 · subst hl
   have e1 : v4b.toList.isEmpty = true := by rw [ByteArray.toList_eq]; rfl
   gi_wp2
   refine bodyPost_ret (results_none rfl _ _ _) rfl ?_
   exact ⟨⟨_, rfl⟩, .inl ⟨[], by unfold v6v; rw [if_pos rfl], h0⟩⟩
 · have hne : l.toList.isEmpty = false := by
    rw [List.isEmpty_eq_false_iff]
    intro e
    apply hl
    rw [ByteArray.toList_eq] at e
    exact ByteArray.ext (Array.toList_inj.1 (by rw [e]; rfl))
   gi_wp2
   obtain ⟨W2, hW2⟩ : ∃ W2, W2 = ((W.alloc (.map #[] 0)).alloc (.cells #[.string l, .string s, .string r, .string l, .string ⟨#[]⟩, .string r, .string l, .string s, .string ⟨#[]⟩, .string l, .string ⟨#[]⟩, .string ⟨#[]⟩, .string ⟨#[117, 110, 100]⟩, .string s, .string ⟨#[]⟩] 123)) := ⟨_, rfl⟩
   rw [← hW2]
   have M2 : q5x W2 W.heap.size (z1z (z0a l s r 0)) := ⟨[], 0, rfl, by
    have h1 : (W.alloc (.map #[] 0)).heap[W.heap.size]? = some (.map #[] 0) := World.alloc_heap_new W _
    rw [hW2]
    exact ((q0b (Below.refl _ _) _).block _ (Array.getElem?_eq_some_iff.1 h1).1).trans h1⟩
   have C2 : W2.heap[W.heap.size + 1]? = some (.cells #[.string l, .string s, .string r, .string l, .string ⟨#[]⟩, .string r, .string l, .string s, .string ⟨#[]⟩, .string l, .string ⟨#[]⟩, .string ⟨#[]⟩, .string ⟨#[117, 110, 100]⟩, .string s, .string ⟨#[]⟩] 123 (0, 0)) := by
    rw [hW2]
    have := World.alloc_heap_new (W.alloc (.map #[] 0)) (.cells #[.string l, .string s, .string r, .string l, .string ⟨#[]⟩, .string r, .string l, .string s, .string ⟨#[]⟩, .string l, .string ⟨#[]⟩, .string ⟨#[]⟩, .string ⟨#[117, 110, 100]⟩, .string s, .string ⟨#[]⟩] 123)
    simpa using this
   have J2 : J (z0a l s r 0) W2 := by
    rw [hW2]
    exact hJ _ _ _ none (hJ _ _ _ none h0 (World.grownBy_alloc _ _ none) (fun r e => by cases e)) (World.grownBy_alloc _ _ none) (fun r e => by cases e)
   have cells : ∀ k, k < 5 → W2.cell? ⟨W.heap.size + 1, k * 3, none⟩ = some (.string ((z8b l s r).getD k default).1) ∧ W2.cell? ⟨W.heap.size + 1, k * 3 + 1, none⟩ = some (.string ((z8b l s r).getD k default).2.1) ∧ W2.cell? ⟨W.heap.size + 1, k * 3 + 2, none⟩ = some (.string ((z8b l s r).getD k default).2.2) := by
    intro k hk
    match k, hk with
    | 0, _ => exact ⟨(q0a C2 0).trans rfl, (q0a C2 1).trans rfl, (q0a C2 2).trans rfl⟩
    | 1, _ => exact ⟨(q0a C2 3).trans rfl, (q0a C2 4).trans rfl, (q0a C2 5).trans rfl⟩
    | 2, _ => exact ⟨(q0a C2 6).trans rfl, (q0a C2 7).trans rfl, (q0a C2 8).trans rfl⟩
    | 3, _ => exact ⟨(q0a C2 9).trans rfl, (q0a C2 10).trans rfl, (q0a C2 11).trans rfl⟩
    | 4, _ => exact ⟨(q0a C2 12).trans rfl, (q0a C2 13).trans rfl, (q0a C2 14).trans rfl⟩
    | k + 5, h => omega
   have HZ : q0c (W2.cell? ⟨Bt, 0, none⟩ = some (.string l)) := ⟨by rw [hW2]; exact ((q0b (q0b (Below.refl _ _) _) _ : Below W.heap.size W _).cell (p := ⟨Bt, 0, none⟩) hBt).trans z0⟩
   have S2 : W.heap.size + 1 < W2.heap.size := (Array.getElem?_eq_some_iff.1 C2).1
   have HCE := aq cells
   clear hW2 C2 z0 z2 z3 cells
   gi_loopw [35] (fun i wr => ∃ k : Nat, k ≤ 5 ∧ i = .int .i64 (k : Int) ∧ q0c (J (z0a l s r k) wr) ∧ q0c (q5x wr W.heap.size (z1z (z0a l s r k))) ∧ q0c (Kc W2 wr)) (fun i _ => 5 - (intOf i).toNat)
   case atStart => exact ⟨0, Nat.zero_le _, rfl, ⟨J2⟩, ⟨M2⟩, ⟨Kc.refl _⟩⟩
   case round =>
    clear M2 J2
    obtain ⟨k, hk, rfl, HJ, HM, HK⟩ := hrel
    by_cases hlt : k < 5
    · obtain ⟨x, hx⟩ : ∃ x, x = (z8b l s r)[k]'hlt := ⟨_, rfl⟩
      have hxd : (z8b l s r).getD k default = x := by rw [hx]; simp [List.getD_eq_getElem?_getD, List.getElem?_eq_getElem (show k < (z8b l s r).length from hlt)]; rfl
      obtain ⟨y0, y1, y2⟩ := HCE.out k hlt
      rw [hxd] at y0 y1 y2
      replace y0 := HK.out.cell y0
      replace y1 := HK.out.cell y1
      replace y2 := HK.out.cell y2
      have zl := HK.out.cell HZ.out
      have hs := z3u l s r k hlt
      rw [← hx] at hs
      have HS := aq hs
      have sz : W.heap.size + 1 < wr.heap.size := Nat.lt_of_lt_of_le S2 HK.out.1
      have hf := z8u x (z0a l s r k)
      clear hx hxd hs
      have bl : Bt < wr.heap.size := by omega
      have AJ := aq hJ
      have AX := aq hJx
      have AY := aq hY
      clear hJ hJx hY
      have hmx : (0 : Int) ≤ (k : Int) := by omega
      have d1 : decide ((k : Int) < 5) = true := decide_eq_true (by omega)
      have S2' := aq S2
      clear S2 hne hk
      have HL := aq hl
      clear hl
      by_cases hin : ((z0a l s r k).any fun y => decide (x = y)) = true
      · rw [if_pos hin] at hf
        have hs : z0a l s r (k + 1) = z0a l s r k := by rw [HS.out]; unfold z6w; rw [if_pos hin]
        have HS2 := aq hs
        have HN := aq hf
        clear hf hs hin HS
        gi_wp2_with (gi_at_lookup; refine q6j hro rfl _ _ 243 4 false rfl Tryz.underlying243 W.heap.size rfl (z1z (z0a l s r k)) ?hM x rfl _ (z0b _) ?_; (case hM => exact HM.out.below (by repeat (first | exact Below.refl _ _ | apply q0b))); rw [HN.out]; simp only [Option.getD_some, Option.getD_none, Bool.false_eq_true, if_false])
        go_roundw
        case rel => exact ⟨k + 1, by omega, by simp, ⟨by rw [HS2.out]; exact AJ.out _ _ _ none HJ.out (World.grownBy_alloc _ _ none) (fun r e => by cases e)⟩, ⟨by rw [HS2.out]; exact HM.out.below (q0b (Below.refl _ _) _)⟩, ⟨HK.out.trans (Kp.alloc _ _).kc⟩⟩
        case measure => simp [intOf]; omega
      rw [if_neg hin] at hf
      have HN := aq hf
      clear hf
      by_cases hxl : x.1 = l
      · have hs : z0a l s r (k + 1) = z0a l s r k ++ [x] := by rw [HS.out]; unfold z6w; rw [if_neg hin, if_pos hxl]
        have HS2 := aq hs
        have t1 : (x.1.toList != l.toList) = false := by rw [hxl]; exact bne_self_eq_false _
        have t1a : (x.1.toList == l.toList) = true := by rw [hxl]; exact beq_self_eq_true _
        have t1b : (x.1.toList = l.toList) = True := eq_true (by rw [hxl])
        clear hs hin HS hxl
        gi_wp2_with (first | (gi_at_lookup; refine q6j hro rfl _ _ 243 4 false rfl Tryz.underlying243 W.heap.size rfl (z1z (z0a l s r k)) ?hM x rfl _ (z0b _) ?_; (case hM => exact HM.out.below (by repeat (first | exact Below.refl _ _ | apply q0b))); rw [HN.out]; simp only [Option.getD_some, Option.getD_none, Bool.false_eq_true, if_false]) | (gi_at_mapUpdate; refine z1j hro rfl _ _ _ 243 4 rfl Tryz.underlying243 W.heap.size rfl (z1z (z0a l s r k)) ?hM x rfl (.bool true) rfl HN.out ?_; (case hM => exact HM.out.below (by repeat (first | exact Below.refl _ _ | apply q0b))); intro w9 hM9 hg9; obtain ⟨fn, tmps, assign, body, hy, hR⟩ := AY.out (z0a l s r k) x w9 (AJ.out _ _ _ (some W.heap.size) (AJ.out _ _ _ none HJ.out (World.grownBy_alloc _ _ none) (fun r e => by cases e)) hg9 (fun r e => by cases e; exact ⟨Nat.le_refl _, (HM.out.below (q0b (Below.refl _ _) _)).walk⟩)) (by have := z6t l s r k (by omega); omega); simp only [z0t] at hy; have hK9 := Kc.grown (HM.out.below (q0b (Below.refl _ _) _)) hg9; have bN := World.alloc_heap_new wr (.cells #[.string x.1, .string x.2.1, .string x.2.2] 123); have q0 : w9.cell? ⟨wr.heap.size, 0, none⟩ = some (.string x.1) := hK9.cell ((q0a bN 0).trans rfl); have q1 : w9.cell? ⟨wr.heap.size, 1, none⟩ = some (.string x.2.1) := hK9.cell ((q0a bN 1).trans rfl); have q2 : w9.cell? ⟨wr.heap.size, 2, none⟩ = some (.string x.2.2) := hK9.cell ((q0a bN 2).trans rfl); clear hK9 bN; have HM9 := aq hM9; have HG9 := aq hg9; clear hM9 hg9))
        refine hR.mono ?_
        rintro e W3 (⟨rfl, hJ3, hk3⟩ | ⟨rfl, hJx3⟩)
        · have HJ3 := aq hJ3
          have HK3 := aq hk3
          clear hJ3 hk3
          gi_wp2
          go_roundw
          case rel => exact ⟨k + 1, by omega, by simp, ⟨by rw [HS2.out]; exact HJ3.out⟩, ⟨by rw [HS2.out]; unfold z1z; rw [List.map_append]; exact HK3.out.map HM9.out⟩, ⟨((HK.out.trans (Kp.alloc _ _).kc).trans (Kc.grown (HM.out.below (q0b (Below.refl _ _) _)) HG9.out)).trans HK3.out.kc⟩⟩
          case measure => simp [intOf]; omega
        · have HJ3 := aq hJx3
          clear hJx3
          gi_wp2
          refine bodyPost_ret (results_none rfl _ _ _) rfl ?_
          refine ⟨⟨_, rfl⟩, .inr ⟨_, ?_, HJ3.out⟩⟩
          have p := z6s l s r (5 - (k + 1)) (k + 1) (by omega)
          rw [HS2.out] at p
          unfold v6v
          rw [if_neg HL.out]
          exact p
      have t1 : (x.1.toList != l.toList) = true := by
       rw [bne_iff_ne]
       intro e
       rw [ByteArray.toList_eq, ByteArray.toList_eq] at e
       exact hxl (ByteArray.ext (Array.toList_inj.1 e))
      have t1a : (x.1.toList == l.toList) = false := by rw [beq_eq_false_iff_ne]; exact bne_iff_ne.1 t1
      have t1b : (x.1.toList = l.toList) = False := eq_false (bne_iff_ne.1 t1)
      by_cases hxe : x.2.1 = v4b
      · have hs : z0a l s r (k + 1) = z0a l s r k := by rw [HS.out]; unfold z6w; rw [if_neg hin, if_neg hxl, if_pos hxe]
        have HS2 := aq hs
        have t2 : x.2.1.toList.isEmpty = true := by rw [hxe, ByteArray.toList_eq]; rfl
        clear hs hin HS hxl hxe
        gi_wp2_with (gi_at_lookup; refine q6j hro rfl _ _ 243 4 false rfl Tryz.underlying243 W.heap.size rfl (z1z (z0a l s r k)) ?hM x rfl _ (z0b _) ?_; (case hM => exact HM.out.below (by repeat (first | exact Below.refl _ _ | apply q0b))); rw [HN.out]; simp only [Option.getD_some, Option.getD_none, Bool.false_eq_true, if_false])
        go_roundw
        case rel => exact ⟨k + 1, by omega, by simp, ⟨by rw [HS2.out]; exact AJ.out _ _ _ none HJ.out (World.grownBy_alloc _ _ none) (fun r e => by cases e)⟩, ⟨by rw [HS2.out]; exact HM.out.below (q0b (Below.refl _ _) _)⟩, ⟨HK.out.trans (Kp.alloc _ _).kc⟩⟩
        case measure => simp [intOf]; omega
      · have hs : z0a l s r (k + 1) = z0a l s r k ++ [x] := by rw [HS.out]; unfold z6w; rw [if_neg hin, if_neg hxl, if_neg hxe]
        have HS2 := aq hs
        have t2 : x.2.1.toList.isEmpty = false := by
         rw [List.isEmpty_eq_false_iff]
         intro e
         rw [ByteArray.toList_eq] at e
         exact hxe (ByteArray.ext (Array.toList_inj.1 (by rw [e]; rfl)))
        clear hs hin HS hxl hxe
        gi_wp2_with (first | (gi_at_lookup; refine q6j hro rfl _ _ 243 4 false rfl Tryz.underlying243 W.heap.size rfl (z1z (z0a l s r k)) ?hM x rfl _ (z0b _) ?_; (case hM => exact HM.out.below (by repeat (first | exact Below.refl _ _ | apply q0b))); rw [HN.out]; simp only [Option.getD_some, Option.getD_none, Bool.false_eq_true, if_false]) | (gi_at_mapUpdate; refine z1j hro rfl _ _ _ 243 4 rfl Tryz.underlying243 W.heap.size rfl (z1z (z0a l s r k)) ?hM x rfl (.bool true) rfl HN.out ?_; (case hM => exact HM.out.below (by repeat (first | exact Below.refl _ _ | apply q0b))); intro w9 hM9 hg9; obtain ⟨fn, tmps, assign, body, hy, hR⟩ := AY.out (z0a l s r k) x w9 (AJ.out _ _ _ (some W.heap.size) (AJ.out _ _ _ none HJ.out (World.grownBy_alloc _ _ none) (fun r e => by cases e)) hg9 (fun r e => by cases e; exact ⟨Nat.le_refl _, (HM.out.below (q0b (Below.refl _ _) _)).walk⟩)) (by have := z6t l s r k (by omega); omega); simp only [z0t] at hy; have hK9 := Kc.grown (HM.out.below (q0b (Below.refl _ _) _)) hg9; have bN := World.alloc_heap_new wr (.cells #[.string x.1, .string x.2.1, .string x.2.2] 123); have q0 : w9.cell? ⟨wr.heap.size, 0, none⟩ = some (.string x.1) := hK9.cell ((q0a bN 0).trans rfl); have q1 : w9.cell? ⟨wr.heap.size, 1, none⟩ = some (.string x.2.1) := hK9.cell ((q0a bN 1).trans rfl); have q2 : w9.cell? ⟨wr.heap.size, 2, none⟩ = some (.string x.2.2) := hK9.cell ((q0a bN 2).trans rfl); clear hK9 bN; have HM9 := aq hM9; have HG9 := aq hg9; clear hM9 hg9))
        refine hR.mono ?_
        rintro e W3 (⟨rfl, hJ3, hk3⟩ | ⟨rfl, hJx3⟩)
        · have HJ3 := aq hJ3
          have HK3 := aq hk3
          clear hJ3 hk3
          gi_wp2
          go_roundw
          case rel => exact ⟨k + 1, by omega, by simp, ⟨by rw [HS2.out]; exact HJ3.out⟩, ⟨by rw [HS2.out]; unfold z1z; rw [List.map_append]; exact HK3.out.map HM9.out⟩, ⟨((HK.out.trans (Kp.alloc _ _).kc).trans (Kc.grown (HM.out.below (q0b (Below.refl _ _) _)) HG9.out)).trans HK3.out.kc⟩⟩
          case measure => simp [intOf]; omega
        · have HJ3 := aq hJx3
          clear hJx3
          gi_wp2
          refine bodyPost_ret (results_none rfl _ _ _) rfl ?_
          refine ⟨⟨_, rfl⟩, .inr ⟨_, ?_, HJ3.out⟩⟩
          have p := z6s l s r (5 - (k + 1)) (k + 1) (by omega)
          rw [HS2.out] at p
          unfold v6v
          rw [if_neg HL.out]
          exact p
    · obtain rfl : k = 5 := by omega
      have d1 : decide (((5 : Nat) : Int) < 5) = false := by decide
      have HL := aq hl
      clear hl
      gi_wp2
      go_end0
      exact ⟨⟨_, rfl⟩, .inl ⟨_, by unfold v6v; rw [if_neg HL.out], HJ.out⟩⟩

theorem v6w (F : Fence) (n : Nat) (hf : F.fn 216) (hro : F.round = none) (hn : 1 ≤ n) (Bt : Nat) (l s r : ByteArray) (w : World)
 (z0 : w.cell? ⟨Bt, 0, none⟩ = some (.string l)) (z2 : w.cell? ⟨Bt, 2, none⟩ = some (.string s)) (z3 : w.cell? ⟨Bt, 3, none⟩ = some (.string r)) :
 SeqStopsK F n Tryz.prog 216 #[.pointer (some ⟨Bt, 0, none⟩)] (fun x : K3 => #[z0t x]) Kp (fun ys => ys = v6v l s r) (fun pre => pre <+: v6v l s r) 5 w := fun y J Jx W hW hJ hJx hY h0 => by
 have c : ∀ {a : Addr} {v : Value}, w.cell? a = some v → W.cell? a = some v := fun {a v} h => (hW.cell (World.block_lt_of_cell? w _ h)).trans h
 exact k5i F n hf hro hn y Bt l s r J Jx W hJ hJx hY (c z0) (c z2) (c z3) h0
def q5t (x : S66) (t : K3) : K3 := (if t.1 = j1o then x.f3 else t.1, if t.2.1 = v4b then x.f4 else t.2.1, if t.2.2 = v4b then x.f5 else t.2.2)
def tK (x : S66) (t : K3) (k : Nat) : K3 := (if 1 ≤ k then (q5t x t).1 else t.1, if 2 ≤ k then (q5t x t).2.1 else t.2.1, if 3 ≤ k then (q5t x t).2.2 else t.2.2)
def z0l (l : List S66) (t : K3) : K3 × Bool := match (v6v t.1 t.2.1 t.2.2).findSome? (rowOf l) with
 | some x => (q5t x t, true)
 | none => (t, false)
theorem k2q (l : List S66) (L S R : ByteArray) (h : ∀ y ∈ v6v L S R, rowOf l y = none) : z0l l (L, S, R) = ((L, S, R), false) := by
 unfold z0l
 rw [List.findSome?_eq_none_iff.2 h]
theorem k3c (l : List S66) (L S R : ByteArray) (pr : List K3) (k : K3) (x : S66) (h : pr ++ [k] <+: v6v L S R) (hn : ∀ y ∈ pr, rowOf l y = none) (hk : rowOf l k = some x) : z0l l (L, S, R) = (q5t x (L, S, R), true) := by
 unfold z0l
 obtain ⟨rest, e⟩ := h
 rw [← e, List.findSome?_append, List.findSome?_append, List.findSome?_eq_none_iff.2 hn]
 simp [List.findSome?, hk]
def Blk (W : World) (B : Nat) (vs : Array Value) (T : TypeId) : Prop := W.heap[B]? = some (.cells vs T (0, 0))
theorem Blk.lt {W : World} {B : Nat} {vs : Array Value} {T : TypeId} (h : Blk W B vs T) : B < W.heap.size := (Array.getElem?_eq_some_iff.1 h).1
theorem Blk.cell {W : World} {B : Nat} {vs : Array Value} {T : TypeId} (h : Blk W B vs T) (i : Nat) : W.cell? ⟨B, i, none⟩ = vs[i]? := q0a h i
theorem Blk.below {n0 : Nat} {W W' : World} {B : Nat} {vs : Array Value} {T : TypeId} (h : Blk W B vs T) (hB : B < n0) (hb : Below n0 W W') : Blk W' B vs T := (hb.block B hB).trans h
theorem v8o {β : Type} (B : Nat) (T : TypeId) (f : β → Array Value) : Own (fun s W => Blk W B (f s) T) := fun s X Y row hs hg hrow =>
 (hg.block B (Blk.lt hs) (fun e' => by obtain ⟨o, ho, hc⟩ := hrow B e'.symm; rw [show X.heap[B]? = _ from hs] at ho; cases ho; cases hc)).trans hs
theorem Blk.kept {W W' : World} {row : Option Nat} {B : Nat} {vs : Array Value} {T : TypeId} (h : Blk W B vs T) (hg : W.grownBy W' row) (hne : some B ≠ row) : Blk W' B vs T := (hg.block B h.lt hne).trans h
theorem Blk.alloc {W : World} {B : Nat} {vs : Array Value} {T : TypeId} (h : Blk W B vs T) (o : Obj) : Blk (W.alloc o) B vs T := h.kept (World.grownBy_alloc W o none) (by simp)
theorem Blk.set {W : World} {B : Nat} {vs : Array Value} {T : TypeId} (h : Blk W B vs T) (i : Nat) (v' : Value) : Blk (W.setCell ⟨B, i, none⟩ v') B (vs.set! i v') T := by
 obtain ⟨hlt, hk⟩ := Array.getElem?_eq_some_iff.1 h
 show (W.heap.modify B _)[B]? = _
 rw [Array.getElem?_eq_getElem (by rw [Array.size_modify]; exact hlt), Array.getElem_modify_self, hk]
 simp
theorem q2y (W : World) (b i : Nat) (v : Value) : W.grownBy (W.setCell ⟨b, i, none⟩ v) (some b) :=
 ⟨rfl, rfl, rfl, (KeepsWalks.setCell W _ v).size, fun k _ hk => Below.heap_setCell _ _ _ k (fun e => hk (by rw [e]))⟩
theorem Blk.other {W : World} {B B' : Nat} {vs : Array Value} {T : TypeId} (h : Blk W B vs T) (hne : B ≠ B') (i : Nat) (u : Value) : Blk (W.setCell ⟨B', i, none⟩ u) B vs T := h.kept (q2y W B' i u) (fun e => hne (by cases e; rfl))
theorem Blk.new (W : World) (vs : Array Value) (T : TypeId) : Blk (W.alloc (.cells vs T)) W.heap.size vs T := World.alloc_heap_new W _
section
variable {F : Fence} {n : Nat} {ops : Array Oper} {rest : List Oper} {o : Oper} {a : Act} {w : World} {Q : Exit → Act → World → Prop}
theorem q9h (lp : Nat) (hro : F.round = some lp) (hg : o.guard = none) (m x : Operand) (T E : TypeId) (ok : Bool) (hop : o.op = Op.lookup T m x ok) (hT : Tryz.prog.underlying T = some (.map 123 E)) (b : Nat) (hm : a.eval m = .map (some b)) (ps : List (K3 × Value)) (hM : q5x w b ps) (k : K3) (hx : a.eval x = z0t k)
 (z : Value) (hz : (zeroValue E).run Tryz.prog w = .ok z w) (h : wpListIn F n Tryz.prog ops Q rest (a.put o.dst (if ok = true then .tuple #[(q4g k ps).getD z, .bool (q4g k ps).isSome] else (q4g k ps).getD z)) w) : wpListIn F n Tryz.prog ops Q (o :: rest) a w := by
 refine wpListIn_plain hg fun K' hK' => ⟨fun f hf => ?_, ?_⟩
 · simp [Oper.about, hop] at hf
 · rw [hro, Oper.semAt_some _ _ _ (by rw [hop]; intro c h; cases h)]
   have hrun := z6n hM k hT hz ok
   have e : (execOp a.eval o).run Tryz.prog w = .ok (.value (if ok = true then .tuple #[(q4g k ps).getD z, .bool (q4g k ps).isSome] else (q4g k ps).getD z)) w := by
    unfold execOp
    simp only [hop, hm, hx, Sem.run_bind, Sem.run_pure, Result.andThen_ok, hrun]
   rw [e]
   exact hK' _ _ h
end
theorem v6o (F : Fence) (n : Nat) (hf : F.fn 165) (hro : F.round = none) (c0 c1 c2 c3 c4 c5 c6 c7 : Value) (w : World) :
 CallsIn F n Tryz.prog 165 #[.agg #[c0, c1, c2, c3, c4, c5, c6, c7]] w fun e w' => e = .returned (.func (.func 216) #[] #[.pointer (some ⟨w.heap.size, 0, none⟩)]) ∧ w' = w.alloc (.cells #[c0, c1, c2, c3, c4, c5, c6, c7] 33) := by
 have hu44 := Tryz.underlying33
 refine callsIn_of_wp Tryz.func165 rfl hf ?_ hro
 simp only [Tryz.ntmps165, List.size_toArray, List.length_cons, List.length_nil, Nat.reduceAdd, Nat.reduceSub, Array.replicate_succ, Array.replicate_zero, List.push_toArray, List.append_toArray, List.nil_append, List.cons_append]
 gi_wp2
 go_ret
 exact ⟨rfl, rfl⟩

theorem v0e (A0 : Option Addr) (n0 c0 : Nat) (A1 : Option Addr) (c1 : Nat) (l : List S66) (A2 : Option Addr) (n2 c2 : Nat) (A3 : Option Addr) (n3 c3 : Nat) (p q : Int)
 (L S R G : ByteArray) (E0 : Option Addr) (m0 d0 : Nat) (E1 : Option Addr) (m1 d1 : Nat) (E2 : Option Addr) (m2 d2 : Nat) (E3 : Option Addr) (m3 d3 : Nat) (w : World) (hC : Kd.C k66 w A1 l.length l) :
 Calls Tryz.prog 100 #[.agg #[.slice A0 n0 c0, .slice A1 l.length c1, .slice A2 n2 c2, .slice A3 n3 c3, .int .i64 p, .int .i64 q], .agg #[.string L, .slice E0 m0 d0, .string S, .string R, .slice E1 m1 d1, .slice E2 m2 d2, .slice E3 m3 d3, .string G]] w fun e w' =>
  e = .returned (.tuple #[.agg #[.string (z0l l (L, S, R)).1.1, .slice E0 m0 d0, .string (z0l l (L, S, R)).1.2.1, .string (z0l l (L, S, R)).1.2.2, .slice E1 m1 d1, .slice E2 m2 d2, .slice E3 m3 d3, .string G], .bool (z0l l (L, S, R)).2]) ∧ Below w.heap.size w w' := by
 have hu39 := Tryz.underlying51
 have hu44 := Tryz.underlying33
 have hu66 := Tryz.underlying122
 have hu30 := Tryz.underlying123
 have hmo : Tryz.prog.follows .mixedOrders = true := by kernel_rfl
 have HC := aq hC
 clear hC
 obtain ⟨V, hV⟩ : ∃ V, V = (((w.alloc (.cells #[.slice A0 n0 c0, .slice A1 l.length c1, .slice A2 n2 c2, .slice A3 n3 c3, .int .i64 p, .int .i64 q] 51)).alloc (.cells #[.string L, .slice E0 m0 d0, .string S, .string R, .slice E1 m1 d1, .slice E2 m2 d2, .slice E3 m3 d3, .string G] 33)).alloc (.cells #[.string ⟨#[]⟩, .slice none 0 0, .string ⟨#[]⟩, .string ⟨#[]⟩, .slice none 0 0, .slice none 0 0, .slice none 0 0, .string ⟨#[]⟩] 33)).alloc (.cells #[.bool false] 4) := ⟨_, rfl⟩
 have vs : V.heap.size = w.heap.size + 4 := by rw [hV]; simp
 have vT : Blk V (w.heap.size + 1) #[.string L, .slice E0 m0 d0, .string S, .string R, .slice E1 m1 d1, .slice E2 m2 d2, .slice E3 m3 d3, .string G] 33 := by rw [hV]; exact Blk.alloc (Blk.alloc (by have := World.alloc_heap_new (w.alloc (.cells #[.slice A0 n0 c0, .slice A1 l.length c1, .slice A2 n2 c2, .slice A3 n3 c3, .int .i64 p, .int .i64 q] 51)) (.cells #[.string L, .slice E0 m0 d0, .string S, .string R, .slice E1 m1 d1, .slice E2 m2 d2, .slice E3 m3 d3, .string G] 33); unfold Blk; simpa using this) _) _
 have v4 : Blk V (w.heap.size + 2) #[.string ⟨#[]⟩, .slice none 0 0, .string ⟨#[]⟩, .string ⟨#[]⟩, .slice none 0 0, .slice none 0 0, .slice none 0 0, .string ⟨#[]⟩] 33 := by rw [hV]; exact Blk.alloc (by have := World.alloc_heap_new ((w.alloc (.cells #[.slice A0 n0 c0, .slice A1 l.length c1, .slice A2 n2 c2, .slice A3 n3 c3, .int .i64 p, .int .i64 q] 51)).alloc (.cells #[.string L, .slice E0 m0 d0, .string S, .string R, .slice E1 m1 d1, .slice E2 m2 d2, .slice E3 m3 d3, .string G] 33)) (.cells #[.string ⟨#[]⟩, .slice none 0 0, .string ⟨#[]⟩, .string ⟨#[]⟩, .slice none 0 0, .slice none 0 0, .slice none 0 0, .string ⟨#[]⟩] 33); unfold Blk; simpa using this) _
 have v5 : Boxed V (w.heap.size + 3) 4 (.bool false) := by rw [hV]; have := World.alloc_heap_new (((w.alloc (.cells #[.slice A0 n0 c0, .slice A1 l.length c1, .slice A2 n2 c2, .slice A3 n3 c3, .int .i64 p, .int .i64 q] 51)).alloc (.cells #[.string L, .slice E0 m0 d0, .string S, .string R, .slice E1 m1 d1, .slice E2 m2 d2, .slice E3 m3 d3, .string G] 33)).alloc (.cells #[.string ⟨#[]⟩, .slice none 0 0, .string ⟨#[]⟩, .string ⟨#[]⟩, .slice none 0 0, .slice none 0 0, .slice none 0 0, .string ⟨#[]⟩] 33)) (.cells #[.bool false] 4); unfold Boxed; simpa using this
 have vB : Below w.heap.size w V := by rw [hV]; repeat (first | exact Below.refl _ _ | apply q0b)
 have vI : k66.C V A1 l.length l := Kd.q0h HC.out vB
 have HV := aq hV
 clear hV
 have HI := aq vI
 clear vI HC
 refine (callsIn_wide (n := 3)).1 ?_
 refine callsIn_of_wp_marks Tryz.func100 rfl trivial ?_ rfl
 simp only [Tryz.ntmps100, List.size_toArray, List.length_cons, List.length_nil, Nat.reduceAdd, Nat.reduceSub, Array.replicate_succ, Array.replicate_zero, List.push_toArray, List.append_toArray, List.nil_append, List.cons_append]
 gi_wp2_with (first | (refine ⟨trivial, ?_⟩; gi_at_call 164; rw [← HV.out]; refine (callsIn_wide.2 (v4p A0 n0 c0 A1 c1 l A2 n2 c2 A3 n3 c3 p q V HI.out)).mono ?_; rintro e w1 ⟨b, rfl, hb, hM, hB⟩; rw [vs] at hb; replace vT := vT.below (by omega) hB; replace v4 := v4.below (by omega) hB; replace v5 : Boxed w1 (w.heap.size + 3) 4 (.bool false) := Blk.below v5 (by omega) hB; have s1 := hB.size; rw [vs] at s1; replace vB := vB.trans (hB.mono vB.size); have t0 := vT.cell 0; have t1 := vT.cell 1; have t2 := vT.cell 2; have t3 := vT.cell 3; have t4 := vT.cell 4; have t5 := vT.cell 5; have t6 := vT.cell 6; have t7 := vT.cell 7; simp only [List.getElem?_toArray, List.getElem?_cons_zero, List.getElem?_cons_succ] at t0 t1 t2 t3 t4 t5 t6 t7; have HB := aq hB; clear hB HI; have HM := aq hM; clear hM; have H4 := aq v4; clear v4; have HT := aq vT; clear vT; have H5 := aq v5; clear v5; have HB2 := aq vB; clear vB; have sT : w.heap.size + 1 < w1.heap.size := by omega) | (refine ⟨trivial, ?_⟩; gi_at_call 165; refine (v6o Fence.wide _ trivial rfl _ _ _ _ _ _ _ _ _).mono ?_; rintro e w2 ⟨rfl, rfl⟩))
 have HVV := HV
 clear HV
 obtain ⟨W0, hW0⟩ : ∃ W0, (w1.alloc (.cells #[.map (some b)] 178)).alloc (.cells #[.string L, .slice E0 m0 d0, .string S, .string R, .slice E1 m1 d1, .slice E2 m2 d2, .slice E3 m3 d3, .string G] 33) = W0 := ⟨_, rfl⟩
 have B1 : Below w1.heap.size w1 W0 := by rw [← hW0]; exact q0b (q0b (Below.refl _ _) _) _
 have s0 : W0.heap.size = w1.heap.size + 2 := by rw [← hW0]; simp
 have bM : Blk W0 w1.heap.size #[.map (some b)] 178 := by rw [← hW0]; exact (Blk.new w1 _ _).alloc _
 have bL : Blk W0 (w1.heap.size + 1) #[.string L, .slice E0 m0 d0, .string S, .string R, .slice E1 m1 d1, .slice E2 m2 d2, .slice E3 m3 d3, .string G] 33 := by rw [← hW0]; have := Blk.new (w1.alloc (.cells #[.map (some b)] 178)) #[.string L, .slice E0 m0 d0, .string S, .string R, .slice E1 m1 d1, .slice E2 m2 d2, .slice E3 m3 d3, .string G] 33; rwa [World.size_alloc] at this
 have B0 : Below w.heap.size w W0 := HB2.out.trans (B1.mono HB2.out.size)
 have bT := HT.out.below (by omega) B1
 have b4 := H4.out.below (by omega) B1
 have b5 : Boxed W0 (w.heap.size + 3) 4 (.bool false) := Blk.below H5.out (by omega) B1
 have mM := HM.out.below B1
 rw [hW0]
 clear hW0 HB HM HT H4 H5 HB2 HVV t0 t1 t2 t3 t4 t5 t6 t7 B1
 refine wpIn_rangeFunc_ownH rfl (by omega) (gf := 216) (lb := #[.pointer (some ⟨w1.heap.size + 1, 0, none⟩)]) rfl trivial (enters_of Tryz.func216 (by kernel_rfl) rfl)
  (v6w Fence.wide _ trivial rfl (by omega) (w1.heap.size + 1) L S R W0 (bL.cell 0) (bL.cell 2) (bL.cell 3)) (fun h k => Kp.trans h k) (fun W lw o o' _ h h1 h2 => Kp.put W lw o o' h h1 h2) (Below.refl _ _) (fun _ => rfl)
  (fun pre W => (∀ y ∈ pre, rowOf l y = none) ∧ Below W0.heap.size W0 W)
  (fun c pre W => (∃ x, (c = .ret ∧ ∃ pr k, pre = pr ++ [k] ∧ (∀ y ∈ pr, rowOf l y = none) ∧ rowOf l k = some x) ∧ Blk W (w.heap.size + 2) #[.string (q5t x (L, S, R)).1, .slice E0 m0 d0, .string (q5t x (L, S, R)).2.1, .string (q5t x (L, S, R)).2.2, .slice E1 m1 d1, .slice E2 m2 d2, .slice E3 m3 d3, .string G] 33 ∧ Boxed W (w.heap.size + 3) 4 (.bool true)) ∧ Below w.heap.size w W)
  (OwnFrom.and (ownFrom_pure _ _) (ownFrom_below (Nat.le_refl _) (Nat.le_refl _)))
  (fun c => OwnFrom.and (fun s A B row ⟨x, h1, h2, h3⟩ hg hr => ⟨x, h1, v8o (β := Unit) _ _ (fun _ => _) () A B row h2 hg (fun r e => (hr r e).2), boxed_own (β := Unit) _ _ (fun _ => _) () A B row h3 hg (fun r e => (hr r e).2)⟩) (ownFrom_below (Nat.le_refl _) (by omega)))
  ⟨by simp, Below.refl _ _⟩
  (fun x a' W => ∃ Bx, W0.heap.size ≤ Bx ∧ Blk W Bx #[.string x.1, .string x.2.1, .string x.2.2] 123 ∧ a' = { tmps := #[.agg #[.slice A0 n0 c0, .slice A1 l.length c1, .slice A2 n2 c2, .slice A3 n3 c3, .int .i64 p, .int .i64 q], .agg #[.string L, .slice E0 m0 d0, .string S, .string R, .slice E1 m1 d1, .slice E2 m2 d2, .slice E3 m3 d3, .string G], .pointer (some ⟨w.heap.size, 0, none⟩), .pointer (some ⟨w.heap.size + 1, 0, none⟩), .pointer (some ⟨w.heap.size + 1 + 1, 0, none⟩), .pointer (some ⟨w.heap.size + 1 + 1 + 1, 0, none⟩), .pointer (some ⟨w1.heap.size, 0, none⟩), .pointer (some ⟨Bx, 0, none⟩), undef, undef, undef, undef, .agg #[.slice A0 n0 c0, .slice A1 l.length c1, .slice A2 n2 c2, .slice A3 n3 c3, .int .i64 p, .int .i64 q], .map (some b), .agg #[.string L, .slice E0 m0 d0, .string S, .string R, .slice E1 m1 d1, .slice E2 m2 d2, .slice E3 m3 d3, .string G], .func (.func 216) #[] #[.pointer (some ⟨w1.heap.size + 1, 0, none⟩)], z0t x, undef, undef, undef, undef, undef, undef, undef, undef, undef, undef, undef, undef, undef, undef, undef, undef, undef, undef, undef, undef, undef, undef, undef, undef, undef, undef, undef, undef, undef, undef, undef, undef, undef, undef, undef, undef, undef, undef, undef, undef, undef], defers := [] })
  (fun x a' _ X Y row hs hg hr => by obtain ⟨Bx, e1, e2, e3⟩ := hs; exact ⟨Bx, e1, v8o (β := Unit) _ _ (fun _ => _) () X Y row e2 hg (fun r e => (hr r e).2), e3⟩)
  ?assign ?body ?done ?stop
 case assign =>
  rintro lp pre x W K ⟨hp, hb1⟩ hK
  simp only [z0t]
  gi_wp2
  exact hK _ _ ((KeepsOthers.alloc _ _).from _) (Kp.alloc _ _) ⟨hp, hb1.alloc hb1.size _⟩ ⟨W.heap.size, hb1.size, Blk.new W _ _, rfl⟩
 case body =>
  rintro lp pre x a' W hl ⟨r, hr⟩ ⟨hp, hb1⟩ ⟨Bx, hBx, bX, rfl⟩ hlt
  simp only [z0t]
  have cM := (bM.below (by omega) hb1).cell 0
  have q0 := bX.cell 0
  have q1 := bX.cell 1
  have q2 := bX.cell 2
  simp only [List.getElem?_toArray, List.getElem?_cons_zero, List.getElem?_cons_succ] at cM q0 q1 q2
  have mW : q5x W b (q7x l []) := mM.below hb1
  have HMW := aq mW
  have hf := z2x x _ l rfl
  have HF := aq hf
  have HX := aq bX
  have HB1 := aq hb1
  have HP := aq hp
  have sW := hb1.size
  have HR := aq hr
  clear mW hf bX hb1 hp hr
  cases hr : rowOf l x with
  | none =>
   rw [hr] at HF
   gi_wp2_with (gi_at_lookup; refine q9h lp rfl rfl _ _ 178 122 true rfl Tryz.underlying178 b rfl (q7x l []) HMW.out x rfl _ (z2m _) ?_; rw [HF.out]; simp only [Option.map_none, Option.getD_none, Option.isSome_none, if_true, k0q])
   exact ⟨(KeepsOthers.alloc _ _).from _, Kp.alloc _ _, fun y hy => (List.mem_append.1 hy).elim (HP.out y) (fun e => by simp at e; subst e; exact hr), HB1.out.alloc HB1.out.size _⟩
  | some y =>
   rw [hr] at HF
   have hr2 := aq hr
   clear hr
   gi_wp2_with (gi_at_lookup; refine q9h lp rfl rfl _ _ 178 122 true rfl Tryz.underlying178 b rfl (q7x l []) HMW.out x rfl _ (z2m _) ?_; rw [HF.out]; simp only [Option.map_some, Option.getD_some, Option.isSome_some, if_true, k0q])
   have wT := bT.below (by omega) HB1.out
   have w4 := b4.below (by omega) HB1.out
   have w5 : Boxed W (w.heap.size + 3) 4 (.bool false) := Blk.below b5 (by omega) HB1.out
   have wB : Below w.heap.size w W := B0.trans (HB1.out.mono B0.size)
   clear q0 q1 q2 cM bM bL bT b4 b5 B0 mM HMW HX HF HR
   obtain ⟨W5, hW5⟩ : ∃ W5, (W.alloc (.cells #[.string y.f0, .string y.f1, .string y.f2, .string y.f3, .string y.f4, .string y.f5] 122)).alloc (.cells #[.pointer (some ⟨w.heap.size + 1, 0, none⟩), .string ⟨#[117, 110, 100]⟩, .string y.f3, .pointer (some ⟨w.heap.size + 1, 2, none⟩), .string ⟨#[]⟩, .string y.f4, .pointer (some ⟨w.heap.size + 1, 3, none⟩), .string ⟨#[]⟩, .string y.f5] 185) = W5 := ⟨_, rfl⟩
   have s5 : W5.heap.size = W.heap.size + 2 := by rw [← hW5]; simp
   have B5 : Below W.heap.size W W5 := by rw [← hW5]; exact q0b (q0b (Below.refl _ _) _) _
   have k5 : KeepsFrom W0.heap.size W W5 := by rw [← hW5]; exact ((KeepsOthers.alloc _ _).trans (KeepsOthers.alloc _ _)).from _
   have bS : Blk W5 (W.heap.size + 1) #[.pointer (some ⟨w.heap.size + 1, 0, none⟩), .string ⟨#[117, 110, 100]⟩, .string y.f3, .pointer (some ⟨w.heap.size + 1, 2, none⟩), .string ⟨#[]⟩, .string y.f4, .pointer (some ⟨w.heap.size + 1, 3, none⟩), .string ⟨#[]⟩, .string y.f5] 185 := by
    rw [← hW5]
    have := Blk.new (W.alloc (.cells #[.string y.f0, .string y.f1, .string y.f2, .string y.f3, .string y.f4, .string y.f5] 122)) #[.pointer (some ⟨w.heap.size + 1, 0, none⟩), .string ⟨#[117, 110, 100]⟩, .string y.f3, .pointer (some ⟨w.heap.size + 1, 2, none⟩), .string ⟨#[]⟩, .string y.f4, .pointer (some ⟨w.heap.size + 1, 3, none⟩), .string ⟨#[]⟩, .string y.f5] 185
    rwa [World.size_alloc] at this
   replace wT : Blk W5 (w.heap.size + 1) #[.string (tK y (L, S, R) 0).1, .slice E0 m0 d0, .string (tK y (L, S, R) 0).2.1, .string (tK y (L, S, R) 0).2.2, .slice E1 m1 d1, .slice E2 m2 d2, .slice E3 m3 d3, .string G] 33 := wT.below (by omega) B5
   replace w4 := w4.below (by omega) B5
   replace w5 : Boxed W5 (w.heap.size + 3) 4 (.bool false) := Blk.below w5 (by omega) B5
   replace wB : Below w.heap.size w W5 := wB.trans (B5.mono wB.size)
   rw [hW5]
   clear hW5 B5
   gi_loopw [39] (fun i wr => ∃ k : Nat, k ≤ 3 ∧ i = .int .i64 (k : Int) ∧ q0c (Blk wr (w.heap.size + 1) #[.string (tK y (L, S, R) k).1, .slice E0 m0 d0, .string (tK y (L, S, R) k).2.1, .string (tK y (L, S, R) k).2.2, .slice E1 m1 d1, .slice E2 m2 d2, .slice E3 m3 d3, .string G] 33) ∧ q0c (Blk wr (W.heap.size + 1) #[.pointer (some ⟨w.heap.size + 1, 0, none⟩), .string ⟨#[117, 110, 100]⟩, .string y.f3, .pointer (some ⟨w.heap.size + 1, 2, none⟩), .string ⟨#[]⟩, .string y.f4, .pointer (some ⟨w.heap.size + 1, 3, none⟩), .string ⟨#[]⟩, .string y.f5] 185) ∧ q0c (Blk wr (w.heap.size + 2) #[.string ⟨#[]⟩, .slice none 0 0, .string ⟨#[]⟩, .string ⟨#[]⟩, .slice none 0 0, .slice none 0 0, .slice none 0 0, .string ⟨#[]⟩] 33) ∧ q0c (Boxed wr (w.heap.size + 3) 4 (.bool false)) ∧ q0c (Below w.heap.size w wr) ∧ q0c (KeepsFrom W0.heap.size W wr)) (fun i _ => 3 - (intOf i).toNat)
   case atStart => exact ⟨0, by omega, rfl, ⟨wT⟩, ⟨bS⟩, ⟨w4⟩, ⟨w5⟩, ⟨wB⟩, ⟨k5⟩⟩
   case round =>
    clear wT bS w4 w5 wB k5
    obtain ⟨k, hk, rfl, hT, hS, h4, h5, hB, hKF⟩ := hrel
    have hs := hKF.out.1
    by_cases hlt3 : k < 3
    · have t0 := hT.out.cell 0
      have t2 := hT.out.cell 2
      have t3 := hT.out.cell 3
      have e0 := hS.out.cell 0
      have e1 := hS.out.cell 1
      have e2 := hS.out.cell 2
      have e3 := hS.out.cell 3
      have e4 := hS.out.cell 4
      have e5 := hS.out.cell 5
      have e6 := hS.out.cell 6
      have e7 := hS.out.cell 7
      have e8 := hS.out.cell 8
      simp only [List.getElem?_toArray, List.getElem?_cons_zero, List.getElem?_cons_succ] at t0 t2 t3 e0 e1 e2 e3 e4 e5 e6 e7 e8
      have sS := hS.out.lt
      have sT2 : w.heap.size + 1 < wr.heap.size := hT.out.lt
      obtain rfl | rfl | rfl : k = 0 ∨ k = 1 ∨ k = 2 := by omega
      · simp only [tK] at t0 t2 t3
        simp only [Nat.le_refl, reduceIte, show ¬(1 ≤ 0) by omega, show ¬(2 ≤ 0) by omega, show ¬(3 ≤ 0) by omega, show ¬(2 ≤ 1) by omega, show ¬(3 ≤ 1) by omega, show ¬(3 ≤ 2) by omega, show 1 ≤ 2 by omega] at t0 t2 t3
        have f0 := q0e hT.out 0
        by_cases hu : L = j1o
        · have g0 : (L.toList == [117, 110, 100]) = true := by rw [hu, ByteArray.toList_eq]; rfl
          have e : (#[.string (tK y (L, S, R) 1).1, .slice E0 m0 d0, .string (tK y (L, S, R) 1).2.1, .string (tK y (L, S, R) 1).2.2, .slice E1 m1 d1, .slice E2 m2 d2, .slice E3 m3 d3, .string G] : Array Value) = (#[.string (tK y (L, S, R) 0).1, .slice E0 m0 d0, .string (tK y (L, S, R) 0).2.1, .string (tK y (L, S, R) 0).2.2, .slice E1 m1 d1, .slice E2 m2 d2, .slice E3 m3 d3, .string G] : Array Value).set! 0 (.string y.f3) := by simp [tK, q5t, hu]
          have E := aq e
          clear e hu
          gi_wp2
          gi_region_elder_o
          all_goals gi_wp2
          all_goals go_roundw
          all_goals first
           | (case measure => simp [intOf])
           | (case rel =>
            refine ⟨1, by omega, rfl, ⟨?_⟩, ⟨?_⟩, ⟨?_⟩, ⟨?_⟩, ⟨?_⟩, ⟨?_⟩⟩
            · rw [E.out]; exact Blk.alloc (hT.out.set 0 _) _
            · exact Blk.alloc (hS.out.other (by omega) _ _) _
            · exact Blk.alloc (h4.out.other (by omega) _ _) _
            · exact Blk.alloc (Blk.other h5.out (by omega) _ _) _
            · exact ((hB.out.setCell (p := ⟨w.heap.size + 1, 0, none⟩) (by simp) _).alloc (by have := hB.out.size; simpa using this) _).drew
            · exact hKF.out.trans (((KeepsOthers.setCell _ _ _).trans ((KeepsOthers.alloc _ _).trans (KeepsOthers.drew _))).from _))
        · have g0 : (L.toList == [117, 110, 100]) = false := by first | (rw [beq_eq_false_iff_ne]; intro e; apply hu; rw [ByteArray.toList_eq] at e; exact ByteArray.ext (Array.toList_inj.1 (by rw [e]; rfl))) | (rw [List.isEmpty_eq_false_iff]; intro e; apply hu; rw [ByteArray.toList_eq] at e; exact ByteArray.ext (Array.toList_inj.1 (by rw [e]; rfl)))
          have e : (#[.string (tK y (L, S, R) 1).1, .slice E0 m0 d0, .string (tK y (L, S, R) 1).2.1, .string (tK y (L, S, R) 1).2.2, .slice E1 m1 d1, .slice E2 m2 d2, .slice E3 m3 d3, .string G] : Array Value) = #[.string (tK y (L, S, R) 0).1, .slice E0 m0 d0, .string (tK y (L, S, R) 0).2.1, .string (tK y (L, S, R) 0).2.2, .slice E1 m1 d1, .slice E2 m2 d2, .slice E3 m3 d3, .string G] := by simp [tK, q5t, hu]
          have E := aq e
          clear e hu
          gi_wp2
          gi_region_elder_o
          all_goals gi_wp2
          all_goals go_roundw
          all_goals first
           | (case measure => simp [intOf])
           | (case rel =>
            refine ⟨1, by omega, rfl, ⟨?_⟩, ⟨?_⟩, ⟨?_⟩, ⟨?_⟩, ⟨?_⟩, ⟨?_⟩⟩
            · rw [E.out]; exact Blk.alloc hT.out _
            · exact Blk.alloc hS.out _
            · exact Blk.alloc h4.out _
            · exact Blk.alloc h5.out _
            · exact (hB.out.alloc hB.out.size _).drew
            · exact hKF.out.trans (((KeepsOthers.alloc _ _).trans (KeepsOthers.drew _)).from _))
      · simp only [tK] at t0 t2 t3
        simp only [Nat.le_refl, reduceIte, show ¬(1 ≤ 0) by omega, show ¬(2 ≤ 0) by omega, show ¬(3 ≤ 0) by omega, show ¬(2 ≤ 1) by omega, show ¬(3 ≤ 1) by omega, show ¬(3 ≤ 2) by omega, show 1 ≤ 2 by omega] at t0 t2 t3
        have f0 := q0e hT.out 2
        by_cases hu : S = v4b
        · have g0 : S.toList.isEmpty = true := by rw [hu, ByteArray.toList_eq]; rfl
          have g1 : (S.toList == []) = true := by rw [hu, ByteArray.toList_eq]; rfl
          have e : (#[.string (tK y (L, S, R) 2).1, .slice E0 m0 d0, .string (tK y (L, S, R) 2).2.1, .string (tK y (L, S, R) 2).2.2, .slice E1 m1 d1, .slice E2 m2 d2, .slice E3 m3 d3, .string G] : Array Value) = (#[.string (tK y (L, S, R) 1).1, .slice E0 m0 d0, .string (tK y (L, S, R) 1).2.1, .string (tK y (L, S, R) 1).2.2, .slice E1 m1 d1, .slice E2 m2 d2, .slice E3 m3 d3, .string G] : Array Value).set! 2 (.string y.f4) := by simp [tK, q5t, hu]
          have E := aq e
          clear e hu
          gi_wp2
          gi_region_elder_o
          all_goals gi_wp2
          all_goals go_roundw
          all_goals first
           | (case measure => simp [intOf])
           | (case rel =>
            refine ⟨2, by omega, rfl, ⟨?_⟩, ⟨?_⟩, ⟨?_⟩, ⟨?_⟩, ⟨?_⟩, ⟨?_⟩⟩
            · rw [E.out]; exact Blk.alloc (hT.out.set 2 _) _
            · exact Blk.alloc (hS.out.other (by omega) _ _) _
            · exact Blk.alloc (h4.out.other (by omega) _ _) _
            · exact Blk.alloc (Blk.other h5.out (by omega) _ _) _
            · exact ((hB.out.setCell (p := ⟨w.heap.size + 1, 2, none⟩) (by simp) _).alloc (by have := hB.out.size; simpa using this) _).drew
            · exact hKF.out.trans (((KeepsOthers.setCell _ _ _).trans ((KeepsOthers.alloc _ _).trans (KeepsOthers.drew _))).from _))
        · have g0 : S.toList.isEmpty = false := by first | (rw [beq_eq_false_iff_ne]; intro e; apply hu; rw [ByteArray.toList_eq] at e; exact ByteArray.ext (Array.toList_inj.1 (by rw [e]; rfl))) | (rw [List.isEmpty_eq_false_iff]; intro e; apply hu; rw [ByteArray.toList_eq] at e; exact ByteArray.ext (Array.toList_inj.1 (by rw [e]; rfl)))
          have g1 : (S.toList == []) = false := by first | (rw [beq_eq_false_iff_ne]; intro e; apply hu; rw [ByteArray.toList_eq] at e; exact ByteArray.ext (Array.toList_inj.1 (by rw [e]; rfl))) | (rw [List.isEmpty_eq_false_iff]; intro e; apply hu; rw [ByteArray.toList_eq] at e; exact ByteArray.ext (Array.toList_inj.1 (by rw [e]; rfl)))
          have e : (#[.string (tK y (L, S, R) 2).1, .slice E0 m0 d0, .string (tK y (L, S, R) 2).2.1, .string (tK y (L, S, R) 2).2.2, .slice E1 m1 d1, .slice E2 m2 d2, .slice E3 m3 d3, .string G] : Array Value) = #[.string (tK y (L, S, R) 1).1, .slice E0 m0 d0, .string (tK y (L, S, R) 1).2.1, .string (tK y (L, S, R) 1).2.2, .slice E1 m1 d1, .slice E2 m2 d2, .slice E3 m3 d3, .string G] := by simp [tK, q5t, hu]
          have E := aq e
          clear e hu
          gi_wp2
          gi_region_elder_o
          all_goals gi_wp2
          all_goals go_roundw
          all_goals first
           | (case measure => simp [intOf])
           | (case rel =>
            refine ⟨2, by omega, rfl, ⟨?_⟩, ⟨?_⟩, ⟨?_⟩, ⟨?_⟩, ⟨?_⟩, ⟨?_⟩⟩
            · rw [E.out]; exact Blk.alloc hT.out _
            · exact Blk.alloc hS.out _
            · exact Blk.alloc h4.out _
            · exact Blk.alloc h5.out _
            · exact (hB.out.alloc hB.out.size _).drew
            · exact hKF.out.trans (((KeepsOthers.alloc _ _).trans (KeepsOthers.drew _)).from _))
      · simp only [tK] at t0 t2 t3
        simp only [Nat.le_refl, reduceIte, show ¬(1 ≤ 0) by omega, show ¬(2 ≤ 0) by omega, show ¬(3 ≤ 0) by omega, show ¬(2 ≤ 1) by omega, show ¬(3 ≤ 1) by omega, show ¬(3 ≤ 2) by omega, show 1 ≤ 2 by omega] at t0 t2 t3
        have f0 := q0e hT.out 3
        by_cases hu : R = v4b
        · have g0 : R.toList.isEmpty = true := by rw [hu, ByteArray.toList_eq]; rfl
          have g1 : (R.toList == []) = true := by rw [hu, ByteArray.toList_eq]; rfl
          have e : (#[.string (tK y (L, S, R) 3).1, .slice E0 m0 d0, .string (tK y (L, S, R) 3).2.1, .string (tK y (L, S, R) 3).2.2, .slice E1 m1 d1, .slice E2 m2 d2, .slice E3 m3 d3, .string G] : Array Value) = (#[.string (tK y (L, S, R) 2).1, .slice E0 m0 d0, .string (tK y (L, S, R) 2).2.1, .string (tK y (L, S, R) 2).2.2, .slice E1 m1 d1, .slice E2 m2 d2, .slice E3 m3 d3, .string G] : Array Value).set! 3 (.string y.f5) := by simp [tK, q5t, hu]
          have E := aq e
          clear e hu
          gi_wp2
          gi_region_elder_o
          all_goals gi_wp2
          all_goals go_roundw
          all_goals first
           | (case measure => simp [intOf])
           | (case rel =>
            refine ⟨3, by omega, rfl, ⟨?_⟩, ⟨?_⟩, ⟨?_⟩, ⟨?_⟩, ⟨?_⟩, ⟨?_⟩⟩
            · rw [E.out]; exact Blk.alloc (hT.out.set 3 _) _
            · exact Blk.alloc (hS.out.other (by omega) _ _) _
            · exact Blk.alloc (h4.out.other (by omega) _ _) _
            · exact Blk.alloc (Blk.other h5.out (by omega) _ _) _
            · exact ((hB.out.setCell (p := ⟨w.heap.size + 1, 3, none⟩) (by simp) _).alloc (by have := hB.out.size; simpa using this) _).drew
            · exact hKF.out.trans (((KeepsOthers.setCell _ _ _).trans ((KeepsOthers.alloc _ _).trans (KeepsOthers.drew _))).from _))
        · have g0 : R.toList.isEmpty = false := by first | (rw [beq_eq_false_iff_ne]; intro e; apply hu; rw [ByteArray.toList_eq] at e; exact ByteArray.ext (Array.toList_inj.1 (by rw [e]; rfl))) | (rw [List.isEmpty_eq_false_iff]; intro e; apply hu; rw [ByteArray.toList_eq] at e; exact ByteArray.ext (Array.toList_inj.1 (by rw [e]; rfl)))
          have g1 : (R.toList == []) = false := by first | (rw [beq_eq_false_iff_ne]; intro e; apply hu; rw [ByteArray.toList_eq] at e; exact ByteArray.ext (Array.toList_inj.1 (by rw [e]; rfl))) | (rw [List.isEmpty_eq_false_iff]; intro e; apply hu; rw [ByteArray.toList_eq] at e; exact ByteArray.ext (Array.toList_inj.1 (by rw [e]; rfl)))
          have e : (#[.string (tK y (L, S, R) 3).1, .slice E0 m0 d0, .string (tK y (L, S, R) 3).2.1, .string (tK y (L, S, R) 3).2.2, .slice E1 m1 d1, .slice E2 m2 d2, .slice E3 m3 d3, .string G] : Array Value) = #[.string (tK y (L, S, R) 2).1, .slice E0 m0 d0, .string (tK y (L, S, R) 2).2.1, .string (tK y (L, S, R) 2).2.2, .slice E1 m1 d1, .slice E2 m2 d2, .slice E3 m3 d3, .string G] := by simp [tK, q5t, hu]
          have E := aq e
          clear e hu
          gi_wp2
          gi_region_elder_o
          all_goals gi_wp2
          all_goals go_roundw
          all_goals first
           | (case measure => simp [intOf])
           | (case rel =>
            refine ⟨3, by omega, rfl, ⟨?_⟩, ⟨?_⟩, ⟨?_⟩, ⟨?_⟩, ⟨?_⟩, ⟨?_⟩⟩
            · rw [E.out]; exact Blk.alloc hT.out _
            · exact Blk.alloc hS.out _
            · exact Blk.alloc h4.out _
            · exact Blk.alloc h5.out _
            · exact (hB.out.alloc hB.out.size _).drew
            · exact hKF.out.trans (((KeepsOthers.alloc _ _).trans (KeepsOthers.drew _)).from _))
    · obtain rfl : k = 3 := by omega
      have hTT : Blk wr (w.heap.size + 1) #[.string (q5t y (L, S, R)).1, .slice E0 m0 d0, .string (q5t y (L, S, R)).2.1, .string (q5t y (L, S, R)).2.2, .slice E1 m1 d1, .slice E2 m2 d2, .slice E3 m3 d3, .string G] 33 := hT.out
      have dd : decide (((3 : Nat) : Int) < 3) = false := by decide
      have t0 := hTT.cell 0
      have t1 := hTT.cell 1
      have t2 := hTT.cell 2
      have t3 := hTT.cell 3
      have t4 := hTT.cell 4
      have t5 := hTT.cell 5
      have t6 := hTT.cell 6
      have t7 := hTT.cell 7
      simp only [List.getElem?_toArray, List.getElem?_cons_zero, List.getElem?_cons_succ] at t0 t1 t2 t3 t4 t5 t6 t7
      have h44 : Blk wr (w.heap.size + 1 + 1) #[.string ⟨#[]⟩, .slice none 0 0, .string ⟨#[]⟩, .string ⟨#[]⟩, .slice none 0 0, .slice none 0 0, .slice none 0 0, .string ⟨#[]⟩] 33 := h4.out
      have h55 : Boxed wr (w.heap.size + 1 + 1 + 1) 4 (.bool false) := h5.out
      have f0 := q0e h44 0
      have r0 := h44.cell 0
      have f1 := q0e h44 1
      have r1 := h44.cell 1
      have f2 := q0e h44 2
      have r2 := h44.cell 2
      have f3 := q0e h44 3
      have r3 := h44.cell 3
      have f4 := q0e h44 4
      have r4 := h44.cell 4
      have f5 := q0e h44 5
      have r5 := h44.cell 5
      have f6 := q0e h44 6
      have r6 := h44.cell 6
      have f7 := q0e h44 7
      have r7 := h44.cell 7
      simp only [List.getElem?_toArray, List.getElem?_cons_zero, List.getElem?_cons_succ] at r0 r1 r2 r3 r4 r5 r6 r7
      have f8 := h55.frozen
      have r8 := h55.cell
      have s4 := h44.lt
      have s5b := h55.lt
      have H44 := aq h44
      have H55 := aq h55
      clear hTT h44 h55
      gi_wp2
      refine ⟨hKF.out.trans ((((((((((KeepsOthers.setCell _ _ _).trans (KeepsOthers.setCell _ _ _)).trans (KeepsOthers.setCell _ _ _)).trans (KeepsOthers.setCell _ _ _)).trans (KeepsOthers.setCell _ _ _)).trans (KeepsOthers.setCell _ _ _)).trans (KeepsOthers.setCell _ _ _)).trans (KeepsOthers.setCell _ _ _)).trans (KeepsOthers.setCell _ _ _)).from _), ⟨y, ⟨rfl, pre, x, rfl, HP.out, hr2.out⟩, ?_, ?_⟩, ?_⟩
      · have := Blk.other (Blk.set (Blk.set (Blk.set (Blk.set (Blk.set (Blk.set (Blk.set (Blk.set H44.out 0 (.string (q5t y (L, S, R)).1)) 1 (.slice E0 m0 d0)) 2 (.string (q5t y (L, S, R)).2.1)) 3 (.string (q5t y (L, S, R)).2.2)) 4 (.slice E1 m1 d1)) 5 (.slice E2 m2 d2)) 6 (.slice E3 m3 d3)) 7 (.string G)) (show w.heap.size + 1 + 1 ≠ w.heap.size + 1 + 1 + 1 by omega) 0 (.bool true)
        simpa using this
      · refine Boxed.set (v := .bool false) _ ?_
        exact Blk.other (Blk.other (Blk.other (Blk.other (Blk.other (Blk.other (Blk.other (Blk.other H55.out (by omega) _ _) (by omega) _ _) (by omega) _ _) (by omega) _ _) (by omega) _ _) (by omega) _ _) (by omega) _ _) (by omega) _ _
      · exact (((((((((hB.out.setCell (p := ⟨w.heap.size + 1 + 1, 0, none⟩) (show w.heap.size ≤ w.heap.size + 1 + 1 by omega) _).setCell (p := ⟨w.heap.size + 1 + 1, 1, none⟩) (show w.heap.size ≤ w.heap.size + 1 + 1 by omega) _).setCell (p := ⟨w.heap.size + 1 + 1, 2, none⟩) (show w.heap.size ≤ w.heap.size + 1 + 1 by omega) _).setCell (p := ⟨w.heap.size + 1 + 1, 3, none⟩) (show w.heap.size ≤ w.heap.size + 1 + 1 by omega) _).setCell (p := ⟨w.heap.size + 1 + 1, 4, none⟩) (show w.heap.size ≤ w.heap.size + 1 + 1 by omega) _).setCell (p := ⟨w.heap.size + 1 + 1, 5, none⟩) (show w.heap.size ≤ w.heap.size + 1 + 1 by omega) _).setCell (p := ⟨w.heap.size + 1 + 1, 6, none⟩) (show w.heap.size ≤ w.heap.size + 1 + 1 by omega) _).setCell (p := ⟨w.heap.size + 1 + 1, 7, none⟩) (show w.heap.size ≤ w.heap.size + 1 + 1 by omega) _).setCell (p := ⟨w.heap.size + 1 + 1 + 1, 0, none⟩) (show w.heap.size ≤ w.heap.size + 1 + 1 + 1 by omega) _)
 case done =>
  rintro D zs W hD rfl ⟨hp, hb1⟩ hK
  have h44 : Blk W (w.heap.size + 1 + 1) #[.string ⟨#[]⟩, .slice none 0 0, .string ⟨#[]⟩, .string ⟨#[]⟩, .slice none 0 0, .slice none 0 0, .slice none 0 0, .string ⟨#[]⟩] 33 := b4.below (by omega) hb1
  have h55 : Boxed W (w.heap.size + 1 + 1 + 1) 4 (.bool false) := Blk.below b5 (by omega) hb1
  have hTT := bT.below (by omega) hb1
  have hBB : Below w.heap.size w W := B0.trans (hb1.mono B0.size)
  have t0 := hTT.cell 0
  have f0 := q0e h44 0
  have r0 := h44.cell 0
  have t1 := hTT.cell 1
  have f1 := q0e h44 1
  have r1 := h44.cell 1
  have t2 := hTT.cell 2
  have f2 := q0e h44 2
  have r2 := h44.cell 2
  have t3 := hTT.cell 3
  have f3 := q0e h44 3
  have r3 := h44.cell 3
  have t4 := hTT.cell 4
  have f4 := q0e h44 4
  have r4 := h44.cell 4
  have t5 := hTT.cell 5
  have f5 := q0e h44 5
  have r5 := h44.cell 5
  have t6 := hTT.cell 6
  have f6 := q0e h44 6
  have r6 := h44.cell 6
  have t7 := hTT.cell 7
  have f7 := q0e h44 7
  have r7 := h44.cell 7
  simp only [List.getElem?_toArray, List.getElem?_cons_zero, List.getElem?_cons_succ] at r0 r1 r2 r3 r4 r5 r6 r7 t0 t1 t2 t3 t4 t5 t6 t7
  have f8 := h55.frozen
  have r8 := h55.cell
  have s4 := h44.lt
  have s5b := h55.lt
  have H44 := aq h44
  have H55 := aq h55
  have HP := aq hp
  have HBB := aq hBB
  have HK := aq hK
  clear hTT h44 h55 hp hBB hb1 hK bT bL bM b4 b5 mM B0
  gi_wp2
  obtain ⟨X, hX⟩ : ∃ X, X = (((((((((W.setCell ⟨w.heap.size + 1 + 1, 0, none⟩ (.string L)).setCell ⟨w.heap.size + 1 + 1, 1, none⟩ (.slice E0 m0 d0)).setCell ⟨w.heap.size + 1 + 1, 2, none⟩ (.string S)).setCell ⟨w.heap.size + 1 + 1, 3, none⟩ (.string R)).setCell ⟨w.heap.size + 1 + 1, 4, none⟩ (.slice E1 m1 d1)).setCell ⟨w.heap.size + 1 + 1, 5, none⟩ (.slice E2 m2 d2)).setCell ⟨w.heap.size + 1 + 1, 6, none⟩ (.slice E3 m3 d3)).setCell ⟨w.heap.size + 1 + 1, 7, none⟩ (.string G)).setCell ⟨w.heap.size + 1 + 1 + 1, 0, none⟩ (.bool false)) := ⟨_, rfl⟩
  have x4 : Blk X (w.heap.size + 1 + 1) #[.string L, .slice E0 m0 d0, .string S, .string R, .slice E1 m1 d1, .slice E2 m2 d2, .slice E3 m3 d3, .string G] 33 := by
   have := Blk.other (Blk.set (Blk.set (Blk.set (Blk.set (Blk.set (Blk.set (Blk.set (Blk.set H44.out 0 (.string L)) 1 (.slice E0 m0 d0)) 2 (.string S)) 3 (.string R)) 4 (.slice E1 m1 d1)) 5 (.slice E2 m2 d2)) 6 (.slice E3 m3 d3)) 7 (.string G)) (show w.heap.size + 1 + 1 ≠ w.heap.size + 1 + 1 + 1 by omega) 0 (.bool false)
   rw [hX]
   simpa using this
  have x5 : Boxed X (w.heap.size + 1 + 1 + 1) 4 (.bool false) := by
   rw [hX]
   refine Boxed.set (v := .bool false) _ ?_
   exact Blk.other (Blk.other (Blk.other (Blk.other (Blk.other (Blk.other (Blk.other (Blk.other H55.out (by omega) _ _) (by omega) _ _) (by omega) _ _) (by omega) _ _) (by omega) _ _) (by omega) _ _) (by omega) _ _) (by omega) _ _
  have xK : X.heap[D]? = some (.deferred (some [])) := by rw [hX]; exact ((((((((((KeepsOthers.setCell _ _ _).trans (KeepsOthers.setCell _ _ _)).trans (KeepsOthers.setCell _ _ _)).trans (KeepsOthers.setCell _ _ _)).trans (KeepsOthers.setCell _ _ _)).trans (KeepsOthers.setCell _ _ _)).trans (KeepsOthers.setCell _ _ _)).trans (KeepsOthers.setCell _ _ _)).trans (KeepsOthers.setCell _ _ _))).same D _ HK.out rfl
  have xB : Below w.heap.size w X := by rw [hX]; exact (((((((((HBB.out.setCell (p := ⟨w.heap.size + 1 + 1, 0, none⟩) (show w.heap.size ≤ w.heap.size + 1 + 1 by omega) _).setCell (p := ⟨w.heap.size + 1 + 1, 1, none⟩) (show w.heap.size ≤ w.heap.size + 1 + 1 by omega) _).setCell (p := ⟨w.heap.size + 1 + 1, 2, none⟩) (show w.heap.size ≤ w.heap.size + 1 + 1 by omega) _).setCell (p := ⟨w.heap.size + 1 + 1, 3, none⟩) (show w.heap.size ≤ w.heap.size + 1 + 1 by omega) _).setCell (p := ⟨w.heap.size + 1 + 1, 4, none⟩) (show w.heap.size ≤ w.heap.size + 1 + 1 by omega) _).setCell (p := ⟨w.heap.size + 1 + 1, 5, none⟩) (show w.heap.size ≤ w.heap.size + 1 + 1 by omega) _).setCell (p := ⟨w.heap.size + 1 + 1, 6, none⟩) (show w.heap.size ≤ w.heap.size + 1 + 1 by omega) _).setCell (p := ⟨w.heap.size + 1 + 1, 7, none⟩) (show w.heap.size ≤ w.heap.size + 1 + 1 by omega) _).setCell (p := ⟨w.heap.size + 1 + 1 + 1, 0, none⟩) (show w.heap.size ≤ w.heap.size + 1 + 1 + 1 by omega) _)
  rw [← hX]
  clear hX r0 r1 r2 r3 r4 r5 r6 r7 r8
  refine ⟨by simp, .inl ⟨_, _, rfl, run_takeDeferred xK, ?_⟩⟩
  have y0 := cell_kept (x4.cell 0) (grownBy_putObj' _ D (.deferred none)) (fun r e => by cases e; exact ⟨_, xK, rfl⟩)
  have y1 := cell_kept (x4.cell 1) (grownBy_putObj' _ D (.deferred none)) (fun r e => by cases e; exact ⟨_, xK, rfl⟩)
  have y2 := cell_kept (x4.cell 2) (grownBy_putObj' _ D (.deferred none)) (fun r e => by cases e; exact ⟨_, xK, rfl⟩)
  have y3 := cell_kept (x4.cell 3) (grownBy_putObj' _ D (.deferred none)) (fun r e => by cases e; exact ⟨_, xK, rfl⟩)
  have y4 := cell_kept (x4.cell 4) (grownBy_putObj' _ D (.deferred none)) (fun r e => by cases e; exact ⟨_, xK, rfl⟩)
  have y5 := cell_kept (x4.cell 5) (grownBy_putObj' _ D (.deferred none)) (fun r e => by cases e; exact ⟨_, xK, rfl⟩)
  have y6 := cell_kept (x4.cell 6) (grownBy_putObj' _ D (.deferred none)) (fun r e => by cases e; exact ⟨_, xK, rfl⟩)
  have y7 := cell_kept (x4.cell 7) (grownBy_putObj' _ D (.deferred none)) (fun r e => by cases e; exact ⟨_, xK, rfl⟩)
  have y8 := cell_kept x5.cell (grownBy_putObj' _ D (.deferred none)) (fun r e => by cases e; exact ⟨_, xK, rfl⟩)
  refine ⟨.tuple #[.agg #[.string L, .slice E0 m0 d0, .string S, .string R, .slice E1 m1 d1, .slice E2 m2 d2, .slice E3 m3 d3, .string G], .bool false], ?_, ?_, xB.trans (belowK_b (w := w) (Nat.le_refl _) _ D _ _ (by omega) xK rfl rfl)⟩
  · simp [results, Tryz.f100, go_sem, hu44, y0, y1, y2, y3, y4, y5, y6, y7, y8]
  · rw [k2q l L S R HP.out]
 case stop =>
  rintro D c pre W hD hpre ⟨⟨x, ⟨rfl, pr, k, rfl, hn, hk⟩, x4, x5⟩, xB⟩ xK
  replace x4 : Blk W (w.heap.size + 1 + 1) #[.string (q5t x (L, S, R)).1, .slice E0 m0 d0, .string (q5t x (L, S, R)).2.1, .string (q5t x (L, S, R)).2.2, .slice E1 m1 d1, .slice E2 m2 d2, .slice E3 m3 d3, .string G] 33 := x4
  replace x5 : Boxed W (w.heap.size + 1 + 1 + 1) 4 (.bool true) := x5
  gi_wp2
  refine ⟨by simp, .inl ⟨_, _, rfl, run_takeDeferred xK, ?_⟩⟩
  have y0 := cell_kept (x4.cell 0) (grownBy_putObj' _ D (.deferred none)) (fun r e => by cases e; exact ⟨_, xK, rfl⟩)
  have y1 := cell_kept (x4.cell 1) (grownBy_putObj' _ D (.deferred none)) (fun r e => by cases e; exact ⟨_, xK, rfl⟩)
  have y2 := cell_kept (x4.cell 2) (grownBy_putObj' _ D (.deferred none)) (fun r e => by cases e; exact ⟨_, xK, rfl⟩)
  have y3 := cell_kept (x4.cell 3) (grownBy_putObj' _ D (.deferred none)) (fun r e => by cases e; exact ⟨_, xK, rfl⟩)
  have y4 := cell_kept (x4.cell 4) (grownBy_putObj' _ D (.deferred none)) (fun r e => by cases e; exact ⟨_, xK, rfl⟩)
  have y5 := cell_kept (x4.cell 5) (grownBy_putObj' _ D (.deferred none)) (fun r e => by cases e; exact ⟨_, xK, rfl⟩)
  have y6 := cell_kept (x4.cell 6) (grownBy_putObj' _ D (.deferred none)) (fun r e => by cases e; exact ⟨_, xK, rfl⟩)
  have y7 := cell_kept (x4.cell 7) (grownBy_putObj' _ D (.deferred none)) (fun r e => by cases e; exact ⟨_, xK, rfl⟩)
  have y8 := cell_kept x5.cell (grownBy_putObj' _ D (.deferred none)) (fun r e => by cases e; exact ⟨_, xK, rfl⟩)
  refine ⟨.tuple #[.agg #[.string (q5t x (L, S, R)).1, .slice E0 m0 d0, .string (q5t x (L, S, R)).2.1, .string (q5t x (L, S, R)).2.2, .slice E1 m1 d1, .slice E2 m2 d2, .slice E3 m3 d3, .string G], .bool true], ?_, ?_, xB.trans (belowK_b (w := w) (Nat.le_refl _) _ D _ _ (by omega) xK rfl rfl)⟩
  · simp [results, Tryz.f100, go_sem, hu44, y0, y1, y2, y3, y4, y5, y6, y7, y8]
  · rw [k3c l L S R pr k x hpre hn hk]
end Go.Proofs.YtpmcfckechjppaaGreatDoor.LikW
namespace Go.Proofs.YtpmcfckechjppaaGreatDoor.LikW
open Go.RowKit Go.Proofs.YtpmcfckechjppaaGreatDoorW.PrintWords Go.Proofs.YtpmcfckechjppaaGreatDoorW.PrintLast Go.Proofs.YtpmcfckechjppaaGreatDoor.P
def plP (l : List S66) (t : K3) : K3 := (z0l l t).1
theorem z1l (A0 : Option Addr) (n0 c0 : Nat) (A1 : Option Addr) (c1 : Nat) (l : List S66) (A2 : Option Addr) (n2 c2 : Nat) (A3 : Option Addr) (n3 c3 : Nat) (p q : Int)
 (L S R G : ByteArray) (E0 : Option Addr) (m0 d0 : Nat) (E1 : Option Addr) (m1 d1 : Nat) (E2 : Option Addr) (m2 d2 : Nat) (E3 : Option Addr) (m3 d3 : Nat) (w : World) (hC : Kd.C k66 w A1 l.length l) :
 Calls Tryz.prog 348 #[.agg #[.slice A0 n0 c0, .slice A1 l.length c1, .slice A2 n2 c2, .slice A3 n3 c3, .int .i64 p, .int .i64 q], .agg #[.string L, .slice E0 m0 d0, .string S, .string R, .slice E1 m1 d1, .slice E2 m2 d2, .slice E3 m3 d3, .string G]] w fun e w' =>
  e = .returned (.agg #[.string (plP l (L, S, R)).1, .string (plP l (L, S, R)).2.1, .string (plP l (L, S, R)).2.2]) ∧ Below w.heap.size w w' := by
 have hu39 := Tryz.underlying51
 have hu44 := Tryz.underlying33
 have hu30 := Tryz.underlying123
 obtain ⟨V, hV⟩ : ∃ V, V = ((w.alloc (.cells #[.slice A0 n0 c0, .slice A1 l.length c1, .slice A2 n2 c2, .slice A3 n3 c3, .int .i64 p, .int .i64 q] 51)).alloc (.cells #[.string L, .slice E0 m0 d0, .string S, .string R, .slice E1 m1 d1, .slice E2 m2 d2, .slice E3 m3 d3, .string G] 33)).alloc (.cells #[.string ⟨#[]⟩, .string ⟨#[]⟩, .string ⟨#[]⟩] 123) := ⟨_, rfl⟩
 have vs : V.heap.size = w.heap.size + 3 := by rw [hV]; simp
 have vT : Blk V (w.heap.size + 1 + 1) #[.string ⟨#[]⟩, .string ⟨#[]⟩, .string ⟨#[]⟩] 123 := by rw [hV]; have := Blk.new ((w.alloc (.cells #[.slice A0 n0 c0, .slice A1 l.length c1, .slice A2 n2 c2, .slice A3 n3 c3, .int .i64 p, .int .i64 q] 51)).alloc (.cells #[.string L, .slice E0 m0 d0, .string S, .string R, .slice E1 m1 d1, .slice E2 m2 d2, .slice E3 m3 d3, .string G] 33)) #[.string ⟨#[]⟩, .string ⟨#[]⟩, .string ⟨#[]⟩] 123; rwa [World.size_alloc, World.size_alloc] at this
 have vB : Below w.heap.size w V := by rw [hV]; repeat (first | exact Below.refl _ _ | apply q0b)
 have HC := aq (Kd.q0h hC vB)
 have HV := aq hV
 have HT := aq vT
 have HB := aq vB
 clear hC hV vT vB
 go_enter Tryz.func348, Tryz.ntmps348
 go_wp2_with (first | (go_at_call 100; rw [← HV.out]; refine (v0e A0 n0 c0 A1 c1 l A2 n2 c2 A3 n3 c3 p q L S R G E0 m0 d0 E1 m1 d1 E2 m2 d2 E3 m3 d3 V HC.out).mono ?_; rintro e w1 ⟨rfl, hb⟩; have s1 := hb.size; have T1 := aq (HT.out.below (by omega) hb); have B1 := aq (HB.out.trans (hb.mono HB.out.size)); clear hb) | ((with_reducible refine q3l (N := 5) rfl ?_); refine be 5 #[.string ⟨#[]⟩, .slice none 0 0, .string ⟨#[]⟩, .string ⟨#[]⟩, .slice none 0 0, .slice none 0 0, .slice none 0 0, .string ⟨#[]⟩] 33 ?_; intro gb hg w2 hbox hb; have T2 := aq (T1.out.below T1.out.lt hb); have B2 := aq (B1.out.trans (hb.mono B1.out.size)); have s2 := hb.size; have sT := T1.out.lt; have hne : w.heap.size + 1 + 1 ≠ gb := (by rw [hg]; omega); have hne2 : gb ≠ w.heap.size + 1 + 1 := (by rw [hg]; omega); have HG := aq (show w.heap.size ≤ gb by rw [hg]; omega); have BK := aq hbox; obtain ⟨y0, y1, y2, y3, y4, y5, y6, y7⟩ := cz8 hbox; obtain ⟨z0, z1, z2, z3, z4, z5, z6, z7⟩ := fz8 hbox; obtain ⟨x0, x1, x2⟩ := cz3 (show w2.heap[w.heap.size + 1 + 1]? = _ from T2.out); obtain ⟨v0, v1, v2⟩ := fz3 (show w2.heap[w.heap.size + 1 + 1]? = _ from T2.out); clear hb hbox hg))
 refine bodyPost_ret (results_cell_row rfl _ _ (w.heap.size + 1 + 1) 123 #[.string (z0l l (L, S, R)).1.1, .string (z0l l (L, S, R)).1.2.1, .string (z0l l (L, S, R)).1.2.2] (0, 0) _ rfl (bx (q0l (cs := #[.string (z0l l (L, S, R)).1.1, .string (z0l l (L, S, R)).1.2.1, .string ⟨#[]⟩]) (bx (q0l (cs := #[.string (z0l l (L, S, R)).1.1, .string ⟨#[]⟩, .string ⟨#[]⟩]) (bx (q0l (cs := #[.string ⟨#[]⟩, .string ⟨#[]⟩, .string ⟨#[]⟩]) (bx (q1e (bx (q1e (bx (q1e (bx (q1e (bx (q1e (bx (q1e (bx (q1e (bx (q1e (bx (T2.out)) hne _)) hne _)) hne _)) hne _)) hne _)) hne _)) hne _)) hne _)) 0 _ rfl)) 1 _ rfl)) 2 _ rfl)) Tryz.underlying123 rfl (by kernel_rfl)) rfl ?_
 exact ⟨rfl, by repeat (first | (with_reducible first | exact B2.out | apply wA | apply wN | apply wD | refine wS ?_ HG.out | refine wS ?_ (by omega)) | exact B2.out)⟩
end Go.Proofs.YtpmcfckechjppaaGreatDoor.LikW
