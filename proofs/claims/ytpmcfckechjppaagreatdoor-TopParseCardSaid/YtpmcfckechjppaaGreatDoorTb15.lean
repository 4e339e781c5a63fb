/- Made by a program of this seat's own (shake.py, merge.py): what the claim leans on: LikLad, LikMax, DistPl. -/
import Derived.Test.YtpmcfckechjppaaGreatDoorTb12
import Derived.RangeFuncNested
import Derived.RangeFuncBound
import Derived.RangeFuncCalls
import Derived.RangeFuncLeaves
import Derived.Shelf.Abstract
import Derived.Shelf.RegionOpen
import Derived.OwnWalkIn
import Derived.TacticsInMore
import Derived.LoopNIn
import Derived.LoopIn
import Derived.Maps.OwnIn
import Derived.Sort.CutIn
namespace Go.Proofs.YtpmcfckechjppaaGreatDoor.LikW
open Go.RowKit Go.Shelf Go.Proofs.YtpmcfckechjppaaGreatDoorW.PrintWords Go.Proofs.YtpmcfckechjppaaGreatDoorW.PrintLast Go.Proofs.YtpmcfckechjppaaGreatDoor.P
attribute [local go_sem] Oper.semAt_some
set_option linter.unusedVariables false
set_option linter.unusedSimpArgs false
set_option maxRecDepth 100000
set_option maxHeartbeats 8000000
def undB : ByteArray := ⟨#[117, 110, 100]⟩
def empS : ByteArray := ⟨#[]⟩
def fiveL (l s r : ByteArray) : List K3 := [(l, s, r), (l, empS, r), (l, s, empS), (l, empS, empS), (undB, s, empS)]
def stepL (l : ByteArray) (pre : List K3) (x : K3) : List K3 := if (pre.any fun y => decide (x = y)) = true then pre else if x.1 = l then pre ++ [x] else if x.2.1 = empS then pre else pre ++ [x]
def preL (l s r : ByteArray) (k : Nat) : List K3 := ((fiveL l s r).take k).foldl (stepL l) []
def ladL (l s r : ByteArray) : List K3 := if l = empS then [] else preL l s r 5
def Kp (W W' : World) : Prop := W.heap.size ≤ W'.heap.size ∧ ∀ (k : Nat) (o : Obj), W.heap[k]? = some o → o.isCells = true ∨ o.isWalk = true → W'.heap[k]? = some o
theorem Kp.trans {A B C : World} (h : Kp A B) (k : Kp B C) : Kp A C := ⟨Nat.le_trans h.1 k.1, fun i o hi ho => k.2 i o (h.2 i o hi ho) ho⟩
theorem Kp.put (W : World) (l : Nat) (o o' : Obj) (hl : W.heap[l]? = some o) (h1 : o.isCells = false) (h2 : o.isWalk = false) : Kp W (W.putObj l o') := by
 refine ⟨by simp, fun k o2 hk ho => ?_⟩
 rw [World.putObj_heap_other ?_]
 · exact hk
 · rintro rfl
   rw [hl] at hk
   cases hk
   rw [h1, h2] at ho
   rcases ho with h | h <;> cases h
theorem Kp.map {W W' : World} (h : Kp W W') {b : Nat} {ps : List (K3 × Value)} (hm : MapIs W b ps) : MapIs W' b ps := by
 obtain ⟨l, c, e, hb⟩ := hm
 exact ⟨l, c, e, h.2 _ _ hb (.inr rfl)⟩
theorem MapIs.walk {W : World} {b : Nat} {ps : List (K3 × Value)} (h : MapIs W b ps) : ∃ o : Obj, W.heap[b]? = some o ∧ o.isWalk = true := by
 obtain ⟨l, c, _, hb⟩ := h
 exact ⟨_, hb, rfl⟩
def Kc (W W' : World) : Prop := W.heap.size ≤ W'.heap.size ∧ ∀ (k : Nat) (o : Obj), W.heap[k]? = some o → o.isCells = true → W'.heap[k]? = some o
theorem Kc.refl (W : World) : Kc W W := ⟨Nat.le_refl _, fun _ _ h _ => h⟩
theorem Kc.trans {A B C : World} (h : Kc A B) (k : Kc B C) : Kc A C := ⟨Nat.le_trans h.1 k.1, fun i o hi ho => k.2 i o (h.2 i o hi ho) ho⟩
theorem Kc.cell {W W' : World} (h : Kc W W') {a : Addr} {v : Value} (hc : W.cell? a = some v) : W'.cell? a = some v := by
 obtain ⟨o, ho, hcl⟩ := cells_of_cell hc
 rw [← hc]
 exact World.cell?_of_block (w := W) ((h.2 _ _ ho hcl).trans ho.symm)
theorem Kp.kc {W W' : World} (h : Kp W W') : Kc W W' := ⟨h.1, fun k o hk ho => h.2 k o hk (.inl ho)⟩
theorem Kp.alloc (W : World) (o : Obj) : Kp W (W.alloc o) := ⟨(below_alloc (Below.refl W.heap.size W) o).size, fun k _ hk _ => ((below_alloc (Below.refl _ W) o).block k (Array.getElem?_eq_some_iff.1 hk).1).trans hk⟩
theorem Kc.grown {W W' : World} {b : Nat} {ps : List (K3 × Value)} (hm : MapIs W b ps) (hg : W.grownBy W' (some b)) : Kc W W' := by
 obtain ⟨l, c, _, hb⟩ := hm
 refine ⟨hg.size, fun k o hk ho => (hg.block k (Array.getElem?_eq_some_iff.1 hk).1 ?_).trans hk⟩
 rintro e
 obtain rfl := Option.some.inj e
 rw [hb] at hk
 cases hk
 cases ho
section
variable {F : Fence} {n : Nat} {ops : Array Oper} {rest : List Oper} {o : Oper} {a : Act} {w : World} {Q : Exit → Act → World → Prop}
theorem wpListIn_look (hro : F.round = none) (hg : o.guard = none) (m x : Operand) (T E : TypeId) (ok : Bool) (hop : o.op = Op.lookup T m x ok) (hT : Tryz.prog.underlying T = some (.map 123 E)) (b : Nat) (hm : a.eval m = .map (some b)) (ps : List (K3 × Value)) (hM : MapIs w b ps) (k : K3) (hx : a.eval x = keyV k)
 (z : Value) (hz : (zeroValue E).run Tryz.prog w = .ok z w) (h : wpListIn F n Tryz.prog ops Q rest (a.put o.dst (if ok = true then .tuple #[(findP k ps).getD z, .bool (findP k ps).isSome] else (findP k ps).getD z)) w) : wpListIn F n Tryz.prog ops Q (o :: rest) a w := by
 refine wpListIn_plain hg fun K' hK' => ⟨fun f hf => ?_, ?_⟩
 · simp [Oper.about, hop] at hf
 · rw [hro]
   have hrun := run_look hM k hT hz ok
   have e : (o.semAt none a.eval).run Tryz.prog w = .ok (.value (if ok = true then .tuple #[(findP k ps).getD z, .bool (findP k ps).isSome] else (findP k ps).getD z)) w := by
    unfold Oper.semAt execOp
    simp only [hop, hm, hx, Sem.run_bind, Sem.run_pure, Result.andThen_ok, hrun]
   rw [e]
   exact hK' _ _ h
theorem wpListIn_upd (hro : F.round = none) (hg : o.guard = none) (m x v : Operand) (T E : TypeId) (hop : o.op = Op.mapUpdate T m x v) (hT : Tryz.prog.underlying T = some (.map 123 E)) (b : Nat) (hm : a.eval m = .map (some b)) (ps : List (K3 × Value)) (hM : MapIs w b ps) (k : K3) (hx : a.eval x = keyV k) (u : Value) (hv : a.eval v = u)
 (hn : findP k ps = none) (h : ∀ w', MapIs w' b (ps ++ [(k, u)]) → w.grownBy w' (some b) → wpListIn F n Tryz.prog ops Q rest (a.put o.dst undef) w') : wpListIn F n Tryz.prog ops Q (o :: rest) a w := by
 obtain ⟨w', hrun, h1, h2⟩ := run_upd hM k u hT hn
 refine wpListIn_plain hg fun K' hK' => ⟨fun f hf => ?_, ?_⟩
 · simp [Oper.about, hop] at hf
 · rw [hro]
   have e : (o.semAt none a.eval).run Tryz.prog w = .ok .skip w' := by
    unfold Oper.semAt execOp
    simp only [hop, hm, hx, hv, Sem.run_bind, Sem.run_pure, Result.andThen_ok, hrun]
   rw [e]
   exact hK' _ _ (h w' h1 h2)
end
def seenP (pre : List K3) : List (K3 × Value) := pre.map fun y => (y, Value.bool true)
theorem find_seen (x : K3) : ∀ pre : List K3, findP x (seenP pre) = if (pre.any fun y => decide (x = y)) = true then some (.bool true) else none
 | [] => rfl
 | y :: pre => by
  have ih := find_seen x pre
  unfold seenP at ih ⊢
  rw [List.map_cons, findP_cons, ih, List.any_cons]
  by_cases h : x = y
  · rw [if_pos h, decide_eq_true h]; rfl
  · rw [if_neg h, decide_eq_false h]; rfl
theorem preL_succ (l s r : ByteArray) (k : Nat) (hk : k < 5) : preL l s r (k + 1) = stepL l (preL l s r k) ((fiveL l s r)[k]'hk) := by
 unfold preL
 rw [List.take_succ_eq_append_getElem hk, List.foldl_append]
 rfl
theorem stepL_pre (l : ByteArray) (pre : List K3) (x : K3) : pre <+: stepL l pre x := by
 unfold stepL
 (repeat' split) <;> first | exact List.prefix_refl _ | exact List.prefix_append _ _
theorem preL_pre (l s r : ByteArray) : ∀ (d k : Nat), k + d = 5 → preL l s r k <+: preL l s r 5
 | 0, k, h => by obtain rfl : k = 5 := by omega
                 exact List.prefix_refl _
 | d + 1, k, h => by
  have ih := preL_pre l s r d (k + 1) (by omega)
  rw [preL_succ l s r k (by omega)] at ih
  exact (stepL_pre _ _ _).trans ih
theorem preL_len (l s r : ByteArray) : ∀ k, k ≤ 5 → (preL l s r k).length ≤ k
 | 0, _ => by simp [preL]
 | k + 1, h => by
  have ih := preL_len l s r k (by omega)
  rw [preL_succ l s r k (by omega)]
  unfold stepL
  (repeat' split) <;> first | omega | (rw [List.length_append]; simp; omega)
theorem zero_bool (W : World) : (zeroValue 4).run Tryz.prog W = .ok (.bool false) W := by kernel_rfl
theorem lad1_in (F : Fence) (n : Nat) (hf : F.fn 216) (hro : F.round = none) (hn : 1 ≤ n) (y Bt : Nat) (l s r : ByteArray) (J Jx : List K3 → World → Prop) (W : World)
 (hJ : AbidesFrom W.heap.size J) (hJx : AbidesFrom W.heap.size Jx)
 (hY : ∀ pre x W1, J pre W1 → pre.length < 5 → YieldAt F (n - 1) Tryz.prog y #[keyV x] W1 fun e W' =>
  (e = .returned (.bool true) ∧ J (pre ++ [x]) W' ∧ Kp W1 W') ∨ (e = .returned (.bool false) ∧ Jx (pre ++ [x]) W'))
 (z0 : W.cell? ⟨Bt, 0, none⟩ = some (.string l)) (z2 : W.cell? ⟨Bt, 2, none⟩ = some (.string s)) (z3 : W.cell? ⟨Bt, 3, none⟩ = some (.string r)) (h0 : J [] W) :
 CallsIn F n Tryz.prog 216 #[.func (.yield y) #[] #[], .pointer (some ⟨Bt, 0, none⟩)] W fun e W' => (∃ v, e = .returned v) ∧
  ((∃ ys, ys = ladL l s r ∧ J ys W') ∨ (∃ pre, pre <+: ladL l s r ∧ Jx pre W')) := by
 have hu44 := Tryz.underlying33
 have hu30 := Tryz.underlying123
 have hm : ∀ W : World, (Instr.makeMap 243 none).run Tryz.prog W = .ok (.map (some W.heap.size)) (W.alloc (.map #[] 0)) := fun W => run_makeMap_plain W _
 have hBt : Bt < W.heap.size := World.block_lt_of_cell? W _ z0
 refine callsIn_of_wp Tryz.func216 rfl hf ?_ hro
 simp only [Tryz.ntmps216, List.size_toArray, List.length_cons, List.length_nil, Nat.reduceAdd, Nat.reduceSub, Array.replicate_succ, Array.replicate_zero, List.push_toArray, List.append_toArray, List.nil_append, List.cons_append]
 by_cases hl : l = empS
 · subst hl
   have e1 : empS.toList.isEmpty = true := by rw [ByteArray.toList_eq]; rfl
   gi_wp2
   refine bodyPost_ret (results_none rfl _ _ _) rfl ?_
   exact ⟨⟨_, rfl⟩, .inl ⟨[], by unfold ladL; rw [if_pos rfl], h0⟩⟩
 · have hne : l.toList.isEmpty = false := by
    rw [List.isEmpty_eq_false_iff]
    intro e
    apply hl
    rw [ByteArray.toList_eq] at e
    exact ByteArray.ext (Array.toList_inj.1 (by rw [e]; rfl))
   gi_wp2
   obtain ⟨W2, hW2⟩ : ∃ W2, W2 = ((W.alloc (.map #[] 0)).alloc (.cells #[.string l, .string s, .string r, .string l, .string ⟨#[]⟩, .string r, .string l, .string s, .string ⟨#[]⟩, .string l, .string ⟨#[]⟩, .string ⟨#[]⟩, .string ⟨#[117, 110, 100]⟩, .string s, .string ⟨#[]⟩] 123)) := ⟨_, rfl⟩
   rw [← hW2]
   have M2 : MapIs W2 W.heap.size (seenP (preL l s r 0)) := ⟨[], 0, rfl, by
    have h1 : (W.alloc (.map #[] 0)).heap[W.heap.size]? = some (.map #[] 0) := World.alloc_heap_new W _
    rw [hW2]
    exact ((below_alloc (Below.refl _ _) _).block _ (Array.getElem?_eq_some_iff.1 h1).1).trans h1⟩
   have C2 : W2.heap[W.heap.size + 1]? = some (.cells #[.string l, .string s, .string r, .string l, .string ⟨#[]⟩, .string r, .string l, .string s, .string ⟨#[]⟩, .string l, .string ⟨#[]⟩, .string ⟨#[]⟩, .string ⟨#[117, 110, 100]⟩, .string s, .string ⟨#[]⟩] 123 (0, 0)) := by
    rw [hW2]
    have := World.alloc_heap_new (W.alloc (.map #[] 0)) (.cells #[.string l, .string s, .string r, .string l, .string ⟨#[]⟩, .string r, .string l, .string s, .string ⟨#[]⟩, .string l, .string ⟨#[]⟩, .string ⟨#[]⟩, .string ⟨#[117, 110, 100]⟩, .string s, .string ⟨#[]⟩] 123)
    simpa using this
   have J2 : J (preL l s r 0) W2 := by
    rw [hW2]
    exact hJ _ _ _ none (hJ _ _ _ none h0 (World.grownBy_alloc _ _ none) (fun r e => by cases e)) (World.grownBy_alloc _ _ none) (fun r e => by cases e)
   have cells : ∀ k, k < 5 → W2.cell? ⟨W.heap.size + 1, k * 3, none⟩ = some (.string ((fiveL l s r).getD k default).1) ∧ W2.cell? ⟨W.heap.size + 1, k * 3 + 1, none⟩ = some (.string ((fiveL l s r).getD k default).2.1) ∧ W2.cell? ⟨W.heap.size + 1, k * 3 + 2, none⟩ = some (.string ((fiveL l s r).getD k default).2.2) := by
    intro k hk
    match k, hk with
    | 0, _ => exact ⟨(blk_cell C2 0).trans rfl, (blk_cell C2 1).trans rfl, (blk_cell C2 2).trans rfl⟩
    | 1, _ => exact ⟨(blk_cell C2 3).trans rfl, (blk_cell C2 4).trans rfl, (blk_cell C2 5).trans rfl⟩
    | 2, _ => exact ⟨(blk_cell C2 6).trans rfl, (blk_cell C2 7).trans rfl, (blk_cell C2 8).trans rfl⟩
    | 3, _ => exact ⟨(blk_cell C2 9).trans rfl, (blk_cell C2 10).trans rfl, (blk_cell C2 11).trans rfl⟩
    | 4, _ => exact ⟨(blk_cell C2 12).trans rfl, (blk_cell C2 13).trans rfl, (blk_cell C2 14).trans rfl⟩
    | k + 5, h => omega
   have HZ : Aside0 (W2.cell? ⟨Bt, 0, none⟩ = some (.string l)) := ⟨by rw [hW2]; exact ((below_alloc (below_alloc (Below.refl _ _) _) _ : Below W.heap.size W _).cell (p := ⟨Bt, 0, none⟩) hBt).trans z0⟩
   have S2 : W.heap.size + 1 < W2.heap.size := (Array.getElem?_eq_some_iff.1 C2).1
   have HCE := Aside0.mk cells
   clear hW2 C2 z0 z2 z3 cells
   gi_loopw [35] (fun i wr => ∃ k : Nat, k ≤ 5 ∧ i = .int .i64 (k : Int) ∧ Aside0 (J (preL l s r k) wr) ∧ Aside0 (MapIs wr W.heap.size (seenP (preL l s r k))) ∧ Aside0 (Kc W2 wr)) (fun i _ => 5 - (intOf i).toNat)
   case atStart => exact ⟨0, Nat.zero_le _, rfl, ⟨J2⟩, ⟨M2⟩, ⟨Kc.refl _⟩⟩
   case round =>
    clear M2 J2
    obtain ⟨k, hk, rfl, HJ, HM, HK⟩ := hrel
    by_cases hlt : k < 5
    · obtain ⟨x, hx⟩ : ∃ x, x = (fiveL l s r)[k]'hlt := ⟨_, rfl⟩
      have hxd : (fiveL l s r).getD k default = x := by rw [hx]; simp [List.getD_eq_getElem?_getD, List.getElem?_eq_getElem (show k < (fiveL l s r).length from hlt)]; rfl
      obtain ⟨y0, y1, y2⟩ := HCE.out k hlt
      rw [hxd] at y0 y1 y2
      replace y0 := HK.out.cell y0
      replace y1 := HK.out.cell y1
      replace y2 := HK.out.cell y2
      have zl := HK.out.cell HZ.out
      have hs := preL_succ l s r k hlt
      rw [← hx] at hs
      have HS := Aside0.mk hs
      have sz : W.heap.size + 1 < wr.heap.size := Nat.lt_of_lt_of_le S2 HK.out.1
      have hf := find_seen x (preL l s r k)
      clear hx hxd hs
      have bl : Bt < wr.heap.size := by omega
      have AJ := Aside0.mk hJ
      have AX := Aside0.mk hJx
      have AY := Aside0.mk hY
      clear hJ hJx hY
      have hmx : (0 : Int) ≤ (k : Int) := by omega
      have d1 : decide ((k : Int) < 5) = true := decide_eq_true (by omega)
      have S2' := Aside0.mk S2
      clear S2 hne hk
      have HL := Aside0.mk hl
      clear hl
      by_cases hin : ((preL l s r k).any fun y => decide (x = y)) = true
      · rw [if_pos hin] at hf
        have hs : preL l s r (k + 1) = preL l s r k := by rw [HS.out]; unfold stepL; rw [if_pos hin]
        have HS2 := Aside0.mk hs
        have HN := Aside0.mk hf
        clear hf hs hin HS
        gi_wp2_with (gi_at_lookup; refine wpListIn_look hro rfl _ _ 243 4 false rfl Tryz.underlying243 W.heap.size rfl (seenP (preL l s r k)) ?hM x rfl _ (zero_bool _) ?_; (case hM => exact HM.out.below (by repeat (first | exact Below.refl _ _ | apply below_alloc))); rw [HN.out]; simp only [Option.getD_some, Option.getD_none, Bool.false_eq_true, if_false])
        go_roundw
        case rel => exact ⟨k + 1, by omega, by simp, ⟨by rw [HS2.out]; exact AJ.out _ _ _ none HJ.out (World.grownBy_alloc _ _ none) (fun r e => by cases e)⟩, ⟨by rw [HS2.out]; exact HM.out.below (below_alloc (Below.refl _ _) _)⟩, ⟨HK.out.trans (Kp.alloc _ _).kc⟩⟩
        case measure => simp [intOf]; omega
      rw [if_neg hin] at hf
      have HN := Aside0.mk hf
      clear hf
      by_cases hxl : x.1 = l
      · have hs : preL l s r (k + 1) = preL l s r k ++ [x] := by rw [HS.out]; unfold stepL; rw [if_neg hin, if_pos hxl]
        have HS2 := Aside0.mk hs
        have t1 : (x.1.toList != l.toList) = false := by rw [hxl]; exact bne_self_eq_false _
        have t1a : (x.1.toList == l.toList) = true := by rw [hxl]; exact beq_self_eq_true _
        have t1b : (x.1.toList = l.toList) = True := eq_true (by rw [hxl])
        clear hs hin HS hxl
        gi_wp2_with (first | (gi_at_lookup; refine wpListIn_look hro rfl _ _ 243 4 false rfl Tryz.underlying243 W.heap.size rfl (seenP (preL l s r k)) ?hM x rfl _ (zero_bool _) ?_; (case hM => exact HM.out.below (by repeat (first | exact Below.refl _ _ | apply below_alloc))); rw [HN.out]; simp only [Option.getD_some, Option.getD_none, Bool.false_eq_true, if_false]) | (gi_at_mapUpdate; refine wpListIn_upd hro rfl _ _ _ 243 4 rfl Tryz.underlying243 W.heap.size rfl (seenP (preL l s r k)) ?hM x rfl (.bool true) rfl HN.out ?_; (case hM => exact HM.out.below (by repeat (first | exact Below.refl _ _ | apply below_alloc))); intro w9 hM9 hg9; obtain ⟨fn, tmps, assign, body, hy, hR⟩ := AY.out (preL l s r k) x w9 (AJ.out _ _ _ (some W.heap.size) (AJ.out _ _ _ none HJ.out (World.grownBy_alloc _ _ none) (fun r e => by cases e)) hg9 (fun r e => by cases e; exact ⟨Nat.le_refl _, (HM.out.below (below_alloc (Below.refl _ _) _)).walk⟩)) (by have := preL_len l s r k (by omega); omega); simp only [keyV] at hy; have hK9 := Kc.grown (HM.out.below (below_alloc (Below.refl _ _) _)) hg9; have bN := World.alloc_heap_new wr (.cells #[.string x.1, .string x.2.1, .string x.2.2] 123); have q0 : w9.cell? ⟨wr.heap.size, 0, none⟩ = some (.string x.1) := hK9.cell ((blk_cell bN 0).trans rfl); have q1 : w9.cell? ⟨wr.heap.size, 1, none⟩ = some (.string x.2.1) := hK9.cell ((blk_cell bN 1).trans rfl); have q2 : w9.cell? ⟨wr.heap.size, 2, none⟩ = some (.string x.2.2) := hK9.cell ((blk_cell bN 2).trans rfl); clear hK9 bN; have HM9 := Aside0.mk hM9; have HG9 := Aside0.mk hg9; clear hM9 hg9))
        refine hR.mono ?_
        rintro e W3 (⟨rfl, hJ3, hk3⟩ | ⟨rfl, hJx3⟩)
        · have HJ3 := Aside0.mk hJ3
          have HK3 := Aside0.mk hk3
          clear hJ3 hk3
          gi_wp2
          go_roundw
          case rel => exact ⟨k + 1, by omega, by simp, ⟨by rw [HS2.out]; exact HJ3.out⟩, ⟨by rw [HS2.out]; unfold seenP; rw [List.map_append]; exact HK3.out.map HM9.out⟩, ⟨((HK.out.trans (Kp.alloc _ _).kc).trans (Kc.grown (HM.out.below (below_alloc (Below.refl _ _) _)) HG9.out)).trans HK3.out.kc⟩⟩
          case measure => simp [intOf]; omega
        · have HJ3 := Aside0.mk hJx3
          clear hJx3
          gi_wp2
          refine bodyPost_ret (results_none rfl _ _ _) rfl ?_
          refine ⟨⟨_, rfl⟩, .inr ⟨_, ?_, HJ3.out⟩⟩
          have p := preL_pre l s r (5 - (k + 1)) (k + 1) (by omega)
          rw [HS2.out] at p
          unfold ladL
          rw [if_neg HL.out]
          exact p
      have t1 : (x.1.toList != l.toList) = true := by
       rw [bne_iff_ne]
       intro e
       rw [ByteArray.toList_eq, ByteArray.toList_eq] at e
       exact hxl (ByteArray.ext (Array.toList_inj.1 e))
      have t1a : (x.1.toList == l.toList) = false := by rw [beq_eq_false_iff_ne]; exact bne_iff_ne.1 t1
      have t1b : (x.1.toList = l.toList) = False := eq_false (bne_iff_ne.1 t1)
      by_cases hxe : x.2.1 = empS
      · have hs : preL l s r (k + 1) = preL l s r k := by rw [HS.out]; unfold stepL; rw [if_neg hin, if_neg hxl, if_pos hxe]
        have HS2 := Aside0.mk hs
        have t2 : x.2.1.toList.isEmpty = true := by rw [hxe, ByteArray.toList_eq]; rfl
        clear hs hin HS hxl hxe
        gi_wp2_with (gi_at_lookup; refine wpListIn_look hro rfl _ _ 243 4 false rfl Tryz.underlying243 W.heap.size rfl (seenP (preL l s r k)) ?hM x rfl _ (zero_bool _) ?_; (case hM => exact HM.out.below (by repeat (first | exact Below.refl _ _ | apply below_alloc))); rw [HN.out]; simp only [Option.getD_some, Option.getD_none, Bool.false_eq_true, if_false])
        go_roundw
        case rel => exact ⟨k + 1, by omega, by simp, ⟨by rw [HS2.out]; exact AJ.out _ _ _ none HJ.out (World.grownBy_alloc _ _ none) (fun r e => by cases e)⟩, ⟨by rw [HS2.out]; exact HM.out.below (below_alloc (Below.refl _ _) _)⟩, ⟨HK.out.trans (Kp.alloc _ _).kc⟩⟩
        case measure => simp [intOf]; omega
      · have hs : preL l s r (k + 1) = preL l s r k ++ [x] := by rw [HS.out]; unfold stepL; rw [if_neg hin, if_neg hxl, if_neg hxe]
        have HS2 := Aside0.mk hs
        have t2 : x.2.1.toList.isEmpty = false := by
         rw [List.isEmpty_eq_false_iff]
         intro e
         rw [ByteArray.toList_eq] at e
         exact hxe (ByteArray.ext (Array.toList_inj.1 (by rw [e]; rfl)))
        clear hs hin HS hxl hxe
        gi_wp2_with (first | (gi_at_lookup; refine wpListIn_look hro rfl _ _ 243 4 false rfl Tryz.underlying243 W.heap.size rfl (seenP (preL l s r k)) ?hM x rfl _ (zero_bool _) ?_; (case hM => exact HM.out.below (by repeat (first | exact Below.refl _ _ | apply below_alloc))); rw [HN.out]; simp only [Option.getD_some, Option.getD_none, Bool.false_eq_true, if_false]) | (gi_at_mapUpdate; refine wpListIn_upd hro rfl _ _ _ 243 4 rfl Tryz.underlying243 W.heap.size rfl (seenP (preL l s r k)) ?hM x rfl (.bool true) rfl HN.out ?_; (case hM => exact HM.out.below (by repeat (first | exact Below.refl _ _ | apply below_alloc))); intro w9 hM9 hg9; obtain ⟨fn, tmps, assign, body, hy, hR⟩ := AY.out (preL l s r k) x w9 (AJ.out _ _ _ (some W.heap.size) (AJ.out _ _ _ none HJ.out (World.grownBy_alloc _ _ none) (fun r e => by cases e)) hg9 (fun r e => by cases e; exact ⟨Nat.le_refl _, (HM.out.below (below_alloc (Below.refl _ _) _)).walk⟩)) (by have := preL_len l s r k (by omega); omega); simp only [keyV] at hy; have hK9 := Kc.grown (HM.out.below (below_alloc (Below.refl _ _) _)) hg9; have bN := World.alloc_heap_new wr (.cells #[.string x.1, .string x.2.1, .string x.2.2] 123); have q0 : w9.cell? ⟨wr.heap.size, 0, none⟩ = some (.string x.1) := hK9.cell ((blk_cell bN 0).trans rfl); have q1 : w9.cell? ⟨wr.heap.size, 1, none⟩ = some (.string x.2.1) := hK9.cell ((blk_cell bN 1).trans rfl); have q2 : w9.cell? ⟨wr.heap.size, 2, none⟩ = some (.string x.2.2) := hK9.cell ((blk_cell bN 2).trans rfl); clear hK9 bN; have HM9 := Aside0.mk hM9; have HG9 := Aside0.mk hg9; clear hM9 hg9))
        refine hR.mono ?_
        rintro e W3 (⟨rfl, hJ3, hk3⟩ | ⟨rfl, hJx3⟩)
        · have HJ3 := Aside0.mk hJ3
          have HK3 := Aside0.mk hk3
          clear hJ3 hk3
          gi_wp2
          go_roundw
          case rel => exact ⟨k + 1, by omega, by simp, ⟨by rw [HS2.out]; exact HJ3.out⟩, ⟨by rw [HS2.out]; unfold seenP; rw [List.map_append]; exact HK3.out.map HM9.out⟩, ⟨((HK.out.trans (Kp.alloc _ _).kc).trans (Kc.grown (HM.out.below (below_alloc (Below.refl _ _) _)) HG9.out)).trans HK3.out.kc⟩⟩
          case measure => simp [intOf]; omega
        · have HJ3 := Aside0.mk hJx3
          clear hJx3
          gi_wp2
          refine bodyPost_ret (results_none rfl _ _ _) rfl ?_
          refine ⟨⟨_, rfl⟩, .inr ⟨_, ?_, HJ3.out⟩⟩
          have p := preL_pre l s r (5 - (k + 1)) (k + 1) (by omega)
          rw [HS2.out] at p
          unfold ladL
          rw [if_neg HL.out]
          exact p
    · obtain rfl : k = 5 := by omega
      have d1 : decide (((5 : Nat) : Int) < 5) = false := by decide
      have HL := Aside0.mk hl
      clear hl
      gi_wp2
      go_end0
      exact ⟨⟨_, rfl⟩, .inl ⟨_, by unfold ladL; rw [if_neg HL.out], HJ.out⟩⟩

theorem lad_stops (F : Fence) (n : Nat) (hf : F.fn 216) (hro : F.round = none) (hn : 1 ≤ n) (Bt : Nat) (l s r : ByteArray) (w : World)
 (z0 : w.cell? ⟨Bt, 0, none⟩ = some (.string l)) (z2 : w.cell? ⟨Bt, 2, none⟩ = some (.string s)) (z3 : w.cell? ⟨Bt, 3, none⟩ = some (.string r)) :
 SeqStopsK F n Tryz.prog 216 #[.pointer (some ⟨Bt, 0, none⟩)] (fun x : K3 => #[keyV x]) Kp (fun ys => ys = ladL l s r) (fun pre => pre <+: ladL l s r) 5 w := fun y J Jx W hW hJ hJx hY h0 => by
 have c : ∀ {a : Addr} {v : Value}, w.cell? a = some v → W.cell? a = some v := fun {a v} h => (hW.cell (World.block_lt_of_cell? w _ h)).trans h
 exact lad1_in F n hf hro hn y Bt l s r J Jx W hJ hJx hY (c z0) (c z2) (c z3) h0
def fillP (x : S66) (t : K3) : K3 := (if t.1 = undB then x.f3 else t.1, if t.2.1 = empS then x.f4 else t.2.1, if t.2.2 = empS then x.f5 else t.2.2)
def tK (x : S66) (t : K3) (k : Nat) : K3 := (if 1 ≤ k then (fillP x t).1 else t.1, if 2 ≤ k then (fillP x t).2.1 else t.2.1, if 3 ≤ k then (fillP x t).2.2 else t.2.2)
def maxP (l : List S66) (t : K3) : K3 × Bool := match (ladL t.1 t.2.1 t.2.2).findSome? (rowOf l) with
 | some x => (fillP x t, true)
 | none => (t, false)
theorem max_none (l : List S66) (L S R : ByteArray) (h : ∀ y ∈ ladL L S R, rowOf l y = none) : maxP l (L, S, R) = ((L, S, R), false) := by
 unfold maxP
 rw [List.findSome?_eq_none_iff.2 h]
theorem max_some (l : List S66) (L S R : ByteArray) (pr : List K3) (k : K3) (x : S66) (h : pr ++ [k] <+: ladL L S R) (hn : ∀ y ∈ pr, rowOf l y = none) (hk : rowOf l k = some x) : maxP l (L, S, R) = (fillP x (L, S, R), true) := by
 unfold maxP
 obtain ⟨rest, e⟩ := h
 rw [← e, List.findSome?_append, List.findSome?_append, List.findSome?_eq_none_iff.2 hn]
 simp [List.findSome?, hk]
def Blk (W : World) (B : Nat) (vs : Array Value) (T : TypeId) : Prop := W.heap[B]? = some (.cells vs T (0, 0))
theorem Blk.lt {W : World} {B : Nat} {vs : Array Value} {T : TypeId} (h : Blk W B vs T) : B < W.heap.size := (Array.getElem?_eq_some_iff.1 h).1
theorem Blk.cell {W : World} {B : Nat} {vs : Array Value} {T : TypeId} (h : Blk W B vs T) (i : Nat) : W.cell? ⟨B, i, none⟩ = vs[i]? := blk_cell h i
theorem Blk.below {n0 : Nat} {W W' : World} {B : Nat} {vs : Array Value} {T : TypeId} (h : Blk W B vs T) (hB : B < n0) (hb : Below n0 W W') : Blk W' B vs T := (hb.block B hB).trans h
theorem blk_own {β : Type} (B : Nat) (T : TypeId) (f : β → Array Value) : Own (fun s W => Blk W B (f s) T) := fun s X Y row hs hg hrow =>
 (hg.block B (Blk.lt hs) (fun e' => by obtain ⟨o, ho, hc⟩ := hrow B e'.symm; rw [show X.heap[B]? = _ from hs] at ho; cases ho; cases hc)).trans hs
theorem Blk.kept {W W' : World} {row : Option Nat} {B : Nat} {vs : Array Value} {T : TypeId} (h : Blk W B vs T) (hg : W.grownBy W' row) (hne : some B ≠ row) : Blk W' B vs T := (hg.block B h.lt hne).trans h
theorem Blk.alloc {W : World} {B : Nat} {vs : Array Value} {T : TypeId} (h : Blk W B vs T) (o : Obj) : Blk (W.alloc o) B vs T := h.kept (World.grownBy_alloc W o none) (by simp)
theorem Blk.set {W : World} {B : Nat} {vs : Array Value} {T : TypeId} (h : Blk W B vs T) (i : Nat) (v' : Value) : Blk (W.setCell ⟨B, i, none⟩ v') B (vs.set! i v') T := by
 obtain ⟨hlt, hk⟩ := Array.getElem?_eq_some_iff.1 h
 show (W.heap.modify B _)[B]? = _
 rw [Array.getElem?_eq_getElem (by rw [Array.size_modify]; exact hlt), Array.getElem_modify_self, hk]
 simp
theorem grown_setCell (W : World) (b i : Nat) (v : Value) : W.grownBy (W.setCell ⟨b, i, none⟩ v) (some b) :=
 ⟨rfl, rfl, rfl, (KeepsWalks.setCell W _ v).size, fun k _ hk => Below.heap_setCell _ _ _ k (fun e => hk (by rw [e]))⟩
theorem Blk.other {W : World} {B B' : Nat} {vs : Array Value} {T : TypeId} (h : Blk W B vs T) (hne : B ≠ B') (i : Nat) (u : Value) : Blk (W.setCell ⟨B', i, none⟩ u) B vs T := h.kept (grown_setCell W B' i u) (fun e => hne (by cases e; rfl))
theorem Blk.new (W : World) (vs : Array Value) (T : TypeId) : Blk (W.alloc (.cells vs T)) W.heap.size vs T := World.alloc_heap_new W _
section
variable {F : Fence} {n : Nat} {ops : Array Oper} {rest : List Oper} {o : Oper} {a : Act} {w : World} {Q : Exit → Act → World → Prop}
theorem wpListIn_lookR (lp : Nat) (hro : F.round = some lp) (hg : o.guard = none) (m x : Operand) (T E : TypeId) (ok : Bool) (hop : o.op = Op.lookup T m x ok) (hT : Tryz.prog.underlying T = some (.map 123 E)) (b : Nat) (hm : a.eval m = .map (some b)) (ps : List (K3 × Value)) (hM : MapIs w b ps) (k : K3) (hx : a.eval x = keyV k)
 (z : Value) (hz : (zeroValue E).run Tryz.prog w = .ok z w) (h : wpListIn F n Tryz.prog ops Q rest (a.put o.dst (if ok = true then .tuple #[(findP k ps).getD z, .bool (findP k ps).isSome] else (findP k ps).getD z)) w) : wpListIn F n Tryz.prog ops Q (o :: rest) a w := by
 refine wpListIn_plain hg fun K' hK' => ⟨fun f hf => ?_, ?_⟩
 · simp [Oper.about, hop] at hf
 · rw [hro, Oper.semAt_some _ _ _ (by rw [hop]; intro c h; cases h)]
   have hrun := run_look hM k hT hz ok
   have e : (execOp a.eval o).run Tryz.prog w = .ok (.value (if ok = true then .tuple #[(findP k ps).getD z, .bool (findP k ps).isSome] else (findP k ps).getD z)) w := by
    unfold execOp
    simp only [hop, hm, hx, Sem.run_bind, Sem.run_pure, Result.andThen_ok, hrun]
   rw [e]
   exact hK' _ _ h
end
theorem ladder_in (F : Fence) (n : Nat) (hf : F.fn 165) (hro : F.round = none) (c0 c1 c2 c3 c4 c5 c6 c7 : Value) (w : World) :
 CallsIn F n Tryz.prog 165 #[.agg #[c0, c1, c2, c3, c4, c5, c6, c7]] w fun e w' => e = .returned (.func (.func 216) #[] #[.pointer (some ⟨w.heap.size, 0, none⟩)]) ∧ w' = w.alloc (.cells #[c0, c1, c2, c3, c4, c5, c6, c7] 33) := by
 have hu44 := Tryz.underlying33
 refine callsIn_of_wp Tryz.func165 rfl hf ?_ hro
 simp only [Tryz.ntmps165, List.size_toArray, List.length_cons, List.length_nil, Nat.reduceAdd, Nat.reduceSub, Array.replicate_succ, Array.replicate_zero, List.push_toArray, List.append_toArray, List.nil_append, List.cons_append]
 gi_wp2
 go_ret
 exact ⟨rfl, rfl⟩

theorem max_calls (A0 : Option Addr) (n0 c0 : Nat) (A1 : Option Addr) (c1 : Nat) (l : List S66) (A2 : Option Addr) (n2 c2 : Nat) (A3 : Option Addr) (n3 c3 : Nat) (p q : Int)
 (L S R G : ByteArray) (E0 : Option Addr) (m0 d0 : Nat) (E1 : Option Addr) (m1 d1 : Nat) (E2 : Option Addr) (m2 d2 : Nat) (E3 : Option Addr) (m3 d3 : Nat) (w : World) (hC : Kd.C k66 w A1 l.length l) :
 Calls Tryz.prog 100 #[.agg #[.slice A0 n0 c0, .slice A1 l.length c1, .slice A2 n2 c2, .slice A3 n3 c3, .int .i64 p, .int .i64 q], .agg #[.string L, .slice E0 m0 d0, .string S, .string R, .slice E1 m1 d1, .slice E2 m2 d2, .slice E3 m3 d3, .string G]] w fun e w' =>
  e = .returned (.tuple #[.agg #[.string (maxP l (L, S, R)).1.1, .slice E0 m0 d0, .string (maxP l (L, S, R)).1.2.1, .string (maxP l (L, S, R)).1.2.2, .slice E1 m1 d1, .slice E2 m2 d2, .slice E3 m3 d3, .string G], .bool (maxP l (L, S, R)).2]) ∧ Below w.heap.size w w' := by
 have hu39 := Tryz.underlying51
 have hu44 := Tryz.underlying33
 have hu66 := Tryz.underlying122
 have hu30 := Tryz.underlying123
 have hmo : Tryz.prog.follows .mixedOrders = true := by kernel_rfl
 have HC := Aside0.mk hC
 clear hC
 obtain ⟨V, hV⟩ : ∃ V, V = (((w.alloc (.cells #[.slice A0 n0 c0, .slice A1 l.length c1, .slice A2 n2 c2, .slice A3 n3 c3, .int .i64 p, .int .i64 q] 51)).alloc (.cells #[.string L, .slice E0 m0 d0, .string S, .string R, .slice E1 m1 d1, .slice E2 m2 d2, .slice E3 m3 d3, .string G] 33)).alloc (.cells #[.string ⟨#[]⟩, .slice none 0 0, .string ⟨#[]⟩, .string ⟨#[]⟩, .slice none 0 0, .slice none 0 0, .slice none 0 0, .string ⟨#[]⟩] 33)).alloc (.cells #[.bool false] 4) := ⟨_, rfl⟩
 have vs : V.heap.size = w.heap.size + 4 := by rw [hV]; simp
 have vT : Blk V (w.heap.size + 1) #[.string L, .slice E0 m0 d0, .string S, .string R, .slice E1 m1 d1, .slice E2 m2 d2, .slice E3 m3 d3, .string G] 33 := by rw [hV]; exact Blk.alloc (Blk.alloc (by have := World.alloc_heap_new (w.alloc (.cells #[.slice A0 n0 c0, .slice A1 l.length c1, .slice A2 n2 c2, .slice A3 n3 c3, .int .i64 p, .int .i64 q] 51)) (.cells #[.string L, .slice E0 m0 d0, .string S, .string R, .slice E1 m1 d1, .slice E2 m2 d2, .slice E3 m3 d3, .string G] 33); unfold Blk; simpa using this) _) _
 have v4 : Blk V (w.heap.size + 2) #[.string ⟨#[]⟩, .slice none 0 0, .string ⟨#[]⟩, .string ⟨#[]⟩, .slice none 0 0, .slice none 0 0, .slice none 0 0, .string ⟨#[]⟩] 33 := by rw [hV]; exact Blk.alloc (by have := World.alloc_heap_new ((w.alloc (.cells #[.slice A0 n0 c0, .slice A1 l.length c1, .slice A2 n2 c2, .slice A3 n3 c3, .int .i64 p, .int .i64 q] 51)).alloc (.cells #[.string L, .slice E0 m0 d0, .string S, .string R, .slice E1 m1 d1, .slice E2 m2 d2, .slice E3 m3 d3, .string G] 33)) (.cells #[.string ⟨#[]⟩, .slice none 0 0, .string ⟨#[]⟩, .string ⟨#[]⟩, .slice none 0 0, .slice none 0 0, .slice none 0 0, .string ⟨#[]⟩] 33); unfold Blk; simpa using this) _
 have v5 : Boxed V (w.heap.size + 3) 4 (.bool false) := by rw [hV]; have := World.alloc_heap_new (((w.alloc (.cells #[.slice A0 n0 c0, .slice A1 l.length c1, .slice A2 n2 c2, .slice A3 n3 c3, .int .i64 p, .int .i64 q] 51)).alloc (.cells #[.string L, .slice E0 m0 d0, .string S, .string R, .slice E1 m1 d1, .slice E2 m2 d2, .slice E3 m3 d3, .string G] 33)).alloc (.cells #[.string ⟨#[]⟩, .slice none 0 0, .string ⟨#[]⟩, .string ⟨#[]⟩, .slice none 0 0, .slice none 0 0, .slice none 0 0, .string ⟨#[]⟩] 33)) (.cells #[.bool false] 4); unfold Boxed; simpa using this
 have vB : Below w.heap.size w V := by rw [hV]; repeat (first | exact Below.refl _ _ | apply below_alloc)
 have vI : k66.C V A1 l.length l := Kd.C_below HC.out vB
 have HV := Aside0.mk hV
 clear hV
 have HI := Aside0.mk vI
 clear vI HC
 refine (callsIn_wide (n := 3)).1 ?_
 refine callsIn_of_wp_marks Tryz.func100 rfl trivial ?_ rfl
 simp only [Tryz.ntmps100, List.size_toArray, List.length_cons, List.length_nil, Nat.reduceAdd, Nat.reduceSub, Array.replicate_succ, Array.replicate_zero, List.push_toArray, List.append_toArray, List.nil_append, List.cons_append]
 gi_wp2_with (first | (refine ⟨trivial, ?_⟩; gi_at_call 164; rw [← HV.out]; refine (callsIn_wide.2 (rows_calls A0 n0 c0 A1 c1 l A2 n2 c2 A3 n3 c3 p q V HI.out)).mono ?_; rintro e w1 ⟨b, rfl, hb, hM, hB⟩; rw [vs] at hb; replace vT := vT.below (by omega) hB; replace v4 := v4.below (by omega) hB; replace v5 : Boxed w1 (w.heap.size + 3) 4 (.bool false) := Blk.below v5 (by omega) hB; have s1 := hB.size; rw [vs] at s1; replace vB := vB.trans (hB.mono vB.size); have t0 := vT.cell 0; have t1 := vT.cell 1; have t2 := vT.cell 2; have t3 := vT.cell 3; have t4 := vT.cell 4; have t5 := vT.cell 5; have t6 := vT.cell 6; have t7 := vT.cell 7; simp only [List.getElem?_toArray, List.getElem?_cons_zero, List.getElem?_cons_succ] at t0 t1 t2 t3 t4 t5 t6 t7; have HB := Aside0.mk hB; clear hB HI; have HM := Aside0.mk hM; clear hM; have H4 := Aside0.mk v4; clear v4; have HT := Aside0.mk vT; clear vT; have H5 := Aside0.mk v5; clear v5; have HB2 := Aside0.mk vB; clear vB; have sT : w.heap.size + 1 < w1.heap.size := by omega) | (refine ⟨trivial, ?_⟩; gi_at_call 165; refine (ladder_in Fence.wide _ trivial rfl _ _ _ _ _ _ _ _ _).mono ?_; rintro e w2 ⟨rfl, rfl⟩))
 have HVV := HV
 clear HV
 obtain ⟨W0, hW0⟩ : ∃ W0, (w1.alloc (.cells #[.map (some b)] 178)).alloc (.cells #[.string L, .slice E0 m0 d0, .string S, .string R, .slice E1 m1 d1, .slice E2 m2 d2, .slice E3 m3 d3, .string G] 33) = W0 := ⟨_, rfl⟩
 have B1 : Below w1.heap.size w1 W0 := by rw [← hW0]; exact below_alloc (below_alloc (Below.refl _ _) _) _
 have s0 : W0.heap.size = w1.heap.size + 2 := by rw [← hW0]; simp
 have bM : Blk W0 w1.heap.size #[.map (some b)] 178 := by rw [← hW0]; exact (Blk.new w1 _ _).alloc _
 have bL : Blk W0 (w1.heap.size + 1) #[.string L, .slice E0 m0 d0, .string S, .string R, .slice E1 m1 d1, .slice E2 m2 d2, .slice E3 m3 d3, .string G] 33 := by rw [← hW0]; have := Blk.new (w1.alloc (.cells #[.map (some b)] 178)) #[.string L, .slice E0 m0 d0, .string S, .string R, .slice E1 m1 d1, .slice E2 m2 d2, .slice E3 m3 d3, .string G] 33; rwa [World.size_alloc] at this
 have B0 : Below w.heap.size w W0 := HB2.out.trans (B1.mono HB2.out.size)
 have bT := HT.out.below (by omega) B1
 have b4 := H4.out.below (by omega) B1
 have b5 : Boxed W0 (w.heap.size + 3) 4 (.bool false) := Blk.below H5.out (by omega) B1
 have mM := HM.out.below B1
 rw [hW0]
 clear hW0 HB HM HT H4 H5 HB2 HVV t0 t1 t2 t3 t4 t5 t6 t7 B1
 refine wpIn_rangeFunc_ownH rfl (by omega) (gf := 216) (lb := #[.pointer (some ⟨w1.heap.size + 1, 0, none⟩)]) rfl trivial (enters_of Tryz.func216 (by kernel_rfl) rfl)
  (lad_stops Fence.wide _ trivial rfl (by omega) (w1.heap.size + 1) L S R W0 (bL.cell 0) (bL.cell 2) (bL.cell 3)) (fun h k => Kp.trans h k) (fun W lw o o' _ h h1 h2 => Kp.put W lw o o' h h1 h2) (Below.refl _ _) (fun _ => rfl)
  (fun pre W => (∀ y ∈ pre, rowOf l y = none) ∧ Below W0.heap.size W0 W)
  (fun c pre W => (∃ x, (c = .ret ∧ ∃ pr k, pre = pr ++ [k] ∧ (∀ y ∈ pr, rowOf l y = none) ∧ rowOf l k = some x) ∧ Blk W (w.heap.size + 2) #[.string (fillP x (L, S, R)).1, .slice E0 m0 d0, .string (fillP x (L, S, R)).2.1, .string (fillP x (L, S, R)).2.2, .slice E1 m1 d1, .slice E2 m2 d2, .slice E3 m3 d3, .string G] 33 ∧ Boxed W (w.heap.size + 3) 4 (.bool true)) ∧ Below w.heap.size w W)
  (OwnFrom.and (ownFrom_pure _ _) (ownFrom_below (Nat.le_refl _) (Nat.le_refl _)))
  (fun c => OwnFrom.and (fun s A B row ⟨x, h1, h2, h3⟩ hg hr => ⟨x, h1, blk_own (β := Unit) _ _ (fun _ => _) () A B row h2 hg (fun r e => (hr r e).2), boxed_own (β := Unit) _ _ (fun _ => _) () A B row h3 hg (fun r e => (hr r e).2)⟩) (ownFrom_below (Nat.le_refl _) (by omega)))
  ⟨by simp, Below.refl _ _⟩
  (fun x a' W => ∃ Bx, W0.heap.size ≤ Bx ∧ Blk W Bx #[.string x.1, .string x.2.1, .string x.2.2] 123 ∧ a' = { tmps := #[.agg #[.slice A0 n0 c0, .slice A1 l.length c1, .slice A2 n2 c2, .slice A3 n3 c3, .int .i64 p, .int .i64 q], .agg #[.string L, .slice E0 m0 d0, .string S, .string R, .slice E1 m1 d1, .slice E2 m2 d2, .slice E3 m3 d3, .string G], .pointer (some ⟨w.heap.size, 0, none⟩), .pointer (some ⟨w.heap.size + 1, 0, none⟩), .pointer (some ⟨w.heap.size + 1 + 1, 0, none⟩), .pointer (some ⟨w.heap.size + 1 + 1 + 1, 0, none⟩), .pointer (some ⟨w1.heap.size, 0, none⟩), .pointer (some ⟨Bx, 0, none⟩), undef, undef, undef, undef, .agg #[.slice A0 n0 c0, .slice A1 l.length c1, .slice A2 n2 c2, .slice A3 n3 c3, .int .i64 p, .int .i64 q], .map (some b), .agg #[.string L, .slice E0 m0 d0, .string S, .string R, .slice E1 m1 d1, .slice E2 m2 d2, .slice E3 m3 d3, .string G], .func (.func 216) #[] #[.pointer (some ⟨w1.heap.size + 1, 0, none⟩)], keyV x, undef, undef, undef, undef, undef, undef, undef, undef, undef, undef, undef, undef, undef, undef, undef, undef, undef, undef, undef, undef, undef, undef, undef, undef, undef, undef, undef, undef, undef, undef, undef, undef, undef, undef, undef, undef, undef, undef, undef, undef, undef], defers := [] })
  (fun x a' _ X Y row hs hg hr => by obtain ⟨Bx, e1, e2, e3⟩ := hs; exact ⟨Bx, e1, blk_own (β := Unit) _ _ (fun _ => _) () X Y row e2 hg (fun r e => (hr r e).2), e3⟩)
  ?assign ?body ?done ?stop
 case assign =>
  rintro lp pre x W K ⟨hp, hb1⟩ hK
  simp only [keyV]
  gi_wp2
  exact hK _ _ ((KeepsOthers.alloc _ _).from _) (Kp.alloc _ _) ⟨hp, hb1.alloc hb1.size _⟩ ⟨W.heap.size, hb1.size, Blk.new W _ _, rfl⟩
 case body =>
  rintro lp pre x a' W hl ⟨r, hr⟩ ⟨hp, hb1⟩ ⟨Bx, hBx, bX, rfl⟩ hlt
  simp only [keyV]
  have cM := (bM.below (by omega) hb1).cell 0
  have q0 := bX.cell 0
  have q1 := bX.cell 1
  have q2 := bX.cell 2
  simp only [List.getElem?_toArray, List.getElem?_cons_zero, List.getElem?_cons_succ] at cM q0 q1 q2
  have mW : MapIs W b (rowsP l []) := mM.below hb1
  have HMW := Aside0.mk mW
  have hf := find_rows x _ l rfl
  have HF := Aside0.mk hf
  have HX := Aside0.mk bX
  have HB1 := Aside0.mk hb1
  have HP := Aside0.mk hp
  have sW := hb1.size
  have HR := Aside0.mk hr
  clear mW hf bX hb1 hp hr
  cases hr : rowOf l x with
  | none =>
   rw [hr] at HF
   gi_wp2_with (gi_at_lookup; refine wpListIn_lookR lp rfl rfl _ _ 178 122 true rfl Tryz.underlying178 b rfl (rowsP l []) HMW.out x rfl _ (zero_lik _) ?_; rw [HF.out]; simp only [Option.map_none, Option.getD_none, Option.isSome_none, if_true, likV])
   exact ⟨(KeepsOthers.alloc _ _).from _, Kp.alloc _ _, fun y hy => (List.mem_append.1 hy).elim (HP.out y) (fun e => by simp at e; subst e; exact hr), HB1.out.alloc HB1.out.size _⟩
  | some y =>
   rw [hr] at HF
   have hr2 := Aside0.mk hr
   clear hr
   gi_wp2_with (gi_at_lookup; refine wpListIn_lookR lp rfl rfl _ _ 178 122 true rfl Tryz.underlying178 b rfl (rowsP l []) HMW.out x rfl _ (zero_lik _) ?_; rw [HF.out]; simp only [Option.map_some, Option.getD_some, Option.isSome_some, if_true, likV])
   have wT := bT.below (by omega) HB1.out
   have w4 := b4.below (by omega) HB1.out
   have w5 : Boxed W (w.heap.size + 3) 4 (.bool false) := Blk.below b5 (by omega) HB1.out
   have wB : Below w.heap.size w W := B0.trans (HB1.out.mono B0.size)
   clear q0 q1 q2 cM bM bL bT b4 b5 B0 mM HMW HX HF HR
   obtain ⟨W5, hW5⟩ : ∃ W5, (W.alloc (.cells #[.string y.f0, .string y.f1, .string y.f2, .string y.f3, .string y.f4, .string y.f5] 122)).alloc (.cells #[.pointer (some ⟨w.heap.size + 1, 0, none⟩), .string ⟨#[117, 110, 100]⟩, .string y.f3, .pointer (some ⟨w.heap.size + 1, 2, none⟩), .string ⟨#[]⟩, .string y.f4, .pointer (some ⟨w.heap.size + 1, 3, none⟩), .string ⟨#[]⟩, .string y.f5] 185) = W5 := ⟨_, rfl⟩
   have s5 : W5.heap.size = W.heap.size + 2 := by rw [← hW5]; simp
   have B5 : Below W.heap.size W W5 := by rw [← hW5]; exact below_alloc (below_alloc (Below.refl _ _) _) _
   have k5 : KeepsFrom W0.heap.size W W5 := by rw [← hW5]; exact ((KeepsOthers.alloc _ _).trans (KeepsOthers.alloc _ _)).from _
   have bS : Blk W5 (W.heap.size + 1) #[.pointer (some ⟨w.heap.size + 1, 0, none⟩), .string ⟨#[117, 110, 100]⟩, .string y.f3, .pointer (some ⟨w.heap.size + 1, 2, none⟩), .string ⟨#[]⟩, .string y.f4, .pointer (some ⟨w.heap.size + 1, 3, none⟩), .string ⟨#[]⟩, .string y.f5] 185 := by
    rw [← hW5]
    have := Blk.new (W.alloc (.cells #[.string y.f0, .string y.f1, .string y.f2, .string y.f3, .string y.f4, .string y.f5] 122)) #[.pointer (some ⟨w.heap.size + 1, 0, none⟩), .string ⟨#[117, 110, 100]⟩, .string y.f3, .pointer (some ⟨w.heap.size + 1, 2, none⟩), .string ⟨#[]⟩, .string y.f4, .pointer (some ⟨w.heap.size + 1, 3, none⟩), .string ⟨#[]⟩, .string y.f5] 185
    rwa [World.size_alloc] at this
   replace wT : Blk W5 (w.heap.size + 1) #[.string (tK y (L, S, R) 0).1, .slice E0 m0 d0, .string (tK y (L, S, R) 0).2.1, .string (tK y (L, S, R) 0).2.2, .slice E1 m1 d1, .slice E2 m2 d2, .slice E3 m3 d3, .string G] 33 := wT.below (by omega) B5
   replace w4 := w4.below (by omega) B5
   replace w5 : Boxed W5 (w.heap.size + 3) 4 (.bool false) := Blk.below w5 (by omega) B5
   replace wB : Below w.heap.size w W5 := wB.trans (B5.mono wB.size)
   rw [hW5]
   clear hW5 B5
   gi_loopw [39] (fun i wr => ∃ k : Nat, k ≤ 3 ∧ i = .int .i64 (k : Int) ∧ Aside0 (Blk wr (w.heap.size + 1) #[.string (tK y (L, S, R) k).1, .slice E0 m0 d0, .string (tK y (L, S, R) k).2.1, .string (tK y (L, S, R) k).2.2, .slice E1 m1 d1, .slice E2 m2 d2, .slice E3 m3 d3, .string G] 33) ∧ Aside0 (Blk wr (W.heap.size + 1) #[.pointer (some ⟨w.heap.size + 1, 0, none⟩), .string ⟨#[117, 110, 100]⟩, .string y.f3, .pointer (some ⟨w.heap.size + 1, 2, none⟩), .string ⟨#[]⟩, .string y.f4, .pointer (some ⟨w.heap.size + 1, 3, none⟩), .string ⟨#[]⟩, .string y.f5] 185) ∧ Aside0 (Blk wr (w.heap.size + 2) #[.string ⟨#[]⟩, .slice none 0 0, .string ⟨#[]⟩, .string ⟨#[]⟩, .slice none 0 0, .slice none 0 0, .slice none 0 0, .string ⟨#[]⟩] 33) ∧ Aside0 (Boxed wr (w.heap.size + 3) 4 (.bool false)) ∧ Aside0 (Below w.heap.size w wr) ∧ Aside0 (KeepsFrom W0.heap.size W wr)) (fun i _ => 3 - (intOf i).toNat)
   case atStart => exact ⟨0, by omega, rfl, ⟨wT⟩, ⟨bS⟩, ⟨w4⟩, ⟨w5⟩, ⟨wB⟩, ⟨k5⟩⟩
   case round =>
    clear wT bS w4 w5 wB k5
    obtain ⟨k, hk, rfl, hT, hS, h4, h5, hB, hKF⟩ := hrel
    have hs := hKF.out.1
    by_cases hlt3 : k < 3
    · have t0 := hT.out.cell 0
      have t2 := hT.out.cell 2
      have t3 := hT.out.cell 3
      have e0 := hS.out.cell 0
      have e1 := hS.out.cell 1
      have e2 := hS.out.cell 2
      have e3 := hS.out.cell 3
      have e4 := hS.out.cell 4
      have e5 := hS.out.cell 5
      have e6 := hS.out.cell 6
      have e7 := hS.out.cell 7
      have e8 := hS.out.cell 8
      simp only [List.getElem?_toArray, List.getElem?_cons_zero, List.getElem?_cons_succ] at t0 t2 t3 e0 e1 e2 e3 e4 e5 e6 e7 e8
      have sS := hS.out.lt
      have sT2 : w.heap.size + 1 < wr.heap.size := hT.out.lt
      obtain rfl | rfl | rfl : k = 0 ∨ k = 1 ∨ k = 2 := by omega
      · simp only [tK] at t0 t2 t3
        simp only [Nat.le_refl, reduceIte, show ¬(1 ≤ 0) by omega, show ¬(2 ≤ 0) by omega, show ¬(3 ≤ 0) by omega, show ¬(2 ≤ 1) by omega, show ¬(3 ≤ 1) by omega, show ¬(3 ≤ 2) by omega, show 1 ≤ 2 by omega] at t0 t2 t3
        have f0 := blk_frozen hT.out 0
        by_cases hu : L = undB
        · have g0 : (L.toList == [117, 110, 100]) = true := by rw [hu, ByteArray.toList_eq]; rfl
          have e : (#[.string (tK y (L, S, R) 1).1, .slice E0 m0 d0, .string (tK y (L, S, R) 1).2.1, .string (tK y (L, S, R) 1).2.2, .slice E1 m1 d1, .slice E2 m2 d2, .slice E3 m3 d3, .string G] : Array Value) = (#[.string (tK y (L, S, R) 0).1, .slice E0 m0 d0, .string (tK y (L, S, R) 0).2.1, .string (tK y (L, S, R) 0).2.2, .slice E1 m1 d1, .slice E2 m2 d2, .slice E3 m3 d3, .string G] : Array Value).set! 0 (.string y.f3) := by simp [tK, fillP, hu]
          have E := Aside0.mk e
          clear e hu
          gi_wp2
          gi_region_elder_o
          all_goals gi_wp2
          all_goals go_roundw
          all_goals first
           | (case measure => simp [intOf])
           | (case rel =>
            refine ⟨1, by omega, rfl, ⟨?_⟩, ⟨?_⟩, ⟨?_⟩, ⟨?_⟩, ⟨?_⟩, ⟨?_⟩⟩
            · rw [E.out]; exact Blk.alloc (hT.out.set 0 _) _
            · exact Blk.alloc (hS.out.other (by omega) _ _) _
            · exact Blk.alloc (h4.out.other (by omega) _ _) _
            · exact Blk.alloc (Blk.other h5.out (by omega) _ _) _
            · exact ((hB.out.setCell (p := ⟨w.heap.size + 1, 0, none⟩) (by simp) _).alloc (by have := hB.out.size; simpa using this) _).drew
            · exact hKF.out.trans (((KeepsOthers.setCell _ _ _).trans ((KeepsOthers.alloc _ _).trans (KeepsOthers.drew _))).from _))
        · have g0 : (L.toList == [117, 110, 100]) = false := by first | (rw [beq_eq_false_iff_ne]; intro e; apply hu; rw [ByteArray.toList_eq] at e; exact ByteArray.ext (Array.toList_inj.1 (by rw [e]; rfl))) | (rw [List.isEmpty_eq_false_iff]; intro e; apply hu; rw [ByteArray.toList_eq] at e; exact ByteArray.ext (Array.toList_inj.1 (by rw [e]; rfl)))
          have e : (#[.string (tK y (L, S, R) 1).1, .slice E0 m0 d0, .string (tK y (L, S, R) 1).2.1, .string (tK y (L, S, R) 1).2.2, .slice E1 m1 d1, .slice E2 m2 d2, .slice E3 m3 d3, .string G] : Array Value) = #[.string (tK y (L, S, R) 0).1, .slice E0 m0 d0, .string (tK y (L, S, R) 0).2.1, .string (tK y (L, S, R) 0).2.2, .slice E1 m1 d1, .slice E2 m2 d2, .slice E3 m3 d3, .string G] := by simp [tK, fillP, hu]
          have E := Aside0.mk e
          clear e hu
          gi_wp2
          gi_region_elder_o
          all_goals gi_wp2
          all_goals go_roundw
          all_goals first
           | (case measure => simp [intOf])
           | (case rel =>
            refine ⟨1, by omega, rfl, ⟨?_⟩, ⟨?_⟩, ⟨?_⟩, ⟨?_⟩, ⟨?_⟩, ⟨?_⟩⟩
            · rw [E.out]; exact Blk.alloc hT.out _
            · exact Blk.alloc hS.out _
            · exact Blk.alloc h4.out _
            · exact Blk.alloc h5.out _
            · exact (hB.out.alloc hB.out.size _).drew
            · exact hKF.out.trans (((KeepsOthers.alloc _ _).trans (KeepsOthers.drew _)).from _))
      · simp only [tK] at t0 t2 t3
        simp only [Nat.le_refl, reduceIte, show ¬(1 ≤ 0) by omega, show ¬(2 ≤ 0) by omega, show ¬(3 ≤ 0) by omega, show ¬(2 ≤ 1) by omega, show ¬(3 ≤ 1) by omega, show ¬(3 ≤ 2) by omega, show 1 ≤ 2 by omega] at t0 t2 t3
        have f0 := blk_frozen hT.out 2
        by_cases hu : S = empS
        · have g0 : S.toList.isEmpty = true := by rw [hu, ByteArray.toList_eq]; rfl
          have g1 : (S.toList == []) = true := by rw [hu, ByteArray.toList_eq]; rfl
          have e : (#[.string (tK y (L, S, R) 2).1, .slice E0 m0 d0, .string (tK y (L, S, R) 2).2.1, .string (tK y (L, S, R) 2).2.2, .slice E1 m1 d1, .slice E2 m2 d2, .slice E3 m3 d3, .string G] : Array Value) = (#[.string (tK y (L, S, R) 1).1, .slice E0 m0 d0, .string (tK y (L, S, R) 1).2.1, .string (tK y (L, S, R) 1).2.2, .slice E1 m1 d1, .slice E2 m2 d2, .slice E3 m3 d3, .string G] : Array Value).set! 2 (.string y.f4) := by simp [tK, fillP, hu]
          have E := Aside0.mk e
          clear e hu
          gi_wp2
          gi_region_elder_o
          all_goals gi_wp2
          all_goals go_roundw
          all_goals first
           | (case measure => simp [intOf])
           | (case rel =>
            refine ⟨2, by omega, rfl, ⟨?_⟩, ⟨?_⟩, ⟨?_⟩, ⟨?_⟩, ⟨?_⟩, ⟨?_⟩⟩
            · rw [E.out]; exact Blk.alloc (hT.out.set 2 _) _
            · exact Blk.alloc (hS.out.other (by omega) _ _) _
            · exact Blk.alloc (h4.out.other (by omega) _ _) _
            · exact Blk.alloc (Blk.other h5.out (by omega) _ _) _
            · exact ((hB.out.setCell (p := ⟨w.heap.size + 1, 2, none⟩) (by simp) _).alloc (by have := hB.out.size; simpa using this) _).drew
            · exact hKF.out.trans (((KeepsOthers.setCell _ _ _).trans ((KeepsOthers.alloc _ _).trans (KeepsOthers.drew _))).from _))
        · have g0 : S.toList.isEmpty = false := by first | (rw [beq_eq_false_iff_ne]; intro e; apply hu; rw [ByteArray.toList_eq] at e; exact ByteArray.ext (Array.toList_inj.1 (by rw [e]; rfl))) | (rw [List.isEmpty_eq_false_iff]; intro e; apply hu; rw [ByteArray.toList_eq] at e; exact ByteArray.ext (Array.toList_inj.1 (by rw [e]; rfl)))
          have g1 : (S.toList == []) = false := by first | (rw [beq_eq_false_iff_ne]; intro e; apply hu; rw [ByteArray.toList_eq] at e; exact ByteArray.ext (Array.toList_inj.1 (by rw [e]; rfl))) | (rw [List.isEmpty_eq_false_iff]; intro e; apply hu; rw [ByteArray.toList_eq] at e; exact ByteArray.ext (Array.toList_inj.1 (by rw [e]; rfl)))
          have e : (#[.string (tK y (L, S, R) 2).1, .slice E0 m0 d0, .string (tK y (L, S, R) 2).2.1, .string (tK y (L, S, R) 2).2.2, .slice E1 m1 d1, .slice E2 m2 d2, .slice E3 m3 d3, .string G] : Array Value) = #[.string (tK y (L, S, R) 1).1, .slice E0 m0 d0, .string (tK y (L, S, R) 1).2.1, .string (tK y (L, S, R) 1).2.2, .slice E1 m1 d1, .slice E2 m2 d2, .slice E3 m3 d3, .string G] := by simp [tK, fillP, hu]
          have E := Aside0.mk e
          clear e hu
          gi_wp2
          gi_region_elder_o
          all_goals gi_wp2
          all_goals go_roundw
          all_goals first
           | (case measure => simp [intOf])
           | (case rel =>
            refine ⟨2, by omega, rfl, ⟨?_⟩, ⟨?_⟩, ⟨?_⟩, ⟨?_⟩, ⟨?_⟩, ⟨?_⟩⟩
            · rw [E.out]; exact Blk.alloc hT.out _
            · exact Blk.alloc hS.out _
            · exact Blk.alloc h4.out _
            · exact Blk.alloc h5.out _
            · exact (hB.out.alloc hB.out.size _).drew
            · exact hKF.out.trans (((KeepsOthers.alloc _ _).trans (KeepsOthers.drew _)).from _))
      · simp only [tK] at t0 t2 t3
        simp only [Nat.le_refl, reduceIte, show ¬(1 ≤ 0) by omega, show ¬(2 ≤ 0) by omega, show ¬(3 ≤ 0) by omega, show ¬(2 ≤ 1) by omega, show ¬(3 ≤ 1) by omega, show ¬(3 ≤ 2) by omega, show 1 ≤ 2 by omega] at t0 t2 t3
        have f0 := blk_frozen hT.out 3
        by_cases hu : R = empS
        · have g0 : R.toList.isEmpty = true := by rw [hu, ByteArray.toList_eq]; rfl
          have g1 : (R.toList == []) = true := by rw [hu, ByteArray.toList_eq]; rfl
          have e : (#[.string (tK y (L, S, R) 3).1, .slice E0 m0 d0, .string (tK y (L, S, R) 3).2.1, .string (tK y (L, S, R) 3).2.2, .slice E1 m1 d1, .slice E2 m2 d2, .slice E3 m3 d3, .string G] : Array Value) = (#[.string (tK y (L, S, R) 2).1, .slice E0 m0 d0, .string (tK y (L, S, R) 2).2.1, .string (tK y (L, S, R) 2).2.2, .slice E1 m1 d1, .slice E2 m2 d2, .slice E3 m3 d3, .string G] : Array Value).set! 3 (.string y.f5) := by simp [tK, fillP, hu]
          have E := Aside0.mk e
          clear e hu
          gi_wp2
          gi_region_elder_o
          all_goals gi_wp2
          all_goals go_roundw
          all_goals first
           | (case measure => simp [intOf])
           | (case rel =>
            refine ⟨3, by omega, rfl, ⟨?_⟩, ⟨?_⟩, ⟨?_⟩, ⟨?_⟩, ⟨?_⟩, ⟨?_⟩⟩
            · rw [E.out]; exact Blk.alloc (hT.out.set 3 _) _
            · exact Blk.alloc (hS.out.other (by omega) _ _) _
            · exact Blk.alloc (h4.out.other (by omega) _ _) _
            · exact Blk.alloc (Blk.other h5.out (by omega) _ _) _
            · exact ((hB.out.setCell (p := ⟨w.heap.size + 1, 3, none⟩) (by simp) _).alloc (by have := hB.out.size; simpa using this) _).drew
            · exact hKF.out.trans (((KeepsOthers.setCell _ _ _).trans ((KeepsOthers.alloc _ _).trans (KeepsOthers.drew _))).from _))
        · have g0 : R.toList.isEmpty = false := by first | (rw [beq_eq_false_iff_ne]; intro e; apply hu; rw [ByteArray.toList_eq] at e; exact ByteArray.ext (Array.toList_inj.1 (by rw [e]; rfl))) | (rw [List.isEmpty_eq_false_iff]; intro e; apply hu; rw [ByteArray.toList_eq] at e; exact ByteArray.ext (Array.toList_inj.1 (by rw [e]; rfl)))
          have g1 : (R.toList == []) = false := by first | (rw [beq_eq_false_iff_ne]; intro e; apply hu; rw [ByteArray.toList_eq] at e; exact ByteArray.ext (Array.toList_inj.1 (by rw [e]; rfl))) | (rw [List.isEmpty_eq_false_iff]; intro e; apply hu; rw [ByteArray.toList_eq] at e; exact ByteArray.ext (Array.toList_inj.1 (by rw [e]; rfl)))
          have e : (#[.string (tK y (L, S, R) 3).1, .slice E0 m0 d0, .string (tK y (L, S, R) 3).2.1, .string (tK y (L, S, R) 3).2.2, .slice E1 m1 d1, .slice E2 m2 d2, .slice E3 m3 d3, .string G] : Array Value) = #[.string (tK y (L, S, R) 2).1, .slice E0 m0 d0, .string (tK y (L, S, R) 2).2.1, .string (tK y (L, S, R) 2).2.2, .slice E1 m1 d1, .slice E2 m2 d2, .slice E3 m3 d3, .string G] := by simp [tK, fillP, hu]
          have E := Aside0.mk e
          clear e hu
          gi_wp2
          gi_region_elder_o
          all_goals gi_wp2
          all_goals go_roundw
          all_goals first
           | (case measure => simp [intOf])
           | (case rel =>
            refine ⟨3, by omega, rfl, ⟨?_⟩, ⟨?_⟩, ⟨?_⟩, ⟨?_⟩, ⟨?_⟩, ⟨?_⟩⟩
            · rw [E.out]; exact Blk.alloc hT.out _
            · exact Blk.alloc hS.out _
            · exact Blk.alloc h4.out _
            · exact Blk.alloc h5.out _
            · exact (hB.out.alloc hB.out.size _).drew
            · exact hKF.out.trans (((KeepsOthers.alloc _ _).trans (KeepsOthers.drew _)).from _))
    · obtain rfl : k = 3 := by omega
      have hTT : Blk wr (w.heap.size + 1) #[.string (fillP y (L, S, R)).1, .slice E0 m0 d0, .string (fillP y (L, S, R)).2.1, .string (fillP y (L, S, R)).2.2, .slice E1 m1 d1, .slice E2 m2 d2, .slice E3 m3 d3, .string G] 33 := hT.out
      have dd : decide (((3 : Nat) : Int) < 3) = false := by decide
      have t0 := hTT.cell 0
      have t1 := hTT.cell 1
      have t2 := hTT.cell 2
      have t3 := hTT.cell 3
      have t4 := hTT.cell 4
      have t5 := hTT.cell 5
      have t6 := hTT.cell 6
      have t7 := hTT.cell 7
      simp only [List.getElem?_toArray, List.getElem?_cons_zero, List.getElem?_cons_succ] at t0 t1 t2 t3 t4 t5 t6 t7
      have h44 : Blk wr (w.heap.size + 1 + 1) #[.string ⟨#[]⟩, .slice none 0 0, .string ⟨#[]⟩, .string ⟨#[]⟩, .slice none 0 0, .slice none 0 0, .slice none 0 0, .string ⟨#[]⟩] 33 := h4.out
      have h55 : Boxed wr (w.heap.size + 1 + 1 + 1) 4 (.bool false) := h5.out
      have f0 := blk_frozen h44 0
      have r0 := h44.cell 0
      have f1 := blk_frozen h44 1
      have r1 := h44.cell 1
      have f2 := blk_frozen h44 2
      have r2 := h44.cell 2
      have f3 := blk_frozen h44 3
      have r3 := h44.cell 3
      have f4 := blk_frozen h44 4
      have r4 := h44.cell 4
      have f5 := blk_frozen h44 5
      have r5 := h44.cell 5
      have f6 := blk_frozen h44 6
      have r6 := h44.cell 6
      have f7 := blk_frozen h44 7
      have r7 := h44.cell 7
      simp only [List.getElem?_toArray, List.getElem?_cons_zero, List.getElem?_cons_succ] at r0 r1 r2 r3 r4 r5 r6 r7
      have f8 := h55.frozen
      have r8 := h55.cell
      have s4 := h44.lt
      have s5b := h55.lt
      have H44 := Aside0.mk h44
      have H55 := Aside0.mk h55
      clear hTT h44 h55
      gi_wp2
      refine ⟨hKF.out.trans ((((((((((KeepsOthers.setCell _ _ _).trans (KeepsOthers.setCell _ _ _)).trans (KeepsOthers.setCell _ _ _)).trans (KeepsOthers.setCell _ _ _)).trans (KeepsOthers.setCell _ _ _)).trans (KeepsOthers.setCell _ _ _)).trans (KeepsOthers.setCell _ _ _)).trans (KeepsOthers.setCell _ _ _)).trans (KeepsOthers.setCell _ _ _)).from _), ⟨y, ⟨rfl, pre, x, rfl, HP.out, hr2.out⟩, ?_, ?_⟩, ?_⟩
      · have := Blk.other (Blk.set (Blk.set (Blk.set (Blk.set (Blk.set (Blk.set (Blk.set (Blk.set H44.out 0 (.string (fillP y (L, S, R)).1)) 1 (.slice E0 m0 d0)) 2 (.string (fillP y (L, S, R)).2.1)) 3 (.string (fillP y (L, S, R)).2.2)) 4 (.slice E1 m1 d1)) 5 (.slice E2 m2 d2)) 6 (.slice E3 m3 d3)) 7 (.string G)) (show w.heap.size + 1 + 1 ≠ w.heap.size + 1 + 1 + 1 by omega) 0 (.bool true)
        simpa using this
      · refine Boxed.set (v := .bool false) _ ?_
        exact Blk.other (Blk.other (Blk.other (Blk.other (Blk.other (Blk.other (Blk.other (Blk.other H55.out (by omega) _ _) (by omega) _ _) (by omega) _ _) (by omega) _ _) (by omega) _ _) (by omega) _ _) (by omega) _ _) (by omega) _ _
      · exact (((((((((hB.out.setCell (p := ⟨w.heap.size + 1 + 1, 0, none⟩) (show w.heap.size ≤ w.heap.size + 1 + 1 by omega) _).setCell (p := ⟨w.heap.size + 1 + 1, 1, none⟩) (show w.heap.size ≤ w.heap.size + 1 + 1 by omega) _).setCell (p := ⟨w.heap.size + 1 + 1, 2, none⟩) (show w.heap.size ≤ w.heap.size + 1 + 1 by omega) _).setCell (p := ⟨w.heap.size + 1 + 1, 3, none⟩) (show w.heap.size ≤ w.heap.size + 1 + 1 by omega) _).setCell (p := ⟨w.heap.size + 1 + 1, 4, none⟩) (show w.heap.size ≤ w.heap.size + 1 + 1 by omega) _).setCell (p := ⟨w.heap.size + 1 + 1, 5, none⟩) (show w.heap.size ≤ w.heap.size + 1 + 1 by omega) _).setCell (p := ⟨w.heap.size + 1 + 1, 6, none⟩) (show w.heap.size ≤ w.heap.size + 1 + 1 by omega) _).setCell (p := ⟨w.heap.size + 1 + 1, 7, none⟩) (show w.heap.size ≤ w.heap.size + 1 + 1 by omega) _).setCell (p := ⟨w.heap.size + 1 + 1 + 1, 0, none⟩) (show w.heap.size ≤ w.heap.size + 1 + 1 + 1 by omega) _)
 case done =>
  rintro D zs W hD rfl ⟨hp, hb1⟩ hK
  have h44 : Blk W (w.heap.size + 1 + 1) #[.string ⟨#[]⟩, .slice none 0 0, .string ⟨#[]⟩, .string ⟨#[]⟩, .slice none 0 0, .slice none 0 0, .slice none 0 0, .string ⟨#[]⟩] 33 := b4.below (by omega) hb1
  have h55 : Boxed W (w.heap.size + 1 + 1 + 1) 4 (.bool false) := Blk.below b5 (by omega) hb1
  have hTT := bT.below (by omega) hb1
  have hBB : Below w.heap.size w W := B0.trans (hb1.mono B0.size)
  have t0 := hTT.cell 0
  have f0 := blk_frozen h44 0
  have r0 := h44.cell 0
  have t1 := hTT.cell 1
  have f1 := blk_frozen h44 1
  have r1 := h44.cell 1
  have t2 := hTT.cell 2
  have f2 := blk_frozen h44 2
  have r2 := h44.cell 2
  have t3 := hTT.cell 3
  have f3 := blk_frozen h44 3
  have r3 := h44.cell 3
  have t4 := hTT.cell 4
  have f4 := blk_frozen h44 4
  have r4 := h44.cell 4
  have t5 := hTT.cell 5
  have f5 := blk_frozen h44 5
  have r5 := h44.cell 5
  have t6 := hTT.cell 6
  have f6 := blk_frozen h44 6
  have r6 := h44.cell 6
  have t7 := hTT.cell 7
  have f7 := blk_frozen h44 7
  have r7 := h44.cell 7
  simp only [List.getElem?_toArray, List.getElem?_cons_zero, List.getElem?_cons_succ] at r0 r1 r2 r3 r4 r5 r6 r7 t0 t1 t2 t3 t4 t5 t6 t7
  have f8 := h55.frozen
  have r8 := h55.cell
  have s4 := h44.lt
  have s5b := h55.lt
  have H44 := Aside0.mk h44
  have H55 := Aside0.mk h55
  have HP := Aside0.mk hp
  have HBB := Aside0.mk hBB
  have HK := Aside0.mk hK
  clear hTT h44 h55 hp hBB hb1 hK bT bL bM b4 b5 mM B0
  gi_wp2
  obtain ⟨X, hX⟩ : ∃ X, X = (((((((((W.setCell ⟨w.heap.size + 1 + 1, 0, none⟩ (.string L)).setCell ⟨w.heap.size + 1 + 1, 1, none⟩ (.slice E0 m0 d0)).setCell ⟨w.heap.size + 1 + 1, 2, none⟩ (.string S)).setCell ⟨w.heap.size + 1 + 1, 3, none⟩ (.string R)).setCell ⟨w.heap.size + 1 + 1, 4, none⟩ (.slice E1 m1 d1)).setCell ⟨w.heap.size + 1 + 1, 5, none⟩ (.slice E2 m2 d2)).setCell ⟨w.heap.size + 1 + 1, 6, none⟩ (.slice E3 m3 d3)).setCell ⟨w.heap.size + 1 + 1, 7, none⟩ (.string G)).setCell ⟨w.heap.size + 1 + 1 + 1, 0, none⟩ (.bool false)) := ⟨_, rfl⟩
  have x4 : Blk X (w.heap.size + 1 + 1) #[.string L, .slice E0 m0 d0, .string S, .string R, .slice E1 m1 d1, .slice E2 m2 d2, .slice E3 m3 d3, .string G] 33 := by
   have := Blk.other (Blk.set (Blk.set (Blk.set (Blk.set (Blk.set (Blk.set (Blk.set (Blk.set H44.out 0 (.string L)) 1 (.slice E0 m0 d0)) 2 (.string S)) 3 (.string R)) 4 (.slice E1 m1 d1)) 5 (.slice E2 m2 d2)) 6 (.slice E3 m3 d3)) 7 (.string G)) (show w.heap.size + 1 + 1 ≠ w.heap.size + 1 + 1 + 1 by omega) 0 (.bool false)
   rw [hX]
   simpa using this
  have x5 : Boxed X (w.heap.size + 1 + 1 + 1) 4 (.bool false) := by
   rw [hX]
   refine Boxed.set (v := .bool false) _ ?_
   exact Blk.other (Blk.other (Blk.other (Blk.other (Blk.other (Blk.other (Blk.other (Blk.other H55.out (by omega) _ _) (by omega) _ _) (by omega) _ _) (by omega) _ _) (by omega) _ _) (by omega) _ _) (by omega) _ _) (by omega) _ _
  have xK : X.heap[D]? = some (.deferred (some [])) := by rw [hX]; exact ((((((((((KeepsOthers.setCell _ _ _).trans (KeepsOthers.setCell _ _ _)).trans (KeepsOthers.setCell _ _ _)).trans (KeepsOthers.setCell _ _ _)).trans (KeepsOthers.setCell _ _ _)).trans (KeepsOthers.setCell _ _ _)).trans (KeepsOthers.setCell _ _ _)).trans (KeepsOthers.setCell _ _ _)).trans (KeepsOthers.setCell _ _ _))).same D _ HK.out rfl
  have xB : Below w.heap.size w X := by rw [hX]; exact (((((((((HBB.out.setCell (p := ⟨w.heap.size + 1 + 1, 0, none⟩) (show w.heap.size ≤ w.heap.size + 1 + 1 by omega) _).setCell (p := ⟨w.heap.size + 1 + 1, 1, none⟩) (show w.heap.size ≤ w.heap.size + 1 + 1 by omega) _).setCell (p := ⟨w.heap.size + 1 + 1, 2, none⟩) (show w.heap.size ≤ w.heap.size + 1 + 1 by omega) _).setCell (p := ⟨w.heap.size + 1 + 1, 3, none⟩) (show w.heap.size ≤ w.heap.size + 1 + 1 by omega) _).setCell (p := ⟨w.heap.size + 1 + 1, 4, none⟩) (show w.heap.size ≤ w.heap.size + 1 + 1 by omega) _).setCell (p := ⟨w.heap.size + 1 + 1, 5, none⟩) (show w.heap.size ≤ w.heap.size + 1 + 1 by omega) _).setCell (p := ⟨w.heap.size + 1 + 1, 6, none⟩) (show w.heap.size ≤ w.heap.size + 1 + 1 by omega) _).setCell (p := ⟨w.heap.size + 1 + 1, 7, none⟩) (show w.heap.size ≤ w.heap.size + 1 + 1 by omega) _).setCell (p := ⟨w.heap.size + 1 + 1 + 1, 0, none⟩) (show w.heap.size ≤ w.heap.size + 1 + 1 + 1 by omega) _)
  rw [← hX]
  clear hX r0 r1 r2 r3 r4 r5 r6 r7 r8
  refine ⟨by simp, .inl ⟨_, _, rfl, run_takeDeferred xK, ?_⟩⟩
  have y0 := cell_kept (x4.cell 0) (grownBy_putObj' _ D (.deferred none)) (fun r e => by cases e; exact ⟨_, xK, rfl⟩)
  have y1 := cell_kept (x4.cell 1) (grownBy_putObj' _ D (.deferred none)) (fun r e => by cases e; exact ⟨_, xK, rfl⟩)
  have y2 := cell_kept (x4.cell 2) (grownBy_putObj' _ D (.deferred none)) (fun r e => by cases e; exact ⟨_, xK, rfl⟩)
  have y3 := cell_kept (x4.cell 3) (grownBy_putObj' _ D (.deferred none)) (fun r e => by cases e; exact ⟨_, xK, rfl⟩)
  have y4 := cell_kept (x4.cell 4) (grownBy_putObj' _ D (.deferred none)) (fun r e => by cases e; exact ⟨_, xK, rfl⟩)
  have y5 := cell_kept (x4.cell 5) (grownBy_putObj' _ D (.deferred none)) (fun r e => by cases e; exact ⟨_, xK, rfl⟩)
  have y6 := cell_kept (x4.cell 6) (grownBy_putObj' _ D (.deferred none)) (fun r e => by cases e; exact ⟨_, xK, rfl⟩)
  have y7 := cell_kept (x4.cell 7) (grownBy_putObj' _ D (.deferred none)) (fun r e => by cases e; exact ⟨_, xK, rfl⟩)
  have y8 := cell_kept x5.cell (grownBy_putObj' _ D (.deferred none)) (fun r e => by cases e; exact ⟨_, xK, rfl⟩)
  refine ⟨.tuple #[.agg #[.string L, .slice E0 m0 d0, .string S, .string R, .slice E1 m1 d1, .slice E2 m2 d2, .slice E3 m3 d3, .string G], .bool false], ?_, ?_, xB.trans (belowK_b (w := w) (Nat.le_refl _) _ D _ _ (by omega) xK rfl rfl)⟩
  · simp [results, Tryz.f100, go_sem, hu44, y0, y1, y2, y3, y4, y5, y6, y7, y8]
  · rw [max_none l L S R HP.out]
 case stop =>
  rintro D c pre W hD hpre ⟨⟨x, ⟨rfl, pr, k, rfl, hn, hk⟩, x4, x5⟩, xB⟩ xK
  replace x4 : Blk W (w.heap.size + 1 + 1) #[.string (fillP x (L, S, R)).1, .slice E0 m0 d0, .string (fillP x (L, S, R)).2.1, .string (fillP x (L, S, R)).2.2, .slice E1 m1 d1, .slice E2 m2 d2, .slice E3 m3 d3, .string G] 33 := x4
  replace x5 : Boxed W (w.heap.size + 1 + 1 + 1) 4 (.bool true) := x5
  gi_wp2
  refine ⟨by simp, .inl ⟨_, _, rfl, run_takeDeferred xK, ?_⟩⟩
  have y0 := cell_kept (x4.cell 0) (grownBy_putObj' _ D (.deferred none)) (fun r e => by cases e; exact ⟨_, xK, rfl⟩)
  have y1 := cell_kept (x4.cell 1) (grownBy_putObj' _ D (.deferred none)) (fun r e => by cases e; exact ⟨_, xK, rfl⟩)
  have y2 := cell_kept (x4.cell 2) (grownBy_putObj' _ D (.deferred none)) (fun r e => by cases e; exact ⟨_, xK, rfl⟩)
  have y3 := cell_kept (x4.cell 3) (grownBy_putObj' _ D (.deferred none)) (fun r e => by cases e; exact ⟨_, xK, rfl⟩)
  have y4 := cell_kept (x4.cell 4) (grownBy_putObj' _ D (.deferred none)) (fun r e => by cases e; exact ⟨_, xK, rfl⟩)
  have y5 := cell_kept (x4.cell 5) (grownBy_putObj' _ D (.deferred none)) (fun r e => by cases e; exact ⟨_, xK, rfl⟩)
  have y6 := cell_kept (x4.cell 6) (grownBy_putObj' _ D (.deferred none)) (fun r e => by cases e; exact ⟨_, xK, rfl⟩)
  have y7 := cell_kept (x4.cell 7) (grownBy_putObj' _ D (.deferred none)) (fun r e => by cases e; exact ⟨_, xK, rfl⟩)
  have y8 := cell_kept x5.cell (grownBy_putObj' _ D (.deferred none)) (fun r e => by cases e; exact ⟨_, xK, rfl⟩)
  refine ⟨.tuple #[.agg #[.string (fillP x (L, S, R)).1, .slice E0 m0 d0, .string (fillP x (L, S, R)).2.1, .string (fillP x (L, S, R)).2.2, .slice E1 m1 d1, .slice E2 m2 d2, .slice E3 m3 d3, .string G], .bool true], ?_, ?_, xB.trans (belowK_b (w := w) (Nat.le_refl _) _ D _ _ (by omega) xK rfl rfl)⟩
  · simp [results, Tryz.f100, go_sem, hu44, y0, y1, y2, y3, y4, y5, y6, y7, y8]
  · rw [max_some l L S R pr k x hpre hn hk]
end Go.Proofs.YtpmcfckechjppaaGreatDoor.LikW
namespace Go.Proofs.YtpmcfckechjppaaGreatDoor.LikW
open Go.RowKit Go.Proofs.YtpmcfckechjppaaGreatDoorW.PrintWords Go.Proofs.YtpmcfckechjppaaGreatDoorW.PrintLast Go.Proofs.YtpmcfckechjppaaGreatDoor.P
set_option linter.unusedVariables false
set_option linter.unusedSimpArgs false
set_option maxRecDepth 100000
set_option maxHeartbeats 8000000
def plP (l : List S66) (t : K3) : K3 := (maxP l t).1
theorem places_calls (A0 : Option Addr) (n0 c0 : Nat) (A1 : Option Addr) (c1 : Nat) (l : List S66) (A2 : Option Addr) (n2 c2 : Nat) (A3 : Option Addr) (n3 c3 : Nat) (p q : Int)
 (L S R G : ByteArray) (E0 : Option Addr) (m0 d0 : Nat) (E1 : Option Addr) (m1 d1 : Nat) (E2 : Option Addr) (m2 d2 : Nat) (E3 : Option Addr) (m3 d3 : Nat) (w : World) (hC : Kd.C k66 w A1 l.length l) :
 Calls Tryz.prog 348 #[.agg #[.slice A0 n0 c0, .slice A1 l.length c1, .slice A2 n2 c2, .slice A3 n3 c3, .int .i64 p, .int .i64 q], .agg #[.string L, .slice E0 m0 d0, .string S, .string R, .slice E1 m1 d1, .slice E2 m2 d2, .slice E3 m3 d3, .string G]] w fun e w' =>
  e = .returned (.agg #[.string (plP l (L, S, R)).1, .string (plP l (L, S, R)).2.1, .string (plP l (L, S, R)).2.2]) ∧ Below w.heap.size w w' := by
 have hu39 := Tryz.underlying51
 have hu44 := Tryz.underlying33
 have hu30 := Tryz.underlying123
 obtain ⟨V, hV⟩ : ∃ V, V = ((w.alloc (.cells #[.slice A0 n0 c0, .slice A1 l.length c1, .slice A2 n2 c2, .slice A3 n3 c3, .int .i64 p, .int .i64 q] 51)).alloc (.cells #[.string L, .slice E0 m0 d0, .string S, .string R, .slice E1 m1 d1, .slice E2 m2 d2, .slice E3 m3 d3, .string G] 33)).alloc (.cells #[.string ⟨#[]⟩, .string ⟨#[]⟩, .string ⟨#[]⟩] 123) := ⟨_, rfl⟩
 have vs : V.heap.size = w.heap.size + 3 := by rw [hV]; simp
 have vT : Blk V (w.heap.size + 1 + 1) #[.string ⟨#[]⟩, .string ⟨#[]⟩, .string ⟨#[]⟩] 123 := by rw [hV]; have := Blk.new ((w.alloc (.cells #[.slice A0 n0 c0, .slice A1 l.length c1, .slice A2 n2 c2, .slice A3 n3 c3, .int .i64 p, .int .i64 q] 51)).alloc (.cells #[.string L, .slice E0 m0 d0, .string S, .string R, .slice E1 m1 d1, .slice E2 m2 d2, .slice E3 m3 d3, .string G] 33)) #[.string ⟨#[]⟩, .string ⟨#[]⟩, .string ⟨#[]⟩] 123; rwa [World.size_alloc, World.size_alloc] at this
 have vB : Below w.heap.size w V := by rw [hV]; repeat (first | exact Below.refl _ _ | apply below_alloc)
 have HC := Aside0.mk (Kd.C_below hC vB)
 have HV := Aside0.mk hV
 have HT := Aside0.mk vT
 have HB := Aside0.mk vB
 clear hC hV vT vB
 go_enter Tryz.func348, Tryz.ntmps348
 go_wp2_with (first | (go_at_call 100; rw [← HV.out]; refine (max_calls A0 n0 c0 A1 c1 l A2 n2 c2 A3 n3 c3 p q L S R G E0 m0 d0 E1 m1 d1 E2 m2 d2 E3 m3 d3 V HC.out).mono ?_; rintro e w1 ⟨rfl, hb⟩; have s1 := hb.size; have T1 := Aside0.mk (HT.out.below (by omega) hb); have B1 := Aside0.mk (HB.out.trans (hb.mono HB.out.size)); clear hb) | ((with_reducible refine gate_dst (N := 5) rfl ?_); refine be 5 #[.string ⟨#[]⟩, .slice none 0 0, .string ⟨#[]⟩, .string ⟨#[]⟩, .slice none 0 0, .slice none 0 0, .slice none 0 0, .string ⟨#[]⟩] 33 ?_; intro gb hg w2 hbox hb; have T2 := Aside0.mk (T1.out.below T1.out.lt hb); have B2 := Aside0.mk (B1.out.trans (hb.mono B1.out.size)); have s2 := hb.size; have sT := T1.out.lt; have hne : w.heap.size + 1 + 1 ≠ gb := (by rw [hg]; omega); have hne2 : gb ≠ w.heap.size + 1 + 1 := (by rw [hg]; omega); have HG := Aside0.mk (show w.heap.size ≤ gb by rw [hg]; omega); have BK := Aside0.mk hbox; obtain ⟨y0, y1, y2, y3, y4, y5, y6, y7⟩ := cz8 hbox; obtain ⟨z0, z1, z2, z3, z4, z5, z6, z7⟩ := fz8 hbox; obtain ⟨x0, x1, x2⟩ := cz3 (show w2.heap[w.heap.size + 1 + 1]? = _ from T2.out); obtain ⟨v0, v1, v2⟩ := fz3 (show w2.heap[w.heap.size + 1 + 1]? = _ from T2.out); clear hb hbox hg))
 refine bodyPost_ret (results_cell_row rfl _ _ (w.heap.size + 1 + 1) 123 #[.string (maxP l (L, S, R)).1.1, .string (maxP l (L, S, R)).1.2.1, .string (maxP l (L, S, R)).1.2.2] (0, 0) _ rfl (bx (blk_put (cs := #[.string (maxP l (L, S, R)).1.1, .string (maxP l (L, S, R)).1.2.1, .string ⟨#[]⟩]) (bx (blk_put (cs := #[.string (maxP l (L, S, R)).1.1, .string ⟨#[]⟩, .string ⟨#[]⟩]) (bx (blk_put (cs := #[.string ⟨#[]⟩, .string ⟨#[]⟩, .string ⟨#[]⟩]) (bx (blk_far (bx (blk_far (bx (blk_far (bx (blk_far (bx (blk_far (bx (blk_far (bx (blk_far (bx (blk_far (bx (T2.out)) hne _)) hne _)) hne _)) hne _)) hne _)) hne _)) hne _)) hne _)) 0 _ rfl)) 1 _ rfl)) 2 _ rfl)) Tryz.underlying123 rfl (by kernel_rfl)) rfl ?_
 exact ⟨rfl, by repeat (first | (with_reducible first | exact B2.out | apply wA | apply wN | apply wD | refine wS ?_ HG.out | refine wS ?_ (by omega)) | exact B2.out)⟩
end Go.Proofs.YtpmcfckechjppaaGreatDoor.LikW
