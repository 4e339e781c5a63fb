/- likely.Ladder's iterator: for every loop body; what it hands out. -/
import Derived.Test.YtdjbanhoejegjaaDqLikRows
import Derived.RangeFuncNested
import Derived.RangeFuncBound
import Derived.RangeFuncCalls
import Derived.RangeFuncLeaves
import Derived.Shelf.Abstract
import Derived.Shelf.RegionOpen
import Derived.OwnWalkIn
import Derived.TacticsInMore
import Derived.LoopNIn
import Derived.LoopIn
import Derived.Maps.OwnIn
import Derived.Sort.CutIn
namespace Go.Proofs.Ytdjbanhoejegjaa.LikW
open Go.RowKit Go.Shelf Go.Proofs.YtdjbanhoejegjaaW.PrintWords Go.Proofs.YtdjbanhoejegjaaW.PrintLast Go.Proofs.Ytdjbanhoejegjaa.P
attribute [local go_sem] Oper.semAt_some
set_option linter.unusedVariables false
set_option linter.unusedSimpArgs false

def undB : ByteArray := ⟨#[117, 110, 100]⟩
def empS : ByteArray := ⟨#[]⟩
def fiveL (l s r : ByteArray) : List K3 := [(l, s, r), (l, empS, r), (l, s, empS), (l, empS, empS), (undB, s, empS)]
def stepL (l : ByteArray) (pre : List K3) (x : K3) : List K3 := if (pre.any fun y => decide (x = y)) = true then pre else if x.1 = l then pre ++ [x] else if x.2.1 = empS then pre else pre ++ [x]
def preL (l s r : ByteArray) (k : Nat) : List K3 := ((fiveL l s r).take k).foldl (stepL l) []
def ladL (l s r : ByteArray) : List K3 := if l = empS then [] else preL l s r 5
def Kp (W W' : World) : Prop := W.heap.size ≤ W'.heap.size ∧ ∀ (k : Nat) (o : Obj), W.heap[k]? = some o → o.isCells = true ∨ o.isWalk = true → W'.heap[k]? = some o
theorem Kp.refl (W : World) : Kp W W := ⟨Nat.le_refl _, fun _ _ h _ => h⟩
theorem Kp.trans {A B C : World} (h : Kp A B) (k : Kp B C) : Kp A C := ⟨Nat.le_trans h.1 k.1, fun i o hi ho => k.2 i o (h.2 i o hi ho) ho⟩
theorem Kp.put (W : World) (l : Nat) (o o' : Obj) (hl : W.heap[l]? = some o) (h1 : o.isCells = false) (h2 : o.isWalk = false) : Kp W (W.putObj l o') := by
 refine ⟨by simp, fun k o2 hk ho => ?_⟩
 rw [World.putObj_heap_other ?_]
 · exact hk
 · rintro rfl
   rw [hl] at hk
   cases hk
   rw [h1, h2] at ho
   rcases ho with h | h <;> cases h
theorem Kp.cell {W W' : World} (h : Kp W W') {a : Addr} {v : Value} (hc : W.cell? a = some v) : W'.cell? a = some v := by
 obtain ⟨o, ho, hcl⟩ := cells_of_cell hc
 rw [← hc]
 exact World.cell?_of_block (w := W) ((h.2 _ _ ho (.inl hcl)).trans ho.symm)
theorem Kp.map {W W' : World} (h : Kp W W') {b : Nat} {ps : List (K3 × Value)} (hm : MapIs W b ps) : MapIs W' b ps := by
 obtain ⟨l, c, e, hb⟩ := hm
 exact ⟨l, c, e, h.2 _ _ hb (.inr rfl)⟩
theorem MapIs.walk {W : World} {b : Nat} {ps : List (K3 × Value)} (h : MapIs W b ps) : ∃ o : Obj, W.heap[b]? = some o ∧ o.isWalk = true := by
 obtain ⟨l, c, _, hb⟩ := h
 exact ⟨_, hb, rfl⟩
def Kc (W W' : World) : Prop := W.heap.size ≤ W'.heap.size ∧ ∀ (k : Nat) (o : Obj), W.heap[k]? = some o → o.isCells = true → W'.heap[k]? = some o
theorem Kc.refl (W : World) : Kc W W := ⟨Nat.le_refl _, fun _ _ h _ => h⟩
theorem Kc.trans {A B C : World} (h : Kc A B) (k : Kc B C) : Kc A C := ⟨Nat.le_trans h.1 k.1, fun i o hi ho => k.2 i o (h.2 i o hi ho) ho⟩
theorem Kc.cell {W W' : World} (h : Kc W W') {a : Addr} {v : Value} (hc : W.cell? a = some v) : W'.cell? a = some v := by
 obtain ⟨o, ho, hcl⟩ := cells_of_cell hc
 rw [← hc]
 exact World.cell?_of_block (w := W) ((h.2 _ _ ho hcl).trans ho.symm)
theorem Kp.kc {W W' : World} (h : Kp W W') : Kc W W' := ⟨h.1, fun k o hk ho => h.2 k o hk (.inl ho)⟩
theorem Kp.alloc (W : World) (o : Obj) : Kp W (W.alloc o) := ⟨(below_alloc (Below.refl W.heap.size W) o).size, fun k _ hk _ => ((below_alloc (Below.refl _ W) o).block k (Array.getElem?_eq_some_iff.1 hk).1).trans hk⟩
theorem Kc.grown {W W' : World} {b : Nat} {ps : List (K3 × Value)} (hm : MapIs W b ps) (hg : W.grownBy W' (some b)) : Kc W W' := by
 obtain ⟨l, c, _, hb⟩ := hm
 refine ⟨hg.size, fun k o hk ho => (hg.block k (Array.getElem?_eq_some_iff.1 hk).1 ?_).trans hk⟩
 rintro e
 obtain rfl := Option.some.inj e
 rw [hb] at hk
 cases hk
 cases ho
section
variable {F : Fence} {n : Nat} {ops : Array Oper} {rest : List Oper} {o : Oper} {a : Act} {w : World} {Q : Exit → Act → World → Prop}
theorem wpListIn_look (hro : F.round = none) (hg : o.guard = none) (m x : Operand) (T E : TypeId) (ok : Bool) (hop : o.op = Op.lookup T m x ok) (hT : Try.prog.underlying T = some (.map 30 E)) (b : Nat) (hm : a.eval m = .map (some b)) (ps : List (K3 × Value)) (hM : MapIs w b ps) (k : K3) (hx : a.eval x = keyV k)
 (z : Value) (hz : (zeroValue E).run Try.prog w = .ok z w) (h : wpListIn F n Try.prog ops Q rest (a.put o.dst (if ok = true then .tuple #[(findP k ps).getD z, .bool (findP k ps).isSome] else (findP k ps).getD z)) w) : wpListIn F n Try.prog ops Q (o :: rest) a w := by
 refine wpListIn_plain hg fun K' hK' => ⟨fun f hf => ?_, ?_⟩
 · simp [Oper.about, hop] at hf
 · rw [hro]
   have hrun := run_look hM k hT hz ok
   have e : (o.semAt none a.eval).run Try.prog w = .ok (.value (if ok = true then .tuple #[(findP k ps).getD z, .bool (findP k ps).isSome] else (findP k ps).getD z)) w := by
    unfold Oper.semAt execOp
    simp only [hop, hm, hx, Sem.run_bind, Sem.run_pure, Result.andThen_ok, hrun]
   rw [e]
   exact hK' _ _ h
theorem wpListIn_upd (hro : F.round = none) (hg : o.guard = none) (m x v : Operand) (T E : TypeId) (hop : o.op = Op.mapUpdate T m x v) (hT : Try.prog.underlying T = some (.map 30 E)) (b : Nat) (hm : a.eval m = .map (some b)) (ps : List (K3 × Value)) (hM : MapIs w b ps) (k : K3) (hx : a.eval x = keyV k) (u : Value) (hv : a.eval v = u)
 (hn : findP k ps = none) (h : ∀ w', MapIs w' b (ps ++ [(k, u)]) → w.grownBy w' (some b) → wpListIn F n Try.prog ops Q rest (a.put o.dst undef) w') : wpListIn F n Try.prog ops Q (o :: rest) a w := by
 obtain ⟨w', hrun, h1, h2⟩ := run_upd hM k u hT hn
 refine wpListIn_plain hg fun K' hK' => ⟨fun f hf => ?_, ?_⟩
 · simp [Oper.about, hop] at hf
 · rw [hro]
   have e : (o.semAt none a.eval).run Try.prog w = .ok .skip w' := by
    unfold Oper.semAt execOp
    simp only [hop, hm, hx, hv, Sem.run_bind, Sem.run_pure, Result.andThen_ok, hrun]
   rw [e]
   exact hK' _ _ (h w' h1 h2)
end
def seenP (pre : List K3) : List (K3 × Value) := pre.map fun y => (y, Value.bool true)
theorem find_seen (x : K3) : ∀ pre : List K3, findP x (seenP pre) = if (pre.any fun y => decide (x = y)) = true then some (.bool true) else none
 | [] => rfl
 | y :: pre => by
  have ih := find_seen x pre
  unfold seenP at ih ⊢
  rw [List.map_cons, findP_cons, ih, List.any_cons]
  by_cases h : x = y
  · rw [if_pos h, decide_eq_true h]; rfl
  · rw [if_neg h, decide_eq_false h]; rfl
theorem preL_succ (l s r : ByteArray) (k : Nat) (hk : k < 5) : preL l s r (k + 1) = stepL l (preL l s r k) ((fiveL l s r)[k]'hk) := by
 unfold preL
 rw [List.take_succ_eq_append_getElem hk, List.foldl_append]
 rfl
theorem stepL_pre (l : ByteArray) (pre : List K3) (x : K3) : pre <+: stepL l pre x := by
 unfold stepL
 (repeat' split) <;> first | exact List.prefix_refl _ | exact List.prefix_append _ _
theorem preL_pre (l s r : ByteArray) : ∀ (d k : Nat), k + d = 5 → preL l s r k <+: preL l s r 5
 | 0, k, h => by obtain rfl : k = 5 := by omega
                 exact List.prefix_refl _
 | d + 1, k, h => by
  have ih := preL_pre l s r d (k + 1) (by omega)
  rw [preL_succ l s r k (by omega)] at ih
  exact (stepL_pre _ _ _).trans ih
theorem preL_len (l s r : ByteArray) : ∀ k, k ≤ 5 → (preL l s r k).length ≤ k
 | 0, _ => by simp [preL]
 | k + 1, h => by
  have ih := preL_len l s r k (by omega)
  rw [preL_succ l s r k (by omega)]
  unfold stepL
  (repeat' split) <;> first | omega | (rw [List.length_append]; simp; omega)
theorem zero_bool (W : World) : (zeroValue 4).run Try.prog W = .ok (.bool false) W := by kernel_rfl
set_option maxRecDepth 100000 in
set_option maxHeartbeats 4000000 in
theorem lad1_in (F : Fence) (n : Nat) (hf : F.fn 66) (hro : F.round = none) (hn : 1 ≤ n) (y Bt : Nat) (l s r : ByteArray) (J Jx : List K3 → World → Prop) (W : World)
 (hJ : AbidesFrom W.heap.size J) (hJx : AbidesFrom W.heap.size Jx)
 (hY : ∀ pre x W1, J pre W1 → pre.length < 5 → YieldAt F (n - 1) Try.prog y #[keyV x] W1 fun e W' =>
  (e = .returned (.bool true) ∧ J (pre ++ [x]) W' ∧ Kp W1 W') ∨ (e = .returned (.bool false) ∧ Jx (pre ++ [x]) W'))
 (z0 : W.cell? ⟨Bt, 0, none⟩ = some (.string l)) (z2 : W.cell? ⟨Bt, 2, none⟩ = some (.string s)) (z3 : W.cell? ⟨Bt, 3, none⟩ = some (.string r)) (h0 : J [] W) :
 CallsIn F n Try.prog 66 #[.func (.yield y) #[] #[], .pointer (some ⟨Bt, 0, none⟩)] W fun e W' => (∃ v, e = .returned v) ∧
  ((∃ ys, ys = ladL l s r ∧ J ys W') ∨ (∃ pre, pre <+: ladL l s r ∧ Jx pre W')) := by
 have hu44 := Try.underlying44
 have hu30 := Try.underlying30
 have hm : ∀ W : World, (Instr.makeMap 108 none).run Try.prog W = .ok (.map (some W.heap.size)) (W.alloc (.map #[] 0)) := fun W => run_makeMap_plain W _
 have hBt : Bt < W.heap.size := World.block_lt_of_cell? W _ z0
 refine callsIn_of_wp Try.func66 rfl hf ?_ hro
 simp only [Try.ntmps66, List.size_toArray, List.length_cons, List.length_nil, Nat.reduceAdd, Nat.reduceSub, Array.replicate_succ, Array.replicate_zero, List.push_toArray, List.append_toArray, List.nil_append, List.cons_append]
 by_cases hl : l = empS
 · subst hl
   have e1 : empS.toList.isEmpty = true := by rw [ByteArray.toList_eq]; rfl
   gi_wp2
   refine bodyPost_ret (results_none rfl _ _ _) rfl ?_
   exact ⟨⟨_, rfl⟩, .inl ⟨[], by unfold ladL; rw [if_pos rfl], h0⟩⟩
 · have hne : l.toList.isEmpty = false := by
    rw [List.isEmpty_eq_false_iff]
    intro e
    apply hl
    rw [ByteArray.toList_eq] at e
    exact ByteArray.ext (Array.toList_inj.1 (by rw [e]; rfl))
   gi_wp2
   obtain ⟨W2, hW2⟩ : ∃ W2, W2 = ((W.alloc (.map #[] 0)).alloc (.cells #[.string l, .string s, .string r, .string l, .string ⟨#[]⟩, .string r, .string l, .string s, .string ⟨#[]⟩, .string l, .string ⟨#[]⟩, .string ⟨#[]⟩, .string ⟨#[117, 110, 100]⟩, .string s, .string ⟨#[]⟩] 30)) := ⟨_, rfl⟩
   rw [← hW2]
   have M2 : MapIs W2 W.heap.size (seenP (preL l s r 0)) := ⟨[], 0, rfl, by
    have h1 : (W.alloc (.map #[] 0)).heap[W.heap.size]? = some (.map #[] 0) := World.alloc_heap_new W _
    rw [hW2]
    exact ((below_alloc (Below.refl _ _) _).block _ (Array.getElem?_eq_some_iff.1 h1).1).trans h1⟩
   have C2 : W2.heap[W.heap.size + 1]? = some (.cells #[.string l, .string s, .string r, .string l, .string ⟨#[]⟩, .string r, .string l, .string s, .string ⟨#[]⟩, .string l, .string ⟨#[]⟩, .string ⟨#[]⟩, .string ⟨#[117, 110, 100]⟩, .string s, .string ⟨#[]⟩] 30 (0, 0)) := by
    rw [hW2]
    have := World.alloc_heap_new (W.alloc (.map #[] 0)) (.cells #[.string l, .string s, .string r, .string l, .string ⟨#[]⟩, .string r, .string l, .string s, .string ⟨#[]⟩, .string l, .string ⟨#[]⟩, .string ⟨#[]⟩, .string ⟨#[117, 110, 100]⟩, .string s, .string ⟨#[]⟩] 30)
    simpa using this
   have J2 : J (preL l s r 0) W2 := by
    rw [hW2]
    exact hJ _ _ _ none (hJ _ _ _ none h0 (World.grownBy_alloc _ _ none) (fun r e => by cases e)) (World.grownBy_alloc _ _ none) (fun r e => by cases e)
   have cells : ∀ k, k < 5 → W2.cell? ⟨W.heap.size + 1, k * 3, none⟩ = some (.string ((fiveL l s r).getD k default).1) ∧ W2.cell? ⟨W.heap.size + 1, k * 3 + 1, none⟩ = some (.string ((fiveL l s r).getD k default).2.1) ∧ W2.cell? ⟨W.heap.size + 1, k * 3 + 2, none⟩ = some (.string ((fiveL l s r).getD k default).2.2) := by
    intro k hk
    match k, hk with
    | 0, _ => exact ⟨(blk_cell C2 0).trans rfl, (blk_cell C2 1).trans rfl, (blk_cell C2 2).trans rfl⟩
    | 1, _ => exact ⟨(blk_cell C2 3).trans rfl, (blk_cell C2 4).trans rfl, (blk_cell C2 5).trans rfl⟩
    | 2, _ => exact ⟨(blk_cell C2 6).trans rfl, (blk_cell C2 7).trans rfl, (blk_cell C2 8).trans rfl⟩
    | 3, _ => exact ⟨(blk_cell C2 9).trans rfl, (blk_cell C2 10).trans rfl, (blk_cell C2 11).trans rfl⟩
    | 4, _ => exact ⟨(blk_cell C2 12).trans rfl, (blk_cell C2 13).trans rfl, (blk_cell C2 14).trans rfl⟩
    | k + 5, h => omega
   have HZ : Aside0 (W2.cell? ⟨Bt, 0, none⟩ = some (.string l)) := ⟨by rw [hW2]; exact ((below_alloc (below_alloc (Below.refl _ _) _) _ : Below W.heap.size W _).cell (p := ⟨Bt, 0, none⟩) hBt).trans z0⟩
   have S2 : W.heap.size + 1 < W2.heap.size := (Array.getElem?_eq_some_iff.1 C2).1
   have HCE := Aside0.mk cells
   clear hW2 C2 z0 z2 z3 cells
   gi_loopw [35] (fun i wr => ∃ k : Nat, k ≤ 5 ∧ i = .int .i64 (k : Int) ∧ Aside0 (J (preL l s r k) wr) ∧ Aside0 (MapIs wr W.heap.size (seenP (preL l s r k))) ∧ Aside0 (Kc W2 wr)) (fun i _ => 5 - (intOf i).toNat)
   case atStart => exact ⟨0, Nat.zero_le _, rfl, ⟨J2⟩, ⟨M2⟩, ⟨Kc.refl _⟩⟩
   case round =>
    clear M2 J2
    obtain ⟨k, hk, rfl, HJ, HM, HK⟩ := hrel
    by_cases hlt : k < 5
    · obtain ⟨x, hx⟩ : ∃ x, x = (fiveL l s r)[k]'hlt := ⟨_, rfl⟩
      have hxd : (fiveL l s r).getD k default = x := by rw [hx]; simp [List.getD_eq_getElem?_getD, List.getElem?_eq_getElem (show k < (fiveL l s r).length from hlt)]; rfl
      obtain ⟨y0, y1, y2⟩ := HCE.out k hlt
      rw [hxd] at y0 y1 y2
      replace y0 := HK.out.cell y0
      replace y1 := HK.out.cell y1
      replace y2 := HK.out.cell y2
      have zl := HK.out.cell HZ.out
      have hs := preL_succ l s r k hlt
      rw [← hx] at hs
      have HS := Aside0.mk hs
      have sz : W.heap.size + 1 < wr.heap.size := Nat.lt_of_lt_of_le S2 HK.out.1
      have hf := find_seen x (preL l s r k)
      clear hx hxd hs
      have bl : Bt < wr.heap.size := by omega
      have AJ := Aside0.mk hJ
      have AX := Aside0.mk hJx
      have AY := Aside0.mk hY
      clear hJ hJx hY
      have hmx : (0 : Int) ≤ (k : Int) := by omega
      have d1 : decide ((k : Int) < 5) = true := decide_eq_true (by omega)
      have S2' := Aside0.mk S2
      clear S2 hne hk
      have HL := Aside0.mk hl
      clear hl
      by_cases hin : ((preL l s r k).any fun y => decide (x = y)) = true
      · rw [if_pos hin] at hf
        have hs : preL l s r (k + 1) = preL l s r k := by rw [HS.out]; unfold stepL; rw [if_pos hin]
        have HS2 := Aside0.mk hs
        have HN := Aside0.mk hf
        clear hf hs hin HS
        gi_wp2_with (gi_at_lookup; refine wpListIn_look hro rfl _ _ 108 4 false rfl Try.underlying108 W.heap.size rfl (seenP (preL l s r k)) ?hM x rfl _ (zero_bool _) ?_; (case hM => exact HM.out.below (by repeat (first | exact Below.refl _ _ | apply below_alloc))); rw [HN.out]; simp only [Option.getD_some, Option.getD_none, Bool.false_eq_true, if_false])
        go_roundw
        case rel => exact ⟨k + 1, by omega, by simp, ⟨by rw [HS2.out]; exact AJ.out _ _ _ none HJ.out (World.grownBy_alloc _ _ none) (fun r e => by cases e)⟩, ⟨by rw [HS2.out]; exact HM.out.below (below_alloc (Below.refl _ _) _)⟩, ⟨HK.out.trans (Kp.alloc _ _).kc⟩⟩
        case measure => simp [intOf]; omega
      rw [if_neg hin] at hf
      have HN := Aside0.mk hf
      clear hf
      by_cases hxl : x.1 = l
      · have hs : preL l s r (k + 1) = preL l s r k ++ [x] := by rw [HS.out]; unfold stepL; rw [if_neg hin, if_pos hxl]
        have HS2 := Aside0.mk hs
        have t1 : (x.1.toList != l.toList) = false := by rw [hxl]; exact bne_self_eq_false _
        have t1a : (x.1.toList == l.toList) = true := by rw [hxl]; exact beq_self_eq_true _
        have t1b : (x.1.toList = l.toList) = True := eq_true (by rw [hxl])
        clear hs hin HS hxl
        gi_wp2_with (first | (gi_at_lookup; refine wpListIn_look hro rfl _ _ 108 4 false rfl Try.underlying108 W.heap.size rfl (seenP (preL l s r k)) ?hM x rfl _ (zero_bool _) ?_; (case hM => exact HM.out.below (by repeat (first | exact Below.refl _ _ | apply below_alloc))); rw [HN.out]; simp only [Option.getD_some, Option.getD_none, Bool.false_eq_true, if_false]) | (gi_at_mapUpdate; refine wpListIn_upd hro rfl _ _ _ 108 4 rfl Try.underlying108 W.heap.size rfl (seenP (preL l s r k)) ?hM x rfl (.bool true) rfl HN.out ?_; (case hM => exact HM.out.below (by repeat (first | exact Below.refl _ _ | apply below_alloc))); intro w9 hM9 hg9; obtain ⟨fn, tmps, assign, body, hy, hR⟩ := AY.out (preL l s r k) x w9 (AJ.out _ _ _ (some W.heap.size) (AJ.out _ _ _ none HJ.out (World.grownBy_alloc _ _ none) (fun r e => by cases e)) hg9 (fun r e => by cases e; exact ⟨Nat.le_refl _, (HM.out.below (below_alloc (Below.refl _ _) _)).walk⟩)) (by have := preL_len l s r k (by omega); omega); simp only [keyV] at hy; have hK9 := Kc.grown (HM.out.below (below_alloc (Below.refl _ _) _)) hg9; have bN := World.alloc_heap_new wr (.cells #[.string x.1, .string x.2.1, .string x.2.2] 30); have q0 : w9.cell? ⟨wr.heap.size, 0, none⟩ = some (.string x.1) := hK9.cell ((blk_cell bN 0).trans rfl); have q1 : w9.cell? ⟨wr.heap.size, 1, none⟩ = some (.string x.2.1) := hK9.cell ((blk_cell bN 1).trans rfl); have q2 : w9.cell? ⟨wr.heap.size, 2, none⟩ = some (.string x.2.2) := hK9.cell ((blk_cell bN 2).trans rfl); clear hK9 bN; have HM9 := Aside0.mk hM9; have HG9 := Aside0.mk hg9; clear hM9 hg9))
        refine hR.mono ?_
        rintro e W3 (⟨rfl, hJ3, hk3⟩ | ⟨rfl, hJx3⟩)
        · have HJ3 := Aside0.mk hJ3
          have HK3 := Aside0.mk hk3
          clear hJ3 hk3
          gi_wp2
          go_roundw
          case rel => exact ⟨k + 1, by omega, by simp, ⟨by rw [HS2.out]; exact HJ3.out⟩, ⟨by rw [HS2.out]; unfold seenP; rw [List.map_append]; exact HK3.out.map HM9.out⟩, ⟨((HK.out.trans (Kp.alloc _ _).kc).trans (Kc.grown (HM.out.below (below_alloc (Below.refl _ _) _)) HG9.out)).trans HK3.out.kc⟩⟩
          case measure => simp [intOf]; omega
        · have HJ3 := Aside0.mk hJx3
          clear hJx3
          gi_wp2
          refine bodyPost_ret (results_none rfl _ _ _) rfl ?_
          refine ⟨⟨_, rfl⟩, .inr ⟨_, ?_, HJ3.out⟩⟩
          have p := preL_pre l s r (5 - (k + 1)) (k + 1) (by omega)
          rw [HS2.out] at p
          unfold ladL
          rw [if_neg HL.out]
          exact p
      have t1 : (x.1.toList != l.toList) = true := by
       rw [bne_iff_ne]
       intro e
       rw [ByteArray.toList_eq, ByteArray.toList_eq] at e
       exact hxl (ByteArray.ext (Array.toList_inj.1 e))
      have t1a : (x.1.toList == l.toList) = false := by rw [beq_eq_false_iff_ne]; exact bne_iff_ne.1 t1
      have t1b : (x.1.toList = l.toList) = False := eq_false (bne_iff_ne.1 t1)
      by_cases hxe : x.2.1 = empS
      · have hs : preL l s r (k + 1) = preL l s r k := by rw [HS.out]; unfold stepL; rw [if_neg hin, if_neg hxl, if_pos hxe]
        have HS2 := Aside0.mk hs
        have t2 : x.2.1.toList.isEmpty = true := by rw [hxe, ByteArray.toList_eq]; rfl
        clear hs hin HS hxl hxe
        gi_wp2_with (gi_at_lookup; refine wpListIn_look hro rfl _ _ 108 4 false rfl Try.underlying108 W.heap.size rfl (seenP (preL l s r k)) ?hM x rfl _ (zero_bool _) ?_; (case hM => exact HM.out.below (by repeat (first | exact Below.refl _ _ | apply below_alloc))); rw [HN.out]; simp only [Option.getD_some, Option.getD_none, Bool.false_eq_true, if_false])
        go_roundw
        case rel => exact ⟨k + 1, by omega, by simp, ⟨by rw [HS2.out]; exact AJ.out _ _ _ none HJ.out (World.grownBy_alloc _ _ none) (fun r e => by cases e)⟩, ⟨by rw [HS2.out]; exact HM.out.below (below_alloc (Below.refl _ _) _)⟩, ⟨HK.out.trans (Kp.alloc _ _).kc⟩⟩
        case measure => simp [intOf]; omega
      · have hs : preL l s r (k + 1) = preL l s r k ++ [x] := by rw [HS.out]; unfold stepL; rw [if_neg hin, if_neg hxl, if_neg hxe]
        have HS2 := Aside0.mk hs
        have t2 : x.2.1.toList.isEmpty = false := by
         rw [List.isEmpty_eq_false_iff]
         intro e
         rw [ByteArray.toList_eq] at e
         exact hxe (ByteArray.ext (Array.toList_inj.1 (by rw [e]; rfl)))
        clear hs hin HS hxl hxe
        gi_wp2_with (first | (gi_at_lookup; refine wpListIn_look hro rfl _ _ 108 4 false rfl Try.underlying108 W.heap.size rfl (seenP (preL l s r k)) ?hM x rfl _ (zero_bool _) ?_; (case hM => exact HM.out.below (by repeat (first | exact Below.refl _ _ | apply below_alloc))); rw [HN.out]; simp only [Option.getD_some, Option.getD_none, Bool.false_eq_true, if_false]) | (gi_at_mapUpdate; refine wpListIn_upd hro rfl _ _ _ 108 4 rfl Try.underlying108 W.heap.size rfl (seenP (preL l s r k)) ?hM x rfl (.bool true) rfl HN.out ?_; (case hM => exact HM.out.below (by repeat (first | exact Below.refl _ _ | apply below_alloc))); intro w9 hM9 hg9; obtain ⟨fn, tmps, assign, body, hy, hR⟩ := AY.out (preL l s r k) x w9 (AJ.out _ _ _ (some W.heap.size) (AJ.out _ _ _ none HJ.out (World.grownBy_alloc _ _ none) (fun r e => by cases e)) hg9 (fun r e => by cases e; exact ⟨Nat.le_refl _, (HM.out.below (below_alloc (Below.refl _ _) _)).walk⟩)) (by have := preL_len l s r k (by omega); omega); simp only [keyV] at hy; have hK9 := Kc.grown (HM.out.below (below_alloc (Below.refl _ _) _)) hg9; have bN := World.alloc_heap_new wr (.cells #[.string x.1, .string x.2.1, .string x.2.2] 30); have q0 : w9.cell? ⟨wr.heap.size, 0, none⟩ = some (.string x.1) := hK9.cell ((blk_cell bN 0).trans rfl); have q1 : w9.cell? ⟨wr.heap.size, 1, none⟩ = some (.string x.2.1) := hK9.cell ((blk_cell bN 1).trans rfl); have q2 : w9.cell? ⟨wr.heap.size, 2, none⟩ = some (.string x.2.2) := hK9.cell ((blk_cell bN 2).trans rfl); clear hK9 bN; have HM9 := Aside0.mk hM9; have HG9 := Aside0.mk hg9; clear hM9 hg9))
        refine hR.mono ?_
        rintro e W3 (⟨rfl, hJ3, hk3⟩ | ⟨rfl, hJx3⟩)
        · have HJ3 := Aside0.mk hJ3
          have HK3 := Aside0.mk hk3
          clear hJ3 hk3
          gi_wp2
          go_roundw
          case rel => exact ⟨k + 1, by omega, by simp, ⟨by rw [HS2.out]; exact HJ3.out⟩, ⟨by rw [HS2.out]; unfold seenP; rw [List.map_append]; exact HK3.out.map HM9.out⟩, ⟨((HK.out.trans (Kp.alloc _ _).kc).trans (Kc.grown (HM.out.below (below_alloc (Below.refl _ _) _)) HG9.out)).trans HK3.out.kc⟩⟩
          case measure => simp [intOf]; omega
        · have HJ3 := Aside0.mk hJx3
          clear hJx3
          gi_wp2
          refine bodyPost_ret (results_none rfl _ _ _) rfl ?_
          refine ⟨⟨_, rfl⟩, .inr ⟨_, ?_, HJ3.out⟩⟩
          have p := preL_pre l s r (5 - (k + 1)) (k + 1) (by omega)
          rw [HS2.out] at p
          unfold ladL
          rw [if_neg HL.out]
          exact p
    · obtain rfl : k = 5 := by omega
      have d1 : decide (((5 : Nat) : Int) < 5) = false := by decide
      have HL := Aside0.mk hl
      clear hl
      gi_wp2
      go_end0
      exact ⟨⟨_, rfl⟩, .inl ⟨_, by unfold ladL; rw [if_neg HL.out], HJ.out⟩⟩

theorem lad_stops (F : Fence) (n : Nat) (hf : F.fn 66) (hro : F.round = none) (hn : 1 ≤ n) (Bt : Nat) (l s r : ByteArray) (w : World)
 (z0 : w.cell? ⟨Bt, 0, none⟩ = some (.string l)) (z2 : w.cell? ⟨Bt, 2, none⟩ = some (.string s)) (z3 : w.cell? ⟨Bt, 3, none⟩ = some (.string r)) :
 SeqStopsK F n Try.prog 66 #[.pointer (some ⟨Bt, 0, none⟩)] (fun x : K3 => #[keyV x]) Kp (fun ys => ys = ladL l s r) (fun pre => pre <+: ladL l s r) 5 w := fun y J Jx W hW hJ hJx hY h0 => by
 have c : ∀ {a : Addr} {v : Value}, w.cell? a = some v → W.cell? a = some v := fun {a v} h => (hW.cell (World.block_lt_of_cell? w _ h)).trans h
 exact lad1_in F n hf hro hn y Bt l s r J Jx W hJ hJx hY (c z0) (c z2) (c z3) h0
end Go.Proofs.Ytdjbanhoejegjaa.LikW
