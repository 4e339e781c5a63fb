/- A call without branches, calls and drawn orders, run by the kernel: what it hands back, and the world that it leaves. -/
import Derived.Test.YtdjbanhoejegjaaDqLikRows
namespace Go.Proofs.Ytdjbanhoejegjaa.LikW
open Go.RowKit Go.Proofs.YtdjbanhoejegjaaW.PrintWords Go.Proofs.YtdjbanhoejegjaaW.PrintLast Go.Proofs.Ytdjbanhoejegjaa.P
set_option linter.unusedVariables false
set_option linter.unusedSimpArgs false

def runL (P : Program) : List Oper → Act → World → Option (Act × World)
  | [], a, w => some (a, w)
  | o :: r, a, w => match o.guard with
    | some _ => none
    | none => match (execOp a.eval o).run P w with
      | .ok (.value v) w' => runL P r (a.put o.dst v) w'
      | .ok .skip w' => runL P r (a.put o.dst undef) w'
      | _ => none
theorem wpList_runL {P : Program} {ops : Array Oper} {Q : Exit → Act → World → Prop} : ∀ (l : List Oper) (a : Act) (w : World) (a' : Act) (w' : World), runL P l a w = some (a', w') → Q .normal a' w' → wpList P ops Q l a w
  | [], a, w, a', w', h, hQ => by
    cases h
    exact wpList_nil hQ
  | o :: r, a, w, a', w', h, hQ => by
    unfold runL at h
    split at h
    · cases h
    · rename_i hg
      split at h
      · rename_i v w1 hr
        refine wpList_plain hg fun K hK => ?_
        unfold Oper.wp
        rw [hr]
        exact hK _ _ (wpList_runL r _ _ a' w' h hQ)
      · rename_i w1 hr
        refine wpList_plain hg fun K hK => ?_
        unfold Oper.wp
        rw [hr]
        exact hK _ _ (wpList_runL r _ _ a' w' h hQ)
      · cases h
def runC (P : Program) : Code → Act → World → Option (Bool × Act × World)
  | .region _ ops false, a, w => (runL P ops.toList a w).map fun x => (false, x)
  | .seq x y, a, w => match runC P x a w with
    | some (false, a', w') => runC P y a' w'
    | r => r
  | .ret, a, w => some (true, a, w)
  | .skip, a, w => some (false, a, w)
  | _, _, _ => none
theorem wp_runC {P : Program} : ∀ (c : Code) (Q : Exit → Act → World → Prop) (a : Act) (w : World) (e : Bool) (a' : Act) (w' : World), runC P c a w = some (e, a', w') → Q (if e = true then .ret else .normal) a' w' → c.wp P Q a w := by
  intro c
  induction c with
  | seq x y hx hy =>
    intro Q a w e a' w' h hQ
    simp only [runC] at h
    refine wp_seq ?_
    cases hr : runC P x a w with
    | none => rw [hr] at h; cases h
    | some r =>
      obtain ⟨e1, a1, w1⟩ := r
      rw [hr] at h
      cases e1 with
      | false => exact hx _ a w false a1 w1 hr (hy Q a1 w1 e a' w' h hQ)
      | true =>
        cases h
        exact hx _ a w true _ _ hr hQ
  | region id ops d =>
    intro Q a w e a' w' h hQ
    cases d with
    | false =>
      simp only [runC, Option.map_eq_some_iff] at h
      obtain ⟨x, hx, hh⟩ := h
      cases hh
      exact wp_region_list (wpList_runL _ _ _ _ _ hx hQ)
    | true => simp [runC] at h
  | ret =>
    intro Q a w e a' w' h hQ
    cases h
    exact wp_ret hQ
  | skip =>
    intro Q a w e a' w' h hQ
    cases h
    exact wp_skip hQ
  | _ =>
    intro Q a w e a' w' h hQ
    simp [runC] at h
theorem calls_run {P : Program} {f : FuncId} {fn : Func} {args : Array Value} {w w' : World} {v : Value} (hf : P.funcs[f]? = some fn) (t : Tmp) (ht : fn.results = #[.tmp t])
    (h : ((fn.body.bind fun c => runC P c { tmps := args ++ Array.replicate (fn.ntmps - args.size) undef, defers := [] } w).map fun x => (x.1, x.2.1.tmps.getD t undef, x.2.1.defers, x.2.2)) = some (true, v, [], w')) :
    Calls P f args w fun e W => e = .returned v ∧ W = w' := by
  rw [Option.map_eq_some_iff] at h
  obtain ⟨⟨e, a', W⟩, hx, hh⟩ := h
  rw [Option.bind_eq_some_iff] at hx
  obtain ⟨c, hc, hx⟩ := hx
  simp only [Prod.mk.injEq] at hh
  obtain ⟨he, hv, hd, hW⟩ := hh
  refine calls_of_wp hf hc (wp_runC c _ _ _ _ _ _ hx ?_)
  rw [he, if_pos rfl]
  exact bodyPost_ret (results_tmp ht _ _ _) hd ⟨by rw [hv], hW⟩
theorem C_blk {α : Type} (d : Kd α) (enc : α → List Value) (hs : ∀ x, (enc x).length = d.sz) (hK : ∀ w x, d.K w x (enc x)) {W : World} {B : Nat} {T : TypeId} {m : Nat × Nat} (xs : List α) (hn : xs.length ≤ 9223372036854775807) (h : W.heap[B]? = some (.cells (xs.flatMap enc).toArray T m)) :
    Kd.C d W (some ⟨B, 0, none⟩) xs.length xs := by
  refine ⟨rfl, hn, fun _ => ⟨_, rfl, fun j p hp => ⟨enc p, hs p, hK W p, fun i u hu => ?_⟩⟩⟩
  have hl : i < d.sz := by rw [← hs p]; exact (List.getElem?_eq_some_iff.1 hu).1
  have hf : ∀ (ys : List α) (j : Nat) (p : α), ys[j]? = some p → (ys.flatMap enc)[j * d.sz + i]? = some u ∨ enc p ≠ enc p ∨ ¬ (enc p)[i]? = some u := by
    intro ys
    induction ys with
    | nil => intro j p hp; simp at hp
    | cons y ys ih =>
      intro j p hp
      cases j with
      | zero =>
        simp only [List.getElem?_cons_zero, Option.some.injEq] at hp
        subst hp
        by_cases hu : (enc y)[i]? = some u
        · left
          rw [List.flatMap_cons, Nat.zero_mul, Nat.zero_add, List.getElem?_append_left (by rw [hs y]; exact hl)]
          exact hu
        · exact .inr (.inr hu)
      | succ j =>
        rw [List.getElem?_cons_succ] at hp
        rcases ih j p hp with h | h
        · left
          rw [List.flatMap_cons, List.getElem?_append_right (by rw [hs y, Nat.succ_mul]; omega), hs y, show (j + 1) * d.sz + i - d.sz = j * d.sz + i by rw [Nat.succ_mul]; omega]
          exact h
        · exact .inr h
  have := (hf xs j p hp).resolve_right (fun h => h.elim (fun h => h rfl) (fun h => h hu))
  rw [show (⟨B, 0, none⟩ : Addr).add (j * d.sz + i) = ⟨B, j * d.sz + i, none⟩ by (simp [Addr.add]; intro a b; rw [a, b]), Go.cell_of_row _ _ _ _ _ _ h]
  simpa using this
def enc66 (x : S66) : List Value := [.string x.f0, .string x.f1, .string x.f2, .string x.f3, .string x.f4, .string x.f5]
def enc69 (x : S69) : List Value := [.string x.f0, .string x.f1]
def enc53 (x : S53) : List Value := [.int .i64 x.f0, .int .i64 x.f1, .bool x.f2, .string x.f3.f0, .string x.f3.f1, .string x.f3.f2, .string x.f4.f0, .string x.f4.f1, .string x.f4.f2]
theorem C66 {W : World} {B : Nat} {T : TypeId} {m : Nat × Nat} (xs : List S66) (hn : xs.length ≤ 9223372036854775807) (h : W.heap[B]? = some (.cells (xs.flatMap enc66).toArray T m)) : Kd.C k66 W (some ⟨B, 0, none⟩) xs.length xs := C_blk k66 enc66 (fun _ => rfl) (fun w x => k66_mk w x) xs hn h
theorem C69 {W : World} {B : Nat} {T : TypeId} {m : Nat × Nat} (xs : List S69) (hn : xs.length ≤ 9223372036854775807) (h : W.heap[B]? = some (.cells (xs.flatMap enc69).toArray T m)) : Kd.C k69 W (some ⟨B, 0, none⟩) xs.length xs := C_blk k69 enc69 (fun _ => rfl) (fun w x => k69_mk w x) xs hn h
theorem C53 {W : World} {B : Nat} {T : TypeId} {m : Nat × Nat} (xs : List S53) (hn : xs.length ≤ 9223372036854775807) (h : W.heap[B]? = some (.cells (xs.flatMap enc53).toArray T m)) : Kd.C k53 W (some ⟨B, 0, none⟩) xs.length xs := C_blk k53 enc53 (fun _ => rfl) (fun w x => k53_mk w x) xs hn h
theorem C_same {α : Type} {d : Kd α} (hf : ∀ {w w' : World} {x : α} {c : List Value}, d.K w x c → d.K w' x c) {W W' : World} {A : Option Addr} {n : Nat} {xs : List α} (h : Kd.C d W A n xs) (hs : ∀ a, A = some a → W'.heap[a.block]? = W.heap[a.block]?) : Kd.C d W' A n xs := by
  refine ⟨h.1, h.2.1, fun hn => ?_⟩
  obtain ⟨ad, e, hc⟩ := h.2.2 hn
  refine ⟨ad, e, fun j p hp => ?_⟩
  obtain ⟨c, h1, h2, h3⟩ := hc j p hp
  refine ⟨c, h1, hf h2, fun i u hu => ?_⟩
  have hb : (ad.add (j * d.sz + i)).block = ad.block := by unfold Addr.add; split <;> rfl
  rw [World.cell?_of_block (w := W) (by rw [hb]; exact hs ad e)]
  exact h3 i u hu
theorem C_blt {α : Type} {d : Kd α} {W : World} {B n : Nat} {xs : List α} (h : Kd.C d W (some ⟨B, 0, none⟩) n xs) (hn : 0 < n) (hz : 0 < d.sz := by decide) : B < W.heap.size := by
  obtain ⟨ad, e, hc⟩ := h.2.2 hn
  cases e
  have hl : 0 < xs.length := by rw [h.1]; exact hn
  obtain ⟨c, h1, h2, h3⟩ := hc 0 xs[0] (by simp)
  have := World.block_lt_of_cell? W _ (h3 0 c[0] (by rw [List.getElem?_eq_getElem]))
  simpa [Addr.add] using this
theorem flat66 {w w' : World} {x : S66} {c : List Value} (h : k66.K w x c) : k66.K w' x c := by rw [k66_open h]; exact k66_mk w' x
theorem flat53 {w w' : World} {x : S53} {c : List Value} (h : k53.K w x c) : k53.K w' x c := by rw [k53_open h]; exact k53_mk w' x
theorem flat69 {w w' : World} {x : S69} {c : List Value} (h : k69.K w x c) : k69.K w' x c := by rw [k69_open h]; exact k69_mk w' x
theorem set_heap (W : World) (g i : Nat) (v : Value) (k : Nat) (h : k ≠ g) : (W.setCell ⟨g, i, none⟩ v).heap[k]? = W.heap[k]? := by
  simp only [World.setCell, Array.getElem?_modify]
  rw [if_neg (fun e => h e.symm)]
end Go.Proofs.Ytdjbanhoejegjaa.LikW
