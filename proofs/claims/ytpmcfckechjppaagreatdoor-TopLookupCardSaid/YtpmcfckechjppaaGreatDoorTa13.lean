/- Made by a program of this seat's own (shake.py, merge.py): what the claim leans on: Find, Steps, Step, TagP, Heap, HeapW. -/
import Derived.Test.YtpmcfckechjppaaGreatDoorTa11
import Derived.Test.YtpmcfckechjppaaGreatDoorTa12
import Derived.StillTailTactics
import Derived.LoopN
import Derived.Laws.EntriesVeiled
import Derived.Handy
namespace Go.Proofs.YtpmcfckechjppaaGreatDoor.Ps
open Go.RowKit Go.Shelf Go.Proofs.YtpmcfckechjppaaGreatDoorW.PrintWords Go.Proofs.YtpmcfckechjppaaGreatDoorW.PrintLast Go.Proofs.YtpmcfckechjppaaGreatDoorW.PrintMore Go.Proofs.YtpmcfckechjppaaGreatDoor.P Go.Proofs.YtpmcfckechjppaaGreatDoor.LikW
set_option linter.unusedVariables false
set_option linter.unusedSimpArgs false
set_option maxRecDepth 100000
set_option maxHeartbeats 8000000
def aliV (x : S59) : Value := .agg #[.int .i64 x.f0, .string x.f1, .string x.f2, .string x.f3, .string x.f4, .string x.f5]
def ofP (k : Int) : Bool := k == 2 || k == 7
def isP (k : Int) (a b : ByteArray) (x : S59) : Bool := x.f0 == k && (x.f1.toList == a.toList && (x.f2.toList == b.toList || !ofP k))
theorem of_c (k : Int) (w : World) : Calls Tryz.prog 312 #[.int .i64 k] w fun e w' => e = .returned (.bool (ofP k)) ∧ w' = w := by
 cases h2 : (k == 2)
 · cases h7 : (k == 7)
   · go_enter Tryz.func312, Tryz.ntmps312
     go_wp2
     go_ret
     exact ⟨by unfold ofP; rw [h2, h7]; rfl, rfl⟩
   · go_enter Tryz.func312, Tryz.ntmps312
     go_wp2
     go_ret
     exact ⟨by unfold ofP; rw [h2, h7]; rfl, rfl⟩
 · go_enter Tryz.func312, Tryz.ntmps312
   go_wp2
   go_ret
   exact ⟨by unfold ofP; rw [h2]; rfl, rfl⟩
theorem find1_c (x : S59) (k : Int) (a b : ByteArray) (p q r : Nat) (w : World) (hp : w.heap[p]? = some (.cells #[.int .i64 k] 3 (0, 0))) (hq : w.heap[q]? = some (.cells #[.string a] 9 (0, 0))) (hr : w.heap[r]? = some (.cells #[.string b] 9 (0, 0))) :
 Calls Tryz.prog 311 #[aliV x, .pointer (some ⟨p, 0, none⟩), .pointer (some ⟨q, 0, none⟩), .pointer (some ⟨r, 0, none⟩)] w fun e w' => e = .returned (.bool (isP k a b x)) ∧ Below w.heap.size w w' := by
 have hu := Tryz.underlying120
 have z1 : ∀ o, (w.alloc o).cell? ⟨p, 0, none⟩ = some (.int .i64 k) := fun o => (blk_cell (aN hp) 0).trans rfl
 have z2 : ∀ o, (w.alloc o).cell? ⟨q, 0, none⟩ = some (.string a) := fun o => (blk_cell (aN hq) 0).trans rfl
 have z3 : ∀ o, (w.alloc o).cell? ⟨r, 0, none⟩ = some (.string b) := fun o => (blk_cell (aN hr) 0).trans rfl
 clear hp hq hr
 unfold aliV
 cases e0 : (x.f0 == k)
 · go_enter Tryz.func311, Tryz.ntmps311
   go_wp2_with (first
    | (go_at_call 312; refine (of_c k _).mono ?_; rintro e w1 ⟨rfl, rfl⟩))
   go_ret
   exact ⟨by unfold isP; rw [e0]; rfl, below_alloc (Below.refl _ _) _⟩
 cases e1 : (x.f1.toList == a.toList)
 · go_enter Tryz.func311, Tryz.ntmps311
   go_wp2_with (first
    | (go_at_call 312; refine (of_c k _).mono ?_; rintro e w1 ⟨rfl, rfl⟩))
   go_ret
   exact ⟨by unfold isP; rw [e0, e1]; rfl, below_alloc (Below.refl _ _) _⟩
 cases e2 : (x.f2.toList == b.toList)
 · cases e3 : ofP k
   · go_enter Tryz.func311, Tryz.ntmps311
     go_wp2_with (first
      | (go_at_call 312; refine (of_c k _).mono ?_; rintro e w1 ⟨rfl, rfl⟩; rw [e3]))
     go_ret
     exact ⟨by unfold isP; rw [e0, e1, e2, e3]; rfl, below_alloc (Below.refl _ _) _⟩
   · go_enter Tryz.func311, Tryz.ntmps311
     go_wp2_with (first
      | (go_at_call 312; refine (of_c k _).mono ?_; rintro e w1 ⟨rfl, rfl⟩; rw [e3]))
     go_ret
     exact ⟨by unfold isP; rw [e0, e1, e2, e3]; rfl, below_alloc (Below.refl _ _) _⟩
 · go_enter Tryz.func311, Tryz.ntmps311
   go_wp2_with (first
    | (go_at_call 312; refine (of_c k _).mono ?_; rintro e w1 ⟨rfl, rfl⟩))
   go_ret
   exact ⟨by unfold isP; rw [e0, e1, e2]; rfl, below_alloc (Below.refl _ _) _⟩
def idxF (f : S59 → Bool) (l : List S59) : Int := match l.findIdx? f with | some i => (i : Int) | none => -1
theorem findIdx_snoc_none {f : S59 → Bool} : ∀ (l : List S59) (n : Nat), n < l.length → (l.take n).findIdx? f = none → (∀ x, l[n]? = some x → f x = true → l.findIdx? f = some n) ∧ (∀ x, l[n]? = some x → f x = false → (l.take (n + 1)).findIdx? f = none)
 | [], n, hn, _ => by simp at hn
 | y :: l, 0, hn, h => by
  refine ⟨fun x hx hf => ?_, fun x hx hf => ?_⟩
  · cases hx; simp [List.findIdx?_cons, hf]
  · cases hx; simp [List.findIdx?_cons, hf]
 | y :: l, n + 1, hn, h => by
  simp only [List.take_succ_cons, List.findIdx?_cons] at h
  cases hy : f y with
  | true => rw [hy] at h; simp at h
  | false =>
   rw [hy] at h
   simp only [Bool.false_eq_true, if_false, Option.map_eq_none_iff] at h
   obtain ⟨h1, h2⟩ := findIdx_snoc_none l n (by simpa using hn) h
   refine ⟨fun x hx hf => ?_, fun x hx hf => ?_⟩
   · rw [List.findIdx?_cons, hy, h1 x (by simpa using hx) hf]; rfl
   · rw [List.take_succ_cons, List.findIdx?_cons, hy, h2 x (by simpa using hx) hf]; rfl
theorem index_c (A : Option Addr) (c : Nat) (l : List S59) (k : Int) (a b : ByteArray) (p q r : Nat) (w : World) (hC : Kd.C k59 w A l.length l) (hp : w.heap[p]? = some (.cells #[.int .i64 k] 3 (0, 0))) (hq : w.heap[q]? = some (.cells #[.string a] 9 (0, 0))) (hr : w.heap[r]? = some (.cells #[.string b] 9 (0, 0))) :
 Calls Tryz.prog 310 #[.slice A l.length c, .func (.func 311) #[] #[.pointer (some ⟨p, 0, none⟩), .pointer (some ⟨q, 0, none⟩), .pointer (some ⟨r, 0, none⟩)]] w fun e w' => e = .returned (.int .i64 (idxF (isP k a b) l)) ∧ Below w.heap.size w w' := by
 have hu := Tryz.underlying120
 have eg := enters_of Tryz.func311 (by kernel_rfl) rfl
 unfold Enters at eg
 have HC := Aside0.mk hC
 have hmax := Kd.C_max hC
 have HP := Aside0.mk hp
 have HQ := Aside0.mk hq
 have HR := Aside0.mk hr
 clear hC hp hq hr
 go_enter Tryz.func310, Tryz.ntmps310
 go_wp2
 go_loopw [8] (fun vi wr => ∃ i : Nat, vi = .int .i64 (i : Int) ∧ i ≤ l.length ∧ Aside0 ((l.take i).findIdx? (isP k a b) = none) ∧ Aside0 (Below w.heap.size w wr)) (fun vi _ => l.length - (intOf vi).toNat)
 case atStart => exact ⟨0, rfl, Nat.zero_le _, ⟨rfl⟩, ⟨Below.refl _ _⟩⟩
 case round =>
  obtain ⟨i, rfl, hi, HN, HB⟩ := hrel
  by_cases hlt : i < l.length
  · obtain ⟨ad, e, x0, x1, x2, x3, x4, x5⟩ := at_T59 HC.out (i : Int) (by omega) (by omega)
    cases e
    replace x0 := (HB.out.cell (World.block_lt_of_cell? w _ x0)).trans x0
    replace x1 := (HB.out.cell (World.block_lt_of_cell? w _ x1)).trans x1
    replace x2 := (HB.out.cell (World.block_lt_of_cell? w _ x2)).trans x2
    replace x3 := (HB.out.cell (World.block_lt_of_cell? w _ x3)).trans x3
    replace x4 := (HB.out.cell (World.block_lt_of_cell? w _ x4)).trans x4
    replace x5 := (HB.out.cell (World.block_lt_of_cell? w _ x5)).trans x5
    obtain ⟨x, hx⟩ : ∃ x, x = rd_T59 l (i : Int) := ⟨_, rfl⟩
    rw [← hx] at x0 x1 x2 x3 x4 x5
    simp only [Int.toNat_natCast] at x0 x1 x2 x3 x4 x5
    have hx2 : l[i]? = some x := by rw [hx]; simp [rd_T59, List.getD_eq_getElem?_getD, List.getElem?_eq_getElem hlt]
    obtain ⟨n1, n2⟩ := findIdx_snoc_none l i hlt HN.out
    replace n1 := n1 x hx2
    replace n2 := n2 x hx2
    have N1 := Aside0.mk n1
    have N2 := Aside0.mk n2
    clear n1 n2 hx hx2
    have d1 : decide ((i : Int) < (l.length : Int)) = true := decide_eq_true (by omega)
    have m0 : (0 : Int) ≤ (i : Int) := by omega
    have m1 : (i : Int) < (l.length : Int) := by omega
    have m2 : i < l.length := hlt
    cases hv : isP k a b x with
    | true =>
     have HV := Aside0.mk hv
     go_wp2_with (first
      | (refine (find1_c x k a b p q r _ (by exact (HB.out.block _ (lt_blk HP.out)).trans HP.out) (by exact (HB.out.block _ (lt_blk HQ.out)).trans HQ.out) (by exact (HB.out.block _ (lt_blk HR.out)).trans HR.out)).mono ?_; rintro e w1 ⟨rfl, hb⟩; rw [HV.out]))
     go_ret
     exact ⟨by unfold idxF; rw [N1.out HV.out]; rfl, HB.out.trans (hb.mono HB.out.size)⟩
    | false =>
     have HV := Aside0.mk hv
     go_wp2_with (first
      | (refine (find1_c x k a b p q r _ (by exact (HB.out.block _ (lt_blk HP.out)).trans HP.out) (by exact (HB.out.block _ (lt_blk HQ.out)).trans HQ.out) (by exact (HB.out.block _ (lt_blk HR.out)).trans HR.out)).mono ?_; rintro e w1 ⟨rfl, hb⟩; rw [HV.out]))
     go_roundw
     case rel => exact ⟨i + 1, by simp, by omega, ⟨N2.out HV.out⟩, ⟨HB.out.trans (hb.mono HB.out.size)⟩⟩
     case measure => simp [intOf]; omega
  · obtain rfl : i = l.length := by omega
    have d1 : decide ((l.length : Int) < (l.length : Int)) = false := decide_eq_false (by omega)
    go_wp2
    go_ret
    have h := HN.out
    rw [List.take_length] at h
    exact ⟨by unfold idxF; rw [h]; rfl, HB.out⟩
def stA (n : Nat) : Value := .slice (some ⟨n, 0, none⟩) 54 54
def stC (B1 B2 B3 B4 : Nat) (a b c : ByteArray) : Array Value := #[.slice (some ⟨B1, 0, none⟩) 54 54, .slice (some ⟨B2, 0, none⟩) 32 32, .slice (some ⟨B3, 0, none⟩) 15 15, .slice (some ⟨B4, 0, none⟩) 7 7, .int .i64 40, .int .i64 5, .string a, .slice none 0 0, .string b, .string c, .slice none 0 0, .slice none 0 0, .slice none 0 0, .string ⟨#[]⟩]
def foundP (k : Int) (a b : ByteArray) : Int × Bool := (idxF (isP k a b) dAliases, decide (idxF (isP k a b) dAliases ≥ 0) && !a.toList.isEmpty)
theorem find_c (g B1 B2 B3 B4 : Nat) (x y z : ByteArray) (k : Int) (a b : ByteArray) (w : World) (hS : w.heap[g]? = some (.cells (stC B1 B2 B3 B4 x y z) 259 (0, 0))) (hC : Kd.C k59 w (some ⟨B1, 0, none⟩) dAliases.length dAliases) :
 Calls Tryz.prog 276 #[.pointer (some ⟨g, 0, none⟩), .int .i64 k, .string a, .string b] w fun e w' => e = .returned (.tuple #[.int .i64 (foundP k a b).1, .bool (foundP k a b).2]) ∧ Below w.heap.size w w' := by
 have hmf : ∀ (fn : Fn) (first cap : Array Value) (w : World), (Instr.makeFunc fn first cap).run Tryz.prog w = .ok (.func fn first cap) w := fun _ _ _ _ => rfl
 have HS := Aside0.mk hS
 have HC := Aside0.mk hC
 clear hS hC
 obtain ⟨W3, hW3⟩ : ∃ W3, W3 = (((w.alloc (.cells #[.int .i64 k] 3)).alloc (.cells #[.string a] 9)).alloc (.cells #[.string b] 9)) := ⟨_, rfl⟩
 have p3 : W3.heap[w.heap.size]? = some (.cells #[.int .i64 k] 3 (0, 0)) := by rw [hW3]; exact aN (aN (aZ rfl))
 have q3 : W3.heap[w.heap.size + 1]? = some (.cells #[.string a] 9 (0, 0)) := by rw [hW3]; exact aN (aZ (by simp))
 have r3 : W3.heap[w.heap.size + 1 + 1]? = some (.cells #[.string b] 9 (0, 0)) := by rw [hW3]; exact aZ (by simp)
 have B3w : Below w.heap.size w W3 := by rw [hW3]; exact below_alloc (below_alloc (below_alloc (Below.refl _ _) _) _) _
 have s3 : W3.cell? ⟨g, 0, none⟩ = some (stA B1) := by rw [hW3]; exact (blk_cell (aN (aN (aN HS.out))) 0).trans rfl
 unfold stA at s3
 have HW := Aside0.mk hW3
 have Q3 := Aside0.mk q3
 have R3 := Aside0.mk r3
 have P3 := Aside0.mk p3
 have HB := Aside0.mk B3w
 clear hW3 q3 r3 p3 B3w
 go_enter Tryz.func276, Tryz.ntmps276
 go_wp2_with (first
  | (rw [← HW.out])
  | (go_at_call 310; refine (index_c _ 54 dAliases k a b _ _ _ _ (Kd.C_below HC.out HB.out) P3.out Q3.out R3.out).mono ?_; rintro e w4 ⟨rfl, hb⟩; have z5 := (blk_cell ((hb.block _ (lt_blk Q3.out)).trans Q3.out) 0).trans rfl))
 have hb2 := Aside0.mk (HB.out.trans (hb.mono HB.out.size))
 clear hb
 obtain ⟨i, hi⟩ : ∃ i, idxF (isP k a b) dAliases = i := ⟨_, rfl⟩
 have hf : foundP k a b = (i, decide (i ≥ 0) && !a.toList.isEmpty) := by unfold foundP; rw [hi]
 rw [hi]
 have HF := Aside0.mk hf
 clear hi hf
 cases hd : decide (i ≥ 0)
 · go_still (by kernel_rfl)
   go_wp2
   go_ret2
   exact ⟨by rw [HF.out, hd]; first | rfl | simp, (below_drew (hb2.out))⟩
 · go_still (by kernel_rfl)
   go_wp2
   go_ret2
   exact ⟨by rw [HF.out, hd]; first | rfl | simp, (below_drew (hb2.out))⟩
theorem cz14 {W : World} {g : Nat} {t : TypeId} {v0 v1 v2 v3 v4 v5 v6 v7 v8 v9 v10 v11 v12 v13 : Value} (h : W.heap[g]? = some (.cells #[v0, v1, v2, v3, v4, v5, v6, v7, v8, v9, v10, v11, v12, v13] t (0, 0))) : W.cell? ⟨g, 0, none⟩ = some v0 ∧ W.cell? ⟨g, 1, none⟩ = some v1 ∧ W.cell? ⟨g, 2, none⟩ = some v2 ∧ W.cell? ⟨g, 3, none⟩ = some v3 ∧ W.cell? ⟨g, 4, none⟩ = some v4 ∧ W.cell? ⟨g, 5, none⟩ = some v5 ∧ W.cell? ⟨g, 6, none⟩ = some v6 ∧ W.cell? ⟨g, 7, none⟩ = some v7 ∧ W.cell? ⟨g, 8, none⟩ = some v8 ∧ W.cell? ⟨g, 9, none⟩ = some v9 ∧ W.cell? ⟨g, 10, none⟩ = some v10 ∧ W.cell? ⟨g, 11, none⟩ = some v11 ∧ W.cell? ⟨g, 12, none⟩ = some v12 ∧ W.cell? ⟨g, 13, none⟩ = some v13 := ⟨(blk_cell h 0).trans rfl, (blk_cell h 1).trans rfl, (blk_cell h 2).trans rfl, (blk_cell h 3).trans rfl, (blk_cell h 4).trans rfl, (blk_cell h 5).trans rfl, (blk_cell h 6).trans rfl, (blk_cell h 7).trans rfl, (blk_cell h 8).trans rfl, (blk_cell h 9).trans rfl, (blk_cell h 10).trans rfl, (blk_cell h 11).trans rfl, (blk_cell h 12).trans rfl, (blk_cell h 13).trans rfl⟩
theorem fz14 {W : World} {g : Nat} {t : TypeId} {v0 v1 v2 v3 v4 v5 v6 v7 v8 v9 v10 v11 v12 v13 : Value} (h : W.heap[g]? = some (.cells #[v0, v1, v2, v3, v4, v5, v6, v7, v8, v9, v10, v11, v12, v13] t (0, 0))) : W.frozen? ⟨g, 0, none⟩ = false ∧ W.frozen? ⟨g, 1, none⟩ = false ∧ W.frozen? ⟨g, 2, none⟩ = false ∧ W.frozen? ⟨g, 3, none⟩ = false ∧ W.frozen? ⟨g, 4, none⟩ = false ∧ W.frozen? ⟨g, 5, none⟩ = false ∧ W.frozen? ⟨g, 6, none⟩ = false ∧ W.frozen? ⟨g, 7, none⟩ = false ∧ W.frozen? ⟨g, 8, none⟩ = false ∧ W.frozen? ⟨g, 9, none⟩ = false ∧ W.frozen? ⟨g, 10, none⟩ = false ∧ W.frozen? ⟨g, 11, none⟩ = false ∧ W.frozen? ⟨g, 12, none⟩ = false ∧ W.frozen? ⟨g, 13, none⟩ = false := ⟨blk_frozen h 0, blk_frozen h 1, blk_frozen h 2, blk_frozen h 3, blk_frozen h 4, blk_frozen h 5, blk_frozen h 6, blk_frozen h 7, blk_frozen h 8, blk_frozen h 9, blk_frozen h 10, blk_frozen h 11, blk_frozen h 12, blk_frozen h 13⟩
theorem below_set' {n : Nat} {w W : World} {g j : Nat} {v : Value} (h : Below n w W) (hg : n ≤ g) : Below n w (W.setCell ⟨g, j, none⟩ v) := h.setCell hg _
def St (w : World) (g B1 B2 B3 B4 : Nat) (x y z : ByteArray) : Prop := w.heap[g]? = some (.cells (stC B1 B2 B3 B4 x y z) 259 (0, 0))
theorem St.below {w w1 : World} {g B1 B2 B3 B4 : Nat} {x y z : ByteArray} (h : St w g B1 B2 B3 B4 x y z) (hb : Below w.heap.size w w1) : St w1 g B1 B2 B3 B4 x y z := (hb.block _ (lt_blk h)).trans h
theorem named_c (g B1 B2 B3 B4 : Nat) (x y z : ByteArray) (w : World) (hS : St w g B1 B2 B3 B4 x y z) (hC : Kd.C k59 w (some ⟨B1, 0, none⟩) dAliases.length dAliases) (k : Nat) (hG : GrandW.G w) (i : Int) (hl : (Lib.join ((full1 [x, y, z]).map (·.data.toList)) [45]).length ≤ 140737488355328) (hf : grand_Find.f k (joinS (full1 [x, y, z])) = some (i, false)) :
 Calls Tryz.prog 235 #[.pointer (some ⟨g, 0, none⟩)] w fun e w' => (∃ i, e = .returned (.tuple #[.int .i64 i, .bool false])) ∧ Below w.heap.size w w' := by
 have hu := Tryz.underlying259
 have hut := Tryz.underlying33
 have hui := Tryz.underlying51
 have HS := Aside0.mk hS
 have HC := Aside0.mk hC
 obtain ⟨z0, z1, z2, z3, z4, z5, z6, z7, z8, z9, z10, z11, z12, z13⟩ := cz14 hS
 clear hS hC
 have HG := Aside0.mk hG
 have HL := Aside0.mk hl
 have HF := Aside0.mk hf
 clear hG hl hf
 go_enter Tryz.func235, Tryz.ntmps235
 go_wp2_with (first
  | (go_at_call 75; refine (subtags_c x y z _).mono ?_; rintro e w1 ⟨v, rfl, hO, hB⟩; have O_V := Aside0.mk hO; have HB := Aside0.mk hB; clear hO hB)
  | (go_at_call 74; refine (join_c _ v _ _ O_V.out (Nat.le_trans (List.length_filter_le _ _) (by simp)) HL.out).mono ?_; rintro e w2 ⟨rfl, hB⟩; have HB2 := Aside0.mk (HB.out.trans (hB.mono HB.out.size)); clear hB)
  | (go_at_call 61; refine (grand_Find.calls k _ i false _ HF.out (HG.out.below HB2.out)).mono ?_; rintro e w3 ⟨rfl, hB⟩; have HB3 := Aside0.mk (HB2.out.trans (hB.mono HB2.out.size)); obtain ⟨y0, y1, y2, y3, y4, y5, y6, y7, y8, y9, y10, y11, y12, y13⟩ := cz14 (HS.out.below HB3.out); clear hB))
 go_ret2
 exact ⟨⟨_, rfl⟩, HB3.out⟩
theorem extlang_c (g B1 B2 B3 B4 : Nat) (x y z : ByteArray) (w : World) (hS : St w g B1 B2 B3 B4 x y z) (hC : Kd.C k59 w (some ⟨B1, 0, none⟩) dAliases.length dAliases) :
 Calls Tryz.prog 236 #[.pointer (some ⟨g, 0, none⟩)] w fun e w' => (∃ i, e = .returned (.tuple #[.int .i64 i, .bool false])) ∧ Below w.heap.size w w' := by
 have hu := Tryz.underlying259
 have hut := Tryz.underlying33
 have hui := Tryz.underlying51
 have HS := Aside0.mk hS
 have HC := Aside0.mk hC
 obtain ⟨z0, z1, z2, z3, z4, z5, z6, z7, z8, z9, z10, z11, z12, z13⟩ := cz14 hS
 clear hS hC
 go_enter Tryz.func236, Tryz.ntmps236
 go_wp2
 go_ret2
 exact ⟨⟨_, rfl⟩, Below.refl _ _⟩
theorem whole_c (g B1 B2 B3 B4 : Nat) (x y z : ByteArray) (w : World) (hS : St w g B1 B2 B3 B4 x y z) (hC : Kd.C k59 w (some ⟨B1, 0, none⟩) dAliases.length dAliases) (k : Nat) (hG : GrandW.G w) (i : Int) (hf : grand_Find.f k ⟨#[]⟩ = some (i, false)) :
 Calls Tryz.prog 237 #[.pointer (some ⟨g, 0, none⟩)] w fun e w' => (∃ i, e = .returned (.tuple #[.int .i64 i, .bool false])) ∧ Below w.heap.size w w' := by
 have hu := Tryz.underlying259
 have hut := Tryz.underlying33
 have hui := Tryz.underlying51
 have HS := Aside0.mk hS
 have HC := Aside0.mk hC
 obtain ⟨z0, z1, z2, z3, z4, z5, z6, z7, z8, z9, z10, z11, z12, z13⟩ := cz14 hS
 clear hS hC
 have HG := Aside0.mk hG
 have HF := Aside0.mk hf
 clear hG hf
 go_enter Tryz.func237, Tryz.ntmps237
 go_wp2_with (first
  | (go_at_call 61; refine (grand_Find.calls k _ i false _ HF.out HG.out).mono ?_; rintro e w3 ⟨rfl, hB⟩))
 go_ret2
 exact ⟨⟨_, rfl⟩, hB⟩
theorem pair_no (g B1 B2 B3 B4 : Nat) (x y z : ByteArray) (w : World) (hS : St w g B1 B2 B3 B4 x y z) (hC : Kd.C k59 w (some ⟨B1, 0, none⟩) dAliases.length dAliases) (hf : (foundP 2 x z).2 = false) :
 Calls Tryz.prog 238 #[.pointer (some ⟨g, 0, none⟩)] w fun e w' => (∃ i, e = .returned (.tuple #[.int .i64 i, .bool false])) ∧ Below w.heap.size w w' := by
 have hu := Tryz.underlying259
 have hut := Tryz.underlying33
 have hui := Tryz.underlying51
 have HS := Aside0.mk hS
 have HC := Aside0.mk hC
 obtain ⟨z0, z1, z2, z3, z4, z5, z6, z7, z8, z9, z10, z11, z12, z13⟩ := cz14 hS
 clear hS hC
 have HF := Aside0.mk hf
 clear hf
 go_enter Tryz.func238, Tryz.ntmps238
 go_wp2
 refine start_ (n := 17) (S := fun w' => w'.cell? ⟨g, 6, none⟩ = some (.string x) ∧ w'.cell? ⟨g, 9, none⟩ = some (.string z)) (ds := []) (M 17 0) (by kernel_rfl) rfl rfl ⟨z6, z9⟩ (fun hHeld => ?_)
 refine pw 0 7 (M 17 1) ?_
 refine pw 1 8 (M 17 3) ?_
 refine pw 2 9 (M 17 7) ?_
 refine pw 3 10 (M 17 15) ?_
 refine pw 4 11 (M 17 31) ?_
 refine pw 6 13 (M 17 95) ?_
 refine pw 7 14 (M 17 223) ?_
 refine pw 8 15 (M 17 479) ?_
 refine pw 9 16 (M 17 991) ?_
 refine tw 5 12 (M 17 1023) hHeld ?_
 refine tw 10 17 (M 17 2047) hHeld ?_
 refine ow 11 (some 18) (M 17 4095) fun K hK => ?_
 refine gow Tryz.func276 #[.pointer (some ⟨g, 0, none⟩), .int .i64 2, .string x, .string z] ?_
 refine (find_c g B1 B2 B3 B4 x y z 2 x z _ (by exact HS.out) (Kd.C_below HC.out (below_drew (Below.refl _ _)))).mono ?_
 rintro e w1 ⟨rfl, hb⟩
 rw [HF.out]
 have HB1 := Aside0.mk (Below.trans (below_drew (Below.refl w.heap.size w)) hb)
 have K1 := Aside0.mk (HS.out.below HB1.out)
 clear hb
 refine ⟨_, rfl, ?_⟩
 refine hK.out _ _ ⟨(blk_cell K1.out 6).trans rfl, (blk_cell K1.out 9).trans rfl⟩ (fun hHeld => ?_)
 clear hK K
 refine norm_ (a' := ?_) ?_ ?_
 rotate_left
 · show Act.put _ (some 18) _ = _
   simp only [Act.put, List.setIfInBounds_toArray, List.set_cons_zero, List.set_cons_succ, i64_w, i32_w]
   rfl
 refine pw 12 6 (M 17 8191) ?_
 refine pw 13 19 (M 17 16383) ?_
 refine pw 14 20 (M 17 32767) ?_
 refine pw 15 4 (M 17 65535) ?_
 refine pw 16 5 (M 17 131071) ?_
 refine done_ (by kernel_rfl) ?_
 go_wp2
 go_ret2
 exact ⟨⟨_, rfl⟩, HB1.out⟩
theorem pair_yes (g B1 B2 B3 B4 : Nat) (x y z : ByteArray) (w : World) (hS : St w g B1 B2 B3 B4 x y z) (hC : Kd.C k59 w (some ⟨B1, 0, none⟩) dAliases.length dAliases) (i : Nat) (r : S59) (hi : dAliases[i]? = some r) (hf : foundP 2 x z = ((i : Int), true)) (base : Nat) (w0 : World) (hB : Below base w0 w) (hg : base ≤ g) :
 Calls Tryz.prog 238 #[.pointer (some ⟨g, 0, none⟩)] w fun e w' => e = .returned (.tuple #[.int .i64 (i : Int), .bool true]) ∧ St w' g B1 B2 B3 B4 r.f3 y ⟨#[]⟩ ∧ Below base w0 w' := by
 have hu := Tryz.underlying259
 have hut := Tryz.underlying33
 have hui := Tryz.underlying51
 have HS := Aside0.mk hS
 have HC := Aside0.mk hC
 obtain ⟨z0, z1, z2, z3, z4, z5, z6, z7, z8, z9, z10, z11, z12, z13⟩ := cz14 hS
 clear hS hC
 have HF := Aside0.mk hf
 have HI := Aside0.mk hi
 have BB := Aside0.mk hB
 have HG := Aside0.mk hg
 clear hf hi hB hg
 go_enter Tryz.func238, Tryz.ntmps238
 go_wp2
 refine start_ (n := 17) (S := fun w' => w'.cell? ⟨g, 6, none⟩ = some (.string x) ∧ w'.cell? ⟨g, 9, none⟩ = some (.string z)) (ds := []) (M 17 0) (by kernel_rfl) rfl rfl ⟨z6, z9⟩ (fun hHeld => ?_)
 refine pw 0 7 (M 17 1) ?_
 refine pw 1 8 (M 17 3) ?_
 refine pw 2 9 (M 17 7) ?_
 refine pw 3 10 (M 17 15) ?_
 refine pw 4 11 (M 17 31) ?_
 refine pw 6 13 (M 17 95) ?_
 refine pw 7 14 (M 17 223) ?_
 refine pw 8 15 (M 17 479) ?_
 refine pw 9 16 (M 17 991) ?_
 refine tw 5 12 (M 17 1023) hHeld ?_
 refine tw 10 17 (M 17 2047) hHeld ?_
 refine ow 11 (some 18) (M 17 4095) fun K hK => ?_
 refine gow Tryz.func276 #[.pointer (some ⟨g, 0, none⟩), .int .i64 2, .string x, .string z] ?_
 refine (find_c g B1 B2 B3 B4 x y z 2 x z _ (by exact HS.out) (Kd.C_below HC.out (below_drew (Below.refl _ _)))).mono ?_
 rintro e w1 ⟨rfl, hb⟩
 rw [HF.out]
 have HB1 := Aside0.mk (Below.trans (below_drew (Below.refl w.heap.size w)) hb)
 have K1 := Aside0.mk (HS.out.below HB1.out)
 clear hb
 refine ⟨_, rfl, ?_⟩
 refine hK.out _ _ ⟨(blk_cell K1.out 6).trans rfl, (blk_cell K1.out 9).trans rfl⟩ (fun hHeld => ?_)
 clear hK K
 refine norm_ (a' := ?_) ?_ ?_
 rotate_left
 · show Act.put _ (some 18) _ = _
   simp only [Act.put, List.setIfInBounds_toArray, List.set_cons_zero, List.set_cons_succ, i64_w, i32_w]
   rfl
 refine pw 12 6 (M 17 8191) ?_
 refine pw 13 19 (M 17 16383) ?_
 refine pw 14 20 (M 17 32767) ?_
 refine pw 15 4 (M 17 65535) ?_
 refine pw 16 5 (M 17 131071) ?_
 refine done_ (by kernel_rfl) ?_
 obtain ⟨y0, y1, y2, y3, y4, y5, y6, y7, y8, y9, y10, y11, y12, y13⟩ := cz14 K1.out
 obtain ⟨u0, u1, u2, u3, u4, u5, u6, u7, u8, u9, u10, u11, u12, u13⟩ := fz14 K1.out
 have hlt : i < dAliases.length := (List.getElem?_eq_some_iff.1 HI.out).1
 obtain ⟨ad, e, x0, x1, x2, x3, x4, x5⟩ := at_T59 (Kd.C_below HC.out HB1.out) (i : Int) (by omega) (by omega)
 cases e
 have hx : rd_T59 dAliases (i : Int) = r := by
  have h := HI.out
  rw [List.getElem?_eq_getElem hlt] at h
  cases h
  simp [rd_T59, List.getD_eq_getElem?_getD, List.getElem?_eq_getElem hlt]
 rw [hx] at x0 x1 x2 x3 x4 x5
 simp only [Int.toNat_natCast] at x0 x1 x2 x3 x4 x5
 have m0 : (0 : Int) ≤ (i : Int) := by omega
 have m1 : (i : Int) < (54 : Int) := by rw [len_dAliases] at hlt; omega
 have m2 : i < 54 := by rw [len_dAliases] at hlt; omega
 clear hx hlt
 have ea : (⟨B1, 0, none⟩ : Addr).add (i * 6) = ⟨B1, i * 6, none⟩ := by unfold Addr.add; split <;> simp_all
 rw [ea] at x3
 clear x0 x1 x2 x4 x5 ea
 go_wp2
 go_ret2
 exact ⟨rfl, blk_put (blk_put K1.out 6 _ rfl) 9 _ rfl, below_set' (below_set' (BB.out.trans (HB1.out.mono (Nat.le_trans HG.out (Nat.le_of_lt (lt_blk HS.out))))) HG.out) HG.out⟩
theorem language_no (g B1 B2 B3 B4 : Nat) (x y z : ByteArray) (w : World) (hS : St w g B1 B2 B3 B4 x y z) (hC : Kd.C k59 w (some ⟨B1, 0, none⟩) dAliases.length dAliases) (hf : (foundP 3 x ⟨#[]⟩).2 = false) :
 Calls Tryz.prog 239 #[.pointer (some ⟨g, 0, none⟩)] w fun e w' => (∃ i, e = .returned (.tuple #[.int .i64 i, .bool false])) ∧ Below w.heap.size w w' := by
 have hu := Tryz.underlying259
 have hut := Tryz.underlying33
 have hui := Tryz.underlying51
 have HS := Aside0.mk hS
 have HC := Aside0.mk hC
 obtain ⟨z0, z1, z2, z3, z4, z5, z6, z7, z8, z9, z10, z11, z12, z13⟩ := cz14 hS
 clear hS hC
 have HF := Aside0.mk hf
 clear hf
 go_enter Tryz.func239, Tryz.ntmps239
 go_wp2_with (first
  | (go_at_call 276; refine (find_c g B1 B2 B3 B4 x y z 3 _ _ _ (by exact HS.out) (by exact HC.out)).mono ?_; rintro e w1 ⟨rfl, hb⟩; rw [HF.out]))
 go_ret2
 exact ⟨⟨_, rfl⟩, hb⟩
theorem script_no (g B1 B2 B3 B4 : Nat) (x y z : ByteArray) (w : World) (hS : St w g B1 B2 B3 B4 x y z) (hC : Kd.C k59 w (some ⟨B1, 0, none⟩) dAliases.length dAliases) (hf : (foundP 4 y ⟨#[]⟩).2 = false) :
 Calls Tryz.prog 240 #[.pointer (some ⟨g, 0, none⟩)] w fun e w' => (∃ i, e = .returned (.tuple #[.int .i64 i, .bool false])) ∧ Below w.heap.size w w' := by
 have hu := Tryz.underlying259
 have hut := Tryz.underlying33
 have hui := Tryz.underlying51
 have HS := Aside0.mk hS
 have HC := Aside0.mk hC
 obtain ⟨z0, z1, z2, z3, z4, z5, z6, z7, z8, z9, z10, z11, z12, z13⟩ := cz14 hS
 clear hS hC
 have HF := Aside0.mk hf
 clear hf
 go_enter Tryz.func240, Tryz.ntmps240
 go_wp2_with (first
  | (go_at_call 276; refine (find_c g B1 B2 B3 B4 x y z 4 _ _ _ (by exact HS.out) (by exact HC.out)).mono ?_; rintro e w1 ⟨rfl, hb⟩; rw [HF.out]))
 go_ret2
 exact ⟨⟨_, rfl⟩, hb⟩
theorem region_no (g B1 B2 B3 B4 : Nat) (x y z : ByteArray) (w : World) (hS : St w g B1 B2 B3 B4 x y z) (hC : Kd.C k59 w (some ⟨B1, 0, none⟩) dAliases.length dAliases) (hf : (foundP 5 z ⟨#[]⟩).2 = false) :
 Calls Tryz.prog 241 #[.pointer (some ⟨g, 0, none⟩)] w fun e w' => (∃ i, e = .returned (.tuple #[.int .i64 i, .bool false])) ∧ Below w.heap.size w w' := by
 have hu := Tryz.underlying259
 have hut := Tryz.underlying33
 have hui := Tryz.underlying51
 have HS := Aside0.mk hS
 have HC := Aside0.mk hC
 obtain ⟨z0, z1, z2, z3, z4, z5, z6, z7, z8, z9, z10, z11, z12, z13⟩ := cz14 hS
 clear hS hC
 have HF := Aside0.mk hf
 clear hf
 go_enter Tryz.func241, Tryz.ntmps241
 go_wp2_with (first
  | (go_at_call 276; refine (find_c g B1 B2 B3 B4 x y z 5 _ _ _ (by exact HS.out) (by exact HC.out)).mono ?_; rintro e w1 ⟨rfl, hb⟩; rw [HF.out]))
 go_ret2
 exact ⟨⟨_, rfl⟩, hb⟩
theorem variant_c (g B1 B2 B3 B4 : Nat) (x y z : ByteArray) (w : World) (hS : St w g B1 B2 B3 B4 x y z) (hC : Kd.C k59 w (some ⟨B1, 0, none⟩) dAliases.length dAliases) :
 Calls Tryz.prog 242 #[.pointer (some ⟨g, 0, none⟩)] w fun e w' => (∃ i, e = .returned (.tuple #[.int .i64 i, .bool false])) ∧ Below w.heap.size w w' := by
 have hu := Tryz.underlying259
 have hut := Tryz.underlying33
 have hui := Tryz.underlying51
 have HS := Aside0.mk hS
 have HC := Aside0.mk hC
 obtain ⟨z0, z1, z2, z3, z4, z5, z6, z7, z8, z9, z10, z11, z12, z13⟩ := cz14 hS
 clear hS hC
 go_enter Tryz.func242, Tryz.ntmps242
 go_wp2
 refine wp_loop_once ?_
 go_wp2
 go_ret2
 exact ⟨⟨_, rfl⟩, Below.refl _ _⟩
theorem kind_c (g B1 B2 B3 B4 : Nat) (x y z : ByteArray) (w : World) (hS : St w g B1 B2 B3 B4 x y z) (hC : Kd.C k59 w (some ⟨B1, 0, none⟩) dAliases.length dAliases) :
 Calls Tryz.prog 243 #[.pointer (some ⟨g, 0, none⟩)] w fun e w' => (∃ i, e = .returned (.tuple #[.int .i64 i, .bool false])) ∧ Below w.heap.size w w' := by
 have hu := Tryz.underlying259
 have hut := Tryz.underlying33
 have hui := Tryz.underlying51
 have HS := Aside0.mk hS
 have HC := Aside0.mk hC
 obtain ⟨z0, z1, z2, z3, z4, z5, z6, z7, z8, z9, z10, z11, z12, z13⟩ := cz14 hS
 clear hS hC
 go_enter Tryz.func243, Tryz.ntmps243
 go_wp2
 refine wp_loop_once ?_
 go_wp2
 go_ret2
 exact ⟨⟨_, rfl⟩, Below.refl _ _⟩
structure NoStep (k : Nat) (x y z : ByteArray) : Prop where
 len : (Lib.join ((full1 [x, y, z]).map (·.data.toList)) [45]).length ≤ 140737488355328
 grand : ∃ i, grand_Find.f k (joinS (full1 [x, y, z])) = some (i, false)
 whole : ∃ i, grand_Find.f k ⟨#[]⟩ = some (i, false)
 pair : (foundP 2 x z).2 = false
 lang : (foundP 3 x ⟨#[]⟩).2 = false
 script : (foundP 4 y ⟨#[]⟩).2 = false
 region : (foundP 5 z ⟨#[]⟩).2 = false
theorem step_no (k : Nat) (B1 B2 B3 B4 : Nat) (x y z : ByteArray) (hN : NoStep k x y z) (w : World) (hG : GrandW.G w) (hC : Kd.C k59 w (some ⟨B1, 0, none⟩) dAliases.length dAliases) :
 Calls Tryz.prog 202 #[imgV B1 B2 B3 B4, T3 x y z] w fun e w' => e = .returned (.tuple #[T3 x y z, .int .i64 0, .bool false]) ∧ Below w.heap.size w w' := by
 have HN := Aside0.mk hN
 clear hN
 have hmf : ∀ (fn : Fn) (first cap : Array Value) (w : World), (Instr.makeFunc fn first cap).run Tryz.prog w = .ok (.func fn first cap) w := fun _ _ _ _ => rfl
 have hu := Tryz.underlying259
 have hut := Tryz.underlying33
 have hui := Tryz.underlying51
 have hua := Tryz.underlying261
 have e0 := enters_of Tryz.func235 (by kernel_rfl) rfl
 have e1 := enters_of Tryz.func236 (by kernel_rfl) rfl
 have e2 := enters_of Tryz.func237 (by kernel_rfl) rfl
 have e3 := enters_of Tryz.func238 (by kernel_rfl) rfl
 have e4 := enters_of Tryz.func239 (by kernel_rfl) rfl
 have e5 := enters_of Tryz.func240 (by kernel_rfl) rfl
 have e6 := enters_of Tryz.func241 (by kernel_rfl) rfl
 have e7 := enters_of Tryz.func242 (by kernel_rfl) rfl
 have e8 := enters_of Tryz.func243 (by kernel_rfl) rfl
 unfold Enters at e0 e1 e2 e3 e4 e5 e6 e7 e8
 obtain ⟨g, hg⟩ : ∃ g, g = w.heap.size + 1 + 1 + 1 := ⟨_, rfl⟩
 have x0 : ∀ W : World, (Instr.index 261 (.agg #[.func (.func 235) #[.pointer (some ⟨g, 0, none⟩)] #[], .func (.func 236) #[.pointer (some ⟨g, 0, none⟩)] #[], .func (.func 237) #[.pointer (some ⟨g, 0, none⟩)] #[], .func (.func 238) #[.pointer (some ⟨g, 0, none⟩)] #[], .func (.func 239) #[.pointer (some ⟨g, 0, none⟩)] #[], .func (.func 240) #[.pointer (some ⟨g, 0, none⟩)] #[], .func (.func 241) #[.pointer (some ⟨g, 0, none⟩)] #[], .func (.func 242) #[.pointer (some ⟨g, 0, none⟩)] #[], .func (.func 243) #[.pointer (some ⟨g, 0, none⟩)] #[]]) (.int .i64 0)).run Tryz.prog W = .ok (.func (.func 235) #[.pointer (some ⟨g, 0, none⟩)] #[]) W := fun W => by kernel_rfl
 have x1 : ∀ W : World, (Instr.index 261 (.agg #[.func (.func 235) #[.pointer (some ⟨g, 0, none⟩)] #[], .func (.func 236) #[.pointer (some ⟨g, 0, none⟩)] #[], .func (.func 237) #[.pointer (some ⟨g, 0, none⟩)] #[], .func (.func 238) #[.pointer (some ⟨g, 0, none⟩)] #[], .func (.func 239) #[.pointer (some ⟨g, 0, none⟩)] #[], .func (.func 240) #[.pointer (some ⟨g, 0, none⟩)] #[], .func (.func 241) #[.pointer (some ⟨g, 0, none⟩)] #[], .func (.func 242) #[.pointer (some ⟨g, 0, none⟩)] #[], .func (.func 243) #[.pointer (some ⟨g, 0, none⟩)] #[]]) (.int .i64 1)).run Tryz.prog W = .ok (.func (.func 236) #[.pointer (some ⟨g, 0, none⟩)] #[]) W := fun W => by kernel_rfl
 have x2 : ∀ W : World, (Instr.index 261 (.agg #[.func (.func 235) #[.pointer (some ⟨g, 0, none⟩)] #[], .func (.func 236) #[.pointer (some ⟨g, 0, none⟩)] #[], .func (.func 237) #[.pointer (some ⟨g, 0, none⟩)] #[], .func (.func 238) #[.pointer (some ⟨g, 0, none⟩)] #[], .func (.func 239) #[.pointer (some ⟨g, 0, none⟩)] #[], .func (.func 240) #[.pointer (some ⟨g, 0, none⟩)] #[], .func (.func 241) #[.pointer (some ⟨g, 0, none⟩)] #[], .func (.func 242) #[.pointer (some ⟨g, 0, none⟩)] #[], .func (.func 243) #[.pointer (some ⟨g, 0, none⟩)] #[]]) (.int .i64 2)).run Tryz.prog W = .ok (.func (.func 237) #[.pointer (some ⟨g, 0, none⟩)] #[]) W := fun W => by kernel_rfl
 have x3 : ∀ W : World, (Instr.index 261 (.agg #[.func (.func 235) #[.pointer (some ⟨g, 0, none⟩)] #[], .func (.func 236) #[.pointer (some ⟨g, 0, none⟩)] #[], .func (.func 237) #[.pointer (some ⟨g, 0, none⟩)] #[], .func (.func 238) #[.pointer (some ⟨g, 0, none⟩)] #[], .func (.func 239) #[.pointer (some ⟨g, 0, none⟩)] #[], .func (.func 240) #[.pointer (some ⟨g, 0, none⟩)] #[], .func (.func 241) #[.pointer (some ⟨g, 0, none⟩)] #[], .func (.func 242) #[.pointer (some ⟨g, 0, none⟩)] #[], .func (.func 243) #[.pointer (some ⟨g, 0, none⟩)] #[]]) (.int .i64 3)).run Tryz.prog W = .ok (.func (.func 238) #[.pointer (some ⟨g, 0, none⟩)] #[]) W := fun W => by kernel_rfl
 have x4 : ∀ W : World, (Instr.index 261 (.agg #[.func (.func 235) #[.pointer (some ⟨g, 0, none⟩)] #[], .func (.func 236) #[.pointer (some ⟨g, 0, none⟩)] #[], .func (.func 237) #[.pointer (some ⟨g, 0, none⟩)] #[], .func (.func 238) #[.pointer (some ⟨g, 0, none⟩)] #[], .func (.func 239) #[.pointer (some ⟨g, 0, none⟩)] #[], .func (.func 240) #[.pointer (some ⟨g, 0, none⟩)] #[], .func (.func 241) #[.pointer (some ⟨g, 0, none⟩)] #[], .func (.func 242) #[.pointer (some ⟨g, 0, none⟩)] #[], .func (.func 243) #[.pointer (some ⟨g, 0, none⟩)] #[]]) (.int .i64 4)).run Tryz.prog W = .ok (.func (.func 239) #[.pointer (some ⟨g, 0, none⟩)] #[]) W := fun W => by kernel_rfl
 have x5 : ∀ W : World, (Instr.index 261 (.agg #[.func (.func 235) #[.pointer (some ⟨g, 0, none⟩)] #[], .func (.func 236) #[.pointer (some ⟨g, 0, none⟩)] #[], .func (.func 237) #[.pointer (some ⟨g, 0, none⟩)] #[], .func (.func 238) #[.pointer (some ⟨g, 0, none⟩)] #[], .func (.func 239) #[.pointer (some ⟨g, 0, none⟩)] #[], .func (.func 240) #[.pointer (some ⟨g, 0, none⟩)] #[], .func (.func 241) #[.pointer (some ⟨g, 0, none⟩)] #[], .func (.func 242) #[.pointer (some ⟨g, 0, none⟩)] #[], .func (.func 243) #[.pointer (some ⟨g, 0, none⟩)] #[]]) (.int .i64 5)).run Tryz.prog W = .ok (.func (.func 240) #[.pointer (some ⟨g, 0, none⟩)] #[]) W := fun W => by kernel_rfl
 have x6 : ∀ W : World, (Instr.index 261 (.agg #[.func (.func 235) #[.pointer (some ⟨g, 0, none⟩)] #[], .func (.func 236) #[.pointer (some ⟨g, 0, none⟩)] #[], .func (.func 237) #[.pointer (some ⟨g, 0, none⟩)] #[], .func (.func 238) #[.pointer (some ⟨g, 0, none⟩)] #[], .func (.func 239) #[.pointer (some ⟨g, 0, none⟩)] #[], .func (.func 240) #[.pointer (some ⟨g, 0, none⟩)] #[], .func (.func 241) #[.pointer (some ⟨g, 0, none⟩)] #[], .func (.func 242) #[.pointer (some ⟨g, 0, none⟩)] #[], .func (.func 243) #[.pointer (some ⟨g, 0, none⟩)] #[]]) (.int .i64 6)).run Tryz.prog W = .ok (.func (.func 241) #[.pointer (some ⟨g, 0, none⟩)] #[]) W := fun W => by kernel_rfl
 have x7 : ∀ W : World, (Instr.index 261 (.agg #[.func (.func 235) #[.pointer (some ⟨g, 0, none⟩)] #[], .func (.func 236) #[.pointer (some ⟨g, 0, none⟩)] #[], .func (.func 237) #[.pointer (some ⟨g, 0, none⟩)] #[], .func (.func 238) #[.pointer (some ⟨g, 0, none⟩)] #[], .func (.func 239) #[.pointer (some ⟨g, 0, none⟩)] #[], .func (.func 240) #[.pointer (some ⟨g, 0, none⟩)] #[], .func (.func 241) #[.pointer (some ⟨g, 0, none⟩)] #[], .func (.func 242) #[.pointer (some ⟨g, 0, none⟩)] #[], .func (.func 243) #[.pointer (some ⟨g, 0, none⟩)] #[]]) (.int .i64 7)).run Tryz.prog W = .ok (.func (.func 242) #[.pointer (some ⟨g, 0, none⟩)] #[]) W := fun W => by kernel_rfl
 have x8 : ∀ W : World, (Instr.index 261 (.agg #[.func (.func 235) #[.pointer (some ⟨g, 0, none⟩)] #[], .func (.func 236) #[.pointer (some ⟨g, 0, none⟩)] #[], .func (.func 237) #[.pointer (some ⟨g, 0, none⟩)] #[], .func (.func 238) #[.pointer (some ⟨g, 0, none⟩)] #[], .func (.func 239) #[.pointer (some ⟨g, 0, none⟩)] #[], .func (.func 240) #[.pointer (some ⟨g, 0, none⟩)] #[], .func (.func 241) #[.pointer (some ⟨g, 0, none⟩)] #[], .func (.func 242) #[.pointer (some ⟨g, 0, none⟩)] #[], .func (.func 243) #[.pointer (some ⟨g, 0, none⟩)] #[]]) (.int .i64 8)).run Tryz.prog W = .ok (.func (.func 243) #[.pointer (some ⟨g, 0, none⟩)] #[]) W := fun W => by kernel_rfl
 obtain ⟨W0, hW0⟩ : ∃ W0, W0 = ((((w.alloc (.cells #[.slice (some ⟨B1, 0, none⟩) 54 54, .slice (some ⟨B2, 0, none⟩) 32 32, .slice (some ⟨B3, 0, none⟩) 15 15, .slice (some ⟨B4, 0, none⟩) 7 7, .int .i64 40, .int .i64 5] 51)).alloc (.cells (T3c x y z) 33)).alloc (.cells (T3c ⟨#[]⟩ ⟨#[]⟩ ⟨#[]⟩) 33)).alloc (.cells (stC B1 B2 B3 B4 x y z) 259)) := ⟨_, rfl⟩
 have St0 : St W0 g B1 B2 B3 B4 x y z := by unfold St; rw [hW0, hg]; exact aZ (by simp)
 have R0 : W0.heap[w.heap.size + 1 + 1]? = some (.cells (T3c ⟨#[]⟩ ⟨#[]⟩ ⟨#[]⟩) 33 (0, 0)) := by rw [hW0]; exact aN (aZ (by simp))
 have T0 : W0.heap[w.heap.size + 1]? = some (.cells (T3c x y z) 33 (0, 0)) := by rw [hW0]; exact aN (aN (aZ (by simp)))
 have B0 : Below w.heap.size w W0 := by rw [hW0]; exact below_alloc (below_alloc (below_alloc (below_alloc (Below.refl _ _) _) _) _) _
 have C0 := Kd.C_below hC B0
 have G0 := hG.below B0
 have HW := Aside0.mk hW0.symm
 have HS := Aside0.mk St0
 have HR := Aside0.mk R0
 have HT := Aside0.mk T0
 have HB := Aside0.mk B0
 have HC := Aside0.mk C0
 have HG := Aside0.mk G0
 have Hg := Aside0.mk hg.symm
 clear hW0 St0 R0 T0 B0 C0 G0 hC hG hg
 unfold imgV T3
 go_enter Tryz.func202, Tryz.ntmps202
 go_wp2
 have h1 := HW.out
 unfold T3c stC at h1
 rw [h1, Hg.out]
 clear h1
 obtain ⟨i1, hi1⟩ := HN.out.grand
 obtain ⟨i2, hi2⟩ := HN.out.whole
 have X0 := Aside0.mk (Below.refl W0.heap.size W0)
 have I1 := Aside0.mk hi1
 have I2 := Aside0.mk hi2
 clear hi1 hi2
 refine wp_loop_rounds 10 ?_
 rw [rounds_succ]
 go_wp2_with (first
  | (go_at_call 235; refine (named_c g B1 B2 B3 B4 x y z _ (HS.out.below X0.out) (Kd.C_below HC.out X0.out) k (HG.out.below X0.out) i1 HN.out.len I1.out).mono ?_; rintro e v1 ⟨⟨j0, rfl⟩, hb⟩; have X1 := Aside0.mk (X0.out.trans (hb.mono X0.out.size)); clear hb))
 rw [rounds_succ]
 go_wp2_with (first
  | (go_at_call 236; refine (extlang_c g B1 B2 B3 B4 x y z _ (HS.out.below X1.out) (Kd.C_below HC.out X1.out)).mono ?_; rintro e v2 ⟨⟨j1, rfl⟩, hb⟩; have X2 := Aside0.mk (X1.out.trans (hb.mono X1.out.size)); clear hb))
 rw [rounds_succ]
 go_wp2_with (first
  | (go_at_call 237; refine (whole_c g B1 B2 B3 B4 x y z _ (HS.out.below X2.out) (Kd.C_below HC.out X2.out) k (HG.out.below X2.out) i2 I2.out).mono ?_; rintro e v3 ⟨⟨j2, rfl⟩, hb⟩; have X3 := Aside0.mk (X2.out.trans (hb.mono X2.out.size)); clear hb))
 rw [rounds_succ]
 go_wp2_with (first
  | (go_at_call 238; refine (pair_no g B1 B2 B3 B4 x y z _ (HS.out.below X3.out) (Kd.C_below HC.out X3.out) HN.out.pair).mono ?_; rintro e v4 ⟨⟨j3, rfl⟩, hb⟩; have X4 := Aside0.mk (X3.out.trans (hb.mono X3.out.size)); clear hb))
 rw [rounds_succ]
 go_wp2_with (first
  | (go_at_call 239; refine (language_no g B1 B2 B3 B4 x y z _ (HS.out.below X4.out) (Kd.C_below HC.out X4.out) HN.out.lang).mono ?_; rintro e v5 ⟨⟨j4, rfl⟩, hb⟩; have X5 := Aside0.mk (X4.out.trans (hb.mono X4.out.size)); clear hb))
 rw [rounds_succ]
 go_wp2_with (first
  | (go_at_call 240; refine (script_no g B1 B2 B3 B4 x y z _ (HS.out.below X5.out) (Kd.C_below HC.out X5.out) HN.out.script).mono ?_; rintro e v6 ⟨⟨j5, rfl⟩, hb⟩; have X6 := Aside0.mk (X5.out.trans (hb.mono X5.out.size)); clear hb))
 rw [rounds_succ]
 go_wp2_with (first
  | (go_at_call 241; refine (region_no g B1 B2 B3 B4 x y z _ (HS.out.below X6.out) (Kd.C_below HC.out X6.out) HN.out.region).mono ?_; rintro e v7 ⟨⟨j6, rfl⟩, hb⟩; have X7 := Aside0.mk (X6.out.trans (hb.mono X6.out.size)); clear hb))
 rw [rounds_succ]
 go_wp2_with (first
  | (go_at_call 242; refine (variant_c g B1 B2 B3 B4 x y z _ (HS.out.below X7.out) (Kd.C_below HC.out X7.out)).mono ?_; rintro e v8 ⟨⟨j7, rfl⟩, hb⟩; have X8 := Aside0.mk (X7.out.trans (hb.mono X7.out.size)); clear hb))
 rw [rounds_succ]
 go_wp2_with (first
  | (go_at_call 243; refine (kind_c g B1 B2 B3 B4 x y z _ (HS.out.below X8.out) (Kd.C_below HC.out X8.out)).mono ?_; rintro e v9 ⟨⟨j8, rfl⟩, hb⟩; have X9 := Aside0.mk (X8.out.trans (hb.mono X8.out.size)); clear hb))
 rw [rounds_succ]
 obtain ⟨z0, z1, z2, z3, z4, z5, z6, z7⟩ := cz8 ((X9.out.block _ (lt_blk HT.out)).trans HT.out)
 obtain ⟨y0, y1, y2, y3, y4, y5, y6, y7⟩ := cz8 ((X9.out.block _ (lt_blk HR.out)).trans HR.out)
 obtain ⟨f0, f1, f2, f3, f4, f5, f6, f7⟩ := fz8 ((X9.out.block _ (lt_blk HR.out)).trans HR.out)
 go_wp2
 have R9 := blk_put (blk_put (blk_put (blk_put (blk_put (blk_put (blk_put (blk_put ((X9.out.block _ (lt_blk HR.out)).trans HR.out) 0 (.string x) rfl) 1 (.slice none 0 0) rfl) 2 (.string y) rfl) 3 (.string z) rfl) 4 (.slice none 0 0) rfl) 5 (.slice none 0 0) rfl) 6 (.slice none 0 0) rfl) 7 (.string ⟨#[]⟩) rfl
 obtain ⟨c0, c1, c2, c3, c4, c5, c6, c7⟩ := cz8 R9
 refine bodyPost_ret (v := .tuple #[.agg #[.string x, .slice none 0 0, .string y, .string z, .slice none 0 0, .slice none 0 0, .slice none 0 0, .string ⟨#[]⟩], .int .i64 0, .bool false]) ?_ rfl ⟨rfl, ?_⟩
 · simp [results, Tryz.results202, asAddr, c0, c1, c2, c3, c4, c5, c6, c7, hut, go_sem]
 · have B9 : Below w.heap.size w v9 := HB.out.trans (X9.out.mono HB.out.size)
   iterate 8 refine below_set' ?_ (by omega)
   exact B9
theorem step_pair (k : Nat) (B1 B2 B3 B4 : Nat) (x y z : ByteArray) (i1 i2 : Int) (hl : (Lib.join ((full1 [x, y, z]).map (·.data.toList)) [45]).length ≤ 140737488355328) (hi1 : grand_Find.f k (joinS (full1 [x, y, z])) = some (i1, false)) (hi2 : grand_Find.f k ⟨#[]⟩ = some (i2, false)) (i : Nat) (r : S59) (hi : dAliases[i]? = some r) (hf : foundP 2 x z = ((i : Int), true)) (w : World) (hG : GrandW.G w) (hC : Kd.C k59 w (some ⟨B1, 0, none⟩) dAliases.length dAliases) :
 Calls Tryz.prog 202 #[imgV B1 B2 B3 B4, T3 x y z] w fun e w' => e = .returned (.tuple #[T3 r.f3 y ⟨#[]⟩, .int .i64 (i : Int), .bool true]) ∧ Below w.heap.size w w' := by
 have HF := Aside0.mk hf
 have HI := Aside0.mk hi
 have HL := Aside0.mk hl
 clear hf hi hl
 have hmf : ∀ (fn : Fn) (first cap : Array Value) (w : World), (Instr.makeFunc fn first cap).run Tryz.prog w = .ok (.func fn first cap) w := fun _ _ _ _ => rfl
 have hu := Tryz.underlying259
 have hut := Tryz.underlying33
 have hui := Tryz.underlying51
 have hua := Tryz.underlying261
 have e0 := enters_of Tryz.func235 (by kernel_rfl) rfl
 have e1 := enters_of Tryz.func236 (by kernel_rfl) rfl
 have e2 := enters_of Tryz.func237 (by kernel_rfl) rfl
 have e3 := enters_of Tryz.func238 (by kernel_rfl) rfl
 unfold Enters at e0 e1 e2 e3
 obtain ⟨g, hg⟩ : ∃ g, g = w.heap.size + 1 + 1 + 1 := ⟨_, rfl⟩
 have x0 : ∀ W : World, (Instr.index 261 (.agg #[.func (.func 235) #[.pointer (some ⟨g, 0, none⟩)] #[], .func (.func 236) #[.pointer (some ⟨g, 0, none⟩)] #[], .func (.func 237) #[.pointer (some ⟨g, 0, none⟩)] #[], .func (.func 238) #[.pointer (some ⟨g, 0, none⟩)] #[], .func (.func 239) #[.pointer (some ⟨g, 0, none⟩)] #[], .func (.func 240) #[.pointer (some ⟨g, 0, none⟩)] #[], .func (.func 241) #[.pointer (some ⟨g, 0, none⟩)] #[], .func (.func 242) #[.pointer (some ⟨g, 0, none⟩)] #[], .func (.func 243) #[.pointer (some ⟨g, 0, none⟩)] #[]]) (.int .i64 0)).run Tryz.prog W = .ok (.func (.func 235) #[.pointer (some ⟨g, 0, none⟩)] #[]) W := fun W => by kernel_rfl
 have x1 : ∀ W : World, (Instr.index 261 (.agg #[.func (.func 235) #[.pointer (some ⟨g, 0, none⟩)] #[], .func (.func 236) #[.pointer (some ⟨g, 0, none⟩)] #[], .func (.func 237) #[.pointer (some ⟨g, 0, none⟩)] #[], .func (.func 238) #[.pointer (some ⟨g, 0, none⟩)] #[], .func (.func 239) #[.pointer (some ⟨g, 0, none⟩)] #[], .func (.func 240) #[.pointer (some ⟨g, 0, none⟩)] #[], .func (.func 241) #[.pointer (some ⟨g, 0, none⟩)] #[], .func (.func 242) #[.pointer (some ⟨g, 0, none⟩)] #[], .func (.func 243) #[.pointer (some ⟨g, 0, none⟩)] #[]]) (.int .i64 1)).run Tryz.prog W = .ok (.func (.func 236) #[.pointer (some ⟨g, 0, none⟩)] #[]) W := fun W => by kernel_rfl
 have x2 : ∀ W : World, (Instr.index 261 (.agg #[.func (.func 235) #[.pointer (some ⟨g, 0, none⟩)] #[], .func (.func 236) #[.pointer (some ⟨g, 0, none⟩)] #[], .func (.func 237) #[.pointer (some ⟨g, 0, none⟩)] #[], .func (.func 238) #[.pointer (some ⟨g, 0, none⟩)] #[], .func (.func 239) #[.pointer (some ⟨g, 0, none⟩)] #[], .func (.func 240) #[.pointer (some ⟨g, 0, none⟩)] #[], .func (.func 241) #[.pointer (some ⟨g, 0, none⟩)] #[], .func (.func 242) #[.pointer (some ⟨g, 0, none⟩)] #[], .func (.func 243) #[.pointer (some ⟨g, 0, none⟩)] #[]]) (.int .i64 2)).run Tryz.prog W = .ok (.func (.func 237) #[.pointer (some ⟨g, 0, none⟩)] #[]) W := fun W => by kernel_rfl
 have x3 : ∀ W : World, (Instr.index 261 (.agg #[.func (.func 235) #[.pointer (some ⟨g, 0, none⟩)] #[], .func (.func 236) #[.pointer (some ⟨g, 0, none⟩)] #[], .func (.func 237) #[.pointer (some ⟨g, 0, none⟩)] #[], .func (.func 238) #[.pointer (some ⟨g, 0, none⟩)] #[], .func (.func 239) #[.pointer (some ⟨g, 0, none⟩)] #[], .func (.func 240) #[.pointer (some ⟨g, 0, none⟩)] #[], .func (.func 241) #[.pointer (some ⟨g, 0, none⟩)] #[], .func (.func 242) #[.pointer (some ⟨g, 0, none⟩)] #[], .func (.func 243) #[.pointer (some ⟨g, 0, none⟩)] #[]]) (.int .i64 3)).run Tryz.prog W = .ok (.func (.func 238) #[.pointer (some ⟨g, 0, none⟩)] #[]) W := fun W => by kernel_rfl
 obtain ⟨W0, hW0⟩ : ∃ W0, W0 = ((((w.alloc (.cells #[.slice (some ⟨B1, 0, none⟩) 54 54, .slice (some ⟨B2, 0, none⟩) 32 32, .slice (some ⟨B3, 0, none⟩) 15 15, .slice (some ⟨B4, 0, none⟩) 7 7, .int .i64 40, .int .i64 5] 51)).alloc (.cells (T3c x y z) 33)).alloc (.cells (T3c ⟨#[]⟩ ⟨#[]⟩ ⟨#[]⟩) 33)).alloc (.cells (stC B1 B2 B3 B4 x y z) 259)) := ⟨_, rfl⟩
 have St0 : St W0 g B1 B2 B3 B4 x y z := by unfold St; rw [hW0, hg]; exact aZ (by simp)
 have R0 : W0.heap[w.heap.size + 1 + 1]? = some (.cells (T3c ⟨#[]⟩ ⟨#[]⟩ ⟨#[]⟩) 33 (0, 0)) := by rw [hW0]; exact aN (aZ (by simp))
 have T0 : W0.heap[w.heap.size + 1]? = some (.cells (T3c x y z) 33 (0, 0)) := by rw [hW0]; exact aN (aN (aZ (by simp)))
 have B0 : Below w.heap.size w W0 := by rw [hW0]; exact below_alloc (below_alloc (below_alloc (below_alloc (Below.refl _ _) _) _) _) _
 have C0 := Kd.C_below hC B0
 have G0 := hG.below B0
 have HW := Aside0.mk hW0.symm
 have HS := Aside0.mk St0
 have HR := Aside0.mk R0
 have HT := Aside0.mk T0
 have HB := Aside0.mk B0
 have HC := Aside0.mk C0
 have HG := Aside0.mk G0
 have Hg := Aside0.mk hg.symm
 clear hW0 St0 R0 T0 B0 C0 G0 hC hG hg
 unfold imgV T3
 go_enter Tryz.func202, Tryz.ntmps202
 go_wp2
 have h1 := HW.out
 unfold T3c stC at h1
 rw [h1, Hg.out]
 clear h1
 have X0 := Aside0.mk (Below.refl W0.heap.size W0)
 have I1 := Aside0.mk hi1
 have I2 := Aside0.mk hi2
 clear hi1 hi2
 refine wp_loop_rounds 10 ?_
 rw [rounds_succ]
 go_wp2_with (first
  | (go_at_call 235; refine (named_c g B1 B2 B3 B4 x y z _ (HS.out.below X0.out) (Kd.C_below HC.out X0.out) k (HG.out.below X0.out) i1 HL.out I1.out).mono ?_; rintro e v1 ⟨⟨j0, rfl⟩, hb⟩; have X1 := Aside0.mk (X0.out.trans (hb.mono X0.out.size)); clear hb))
 rw [rounds_succ]
 go_wp2_with (first
  | (go_at_call 236; refine (extlang_c g B1 B2 B3 B4 x y z _ (HS.out.below X1.out) (Kd.C_below HC.out X1.out)).mono ?_; rintro e v2 ⟨⟨j1, rfl⟩, hb⟩; have X2 := Aside0.mk (X1.out.trans (hb.mono X1.out.size)); clear hb))
 rw [rounds_succ]
 go_wp2_with (first
  | (go_at_call 237; refine (whole_c g B1 B2 B3 B4 x y z _ (HS.out.below X2.out) (Kd.C_below HC.out X2.out) k (HG.out.below X2.out) i2 I2.out).mono ?_; rintro e v3 ⟨⟨j2, rfl⟩, hb⟩; have X3 := Aside0.mk (X2.out.trans (hb.mono X2.out.size)); clear hb))
 rw [rounds_succ]
 go_wp2_with (first
  | (go_at_call 238; refine (pair_yes g B1 B2 B3 B4 x y z _ (HS.out.below X3.out) (Kd.C_below HC.out X3.out) i r HI.out HF.out g _ (by exact Below.refl _ _) (Nat.le_refl _)).mono ?_; rintro e v4 ⟨rfl, hs, hb⟩; have Y4 := Aside0.mk hs; have Z4 := Aside0.mk hb; have R4 := Aside0.mk ((hb.block _ (by have := Hg.out; omega)).trans ((X3.out.block _ (lt_blk HR.out)).trans HR.out)); obtain ⟨y0, y1, y2, y3, y4, y5, y6, y7⟩ := cz8 R4.out; obtain ⟨f0, f1, f2, f3, f4, f5, f6, f7⟩ := fz8 R4.out; obtain ⟨z0, z1, z2, z3, z4, z5, z6, z7, z8, z9, z10, z11, z12, z13⟩ := cz14 hs; clear hs hb))
 have R9 := blk_put (blk_put (blk_put (blk_put (blk_put (blk_put (blk_put (blk_put R4.out 0 (.string r.f3) rfl) 1 (.slice none 0 0) rfl) 2 (.string y) rfl) 3 (.string ⟨#[]⟩) rfl) 4 (.slice none 0 0) rfl) 5 (.slice none 0 0) rfl) 6 (.slice none 0 0) rfl) 7 (.string ⟨#[]⟩) rfl
 obtain ⟨c0, c1, c2, c3, c4, c5, c6, c7⟩ := cz8 R9
 refine bodyPost_ret (v := .tuple #[.agg #[.string r.f3, .slice none 0 0, .string y, .string ⟨#[]⟩, .slice none 0 0, .slice none 0 0, .slice none 0 0, .string ⟨#[]⟩], .int .i64 (i : Int), .bool true]) ?_ rfl ⟨rfl, ?_⟩
 · simp [results, Tryz.results202, asAddr, c0, c1, c2, c3, c4, c5, c6, c7, hut, go_sem]
 · have B3 : Below w.heap.size w v3 := HB.out.trans (X3.out.mono HB.out.size)
   have B9 : Below w.heap.size w v4 := B3.trans (Z4.out.mono (by have := Hg.out; omega))
   iterate 8 refine below_set' ?_ (by omega)
   exact B9
def imgC (B1 B2 B3 B4 : Nat) : Array Value := #[.slice (some ⟨B1, 0, none⟩) 54 54, .slice (some ⟨B2, 0, none⟩) 32 32, .slice (some ⟨B3, 0, none⟩) 15 15, .slice (some ⟨B4, 0, none⟩) 7 7, .int .i64 40, .int .i64 5]
def putTag (W : World) (g : Nat) (x y z : ByteArray) : World := (((((((W.setCell ⟨g, 0, none⟩ (.string x)).setCell ⟨g, 1, none⟩ (.slice none 0 0)).setCell ⟨g, 2, none⟩ (.string y)).setCell ⟨g, 3, none⟩ (.string z)).setCell ⟨g, 4, none⟩ (.slice none 0 0)).setCell ⟨g, 5, none⟩ (.slice none 0 0)).setCell ⟨g, 6, none⟩ (.slice none 0 0)).setCell ⟨g, 7, none⟩ (.string ⟨#[]⟩)
theorem put_tag {W : World} {g : Nat} {t : TypeId} {a b c : ByteArray} (h : W.heap[g]? = some (.cells (T3c a b c) t (0, 0))) (x y z : ByteArray) : (putTag W g x y z).heap[g]? = some (.cells (T3c x y z) t (0, 0)) := by
 have h0 : W.heap[g]? = some (.cells #[.string a, .slice none 0 0, .string b, .string c, .slice none 0 0, .slice none 0 0, .slice none 0 0, .string ⟨#[]⟩] t (0, 0)) := h
 have h1 := blk_put (cs' := #[.string x, .slice none 0 0, .string b, .string c, .slice none 0 0, .slice none 0 0, .slice none 0 0, .string ⟨#[]⟩]) h0 0 (.string x) rfl
 have h2 := blk_put (cs' := #[.string x, .slice none 0 0, .string b, .string c, .slice none 0 0, .slice none 0 0, .slice none 0 0, .string ⟨#[]⟩]) h1 1 (.slice none 0 0) rfl
 have h3 := blk_put (cs' := #[.string x, .slice none 0 0, .string y, .string c, .slice none 0 0, .slice none 0 0, .slice none 0 0, .string ⟨#[]⟩]) h2 2 (.string y) rfl
 have h4 := blk_put (cs' := #[.string x, .slice none 0 0, .string y, .string z, .slice none 0 0, .slice none 0 0, .slice none 0 0, .string ⟨#[]⟩]) h3 3 (.string z) rfl
 have h5 := blk_put (cs' := #[.string x, .slice none 0 0, .string y, .string z, .slice none 0 0, .slice none 0 0, .slice none 0 0, .string ⟨#[]⟩]) h4 4 (.slice none 0 0) rfl
 have h6 := blk_put (cs' := #[.string x, .slice none 0 0, .string y, .string z, .slice none 0 0, .slice none 0 0, .slice none 0 0, .string ⟨#[]⟩]) h5 5 (.slice none 0 0) rfl
 have h7 := blk_put (cs' := #[.string x, .slice none 0 0, .string y, .string z, .slice none 0 0, .slice none 0 0, .slice none 0 0, .string ⟨#[]⟩]) h6 6 (.slice none 0 0) rfl
 have h8 := blk_put (cs' := #[.string x, .slice none 0 0, .string y, .string z, .slice none 0 0, .slice none 0 0, .slice none 0 0, .string ⟨#[]⟩]) h7 7 (.string ⟨#[]⟩) rfl
 exact h8
theorem putTag_far {W : World} {g k : Nat} (x y z : ByteArray) (h : k ≠ g) : (putTag W g x y z).heap[k]? = W.heap[k]? := by
 unfold putTag
 repeat rw [Below.heap_setCell _ _ _ _ h]
theorem putTag_below {n g : Nat} {w W : World} (h : Below n w W) (hg : n ≤ g) (x y z : ByteArray) : Below n w (putTag W g x y z) := by
 unfold putTag
 iterate 8 refine below_set' ?_ hg
 exact h
theorem putTag_grown (W : World) (g : Nat) (x y z : ByteArray) : W.grownBy (putTag W g x y z) (some g) := by
 unfold putTag
 iterate 7 refine World.grownBy.trans ?_ (grown_setCell _ _ _ _)
 exact grown_setCell _ _ _ _
theorem putTag_size (W : World) (g : Nat) (x y z : ByteArray) : (putTag W g x y z).heap.size = W.heap.size := by simp [putTag, World.setCell]
theorem putTag_eq (W : World) (g : Nat) (x y z : ByteArray) : (((((((W.setCell ⟨g, 0, none⟩ (.string x)).setCell ⟨g, 1, none⟩ (.slice none 0 0)).setCell ⟨g, 2, none⟩ (.string y)).setCell ⟨g, 3, none⟩ (.string z)).setCell ⟨g, 4, none⟩ (.slice none 0 0)).setCell ⟨g, 5, none⟩ (.slice none 0 0)).setCell ⟨g, 6, none⟩ (.slice none 0 0)).setCell ⟨g, 7, none⟩ (.string ⟨#[]⟩) = putTag W g x y z := rfl
theorem cz8t {W : World} {g : Nat} {t : TypeId} {x y z : ByteArray} (h : W.heap[g]? = some (.cells (T3c x y z) t (0, 0))) : W.cell? ⟨g, 0, none⟩ = some (.string x) ∧ W.cell? ⟨g, 1, none⟩ = some (.slice none 0 0) ∧ W.cell? ⟨g, 2, none⟩ = some (.string y) ∧ W.cell? ⟨g, 3, none⟩ = some (.string z) ∧ W.cell? ⟨g, 4, none⟩ = some (.slice none 0 0) ∧ W.cell? ⟨g, 5, none⟩ = some (.slice none 0 0) ∧ W.cell? ⟨g, 6, none⟩ = some (.slice none 0 0) ∧ W.cell? ⟨g, 7, none⟩ = some (.string ⟨#[]⟩) := cz8 (show W.heap[g]? = some (.cells #[.string x, .slice none 0 0, .string y, .string z, .slice none 0 0, .slice none 0 0, .slice none 0 0, .string ⟨#[]⟩] t (0, 0)) from h)
theorem fz8t {W : World} {g : Nat} {t : TypeId} {x y z : ByteArray} (h : W.heap[g]? = some (.cells (T3c x y z) t (0, 0))) : W.frozen? ⟨g, 0, none⟩ = false ∧ W.frozen? ⟨g, 1, none⟩ = false ∧ W.frozen? ⟨g, 2, none⟩ = false ∧ W.frozen? ⟨g, 3, none⟩ = false ∧ W.frozen? ⟨g, 4, none⟩ = false ∧ W.frozen? ⟨g, 5, none⟩ = false ∧ W.frozen? ⟨g, 6, none⟩ = false ∧ W.frozen? ⟨g, 7, none⟩ = false := fz8 (show W.heap[g]? = some (.cells #[.string x, .slice none 0 0, .string y, .string z, .slice none 0 0, .slice none 0 0, .slice none 0 0, .string ⟨#[]⟩] t (0, 0)) from h)
theorem len_c (A : Option Addr) (n c : Nat) (w : World) : Calls Tryz.prog 395 #[.slice A n c] w fun e w' => e = .returned (.int .i64 (n : Int)) ∧ w' = w := by
 go_enter Tryz.func395, Tryz.ntmps395
 go_wp2
 go_ret
 exact ⟨rfl, rfl⟩
theorem nan_c (x : Int) (w : World) : Calls Tryz.prog 402 #[.int .i64 x] w fun e w' => e = .returned (.bool false) ∧ w' = w := by
 go_enter Tryz.func402, Tryz.ntmps402
 go_wp2
 go_ret
 exact ⟨by simp, rfl⟩
def cmpI (x y : Int) : Int := if x < y then -1 else if x > y then 1 else 0
theorem cmp_c (x y : Int) (w : World) : Calls Tryz.prog 401 #[.int .i64 x, .int .i64 y] w fun e w' => e = .returned (.int .i64 (cmpI x y)) ∧ w' = w := by
 cases h1 : decide (x < y) <;> cases h2 : decide (x > y)
 all_goals
  go_enter Tryz.func401, Tryz.ntmps401
  go_wp2_with (first | (go_at_call 402; refine (nan_c _ _).mono ?_; rintro e w1 ⟨rfl, rfl⟩))
  go_ret
  refine ⟨?_, rfl⟩
  have h1' := of_decide_eq_true (p := x < y)
  have h2' := of_decide_eq_true (p := x > y)
  have g1' := of_decide_eq_false (p := x < y)
  have g2' := of_decide_eq_false (p := x > y)
  unfold cmpI
  first
   | (rw [if_pos (h1' h1)]; rfl)
   | (rw [if_neg (g1' h1), if_pos (h2' h2)]; rfl)
   | (rw [if_neg (g1' h1), if_neg (g2' h2)]; rfl)
theorem or_c (b c n : Nat) (hn : 0 < n) (v : Int) (hv : v ≠ 0) (w : World) (hc : w.cell? ⟨b, 0, none⟩ = some (.int .i64 v)) : Calls Tryz.prog 400 #[.slice (some ⟨b, 0, none⟩) n c] w fun e w' => e = .returned (.int .i64 v) ∧ w' = w := by
 have d1 : decide ((0 : Int) < (n : Int)) = true := decide_eq_true (by omega)
 have m1 : (0 : Int) < (n : Int) := by omega
 have d2 : (v == 0) = false := by simpa using hv
 go_enter Tryz.func400, Tryz.ntmps400
 go_wp2
 refine wp_loop_once ?_
 go_wp2
 go_ret
 exact ⟨rfl, rfl⟩
theorem six_below {w V : World} {b : Nat} {b0 b1 b2 a0 a1 a2 : Int} (hb : Below w.heap.size w V) (h : w.cell? ⟨b, 0, none⟩ = some (.int .i64 b0) ∧ w.cell? ⟨b, 1, none⟩ = some (.int .i64 b1) ∧ w.cell? ⟨b, 2, none⟩ = some (.int .i64 b2) ∧ w.cell? ⟨b, 3, none⟩ = some (.int .i64 a0) ∧ w.cell? ⟨b, 4, none⟩ = some (.int .i64 a1) ∧ w.cell? ⟨b, 5, none⟩ = some (.int .i64 a2)) :
 V.cell? ⟨b, 0, none⟩ = some (.int .i64 b0) ∧ V.cell? ⟨b, 1, none⟩ = some (.int .i64 b1) ∧ V.cell? ⟨b, 2, none⟩ = some (.int .i64 b2) ∧ V.cell? ⟨b, 3, none⟩ = some (.int .i64 a0) ∧ V.cell? ⟨b, 4, none⟩ = some (.int .i64 a1) ∧ V.cell? ⟨b, 5, none⟩ = some (.int .i64 a2) := by
 obtain ⟨c0, c1, c2, c3, c4, c5⟩ := h
 have hl := World.block_lt_of_cell? w _ c0
 exact ⟨(hb.cell (p := ⟨b, 0, none⟩) hl).trans c0, (hb.cell (p := ⟨b, 1, none⟩) hl).trans c1, (hb.cell (p := ⟨b, 2, none⟩) hl).trans c2, (hb.cell (p := ⟨b, 3, none⟩) hl).trans c3, (hb.cell (p := ⟨b, 4, none⟩) hl).trans c4, (hb.cell (p := ⟨b, 5, none⟩) hl).trans c5⟩
theorem less_no (b c : Nat) (a0 a1 a2 b0 b1 b2 : Int) (hv : b2 < a2) (w : World) (hc : w.cell? ⟨b, 0, none⟩ = some (.int .i64 b0) ∧ w.cell? ⟨b, 1, none⟩ = some (.int .i64 b1) ∧ w.cell? ⟨b, 2, none⟩ = some (.int .i64 b2) ∧ w.cell? ⟨b, 3, none⟩ = some (.int .i64 a0) ∧ w.cell? ⟨b, 4, none⟩ = some (.int .i64 a1) ∧ w.cell? ⟨b, 5, none⟩ = some (.int .i64 a2)) :
 Calls Tryz.prog 396 #[.slice (some ⟨b, 0, none⟩) 2 c, .int .i64 1, .int .i64 0] w fun e w' => e = .returned (.bool false) ∧ Below w.heap.size w w' := by
 have hu := Tryz.underlying336
 have hum := Tryz.underlying247
 obtain ⟨c0, c1, c2, c3, c4, c5⟩ := hc
 go_enter Tryz.func396, Tryz.ntmps396
 go_wp2
 refine start_ (n := 12) (S := fun w' => w'.cell? ⟨b, 0, none⟩ = some (.int .i64 b0) ∧ w'.cell? ⟨b, 1, none⟩ = some (.int .i64 b1) ∧ w'.cell? ⟨b, 2, none⟩ = some (.int .i64 b2) ∧ w'.cell? ⟨b, 3, none⟩ = some (.int .i64 a0) ∧ w'.cell? ⟨b, 4, none⟩ = some (.int .i64 a1) ∧ w'.cell? ⟨b, 5, none⟩ = some (.int .i64 a2)) (ds := []) (M 12 0) (by kernel_rfl) rfl rfl (six_below (below_drew (Below.refl _ _)) ⟨c0, c1, c2, c3, c4, c5⟩) (fun hHeld => ?_)
 obtain ⟨V0, hV0⟩ : ∃ V0, V0 = w.drew := ⟨_, rfl⟩
 have KB : Aside0 (Below w.heap.size w V0) := ⟨by rw [hV0]; exact below_drew (Below.refl _ _)⟩
 rw [← hV0] at hHeld ⊢
 clear hV0
 refine pw 0 9 (M 12 1) ?_
 refine pw 1 10 (M 12 3) ?_
 refine pw 2 11 (M 12 7) ?_
 refine pw 4 13 (M 12 23) ?_
 refine pw 5 14 (M 12 55) ?_
 refine pw 6 15 (M 12 119) ?_
 refine tw 3 12 (M 12 127) hHeld ?_
 refine tw 7 16 (M 12 255) hHeld ?_
 refine two_ (i := 8) (j := 9) (Ni := some 7) (Nj := some 8) (M 12 511) (M 12 767) rfl rfl rfl rfl (by kernel_rfl) (by decide) (by decide) (fun K hK => ?_) (fun K hK => ?_)
 refine value_ (w1 := ?_) (v := ?_) (by rfl) rfl ?_ ?_
 rotate_left 2
 · go_simp
   constructor
   · rfl
   · rfl
 obtain ⟨pa, hpa⟩ : ∃ x, x = V0.heap.size := ⟨_, rfl⟩
 obtain ⟨V1, hV⟩ : ∃ V, V = V0.alloc (.cells #[.int .i64 0, .int .i64 0, .int .i64 0] 247) := ⟨_, rfl⟩
 rw [← hV, ← hpa]
 have Kpa : Aside0 (V1.heap[pa]? = some (.cells #[.int .i64 0, .int .i64 0, .int .i64 0] 247 (0, 0))) := ⟨by rw [hV]; exact aZ hpa⟩
 have gpa : Aside0 (w.heap.size ≤ pa) := ⟨by have := KB.out.size; omega⟩
 replace KB : Aside0 (Below w.heap.size w V1) := ⟨by rw [hV]; exact below_alloc KB.out _⟩
 clear hV hpa
 refine hK.out _ _ ((six_below KB.out ⟨c0, c1, c2, c3, c4, c5⟩)) (fun hHeld => ?_)
 clear hK K
 refine norm_ (a' := ?_) ?_ ?_
 rotate_left
 · show Act.put _ (some 7) _ = _
   simp only [Act.put, List.setIfInBounds_toArray, List.set_cons_zero, List.set_cons_succ, i64_w, i32_w]
   rfl
 refine ow 9 (some 8) (M 12 1023) fun K hK => ?_
 refine value_ (w1 := ?_) (v := ?_) (by rfl) rfl ?_ ?_
 rotate_left 2
 · go_simp
   constructor
   · rfl
   · rfl
 obtain ⟨pb, hpb⟩ : ∃ x, x = V1.heap.size := ⟨_, rfl⟩
 obtain ⟨V2, hV⟩ : ∃ V, V = V1.alloc (.cells #[.int .i64 0, .int .i64 0, .int .i64 0] 247) := ⟨_, rfl⟩
 rw [← hV, ← hpb]
 have Kpb : Aside0 (V2.heap[pb]? = some (.cells #[.int .i64 0, .int .i64 0, .int .i64 0] 247 (0, 0))) := ⟨by rw [hV]; exact aZ hpb⟩
 have hne : Aside0 (pa ≠ pb) := ⟨by have := lt_blk Kpa.out; omega⟩
 replace Kpa : Aside0 (V2.heap[pa]? = some (.cells #[.int .i64 0, .int .i64 0, .int .i64 0] 247 (0, 0))) := ⟨by rw [hV]; exact aN Kpa.out⟩
 have gpb : Aside0 (w.heap.size ≤ pb) := ⟨by have := KB.out.size; omega⟩
 replace KB : Aside0 (Below w.heap.size w V2) := ⟨by rw [hV]; exact below_alloc KB.out _⟩
 clear hV hpb
 refine hK.out _ _ ((six_below KB.out ⟨c0, c1, c2, c3, c4, c5⟩)) (fun hHeld => ?_)
 clear hK K
 refine norm_ (a' := ?_) ?_ ?_
 rotate_left
 · show Act.put _ (some 8) _ = _
   simp only [Act.put, List.setIfInBounds_toArray, List.set_cons_zero, List.set_cons_succ, i64_w, i32_w]
   rfl
 refine ow 10 (none) (M 12 2047) fun K hK => ?_
 refine put_step (g := pa) (off := 0) (cur := #[.int .i64 0, .int .i64 0, .int .i64 0]) (new := #[.int .i64 a0, .int .i64 a1, .int .i64 a2]) (seg := [.int .i64 a0, .int .i64 a1, .int .i64 a2]) (u := .agg #[.int .i64 a0, .int .i64 a1, .int .i64 a2]) rfl rfl rfl rfl rfl rfl (by rfl) (by kernel_rfl) rfl rfl (Nat.le_of_ble_eq_true rfl) Kpa.out ?_
 intro V3 hk hp
 replace Kpb := kp Kpb hp hne.out.symm
 replace KB := bp KB hp gpa.out
 replace Kpa := Aside0.mk hk
 clear hk hp
 refine hK.out _ _ ((six_below KB.out ⟨c0, c1, c2, c3, c4, c5⟩)) (fun hHeld => ?_)
 clear hK K
 refine ow 11 (none) (M 12 4095) fun K hK => ?_
 refine put_step (g := pb) (off := 0) (cur := #[.int .i64 0, .int .i64 0, .int .i64 0]) (new := #[.int .i64 b0, .int .i64 b1, .int .i64 b2]) (seg := [.int .i64 b0, .int .i64 b1, .int .i64 b2]) (u := .agg #[.int .i64 b0, .int .i64 b1, .int .i64 b2]) rfl rfl rfl rfl rfl rfl (by rfl) (by kernel_rfl) rfl rfl (Nat.le_of_ble_eq_true rfl) Kpb.out ?_
 intro V4 hk hp
 replace Kpa := kp Kpa hp hne.out
 replace KB := bp KB hp gpb.out
 replace Kpb := Aside0.mk hk
 clear hk hp
 refine hK.out _ _ ((six_below KB.out ⟨c0, c1, c2, c3, c4, c5⟩)) (fun hHeld => ?_)
 clear hK K
 refine done_ (by kernel_rfl) ?_
 rotate_left
 refine value_ (w1 := ?_) (v := ?_) (by rfl) rfl ?_ ?_
 rotate_left 2
 · go_simp
   constructor
   · rfl
   · rfl
 obtain ⟨pb, hpb⟩ : ∃ x, x = V0.heap.size := ⟨_, rfl⟩
 obtain ⟨V1, hV⟩ : ∃ V, V = V0.alloc (.cells #[.int .i64 0, .int .i64 0, .int .i64 0] 247) := ⟨_, rfl⟩
 rw [← hV, ← hpb]
 have Kpb : Aside0 (V1.heap[pb]? = some (.cells #[.int .i64 0, .int .i64 0, .int .i64 0] 247 (0, 0))) := ⟨by rw [hV]; exact aZ hpb⟩
 have gpb : Aside0 (w.heap.size ≤ pb) := ⟨by have := KB.out.size; omega⟩
 replace KB : Aside0 (Below w.heap.size w V1) := ⟨by rw [hV]; exact below_alloc KB.out _⟩
 clear hV hpb
 refine hK.out _ _ ((six_below KB.out ⟨c0, c1, c2, c3, c4, c5⟩)) (fun hHeld => ?_)
 clear hK K
 refine norm_ (a' := ?_) ?_ ?_
 rotate_left
 · show Act.put _ (some 8) _ = _
   simp only [Act.put, List.setIfInBounds_toArray, List.set_cons_zero, List.set_cons_succ, i64_w, i32_w]
   rfl
 refine ow 8 (some 7) (M 12 1023) fun K hK => ?_
 refine value_ (w1 := ?_) (v := ?_) (by rfl) rfl ?_ ?_
 rotate_left 2
 · go_simp
   constructor
   · rfl
   · rfl
 obtain ⟨pa, hpa⟩ : ∃ x, x = V1.heap.size := ⟨_, rfl⟩
 obtain ⟨V2, hV⟩ : ∃ V, V = V1.alloc (.cells #[.int .i64 0, .int .i64 0, .int .i64 0] 247) := ⟨_, rfl⟩
 rw [← hV, ← hpa]
 have Kpa : Aside0 (V2.heap[pa]? = some (.cells #[.int .i64 0, .int .i64 0, .int .i64 0] 247 (0, 0))) := ⟨by rw [hV]; exact aZ hpa⟩
 have hne : Aside0 (pa ≠ pb) := ⟨by have := lt_blk Kpb.out; omega⟩
 replace Kpb : Aside0 (V2.heap[pb]? = some (.cells #[.int .i64 0, .int .i64 0, .int .i64 0] 247 (0, 0))) := ⟨by rw [hV]; exact aN Kpb.out⟩
 have gpa : Aside0 (w.heap.size ≤ pa) := ⟨by have := KB.out.size; omega⟩
 replace KB : Aside0 (Below w.heap.size w V2) := ⟨by rw [hV]; exact below_alloc KB.out _⟩
 clear hV hpa
 refine hK.out _ _ ((six_below KB.out ⟨c0, c1, c2, c3, c4, c5⟩)) (fun hHeld => ?_)
 clear hK K
 refine norm_ (a' := ?_) ?_ ?_
 rotate_left
 · show Act.put _ (some 7) _ = _
   simp only [Act.put, List.setIfInBounds_toArray, List.set_cons_zero, List.set_cons_succ, i64_w, i32_w]
   rfl
 refine ow 10 (none) (M 12 2047) fun K hK => ?_
 refine put_step (g := pa) (off := 0) (cur := #[.int .i64 0, .int .i64 0, .int .i64 0]) (new := #[.int .i64 a0, .int .i64 a1, .int .i64 a2]) (seg := [.int .i64 a0, .int .i64 a1, .int .i64 a2]) (u := .agg #[.int .i64 a0, .int .i64 a1, .int .i64 a2]) rfl rfl rfl rfl rfl rfl (by rfl) (by kernel_rfl) rfl rfl (Nat.le_of_ble_eq_true rfl) Kpa.out ?_
 intro V3 hk hp
 replace Kpb := kp Kpb hp hne.out.symm
 replace KB := bp KB hp gpa.out
 replace Kpa := Aside0.mk hk
 clear hk hp
 refine hK.out _ _ ((six_below KB.out ⟨c0, c1, c2, c3, c4, c5⟩)) (fun hHeld => ?_)
 clear hK K
 refine ow 11 (none) (M 12 4095) fun K hK => ?_
 refine put_step (g := pb) (off := 0) (cur := #[.int .i64 0, .int .i64 0, .int .i64 0]) (new := #[.int .i64 b0, .int .i64 b1, .int .i64 b2]) (seg := [.int .i64 b0, .int .i64 b1, .int .i64 b2]) (u := .agg #[.int .i64 b0, .int .i64 b1, .int .i64 b2]) rfl rfl rfl rfl rfl rfl (by rfl) (by kernel_rfl) rfl rfl (Nat.le_of_ble_eq_true rfl) Kpb.out ?_
 intro V4 hk hp
 replace Kpa := kp Kpa hp hne.out
 replace KB := bp KB hp gpb.out
 replace Kpb := Aside0.mk hk
 clear hk hp
 refine hK.out _ _ ((six_below KB.out ⟨c0, c1, c2, c3, c4, c5⟩)) (fun hHeld => ?_)
 clear hK K
 refine done_ (by kernel_rfl) ?_
 all_goals
  clear hHeld
  go_wp2
  refine start_ (n := 19) (S := fun w' => w'.cell? ⟨pa, 0, none⟩ = some (.int .i64 a0) ∧ w'.cell? ⟨pa, 1, none⟩ = some (.int .i64 a1) ∧ w'.cell? ⟨pa, 2, none⟩ = some (.int .i64 a2) ∧ w'.cell? ⟨pb, 0, none⟩ = some (.int .i64 b0) ∧ w'.cell? ⟨pb, 1, none⟩ = some (.int .i64 b1) ∧ w'.cell? ⟨pb, 2, none⟩ = some (.int .i64 b2)) (ds := []) (M 19 0) (by kernel_rfl) rfl rfl ⟨(blk_cell (w := V4.drew) Kpa.out 0).trans rfl, (blk_cell (w := V4.drew) Kpa.out 1).trans rfl, (blk_cell (w := V4.drew) Kpa.out 2).trans rfl, (blk_cell (w := V4.drew) Kpb.out 0).trans rfl, (blk_cell (w := V4.drew) Kpb.out 1).trans rfl, (blk_cell (w := V4.drew) Kpb.out 2).trans rfl⟩ (fun hHeld => ?_)
  obtain ⟨V5, hV5⟩ : ∃ V, V = V4.drew := ⟨_, rfl⟩
  replace Kpa := dwK Kpa hV5
  replace Kpb := dwK Kpb hV5
  replace KB : Aside0 (Below w.heap.size w V5) := ⟨by rw [hV5]; exact below_drew1 KB.out⟩
  rw [← hV5] at hHeld ⊢
  clear hV5
  refine pw 0 17 (M 19 1) ?_
  refine pw 2 19 (M 19 5) ?_
  refine pw 5 22 (M 19 37) ?_
  refine pw 7 24 (M 19 165) ?_
  refine pw 10 27 (M 19 1189) ?_
  refine pw 12 29 (M 19 5285) ?_
  refine tw 1 18 (M 19 5287) hHeld ?_
  refine tw 3 20 (M 19 5295) hHeld ?_
  refine tw 6 23 (M 19 5359) hHeld ?_
  refine tw 8 25 (M 19 5615) hHeld ?_
  refine tw 11 28 (M 19 7663) hHeld ?_
  refine tw 13 30 (M 19 15855) hHeld ?_
  refine ow 4 (some 21) (M 19 15871) fun K hK => ?_
  refine gow Tryz.func401 #[.int .i64 a2, .int .i64 b2] ?_
  refine (cmp_c a2 b2 _).mono ?_
  rintro e w1 ⟨rfl, hw⟩
  rw [hw]
  clear hw
  refine ⟨_, rfl, ?_⟩
  refine hK.out _ _ ⟨(blk_cell Kpa.out 0).trans rfl, (blk_cell Kpa.out 1).trans rfl, (blk_cell Kpa.out 2).trans rfl, (blk_cell Kpb.out 0).trans rfl, (blk_cell Kpb.out 1).trans rfl, (blk_cell Kpb.out 2).trans rfl⟩ (fun hHeld => ?_)
  clear hK K
  refine norm_ (a' := ?_) ?_ ?_
  rotate_left
  · show Act.put _ (some 21) _ = _
    simp only [Act.put, List.setIfInBounds_toArray, List.set_cons_zero, List.set_cons_succ, i64_w, i32_w]
    rfl
  refine ow 9 (some 26) (M 19 16383) fun K hK => ?_
  refine gow Tryz.func401 #[.int .i64 a1, .int .i64 b1] ?_
  refine (cmp_c a1 b1 _).mono ?_
  rintro e w1 ⟨rfl, hw⟩
  rw [hw]
  clear hw
  refine ⟨_, rfl, ?_⟩
  refine hK.out _ _ ⟨(blk_cell Kpa.out 0).trans rfl, (blk_cell Kpa.out 1).trans rfl, (blk_cell Kpa.out 2).trans rfl, (blk_cell Kpb.out 0).trans rfl, (blk_cell Kpb.out 1).trans rfl, (blk_cell Kpb.out 2).trans rfl⟩ (fun hHeld => ?_)
  clear hK K
  refine norm_ (a' := ?_) ?_ ?_
  rotate_left
  · show Act.put _ (some 26) _ = _
    simp only [Act.put, List.setIfInBounds_toArray, List.set_cons_zero, List.set_cons_succ, i64_w, i32_w]
    rfl
  refine ow 14 (some 31) (M 19 32767) fun K hK => ?_
  refine gow Tryz.func401 #[.int .i64 a0, .int .i64 b0] ?_
  refine (cmp_c a0 b0 _).mono ?_
  rintro e w1 ⟨rfl, hw⟩
  rw [hw]
  clear hw
  refine ⟨_, rfl, ?_⟩
  refine hK.out _ _ ⟨(blk_cell Kpa.out 0).trans rfl, (blk_cell Kpa.out 1).trans rfl, (blk_cell Kpa.out 2).trans rfl, (blk_cell Kpb.out 0).trans rfl, (blk_cell Kpb.out 1).trans rfl, (blk_cell Kpb.out 2).trans rfl⟩ (fun hHeld => ?_)
  clear hK K
  refine norm_ (a' := ?_) ?_ ?_
  rotate_left
  · show Act.put _ (some 31) _ = _
    simp only [Act.put, List.setIfInBounds_toArray, List.set_cons_zero, List.set_cons_succ, i64_w, i32_w]
    rfl
  refine ow 15 (some 32) (M 19 65535) fun K hK => ?_
  refine value_ (w1 := ?_) (v := ?_) (by rfl) rfl ?_ ?_
  rotate_left 2
  · go_simp
    constructor
    · rfl
    · rfl
  obtain ⟨ps, hps⟩ : ∃ x, x = V5.heap.size := ⟨_, rfl⟩
  obtain ⟨V6, hV⟩ : ∃ V, V = V5.alloc (.cells #[.int .i64 (cmpI a2 b2), .int .i64 (cmpI a1 b1), .int .i64 (cmpI a0 b0)] 3) := ⟨_, rfl⟩
  rw [← hV, ← hps]
  have Kps : Aside0 (V6.heap[ps]? = some (.cells #[.int .i64 (cmpI a2 b2), .int .i64 (cmpI a1 b1), .int .i64 (cmpI a0 b0)] 3 (0, 0))) := ⟨by rw [hV]; exact aZ hps⟩
  replace Kpa : Aside0 (V6.heap[pa]? = some (.cells #[.int .i64 a0, .int .i64 a1, .int .i64 a2] 247 (0, 0))) := ⟨by rw [hV]; exact aN Kpa.out⟩
  replace Kpb : Aside0 (V6.heap[pb]? = some (.cells #[.int .i64 b0, .int .i64 b1, .int .i64 b2] 247 (0, 0))) := ⟨by rw [hV]; exact aN Kpb.out⟩
  replace KB : Aside0 (Below w.heap.size w V6) := ⟨by rw [hV]; exact below_alloc KB.out _⟩
  clear hV hps
  refine hK.out _ _ ⟨(blk_cell Kpa.out 0).trans rfl, (blk_cell Kpa.out 1).trans rfl, (blk_cell Kpa.out 2).trans rfl, (blk_cell Kpb.out 0).trans rfl, (blk_cell Kpb.out 1).trans rfl, (blk_cell Kpb.out 2).trans rfl⟩ (fun hHeld => ?_)
  clear hK K
  refine norm_ (a' := ?_) ?_ ?_
  rotate_left
  · show Act.put _ (some 32) _ = _
    simp only [Act.put, List.setIfInBounds_toArray, List.set_cons_zero, List.set_cons_succ, i64_w, i32_w]
    rfl
  refine ow 16 (some 33) (M 19 131071) fun K hK => ?_
  refine gow Tryz.func400 #[.slice (some ⟨ps, 0, none⟩) 3 3] ?_
  refine (or_c ps 3 3 (by omega) (cmpI a2 b2) (by unfold cmpI; rw [if_neg (by omega), if_pos (by omega)]; decide) _ ((blk_cell Kps.out 0).trans rfl)).mono ?_
  rintro e w1 ⟨rfl, hw⟩
  rw [hw]
  clear hw
  have hc1 : cmpI a2 b2 = 1 := by unfold cmpI; rw [if_neg (by omega), if_pos (by omega)]
  rw [hc1]
  refine ⟨_, rfl, ?_⟩
  refine hK.out _ _ ⟨(blk_cell Kpa.out 0).trans rfl, (blk_cell Kpa.out 1).trans rfl, (blk_cell Kpa.out 2).trans rfl, (blk_cell Kpb.out 0).trans rfl, (blk_cell Kpb.out 1).trans rfl, (blk_cell Kpb.out 2).trans rfl⟩ (fun hHeld => ?_)
  clear hK K
  refine norm_ (a' := ?_) ?_ ?_
  rotate_left
  · show Act.put _ (some 33) _ = _
    simp only [Act.put, List.setIfInBounds_toArray, List.set_cons_zero, List.set_cons_succ, i64_w, i32_w]
    rfl
  refine pw 17 34 (M 19 262143) ?_
  refine pw 18 6 (M 19 524287) ?_
  refine done_ (by kernel_rfl) ?_
  go_wp2
  go_ret
  exact ⟨rfl, KB.out⟩
def enc3 (m : Int × Int × Int) : List Value := [.int .i64 m.1, .int .i64 m.2.1, .int .i64 m.2.2]
def PQ (W : World) (base p : Nat) (v : Value) (l : List (Int × Int × Int)) : Prop := W.heap[p]? = some (.cells #[v] 336 (0, 0)) ∧ W.ownsRow base 247 3 v l.length (l.flatMap enc3)
theorem pushM_c (base p : Nat) (v : Value) (l : List (Int × Int × Int)) (m0 m1 m2 : Int) (hl : l.length ≤ 1000) (w0 w : World) (hB : Below base w0 w) (hb : base ≤ p) (hq : PQ w base p v l) :
 Calls Tryz.prog 398 #[.pointer (some ⟨p, 0, none⟩), .iface 247 (.agg #[.int .i64 m0, .int .i64 m1, .int .i64 m2])] w fun e w' => (∃ x, e = .returned x) ∧ ∃ v', PQ w' base p v' (l ++ [(m0, m1, m2)]) ∧ Below base w0 w' ∧ KeepBut w w' p v.ownBlock ∧ (v'.ownBlock = v.ownBlock ∨ ∃ b, v'.ownBlock = some b ∧ w.heap.size ≤ b) := by
 have hu := Tryz.underlying336
 have hum := Tryz.underlying247
 obtain ⟨hq1, hq2⟩ := hq
 obtain ⟨A, c, rfl⟩ := own_slice hq2
 have KP := Aside0.mk hq1
 have O_V := Aside0.mk hq2
 have KB := Aside0.mk hB
 have KN := Aside0.mk hl
 clear hq1 hq2 hB hl
 go_enter Tryz.func398, Tryz.ntmps398
 have hta : ∀ (u : Value) (W : World), (Instr.typeAssert (.iface 247 u) 20 247 true).run Tryz.prog W = .ok (.tuple #[u, .bool true]) W := fun u W => by kernel_rfl
 go_wp2
 obtain ⟨q, hM⟩ : ∃ q, q = w.heap.size := ⟨_, rfl⟩
 obtain ⟨V0, hV0⟩ : ∃ V, V = w.alloc (.cells #[.int .i64 m0, .int .i64 m1, .int .i64 m2] 247) := ⟨_, rfl⟩
 have KM : Aside0 (V0.heap[q]? = some (.cells #[.int .i64 m0, .int .i64 m1, .int .i64 m2] 247 (0, 0))) := ⟨by rw [hV0]; exact aZ hM⟩
 have hpl := lt_blk KP.out
 have O_W := O_V
 replace KP : Aside0 (V0.heap[p]? = some (.cells #[.slice A l.length c] 336 (0, 0))) := ⟨by rw [hV0]; exact aN KP.out⟩
 replace O_V : Aside0 (V0.ownsRow base 247 3 (.slice A l.length c) l.length (l.flatMap enc3)) := ⟨by rw [hV0]; exact World.ownsRow.alloc O_V.out _⟩
 replace KB : Aside0 (Below base w0 V0) := ⟨by rw [hV0]; exact KB.out.alloc (by omega) _⟩
 have KW : Aside0 (Below w.heap.size w V0) := ⟨by rw [hV0]; exact below_alloc (Below.refl _ _) _⟩
 have HM := Aside0.mk hM
 have HP := Aside0.mk hpl
 rw [← hV0, ← hM]
 clear hV0 hM hpl
 have HNM : Aside0 (some q ≠ (Value.slice A l.length c).ownBlock) := ⟨fun e => by have := own_lt O_W.out q e.symm; have h2 := HM.out; omega⟩
 refine start_ (n := 9) (S := fun w' => w'.cell? ⟨p, 0, none⟩ = some (.slice A l.length c) ∧ w'.cell? ⟨q, 0, none⟩ = some (.int .i64 m0) ∧ w'.cell? ⟨q, 1, none⟩ = some (.int .i64 m1) ∧ w'.cell? ⟨q, 2, none⟩ = some (.int .i64 m2)) (ds := [8]) (M 9 0) (by kernel_rfl) rfl rfl ⟨(blk_cell (w := V0.drew) KP.out 0).trans rfl, (blk_cell (w := V0.drew) KM.out 0).trans rfl, (blk_cell (w := V0.drew) KM.out 1).trans rfl, (blk_cell (w := V0.drew) KM.out 2).trans rfl⟩ (fun hHeld => ?_)
 obtain ⟨V1, hV1⟩ : ∃ V, V = V0.drew := ⟨_, rfl⟩
 replace KP := dwK KP hV1
 replace KM := dwK KM hV1
 replace O_V := dwO O_V hV1
 replace KB : Aside0 (Below base w0 V1) := by rw [hV1]; exact ⟨below_drew1 KB.out⟩
 replace KW : Aside0 (Below w.heap.size w V1) := by rw [hV1]; exact ⟨below_drew1 KW.out⟩
 rw [← hV1] at hHeld ⊢
 clear hV1
 refine pw 0 12 (M 9 1) ?_
 refine pw 1 13 (M 9 3) ?_
 refine pw 2 14 (M 9 7) ?_
 refine tw 3 15 (M 9 15) hHeld ?_
 refine tw 4 16 (M 9 31) hHeld ?_
 refine ow 5 (some 17) (M 9 63) fun K hK => ?_
 refine value_ (w1 := ?_) (v := ?_) (by rfl) rfl ?_ ?_
 rotate_left 2
 · go_simp
   constructor
   · rfl
   · rfl
 refine hK.out _ _ ⟨(blk_cell (((below_alloc (Below.refl V1.heap.size V1) _).block _ (lt_blk KP.out)).trans KP.out) 0).trans rfl, (blk_cell (((below_alloc (Below.refl V1.heap.size V1) _).block _ (lt_blk KM.out)).trans KM.out) 0).trans rfl, (blk_cell (((below_alloc (Below.refl V1.heap.size V1) _).block _ (lt_blk KM.out)).trans KM.out) 1).trans rfl, (blk_cell (((below_alloc (Below.refl V1.heap.size V1) _).block _ (lt_blk KM.out)).trans KM.out) 2).trans rfl⟩ (fun hHeld => ?_)
 clear hK K
 refine norm_ (a' := ?_) ?_ ?_
 rotate_left
 · show Act.put _ (some 17) _ = _
   simp only [Act.put, List.setIfInBounds_toArray, List.set_cons_zero, List.set_cons_succ, i64_w, i32_w]
   rfl
 refine ow 6 (some 18) (M 9 127) fun K hK => ?_
 refine step_append_cells (w0 := w0) base (by rfl) (.tmp 15) (.tmp 17) 336 247 (.agg #[.int .i64 0, .int .i64 0, .int .i64 0]) 3 24 rfl hu (by kernel_rfl) rfl (by decide) (by decide) (.slice A l.length c) l.length (l.flatMap enc3) [.int .i64 m0, .int .i64 m1, .int .i64 m2] rfl ?hx rfl ?h1 O_V.out KB.out ?hbb ?hl ?_
 (case hx => rfl)
 (case h1 => simp [Value.oneCell'])
 (case hbb => have := lt_blk KP.out; omega)
 (case hl => have := KN.out; omega)
 intro v2 V2 ho hb2 hg hat
 obtain ⟨A2, c2, rfl⟩ := own_slice ho
 have hne := own_ne O_V.out KP.out (by decide)
 have hnm : some q ≠ (Value.slice A l.length c).ownBlock := fun e => absurd e (HNM.out)
 have KG := Aside0.mk hg
 have HAT := Aside0.mk hat
 have O_2 := Aside0.mk ho
 have KB2 := Aside0.mk hb2
 have KM2 := Aside0.mk ((hg.block _ (lt_blk KM.out) hnm).trans KM.out)
 have KP2 := Aside0.mk ((hg.block _ (lt_blk KP.out) hne).trans KP.out)
 clear ho hb2 hg hat hne hnm
 refine hK.out _ _ ⟨(blk_cell KP2.out 0).trans rfl, (blk_cell KM2.out 0).trans rfl, (blk_cell KM2.out 1).trans rfl, (blk_cell KM2.out 2).trans rfl⟩ (fun hHeld => ?_)
 clear hK K
 refine norm_ (a' := ?_) ?_ ?_
 rotate_left
 · show Act.put _ (some 18) _ = _
   simp only [Act.put, List.setIfInBounds_toArray, List.set_cons_zero, List.set_cons_succ, i64_w, i32_w]
   rfl
 refine pw 7 19 (M 9 255) ?_
 refine last_ (i := 8) (N := none) (M 9 511) rfl rfl (by kernel_rfl) (by decide) (fun K hK => ?_)
 refine put_step (g := p) (off := 0) (cur := #[.slice A l.length c]) (new := #[.slice A2 (l.length + 1) c2]) (seg := [.slice A2 (l.length + 1) c2]) (u := .slice A2 (l.length + 1) c2) rfl rfl rfl rfl rfl rfl (by rfl) (by kernel_rfl) rfl rfl (Nat.le_of_ble_eq_true rfl) KP2.out ?_
 intro V3 hk hp
 have KP3 := Aside0.mk hk
 have HPut := Aside0.mk hp
 clear hk hp
 refine hK.out _ _ ?_
 clear hK K
 refine done_ (by kernel_rfl) ?_
 go_wp2
 go_end0
 refine ⟨⟨_, rfl⟩, .slice A2 (l.length + 1) c2, ⟨?_, ?_⟩, ?_, ?_, ?_⟩
 · exact KP3.out
 · rw [List.length_append, List.flatMap_append]
   exact own_move O_2.out fun k hv => HPut.out.far k (fun e => own_ne O_2.out KP2.out (by decide) (by rw [hv, e]))
 · exact HPut.out.below KB2.out hb
 · have h1 := KG.out
   have h3 := lt_blk KP.out
   exact ⟨by rw [HPut.out.size]; exact Nat.le_trans KW.out.size h1.size, fun k hk n1 n2 => (HPut.out.far k n1).trans ((h1.block k (Nat.lt_of_lt_of_le hk KW.out.size) n2).trans (KW.out.block k hk))⟩
 · rcases HAT.out with h | ⟨b, h1, h2⟩
   · exact .inl h
   · exact .inr ⟨b, h1, Nat.le_trans KW.out.size h2⟩
theorem swapM_c (b c : Nat) (cur : Array Value) (a0 a1 a2 b0 b1 b2 : Int) (w : World) (hc : w.heap[b]? = some (.cells cur 247 (0, 0))) (h6 : cur.toList.take 6 = [.int .i64 b0, .int .i64 b1, .int .i64 b2, .int .i64 a0, .int .i64 a1, .int .i64 a2]) :
 Calls Tryz.prog 399 #[.slice (some ⟨b, 0, none⟩) 2 c, .int .i64 0, .int .i64 1] w fun e w' => (∃ x, e = .returned x) ∧ w'.heap[b]? = some (.cells ([Value.int .i64 a0, .int .i64 a1, .int .i64 a2, .int .i64 b0, .int .i64 b1, .int .i64 b2] ++ cur.toList.drop 6).toArray 247 (0, 0)) ∧ Put b w w' := by
 have hu := Tryz.underlying336
 have hum := Tryz.underlying247
 have hcur : cur.toList = [.int .i64 b0, .int .i64 b1, .int .i64 b2, .int .i64 a0, .int .i64 a1, .int .i64 a2] ++ cur.toList.drop 6 := by rw [← h6, List.take_append_drop]
 obtain ⟨tl, htl⟩ : ∃ tl, tl = cur.toList.drop 6 := ⟨_, rfl⟩
 rw [← htl] at hcur ⊢
 have hcu : cur = ([Value.int .i64 b0, .int .i64 b1, .int .i64 b2, .int .i64 a0, .int .i64 a1, .int .i64 a2] ++ tl).toArray := by rw [← hcur]
 have KC := Aside0.mk (hcu ▸ hc)
 clear hcur hcu htl h6 hc
 go_enter Tryz.func399, Tryz.ntmps399
 go_wp2
 refine start_ (n := 16) (S := fun w' => True) (ds := []) (M 16 0) (by kernel_rfl) rfl rfl trivial (fun hHeld => ?_)
 obtain ⟨V0, hV0⟩ : ∃ V, V = w.drew := ⟨_, rfl⟩
 replace KC := dwK KC hV0
 have PW : Aside0 (Put b w V0) := ⟨by rw [hV0]; exact ⟨rfl, rfl, rfl, rfl, fun _ _ => rfl⟩⟩
 rw [← hV0]
 clear hV0
 have e0 := (blk_cell KC.out 0).trans rfl
 have e1 := (blk_cell KC.out 1).trans rfl
 have e2 := (blk_cell KC.out 2).trans rfl
 have e3 := (blk_cell KC.out 3).trans rfl
 have e4 := (blk_cell KC.out 4).trans rfl
 have e5 := (blk_cell KC.out 5).trans rfl
 refine pw 0 6 (M 16 1) ?_
 refine pw 1 7 (M 16 3) ?_
 refine pw 2 8 (M 16 7) ?_
 refine pw 3 9 (M 16 15) ?_
 refine pw 4 10 (M 16 31) ?_
 refine pw 5 11 (M 16 63) ?_
 refine pw 6 12 (M 16 127) ?_
 refine pw 8 14 (M 16 383) ?_
 refine pw 9 15 (M 16 895) ?_
 refine pw 10 16 (M 16 1919) ?_
 refine two_ (i := 7) (j := 11) (Ni := some 13) (Nj := some 17) (M 16 2047) (M 16 3967) rfl rfl rfl rfl (by kernel_rfl) (by decide) (by decide) (fun K hK => ?_) (fun K hK => ?_)
 refine value_ (w1 := ?_) (v := ?_) (by rfl) rfl ?_ ?_
 rotate_left 2
 · go_simp
   constructor
   · rfl
   · rfl
 refine hK.out _ _ trivial (fun hHeld => ?_)
 clear hK K
 refine norm_ (a' := ?_) ?_ ?_
 rotate_left
 · show Act.put _ (some 13) _ = _
   simp only [Act.put, List.setIfInBounds_toArray, List.set_cons_zero, List.set_cons_succ, i64_w, i32_w]
   rfl
 refine ow 11 (some 17) (M 16 4095) fun K hK => ?_
 refine value_ (w1 := ?_) (v := ?_) (by rfl) rfl ?_ ?_
 rotate_left 2
 · go_simp
   constructor
   · rfl
   · rfl
 refine hK.out _ _ trivial (fun hHeld => ?_)
 clear hK K
 refine norm_ (a' := ?_) ?_ ?_
 rotate_left
 · show Act.put _ (some 17) _ = _
   simp only [Act.put, List.setIfInBounds_toArray, List.set_cons_zero, List.set_cons_succ, i64_w, i32_w]
   rfl
 refine pw 12 18 (M 16 8191) ?_
 refine ow 13 (none) (M 16 16383) fun K hK => ?_
 refine put_step (g := b) (off := 0) (cur := ([Value.int .i64 b0, Value.int .i64 b1, Value.int .i64 b2, Value.int .i64 a0, Value.int .i64 a1, Value.int .i64 a2] ++ tl).toArray) (new := ([Value.int .i64 a0, Value.int .i64 a1, Value.int .i64 a2, Value.int .i64 a0, Value.int .i64 a1, Value.int .i64 a2] ++ tl).toArray) (seg := [.int .i64 a0, .int .i64 a1, .int .i64 a2]) (u := .agg #[.int .i64 a0, .int .i64 a1, .int .i64 a2]) rfl rfl rfl rfl rfl rfl (by rfl) (by kernel_rfl) rfl (by simp) (by simp) KC.out ?_
 intro V1 hk hp
 replace KC := Aside0.mk hk
 replace PW := Aside0.mk (PW.out.trans hp)
 clear hk hp
 refine hK.out _ _ trivial (fun hHeld => ?_)
 clear hK K
 refine pw 14 19 (M 16 32767) ?_
 refine ow 15 (none) (M 16 65535) fun K hK => ?_
 refine put_step (g := b) (off := 3) (cur := ([Value.int .i64 a0, Value.int .i64 a1, Value.int .i64 a2, Value.int .i64 a0, Value.int .i64 a1, Value.int .i64 a2] ++ tl).toArray) (new := ([Value.int .i64 a0, Value.int .i64 a1, Value.int .i64 a2, Value.int .i64 b0, Value.int .i64 b1, Value.int .i64 b2] ++ tl).toArray) (seg := [.int .i64 b0, .int .i64 b1, .int .i64 b2]) (u := .agg #[.int .i64 b0, .int .i64 b1, .int .i64 b2]) rfl rfl rfl rfl rfl rfl (by rfl) (by kernel_rfl) rfl (by simp) (by simp) KC.out ?_
 intro V2 hk hp
 replace KC := Aside0.mk hk
 replace PW := Aside0.mk (PW.out.trans hp)
 clear hk hp
 refine hK.out _ _ trivial (fun hHeld => ?_)
 clear hK K
 refine done_ (by kernel_rfl) ?_
 rotate_left
 refine value_ (w1 := ?_) (v := ?_) (by rfl) rfl ?_ ?_
 rotate_left 2
 · go_simp
   constructor
   · rfl
   · rfl
 refine hK.out _ _ trivial (fun hHeld => ?_)
 clear hK K
 refine norm_ (a' := ?_) ?_ ?_
 rotate_left
 · show Act.put _ (some 17) _ = _
   simp only [Act.put, List.setIfInBounds_toArray, List.set_cons_zero, List.set_cons_succ, i64_w, i32_w]
   rfl
 refine ow 7 (some 13) (M 16 4095) fun K hK => ?_
 refine value_ (w1 := ?_) (v := ?_) (by rfl) rfl ?_ ?_
 rotate_left 2
 · go_simp
   constructor
   · rfl
   · rfl
 refine hK.out _ _ trivial (fun hHeld => ?_)
 clear hK K
 refine norm_ (a' := ?_) ?_ ?_
 rotate_left
 · show Act.put _ (some 13) _ = _
   simp only [Act.put, List.setIfInBounds_toArray, List.set_cons_zero, List.set_cons_succ, i64_w, i32_w]
   rfl
 refine pw 12 18 (M 16 8191) ?_
 refine ow 13 (none) (M 16 16383) fun K hK => ?_
 refine put_step (g := b) (off := 0) (cur := ([Value.int .i64 b0, Value.int .i64 b1, Value.int .i64 b2, Value.int .i64 a0, Value.int .i64 a1, Value.int .i64 a2] ++ tl).toArray) (new := ([Value.int .i64 a0, Value.int .i64 a1, Value.int .i64 a2, Value.int .i64 a0, Value.int .i64 a1, Value.int .i64 a2] ++ tl).toArray) (seg := [.int .i64 a0, .int .i64 a1, .int .i64 a2]) (u := .agg #[.int .i64 a0, .int .i64 a1, .int .i64 a2]) rfl rfl rfl rfl rfl rfl (by rfl) (by kernel_rfl) rfl (by simp) (by simp) KC.out ?_
 intro V1 hk hp
 replace KC := Aside0.mk hk
 replace PW := Aside0.mk (PW.out.trans hp)
 clear hk hp
 refine hK.out _ _ trivial (fun hHeld => ?_)
 clear hK K
 refine pw 14 19 (M 16 32767) ?_
 refine ow 15 (none) (M 16 65535) fun K hK => ?_
 refine put_step (g := b) (off := 3) (cur := ([Value.int .i64 a0, Value.int .i64 a1, Value.int .i64 a2, Value.int .i64 a0, Value.int .i64 a1, Value.int .i64 a2] ++ tl).toArray) (new := ([Value.int .i64 a0, Value.int .i64 a1, Value.int .i64 a2, Value.int .i64 b0, Value.int .i64 b1, Value.int .i64 b2] ++ tl).toArray) (seg := [.int .i64 b0, .int .i64 b1, .int .i64 b2]) (u := .agg #[.int .i64 b0, .int .i64 b1, .int .i64 b2]) rfl rfl rfl rfl rfl rfl (by rfl) (by kernel_rfl) rfl (by simp) (by simp) KC.out ?_
 intro V2 hk hp
 replace KC := Aside0.mk hk
 replace PW := Aside0.mk (PW.out.trans hp)
 clear hk hp
 refine hK.out _ _ trivial (fun hHeld => ?_)
 clear hK K
 refine done_ (by kernel_rfl) ?_
 go_wp2
 all_goals
  go_end0
  exact ⟨⟨_, rfl⟩, KC.out, PW.out⟩
theorem popM_c (base p b c : Nat) (m0 m1 m2 : Int) (w0 w : World) (hB : Below base w0 w) (hb : base ≤ p) (h2 : 2 ≤ c) (hp : w.heap[p]? = some (.cells #[.slice (some ⟨b, 0, none⟩) 2 c] 336 (0, 0))) (hbp : b ≠ p) (c3 : w.cell? ⟨b, 3, none⟩ = some (.int .i64 m0)) (c4 : w.cell? ⟨b, 4, none⟩ = some (.int .i64 m1)) (c5 : w.cell? ⟨b, 5, none⟩ = some (.int .i64 m2)) :
 Calls Tryz.prog 397 #[.pointer (some ⟨p, 0, none⟩)] w fun e w' => e = .returned (.iface 247 (.agg #[.int .i64 m0, .int .i64 m1, .int .i64 m2])) ∧ Below base w0 w' := by
 have hu := Tryz.underlying336
 have hum := Tryz.underlying247
 have z := (blk_cell hp 0).trans rfl
 obtain ⟨V, hV⟩ : ∃ V, V = w.alloc (.cells #[.int .i64 m0, .int .i64 m1, .int .i64 m2] 247) := ⟨_, rfl⟩
 have KM : V.heap[w.heap.size]? = some (.cells #[.int .i64 m0, .int .i64 m1, .int .i64 m2] 247 (0, 0)) := by rw [hV]; exact aZ rfl
 have KP : V.heap[p]? = some (.cells #[.slice (some ⟨b, 0, none⟩) 2 c] 336 (0, 0)) := by rw [hV]; exact aN hp
 have hpl := lt_blk hp
 have BV : Below base w0 V := by rw [hV]; exact hB.alloc (by omega) _
 have z1 := (blk_cell KP 0).trans rfl
 have f1 := blk_frozen KP 0
 obtain ⟨V2, hV2⟩ : ∃ V2, V2 = V.setCell ⟨p, 0, none⟩ (.slice (some ⟨b, 0, none⟩) 1 c) := ⟨_, rfl⟩
 have KM2 : V2.heap[w.heap.size]? = some (.cells #[.int .i64 m0, .int .i64 m1, .int .i64 m2] 247 (0, 0)) := by rw [hV2]; exact blk_far KM (by show w.heap.size ≠ p; omega) _
 have B2 : Below base w0 V2 := by rw [hV2]; exact below_set' BV hb
 have y0 := (blk_cell KM2 0).trans rfl
 have y1 := (blk_cell KM2 1).trans rfl
 have y2 := (blk_cell KM2 2).trans rfl
 have HV := Aside0.mk hV.symm
 have HV2 := Aside0.mk hV2.symm
 have KB := Aside0.mk B2
 clear hB hp hV hV2 KM KP KM2 BV B2 hpl
 go_enter Tryz.func397, Tryz.ntmps397
 go_wp2_with (first | (rw [HV.out]) | (rw [HV2.out]))
 go_ret
 exact ⟨rfl, KB.out⟩
end Go.Proofs.YtpmcfckechjppaaGreatDoor.Ps
