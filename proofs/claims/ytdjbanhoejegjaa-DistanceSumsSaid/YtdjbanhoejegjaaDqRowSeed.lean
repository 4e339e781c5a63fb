/- The laws' arguments, opened: slices of whole numbers, of structs of whole numbers. -/
import Derived.Test.YtdjbanhoejegjaaDqP0
import Derived.WalkKit
import Derived.ProofKit
import Derived.OpenShut
import Derived.ShutString
import Derived.ChangeOld
import Derived.Below
namespace Go.Proofs.Ytdjbanhoejegjaa.LikW
open Go.RowKit Go.Proofs.YtdjbanhoejegjaaW.PrintWords Go.Proofs.YtdjbanhoejegjaaW.PrintLast Go.Proofs.Ytdjbanhoejegjaa.P
set_option linter.unusedVariables false
set_option linter.unusedSimpArgs false

section
variable {H : Type} {enc : TypeId × Value → H} {P : Program} {w : World} {base : Nat} {sp : Nat → Bool} {held : Bool} {fuel : Nat} {t : TypeId} {cs : List Value} {x : DataW H × List MemPlace}
theorem open_slice {α : Type} (d : Kd α) {e : TypeId} (ht : P.underlying t = some (.slice e)) (hsz : P.cellsOf e = d.sz) (hel : ∀ (n : Nat) (c : List Value) (y : DataW H × List MemPlace), DataW.trod enc P w base sp held n e c = some y → ∃ p, d.K w p c) (h : DataW.trod enc P w base sp held fuel t cs = some x) :
    ∃ (A : Option Addr) (c : Nat) (l : List α), cs = [.slice A l.length c] ∧ l.length ≤ c ∧ Kd.C d w A l.length l := by
  rcases DataW.trod_slice ht h with ⟨rfl, _⟩ | ⟨a, len, cap, elems, rest, n, _, rfl, _, hb, hl, hm, hlen, hels, _, _⟩
  · exact ⟨none, 0, [], rfl, Nat.le_refl _, rfl, by simp, fun h => absurd h (by simp)⟩
  · have key : ∀ m, m ≤ len → ∃ l : List α, l.length = m ∧ ∀ j p, l[j]? = some p → ∃ c, c.length = d.sz ∧ d.K w p c ∧ ∀ i u, c[i]? = some u → w.cell? (a.add (j * d.sz + i)) = some u := by
      intro m
      induction m with
      | zero => intro _; exact ⟨[], rfl, fun j p h => by simp at h⟩
      | succ m ih =>
        intro hmm
        obtain ⟨l, hl1, hl2⟩ := ih (by omega)
        have h1 := hels m (by omega)
        rw [List.getElem?_eq_getElem (show m < elems.length by omega), Option.bind_eq_some_iff] at h1
        obtain ⟨c, hc, hy⟩ := h1
        obtain ⟨p, hp⟩ := hel _ _ _ hy
        obtain ⟨_, hcl, hcc⟩ := World.cells?_some hc
        refine ⟨l ++ [p], by simp [hl1], fun j q hq => ?_⟩
        by_cases hj : j < l.length
        · rw [List.getElem?_append_left hj] at hq
          exact hl2 j q hq
        · have hj2 : j = l.length := by
            have := (List.getElem?_eq_some_iff.1 hq).1
            simp at this
            omega
          subst hj2
          rw [List.getElem?_append_right (Nat.le_refl _), Nat.sub_self, List.getElem?_cons_zero, Option.some.injEq] at hq
          subst hq
          refine ⟨c, by rw [hcl, hsz], hp, fun i u hu => ?_⟩
          have hi : i < P.cellsOf e := by rw [← hcl]; exact (List.getElem?_eq_some_iff.1 hu).1
          have := hcc i hi
          rw [Addr.add_add, hsz] at this
          rw [hl1, this]
          exact hu
    obtain ⟨l, h1, h2⟩ := key len (Nat.le_refl _)
    refine ⟨some a, cap, l, by rw [h1], by omega, rfl, by rw [h1]; unfold maxLen at hm; omega, fun _ => ⟨a, rfl, h2⟩⟩
end
theorem cells_int {H : Type} {enc : TypeId × Value → H} {w : World} {base : Nat} {sp : Nat → Bool} {held : Bool} {fuel : Nat} {cs : List Value} {x : DataW H × List MemPlace} (h : DataW.trod enc Try.prog w base sp held fuel 3 cs = some x) : ∃ n : Int, cs = [.int .i64 n] := by
  obtain ⟨n, e, _, _⟩ := DataW.trod_int Try.underlying3 h
  exact ⟨n, e⟩
theorem cells_str {H : Type} {enc : TypeId × Value → H} {w : World} {base : Nat} {sp : Nat → Bool} {held : Bool} {fuel : Nat} {cs : List Value} {x : DataW H × List MemPlace} (h : DataW.trod enc Try.prog w base sp held fuel 9 cs = some x) : ∃ s : ByteArray, cs = [.string s] := by
  obtain ⟨n, e, _, _⟩ := DataW.trod_string Try.underlying9 h
  exact ⟨n, e⟩
theorem ints_slice {H : Type} {enc : TypeId × Value → H} {w : World} {base : Nat} {sp : Nat → Bool} {held : Bool} {fuel : Nat} {cs : List Value} {x : DataW H × List MemPlace} (h : DataW.trod enc Try.prog w base sp held fuel 23 cs = some x) :
    ∃ (A : Option Addr) (c : Nat) (l : List Int), cs = [.slice A l.length c] ∧ l.length ≤ c ∧ Kd.C (Kd.int .i64) w A l.length l :=
  open_slice (Kd.int .i64) Try.underlying23 (by kernel_rfl) (fun n c y h => by obtain ⟨m, e⟩ := cells_int h; exact ⟨m, e⟩) h
theorem c62 : Try.prog.cellsOf 62 = 7 := by kernel_rfl
theorem c3 : Try.prog.cellsOf 3 = 1 := by kernel_rfl
theorem c9 : Try.prog.cellsOf 9 = 1 := by kernel_rfl
theorem c22 : Try.prog.cellsOf 22 = 1 := by kernel_rfl
theorem c23 : Try.prog.cellsOf 23 = 1 := by kernel_rfl
theorem c25 : Try.prog.cellsOf 25 = 7 := by kernel_rfl
theorem c29 : Try.prog.cellsOf 29 = 3 := by kernel_rfl
theorem c30 : Try.prog.cellsOf 30 = 3 := by kernel_rfl
theorem c32 : Try.prog.cellsOf 32 = 13 := by kernel_rfl
theorem ofLen3 {α : Type} (l : List α) (h : l.length = 3) : ∃ a b c, l = [a, b, c] := by
  match l, h with
  | [a, b, c], _ => exact ⟨_, _, _, rfl⟩
theorem ofLen7 {α : Type} (l : List α) (h : l.length = 7) : ∃ a b c d e f g, l = [a, b, c, d, e, f, g] := by
  match l, h with
  | [a, b, c, d, e, f, g], _ => exact ⟨_, _, _, _, _, _, _, rfl⟩
theorem ofLen13 {α : Type} (l : List α) (h : l.length = 13) : ∃ a b c d e f g i j k m n o, l = [a, b, c, d, e, f, g, i, j, k, m, n, o] := by
  match l, h with
  | [a, b, c, d, e, f, g, i, j, k, m, n, o], _ => exact ⟨_, _, _, _, _, _, _, _, _, _, _, _, _, rfl⟩
section
variable {H : Type} {enc : TypeId × Value → H} {w : World} {base : Nat} {sp : Nat → Bool} {held : Bool} {fuel : Nat} {cs : List Value} {x : DataW H × List MemPlace}
theorem cells_62 (h : DataW.trod enc Try.prog w base sp held fuel 62 cs = some x) : ∃ p : S62, k62.K w p cs := by
  obtain ⟨xs, m, rfl, rfl, hlen, hxl, hall⟩ := DataW.trod_struct Try.underlying62 h
  rw [c62] at hlen
  obtain ⟨a, b, c, d, e, f, g, rfl⟩ := ofLen7 cs hlen
  obtain ⟨x0, x1, x2, x3, x4, x5, x6, rfl⟩ := ofLen7 xs (by simpa using hxl)
  obtain ⟨n0, e0⟩ := cells_int (by simpa [c3] using hall 0 _ rfl)
  obtain ⟨n1, e1⟩ := cells_int (by simpa [c3] using hall 1 _ rfl)
  obtain ⟨n2, e2⟩ := cells_int (by simpa [c3] using hall 2 _ rfl)
  obtain ⟨n3, e3⟩ := cells_int (by simpa [c3] using hall 3 _ rfl)
  obtain ⟨n4, e4⟩ := cells_int (by simpa [c3] using hall 4 _ rfl)
  obtain ⟨n5, e5⟩ := cells_int (by simpa [c3] using hall 5 _ rfl)
  obtain ⟨n6, e6⟩ := cells_int (by simpa [c3] using hall 6 _ rfl)
  refine ⟨⟨n0, n1, n2, n3, n4, n5, n6⟩, ?_⟩
  cases e0; cases e1; cases e2; cases e3; cases e4; cases e5; cases e6
  exact k62_mk w _
theorem seeds_slice (h : DataW.trod enc Try.prog w base sp held fuel 22 cs = some x) :
    ∃ (A : Option Addr) (c : Nat) (l : List S62), cs = [.slice A l.length c] ∧ l.length ≤ c ∧ Kd.C k62 w A l.length l :=
  open_slice k62 Try.underlying22 c62 (fun n c y h => cells_62 h) h
theorem cells_i3 (h : DataW.trod enc Try.prog w base sp held fuel 29 cs = some x) : ∃ a b c : Int, cs = [.int .i64 a, .int .i64 b, .int .i64 c] := by
  obtain ⟨xs, m, rfl, rfl, hlen, hxl, hall⟩ := DataW.trod_array Try.underlying29 h
  rw [c29] at hlen
  obtain ⟨a, b, c, rfl⟩ := ofLen3 cs hlen
  obtain ⟨x0, x1, x2, rfl⟩ := ofLen3 xs (by simpa using hxl)
  obtain ⟨n0, e0⟩ := cells_int (by simpa [c3] using hall 0 (by decide))
  obtain ⟨n1, e1⟩ := cells_int (by simpa [c3] using hall 1 (by decide))
  obtain ⟨n2, e2⟩ := cells_int (by simpa [c3] using hall 2 (by decide))
  cases e0; cases e1; cases e2
  exact ⟨_, _, _, rfl⟩
theorem cells_s3 (h : DataW.trod enc Try.prog w base sp held fuel 30 cs = some x) : ∃ a b c : ByteArray, cs = [.string a, .string b, .string c] := by
  obtain ⟨xs, m, rfl, rfl, hlen, hxl, hall⟩ := DataW.trod_array Try.underlying30 h
  rw [c30] at hlen
  obtain ⟨a, b, c, rfl⟩ := ofLen3 cs hlen
  obtain ⟨x0, x1, x2, rfl⟩ := ofLen3 xs (by simpa using hxl)
  obtain ⟨n0, e0⟩ := cells_str (by simpa [c9] using hall 0 (by decide))
  obtain ⟨n1, e1⟩ := cells_str (by simpa [c9] using hall 1 (by decide))
  obtain ⟨n2, e2⟩ := cells_str (by simpa [c9] using hall 2 (by decide))
  cases e0; cases e1; cases e2
  exact ⟨_, _, _, rfl⟩
structure IsSeed (w : World) (cs : List Value) : Prop where
  mk :: (out : ∃ (A0 : Option Addr) (c0 : Nat) (l0 : List S62) (A1 : Option Addr) (c1 : Nat) (l1 : List Int) (A2 : Option Addr) (c2 : Nat) (l2 : List Int) (A3 : Option Addr) (c3 : Nat) (l3 : List Int) (a b c : Int), cs = [.slice A0 l0.length c0, .slice A1 l1.length c1, .slice A2 l2.length c2, .slice A3 l3.length c3, .int .i64 a, .int .i64 b, .int .i64 c] ∧
    (Kd.C k62 w A0 l0.length l0 ∧ l0.length ≤ c0) ∧ (Kd.C (Kd.int .i64) w A1 l1.length l1 ∧ l1.length ≤ c1) ∧ (Kd.C (Kd.int .i64) w A2 l2.length l2 ∧ l2.length ≤ c2) ∧ (Kd.C (Kd.int .i64) w A3 l3.length l3 ∧ l3.length ≤ c3))
theorem cells_25 (h : DataW.trod enc Try.prog w base sp held fuel 25 cs = some x) : IsSeed w cs := by
  obtain ⟨xs, m, rfl, rfl, hlen, hxl, hall⟩ := DataW.trod_struct Try.underlying25 h
  rw [c25] at hlen
  obtain ⟨a, b, c, d, e, f, g, rfl⟩ := ofLen7 cs hlen
  obtain ⟨x0, x1, x2, x3, x4, x5, x6, rfl⟩ := ofLen7 xs (by simpa using hxl)
  obtain ⟨A0, k0, l0, e0, g0, h0⟩ := seeds_slice (by simpa [c22] using hall 0 _ rfl)
  obtain ⟨A1, k1, l1, e1, g1, h1⟩ := ints_slice (by simpa [c23] using hall 1 _ rfl)
  obtain ⟨A2, k2, l2, e2, g2, h2⟩ := ints_slice (by simpa [c23] using hall 2 _ rfl)
  obtain ⟨A3, k3, l3, e3, g3, h3⟩ := ints_slice (by simpa [c23] using hall 3 _ rfl)
  obtain ⟨n4, e4⟩ := cells_int (by simpa [c3] using hall 4 _ rfl)
  obtain ⟨n5, e5⟩ := cells_int (by simpa [c3] using hall 5 _ rfl)
  obtain ⟨n6, e6⟩ := cells_int (by simpa [c3] using hall 6 _ rfl)
  refine ⟨A0, k0, l0, A1, k1, l1, A2, k2, l2, A3, k3, l3, n4, n5, n6, ?_, ⟨h0, g0⟩, ⟨h1, g1⟩, ⟨h2, g2⟩, ⟨h3, g3⟩⟩
  cases e0; cases e1; cases e2; cases e3; cases e4; cases e5; cases e6
  rfl
theorem cells_32 (h : DataW.trod enc Try.prog w base sp held fuel 32 cs = some x) :
    ∃ (d0 d1 d2 s0 s1 s2 p0 p1 p2 lv : Int) (t0 t1 t2 : ByteArray), cs = [.int .i64 d0, .int .i64 d1, .int .i64 d2, .int .i64 s0, .int .i64 s1, .int .i64 s2, .int .i64 p0, .int .i64 p1, .int .i64 p2, .int .i64 lv, .string t0, .string t1, .string t2] := by
  obtain ⟨xs, m, rfl, rfl, hlen, hxl, hall⟩ := DataW.trod_struct Try.underlying32 h
  rw [c32] at hlen
  obtain ⟨a, b, c, d, e, f, g, i, j, k, m, n, o, rfl⟩ := ofLen13 cs hlen
  have hx5 : xs.length = 5 := by simpa using hxl
  have g0 := hall 0 _ rfl
  have g1 := hall 1 _ rfl
  have g2 := hall 2 _ rfl
  have g3 := hall 3 _ rfl
  have g4 := hall 4 _ rfl
  rw [List.getElem?_eq_getElem (by omega)] at g0 g1 g2 g3 g4
  obtain ⟨n0, n1, n2, e0⟩ := cells_i3 (by simpa [c29] using g0)
  obtain ⟨n3, n4, n5, e1⟩ := cells_i3 (by simpa [c29] using g1)
  obtain ⟨n6, n7, n8, e2⟩ := cells_i3 (by simpa [c29] using g2)
  obtain ⟨n9, e3⟩ := cells_int (by simpa [c3] using g3)
  obtain ⟨t0, t1, t2, e4⟩ := cells_s3 (by simpa [c30] using g4)
  cases e0; cases e1; cases e2; cases e3; cases e4
  exact ⟨_, _, _, _, _, _, _, _, _, _, _, _, _, rfl⟩
end
set_option maxRecDepth 100000 in
theorem open_agg {H : Type} {enc : TypeId × Value → H} {w : World} {b0 : Nat} {r : Reach} {base : Nat} {sp : Nat → Bool} {held : Bool} {t : TypeId} {v : Value} {d : DataW H} {p : List MemPlace} {fs : Array Field} (ht : Try.prog.underlying t = some (.struct fs)) (hv : Value.okWide Try.prog w r b0 t v) (h : DataW.Trod enc Try.prog w base sp held t v d p) :
    ∃ (cs : List Value) (fuel : Nat), v = .agg cs.toArray ∧ DataW.trod enc Try.prog w base sp held fuel t cs = some (d, p) := by
  unfold Value.okWide at hv
  rw [ht] at hv
  obtain ⟨cs, rfl, _, _⟩ := hv
  obtain ⟨fuel, hf⟩ := h
  exact ⟨cs.toList, fuel, by rw [Array.toArray_toList], hf⟩
set_option maxRecDepth 100000 in
theorem open_seed {H : Type} {enc : TypeId × Value → H} {w : World} {b0 : Nat} {r : Reach} {base : Nat} {sp : Nat → Bool} {held : Bool} {v : Value} {d : DataW H} {p : List MemPlace} (hv : Value.okWide Try.prog w r b0 25 v) (h : DataW.Trod enc Try.prog w base sp held 25 v d p) :
    ∃ (cs : List Value), v = .agg cs.toArray ∧ IsSeed w cs := by
  obtain ⟨cs, fuel, rfl, hf⟩ := open_agg Try.underlying25 hv h
  exact ⟨cs, rfl, cells_25 hf⟩
set_option maxRecDepth 100000 in
theorem open_ask {H : Type} {enc : TypeId × Value → H} {w : World} {b0 : Nat} {r : Reach} {base : Nat} {sp : Nat → Bool} {held : Bool} {v : Value} {d : DataW H} {p : List MemPlace} (hv : Value.okWide Try.prog w r b0 32 v) (h : DataW.Trod enc Try.prog w base sp held 32 v d p) :
    ∃ (d0 d1 d2 s0 s1 s2 p0 p1 p2 lv : Int) (t0 t1 t2 : ByteArray), v = .agg #[.int .i64 d0, .int .i64 d1, .int .i64 d2, .int .i64 s0, .int .i64 s1, .int .i64 s2, .int .i64 p0, .int .i64 p1, .int .i64 p2, .int .i64 lv, .string t0, .string t1, .string t2] := by
  obtain ⟨cs, fuel, rfl, hf⟩ := open_agg Try.underlying32 hv h
  obtain ⟨d0, d1, d2, s0, s1, s2, p0, p1, p2, lv, t0, t1, t2, rfl⟩ := cells_32 hf
  exact ⟨d0, d1, d2, s0, s1, s2, p0, p1, p2, lv, t0, t1, t2, rfl⟩
theorem trod_lt {H : Type} {enc : TypeId × Value → H} {w : World} {base : Nat} {sp : Nat → Bool} {held : Bool} {t : TypeId} {v : Value} {d : DataW H} {p : List MemPlace} (h : DataW.Trod enc Try.prog w base sp held t v d p) : ∀ x ∈ p, x.block < w.heap.size := by
  obtain ⟨fuel, hf⟩ := h
  exact DataW.trod_lt fuel t _ _ hf
end Go.Proofs.Ytdjbanhoejegjaa.LikW
