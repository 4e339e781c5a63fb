/- Made by a program of this seat's own (shake.py, merge.py): what the claim leans on: RfTopDerived, StrOrd, Tight, Fmaps, Round, Put, Row, Each, Base, GrandW, P0, P12, P4. -/
import Derived.Test.YtpmcfckechjppaaGreatDoorDd01
import Derived.Test.YtpmcfckechjppaaGreatDoorRows
import Derived.JoinedOf
import Derived.JoinedCond
import Derived.KernelRfl
import Derived.Test.YtpmcfckechjppaaGreatDoorProg
import Derived.WalkKit
import Derived.Outline
import Derived.MapKept
import Derived.WideMake
import Derived.RangeFuncRecord
import Derived.RangeFuncBox
import Derived.RangeFuncFrom
import Derived.RangeFuncNested
import Derived.RangeFuncBound
import Derived.RangeFuncCalls
import Derived.RangeFuncLeaves
import Derived.OrdersIn
import Derived.Below
import Derived.OwnWalk
import Derived.Lib.ConvBytes
import Derived.Laws.BytesArg
import Derived.Laws.Slices
import Derived.Laws.Rows
import Derived.RowKit3
import Derived.Deep.QuietTactic
import Derived.BigQuiet
import Derived.WideLaws
import Derived.LoopTactic
import Derived.Laws.Strings
import Derived.Lib.LaidTab
import Derived.Deep.Draws
import Derived.Deep.AppendLies
import Derived.Maps.AppendAt
import Derived.Laws.MakeOwn
import Derived.Laws.OwnMore
import Derived.Deep.OwnRows
import Derived.Tactics
import Derived.Deep.LoopGhost
import Derived.Deep.DeepCutAuto
import Derived.Deep.CutBlock
import Derived.Deep.RegionHeld3
import Derived.Lib.AppendStr
import Derived.ArgAppend
import Derived.Laws.IdiomCopy
import Derived.OrdersHeld
import Derived.Laws.BitsLemmas
import Derived.RowKit
import Derived.Laws.StructEq
set_option linter.unusedVariables false
set_option linter.unusedSimpArgs false
set_option maxRecDepth 100000
set_option maxHeartbeats 8000000
namespace Go.Proofs.YtpmcfckechjppaaGreatDoor.topDerived
theorem k0 : (Rows.topDerivedRow.wf (OpenSpec.ofChange Rows.topDerivedSpec)) = true := by kernel_rfl
theorem k1 : (laidOutB Tryz.prog) = true := by kernel_rfl
theorem k2 : (mapsRowed Tryz.prog) = true := by kernel_rfl
theorem k3 : (Tryz.f3.params.all (Tryz.prog.readableRec ·)) = true := by kernel_rfl
theorem k4 : (namedTie Tryz.prog Rows.topDerivedRow.named Rows.topDerivedSpec.vars) = true := by kernel_rfl
theorem k5 : ((Rows.topDerivedRow.stops == [])) = true := by kernel_rfl
theorem k6 : ((Tryz.prog.stops == [])) = true := by kernel_rfl
theorem k7 : ((Rows.topDerivedRow.knobs == [])) = true := by kernel_rfl
theorem k8 : ((Tryz.prog.stopKnobs == [])) = true := by kernel_rfl
theorem k9 : ((Rows.topDerivedRow.inPlace == Tryz.prog.inPlace 3)) = true := by kernel_rfl
theorem k10 : ((Rows.topDerivedRow.unfollowed == Tryz.prog.unfollowed 3)) = true := by kernel_rfl
theorem k11 : ((Rows.topDerivedRow.recurses == Tryz.prog.recurses 3)) = true := by kernel_rfl
theorem k12 : ((Rows.topDerivedRow.named == Tryz.prog.varsNamed 3)) = true := by kernel_rfl
theorem k13 : ((Rows.topDerivedRow.maps == (Tryz.f3.params.toList ++ Rows.topDerivedSpec.plain.varTypes Tryz.prog).any (Tryz.prog.mapsRec ·))) = true := by kernel_rfl
theorem k14 : ((Rows.topDerivedRow.ifaces == (Tryz.f3.params.toList ++ Rows.topDerivedSpec.plain.varTypes Tryz.prog).any (Tryz.prog.ifacesRec ·))) = true := by kernel_rfl
theorem k15 : ((Rows.topDerivedRow.mapsOut == Tryz.prog.mapsAmong Tryz.f3.resultTypes.toList)) = true := by kernel_rfl
theorem k16 : ((Rows.topDerivedRow.loops == (Tryz.f3.params.toList ++ Rows.topDerivedSpec.plain.varTypes Tryz.prog).any (Tryz.prog.loopsFrom ·))) = true := by kernel_rfl
theorem k17 : ((Rows.topDerivedRow.wideKeys == (Tryz.f3.params.toList ++ Rows.topDerivedSpec.plain.varTypes Tryz.prog ++ Tryz.f3.resultTypes.toList).any (Tryz.prog.wideKeysFrom ·))) = true := by kernel_rfl
theorem k18 : (Rows.topDerivedSpec.vars.all (Tryz.prog.varReadable ·)) = true := by kernel_rfl
theorem k19 : (Tryz.f3.resultTypes.all (fun t => Tryz.prog.readableRec t && decide (t < Tryz.prog.types.size))) = true := by kernel_rfl
theorem k20 : ((Rows.topDerivedRow.ifacesOut == Tryz.f3.resultTypes.toList.any (Tryz.prog.ifacesRec ·))) = true := by kernel_rfl
theorem k21 : ((Rows.topDerivedRow.loopsOut == Tryz.f3.resultTypes.toList.any (Tryz.prog.loopsFrom ·))) = true := by kernel_rfl
theorem k22 : ((Rows.topDerivedRow.plainKeys == Tryz.prog.plainKeys)) = true := by kernel_rfl
theorem k23 : (Rows.topDerivedRow.shortTexts.isNone) = true := by kernel_rfl
theorem k24 : (Tryz.prog.stopsHeard) = true := by kernel_rfl
theorem k25 : (Tryz.prog.mayEnter) = true := by kernel_rfl
theorem k26 : ((Rows.topDerivedRow.lifted == Tryz.prog.liftsFinal)) = true := by kernel_rfl
theorem k27 : ((Tryz.prog.make == some Rows.topDerivedRow.make)) = true := by kernel_rfl
theorem k29 : ((Rows.topDerivedRow.pinned == Rows.topDerivedRow.pinnedBy)) = true := by kernel_rfl
theorem k30 : ((Rows.topDerivedRow.veiled == (Tryz.f3.params.toList ++ Rows.topDerivedSpec.plain.varTypes Tryz.prog ++ Tryz.f3.resultTypes.toList).any (Tryz.prog.veiledRec ·))) = true := by kernel_rfl
theorem k31 : (Rows.topDerivedRow.veiledFits Tryz.prog Tryz.f3.params.toList (Tryz.f3.params.toList ++ Rows.topDerivedSpec.plain.varTypes Tryz.prog ++ Tryz.f3.resultTypes.toList)) = true := by kernel_rfl
theorem q2v {a b : Bool} (h : a = true) (k : b = true) : (a && b) = true := by rw [h, k]; rfl
theorem closed : joinedFacts Tryz.prog 3 Tryz.f3 Rows.topDerivedSpec Rows.topDerivedRow = true := by
 unfold joinedFacts
 exact (q2v (q2v (q2v (q2v (q2v (q2v (q2v (q2v (q2v (q2v (q2v (q2v (q2v (q2v (q2v (q2v (q2v (q2v (q2v (q2v (q2v (q2v (q2v (q2v (q2v (q2v (q2v (q2v (q2v (q2v (q2v k0 k1) k2) k3) k4) k5) k6) k7) k8) k9) k10) k11) k12) k13) k14) k15) k16) k17) k18) k19) k20) k21) k22) k23) k24) k25) k26) k27) (by kernel_rfl)) k29) k30) k31)
end Go.Proofs.YtpmcfckechjppaaGreatDoor.topDerived
namespace Go.Proofs.YtpmcfckechjppaaGreatDoor.StrOrd
open Go
theorem z3w : ∀ x y : List UInt8, (!(Op.bytesLess x y || x == y)) = Op.bytesLess y x
 | [], [] => by simp [Op.bytesLess]
 | [], _ :: _ => by simp [Op.bytesLess]
 | _ :: _, [] => by simp [Op.bytesLess]
 | a :: x, b :: y => by
  have ih := z3w x y
  simp only [Op.bytesLess, List.cons_beq_cons]
  by_cases h : a = b
  · subst h
    have h0 : ¬ a < a := UInt8.lt_irrefl a
    simpa [h0] using ih
  · have h1 : (a == b) = false := by simpa using h
    have h2 : (b == a) = false := by simpa using fun e => h e.symm
    rw [h1, h2]
    rcases UInt8.lt_or_lt_of_ne h with l | l
    · have l2 : ¬ b < a := UInt8.lt_asymm l
      simp [l, l2]
    · have l2 : ¬ a < b := UInt8.lt_asymm l
      simp [l, l2]
theorem v4y (x y : List UInt8) : (Op.bytesLess x y || x == y) = !Op.bytesLess y x := by
 rw [← z3w x y, Bool.not_not]
theorem binOp_gtr (t : TypeId) (a b : ByteArray) : binOp .gtr t (.string a) (.string b) = pure (.bool (Op.bytesLess b.toList a.toList)) := by
 rw [← z3w]
 simp [binOp, Op.stringOp]
theorem binOp_leq (t : TypeId) (a b : ByteArray) : binOp .leq t (.string a) (.string b) = pure (.bool !(Op.bytesLess b.toList a.toList)) := by
 rw [← v4y a.toList b.toList]
 simp [binOp, Op.stringOp]
end Go.Proofs.YtpmcfckechjppaaGreatDoor.StrOrd
namespace Go.Proofs.YtpmcfckechjppaaGreatDoor.P
open Go Go.RowKit Go.Proofs.YtpmcfckechjppaaGreatDoorW.PrintWords Go.Proofs.YtpmcfckechjppaaGreatDoorW.PrintLast
abbrev bN := @v9a
abbrev rN := @Kd.k7f
abbrev rD := @Kd.k9k
abbrev rA := @Kd.k6m
theorem bz {p q : Prop} (h1 : p := by first | rfl | (simp; done) | (simp [*]; done)) (h2 : q := by repeat (first | exact q0k.refl _ | apply q0k.step)) : p ∧ q := ⟨h1, h2⟩
theorem bq {w W : World} (h : Below w.heap.size w W := by repeat (first | with_reducible exact q0c.out (by assumption) | with_reducible apply q0b | with_reducible apply q0d | with_reducible apply q0m | with_reducible refine q0r ?_ (q0c.out (by assumption)) | exact q0c.out (by assumption))) : Below w.heap.size w W := h
theorem mq {p : Prop} (h : p := by (try simp only [List.map_toArray, List.map_cons, List.map_nil]); first | done | rfl | (simp only [List.length_drop, List.length_take]; rfl)) : p := h
theorem ak {p : Prop} (h : p) : q0c p := ⟨h⟩
class Peel (W : World) (w : outParam World) : Prop where
 below : Below w.heap.size w W
instance (priority := low) peel_refl (w : World) : Peel w w := ⟨Below.refl _ _⟩
instance peel_drewN (W w : World) (n : Nat) [h : Peel W w] : Peel (W.drewN n) w := ⟨q0d h.below n⟩
instance peel_drew (W w : World) [h : Peel W w] : Peel W.drew w := ⟨q0m h.below⟩
instance peel_alloc (W w : World) (o : Obj) [h : Peel W w] : Peel (W.alloc o) w := ⟨q0b h.below o⟩
theorem v5r {w W : World} (h : Below w.heap.size w W) (p : Addr) (v : Value) : Below (w.setCell p v).heap.size (w.setCell p v) (W.setCell p v) := by
 have z : (w.setCell p v).heap.size = w.heap.size := by simp [World.setCell]
 refine ⟨h.os, h.tape, h.output, by rw [z]; have := h.size; simpa [World.setCell] using this, fun k hk => ?_⟩
 rw [z] at hk
 simp only [World.setCell, Array.getElem?_modify, h.block k hk]
instance peel_set (W w : World) (p : Addr) (v : Value) [h : Peel W w] : Peel (W.setCell p v) (w.setCell p v) := ⟨v5r h.below p v⟩
theorem bx {W w : World} [h : Peel W w] {g : Nat} {t : TypeId} {cs : Array Value} (k : w.heap[g]? = some (.cells cs t (0, 0))) : W.heap[g]? = some (.cells cs t (0, 0)) := (h.below.block g (Array.getElem?_eq_some_iff.1 k).1).trans k
theorem rx {α : Type} {d : Kd α} {e : Nat} {W w : World} {base : Nat} {ok : Nat → Prop} {v : Value} {xs : List α} [h : Peel W w] (k : d.R e w base ok v xs) : d.R e W base ok v xs := Kd.z7s k h.below
theorem wS {w W : World} {g j : Nat} {v : Value} (h : Below w.heap.size w W) (hg : w.heap.size ≤ g) : Below w.heap.size w (W.setCell ⟨g, j, none⟩ v) := q0r h hg
theorem pA {α : Type} (l : List α) (i : Nat) (a : α) : l.toArray.setIfInBounds i a = (l.set i a).toArray := by simp
theorem pB {α : Type} (x : α) (l : List α) (a : α) : (x :: l).set 0 a = a :: l := rfl
theorem pC {α : Type} (x : α) (l : List α) (i : Nat) (a : α) : (x :: l).set (i + 1) a = x :: l.set i a := rfl
def M (n b : Nat) : Array Bool := ((List.range n).map fun i => b.testBit i).toArray
theorem cz2 {W : World} {g : Nat} {t : TypeId} {v0 v1 : Value} (h : W.heap[g]? = some (.cells #[v0, v1] t (0, 0))) : W.cell? ⟨g, 0, none⟩ = some v0 ∧ W.cell? ⟨g, 1, none⟩ = some v1 := ⟨(q0a h 0).trans rfl, (q0a h 1).trans rfl⟩
theorem cz3 {W : World} {g : Nat} {t : TypeId} {v0 v1 v2 : Value} (h : W.heap[g]? = some (.cells #[v0, v1, v2] t (0, 0))) : W.cell? ⟨g, 0, none⟩ = some v0 ∧ W.cell? ⟨g, 1, none⟩ = some v1 ∧ W.cell? ⟨g, 2, none⟩ = some v2 := ⟨(q0a h 0).trans rfl, (q0a h 1).trans rfl, (q0a h 2).trans rfl⟩
theorem fz3 {W : World} {g : Nat} {t : TypeId} {v0 v1 v2 : Value} (h : W.heap[g]? = some (.cells #[v0, v1, v2] t (0, 0))) : W.frozen? ⟨g, 0, none⟩ = false ∧ W.frozen? ⟨g, 1, none⟩ = false ∧ W.frozen? ⟨g, 2, none⟩ = false := ⟨q0e h 0, q0e h 1, q0e h 2⟩
theorem cz4 {W : World} {g : Nat} {t : TypeId} {v0 v1 v2 v3 : Value} (h : W.heap[g]? = some (.cells #[v0, v1, v2, v3] t (0, 0))) : W.cell? ⟨g, 0, none⟩ = some v0 ∧ W.cell? ⟨g, 1, none⟩ = some v1 ∧ W.cell? ⟨g, 2, none⟩ = some v2 ∧ W.cell? ⟨g, 3, none⟩ = some v3 := ⟨(q0a h 0).trans rfl, (q0a h 1).trans rfl, (q0a h 2).trans rfl, (q0a h 3).trans rfl⟩
theorem cz6 {W : World} {g : Nat} {t : TypeId} {v0 v1 v2 v3 v4 v5 : Value} (h : W.heap[g]? = some (.cells #[v0, v1, v2, v3, v4, v5] t (0, 0))) : W.cell? ⟨g, 0, none⟩ = some v0 ∧ W.cell? ⟨g, 1, none⟩ = some v1 ∧ W.cell? ⟨g, 2, none⟩ = some v2 ∧ W.cell? ⟨g, 3, none⟩ = some v3 ∧ W.cell? ⟨g, 4, none⟩ = some v4 ∧ W.cell? ⟨g, 5, none⟩ = some v5 := ⟨(q0a h 0).trans rfl, (q0a h 1).trans rfl, (q0a h 2).trans rfl, (q0a h 3).trans rfl, (q0a h 4).trans rfl, (q0a h 5).trans rfl⟩
theorem fz6 {W : World} {g : Nat} {t : TypeId} {v0 v1 v2 v3 v4 v5 : Value} (h : W.heap[g]? = some (.cells #[v0, v1, v2, v3, v4, v5] t (0, 0))) : W.frozen? ⟨g, 0, none⟩ = false ∧ W.frozen? ⟨g, 1, none⟩ = false ∧ W.frozen? ⟨g, 2, none⟩ = false ∧ W.frozen? ⟨g, 3, none⟩ = false ∧ W.frozen? ⟨g, 4, none⟩ = false ∧ W.frozen? ⟨g, 5, none⟩ = false := ⟨q0e h 0, q0e h 1, q0e h 2, q0e h 3, q0e h 4, q0e h 5⟩
theorem cz8 {W : World} {g : Nat} {t : TypeId} {v0 v1 v2 v3 v4 v5 v6 v7 : Value} (h : W.heap[g]? = some (.cells #[v0, v1, v2, v3, v4, v5, v6, v7] t (0, 0))) : W.cell? ⟨g, 0, none⟩ = some v0 ∧ W.cell? ⟨g, 1, none⟩ = some v1 ∧ W.cell? ⟨g, 2, none⟩ = some v2 ∧ W.cell? ⟨g, 3, none⟩ = some v3 ∧ W.cell? ⟨g, 4, none⟩ = some v4 ∧ W.cell? ⟨g, 5, none⟩ = some v5 ∧ W.cell? ⟨g, 6, none⟩ = some v6 ∧ W.cell? ⟨g, 7, none⟩ = some v7 := ⟨(q0a h 0).trans rfl, (q0a h 1).trans rfl, (q0a h 2).trans rfl, (q0a h 3).trans rfl, (q0a h 4).trans rfl, (q0a h 5).trans rfl, (q0a h 6).trans rfl, (q0a h 7).trans rfl⟩
theorem fz8 {W : World} {g : Nat} {t : TypeId} {v0 v1 v2 v3 v4 v5 v6 v7 : Value} (h : W.heap[g]? = some (.cells #[v0, v1, v2, v3, v4, v5, v6, v7] t (0, 0))) : W.frozen? ⟨g, 0, none⟩ = false ∧ W.frozen? ⟨g, 1, none⟩ = false ∧ W.frozen? ⟨g, 2, none⟩ = false ∧ W.frozen? ⟨g, 3, none⟩ = false ∧ W.frozen? ⟨g, 4, none⟩ = false ∧ W.frozen? ⟨g, 5, none⟩ = false ∧ W.frozen? ⟨g, 6, none⟩ = false ∧ W.frozen? ⟨g, 7, none⟩ = false := ⟨q0e h 0, q0e h 1, q0e h 2, q0e h 3, q0e h 4, q0e h 5, q0e h 6, q0e h 7⟩
theorem z2a {W : World} {g : Nat} {t : TypeId} {v0 v1 v2 v3 v4 v5 v6 v7 v8 v9 : Value} (h : W.heap[g]? = some (.cells #[v0, v1, v2, v3, v4, v5, v6, v7, v8, v9] t (0, 0))) : W.cell? ⟨g, 0, none⟩ = some v0 ∧ W.cell? ⟨g, 1, none⟩ = some v1 ∧ W.cell? ⟨g, 2, none⟩ = some v2 ∧ W.cell? ⟨g, 3, none⟩ = some v3 ∧ W.cell? ⟨g, 4, none⟩ = some v4 ∧ W.cell? ⟨g, 5, none⟩ = some v5 ∧ W.cell? ⟨g, 6, none⟩ = some v6 ∧ W.cell? ⟨g, 7, none⟩ = some v7 ∧ W.cell? ⟨g, 8, none⟩ = some v8 ∧ W.cell? ⟨g, 9, none⟩ = some v9 := ⟨(q0a h 0).trans rfl, (q0a h 1).trans rfl, (q0a h 2).trans rfl, (q0a h 3).trans rfl, (q0a h 4).trans rfl, (q0a h 5).trans rfl, (q0a h 6).trans rfl, (q0a h 7).trans rfl, (q0a h 8).trans rfl, (q0a h 9).trans rfl⟩
theorem v0i {W : World} {g : Nat} {t : TypeId} {v0 v1 v2 v3 v4 v5 v6 v7 v8 v9 : Value} (h : W.heap[g]? = some (.cells #[v0, v1, v2, v3, v4, v5, v6, v7, v8, v9] t (0, 0))) : W.frozen? ⟨g, 0, none⟩ = false ∧ W.frozen? ⟨g, 1, none⟩ = false ∧ W.frozen? ⟨g, 2, none⟩ = false ∧ W.frozen? ⟨g, 3, none⟩ = false ∧ W.frozen? ⟨g, 4, none⟩ = false ∧ W.frozen? ⟨g, 5, none⟩ = false ∧ W.frozen? ⟨g, 6, none⟩ = false ∧ W.frozen? ⟨g, 7, none⟩ = false ∧ W.frozen? ⟨g, 8, none⟩ = false ∧ W.frozen? ⟨g, 9, none⟩ = false := ⟨q0e h 0, q0e h 1, q0e h 2, q0e h 3, q0e h 4, q0e h 5, q0e h 6, q0e h 7, q0e h 8, q0e h 9⟩
theorem v3x {W : World} {g : Nat} {t : TypeId} {v0 v1 v2 v3 v4 v5 v6 v7 v8 v9 v10 v11 v12 v13 : Value} (h : W.heap[g]? = some (.cells #[v0, v1, v2, v3, v4, v5, v6, v7, v8, v9, v10, v11, v12, v13] t (0, 0))) : W.cell? ⟨g, 0, none⟩ = some v0 ∧ W.cell? ⟨g, 1, none⟩ = some v1 ∧ W.cell? ⟨g, 2, none⟩ = some v2 ∧ W.cell? ⟨g, 3, none⟩ = some v3 ∧ W.cell? ⟨g, 4, none⟩ = some v4 ∧ W.cell? ⟨g, 5, none⟩ = some v5 ∧ W.cell? ⟨g, 6, none⟩ = some v6 ∧ W.cell? ⟨g, 7, none⟩ = some v7 ∧ W.cell? ⟨g, 8, none⟩ = some v8 ∧ W.cell? ⟨g, 9, none⟩ = some v9 ∧ W.cell? ⟨g, 10, none⟩ = some v10 ∧ W.cell? ⟨g, 11, none⟩ = some v11 ∧ W.cell? ⟨g, 12, none⟩ = some v12 ∧ W.cell? ⟨g, 13, none⟩ = some v13 := ⟨(q0a h 0).trans rfl, (q0a h 1).trans rfl, (q0a h 2).trans rfl, (q0a h 3).trans rfl, (q0a h 4).trans rfl, (q0a h 5).trans rfl, (q0a h 6).trans rfl, (q0a h 7).trans rfl, (q0a h 8).trans rfl, (q0a h 9).trans rfl, (q0a h 10).trans rfl, (q0a h 11).trans rfl, (q0a h 12).trans rfl, (q0a h 13).trans rfl⟩
theorem j2h {W : World} {g : Nat} {t : TypeId} {v0 v1 v2 v3 v4 v5 v6 v7 v8 v9 v10 v11 v12 v13 : Value} (h : W.heap[g]? = some (.cells #[v0, v1, v2, v3, v4, v5, v6, v7, v8, v9, v10, v11, v12, v13] t (0, 0))) : W.frozen? ⟨g, 0, none⟩ = false ∧ W.frozen? ⟨g, 1, none⟩ = false ∧ W.frozen? ⟨g, 2, none⟩ = false ∧ W.frozen? ⟨g, 3, none⟩ = false ∧ W.frozen? ⟨g, 4, none⟩ = false ∧ W.frozen? ⟨g, 5, none⟩ = false ∧ W.frozen? ⟨g, 6, none⟩ = false ∧ W.frozen? ⟨g, 7, none⟩ = false ∧ W.frozen? ⟨g, 8, none⟩ = false ∧ W.frozen? ⟨g, 9, none⟩ = false ∧ W.frozen? ⟨g, 10, none⟩ = false ∧ W.frozen? ⟨g, 11, none⟩ = false ∧ W.frozen? ⟨g, 12, none⟩ = false ∧ W.frozen? ⟨g, 13, none⟩ = false := ⟨q0e h 0, q0e h 1, q0e h 2, q0e h 3, q0e h 4, q0e h 5, q0e h 6, q0e h 7, q0e h 8, q0e h 9, q0e h 10, q0e h 11, q0e h 12, q0e h 13⟩
theorem pu {P : Program} {md : Region.Mode} {ops : Array Oper} {Q : Exit → Act → World → Prop} {S : World → Prop} {ds : List Nat} (i : Nat) (N : Option Tmp) {oi : Oper} {v : Value} {fuel : Nat} {l : Array Bool} {a a' : Act} {w : World} {T : Bool × List (List Nat × List Nat)} (l' : Array Bool)
 (h : q0y P md ops Q S ds fuel l' a' w) (hi : ops[i]? = some oi := by rfl) (hN : oi.dst = N := by rfl) (hT : q0c (q9c md ops = T) := by assumption) (hc : j1s T l.toList l'.toList i = true := by kernel_rfl)
 (hQ : ∀ c a w, Q (.panic c) (a.put oi.dst v) w → Q (.panic c) a w := by exact fun _ _ _ h => h) (hw : Region.wanted oi (yielded ops a.tmps) = true := by rfl) (hr : ∀ w', (execOp a.eval oi).run P w' = .ok (.value v) w' := by intro w'; go_simp; with_reducible rfl)
 (ha : a.put N v = a' := by simp only [Act.put, pA, pB, pC, q6g, z1y]; rfl) : q0y P md ops Q S ds (fuel + 1) l a w :=
 k8i (i := i) (N := N) l' hi hN (j0i hT.out hc) hQ (Or.inl ⟨hw, hr⟩) ha h
end Go.Proofs.YtpmcfckechjppaaGreatDoor.P
namespace Go.Proofs.YtpmcfckechjppaaGreatDoor.Ps
open Go.RowKit Go.Proofs.YtpmcfckechjppaaGreatDoorW.PrintWords Go.Proofs.YtpmcfckechjppaaGreatDoorW.PrintLast
section
variable {T K E : TypeId} {d : TypeDesc} {W : World} {b : Nat} {es : Array MapEntry} {c : Nat} {k : Value}
theorem k2c (hT : Tryz.prog.underlying T = some (.map K E)) (hK : Tryz.prog.underlying K = some d) (hk : MapKept.IsKey d k) (h : W.heap[b]? = some (.map es c)) (v : Value) (hn : Instr.findNow d k es.toList 0 = some none) :
 (Instr.mapUpdate T (.map (some b)) k v).run Tryz.prog W = .ok () (W.putObj b (.map (es.push { key := k, val := v, born := c }) (c + 1))) := by
 have hc : (Instr.checkKey false 10000 K k).run Tryz.prog W = .ok () W := MapKept.run_checkKey (k := k) hK hk false 9999
 simp [Instr.mapUpdate, run_underlying hT, MapKept.run_getObj_map h, hc, MapKept.run_findKey hK hn, MapKept.run_setObj_map _ h, Result.andThen, World.putObj]
def k9g : Option (Nat × Value) → Value
 | some (_, v) => v
 | none => .nilFunc
theorem z9r (hT : Tryz.prog.underlying T = some (.map K E)) (hK : Tryz.prog.underlying K = some d) (hk : MapKept.IsKey d k) (hz : (zeroValue E).run Tryz.prog W = .ok .nilFunc W) (h : W.heap[b]? = some (.map es c)) (r : Option (Nat × Value)) (hf : Instr.findNow d k es.toList 0 = some r) :
 (Instr.lookup T (.map (some b)) k false).run Tryz.prog W = .ok (k9g r) W := by
 have hc : (Instr.checkKey es.isEmpty 10000 K k).run Tryz.prog W = .ok () W := MapKept.run_checkKey (k := k) hK hk _ 9999
 cases r with
 | none => simp [Instr.lookup, run_underlying hT, MapKept.run_getObj_map h, hc, MapKept.run_findKey hK hf, Result.andThen, hz, k9g]
 | some x => simp [Instr.lookup, run_underlying hT, MapKept.run_getObj_map h, hc, MapKept.run_findKey hK hf, Result.andThen, k9g]
end
theorem v7j {W : World} {b : Nat} {o : Obj} (h : W.heap[b]? = some o) (o2 : Obj) : (W.putObj b o2).heap[b]? = some o2 := (MapKept.heap_set h).1
theorem q8z {n b : Nat} {w W : World} (hn : n ≤ w.heap.size) (hb : n ≤ b) (h : Below n w W) (hs : n ≤ W.heap.size) (o : Obj) : Below n w (W.putObj b o) :=
 q9k h (some b) hs (grownBy_putObj' W b o) (fun k e => by cases e; exact hb)
theorem q3o {T K E : TypeId} {d : TypeDesc} {w W : World} {b : Nat} {es : Array MapEntry} {c : Nat} (hT : Tryz.prog.underlying T = some (.map K E)) (hK : Tryz.prog.underlying K = some d) (h : W.heap[b]? = some (.map es c)) (hB : Below w.heap.size w W) (hb : w.heap.size ≤ b) (k v : Value) (hk : MapKept.IsKey d k) (hn : Instr.findNow d k es.toList 0 = some none) :
 ∃ W2, (Instr.mapUpdate T (.map (some b)) k v).run Tryz.prog W = .ok () W2 ∧ W2.heap[b]? = some (.map (es.push { key := k, val := v, born := c }) (c + 1)) ∧ Below w.heap.size w W2 ∧ W2.heap.size = W.heap.size ∧ ∀ j, j ≠ b → W2.heap[j]? = W.heap[j]? :=
 ⟨_, k2c hT hK hk h v hn, v7j h _, q8z (Nat.le_refl _) hb hB hB.size _, by simp, fun j hj => World.putObj_heap_other hj⟩
end Go.Proofs.YtpmcfckechjppaaGreatDoor.Ps
namespace Go.Proofs.YtpmcfckechjppaaGreatDoor.Ps
open Go.RowKit Go.Proofs.YtpmcfckechjppaaGreatDoorW.PrintWords Go.Proofs.YtpmcfckechjppaaGreatDoorW.PrintLast Go.Proofs.YtpmcfckechjppaaGreatDoor.P
theorem v5d {n : Nat} {P : Program} {row : String} {args : Array Value} {w : World} {R : Value → World → Prop} {l : Nat} (h : Rows P row args w R) : RowsIn (Fence.wide.inRound l) n P row args w R := by
 intro c cs _
 obtain ⟨v, w', r, s⟩ := h c cs
 exact ⟨v, w', r, stepsIn_wide.2 s⟩
theorem v5h {n : Nat} {P : Program} {o : Oper} {a : Act} {w : World} {K : Act → World → Prop} {Q : Exit → Act → World → Prop} {l : Nat} (hd : ∀ c, o.op ≠ .defer c) (h : o.wp P a w K Q) : o.wpIn (Fence.wide.inRound l) n P a w K Q := by
 refine ⟨fun f _ => trivial, ?_⟩
 rw [Fence.inRound_round, Oper.semAt_eq _ _ _ hd]
 unfold Oper.wp at h
 generalize (execOp a.eval o).run P w = r at h ⊢
 cases r with
 | ok x w' =>
  cases x with
  | enter f args => exact ⟨fun e => by simp [Fence.wide] at e, (callsIn_wide.2 h).inRound l⟩
  | row r args => exact ⟨fun e => by simp [Fence.wide] at e, v5d h⟩
  | _ => first | exact h | exact h.elim
 | halt x w' => cases x <;> first | exact h | exact h.elim
theorem z0m {n : Nat} {P : Program} {md : Region.Mode} {ops : Array Oper} {Q : Exit → Act → World → Prop} {l : Nat} (hq : ¬ LetsOut Q) (hd : ∀ (i : Nat) (o : Oper), ops[i]? = some o → ∀ c : Call, o.op ≠ .defer c) : ∀ (fuel : Nat) (listed : Array Bool) (a : Act) (w : World), wpAny P md ops Q fuel listed a w → wpAnyIn (Fence.wide.inRound l) n P md ops Q fuel listed a w
 | 0, _, _, _, h => h
 | fuel + 1, listed, a, w, h => by
  refine ⟨h.1, fun i hi => ?_⟩
  have h2 := h.2 i hi
  unfold wpOp at h2
  unfold wpOpIn
  cases ho : ops[i]? with
  | none => rw [ho] at h2; exact z0m hq hd fuel _ _ _ h2
  | some o =>
   rw [ho] at h2
   simp only at h2 ⊢
   split
   · rename_i hw
     rw [if_pos hw] at h2
     exact Oper.wpIn_mono (fun a w k => z0m hq hd fuel _ _ _ k) (v5h (hd i o ho) (h2.resolve_right fun z => hq z.2))
   · rename_i hw
     rw [if_neg hw] at h2
     exact ⟨fun f _ => trivial, z0m hq hd fuel _ _ _ h2⟩
def v2l (ops : Array Oper) : Bool := ops.all fun o => match o.op with | .defer _ => false | _ => true
theorem z8p {ops : Array Oper} (h : v2l ops = true) : ∀ (i : Nat) (o : Oper), ops[i]? = some o → ∀ c : Call, o.op ≠ .defer c := fun i o ho c e => by
 have := (Array.all_eq_true_iff_forall_mem.1 h) o (Array.mem_of_getElem? ho)
 rw [e] at this
 cases this
theorem v0g {n : Nat} {P : Program} {ops : Array Oper} {Q : Exit → Act → World → Prop} {l : Nat} {id : Nat} {a : Act} {w : World} (hq : ¬ LetsOut Q) (hm : P.follows .mixedOrders = true) (hd : v2l ops = true)
 (h : wpAny P .any ops Q ops.size (Array.replicate ops.size false) a { w with drawn := w.drawn + 1 }) : (Code.region id ops true).wpIn (Fence.wide.inRound l) n P Q a w :=
 wpIn_region_any hm (z0m hq (z8p hd) _ _ _ _ h)
theorem z3k {n m : Nat} {P : Program} {ops : Array Oper} {Q : Exit → Act → World → Prop} {S : World → Prop} {ds : List Nat} {lp id : Nat} {a : Act} {w : World} (l : Array Bool) (hq : ¬ LetsOut Q) (hm : P.follows .mixedOrders = true) (hd : v2l ops = true) (hn : ops.size = n) (hl : Array.replicate n false = l) (hS : S w.drew)
 (h : S w.drew → q0y P .any ops Q S ds n l a w.drew) : (Code.region id ops true).wpIn (Fence.wide.inRound lp) m P Q a w := by
 subst hn
 subst hl
 exact v0g hq hm hd (q7t _ _ _ _ (h hS))
end Go.Proofs.YtpmcfckechjppaaGreatDoor.Ps
namespace Go.Proofs.YtpmcfckechjppaaGreatDoor.LikW
open Go.RowKit Go.Proofs.YtpmcfckechjppaaGreatDoorW.PrintWords Go.Proofs.YtpmcfckechjppaaGreatDoorW.PrintLast Go.Proofs.YtpmcfckechjppaaGreatDoor.P
structure Put (g : Nat) (W W1 : World) : Prop where
 os : W1.os = W.os
 tape : W1.tape = W.tape
 output : W1.output = W.output
 size : W1.heap.size = W.heap.size
 far : ∀ k, k ≠ g → W1.heap[k]? = W.heap[k]?
theorem Put.below {g n : Nat} {w0 W W1 : World} (h : Put g W W1) (hB : Below n w0 W) (hg : n ≤ g) : Below n w0 W1 :=
 ⟨h.os.trans hB.os, h.tape.trans hB.tape, h.output.trans hB.output, by rw [h.size]; exact hB.size, fun k hk => (h.far k (by omega)).trans (hB.block k hk)⟩
theorem Put.trans {g : Nat} {A B C : World} (h : Put g A B) (k : Put g B C) : Put g A C := ⟨k.os.trans h.os, k.tape.trans h.tape, k.output.trans h.output, k.size.trans h.size, fun i hi => (k.far i hi).trans (h.far i hi)⟩
theorem q0g {W : World} {g : Nat} {o : Obj} (h : W.heap[g]? = some o) : g < W.heap.size := (Array.getElem?_eq_some_iff.1 h).1
section
variable {P : Program} {ops : Array Oper} {rest : List Oper} {o : Oper} {a : Act} {Q : Exit → Act → World → Prop} {W : World}
theorem v4w {g off : Nat} {cur new : Array Value} {seg : List Value} {e t : TypeId} {p x : Operand} {u : Value} (ho : o.op = .store t p x) (hgd : o.guard = none) (hN : o.dst = none) (haddr : a.eval p = .pointer (some ⟨g, off, none⟩)) (hx : a.eval x = u) (hu : u.cells.toList = seg)
 (ht : (P.info? t).map (·.size) = some seg.length) (h1 : (seg.all fun q => q.oneCell') = true) (hnew : new.toList = cur.toList.take off ++ seg ++ cur.toList.drop (off + seg.length)) (hfit : off + seg.length ≤ cur.size) (hh : W.heap[g]? = some (.cells cur e (0, 0)))
 (h : ∀ w1, w1.heap[g]? = some (.cells new e (0, 0)) → Put g W w1 → wpList P ops Q rest a w1) : wpList P ops Q (o :: rest) a W := by
 obtain ⟨cur', h3, h4, h5⟩ := q8f seg off W cur hh hfit
 obtain ⟨s1, s2, s3, s4⟩ := q7q g seg off W
 have hrun : (Instr.storeAt t (.pointer (some ⟨g, off, none⟩)) u).run P W = .ok () (W.setCells g off seg) := z0g t u seg hh hu ht hfit (fun q hq => List.all_eq_true.1 h1 q hq)
 have hc : cur' = new := Array.toList_inj.1 (h5.trans hnew.symm)
 refine wpList_plain hgd fun K hK => ?_
 unfold Oper.wp execOp
 simp only [ho, haddr, hx, Sem.run_bind, Sem.run_pure, Result.andThen_ok, hrun]
 show K (a.put o.dst undef) _
 rw [hN]
 exact hK _ _ (h _ (by rw [h3, hc]) ⟨s1, s2, s3, s4, fun k hk => q8t seg off k hk⟩)
theorem pe (g off : Nat) (new : Array Value) (seg : List Value) {cur : Array Value} {e t : TypeId} {p x : Operand} {u : Value} (hh : W.heap[g]? = some (.cells cur e (0, 0)))
 (h : ∀ w1, w1.heap[g]? = some (.cells new e (0, 0)) → Put g W w1 → wpList P ops Q rest a w1) (ho : o.op = .store t p x := by rfl) (hgd : o.guard = none := by rfl) (hN : o.dst = none := by rfl) (haddr : a.eval p = .pointer (some ⟨g, off, none⟩) := by rfl) (hx : a.eval x = u := by rfl) (hu : u.cells.toList = seg := by rfl)
 (ht : (P.info? t).map (·.size) = some seg.length := by kernel_rfl) (h1 : (seg.all fun q => q.oneCell') = true := by rfl) (hnew : new.toList = cur.toList.take off ++ seg ++ cur.toList.drop (off + seg.length) := by rfl) (hfit : off + seg.length ≤ cur.size := by exact Nat.le_of_ble_eq_true rfl) : wpList P ops Q (o :: rest) a W := v4w ho hgd hN haddr hx hu ht h1 hnew hfit hh h
theorem q7e {cs : Array Value} {e : TypeId} {n : Nat} (hgd : o.guard = none) {N : Tmp} (_hd : o.dst = some N) (hrun : (execOp a.eval o).run P W = .ok (.value (.slice (some ⟨W.heap.size, 0, none⟩) n n)) (W.alloc (.cells cs e (0, 0))))
 (h : ∀ g, g = W.heap.size → ∀ w1, w1.heap[g]? = some (.cells cs e (0, 0)) → Below W.heap.size W w1 → wpList P ops Q rest (a.put o.dst (.slice (some ⟨g, 0, none⟩) n n)) w1) : wpList P ops Q (o :: rest) a W :=
 Kd.z9x hgd hrun (h _ rfl _ (z6p W _) (q0b (Below.refl _ _) _))
theorem q2d {Kc : Act → World → Prop} {g off : Nat} {cur new : Array Value} {seg : List Value} {e t : TypeId} {p x : Operand} {u : Value} (ho : o.op = .store t p x) (hgd : o.guard = none) (hN : o.dst = none) (haddr : a.eval p = .pointer (some ⟨g, off, none⟩)) (hx : a.eval x = u) (hu : u.cells.toList = seg) (hw : Region.wanted o (yielded ops a.tmps) = true)
 (ht : (P.info? t).map (·.size) = some seg.length) (h1 : (seg.all fun q => q.oneCell') = true) (hnew : new.toList = cur.toList.take off ++ seg ++ cur.toList.drop (off + seg.length)) (hfit : off + seg.length ≤ cur.size) (hh : W.heap[g]? = some (.cells cur e (0, 0)))
 (h : ∀ w1, w1.heap[g]? = some (.cells new e (0, 0)) → Put g W w1 → Kc a w1) : if Region.wanted o (yielded ops a.tmps) = true then Oper.wp P o a W Kc Q else Kc (a.put none undef) W := by
 obtain ⟨cur', h3, h4, h5⟩ := q8f seg off W cur hh hfit
 obtain ⟨s1, s2, s3, s4⟩ := q7q g seg off W
 have hrun : (Instr.storeAt t (.pointer (some ⟨g, off, none⟩)) u).run P W = .ok () (W.setCells g off seg) := z0g t u seg hh hu ht hfit (fun q hq => List.all_eq_true.1 h1 q hq)
 have hc : cur' = new := Array.toList_inj.1 (h5.trans hnew.symm)
 rw [if_pos hw]
 unfold Oper.wp execOp
 simp only [ho, haddr, hx, Sem.run_bind, Sem.run_pure, Result.andThen_ok, hrun]
 show Kc (a.put o.dst undef) _
 rw [hN]
 exact h _ (by rw [h3, hc]) ⟨s1, s2, s3, s4, fun k hk => q8t seg off k hk⟩
end
theorem kb {W W1 : World} {g : Nat} {o : Obj} (K : q0c (W.heap[g]? = some o)) (hb : Below W.heap.size W W1) : q0c (W1.heap[g]? = some o) := ⟨(hb.block _ (q0g K.out)).trans K.out⟩
theorem bb {w W W1 : World} (B : q0c (Below w.heap.size w W)) (hb : Below W.heap.size W W1) : q0c (Below w.heap.size w W1) := ⟨B.out.trans (hb.mono B.out.size)⟩
theorem kp {W W1 : World} {x g : Nat} {o : Obj} (K : q0c (W.heap[x]? = some o)) (hp : Put g W W1) (h : x ≠ g) : q0c (W1.heap[x]? = some o) := ⟨(hp.far _ h).trans K.out⟩
theorem bp {g n : Nat} {w W W1 : World} (B : q0c (Below n w W)) (hp : Put g W W1) (h : n ≤ g) : q0c (Below n w W1) := ⟨Put.below hp B.out h⟩
theorem kn {W : World} {x g : Nat} {o : Obj} (K : q0c (W.heap[x]? = some o)) (hg : g = W.heap.size) : q0c (x ≠ g) := ⟨by rw [hg]; exact Nat.ne_of_lt (q0g K.out)⟩
section
variable {P : Program} {ops : Array Oper} {rest : List Oper} {o : Oper} {a : Act} {Q : Exit → Act → World → Prop} {W : World}
theorem be (N : Tmp) (cs : Array Value) (t : TypeId) (h : ∀ g, g = W.heap.size → ∀ w1, w1.heap[g]? = some (.cells cs t (0, 0)) → Below W.heap.size W w1 → wpList P ops Q rest (a.put o.dst (.pointer (some ⟨g, 0, none⟩))) w1)
 (hgd : o.guard = none := by rfl) (hd : o.dst = some N := by rfl) (hrun : (execOp a.eval o).run P W = .ok (.value (.pointer (some ⟨W.heap.size, 0, none⟩))) (W.alloc (.cells cs t (0, 0))) := by first | (go_simp; done) | (go_simp; rfl)) : wpList P ops Q (o :: rest) a W :=
 k0j hgd hd hrun h
end
section
variable {P : Program} {md : Region.Mode} {ops : Array Oper} {Q : Exit → Act → World → Prop} {S : World → Prop} {ds : List Nat} {oi : Oper} {v : Value} {fuel : Nat} {l : Array Bool} {a a' : Act} {w : World}
theorem nw (N : Tmp) {a0 : Act} {v0 : Value} (h : q0y P md ops Q S ds fuel l a' w) (ha : a0.put (some N) v0 = a' := by simp only [Act.put, List.setIfInBounds_toArray, List.set_cons_zero, List.set_cons_succ, q6g, z1y]; rfl) : q0y P md ops Q S ds fuel l (a0.put (some N) v0) w := k5e ha h
theorem pw (i N : Nat) (l' : Array Bool) (h : q0y P md ops Q S ds fuel l' a' w) (hi : ops[i]? = some oi := by rfl) (hN : oi.dst = some N := by rfl) (hc : k9o md ops l l' i = true := by kernel_rfl)
 (hQ : ∀ c a w, Q (.panic c) (a.put oi.dst v) w → Q (.panic c) a w := by exact fun _ _ _ h => h) (hw : Region.wanted oi (yielded ops a.tmps) = true := by rfl) (hr : ∀ w', (execOp a.eval oi).run P w' = .ok (.value v) w' := by intro w'; go_simp; with_reducible rfl)
 (ha : a.put (some N) v = a' := by simp only [Act.put, List.setIfInBounds_toArray, List.set_cons_zero, List.set_cons_succ, q6g, z1y]; rfl) : q0y P md ops Q S ds (fuel + 1) l a w :=
 k8i (i := i) (N := some N) l' hi hN hc hQ (Or.inl ⟨hw, hr⟩) ha h
theorem tw (i N : Nat) (l' : Array Bool) (hS : S w) (h : q0y P md ops Q S ds fuel l' a' w) (hi : ops[i]? = some oi := by rfl) (hN : oi.dst = some N := by rfl) (hc : takeB md ops ds l l' i = true := by kernel_rfl)
 (hQ : ∀ c a w, Q (.panic c) (a.put oi.dst v) w → Q (.panic c) a w := by exact fun _ _ _ h => h) (hw : Region.wanted oi (yielded ops a.tmps) = true := by rfl) (hr : ∀ w', S w' → (execOp a.eval oi).run P w' = .ok (.value v) w' := by (intro w' hs; (repeat (obtain ⟨_, hs⟩ := hs)); go_simp; with_reducible rfl))
 (ha : a.put (some N) v = a' := by simp only [Act.put, List.setIfInBounds_toArray, List.set_cons_zero, List.set_cons_succ, q6g, z1y]; rfl) : q0y P md ops Q S ds (fuel + 1) l a w :=
 j1u (i := i) (N := some N) l' hi hN hc hQ (Or.inl ⟨hw, hr⟩) hS ha h
theorem ow (i : Nat) (N : Option Tmp) (l' : Array Bool) (h : ∀ K : Act → World → Prop, Shut (∀ a' w', S w' → (S w' → q0y P md ops Q S ds fuel l' a' w') → K a' w') → if Region.wanted oi (yielded ops a.tmps) = true then Oper.wp P oi a w K Q else K (a.put N undef) w)
 (hi : ops[i]? = some oi := by rfl) (hN : oi.dst = N := by rfl) (hc : z3v md ops l l' i = true := by kernel_rfl) (hd : i ∉ ds := by decide) : q0y P md ops Q S ds (fuel + 1) l a w :=
 j1p (i := i) (N := N) l' hi hN hc hd h
theorem gow {N : Option Tmp} {K : Act → World → Prop} {f : FuncId} {ar : Array Operand} {ts : Array TypeId} {fn : Func} (hf : P.funcs[f]? = some fn) (args : Array Value)
 (h : Calls P f args w fun e w' => ∃ v, e = .returned v ∧ K (a.put N v) w') (hop : oi.op = .call { callee := .value (.func f), args := ar, argTypes := ts } := by rfl) (hname : (fn.name == "runtime.NumGoroutine") = false := by kernel_rfl) (hb : fn.body.isSome = true := by rfl)
 (hw : Region.wanted oi (yielded ops a.tmps) = true := by rfl) (hN : oi.dst = N := by rfl) (hargs : ar.map a.eval = args := by (try simp only [List.map_toArray, List.map_cons, List.map_nil]); first | done | rfl) : if Region.wanted oi (yielded ops a.tmps) = true then Oper.wp P oi a w K Q else K (a.put N undef) w :=
 q5j hf hname hb args hw hN hop hargs h
end
def q3f (W : World) (base : Nat) (e : TypeId) (size n : Nat) (p : Value → Prop) (v : Value) : Prop := ∃ xs, W.ownsRow base e size v n xs ∧ ∀ u ∈ xs, p u
def isStr (u : Value) : Prop := ∃ s, u = .string s
def j2p (u : Value) : Prop := True
section
variable {W W1 : World} {base n size : Nat} {e : TypeId} {p : Value → Prop} {v v' : Value}
theorem q3f.nil (W : World) (base : Nat) (e : TypeId) (size : Nat) (p : Value → Prop) : q3f W base e size 0 p (.slice none 0 0) := ⟨[], q3a W base e size, fun _ h => absurd h List.not_mem_nil⟩
theorem q3f.below (h : q3f W base e size n p v) (hb : Below W.heap.size W W1) : q3f W1 base e size n p v := by
 obtain ⟨xs, ho, hp⟩ := h
 exact ⟨xs, q1o ho hb, hp⟩
theorem q3f.apart {g : Nat} {t : TypeId} {cs : Array Value} (h : q3f W base e size n p v) (hg : W.heap[g]? = some (.cells cs t (0, 0))) (hne : e ≠ t) : some g ≠ v.ownBlock := by
 obtain ⟨xs, ho, hp⟩ := h
 exact own_ne ho hg hne
theorem q3f.put {g : Nat} {t : TypeId} {cs : Array Value} (h : q3f W base e size n p v) (hk : Put g W W1) (hg : W.heap[g]? = some (.cells cs t (0, 0))) (hne : e ≠ t) : q3f W1 base e size n p v := by
 have ha := h.apart hg hne
 obtain ⟨xs, ho, hp⟩ := h
 exact ⟨xs, q2j ho (fun k hv => hk.far k (fun e => ha (by rw [hv, e]))), hp⟩
theorem q3f.fresh {g : Nat} (h : q3f W base e size n p v) (hg : g = W.heap.size) : some g ≠ v.ownBlock := by
 obtain ⟨xs, ho, hp⟩ := h
 intro he
 have := q8a ho g he.symm
 omega
theorem q3f.grown {row : Value} (h : q3f W base e size n p v) (hg : W.grownBy W1 row.ownBlock) (hne : q5b v row) : q3f W1 base e size n p v := by
 obtain ⟨xs, ho, hp⟩ := h
 exact ⟨xs, q2j ho (fun k hv => hg.block k (q8a ho k hv) (fun e => hne k hv e.symm)), hp⟩
theorem q3f.ne {b' s' n' : Nat} {e' : TypeId} {p' : Value → Prop} (h : q3f W base e size n p v) (h' : q3f W b' e' s' n' p' v') (hne : e ≠ e') : q5b v v' := by
 obtain ⟨xs, ho, _⟩ := h
 obtain ⟨ys, ho', _⟩ := h'
 exact z6o ho ho' hne
theorem q3f.z2o {v1 : Value} (h : q5b v v') (hat : v1.ownBlock = v.ownBlock ∨ ∃ b, v1.ownBlock = some b ∧ W.heap.size ≤ b) (ho : q3f W base e size n p v') : q5b v1 v' := by
 obtain ⟨xs, ho, _⟩ := ho
 exact z9b h hat ho
theorem q3f.slice (h : q3f W base e size n p v) : ∃ A c, v = .slice A n c := by
 obtain ⟨xs, ho, _⟩ := h
 exact q0u ho
theorem q3f.at_ {A : Option Addr} {c : Nat} (h : q3f W base e 1 n isStr (.slice A n c)) (i : Nat) (hi : i < n) : ∃ (g : Nat) (s : ByteArray), A = some ⟨g, 0, none⟩ ∧ n ≤ 9223372036854775807 ∧ W.cell? ⟨g, i, none⟩ = some (.string s) := by
 obtain ⟨xs, ⟨hl, ho⟩, hp⟩ := h
 rcases ho with ⟨_, rfl⟩ | ⟨g, cap, cur, he, hb, hh, h1, h2, h3, h4⟩
 · omega
 · injection he with hA hn hc
   have hx : i < xs.length := by omega
   obtain ⟨s, hs⟩ := hp _ (List.getElem_mem hx)
   refine ⟨g, s, hA, by simp only [maxLen] at h2; omega, ?_⟩
   have hcur : cur.toList[i]? = some (.string s) := by
    have : xs[i]? = some (.string s) := by rw [List.getElem?_eq_getElem hx, hs]
    rw [← h4, List.getElem?_take] at this
    split at this
    · exact this
    · cases this
   rw [Array.getElem?_toList] at hcur
   exact (q0a hh i).trans hcur
end
section
variable {P : Program} {ops : Array Oper} {rest : List Oper} {o : Oper} {a : Act} {Q : Exit → Act → World → Prop} {Kc : Act → World → Prop} {p : Value → Prop}
theorem v0t {w0 W : World} (base m : Nat) (hgd : o.guard = none) (s x : Operand) (t e : TypeId) (z : Value) (size bytes : Nat)
 (ho : o.op = .call { callee := .builtin .append, args := #[s, x], argTypes := #[t, t] })
 (ht : P.underlying t = some (.slice e)) (hinfo : (P.info? e).map (fun i => (i.zero, i.size, i.bytes)) = some (some z, size, bytes)) (hz : z.cells.size = size) (hs0 : 0 < size) (hb0 : 0 < bytes)
 (v : Value) (n : Nat) (ys : List Value) (hs : a.eval s = v) (hx : a.eval x = .slice (some ⟨W.heap.size, 0, none⟩) m m) (hys : ys.length = m * size) (h1 : ∀ u ∈ ys, u.oneCell' = true ∧ p u)
 (HO : q3f W base e size n p v) (HB : Below base w0 W) (hbase : base ≤ W.heap.size) (hl : (n + m) * bytes ≤ 140737488355328)
 (h : ∀ A c w1, q3f w1 base e size (n + m) p (.slice A (n + m) c) → Below base w0 w1 → W.grownBy w1 v.ownBlock → ((Value.slice A (n + m) c).ownBlock = v.ownBlock ∨ ∃ b, (Value.slice A (n + m) c).ownBlock = some b ∧ W.heap.size ≤ b) → wpList P ops Q rest (a.put o.dst (.slice A (n + m) c)) w1) :
 wpList P ops Q (o :: rest) a (W.alloc (.cells ys.toArray e)) := by
 obtain ⟨xs, hO, hp⟩ := HO
 obtain ⟨i0, hi, hzz⟩ := Option.map_eq_some_iff.1 hinfo
 simp only [Prod.mk.injEq] at hzz
 obtain ⟨hz0, hz1, hz2⟩ := hzz
 have hlen : n + m ≤ 140737488355328 := Nat.le_trans (Nat.le_mul_of_pos_right _ hb0) hl
 refine wpList_append_own_at (W.alloc (.cells ys.toArray e)) hgd s x t ho base e i0 z size bytes ht hi hz0 hz1 hz2 hz hs0 v n xs hs (hO.alloc _) ⟨W.heap.size, 0, none⟩ m m ys hx hys
  (by simpa using World.news_of_block (cs := ys.toArray) (t := e) (fr := (0, 0)) (heap_alloc_new W (.cells ys.toArray e))) (fun u hu => (h1 u hu).1) (by simp only [maxLen]; omega) hl (by simp; omega) ?_
 intro v1 w1 hown hg _ hat
 obtain ⟨A, c, rfl⟩ := q0u hown
 refine h A c w1 ⟨_, hown, fun u hu => (List.mem_append.1 hu).elim (hp u) (fun hu => (h1 u hu).2)⟩ ((HB.alloc hbase _).grown hg (by simp; omega) (q5i hO)) (World.grownBy.trans (World.grownBy_alloc W _ _) hg) ?_
 rcases hat with hat | hat
 · exact .inl hat
 · exact .inr ⟨_, hat, by simp⟩
theorem v8e {w0 W : World} (base : Nat) (hw : Region.wanted o (yielded ops a.tmps) = true) (s x : Operand) (t e : TypeId) (z : Value) (size bytes : Nat)
 (ho : o.op = .call { callee := .builtin .append, args := #[s, x], argTypes := #[t, t] })
 (ht : P.underlying t = some (.slice e)) (hinfo : (P.info? e).map (fun i => (i.zero, i.size, i.bytes)) = some (some z, size, bytes)) (hz : z.cells.size = size) (hs0 : 0 < size) (hb0 : 0 < bytes)
 (v : Value) (n : Nat) (ys : List Value) (hs : a.eval s = v) (hx : a.eval x = .slice (some ⟨W.heap.size, 0, none⟩) 1 1) (hys : ys.length = size) (h1 : ∀ u ∈ ys, u.oneCell' = true ∧ p u)
 (HO : q3f W base e size n p v) (HB : Below base w0 W) (hbase : base ≤ W.heap.size) (hl : (n + 1) * bytes ≤ 140737488355328)
 (h : ∀ A c w1, q3f w1 base e size (n + 1) p (.slice A (n + 1) c) → Below base w0 w1 → W.grownBy w1 v.ownBlock → ((Value.slice A (n + 1) c).ownBlock = v.ownBlock ∨ ∃ b, (Value.slice A (n + 1) c).ownBlock = some b ∧ W.heap.size ≤ b) → Kc (a.put o.dst (.slice A (n + 1) c)) w1) :
 if Region.wanted o (yielded ops a.tmps) = true then Oper.wp P o a (W.alloc (.cells ys.toArray e)) Kc Q else Kc (a.put o.dst undef) (W.alloc (.cells ys.toArray e)) := by
 obtain ⟨xs, hO, hp⟩ := HO
 refine q2u base hw s x t e z size bytes ho ht hinfo hz hs0 hb0 v n xs ys hs hx hys (fun u hu => (h1 u hu).1) hO HB hbase hl ?_
 intro v1 w1 hown hb hg hat
 obtain ⟨A, c, rfl⟩ := q0u hown
 exact h A c w1 ⟨_, hown, fun u hu => (List.mem_append.1 hu).elim (hp u) (fun hu => (h1 u hu).2)⟩ hb hg hat
end
end Go.Proofs.YtpmcfckechjppaaGreatDoor.LikW
namespace Go.Proofs.YtpmcfckechjppaaGreatDoor.Each
open Go.RowKit Go.Proofs.YtpmcfckechjppaaGreatDoorW.PrintWords Go.Proofs.YtpmcfckechjppaaGreatDoorW.PrintLast
def z0q (c : Int) : Int := if 65 ≤ c ∧ c ≤ 90 then c + 32 else c
def upI (c : Int) : Int := if 97 ≤ c ∧ c ≤ 122 then c - 32 else c
def k4q (_ : Nat) (c : Int) : Int := z0q c
def upF (_ : Nat) (c : Int) : Int := upI c
def k8a (i : Nat) (c : Int) : Int := if i = 0 then upI c else z0q c
def q3p (f : Nat → Int → Int) (s : ByteArray) : List Int := (List.range s.size).map fun j => f j (bt s j)

structure q7w (f : Nat → Int → Int) (s : ByteArray) (w : World) (k : Nat) (wr : World) : Prop where
 kle : k ≤ s.size
 bel : Below w.heap.size w wr
 lt : w.heap.size < wr.heap.size
 blk : ∃ cs : Array Value, wr.heap[w.heap.size]? = some (.cells cs 5 (cs.size, cs.size + 1)) ∧ s.size ≤ cs.size ∧ ∀ j, j < s.size → cs[j]? = some (.int .u8 (if j < k then f j (bt s j) else bt s j))

theorem v0z (s : ByteArray) (W : World) (j : Nat) (hj : j < s.size) : (Lib.bytesCells W 5 s)[j]? = some (.int .u8 (bt s j)) := by
 have h : bt s (j : Int) = ((s.data.toList.getD j 0).toNat : Int) := by
  unfold bt
  have h1 : ((j : Int)).toNat < s.size := by simpa using hj
  rw [dif_pos h1]
  simp only [Int.toNat_natCast]
  rw [List.getD_eq_getElem?_getD, Array.getElem?_toList, Array.getElem?_eq_getElem (show j < s.data.size from hj)]
  rfl
 rw [h]
 have h2 := Lib.bytesWorld_cell W 5 s j hj
 rwa [Go.cell_of_row _ _ _ _ _ _ (Lib.bytesWorld_at_new W 5 s)] at h2

theorem z3a (f : Nat → Int → Int) (s : ByteArray) (w : World) : q7w f s w 0 (Lib.bytesWorld w 5 s) where
 kle := Nat.zero_le _
 bel := v1z (Below.refl _ _) (Nat.le_refl _) 5 s
 lt := by rw [Lib.bytesWorld_size]; omega
 blk := ⟨_, Lib.bytesWorld_at_new w 5 s, by
  unfold Lib.bytesCells
  rw [Array.size_append, Array.size_map]
  exact Nat.le_add_right _ _, fun j hj => by simpa using v0z s w j hj⟩

theorem z7g {f : Nat → Int → Int} {s : ByteArray} {w : World} {k : Nat} {wr : World} (h : q7w f s w k wr) (hk : k < s.size) : wr.cell? ⟨w.heap.size, k, none⟩ = some (.int .u8 (bt s k)) := by
 obtain ⟨cs, hb, _, hc⟩ := h.blk
 rw [Go.cell_of_row _ _ _ _ _ _ hb, hc k hk, if_neg (Nat.lt_irrefl _)]

theorem z0x {f : Nat → Int → Int} {s : ByteArray} {w : World} {k : Nat} {wr : World} (h : q7w f s w k wr) (hk : k < s.size) : wr.frozen? ⟨w.heap.size, k, none⟩ = false := by
 obtain ⟨cs, hb, h2, hc⟩ := h.blk
 simp [World.frozen?, hb]
 omega

theorem z2l {f : Nat → Int → Int} {s : ByteArray} {w : World} {k : Nat} {wr : World} (h : q7w f s w k wr) (hk : k < s.size) (x : Int) (hx : x = f k (bt s k)) : q7w f s w (k + 1) (wr.setCell ⟨w.heap.size, k, none⟩ (.int .u8 x)) := by
 subst hx
 obtain ⟨cs, hb, h2, hc⟩ := h.blk
 refine ⟨by omega, h.bel.setCell (Nat.le_refl _) _, by simpa [World.setCell] using h.lt, cs.setIfInBounds k (.int .u8 (f k (bt s k))), ?_, by simpa using h2, fun j hj => ?_⟩
 · have hlt : w.heap.size < wr.heap.size := h.lt
   rw [Array.getElem?_eq_getElem hlt] at hb
   have hb' := Option.some.inj hb
   simp [World.setCell, Array.getElem?_modify, Array.getElem?_eq_getElem hlt, hb']
 · rw [Array.getElem?_setIfInBounds]
   by_cases e : k = j
   · subst e
     rw [if_pos rfl, if_pos (by omega), if_pos (by omega)]
   · rw [if_neg e, hc j hj]
     by_cases l : j < k
     · rw [if_pos l, if_pos (by omega)]
     · rw [if_neg l, if_neg (by omega)]

theorem v1b {f : Nat → Int → Int} {s : ByteArray} {w : World} {k : Nat} {wr : World} (h : q7w f s w k wr) (hk : ¬ k < s.size) (cap : Nat) :
 (convert 38 9 (.slice (some ⟨w.heap.size, 0, none⟩) s.size cap)).run Tryz.prog wr = .ok (.string (strOfNums (q3p f s))) wr := by
 obtain ⟨cs, hb, h2, hc⟩ := h.blk
 refine run_convert_bytes_arg wr 38 5 Tryz.underlying38 Tryz.underlying5 w.heap.size 0 s.size cap (q3p f s) (by simp [q3p]) (fun i hi => ?_) 9 Tryz.underlying9
 rw [Nat.zero_add, Go.cell_of_row _ _ _ _ _ _ hb, hc i hi, if_pos (by omega)]
 simp [q3p, List.getD_eq_getElem?_getD, List.getElem?_map, List.getElem?_range hi]


theorem z6m (s : ByteArray) (w : World) (hs : s.size ≤ 140737488351232) :
 Calls Tryz.prog 118 #[.string s, .func (Fn.func 119) #[] #[]] w fun e w' => e = .returned (.string (strOfNums (q3p k4q s))) ∧ Below w.heap.size w w' := by
 have hcv := fun W => q9u (P := Tryz.prog) 9 38 5 Tryz.underlying9 Tryz.underlying38 Tryz.underlying5 s W
 go_enter Tryz.func118, Tryz.ntmps118
 go_wp2
 go_loopw [12] (fun i wr => ∃ k : Nat, i = .int .i64 k ∧ q7w k4q s w k wr) (fun i _ => s.size - (intOf i).toNat)
 case atStart => exact ⟨0, rfl, z3a _ s w⟩
 case round =>
  clear hcv
  obtain ⟨k, rfl, hr⟩ := hrel
  have hR := aq hr
  clear hr
  by_cases hlt : k < s.size
  · have hcell := z7g hR.out hlt
    have hfr := z0x hR.out hlt
    obtain ⟨hb0, hb1⟩ := z2r s (k : Int)
    obtain ⟨c, hc⟩ : ∃ c, bt s (k : Int) = c := ⟨_, rfl⟩
    have hC := aq hc
    rw [hc] at hcell hb0 hb1
    clear hc
    rcases (show (¬ 65 ≤ c ∧ c ≤ 90) ∨ (65 ≤ c ∧ c ≤ 90) ∨ (65 ≤ c ∧ ¬ c ≤ 90) by omega) with ⟨h1, h2⟩ | ⟨h1, h2⟩ | ⟨h1, h2⟩
    all_goals
     go_wp2
     go_roundw
     case rel => exact ⟨k + 1, by go_num, z2l hR.out hlt _ (by rw [hC.out]; unfold k4q; unfold z0q; split <;> omega)⟩
     case measure => simp [intOf]; omega
  · have hend := v1b hR.out hlt
    go_wp2
    go_ret
    exact ⟨rfl, hR.out.bel⟩

theorem k6c (s : ByteArray) (w : World) (hs : s.size ≤ 140737488351232) :
 Calls Tryz.prog 118 #[.string s, .func (Fn.func 149) #[] #[]] w fun e w' => e = .returned (.string (strOfNums (q3p upF s))) ∧ Below w.heap.size w w' := by
 have hcv := fun W => q9u (P := Tryz.prog) 9 38 5 Tryz.underlying9 Tryz.underlying38 Tryz.underlying5 s W
 go_enter Tryz.func118, Tryz.ntmps118
 go_wp2
 go_loopw [12] (fun i wr => ∃ k : Nat, i = .int .i64 k ∧ q7w upF s w k wr) (fun i _ => s.size - (intOf i).toNat)
 case atStart => exact ⟨0, rfl, z3a _ s w⟩
 case round =>
  clear hcv
  obtain ⟨k, rfl, hr⟩ := hrel
  have hR := aq hr
  clear hr
  by_cases hlt : k < s.size
  · have hcell := z7g hR.out hlt
    have hfr := z0x hR.out hlt
    obtain ⟨hb0, hb1⟩ := z2r s (k : Int)
    obtain ⟨c, hc⟩ : ∃ c, bt s (k : Int) = c := ⟨_, rfl⟩
    have hC := aq hc
    rw [hc] at hcell hb0 hb1
    clear hc
    rcases (show (¬ 97 ≤ c ∧ c ≤ 122) ∨ (97 ≤ c ∧ c ≤ 122) ∨ (97 ≤ c ∧ ¬ c ≤ 122) by omega) with ⟨h1, h2⟩ | ⟨h1, h2⟩ | ⟨h1, h2⟩
    all_goals
     go_wp2
     go_roundw
     case rel => exact ⟨k + 1, by go_num, z2l hR.out hlt _ (by rw [hC.out]; unfold upF; unfold upI; split <;> omega)⟩
     case measure => simp [intOf]; omega
  · have hend := v1b hR.out hlt
    go_wp2
    go_ret
    exact ⟨rfl, hR.out.bel⟩

theorem k0z (s : ByteArray) (w : World) (hs : s.size ≤ 140737488351232) :
 Calls Tryz.prog 118 #[.string s, .func (Fn.func 151) #[] #[]] w fun e w' => e = .returned (.string (strOfNums (q3p k8a s))) ∧ Below w.heap.size w w' := by
 have hcv := fun W => q9u (P := Tryz.prog) 9 38 5 Tryz.underlying9 Tryz.underlying38 Tryz.underlying5 s W
 go_enter Tryz.func118, Tryz.ntmps118
 go_wp2
 go_loopw [12] (fun i wr => ∃ k : Nat, i = .int .i64 k ∧ q7w k8a s w k wr) (fun i _ => s.size - (intOf i).toNat)
 case atStart => exact ⟨0, rfl, z3a _ s w⟩
 case round =>
  clear hcv
  obtain ⟨k, rfl, hr⟩ := hrel
  have hR := aq hr
  clear hr
  by_cases hlt : k < s.size
  · have hcell := z7g hR.out hlt
    have hfr := z0x hR.out hlt
    obtain ⟨hb0, hb1⟩ := z2r s (k : Int)
    by_cases hk0 : k = 0
    · subst hk0
      obtain ⟨c, hc⟩ : ∃ c, bt s ((0 : Nat) : Int) = c := ⟨_, rfl⟩
      have hC := aq hc
      rw [hc] at hcell hb0 hb1
      clear hc
      rcases (show (¬ 97 ≤ c ∧ c ≤ 122) ∨ (97 ≤ c ∧ c ≤ 122) ∨ (97 ≤ c ∧ ¬ c ≤ 122) by omega) with ⟨h1, h2⟩ | ⟨h1, h2⟩ | ⟨h1, h2⟩
      all_goals
       go_wp2
       go_roundw
       case rel => exact ⟨0 + 1, by go_num, z2l hR.out hlt _ (by rw [hC.out]; unfold k8a; rw [if_pos rfl]; unfold upI; split <;> omega)⟩
       case measure => simp [intOf]; omega
    · have hk1 : ((k : Int) == 0) = false := by simpa using hk0
      obtain ⟨c, hc⟩ : ∃ c, bt s (k : Int) = c := ⟨_, rfl⟩
      have hC := aq hc
      rw [hc] at hcell hb0 hb1
      clear hc
      rcases (show (¬ 65 ≤ c ∧ c ≤ 90) ∨ (65 ≤ c ∧ c ≤ 90) ∨ (65 ≤ c ∧ ¬ c ≤ 90) by omega) with ⟨h1, h2⟩ | ⟨h1, h2⟩ | ⟨h1, h2⟩
      all_goals
       go_wp2
       go_roundw
       case rel => exact ⟨k + 1, by go_num, z2l hR.out hlt _ (by rw [hC.out]; unfold k8a; rw [if_neg hk0]; unfold z0q; split <;> omega)⟩
       case measure => simp [intOf]; omega
  · have hend := v1b hR.out hlt
    go_wp2
    go_ret
    exact ⟨rfl, hR.out.bel⟩

theorem k1w (s : ByteArray) (w : World) (hs : s.size ≤ 140737488351232) :
 Calls Tryz.prog 62 #[.string s] w fun e w' => e = .returned (.string (strOfNums (q3p k4q s))) ∧ Below w.heap.size w w' := by
 go_enter Tryz.func62, Tryz.ntmps62
 go_wp2_with (go_at_call 118; refine (z6m s _ hs).mono ?_; rintro e w' ⟨rfl, hb⟩)
 go_ret
 exact ⟨rfl, hb⟩

theorem k7l (s : ByteArray) (w : World) (hs : s.size ≤ 140737488351232) :
 Calls Tryz.prog 76 #[.string s] w fun e w' => e = .returned (.string (strOfNums (q3p upF s))) ∧ Below w.heap.size w w' := by
 go_enter Tryz.func76, Tryz.ntmps76
 go_wp2_with (go_at_call 118; refine (k6c s _ hs).mono ?_; rintro e w' ⟨rfl, hb⟩)
 go_ret
 exact ⟨rfl, hb⟩

theorem k1o (s : ByteArray) (w : World) (hs : s.size ≤ 140737488351232) :
 Calls Tryz.prog 77 #[.string s] w fun e w' => e = .returned (.string (strOfNums (q3p k8a s))) ∧ Below w.heap.size w w' := by
 go_enter Tryz.func77, Tryz.ntmps77
 go_wp2_with (go_at_call 118; refine (k0z s _ hs).mono ?_; rintro e w' ⟨rfl, hb⟩)
 go_ret
 exact ⟨rfl, hb⟩
end Go.Proofs.YtpmcfckechjppaaGreatDoor.Each
namespace Go.Proofs.YtpmcfckechjppaaGreatDoor.Base
open Go.RowKit Go.Proofs.YtpmcfckechjppaaGreatDoorW.PrintWords Go.Proofs.YtpmcfckechjppaaGreatDoorW.PrintLast Go.Proofs.YtpmcfckechjppaaGreatDoorW.PrintMore
open Go.Proofs.YtpmcfckechjppaaGreatDoor.Each
theorem Ev.const {α : Type} {o : Option α} {r : α} (h : o = some r) : Ev (fun _ => o) r := ⟨0, fun _ _ => h⟩
theorem Ev.q0x {α : Type} {c : Prop} [Decidable c] {a b : Nat → Option α} {r : α} (h : c) (k : Ev a r) : Ev (fun n => if c then a n else b n) r := by
 obtain ⟨K, k⟩ := k
 exact ⟨K, fun n hn => by simp only [if_pos h]; exact k n hn⟩
theorem Ev.q1l {α : Type} {c : Prop} [Decidable c] {a b : Nat → Option α} {r : α} (h : ¬ c) (k : Ev b r) : Ev (fun n => if c then a n else b n) r := by
 obtain ⟨K, k⟩ := k
 exact ⟨K, fun n hn => by simp only [if_neg h]; exact k n hn⟩
theorem Ev.z1u {α β : Type} {o : Option α} {f : Nat → α → Option β} {a : α} {r : β} (h : o = some a) (k : Ev (fun n => f n a) r) : Ev (fun n => o.bind (f n)) r := Ev.bind (Ev.const h) k
def z0d (x : Int) : Prop := 0 ≤ x ∧ x ≤ 255
theorem z1v (s : ByteArray) : ∀ x ∈ bytesOf s, z0d x := by
 intro x hx
 unfold bytesOf at hx
 obtain ⟨b, _, rfl⟩ := List.mem_map.1 hx
 have := b.toNat_lt
 unfold z0d
 omega
theorem z4k (l : List Int) (h : ∀ x ∈ l, z0d x) : bytesOf (strOfNums l) = l := by
 unfold bytesOf
 rw [strOfNums_data, List.map_map]
 conv => rhs; rw [← List.map_id l]
 apply List.map_congr_left
 intro x hx
 obtain ⟨h0, h1⟩ := h x hx
 simp only [Function.comp, id]
 rw [UInt8.toNat_ofNat']
 omega
theorem q6t {s t : ByteArray} (h : bytesOf s = bytesOf t) : s = t := by
 have h2 : s.data.toList = t.data.toList := by
  unfold bytesOf at h
  refine List.map_inj_right (f := fun b : UInt8 => (b.toNat : Int)) (fun a b hab => ?_) |>.1 h
  exact UInt8.toNat_inj.1 (by omega)
 exact ByteArray.ext (Array.toList_inj.1 h2)
theorem toList_data (s : ByteArray) : s.toList = s.data.toList := ByteArray.toList_eq s
theorem toList_inj {s t : ByteArray} : s.toList = t.toList ↔ s = t := by
 rw [toList_data, toList_data]
 exact ⟨fun h => ByteArray.ext (Array.toList_inj.1 h), fun h => by rw [h]⟩
theorem toList_nil {s : ByteArray} : s.toList = [] ↔ bytesOf s = [] := by
 rw [toList_data]
 unfold bytesOf
 exact List.map_eq_nil_iff.symm
theorem q9e (s t : ByteArray) : bytesOf (s ++ t) = bytesOf s ++ bytesOf t := by
 unfold bytesOf
 rw [ByteArray.data_append, Array.toList_append, List.map_append]
theorem q4x (s : ByteArray) (i j : Nat) : bytesOf (s.extract i j) = ((bytesOf s).drop i).take (j - i) := by
 unfold bytesOf
 rw [ByteArray.data_extract, Array.toList_extract, List.extract_eq_take_drop, List.map_take, List.map_drop]
theorem q6w (s : ByteArray) : s.size = (bytesOf s).length := (bytesOf_length s).symm
theorem z8t (s : ByteArray) (i : Nat) (x : Int) (h : (bytesOf s)[i]? = some x) : bt s (i : Int) = x := by
 have h2 := v5n s (i : Int)
 unfold rd at h2
 rw [← h2]
 simp [List.getD_eq_getElem?_getD, h]
theorem drop_at (s : ByteArray) (i : Nat) (h : i < s.size) : (bytesOf s).drop i = bt s (i : Int) :: (bytesOf s).drop (i + 1) := by
 have hl : i < (bytesOf s).length := by rw [bytesOf_length]; exact h
 rw [List.drop_eq_getElem_cons hl]
 rw [z8t s i _ (List.getElem?_eq_getElem hl)]
theorem take_at (s : ByteArray) (i : Nat) (h : i < s.size) : (bytesOf s).take (i + 1) = (bytesOf s).take i ++ [bt s (i : Int)] := by
 have hl : i < (bytesOf s).length := by rw [bytesOf_length]; exact h
 rw [List.take_add_one, List.getElem?_eq_getElem hl, z8t s i _ (List.getElem?_eq_getElem hl)]
 rfl
theorem q7f {i : Int} (h0 : 0 ≤ i) (h : i ≤ 281474976710656) : wrap64 (i + 1) = i + 1 := by
 unfold wrap64
 omega
theorem z4e (f : Int → Int) (s : ByteArray) : ((List.range s.size).map fun j => f (bt s (j : Nat))) = (bytesOf s).map f := by
 apply List.ext_getElem?
 intro i
 rw [List.getElem?_map, List.getElem?_map]
 by_cases h : i < s.size
 · have hl : i < (bytesOf s).length := by rw [bytesOf_length]; exact h
   rw [List.getElem?_range h, List.getElem?_eq_getElem hl, Option.map_some, Option.map_some, z8t s i _ (List.getElem?_eq_getElem hl)]
 · rw [List.getElem?_eq_none (by simpa using h), List.getElem?_eq_none (by rw [bytesOf_length]; omega)]
   rfl
theorem z9d {x : Int} (h : z0d x) : z0d (z0q x) := by unfold z0d z0q at *; split <;> omega
theorem v3s {f : Int → Int} (hf : ∀ x, z0d x → z0d (f x)) {l : List Int} (h : ∀ x ∈ l, z0d x) : ∀ x ∈ l.map f, z0d x := by
 intro x hx
 obtain ⟨y, hy, rfl⟩ := List.mem_map.1 hx
 exact hf y (h y hy)
theorem z6m (s : ByteArray) : bytesOf (strOfNums (q3p k4q s)) = (bytesOf s).map z0q := by
 have e : q3p k4q s = (bytesOf s).map z0q := z4e z0q s
 rw [e, z4k _ (v3s (fun _ => z9d) (z1v s))]
end Go.Proofs.YtpmcfckechjppaaGreatDoor.Base
namespace Go.Proofs.YtpmcfckechjppaaGreatDoor.GrandW
open Go.RowKit Go.Proofs.YtpmcfckechjppaaGreatDoorW.PrintWords Go.Proofs.YtpmcfckechjppaaGreatDoorW.PrintLast
def z0p : List ByteArray := [
 ⟨#[97, 114, 116, 45, 108, 111, 106, 98, 97, 110]⟩,
 ⟨#[99, 101, 108, 45, 103, 97, 117, 108, 105, 115, 104]⟩,
 ⟨#[101, 110, 45, 103, 98, 45, 111, 101, 100]⟩,
 ⟨#[105, 45, 97, 109, 105]⟩,
 ⟨#[105, 45, 98, 110, 110]⟩,
 ⟨#[105, 45, 100, 101, 102, 97, 117, 108, 116]⟩,
 ⟨#[105, 45, 101, 110, 111, 99, 104, 105, 97, 110]⟩,
 ⟨#[105, 45, 104, 97, 107]⟩,
 ⟨#[105, 45, 107, 108, 105, 110, 103, 111, 110]⟩,
 ⟨#[105, 45, 108, 117, 120]⟩,
 ⟨#[105, 45, 109, 105, 110, 103, 111]⟩,
 ⟨#[105, 45, 110, 97, 118, 97, 106, 111]⟩,
 ⟨#[105, 45, 112, 119, 110]⟩,
 ⟨#[105, 45, 116, 97, 111]⟩,
 ⟨#[105, 45, 116, 97, 121]⟩,
 ⟨#[105, 45, 116, 115, 117]⟩,
 ⟨#[110, 111, 45, 98, 111, 107]⟩,
 ⟨#[110, 111, 45, 110, 121, 110]⟩,
 ⟨#[115, 103, 110, 45, 98, 101, 45, 102, 114]⟩,
 ⟨#[115, 103, 110, 45, 98, 101, 45, 110, 108]⟩,
 ⟨#[115, 103, 110, 45, 99, 104, 45, 100, 101]⟩,
 ⟨#[122, 104, 45, 103, 117, 111, 121, 117]⟩,
 ⟨#[122, 104, 45, 104, 97, 107, 107, 97]⟩,
 ⟨#[122, 104, 45, 109, 105, 110]⟩,
 ⟨#[122, 104, 45, 109, 105, 110, 45, 110, 97, 110]⟩,
 ⟨#[122, 104, 45, 120, 105, 97, 110, 103]⟩]
def nameAt (i : Int) : ByteArray := z0p.getD i.toNat ⟨#[]⟩
theorem q7u : z0p.length = 26 := rfl
def z9v : Array Value := (z0p.map Value.string).toArray
theorem v6z (i : Nat) (hi : i < 26) : z9v[i]? = some (.string (nameAt (i : Int))) := by
 unfold z9v
 rw [List.getElem?_toArray, List.getElem?_map, List.getElem?_eq_getElem (by rw [q7u]; exact hi)]
 simp [nameAt, List.getD_eq_getElem?_getD, List.getElem?_eq_getElem (show i < z0p.length by rw [q7u]; exact hi)]
def G (w : World) : Prop := ∃ t fr, w.heap[0]? = some (.cells z9v t fr)
theorem G.below {w w' : World} (h : G w) (hb : Below w.heap.size w w') : G w' := by
 obtain ⟨t, fr, h⟩ := h
 exact ⟨t, fr, (hb.block _ (Array.getElem?_eq_some_iff.1 h).1).trans h⟩
theorem G.alloc {w : World} (h : G w) (o : Obj) : G (w.alloc o) := h.below (q0b (Below.refl _ _) o)
theorem G.drewN {w : World} (h : G w) (n : Nat) : G (w.drewN n) := h
theorem G.cell {w : World} (h : G w) (i : Nat) (hi : i < 26) : w.cell? ⟨0, i, none⟩ = some (.string (nameAt (i : Int))) := by
 obtain ⟨t, fr, h⟩ := h
 rw [Go.cell_of_row _ _ _ _ _ _ h, v6z i hi]
theorem z3s (i : Int) : (nameAt i).size ≤ 20 := by
 unfold nameAt
 rw [List.getD_eq_getElem?_getD]
 cases h : z0p[i.toNat]? with
 | none => decide
 | some s =>
  have : ∀ s ∈ z0p, s.size ≤ 20 := by decide
  exact this s (List.mem_of_getElem? h)
end Go.Proofs.YtpmcfckechjppaaGreatDoor.GrandW
namespace Go.Proofs.YtpmcfckechjppaaGreatDoor.P
open Go.RowKit Go.Proofs.YtpmcfckechjppaaGreatDoorW.PrintWords Go.Proofs.YtpmcfckechjppaaGreatDoorW.PrintLast Go.Proofs.YtpmcfckechjppaaGreatDoorW.PrintMore
attribute [local go_sem] StrOrd.binOp_gtr StrOrd.binOp_leq z7m z7a v0v v1k z4o z4r z7h z6v   -- for this text's walks alone
theorem info5 : (Tryz.prog.info? 5).map (fun i => (i.zero, i.size, i.bytes)) = some (some (.int .u8 0), 1, 1) := by kernel_rfl
theorem v5m : (Tryz.prog.info? 9).map (fun i => (i.zero, i.size, i.bytes)) = some (some (.string ⟨#[]⟩), 1, 16) := by kernel_rfl
theorem v7l : (Tryz.prog.info? 113).map (fun i => (i.zero, i.size, i.bytes)) = some (some (.agg #[(.int .i64 0), (.string ⟨#[]⟩)]), 2, 24) := by kernel_rfl
structure q9z where
 f0 : Int
 f1 : ByteArray
def j2i : q9z := ⟨(0 : Int), (⟨#[]⟩ : ByteArray)⟩
def k4j : Kd q9z := Kd.iso (Kd.pair (Kd.int .i64) Kd.string) (fun x : q9z => (x.f0, x.f1))
theorem v6r {w : World} {x : q9z} {cs : List Value} (h : k4j.K w x cs) : cs = [.int .i64 x.f0, .string x.f1] := by
 obtain ⟨_, _, rfl, rfl, rfl⟩ := h
 exact rfl
theorem v3l (w : World) (base : Nat) (ok : Nat → Prop) (x : q9z)  : k4j.M w base ok x [.int .i64 x.f0, .string x.f1] := ⟨[.int .i64 x.f0], [.string x.f1], rfl, rfl, rfl⟩
def q8r (xs : List q9z) (i : Int) : q9z := xs.getD i.toNat j2i
theorem k5g {w : World} {A : Option Addr} {n : Nat} {xs : List q9z} (h : Kd.C k4j w A n xs) (i : Int) (h0 : 0 ≤ i) (h1 : i < n) : ∃ ad , A = some ad ∧ w.cell? (ad.add (i.toNat * 2)) = some (.int .i64 (q8r xs i).f0) ∧ w.cell? ⟨(ad.add (i.toNat * 2)).block, (ad.add (i.toNat * 2)).off + 1, none⟩ = some (.string (q8r xs i).f1) := by
 obtain ⟨ad, c, e, _, hK, hc0⟩ := Kd.v9u h j2i i h0 h1
 have hc : ∀ j u, c[j]? = some u → w.cell? (ad.add (i.toNat * 2 + j)) = some u := hc0
 obtain rfl := v6r hK
 exact ⟨ad, e, hc 0 _ rfl, by rw [← q2c _ _ 1 (by omega)]; exact hc 1 _ rfl⟩

structure S65 where
 f0 : ByteArray
 f1 : (List ByteArray)
def k65 : Kd S65 := Kd.iso (Kd.pair Kd.string (Kd.slice 9 Kd.string)) (fun x : S65 => (x.f0, x.f1))
structure S92 where
 f0 : Int
 f1 : ByteArray
def k92 : Kd S92 := Kd.iso (Kd.pair (Kd.int .i64) Kd.string) (fun x : S92 => (x.f0, x.f1))
def q0n.l0 : Nat → List ByteArray → ByteArray → Int → Int → Option (Int)
 | 0, _, _, _, _ => none
 | k + 1, x0, x1, x7, x8 => if x8 < x7 then (if 0 ≤ x8 then (if x8 < (x0.length : Int) then (if x1.toList = (q7o ByteArray.empty x0 x8).toList then (some x8) else (q0n.l0 k x0 x1 x7 (wrap64 (x8 + 1)))) else (none)) else (none)) else (some (-1))
def q0n.f (k : Nat) (l0 : List ByteArray) (a1 : ByteArray) : Option (Int) := q0n.l0 k l0 a1 (l0.length : Int) 0
theorem q0n.calls (k : Nat) (A0 : Option Addr) (c0 : Nat) (l0 : List ByteArray) (a1 : ByteArray) (r : Int) (w : World) (hr0 : Kd.C Kd.string w A0 l0.length l0) (hc0 : l0.length ≤ c0) (h : q0n.f k l0 a1 = some r) :
 Calls Tryz.prog 169 #[.slice A0 l0.length c0, .string a1] w fun e w' => e = .returned (.int .i64 r) ∧ q0k w w' := by
 have HR0 := aq hr0
 have HC0 := aq hc0
 clear hr0 hc0
 have H : (q0n.l0 k l0 a1 (l0.length : Int) 0) = some r := h
 clear h
 have H' := aq H
 clear H
 go_enter Tryz.func169, Tryz.ntmps169
 go_wp2
 go_loopg [8] k (fun kq v8 w' => ∃ (x8_1 : Int), v8 = .int .i64 x8_1 ∧ q0c (q0n.l0 kq l0 a1 (l0.length : Int) x8_1 = some r) ∧ q0c (kq ≤ k) ∧ q0k w w')
 case atStart => exact ⟨(0), (by first | rfl | (simp; done) | (simp [*]; done)), H', ⟨Nat.le_refl _⟩, by repeat (first | exact q0k.refl _ | apply q0k.step)⟩
 case round =>
  clear H'
  try clear c1
  try clear p2
  obtain ⟨x8_1, rfl, HA, HK1, ⟨m1, rfl⟩⟩ := hrel
  cases gk with
  | zero => exact absurd HA.out (by simp [q0n.l0])
  | succ k1 =>
   have H := HA.out
   clear HA
   simp only [q0n.l0] at H
   by_cases c3 : x8_1 < (l0.length : Int)
   · rw [if_pos c3] at H
     have c3b0 : decide (x8_1 < (l0.length : Int)) = true := decide_eq_true c3
     clear c3
     by_cases c4 : 0 ≤ x8_1
     · rw [if_pos c4] at H
       have c4b0 : decide (0 ≤ x8_1) = true := decide_eq_true c4
       clear c4
       by_cases c5 : x8_1 < (l0.length : Int)
       · rw [if_pos c5] at H
         have c5b0 : decide (x8_1 < (l0.length : Int)) = true := decide_eq_true c5
         clear c5
         by_cases c6 : a1.toList = (q7o ByteArray.empty l0 x8_1).toList
         · rw [if_pos c6] at H
           have c6b0 : (a1.toList == (q7o ByteArray.empty l0 x8_1).toList) = true := beq_iff_eq.mpr c6
           have c6b1 : (a1.toList != (q7o ByteArray.empty l0 x8_1).toList) = false := bne_eq_false_iff_eq.mpr c6
           clear c6
           obtain rfl := Option.some.inj H
           have p412 : 0 ≤ (x8_1 : Int) := of_decide_eq_true (by first | (with_reducible assumption) | assumption)
           have q412 : x8_1 < (l0.length : Int) := of_decide_eq_true (by first | (with_reducible assumption) | assumption)
           obtain ⟨ad412, e412, hx412_0⟩ := Kd.q2o HR0.out x8_1 p412 q412
           cases e412
           replace p412 := eq_true p412
           replace q412 := eq_true q412
           go_wp2
           go_ret
           exact bz
         · rw [if_neg c6] at H
           have c6b0 : (a1.toList == (q7o ByteArray.empty l0 x8_1).toList) = false := beq_eq_false_iff_ne.mpr c6
           have c6b1 : (a1.toList != (q7o ByteArray.empty l0 x8_1).toList) = true := bne_iff_ne.mpr c6
           have H' := aq H
           clear H
           have p412 : 0 ≤ (x8_1 : Int) := of_decide_eq_true (by first | (with_reducible assumption) | assumption)
           have q412 : x8_1 < (l0.length : Int) := of_decide_eq_true (by first | (with_reducible assumption) | assumption)
           obtain ⟨ad412, e412, hx412_0⟩ := Kd.q2o HR0.out x8_1 p412 q412
           cases e412
           replace p412 := eq_true p412
           replace q412 := eq_true q412
           go_wp2
           go_roundg k1
           case measure => have := HK1.out; omega
           case rel => exact ⟨(wrap64 (x8_1 + 1)), (by first | rfl | (simp; done) | (simp [*]; done)), H', ⟨by have := HK1.out; omega⟩, by repeat (first | exact q0k.refl _ | apply q0k.step)⟩
       · rw [if_neg c5] at H
         exact absurd H (by simp)
     · rw [if_neg c4] at H
       exact absurd H (by simp)
   · rw [if_neg c3] at H
     have c3b0 : decide (x8_1 < (l0.length : Int)) = false := decide_eq_false c3
     clear c3
     obtain rfl := Option.some.inj H
     go_wp2
     go_ret
     exact bz

def q1t.f (k : Nat) (l0 : List ByteArray) (a1 : ByteArray) : Option (Bool) := (q0n.f k l0 a1).bind fun t413 => (some (decide (t413 ≥ 0)))
theorem q1t.calls (k : Nat) (A0 : Option Addr) (c0 : Nat) (l0 : List ByteArray) (a1 : ByteArray) (r : Bool) (w : World) (hr0 : Kd.C Kd.string w A0 l0.length l0) (hc0 : l0.length ≤ c0) (h : q1t.f k l0 a1 = some r) :
 Calls Tryz.prog 182 #[.slice A0 l0.length c0, .string a1] w fun e w' => e = .returned (.bool r) ∧ q0k w w' := by
 have HR0 := aq hr0
 have HC0 := aq hc0
 clear hr0 hc0
 have H : ((q0n.f k l0 a1).bind fun t413 => (some (decide (t413 ≥ 0)))) = some r := h
 clear h
 replace H := Option.bind_eq_some_iff.mp H
 obtain ⟨t413, A30, H⟩ := H
 replace H : (some (decide (t413 ≥ 0))) = some r := H
 have A3 := aq A30
 clear A30
 obtain rfl := Option.some.inj H
 go_enter Tryz.func182, Tryz.ntmps182
 go_wp2_with (first | ((with_reducible refine q0s (f := 169) rfl ?_); refine q2e (some 7) rfl rfl Tryz.func169 (by kernel_rfl) rfl #[.slice A0 l0.length c0, .string a1] rfl (by (try simp only [List.map_toArray, List.map_cons, List.map_nil]); first | done | rfl | (simp only [List.length_drop, List.length_take]; rfl)) ?_; (with_reducible refine (q0n.calls k _ _ l0 a1 t413 _ ?side1 ?side2 A3.out).mono ?_); (case side1 => repeat (first | exact HR0.out | (with_reducible refine Kd.C_alloc ?_ _) | (with_reducible refine Kd.C_drewN ?_ _) | (with_reducible refine Kd.C_drew ?_))); (case side2 => exact HC0.out); rintro e w' ⟨rfl, ⟨nd, rfl⟩⟩; refine ⟨_, rfl, ?_⟩; (try clear A3)))
 go_ret
 exact bz
def q0q.l0 : Nat → ByteArray → List (q9z) → Int → Int → Option ((List (q9z)))
 | 0, _, _, _, _ => none
 | k + 1, x0, x3, x4, x5 => if x5 ≤ (x0.size : Int) then (if x5 = (x0.size : Int) then (if 0 ≤ x4 then (if x4 ≤ x5 then (if x3.length < 5864062014805 then (q0q.l0 k x0 (x3 ++ [(⟨x4, x0.extract (x4 : Int).toNat (x5 : Int).toNat⟩ : q9z)]) (wrap64 (x5 + 1)) (wrap64 (x5 + 1))) else (none)) else (none)) else (none)) else (if 0 ≤ x5 then (if x5 < (x0.size : Int) then (if (bt x0 x5) = 45 then (if 0 ≤ x4 then (if x4 ≤ x5 then (if x3.length < 5864062014805 then (q0q.l0 k x0 (x3 ++ [(⟨x4, x0.extract (x4 : Int).toNat (x5 : Int).toNat⟩ : q9z)]) (wrap64 (x5 + 1)) (wrap64 (x5 + 1))) else (none)) else (none)) else (none)) else (q0q.l0 k x0 x3 x4 (wrap64 (x5 + 1)))) else (none)) else (none))) else (some x3)
def q0q.f (k : Nat) (a0 : ByteArray) : Option ((List (q9z))) := q0q.l0 k a0 ([] : List (q9z)) 0 0
theorem q0q.calls (k : Nat) (a0 : ByteArray) (r : List (q9z)) (w : World) (h : q0q.f k a0 = some r) :
 Calls Tryz.prog 78 #[.string a0] w fun e w' => ∃ v0_ : Value, e = .returned (v0_) ∧ Kd.R k4j 113 w' w.heap.size (fun _ => True) v0_ r ∧ Below w.heap.size w w' := by
 have hu113 := Tryz.underlying113
 have HB := ak (Below.refl w.heap.size w)
 have H : (q0q.l0 k a0 ([] : List (q9z)) 0 0) = some r := h
 clear h
 have H' := ak H
 clear H
 go_enter Tryz.func78, Tryz.ntmps78
 go_wp2
 go_loopg [3, 4, 5] k (fun kq v3 v4 v5 w' => ∃ (x3_1 : List (q9z)) (x4_1 : Int) (x5_1 : Int), v4 = .int .i64 x4_1 ∧ v5 = .int .i64 x5_1 ∧ q0c (q0q.l0 kq a0 x3_1 x4_1 x5_1 = some r) ∧ q0c (kq ≤ k) ∧ q0c (Kd.R k4j 113 w' w.heap.size (fun _ => True) v3 x3_1) ∧ q0c (Below w.heap.size w w'))
 case atStart => exact ⟨(([] : List (q9z))), (0), (0), (by first | rfl | (simp; done) | (simp [*]; done)), (by first | rfl | (simp; done) | (simp [*]; done)), H', ⟨Nat.le_refl _⟩, ⟨by first | exact Kd.k1i _ _ _ _ _ | exact Kd.N_nil _ _ _ _ _ | exact Kd.V_nil _ _ _ _ _ | exact Kd.Q_nil _ _ _ _ _ | exact Kd.S_nil _ _ _ _ _⟩, ⟨bq⟩⟩
 case round =>
  clear H'
  obtain ⟨x3_1, x4_1, x5_1, rfl, rfl, HA, HK1, HO_3, HB⟩ := hrel
  cases gk with
  | zero => exact absurd HA.out (by simp [q0q.l0])
  | succ k1 =>
   have H := HA.out
   clear HA
   simp only [q0q.l0] at H
   by_cases c2 : x5_1 ≤ (a0.size : Int)
   ·
    rw [if_pos c2] at H
    have c2b0 : decide (x5_1 ≤ (a0.size : Int)) = true := decide_eq_true c2
    clear c2
    by_cases c3 : x5_1 = (a0.size : Int)
    ·
     rw [if_pos c3] at H
     have c3b0 : (x5_1 == (a0.size : Int)) = true := beq_iff_eq.mpr c3
     have c3b1 : (x5_1 != (a0.size : Int)) = false := bne_eq_false_iff_eq.mpr c3
     clear c3
     by_cases c4 : 0 ≤ x4_1
     ·
      rw [if_pos c4] at H
      have c4b0 := eq_true c4
      have c4b1 : decide (0 ≤ x4_1) = true := decide_eq_true c4
      clear c4
      by_cases c5 : x4_1 ≤ x5_1
      ·
       rw [if_pos c5] at H
       have c5b0 := eq_true c5
       have c5b1 : decide (x4_1 ≤ x5_1) = true := decide_eq_true c5
       clear c5
       have c6b0 := eq_true (of_decide_eq_true (by first | (with_reducible assumption) | assumption) : x5_1 ≤ (a0.size : Int))
       by_cases c7 : x3_1.length < 5864062014805
       ·
        rw [if_pos c7] at H
        have LMc7 := ak c7
        clear c7
        obtain ⟨y167, hy167⟩ : ∃ y_ : List (q9z), y_ = (x3_1 ++ [(⟨x4_1, a0.extract (x4_1 : Int).toNat (x5_1 : Int).toNat⟩ : q9z)]) := ⟨_, rfl⟩
        replace H : (q0q.l0 k1 a0 y167 (wrap64 (x5_1 + 1)) (wrap64 (x5_1 + 1))) = some r := by first | (rw [hy167]; with_reducible exact H) | (have H2_ := (Option.bind_some _ _).symm.trans H; rw [hy167]; with_reducible exact H2_) | (have H2_ := (Option.bind_some _ _).symm.trans H; with_reducible exact H2_) | with_reducible exact H | (rw [hy167]; exact H) | exact H
        have Ny167 := ak hy167
        clear hy167
        have H' := ak H
        clear H
        go_wp2_with (first | ((with_reducible refine q1d (b := .append) (xs := #[.tmp 22, .tmp 29]) rfl ?_); at_builtin; refine Kd.z0s k4j (w0 := w) w.heap.size rfl (.tmp 22) (.tmp 29) 110 113 (.agg #[(.int .i64 0), (.string ⟨#[]⟩)]) 24 rfl Tryz.underlying110 v7l rfl (by decide) (by omega) u3 x3_1 (⟨x4_1, a0.extract (x4_1 : Int).toNat (x5_1 : Int).toNat⟩ : q9z) [.int .i64 x4_1, .string (a0.extract (x4_1 : Int).toNat (x5_1 : Int).toNat)] (fun _ => True) (fun _ => False) rfl rfl ?aP (fun _ hk => hk.elim) ?aF ?aO ?aB ?aS ?aL ?_; (case aP => exact v3l _ _ _ (⟨x4_1, a0.extract (x4_1 : Int).toNat (x5_1 : Int).toNat⟩ : q9z)); (case aB => exact bq); (case aF => exact (fun _ _ => trivial)); (case aO => exact (rx HO_3.out)); (case aS => exact (q6n bq)); (case aL => have := LMc7.out; omega); intro v168 w8 ho hb hg hat; rw [← Ny167.out] at ho; have n0_ := ak (hb); have n1_ := ak (ho); clear HB; clear HO_3; have HB := n0_; have HO169 := n1_; clear n0_ n1_; clear ho hb hg hat))
        go_roundg k1
        case measure => have := HK1.out; omega
        case rel => exact ⟨(y167), (wrap64 (x5_1 + 1)), (wrap64 (x5_1 + 1)), (by first | rfl | (simp; done) | (simp [*]; done)), (by first | rfl | (simp; done) | (simp [*]; done)), H', ⟨by have := HK1.out; omega⟩, ⟨(rx HO169.out)⟩, ⟨bq⟩⟩
       ·
        rw [if_neg c7] at H
        exact absurd H (by simp)
      ·
       rw [if_neg c5] at H
       exact absurd H (by simp)
     ·
      rw [if_neg c4] at H
      exact absurd H (by simp)
    ·
     rw [if_neg c3] at H
     have c3b0 : (x5_1 == (a0.size : Int)) = false := beq_eq_false_iff_ne.mpr c3
     have c3b1 : (x5_1 != (a0.size : Int)) = true := bne_iff_ne.mpr c3
     by_cases c9 : 0 ≤ x5_1
     ·
      rw [if_pos c9] at H
      have c9b0 : decide (0 ≤ x5_1) = true := decide_eq_true c9
      clear c9
      by_cases c10 : x5_1 < (a0.size : Int)
      ·
       rw [if_pos c10] at H
       have c10b0 : decide (x5_1 < (a0.size : Int)) = true := decide_eq_true c10
       clear c10
       by_cases c12 : (bt a0 x5_1) = 45
       ·
        rw [if_pos c12] at H
        have c12b0 : ((bt a0 x5_1) == 45) = true := beq_iff_eq.mpr c12
        have c12b1 : ((bt a0 x5_1) != 45) = false := bne_eq_false_iff_eq.mpr c12
        clear c12
        by_cases c13 : 0 ≤ x4_1
        ·
         rw [if_pos c13] at H
         have c13b0 := eq_true c13
         have c13b1 : decide (0 ≤ x4_1) = true := decide_eq_true c13
         clear c13
         by_cases c14 : x4_1 ≤ x5_1
         ·
          rw [if_pos c14] at H
          have c14b0 := eq_true c14
          have c14b1 : decide (x4_1 ≤ x5_1) = true := decide_eq_true c14
          clear c14
          have c15b0 := eq_true (of_decide_eq_true (by first | (with_reducible assumption) | assumption) : x5_1 ≤ (a0.size : Int))
          by_cases c16 : x3_1.length < 5864062014805
          ·
           rw [if_pos c16] at H
           have LMc16 := ak c16
           clear c16
           obtain ⟨y170, hy170⟩ : ∃ y_ : List (q9z), y_ = (x3_1 ++ [(⟨x4_1, a0.extract (x4_1 : Int).toNat (x5_1 : Int).toNat⟩ : q9z)]) := ⟨_, rfl⟩
           replace H : (q0q.l0 k1 a0 y170 (wrap64 (x5_1 + 1)) (wrap64 (x5_1 + 1))) = some r := by first | (rw [hy170]; with_reducible exact H) | (have H2_ := (Option.bind_some _ _).symm.trans H; rw [hy170]; with_reducible exact H2_) | (have H2_ := (Option.bind_some _ _).symm.trans H; with_reducible exact H2_) | with_reducible exact H | (rw [hy170]; exact H) | exact H
           have Ny170 := ak hy170
           clear hy170
           have H' := ak H
           clear H
           have p11 : 0 ≤ (x5_1 : Int) := of_decide_eq_true (by first | (with_reducible assumption) | assumption)
           have q11 : x5_1 < (a0.size : Int) := of_decide_eq_true (by first | (with_reducible assumption) | assumption)
           have hx11 := q5w a0 x5_1
           replace p11 := eq_true p11
           replace q11 := eq_true q11
           go_wp2_with (first | ((with_reducible refine q1d (b := .append) (xs := #[.tmp 22, .tmp 29]) rfl ?_); at_builtin; refine Kd.z0s k4j (w0 := w) w.heap.size rfl (.tmp 22) (.tmp 29) 110 113 (.agg #[(.int .i64 0), (.string ⟨#[]⟩)]) 24 rfl Tryz.underlying110 v7l rfl (by decide) (by omega) u3 x3_1 (⟨x4_1, a0.extract (x4_1 : Int).toNat (x5_1 : Int).toNat⟩ : q9z) [.int .i64 x4_1, .string (a0.extract (x4_1 : Int).toNat (x5_1 : Int).toNat)] (fun _ => True) (fun _ => False) rfl rfl ?aP (fun _ hk => hk.elim) ?aF ?aO ?aB ?aS ?aL ?_; (case aP => exact v3l _ _ _ (⟨x4_1, a0.extract (x4_1 : Int).toNat (x5_1 : Int).toNat⟩ : q9z)); (case aB => exact bq); (case aF => exact (fun _ _ => trivial)); (case aO => exact (rx HO_3.out)); (case aS => exact (q6n bq)); (case aL => have := LMc16.out; omega); intro v171 w17 ho hb hg hat; rw [← Ny170.out] at ho; have n0_ := ak (hb); have n1_ := ak (ho); clear HB; clear HO_3; have HB := n0_; have HO172 := n1_; clear n0_ n1_; clear ho hb hg hat))
           go_roundg k1
           case measure => have := HK1.out; omega
           case rel => exact ⟨(y170), (wrap64 (x5_1 + 1)), (wrap64 (x5_1 + 1)), (by first | rfl | (simp; done) | (simp [*]; done)), (by first | rfl | (simp; done) | (simp [*]; done)), H', ⟨by have := HK1.out; omega⟩, ⟨(rx HO172.out)⟩, ⟨bq⟩⟩
          ·
           rw [if_neg c16] at H
           exact absurd H (by simp)
         ·
          rw [if_neg c14] at H
          exact absurd H (by simp)
        ·
         rw [if_neg c13] at H
         exact absurd H (by simp)
       ·
        rw [if_neg c12] at H
        have c12b0 : ((bt a0 x5_1) == 45) = false := beq_eq_false_iff_ne.mpr c12
        have c12b1 : ((bt a0 x5_1) != 45) = true := bne_iff_ne.mpr c12
        have H' := ak H
        clear H
        have p11 : 0 ≤ (x5_1 : Int) := of_decide_eq_true (by first | (with_reducible assumption) | assumption)
        have q11 : x5_1 < (a0.size : Int) := of_decide_eq_true (by first | (with_reducible assumption) | assumption)
        have hx11 := q5w a0 x5_1
        replace p11 := eq_true p11
        replace q11 := eq_true q11
        go_wp2
        go_roundg k1
        case measure => have := HK1.out; omega
        case rel => exact ⟨(x3_1), (x4_1), (wrap64 (x5_1 + 1)), (by first | rfl | (simp; done) | (simp [*]; done)), (by first | rfl | (simp; done) | (simp [*]; done)), H', ⟨by have := HK1.out; omega⟩, ⟨(rx HO_3.out)⟩, ⟨bq⟩⟩
      ·
       rw [if_neg c10] at H
       exact absurd H (by simp)
     ·
      rw [if_neg c9] at H
      exact absurd H (by simp)
   ·
    rw [if_neg c2] at H
    have c2b0 : decide (x5_1 ≤ (a0.size : Int)) = false := decide_eq_false c2
    clear c2
    obtain rfl := Option.some.inj H
    go_wp2
    go_ret
    exact ⟨_, by first | rfl | (simp [errW_none, errW_some] <;> rfl) | (simp [*, errW_none, errW_some] <;> rfl), by (with_reducible repeat (first | apply rA | apply rN | apply rD)); exact HO_3.out, bq⟩

def q0v.l0 : Nat → List ByteArray → List (q9z) → Int → Option (List ByteArray)
 | 0, _, _, _ => none
 | k + 1, x3, x4, x5 => if x5 < (x4.length : Int) then (if 0 ≤ x5 then (if x3.length < 8796093022208 then (q0v.l0 k (x3 ++ [(q8r x4 x5).f1]) x4 (wrap64 (x5 + 1))) else (none)) else (none)) else (some x3)
def q0v.f (k : Nat) (a0 : ByteArray) : Option (List ByteArray) := (q0q.f k a0).bind fun t173 => (q0v.l0 k ([] : List ByteArray) t173 0)
theorem q0v.calls (k : Nat) (a0 : ByteArray) (r : List ByteArray) (w : World) (h : q0v.f k a0 = some r) :
 Calls Tryz.prog 46 #[.string a0] w fun e w' => ∃ v0_ : Value, e = .returned (v0_) ∧ Kd.R Kd.string 9 w' w.heap.size (fun _ => True) v0_ r ∧ Below w.heap.size w w' := by
 have HB := ak (Below.refl w.heap.size w)
 have H : ((q0q.f k a0).bind fun t173 => (q0v.l0 k ([] : List ByteArray) t173 0)) = some r := h
 clear h
 replace H := Option.bind_eq_some_iff.mp H
 obtain ⟨t173, A20, H⟩ := H
 have A2 := ak A20
 clear A20
 have H' := ak H
 clear H
 go_enter Tryz.func46, Tryz.ntmps46
 go_wp2_with (first | ((with_reducible refine q0s (f := 78) rfl ?_); refine q2e (some 7) rfl rfl Tryz.func78 (by kernel_rfl) rfl #[.string a0] rfl mq ?_; (with_reducible refine (q0q.calls k a0 t173 _ A2.out).mono ?_); rintro e w3 ⟨v174, rfl, ho0, hb⟩; refine ⟨_, rfl, ?_⟩; have n0_ := ak (Kd.v8f ho0 (q6n bq)); have n1_ := ak (z1b bq hb); clear HB; have HO175 := n0_; have HB := n1_; clear n0_ n1_; (try clear hb); (try clear hb2); (try clear hk); (try clear hi); (try clear ho0); (try clear A2)))
 go_loopg [3, 5] k (fun kq v3 v5 w' => ∃ (x3_1 : List ByteArray) (x5_1 : Int), v5 = .int .i64 x5_1 ∧ q0c (q0v.l0 kq x3_1 t173 x5_1 = some r) ∧ q0c (kq ≤ k) ∧ q0c (Kd.R Kd.string 9 w' w.heap.size (fun _ => True) v3 x3_1) ∧ q0c (Kd.R k4j 113 w' w.heap.size (fun _ => True) v174 t173) ∧ q0c (Below w.heap.size w w'))
 case atStart => exact ⟨(([] : List ByteArray)), (0), (by first | rfl | (simp; done) | (simp [*]; done)), H', ⟨Nat.le_refl _⟩, ⟨by first | exact Kd.k1i _ _ _ _ _ | exact Kd.N_nil _ _ _ _ _ | exact Kd.V_nil _ _ _ _ _ | exact Kd.Q_nil _ _ _ _ _ | exact Kd.S_nil _ _ _ _ _⟩, ⟨(rx HO175.out)⟩, ⟨bq⟩⟩
 case round =>
  clear H'
  try clear p2
  obtain ⟨x3_1, x5_1, rfl, HA, HK1, HO_3, HO_4, HB⟩ := hrel
  cases gk with
  | zero => exact absurd HA.out (by simp [q0v.l0])
  | succ k1 =>
   have H := HA.out
   clear HA
   simp only [q0v.l0] at H
   by_cases c4 : x5_1 < (t173.length : Int)
   ·
    rw [if_pos c4] at H
    have c4b0 : decide (x5_1 < (t173.length : Int)) = true := decide_eq_true c4
    clear c4
    by_cases c5 : 0 ≤ x5_1
    ·
     rw [if_pos c5] at H
     have c5b0 : decide (0 ≤ x5_1) = true := decide_eq_true c5
     clear c5
     by_cases c6 : x3_1.length < 8796093022208
     ·
      rw [if_pos c6] at H
      have LMc6 := ak c6
      clear c6
      obtain ⟨y177, hy177⟩ : ∃ y_ : List ByteArray, y_ = (x3_1 ++ [(q8r t173 x5_1).f1]) := ⟨_, rfl⟩
      replace H : (q0v.l0 k1 y177 t173 (wrap64 (x5_1 + 1))) = some r := by first | (rw [hy177]; with_reducible exact H) | (have H2_ := (Option.bind_some _ _).symm.trans H; rw [hy177]; with_reducible exact H2_) | (have H2_ := (Option.bind_some _ _).symm.trans H; with_reducible exact H2_) | with_reducible exact H | (rw [hy177]; exact H) | exact H
      have Ny177 := ak hy177
      clear hy177
      have H' := ak H
      clear H
      obtain ⟨Ao7, co7, eo7⟩ := Kd.v7b HO_4.out
      subst eo7
      have p176 : 0 ≤ (x5_1 : Int) := of_decide_eq_true (by first | (with_reducible assumption) | assumption)
      have q176 : x5_1 < (t173.length : Int) := of_decide_eq_true (by first | (with_reducible assumption) | assumption)
      obtain ⟨ad176, e176, hx176_0, hx176_1⟩ := k5g (Kd.k2w HO_4.out).2.2 x5_1 p176 q176
      cases e176
      replace p176 := eq_true p176
      replace q176 := eq_true q176
      go_wp2_with (first | ((with_reducible refine q1d (b := .append) (xs := #[.tmp 14, .tmp 20]) rfl ?_); at_builtin; refine Kd.z0s Kd.string (w0 := w) w.heap.size rfl (.tmp 14) (.tmp 20) 26 9 (.string ⟨#[]⟩) 16 rfl Tryz.underlying26 v5m rfl (by decide) (by omega) u3 x3_1 ((q8r t173 x5_1).f1) [.string ((q8r t173 x5_1).f1)] (fun _ => True) (fun _ => False) rfl rfl ?aP (fun _ hk => hk.elim) ?aF ?aO ?aB ?aS ?aL ?_; (case aP => exact rfl); (case aB => exact bq); (case aF => exact (fun _ _ => trivial)); (case aO => exact (rx HO_3.out)); (case aS => exact (q6n bq)); (case aL => have := LMc6.out; omega); intro v178 w8 ho hb hg hat; rw [← Ny177.out] at ho; have n0_ := ak (Kd.k5z (rx HO_4.out) (Kd.k6k (rx HO_3.out)) (by decide) hg); have n1_ := ak (hb); have n2_ := ak (ho); clear HO_4; clear HB; clear HO_3; have HO_4 := n0_; have HB := n1_; have HO179 := n2_; clear n0_ n1_ n2_; clear ho hb hg hat))
      go_roundg k1
      case measure => have := HK1.out; omega
      case rel => exact ⟨(y177), (wrap64 (x5_1 + 1)), (by first | rfl | (simp; done) | (simp [*]; done)), H', ⟨by have := HK1.out; omega⟩, ⟨(rx HO179.out)⟩, ⟨(rx HO_4.out)⟩, ⟨bq⟩⟩
     ·
      rw [if_neg c6] at H
      exact absurd H (by simp)
    ·
     rw [if_neg c5] at H
     exact absurd H (by simp)
   ·
    rw [if_neg c4] at H
    have c4b0 : decide (x5_1 < (t173.length : Int)) = false := decide_eq_false c4
    clear c4
    obtain rfl := Option.some.inj H
    obtain ⟨Ao9, co9, eo9⟩ := Kd.v7b HO_4.out
    subst eo9
    go_wp2
    go_ret
    exact ⟨_, by first | rfl | (simp [errW_none, errW_some] <;> rfl) | (simp [*, errW_none, errW_some] <;> rfl), by (with_reducible repeat (first | apply rA | apply rN | apply rD)); exact HO_3.out, bq⟩

def q1m.f (a0 : Int) : Option (Bool) := if a0 ≥ 97 then (if a0 ≤ 122 then (some true) else (if a0 ≥ 65 then (some (decide (a0 ≤ 90))) else (some false))) else (if a0 ≥ 65 then (some (decide (a0 ≤ 90))) else (some false))
theorem q1m.calls (a0 : Int) (r : Bool) (w : World) (h : q1m.f a0 = some r) :
 Calls Tryz.prog 152 #[.int .u8 a0] w fun e w' => e = .returned (.bool r) ∧ q0k w w' := by
 have H : (if a0 ≥ 97 then (if a0 ≤ 122 then (some true) else (if a0 ≥ 65 then (some (decide (a0 ≤ 90))) else (some false))) else (if a0 ≥ 65 then (some (decide (a0 ≤ 90))) else (some false))) = some r := h
 clear h
 by_cases c2 : a0 ≥ 97
 ·
  rw [if_pos c2] at H
  have c2b0 : decide (97 ≤ a0) = true := decide_eq_true c2
  clear c2
  by_cases c3 : a0 ≤ 122
  ·
   rw [if_pos c3] at H
   have c3b0 : decide (a0 ≤ 122) = true := decide_eq_true c3
   clear c3
   obtain rfl := Option.some.inj H
   go_enter Tryz.func152, Tryz.ntmps152
   go_wp2
   go_ret
   exact bz
  ·
   rw [if_neg c3] at H
   have c3b0 : decide (a0 ≤ 122) = false := decide_eq_false c3
   clear c3
   by_cases c4 : a0 ≥ 65
   ·
    rw [if_pos c4] at H
    have c4b0 : decide (65 ≤ a0) = true := decide_eq_true c4
    clear c4
    obtain rfl := Option.some.inj H
    go_enter Tryz.func152, Tryz.ntmps152
    go_wp2
    go_ret
    exact bz
   ·
    rw [if_neg c4] at H
    have c4b0 : decide (65 ≤ a0) = false := decide_eq_false c4
    clear c4
    obtain rfl := Option.some.inj H
    go_enter Tryz.func152, Tryz.ntmps152
    go_wp2
    go_ret
    exact bz
 ·
  rw [if_neg c2] at H
  have c2b0 : decide (97 ≤ a0) = false := decide_eq_false c2
  clear c2
  by_cases c5 : a0 ≥ 65
  ·
   rw [if_pos c5] at H
   have c5b0 : decide (65 ≤ a0) = true := decide_eq_true c5
   clear c5
   obtain rfl := Option.some.inj H
   go_enter Tryz.func152, Tryz.ntmps152
   go_wp2
   go_ret
   exact bz
  ·
   rw [if_neg c5] at H
   have c5b0 : decide (65 ≤ a0) = false := decide_eq_false c5
   clear c5
   obtain rfl := Option.some.inj H
   go_enter Tryz.func152, Tryz.ntmps152
   go_wp2
   go_ret
   exact bz

def q1q.f (a0 : Int) : Option (Bool) := if a0 ≥ 48 then (some (decide (a0 ≤ 57))) else (some false)
theorem q1q.calls (a0 : Int) (r : Bool) (w : World) (h : q1q.f a0 = some r) :
 Calls Tryz.prog 153 #[.int .u8 a0] w fun e w' => e = .returned (.bool r) ∧ q0k w w' := by
 have H : (if a0 ≥ 48 then (some (decide (a0 ≤ 57))) else (some false)) = some r := h
 clear h
 by_cases c2 : a0 ≥ 48
 ·
  rw [if_pos c2] at H
  have c2b0 : decide (48 ≤ a0) = true := decide_eq_true c2
  clear c2
  obtain rfl := Option.some.inj H
  go_enter Tryz.func153, Tryz.ntmps153
  go_wp2
  go_ret
  exact bz
 ·
  rw [if_neg c2] at H
  have c2b0 : decide (48 ≤ a0) = false := decide_eq_false c2
  clear c2
  obtain rfl := Option.some.inj H
  go_enter Tryz.func153, Tryz.ntmps153
  go_wp2
  go_ret
  exact bz
end Go.Proofs.YtpmcfckechjppaaGreatDoor.P
