/- What two functions hand back, whatever the world, by choice. -/
import Derived.Test.YtdjbanhoejegjaaDqP0
import Derived.Test.YtdjbanhoejegjaaDqMade12
import Derived.Test.YtdjbanhoejegjaaDqLikely13
import Derived.Test.YtdjbanhoejegjaaDqTight
namespace Go.Proofs.Ytdjbanhoejegjaa.P
open Go.RowKit Go.Proofs.YtdjbanhoejegjaaW.PrintWords Go.Proofs.YtdjbanhoejegjaaW.PrintLast Go.Proofs.YtdjbanhoejegjaaW.PrintMore
set_option linter.unusedVariables false
set_option linter.unusedSimpArgs false

open Classical in
noncomputable def isoglossref12_Made.f (a0_0 : Int) (a0_1 : Int) (a0_2 : Int) (a0_3 : Int) (a0_4 : Int) (a0_5 : Int) (a0_6 : Int) : Option (Int × ByteArray × ByteArray × ByteArray × ByteArray × ByteArray) :=
  if h : ∃ t : Int × ByteArray × ByteArray × ByteArray × ByteArray × ByteArray, ∀ w : World, Calls Try.prog 21 #[.agg #[.int .i64 a0_0, .int .i64 a0_1, .int .i64 a0_2, .int .i64 a0_3, .int .i64 a0_4, .int .i64 a0_5, .int .i64 a0_6]] w fun e w' => e = .returned (.agg #[.int .i64 t.1, .string t.2.1, .string t.2.2.1, .string t.2.2.2.1, .string t.2.2.2.2.1, .string t.2.2.2.2.2]) ∧ Below w.heap.size w w' then some h.choose else none
theorem isoglossref12_Made.calls (a0_0 : Int) (a0_1 : Int) (a0_2 : Int) (a0_3 : Int) (a0_4 : Int) (a0_5 : Int) (a0_6 : Int) (r1 : Int) (r2 : ByteArray) (r3 : ByteArray) (r4 : ByteArray) (r5 : ByteArray) (r6 : ByteArray) (w : World) (h : isoglossref12_Made.f a0_0 a0_1 a0_2 a0_3 a0_4 a0_5 a0_6 = some (r1, r2, r3, r4, r5, r6)) :
  Calls Try.prog 21 #[.agg #[.int .i64 a0_0, .int .i64 a0_1, .int .i64 a0_2, .int .i64 a0_3, .int .i64 a0_4, .int .i64 a0_5, .int .i64 a0_6]] w fun e w' => e = .returned (.agg #[.int .i64 r1, .string r2, .string r3, .string r4, .string r5, .string r6]) ∧ Below w.heap.size w w' := by
  unfold isoglossref12_Made.f at h
  split at h
  · rename_i hx
    have e := Option.some.inj h
    have := hx.choose_spec w
    rw [e] at this
    exact this
  · cases h
theorem isoglossref12_Made.some_ (a0_0 : Int) (a0_1 : Int) (a0_2 : Int) (a0_3 : Int) (a0_4 : Int) (a0_5 : Int) (a0_6 : Int) : ∃ t, isoglossref12_Made.f a0_0 a0_1 a0_2 a0_3 a0_4 a0_5 a0_6 = some t := by
  obtain ⟨t0, t1, t2, t3, t4, t5, h⟩ := LikW.made12_all a0_0 a0_1 a0_2 a0_3 a0_4 a0_5 a0_6
  unfold isoglossref12_Made.f
  rw [dif_pos ⟨(t0, t1, t2, t3, t4, t5), h⟩]
  exact ⟨_, rfl⟩


open Classical in
noncomputable def isoglossref13_likely.f (a0 : Int) : Option (List S66) :=
  if h : ∃ r : List S66, r.length ≤ 2 ∧ ∀ w : World, Calls Try.prog 23 #[.int .i64 a0] w fun e w' => ∃ v : Value, e = .returned v ∧ Kd.R k66 66 w' w.heap.size (fun _ => True) v r ∧ Below w.heap.size w w' then some h.choose else none
theorem isoglossref13_likely.calls (a0 : Int) (r : List (S66)) (w : World) (h : isoglossref13_likely.f a0 = some r) :
  Calls Try.prog 23 #[.int .i64 a0] w fun e w' => ∃ v0_ : Value, e = .returned (v0_) ∧ Kd.R k66 66 w' w.heap.size (fun _ => True) v0_ r ∧ Below w.heap.size w w' := by
  unfold isoglossref13_likely.f at h
  split at h
  · rename_i hx
    have e := Option.some.inj h
    have := hx.choose_spec.2 w
    rw [e] at this
    exact this
  · cases h
theorem isoglossref13_likely.some_ (a0 : Int) : ∃ r, isoglossref13_likely.f a0 = some r ∧ r.length ≤ 2 := by
  obtain ⟨r, h⟩ := LikW.likely13_all a0
  have hx : ∃ r : List S66, r.length ≤ 2 ∧ ∀ w : World, Calls Try.prog 23 #[.int .i64 a0] w fun e w' => ∃ v : Value, e = .returned v ∧ Kd.R k66 66 w' w.heap.size (fun _ => True) v r ∧ Below w.heap.size w w' := ⟨r, h⟩
  unfold isoglossref13_likely.f
  rw [dif_pos hx]
  exact ⟨_, rfl, hx.choose_spec.1⟩


end Go.Proofs.Ytdjbanhoejegjaa.P
