/- Proved here: the statement DistanceSumsSaid of the given program: whatever the arguments, the law isogloss/isoglosslaw22.DistanceSums returns true, and each argument reads afterwards as it read before. No further condition. -/
import Derived.Test.YtdjbanhoejegjaaRows
import Derived.Test.YtdjbanhoejegjaaDqSums
import Derived.Test.YtdjbanhoejegjaaDqMadeTot
import Derived.Test.YtdjbanhoejegjaaDqRowTwo
import Derived.WalkKit
import Derived.ProofKit
import Derived.OpenShut
import Derived.ShutString
import Derived.ChangeOld
import Derived.Below
import Derived.SizedLaws
namespace Go.Proofs.Ytdjbanhoejegjaa.distanceSums
open Go.ChangeShapes Go.WideShapes Go.ChangeAt Go.RowKit
open Go.ChangeMaps (open_string shut_string)
set_option linter.unusedVariables false
theorem own : ownKnob Try.prog.godebug = none := by kernel_rfl
theorem laidOut : laidOutB Try.prog = true := by kernel_rfl
set_option maxRecDepth 100000 in
theorem lifted (os : Os) (started : os.Started) (H : Type) (enc : TypeId × Value → H) :
    ReturnsInHanded {} Try.checked os 3 .any (Rows.distanceSumsSpec.pre6 enc Try.prog Try.f3 Rows.distanceSumsRow.domain false) (Rows.distanceSumsSpec.post enc Try.prog Try.f3 false true false false) := by
  refine returnsInHanded_of_change_sized (C := Try.checked) own started (by kernel_rfl) Try.func3
    (ChangeSpec.witness6 (enc := enc) (C := Try.checked) false ⟨#[], #[.agg #[.slice none 0 0, .slice none 0 0, .slice none 0 0, .slice none 0 0, .int .i64 0, .int .i64 0, .int .i64 0], .agg #[.int .i64 0, .int .i64 0, .int .i64 0, .int .i64 0, .slice none 0 0, .slice none 0 0, .slice none 0 0, .int .i64 0, .int .i64 0, .int .i64 0, .int .i64 0, .int .i64 0, .slice none 0 0, .slice none 0 0, .slice none 0 0, .int .i64 0], .agg #[.int .i64 0, .int .i64 0, .int .i64 0, .int .i64 0, .int .i64 0, .int .i64 0, .int .i64 0, .int .i64 0, .int .i64 0, .int .i64 0, .string ByteArray.empty, .string ByteArray.empty, .string ByteArray.empty]], []⟩ 8 (by kernel_rfl) (by kernel_rfl) (by kernel_rfl) (by kernel_rfl)) ?_
  intro W base args ds gs before hval0 hW hcnd hsz0 _
  have hval : ∀ (j : Nat) t v, Try.f3.params[j]? = some t → args[j]? = some v → Value.okWide Try.prog W .any base t v := hval0
  have hW' := hW
  obtain ⟨p, q, hA0, hV, rfl, hfz, hnd⟩ := hW
  have hA : DataW.TrodAll enc Try.prog W 0 (fun _ => true) true Try.f3.params.toList args.toList ds p := hA0
  rw [Try.params3] at hA hval
  obtain ⟨v0, vs0, x0, xs0, p0_, q0_, hargs, rfl, rfl, g0, r0⟩ := trodAll_cons hA
  obtain ⟨v1, vs1, x1, xs1, p1_, q1_, rfl, rfl, rfl, g1, r1⟩ := trodAll_cons r0
  obtain ⟨v2, vs2, x2, xs2, p2_, q2_, rfl, rfl, rfl, g2, r2⟩ := trodAll_cons r1
  obtain ⟨rfl, rfl, rfl⟩ := trodAll_nil r2
  obtain rfl : args = #[v0, v1, v2] := by cases args; simp_all
  obtain ⟨rfl, rfl⟩ := trodVars_none hV
  have k0 := g0
  obtain ⟨cs0, rfl, ⟨A0, c0, l0, A1, c1, l1, A2, c2, l2, A3, c3, l3, sa, sb, sc, rfl, h0, h1, h2, h3⟩⟩ := LikW.open_seed (hval 0 _ v0 rfl rfl) g0
  have k2 := g2
  obtain ⟨d0, d1, d2, s0, s1, s2, p0, p1, p2, lv, t0, t1, t2, rfl⟩ := LikW.open_ask (hval 2 _ v2 rfl rfl) g2
  have k1 := g1
  obtain ⟨csa, csb, rfl, ⟨f0, f1, f2, f3, f7, Af4, cf4, lf4, Af5, cf5, lf5, Af6, cf6, lf6, rfl, hf4, hf5, hf6⟩, ⟨g0_, g1_, g2_, g3_, g7_, Ag4, cg4, lg4, Ag5, cg5, lg5, Ag6, cg6, lg6, rfl, hg4, hg5, hg6⟩⟩ := LikW.open_two (hval 1 _ v1 rfl rfl) g1
  clear hA0 hval0 hsz0
  obtain ⟨kk, ⟨r1, r2, r3, r4, r5, r6⟩, hM, _, hok⟩ := LikW.made13_some l0 l1 l2 l3 sa sb sc
  obtain ⟨e0, e1, e2, hD, _⟩ := LikW.plain_some d0 d1 d2
  obtain ⟨u0, u1, u2, hE, _⟩ := LikW.plain_some s0 s1 s2
  refine (LikW.sumslaw_calls kk A0 c0 l0 A1 c1 l1 A2 c2 l2 A3 c3 l3 sa sb sc r1 r2 r3 r4 r5 r6 f0 f1 f2 f3 f7 Af4 cf4 lf4 Af5 cf5 lf5 Af6 cf6 lf6 g0_ g1_ g2_ g3_ g7_ Ag4 cg4 lg4 Ag5 cg5 lg5 Ag6 cg6 lg6 d0 d1 d2 s0 s1 s2 p0 p1 p2 lv t0 t1 t2 e0 e1 e2 u0 u1 u2 W h0.1 h0.2 h1.1 h1.2 h2.1 h2.2 h3.1 h3.2 hM hok hD hE hf4 hf5 hf6 hg4 hg5 hg6).mono fun e W' ⟨he, bel⟩ => ?_
  subst he
  exact ⟨_, rfl, _, _, _, [], _, [], hW', trodAll_mk1 (shut_bool Try.underlying4 _), (trodAll_cons_mk (Below.trod laidOut (by kernel_rfl) (of_decide_eq_true (by kernel_rfl)) k0 bel (LikW.trod_lt k0)) (trodAll_cons_mk (Below.trod laidOut (by kernel_rfl) (of_decide_eq_true (by kernel_rfl)) k1 bel (LikW.trod_lt k1)) (trodAll_cons_mk (Below.trod laidOut (by kernel_rfl) (of_decide_eq_true (by kernel_rfl)) k2 bel (LikW.trod_lt k2)) trodAll_mk0))), rfl, bel.frame _, fun h => by cases h⟩
theorem over : Rows.distanceSumsRow.holds Try.pinned (OpenSpec.ofChange Rows.distanceSumsSpec) :=
  OpenClaim.holds_of_wide 3 Try.f3 rfl rfl rfl rfl rfl rfl rfl ⟨rfl, rfl, rfl, rfl, rfl⟩ rfl rfl rfl rfl rfl (by kernel_rfl) Try.func3 (by kernel_rfl)
    (of_decide_eq_true (by kernel_rfl)) (by unfold Func.isWrapper; first | (rw [if_pos (by decide +kernel)]; kernel_rfl) | (rw [if_neg (by decide +kernel)]; exact ⟨rfl, rfl⟩))
    (fun os started H enc _ => lifted os started H enc)
theorem proved : Rows.DistanceSumsSaid := over
#print axioms proved
end Go.Proofs.Ytdjbanhoejegjaa.distanceSums
namespace Go.Proofs.Ytdjbanhoejegjaa
theorem distanceSums_holds : Rows.DistanceSumsSaid := distanceSums.proved
end Go.Proofs.Ytdjbanhoejegjaa
