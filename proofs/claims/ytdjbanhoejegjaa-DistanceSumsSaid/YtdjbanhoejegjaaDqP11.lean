/- Made by a program of this seat's own (myprint.py, round the kit's print): what the functions compute, and that they do. -/
import Derived.Test.YtdjbanhoejegjaaDqP0
import Derived.Test.YtdjbanhoejegjaaDqP1
import Derived.Test.YtdjbanhoejegjaaDqTight
namespace Go.Proofs.Ytdjbanhoejegjaa.P
open Go.RowKit Go.Proofs.YtdjbanhoejegjaaW.PrintWords Go.Proofs.YtdjbanhoejegjaaW.PrintLast Go.Proofs.YtdjbanhoejegjaaW.PrintMore
attribute [local go_sem] StrOrd.binOp_gtr StrOrd.binOp_leq max2_int min2_int max_two min_two max_three min_three max_four min_four   -- for this text's walks alone
set_option linter.unusedVariables false
set_option linter.unusedSimpArgs false

def isoglosslaw22_plain.f (a0_0 : Int) (a0_1 : Int) (a0_2 : Int) : Option (ByteArray × ByteArray × ByteArray) := (isoglossref06_Pick.f (([⟨#[101, 110]⟩, ⟨#[122, 104]⟩, ⟨#[115, 114]⟩, ⟨#[110, 98]⟩, ⟨#[100, 97]⟩, ⟨#[110, 111]⟩, ⟨#[100, 101]⟩, ⟨#[114, 117]⟩, ⟨#[104, 97, 110, 116]⟩, ⟨#[101, 115]⟩, ⟨#[105, 100]⟩, ⟨#[109, 115]⟩] : List ByteArray)) a0_0).bind fun t499 => ((isoglossref06_Pick.f (([⟨#[108, 97, 116, 110]⟩, ⟨#[104, 97, 110, 115]⟩, ⟨#[104, 97, 110, 116]⟩, ⟨#[99, 121, 114, 108]⟩, ⟨#[]⟩] : List ByteArray)) a0_1).bind fun t500 => ((isoglossref06_Pick.f (([⟨#[117, 115]⟩, ⟨#[103, 98]⟩, ⟨#[100, 101]⟩, ⟨#[102, 114]⟩, ⟨#[52, 49, 57]⟩, ⟨#[109, 120]⟩, ⟨#[114, 111]⟩, ⟨#[112, 114]⟩, ⟨#[]⟩] : List ByteArray)) a0_2).bind fun t501 => (some (t499, t500, t501))))
def isoglosslaw22_plain.T4 : Bool × List (List Nat × List Nat) := (true, [([], []), ([], []), ([1], [1]), ([0, 2], [0, 2]), ([], []), ([], []), ([5], [5]), ([4, 6, 3], [4, 6]), ([], []), ([], []), ([9], [9]), ([8, 10, 7], [8, 10]), ([3, 7, 11], [3, 7, 11]), ([12, 11, 0, 1, 2, 3, 4, 5, 6, 7, 8, 9, 10, 11, 12], [12])])
def isoglosslaw22_plain.B4 : List Nat := [0, 0, 2, 7, 0, 0, 32, 127, 0, 0, 512, 2047, 4095, 8191]
theorem isoglosslaw22_plain.tab4 : rtab .any (opsOf Try.f14 4) = isoglosslaw22_plain.T4 := by kernel_rfl
theorem isoglosslaw22_plain.bits4 : waitsOk isoglosslaw22_plain.T4.2 isoglosslaw22_plain.B4 = true := by kernel_rfl
set_option maxHeartbeats 8000000 in
set_option maxRecDepth 100000 in
theorem isoglosslaw22_plain.calls (a0_0 : Int) (a0_1 : Int) (a0_2 : Int) (r1 : ByteArray) (r2 : ByteArray) (r3 : ByteArray) (w : World) (h : isoglosslaw22_plain.f a0_0 a0_1 a0_2 = some (r1, r2, r3)) :
  Calls Try.prog 14 #[.agg #[.int .i64 a0_0, .int .i64 a0_1, .int .i64 a0_2]] w fun e w' => e = .returned (.agg #[.string r1, .string r2, .string r3]) ∧ Below w.heap.size w w' := by
 have hu29 := Try.underlying29
 have hu30 := Try.underlying30
 have HB := ak (Below.refl w.heap.size w)
 have H : ((isoglossref06_Pick.f (([⟨#[101, 110]⟩, ⟨#[122, 104]⟩, ⟨#[115, 114]⟩, ⟨#[110, 98]⟩, ⟨#[100, 97]⟩, ⟨#[110, 111]⟩, ⟨#[100, 101]⟩, ⟨#[114, 117]⟩, ⟨#[104, 97, 110, 116]⟩, ⟨#[101, 115]⟩, ⟨#[105, 100]⟩, ⟨#[109, 115]⟩] : List ByteArray)) a0_0).bind fun t499 => ((isoglossref06_Pick.f (([⟨#[108, 97, 116, 110]⟩, ⟨#[104, 97, 110, 115]⟩, ⟨#[104, 97, 110, 116]⟩, ⟨#[99, 121, 114, 108]⟩, ⟨#[]⟩] : List ByteArray)) a0_1).bind fun t500 => ((isoglossref06_Pick.f (([⟨#[117, 115]⟩, ⟨#[103, 98]⟩, ⟨#[100, 101]⟩, ⟨#[102, 114]⟩, ⟨#[52, 49, 57]⟩, ⟨#[109, 120]⟩, ⟨#[114, 111]⟩, ⟨#[112, 114]⟩, ⟨#[]⟩] : List ByteArray)) a0_2).bind fun t501 => (some (t499, t500, t501))))) = some (r1, r2, r3) := h
 clear h
 obtain ⟨y490, hy490⟩ : ∃ y_ : List ByteArray, y_ = (([⟨#[101, 110]⟩, ⟨#[122, 104]⟩, ⟨#[115, 114]⟩, ⟨#[110, 98]⟩, ⟨#[100, 97]⟩, ⟨#[110, 111]⟩, ⟨#[100, 101]⟩, ⟨#[114, 117]⟩, ⟨#[104, 97, 110, 116]⟩, ⟨#[101, 115]⟩, ⟨#[105, 100]⟩, ⟨#[109, 115]⟩] : List ByteArray)) := ⟨_, rfl⟩
 replace H : ((isoglossref06_Pick.f y490 a0_0).bind fun t499 => ((isoglossref06_Pick.f (([⟨#[108, 97, 116, 110]⟩, ⟨#[104, 97, 110, 115]⟩, ⟨#[104, 97, 110, 116]⟩, ⟨#[99, 121, 114, 108]⟩, ⟨#[]⟩] : List ByteArray)) a0_1).bind fun t500 => ((isoglossref06_Pick.f (([⟨#[117, 115]⟩, ⟨#[103, 98]⟩, ⟨#[100, 101]⟩, ⟨#[102, 114]⟩, ⟨#[52, 49, 57]⟩, ⟨#[109, 120]⟩, ⟨#[114, 111]⟩, ⟨#[112, 114]⟩, ⟨#[]⟩] : List ByteArray)) a0_2).bind fun t501 => (some (t499, t500, t501))))) = some (r1, r2, r3) := by first | (rw [hy490]; with_reducible exact H) | (have H2_ := (Option.bind_some _ _).symm.trans H; rw [hy490]; with_reducible exact H2_) | (have H2_ := (Option.bind_some _ _).symm.trans H; with_reducible exact H2_) | with_reducible exact H | (rw [hy490]; exact H) | exact H
 have Ny490 := ak hy490
 clear hy490
 obtain ⟨y493, hy493⟩ : ∃ y_ : List ByteArray, y_ = (([⟨#[108, 97, 116, 110]⟩, ⟨#[104, 97, 110, 115]⟩, ⟨#[104, 97, 110, 116]⟩, ⟨#[99, 121, 114, 108]⟩, ⟨#[]⟩] : List ByteArray)) := ⟨_, rfl⟩
 replace H : ((isoglossref06_Pick.f y490 a0_0).bind fun t499 => ((isoglossref06_Pick.f y493 a0_1).bind fun t500 => ((isoglossref06_Pick.f (([⟨#[117, 115]⟩, ⟨#[103, 98]⟩, ⟨#[100, 101]⟩, ⟨#[102, 114]⟩, ⟨#[52, 49, 57]⟩, ⟨#[109, 120]⟩, ⟨#[114, 111]⟩, ⟨#[112, 114]⟩, ⟨#[]⟩] : List ByteArray)) a0_2).bind fun t501 => (some (t499, t500, t501))))) = some (r1, r2, r3) := by first | (rw [hy493]; with_reducible exact H) | (have H2_ := (Option.bind_some _ _).symm.trans H; rw [hy493]; with_reducible exact H2_) | (have H2_ := (Option.bind_some _ _).symm.trans H; with_reducible exact H2_) | with_reducible exact H | (rw [hy493]; exact H) | exact H
 have Ny493 := ak hy493
 clear hy493
 obtain ⟨y496, hy496⟩ : ∃ y_ : List ByteArray, y_ = (([⟨#[117, 115]⟩, ⟨#[103, 98]⟩, ⟨#[100, 101]⟩, ⟨#[102, 114]⟩, ⟨#[52, 49, 57]⟩, ⟨#[109, 120]⟩, ⟨#[114, 111]⟩, ⟨#[112, 114]⟩, ⟨#[]⟩] : List ByteArray)) := ⟨_, rfl⟩
 replace H : ((isoglossref06_Pick.f y490 a0_0).bind fun t499 => ((isoglossref06_Pick.f y493 a0_1).bind fun t500 => ((isoglossref06_Pick.f y496 a0_2).bind fun t501 => (some (t499, t500, t501))))) = some (r1, r2, r3) := by first | (rw [hy496]; with_reducible exact H) | (have H2_ := (Option.bind_some _ _).symm.trans H; rw [hy496]; with_reducible exact H2_) | (have H2_ := (Option.bind_some _ _).symm.trans H; with_reducible exact H2_) | with_reducible exact H | (rw [hy496]; exact H) | exact H
 have Ny496 := ak hy496
 clear hy496
 replace H := Option.bind_eq_some_iff.mp H
 obtain ⟨t499, A20, H⟩ := H
 have A2 := ak A20
 clear A20
 replace H := Option.bind_eq_some_iff.mp H
 obtain ⟨t500, A30, H⟩ := H
 have A3 := ak A30
 clear A30
 replace H := Option.bind_eq_some_iff.mp H
 obtain ⟨t501, A40, H⟩ := H
 have A4 := ak A40
 clear A40
 simp only [Option.some.injEq, Prod.mk.injEq] at H
 obtain ⟨rfl, rfl, rfl⟩ := H
 go_enter Try.func14, Try.ntmps14
 try go_wp2_with (first | ((with_reducible refine gate_dst (N := 1) rfl ?_); refine box_event ?hg (N := 1) ?hd (cs := #[.int .i64 a0_0, .int .i64 a0_1, .int .i64 a0_2]) (t := 29) ?hr ?_; (case hd => rfl); (case hg => rfl); (case hr => first | (go_simp; done) | (go_simp; rfl)); intro gb488 hg w5 hbox hb; have n0_ := ak (below_step bq hb); have n1_ := ak (hbox); have n2_ := ak ((by rw [hg]; exact (below_size bq) : w.heap.size ≤ gb488)); have n3_ := ak ((by rw [hg]; exact (below_size bq) : w.heap.size ≤ gb488)); clear HB; have HB := n0_; have BK488 := n1_; have GW488 := n2_; have GE488 := n3_; clear n0_ n1_ n2_ n3_; clear hb hbox hg) | ((with_reducible refine gate_dst (N := 2) rfl ?_); refine box_event ?hg (N := 2) ?hd (cs := #[.string ⟨#[]⟩, .string ⟨#[]⟩, .string ⟨#[]⟩]) (t := 30) ?hr ?_; (case hd => rfl); (case hg => rfl); (case hr => first | (go_simp; done) | (go_simp; rfl)); intro gb489 hg w6 hbox hb; have n0_ := ak (blk_below (g := gb488) (bx BK488.out) hb); have n1_ := ak (below_step bq hb); have n2_ := ak (hbox); have n3_ := ak ((by rw [hg]; exact (below_size bq) : w.heap.size ≤ gb489)); have n4_ := ak ((by rw [hg]; exact (below_size bq) : w.heap.size ≤ gb489)); have n5_ := ak ((by rw [hg]; exact Nat.ne_of_lt (blk_lt (g := gb488) (bx BK488.out)) : gb488 ≠ gb489)); have n6_ := ak ((by rw [hg]; exact Nat.ne_of_gt (blk_lt (g := gb488) (bx BK488.out)) : gb489 ≠ gb488)); clear BK488; clear HB; have BK488 := n0_; have HB := n1_; have BK489 := n2_; have GW489 := n3_; have GE489 := n4_; have NB488_489 := n5_; have NB489_488 := n6_; clear n0_ n1_ n2_ n3_ n4_ n5_ n6_; clear hb hbox hg) | ((with_reducible refine gate_dst (N := 6) rfl ?_); refine Kd.R_lit Kd.string _ 9 ?hg (N := 6) ?hd (xs := ([⟨#[101, 110]⟩, ⟨#[122, 104]⟩, ⟨#[115, 114]⟩, ⟨#[110, 98]⟩, ⟨#[100, 97]⟩, ⟨#[110, 111]⟩, ⟨#[100, 101]⟩, ⟨#[114, 117]⟩, ⟨#[104, 97, 110, 116]⟩, ⟨#[101, 115]⟩, ⟨#[105, 100]⟩, ⟨#[109, 115]⟩] : List ByteArray)) (inner := [.string ⟨#[101, 110]⟩, .string ⟨#[122, 104]⟩, .string ⟨#[115, 114]⟩, .string ⟨#[110, 98]⟩, .string ⟨#[100, 97]⟩, .string ⟨#[110, 111]⟩, .string ⟨#[100, 101]⟩, .string ⟨#[114, 117]⟩, .string ⟨#[104, 97, 110, 116]⟩, .string ⟨#[101, 115]⟩, .string ⟨#[105, 100]⟩, .string ⟨#[109, 115]⟩]) (ok := fun _ => True) (okp := fun _ => True) ?hr ?hp (fun _ hk => hk) trivial (Below.refl _ _) (Nat.le_refl _) (by simp) ?_; (case hd => rfl); (case hg => rfl); (case hr => first | (go_simp; done) | (go_simp; rfl)); (case hp => exact (Reps.one (show Kd.M Kd.string _ _ _ (⟨#[101, 110]⟩ : ByteArray) [.string ⟨#[101, 110]⟩] from rfl) (Reps.one (show Kd.M Kd.string _ _ _ (⟨#[122, 104]⟩ : ByteArray) [.string ⟨#[122, 104]⟩] from rfl) (Reps.one (show Kd.M Kd.string _ _ _ (⟨#[115, 114]⟩ : ByteArray) [.string ⟨#[115, 114]⟩] from rfl) (Reps.one (show Kd.M Kd.string _ _ _ (⟨#[110, 98]⟩ : ByteArray) [.string ⟨#[110, 98]⟩] from rfl) (Reps.one (show Kd.M Kd.string _ _ _ (⟨#[100, 97]⟩ : ByteArray) [.string ⟨#[100, 97]⟩] from rfl) (Reps.one (show Kd.M Kd.string _ _ _ (⟨#[110, 111]⟩ : ByteArray) [.string ⟨#[110, 111]⟩] from rfl) (Reps.one (show Kd.M Kd.string _ _ _ (⟨#[100, 101]⟩ : ByteArray) [.string ⟨#[100, 101]⟩] from rfl) (Reps.one (show Kd.M Kd.string _ _ _ (⟨#[114, 117]⟩ : ByteArray) [.string ⟨#[114, 117]⟩] from rfl) (Reps.one (show Kd.M Kd.string _ _ _ (⟨#[104, 97, 110, 116]⟩ : ByteArray) [.string ⟨#[104, 97, 110, 116]⟩] from rfl) (Reps.one (show Kd.M Kd.string _ _ _ (⟨#[101, 115]⟩ : ByteArray) [.string ⟨#[101, 115]⟩] from rfl) (Reps.one (show Kd.M Kd.string _ _ _ (⟨#[105, 100]⟩ : ByteArray) [.string ⟨#[105, 100]⟩] from rfl) (Reps.one (show Kd.M Kd.string _ _ _ (⟨#[109, 115]⟩ : ByteArray) [.string ⟨#[109, 115]⟩] from rfl) (Reps.none _ _)))))))))))))); intro v491 w7 ho8 hb hg_ hnew_; clear hg_ hnew_; (first | rw [← Ny490.out] at ho8 | (simp only [Int.reduceToNat] at ho8; rw [← Ny490.out] at ho8)); have n0_ := ak (Kd.R_lower ho8 (below_size bq)); have n1_ := ak (blk_below (g := gb488) (bx BK488.out) hb); have n2_ := ak (blk_below (g := gb489) (bx BK489.out) hb); have n3_ := ak (below_step bq hb); clear BK488; clear BK489; clear HB; have HO492 := n0_; have BK488 := n1_; have BK489 := n2_; have HB := n3_; clear n0_ n1_ n2_ n3_; clear hb ho8) | ((with_reducible refine gate_dst (N := 7) rfl ?_); refine Kd.R_lit Kd.string _ 9 ?hg (N := 7) ?hd (xs := ([⟨#[108, 97, 116, 110]⟩, ⟨#[104, 97, 110, 115]⟩, ⟨#[104, 97, 110, 116]⟩, ⟨#[99, 121, 114, 108]⟩, ⟨#[]⟩] : List ByteArray)) (inner := [.string ⟨#[108, 97, 116, 110]⟩, .string ⟨#[104, 97, 110, 115]⟩, .string ⟨#[104, 97, 110, 116]⟩, .string ⟨#[99, 121, 114, 108]⟩, .string ⟨#[]⟩]) (ok := fun _ => True) (okp := fun _ => True) ?hr ?hp (fun _ hk => hk) trivial (Below.refl _ _) (Nat.le_refl _) (by simp) ?_; (case hd => rfl); (case hg => rfl); (case hr => first | (go_simp; done) | (go_simp; rfl)); (case hp => exact (Reps.one (show Kd.M Kd.string _ _ _ (⟨#[108, 97, 116, 110]⟩ : ByteArray) [.string ⟨#[108, 97, 116, 110]⟩] from rfl) (Reps.one (show Kd.M Kd.string _ _ _ (⟨#[104, 97, 110, 115]⟩ : ByteArray) [.string ⟨#[104, 97, 110, 115]⟩] from rfl) (Reps.one (show Kd.M Kd.string _ _ _ (⟨#[104, 97, 110, 116]⟩ : ByteArray) [.string ⟨#[104, 97, 110, 116]⟩] from rfl) (Reps.one (show Kd.M Kd.string _ _ _ (⟨#[99, 121, 114, 108]⟩ : ByteArray) [.string ⟨#[99, 121, 114, 108]⟩] from rfl) (Reps.one (show Kd.M Kd.string _ _ _ (⟨#[]⟩ : ByteArray) [.string ⟨#[]⟩] from rfl) (Reps.none _ _))))))); intro v494 w9 ho10 hb hg_ hnew_; clear hg_ hnew_; (first | rw [← Ny493.out] at ho10 | (simp only [Int.reduceToNat] at ho10; rw [← Ny493.out] at ho10)); have n0_ := ak (Kd.R_elder' (rx HO492.out) (Kd.R_base ho10) hb); have n1_ := ak (Kd.R_lower (Kd.R_new' ho10 (Kd.R_lt (rx HO492.out))) (below_size bq)); have n2_ := ak (blk_below (g := gb488) (bx BK488.out) hb); have n3_ := ak (blk_below (g := gb489) (bx BK489.out) hb); have n4_ := ak (below_step bq hb); clear HO492; clear BK488; clear BK489; clear HB; have HO492 := n0_; have HO495 := n1_; have BK488 := n2_; have BK489 := n3_; have HB := n4_; clear n0_ n1_ n2_ n3_ n4_; clear hb ho10) | ((with_reducible refine gate_dst (N := 8) rfl ?_); refine Kd.R_lit Kd.string _ 9 ?hg (N := 8) ?hd (xs := ([⟨#[117, 115]⟩, ⟨#[103, 98]⟩, ⟨#[100, 101]⟩, ⟨#[102, 114]⟩, ⟨#[52, 49, 57]⟩, ⟨#[109, 120]⟩, ⟨#[114, 111]⟩, ⟨#[112, 114]⟩, ⟨#[]⟩] : List ByteArray)) (inner := [.string ⟨#[117, 115]⟩, .string ⟨#[103, 98]⟩, .string ⟨#[100, 101]⟩, .string ⟨#[102, 114]⟩, .string ⟨#[52, 49, 57]⟩, .string ⟨#[109, 120]⟩, .string ⟨#[114, 111]⟩, .string ⟨#[112, 114]⟩, .string ⟨#[]⟩]) (ok := fun _ => True) (okp := fun _ => True) ?hr ?hp (fun _ hk => hk) trivial (Below.refl _ _) (Nat.le_refl _) (by simp) ?_; (case hd => rfl); (case hg => rfl); (case hr => first | (go_simp; done) | (go_simp; rfl)); (case hp => exact (Reps.one (show Kd.M Kd.string _ _ _ (⟨#[117, 115]⟩ : ByteArray) [.string ⟨#[117, 115]⟩] from rfl) (Reps.one (show Kd.M Kd.string _ _ _ (⟨#[103, 98]⟩ : ByteArray) [.string ⟨#[103, 98]⟩] from rfl) (Reps.one (show Kd.M Kd.string _ _ _ (⟨#[100, 101]⟩ : ByteArray) [.string ⟨#[100, 101]⟩] from rfl) (Reps.one (show Kd.M Kd.string _ _ _ (⟨#[102, 114]⟩ : ByteArray) [.string ⟨#[102, 114]⟩] from rfl) (Reps.one (show Kd.M Kd.string _ _ _ (⟨#[52, 49, 57]⟩ : ByteArray) [.string ⟨#[52, 49, 57]⟩] from rfl) (Reps.one (show Kd.M Kd.string _ _ _ (⟨#[109, 120]⟩ : ByteArray) [.string ⟨#[109, 120]⟩] from rfl) (Reps.one (show Kd.M Kd.string _ _ _ (⟨#[114, 111]⟩ : ByteArray) [.string ⟨#[114, 111]⟩] from rfl) (Reps.one (show Kd.M Kd.string _ _ _ (⟨#[112, 114]⟩ : ByteArray) [.string ⟨#[112, 114]⟩] from rfl) (Reps.one (show Kd.M Kd.string _ _ _ (⟨#[]⟩ : ByteArray) [.string ⟨#[]⟩] from rfl) (Reps.none _ _))))))))))); intro v497 w11 ho12 hb hg_ hnew_; clear hg_ hnew_; (first | rw [← Ny496.out] at ho12 | (simp only [Int.reduceToNat] at ho12; rw [← Ny496.out] at ho12)); have n0_ := ak (Kd.R_elder' (rx HO492.out) (Kd.R_base ho12) hb); have n1_ := ak (Kd.R_elder' (rx HO495.out) (Kd.R_base ho12) hb); have n2_ := ak (Kd.R_lower (Kd.R_new' (Kd.R_new' ho12 (Kd.R_lt (rx HO492.out))) (Kd.R_lt (rx HO495.out))) (below_size bq)); have n3_ := ak (blk_below (g := gb488) (bx BK488.out) hb); have n4_ := ak (blk_below (g := gb489) (bx BK489.out) hb); have n5_ := ak (below_step bq hb); clear HO492; clear HO495; clear BK488; clear BK489; clear HB; have HO492 := n0_; have HO495 := n1_; have HO498 := n2_; have BK488 := n3_; have BK489 := n4_; have HB := n5_; clear n0_ n1_ n2_ n3_ n4_ n5_; clear hb ho12))
 have n0_ := ak (Kd.R_drew HO492.out)
 have n1_ := ak (Kd.R_drew HO495.out)
 have n2_ := ak (Kd.R_drew HO498.out)
 have n3_ := ak (blk_drew BK488.out)
 have n4_ := ak (blk_drew BK489.out)
 have n5_ := ak (below_drew1 HB.out)
 clear HO492
 clear HO495
 clear HO498
 clear BK488
 clear BK489
 clear HB
 have HO492 := n0_
 have HO495 := n1_
 have HO498 := n2_
 have BK488 := n3_
 have BK489 := n4_
 have HB := n5_
 clear n0_ n1_ n2_ n3_ n4_ n5_
 obtain ⟨Ao14, co14, eo14⟩ := Kd.R_slice HO492.out
 (first | subst eo14 | (injection eo14 with f1_ f2_ f3_; have f4_ := f1_.symm; have f5_ := f3_.symm; clear f1_ f2_ f3_; subst f4_; subst f5_))
 refine start_ (n := 14) (S := fun w' => w'.cell? ⟨gb488, 0, none⟩ = some (.int .i64 a0_0) ∧ w'.cell? ⟨gb488, 1, none⟩ = some (.int .i64 a0_1) ∧ w'.cell? ⟨gb488, 2, none⟩ = some (.int .i64 a0_2)) (ds := []) #[false, false, false, false, false, false, false, false, false, false, false, false, false, false] (by kernel_rfl) rfl rfl ⟨(blk_cell BK488.out 0).trans rfl, (blk_cell BK488.out 1).trans rfl, (blk_cell BK488.out 2).trans rfl⟩ (fun hHeld => ?_); refine with_tabW isoglosslaw22_plain.tab4 isoglosslaw22_plain.bits4 (fun HT_ HW_ => ?_)
 generalize w11.drew = w13 at HO492 HO495 HO498 BK488 BK489 HB hHeld ⊢
 refine pu 0 (some 9) (M 14 1) ?_
 refine pu 1 (some 10) (M 14 3) ?_
 refine pu 4 (some 13) (M 14 19) ?_
 refine pu 5 (some 14) (M 14 51) ?_
 refine pu 8 (some 17) (M 14 307) ?_
 refine pu 9 (some 18) (M 14 819) ?_
 refine take_ (i := 2) (N := some 11) (v := ?_) (a' := ?_) (M 14 823) rfl rfl (take_ofW HT_.out HW_.out (by kernel_rfl)) (fun _ _ _ h => h) (Or.inl ⟨by rfl, ?_⟩) hHeld ?_ ?_
 rotate_left
 ·
  rintro w' ⟨s0, s1, s2⟩
  go_simp
  with_reducible rfl
 rotate_left
 ·
  simp only [Act.put, pA, pB, pC, i64_w, i32_w]
  rfl
 refine take_ (i := 6) (N := some 15) (v := ?_) (a' := ?_) (M 14 887) rfl rfl (take_ofW HT_.out HW_.out (by kernel_rfl)) (fun _ _ _ h => h) (Or.inl ⟨by rfl, ?_⟩) hHeld ?_ ?_
 rotate_left
 ·
  rintro w' ⟨s0, s1, s2⟩
  go_simp
  with_reducible rfl
 rotate_left
 ·
  simp only [Act.put, pA, pB, pC, i64_w, i32_w]
  rfl
 refine take_ (i := 10) (N := some 19) (v := ?_) (a' := ?_) (M 14 1911) rfl rfl (take_ofW HT_.out HW_.out (by kernel_rfl)) (fun _ _ _ h => h) (Or.inl ⟨by rfl, ?_⟩) hHeld ?_ ?_
 rotate_left
 ·
  rintro w' ⟨s0, s1, s2⟩
  go_simp
  with_reducible rfl
 rotate_left
 ·
  simp only [Act.put, pA, pB, pC, i64_w, i32_w]
  rfl
 refine one_ (i := 3) (N := some 12) (M 14 1919) rfl rfl (one_of HT_.out (by kernel_rfl)) (by decide) (fun K hK => ?_)
 refine goes_ Try.func25 (by kernel_rfl) rfl #[.slice Ao14 y490.length co14, .int .i64 a0_0] (by rfl) rfl rfl mq ?_
 with_reducible refine (isoglossref06_Pick.calls _ _ y490 a0_0 t499 _ ?side1 ?side2 A2.out).mono ?_
 (case side1 => repeat (first | exact (Kd.R_reads' HO492.out).2.2 | (with_reducible refine Kd.C_alloc ?_ _) | (with_reducible refine Kd.C_drewN ?_ _) | (with_reducible refine Kd.C_drew ?_)))
 (case side2 => exact (Kd.R_reads' HO492.out).2.1)
 rintro e w' ⟨rfl, ⟨nd, rfl⟩⟩
 refine ⟨_, rfl, ?_⟩
 obtain ⟨Ao15, co15, eo15⟩ := Kd.R_slice HO495.out
 (first | subst eo15 | (injection eo15 with f1_ f2_ f3_; have f4_ := f1_.symm; have f5_ := f3_.symm; clear f1_ f2_ f3_; subst f4_; subst f5_))
 refine hK.out _ _ ⟨(blk_cell BK488.out 0).trans rfl, (blk_cell BK488.out 1).trans rfl, (blk_cell BK488.out 2).trans rfl⟩ (fun hHeld => ?_)
 clear hK K
 refine norm_ (a' := ?_) ?_ ?_
 rotate_left
 ·
  show Act.put _ (some 12) _ = _
  simp only [Act.put, pA, pB, pC, i64_w, i32_w]
  rfl
 refine one_ (i := 7) (N := some 16) (M 14 2047) rfl rfl (one_of HT_.out (by kernel_rfl)) (by decide) (fun K hK => ?_)
 refine goes_ Try.func25 (by kernel_rfl) rfl #[.slice Ao15 y493.length co15, .int .i64 a0_1] (by rfl) rfl rfl mq ?_
 with_reducible refine (isoglossref06_Pick.calls _ _ y493 a0_1 t500 _ ?side1 ?side2 A3.out).mono ?_
 (case side1 => repeat (first | exact (Kd.R_reads' HO495.out).2.2 | (with_reducible refine Kd.C_alloc ?_ _) | (with_reducible refine Kd.C_drewN ?_ _) | (with_reducible refine Kd.C_drew ?_)))
 (case side2 => exact (Kd.R_reads' HO495.out).2.1)
 rintro e w' ⟨rfl, ⟨nd, rfl⟩⟩
 refine ⟨_, rfl, ?_⟩
 obtain ⟨Ao16, co16, eo16⟩ := Kd.R_slice HO498.out
 (first | subst eo16 | (injection eo16 with f1_ f2_ f3_; have f4_ := f1_.symm; have f5_ := f3_.symm; clear f1_ f2_ f3_; subst f4_; subst f5_))
 refine hK.out _ _ ⟨(blk_cell BK488.out 0).trans rfl, (blk_cell BK488.out 1).trans rfl, (blk_cell BK488.out 2).trans rfl⟩ (fun hHeld => ?_)
 clear hK K
 refine norm_ (a' := ?_) ?_ ?_
 rotate_left
 ·
  show Act.put _ (some 16) _ = _
  simp only [Act.put, pA, pB, pC, i64_w, i32_w]
  rfl
 refine one_ (i := 11) (N := some 20) (M 14 4095) rfl rfl (one_of HT_.out (by kernel_rfl)) (by decide) (fun K hK => ?_)
 refine goes_ Try.func25 (by kernel_rfl) rfl #[.slice Ao16 y496.length co16, .int .i64 a0_2] (by rfl) rfl rfl mq ?_
 with_reducible refine (isoglossref06_Pick.calls _ _ y496 a0_2 t501 _ ?side1 ?side2 A4.out).mono ?_
 (case side1 => repeat (first | exact (Kd.R_reads' HO498.out).2.2 | (with_reducible refine Kd.C_alloc ?_ _) | (with_reducible refine Kd.C_drewN ?_ _) | (with_reducible refine Kd.C_drew ?_)))
 (case side2 => exact (Kd.R_reads' HO498.out).2.1)
 rintro e w' ⟨rfl, ⟨nd, rfl⟩⟩
 refine ⟨_, rfl, ?_⟩
 refine hK.out _ _ ⟨(blk_cell BK488.out 0).trans rfl, (blk_cell BK488.out 1).trans rfl, (blk_cell BK488.out 2).trans rfl⟩ (fun hHeld => ?_)
 clear hK K
 refine norm_ (a' := ?_) ?_ ?_
 rotate_left
 ·
  show Act.put _ (some 20) _ = _
  simp only [Act.put, pA, pB, pC, i64_w, i32_w]
  rfl
 refine pu 12 (some 21) (M 14 8191) ?_
 refine one_ (i := 13) (N := none) (M 14 16383) rfl rfl (one_of HT_.out (by kernel_rfl)) (by decide) (fun K hK => ?_)
 have hs17 : w13.cell? ⟨gb489, 0, none⟩ = some (.string ⟨#[]⟩) := (blk_cell BK489.out 0).trans rfl
 have hfs17 := blk_frozen BK489.out 0
 have hns17_0 := NB488_489.out
 have hms17_0 := NB489_488.out
 have hs18 : w13.cell? ⟨gb489, 1, none⟩ = some (.string ⟨#[]⟩) := (blk_cell BK489.out 1).trans rfl
 have hfs18 := blk_frozen BK489.out 1
 have hns18_0 := NB488_489.out
 have hms18_0 := NB489_488.out
 have hs19 : w13.cell? ⟨gb489, 2, none⟩ = some (.string ⟨#[]⟩) := (blk_cell BK489.out 2).trans rfl
 have hfs19 := blk_frozen BK489.out 2
 have hns19_0 := NB488_489.out
 have hms19_0 := NB489_488.out
 refine skip_ (w1 := ?_) (by rfl) rfl ?_ ?_
 rotate_left
 ·
  go_simp
  rfl
 refine hK.out _ _ ⟨((cell_far (p := ⟨gb489, _, none⟩) NB488_489.out _).trans (((cell_far (p := ⟨gb489, _, none⟩) NB488_489.out _).trans (((cell_far (p := ⟨gb489, _, none⟩) NB488_489.out _).trans (hHeld.1)))))), ((cell_far (p := ⟨gb489, _, none⟩) NB488_489.out _).trans (((cell_far (p := ⟨gb489, _, none⟩) NB488_489.out _).trans (((cell_far (p := ⟨gb489, _, none⟩) NB488_489.out _).trans (hHeld.2.1)))))), ((cell_far (p := ⟨gb489, _, none⟩) NB488_489.out _).trans (((cell_far (p := ⟨gb489, _, none⟩) NB488_489.out _).trans (((cell_far (p := ⟨gb489, _, none⟩) NB488_489.out _).trans (hHeld.2.2))))))⟩ (fun hHeld => ?_)
 clear hK K
 refine done_ (done_of HT_.out (by kernel_rfl)) ?_
 try go_wp2
 refine bodyPost_ret (results_cell_row rfl _ _ gb489 30 #[.string t499, .string t500, .string t501] (0, 0) _ rfl (bx (blk_put (cs := #[.string t499, .string t500, .string ⟨#[]⟩]) (bx (blk_put (cs := #[.string t499, .string ⟨#[]⟩, .string ⟨#[]⟩]) (bx (blk_put (cs := #[.string ⟨#[]⟩, .string ⟨#[]⟩, .string ⟨#[]⟩]) (bx BK489.out) 0 _ rfl)) 1 _ rfl)) 2 _ rfl)) Try.underlying30 rfl (by kernel_rfl)) rfl ?_
 exact ⟨by first | rfl | (simp [errW_none, errW_some] <;> rfl) | (simp [*, errW_none, errW_some] <;> rfl), bq⟩

end Go.Proofs.Ytdjbanhoejegjaa.P
