/- Made by a program of this seat's own (myprint.py, round the kit's print): what the functions compute, and that they do. -/
import Derived.Test.YtmbfnbnlajchmaaDoorAdP0
import Derived.Test.YtmbfnbnlajchmaaDoorAdP5
import Derived.Test.YtmbfnbnlajchmaaDoorAdP10
import Derived.Test.YtmbfnbnlajchmaaDoorAdP11
import Derived.Test.YtmbfnbnlajchmaaDoorAdP13
import Derived.Test.YtmbfnbnlajchmaaDoorAdP15
import Derived.Test.YtmbfnbnlajchmaaDoorAdTight
namespace Go.Proofs.YtmbfnbnlajchmaaDoor.P
open Go.RowKit Go.Proofs.YtmbfnbnlajchmaaDoorW.PrintWords Go.Proofs.YtmbfnbnlajchmaaDoorW.PrintLast Go.Proofs.YtmbfnbnlajchmaaDoorW.PrintMore
attribute [local go_sem] StrOrd.binOp_gtr StrOrd.binOp_leq max2_int min2_int max_two min_two max_three min_three max_four min_four   -- for this text's walks alone
set_option linter.unusedVariables false
set_option linter.unusedSimpArgs false

def isoglossref06_Pick.f (l0 : List ByteArray) (a1 : Int) : Option (ByteArray) := if (l0.length : Int) = 0 then (none) else (if 0 ≤ (Int.tmod (wrap64 ((Int.tmod a1 (l0.length : Int)) + (l0.length : Int))) (l0.length : Int)) then (if (Int.tmod (wrap64 ((Int.tmod a1 (l0.length : Int)) + (l0.length : Int))) (l0.length : Int)) < (l0.length : Int) then (some (rdOf ByteArray.empty l0 (Int.tmod (wrap64 ((Int.tmod a1 (l0.length : Int)) + (l0.length : Int))) (l0.length : Int)))) else (none)) else (none))
set_option maxHeartbeats 8000000 in
set_option maxRecDepth 100000 in
theorem isoglossref06_Pick.calls (A0 : Option Addr) (c0 : Nat) (l0 : List ByteArray) (a1 : Int) (r : ByteArray) (w : World) (hr0 : Kd.C Kd.string w A0 l0.length l0) (hc0 : l0.length ≤ c0) (h : isoglossref06_Pick.f l0 a1 = some r) :
  Calls Tryd.prog 56 #[.slice A0 l0.length c0, .int .i64 a1] w fun e w' => e = .returned (.string r) ∧ Drawn0 w w' := by
 have HR0 := ak hr0
 have HC0 := ak hc0
 clear hr0 hc0
 have H : (if (l0.length : Int) = 0 then (none) else (if 0 ≤ (Int.tmod (wrap64 ((Int.tmod a1 (l0.length : Int)) + (l0.length : Int))) (l0.length : Int)) then (if (Int.tmod (wrap64 ((Int.tmod a1 (l0.length : Int)) + (l0.length : Int))) (l0.length : Int)) < (l0.length : Int) then (some (rdOf ByteArray.empty l0 (Int.tmod (wrap64 ((Int.tmod a1 (l0.length : Int)) + (l0.length : Int))) (l0.length : Int)))) else (none)) else (none))) = some r := h
 clear h
 by_cases c3 : (l0.length : Int) = 0
 ·
  rw [if_pos c3] at H
  exact absurd H (by simp)
 ·
  rw [if_neg c3] at H
  have c3b0 : ((l0.length : Int) == 0) = false := beq_eq_false_iff_ne.mpr c3
  have c3b1 : ((l0.length : Int) != 0) = true := bne_iff_ne.mpr c3
  have c3b2 : ¬ (l0 = []) := fun h_ => c3 (by rw [h_]; rfl)
  obtain ⟨ji4, hji4⟩ : ∃ j_ : Int, (Int.tmod (wrap64 ((Int.tmod a1 (l0.length : Int)) + (l0.length : Int))) (l0.length : Int)) = j_ := ⟨_, rfl⟩
  replace H : (if 0 ≤ (ji4) then (if (ji4) < (l0.length : Int) then (some (rdOf ByteArray.empty l0 (ji4))) else (none)) else (none)) = some r := by first | (rw [hji4] at H; exact H) | (simp only [hji4] at H ⊢; exact H)
  by_cases c5 : 0 ≤ (ji4)
  ·
   rw [if_pos c5] at H
   have c5b0 : decide (0 ≤ (ji4)) = true := decide_eq_true c5
   clear c5
   by_cases c6 : (ji4) < (l0.length : Int)
   ·
    rw [if_pos c6] at H
    have c6b0 : decide ((ji4) < (l0.length : Int)) = true := decide_eq_true c6
    clear c6
    obtain rfl := Option.some.inj H
    have p404 : 0 ≤ ((ji4) : Int) := of_decide_eq_true (by first | (with_reducible assumption) | assumption)
    have q404 : (ji4) < (l0.length : Int) := of_decide_eq_true (by first | (with_reducible assumption) | assumption)
    obtain ⟨ad404, e404, hx404_0⟩ := Kd.at_string HR0.out (ji4) p404 q404
    cases e404
    replace p404 := eq_true p404
    replace q404 := eq_true q404
    go_enter Tryd.func56, Tryd.ntmps56
    go_wp2
    go_ret
    exact ⟨by first | rfl | (simp; done) | (simp only [← hji4] <;> (first | rfl | simp)) | (simp [*]; done), by repeat (first | exact Drawn0.refl _ | apply Drawn0.step)⟩
   ·
    rw [if_neg c6] at H
    exact absurd H (by simp)
  ·
   rw [if_neg c5] at H
   exact absurd H (by simp)

def isoglossref12_toLangs.f  : Option (List ByteArray) := some (([⟨#[104, 101]⟩, ⟨#[114, 111]⟩, ⟨#[110, 98]⟩, ⟨#[115, 114]⟩, ⟨#[102, 105, 108]⟩, ⟨#[120, 120]⟩, ⟨#[99, 109, 110]⟩, ⟨#[101, 110]⟩] : List ByteArray))
set_option maxHeartbeats 8000000 in
set_option maxRecDepth 100000 in
theorem isoglossref12_toLangs.calls  (r : List ByteArray) (w : World) (h : isoglossref12_toLangs.f  = some r) :
  Calls Tryd.prog 57 #[] w fun e w' => ∃ v0_ : Value, e = .returned (v0_) ∧ Kd.R Kd.string 9 w' w.heap.size (fun _ => True) v0_ r ∧ Below w.heap.size w w' := by
 have HB := ak (Below.refl w.heap.size w)
 have H : (some (([⟨#[104, 101]⟩, ⟨#[114, 111]⟩, ⟨#[110, 98]⟩, ⟨#[115, 114]⟩, ⟨#[102, 105, 108]⟩, ⟨#[120, 120]⟩, ⟨#[99, 109, 110]⟩, ⟨#[101, 110]⟩] : List ByteArray))) = some r := h
 clear h
 obtain ⟨y405, hy405⟩ : ∃ y_ : List ByteArray, y_ = (([⟨#[104, 101]⟩, ⟨#[114, 111]⟩, ⟨#[110, 98]⟩, ⟨#[115, 114]⟩, ⟨#[102, 105, 108]⟩, ⟨#[120, 120]⟩, ⟨#[99, 109, 110]⟩, ⟨#[101, 110]⟩] : List ByteArray)) := ⟨_, rfl⟩
 replace H : (some y405) = some r := by first | (rw [hy405]; with_reducible exact H) | (have H2_ := (Option.bind_some _ _).symm.trans H; rw [hy405]; with_reducible exact H2_) | (have H2_ := (Option.bind_some _ _).symm.trans H; with_reducible exact H2_) | with_reducible exact H | (rw [hy405]; exact H) | exact H
 have Ny405 := ak hy405
 clear hy405
 obtain rfl := Option.some.inj H
 go_enter Tryd.func57, Tryd.ntmps57
 go_wp2_with (first | ((with_reducible refine gate_dst (N := 1) rfl ?_); refine Kd.R_lit Kd.string _ 9 ?hg (N := 1) ?hd (xs := ([⟨#[104, 101]⟩, ⟨#[114, 111]⟩, ⟨#[110, 98]⟩, ⟨#[115, 114]⟩, ⟨#[102, 105, 108]⟩, ⟨#[120, 120]⟩, ⟨#[99, 109, 110]⟩, ⟨#[101, 110]⟩] : List ByteArray)) (inner := [.string ⟨#[104, 101]⟩, .string ⟨#[114, 111]⟩, .string ⟨#[110, 98]⟩, .string ⟨#[115, 114]⟩, .string ⟨#[102, 105, 108]⟩, .string ⟨#[120, 120]⟩, .string ⟨#[99, 109, 110]⟩, .string ⟨#[101, 110]⟩]) (ok := fun _ => True) (okp := fun _ => True) ?hr ?hp (fun _ hk => hk) trivial (Below.refl _ _) (Nat.le_refl _) (by simp) ?_; (case hd => rfl); (case hg => rfl); (case hr => first | (go_simp; done) | (go_simp; rfl)); (case hp => exact (Reps.one (show Kd.M Kd.string _ _ _ (⟨#[104, 101]⟩ : ByteArray) [.string ⟨#[104, 101]⟩] from rfl) (Reps.one (show Kd.M Kd.string _ _ _ (⟨#[114, 111]⟩ : ByteArray) [.string ⟨#[114, 111]⟩] from rfl) (Reps.one (show Kd.M Kd.string _ _ _ (⟨#[110, 98]⟩ : ByteArray) [.string ⟨#[110, 98]⟩] from rfl) (Reps.one (show Kd.M Kd.string _ _ _ (⟨#[115, 114]⟩ : ByteArray) [.string ⟨#[115, 114]⟩] from rfl) (Reps.one (show Kd.M Kd.string _ _ _ (⟨#[102, 105, 108]⟩ : ByteArray) [.string ⟨#[102, 105, 108]⟩] from rfl) (Reps.one (show Kd.M Kd.string _ _ _ (⟨#[120, 120]⟩ : ByteArray) [.string ⟨#[120, 120]⟩] from rfl) (Reps.one (show Kd.M Kd.string _ _ _ (⟨#[99, 109, 110]⟩ : ByteArray) [.string ⟨#[99, 109, 110]⟩] from rfl) (Reps.one (show Kd.M Kd.string _ _ _ (⟨#[101, 110]⟩ : ByteArray) [.string ⟨#[101, 110]⟩] from rfl) (Reps.none _ _)))))))))); intro v406 w1 ho2 hb hg_ hnew_; clear hg_ hnew_; (first | rw [← Ny405.out] at ho2 | (simp only [Int.reduceToNat] at ho2; rw [← Ny405.out] at ho2)); have n0_ := ak (Kd.R_lower ho2 (below_size bq)); have n1_ := ak (below_step bq hb); clear HB; have HO407 := n0_; have HB := n1_; clear n0_ n1_; clear hb ho2))
 go_ret
 exact ⟨_, by first | rfl | (simp [errW_none, errW_some] <;> rfl) | (simp [*, errW_none, errW_some] <;> rfl), by (with_reducible repeat (first | apply rA | apply rN | apply rD)); exact HO407.out, bq⟩

def isoglossref12_langs.f  : Option (List ByteArray) := some (([⟨#[105, 119]⟩, ⟨#[109, 111]⟩, ⟨#[110, 111]⟩, ⟨#[115, 104]⟩, ⟨#[116, 108]⟩, ⟨#[115, 103, 110]⟩, ⟨#[122, 104]⟩, ⟨#[104, 97, 110, 116]⟩] : List ByteArray))
set_option maxHeartbeats 8000000 in
set_option maxRecDepth 100000 in
theorem isoglossref12_langs.calls  (r : List ByteArray) (w : World) (h : isoglossref12_langs.f  = some r) :
  Calls Tryd.prog 58 #[] w fun e w' => ∃ v0_ : Value, e = .returned (v0_) ∧ Kd.R Kd.string 9 w' w.heap.size (fun _ => True) v0_ r ∧ Below w.heap.size w w' := by
 have HB := ak (Below.refl w.heap.size w)
 have H : (some (([⟨#[105, 119]⟩, ⟨#[109, 111]⟩, ⟨#[110, 111]⟩, ⟨#[115, 104]⟩, ⟨#[116, 108]⟩, ⟨#[115, 103, 110]⟩, ⟨#[122, 104]⟩, ⟨#[104, 97, 110, 116]⟩] : List ByteArray))) = some r := h
 clear h
 obtain ⟨y408, hy408⟩ : ∃ y_ : List ByteArray, y_ = (([⟨#[105, 119]⟩, ⟨#[109, 111]⟩, ⟨#[110, 111]⟩, ⟨#[115, 104]⟩, ⟨#[116, 108]⟩, ⟨#[115, 103, 110]⟩, ⟨#[122, 104]⟩, ⟨#[104, 97, 110, 116]⟩] : List ByteArray)) := ⟨_, rfl⟩
 replace H : (some y408) = some r := by first | (rw [hy408]; with_reducible exact H) | (have H2_ := (Option.bind_some _ _).symm.trans H; rw [hy408]; with_reducible exact H2_) | (have H2_ := (Option.bind_some _ _).symm.trans H; with_reducible exact H2_) | with_reducible exact H | (rw [hy408]; exact H) | exact H
 have Ny408 := ak hy408
 clear hy408
 obtain rfl := Option.some.inj H
 go_enter Tryd.func58, Tryd.ntmps58
 go_wp2_with (first | ((with_reducible refine gate_dst (N := 1) rfl ?_); refine Kd.R_lit Kd.string _ 9 ?hg (N := 1) ?hd (xs := ([⟨#[105, 119]⟩, ⟨#[109, 111]⟩, ⟨#[110, 111]⟩, ⟨#[115, 104]⟩, ⟨#[116, 108]⟩, ⟨#[115, 103, 110]⟩, ⟨#[122, 104]⟩, ⟨#[104, 97, 110, 116]⟩] : List ByteArray)) (inner := [.string ⟨#[105, 119]⟩, .string ⟨#[109, 111]⟩, .string ⟨#[110, 111]⟩, .string ⟨#[115, 104]⟩, .string ⟨#[116, 108]⟩, .string ⟨#[115, 103, 110]⟩, .string ⟨#[122, 104]⟩, .string ⟨#[104, 97, 110, 116]⟩]) (ok := fun _ => True) (okp := fun _ => True) ?hr ?hp (fun _ hk => hk) trivial (Below.refl _ _) (Nat.le_refl _) (by simp) ?_; (case hd => rfl); (case hg => rfl); (case hr => first | (go_simp; done) | (go_simp; rfl)); (case hp => exact (Reps.one (show Kd.M Kd.string _ _ _ (⟨#[105, 119]⟩ : ByteArray) [.string ⟨#[105, 119]⟩] from rfl) (Reps.one (show Kd.M Kd.string _ _ _ (⟨#[109, 111]⟩ : ByteArray) [.string ⟨#[109, 111]⟩] from rfl) (Reps.one (show Kd.M Kd.string _ _ _ (⟨#[110, 111]⟩ : ByteArray) [.string ⟨#[110, 111]⟩] from rfl) (Reps.one (show Kd.M Kd.string _ _ _ (⟨#[115, 104]⟩ : ByteArray) [.string ⟨#[115, 104]⟩] from rfl) (Reps.one (show Kd.M Kd.string _ _ _ (⟨#[116, 108]⟩ : ByteArray) [.string ⟨#[116, 108]⟩] from rfl) (Reps.one (show Kd.M Kd.string _ _ _ (⟨#[115, 103, 110]⟩ : ByteArray) [.string ⟨#[115, 103, 110]⟩] from rfl) (Reps.one (show Kd.M Kd.string _ _ _ (⟨#[122, 104]⟩ : ByteArray) [.string ⟨#[122, 104]⟩] from rfl) (Reps.one (show Kd.M Kd.string _ _ _ (⟨#[104, 97, 110, 116]⟩ : ByteArray) [.string ⟨#[104, 97, 110, 116]⟩] from rfl) (Reps.none _ _)))))))))); intro v409 w1 ho2 hb hg_ hnew_; clear hg_ hnew_; (first | rw [← Ny408.out] at ho2 | (simp only [Int.reduceToNat] at ho2; rw [← Ny408.out] at ho2)); have n0_ := ak (Kd.R_lower ho2 (below_size bq)); have n1_ := ak (below_step bq hb); clear HB; have HO410 := n0_; have HB := n1_; clear n0_ n1_; clear hb ho2))
 go_ret
 exact ⟨_, by first | rfl | (simp [errW_none, errW_some] <;> rfl) | (simp [*, errW_none, errW_some] <;> rfl), by (with_reducible repeat (first | apply rA | apply rN | apply rD)); exact HO410.out, bq⟩

def isoglossref12_scripts.f  : Option (List ByteArray) := some (([⟨#[113, 97, 97, 105]⟩, ⟨#[104, 97, 110, 115]⟩, ⟨#[97, 114, 97, 110]⟩] : List ByteArray))
set_option maxHeartbeats 8000000 in
set_option maxRecDepth 100000 in
theorem isoglossref12_scripts.calls  (r : List ByteArray) (w : World) (h : isoglossref12_scripts.f  = some r) :
  Calls Tryd.prog 59 #[] w fun e w' => ∃ v0_ : Value, e = .returned (v0_) ∧ Kd.R Kd.string 9 w' w.heap.size (fun _ => True) v0_ r ∧ Below w.heap.size w w' := by
 have HB := ak (Below.refl w.heap.size w)
 have H : (some (([⟨#[113, 97, 97, 105]⟩, ⟨#[104, 97, 110, 115]⟩, ⟨#[97, 114, 97, 110]⟩] : List ByteArray))) = some r := h
 clear h
 obtain ⟨y411, hy411⟩ : ∃ y_ : List ByteArray, y_ = (([⟨#[113, 97, 97, 105]⟩, ⟨#[104, 97, 110, 115]⟩, ⟨#[97, 114, 97, 110]⟩] : List ByteArray)) := ⟨_, rfl⟩
 replace H : (some y411) = some r := by first | (rw [hy411]; with_reducible exact H) | (have H2_ := (Option.bind_some _ _).symm.trans H; rw [hy411]; with_reducible exact H2_) | (have H2_ := (Option.bind_some _ _).symm.trans H; with_reducible exact H2_) | with_reducible exact H | (rw [hy411]; exact H) | exact H
 have Ny411 := ak hy411
 clear hy411
 obtain rfl := Option.some.inj H
 go_enter Tryd.func59, Tryd.ntmps59
 go_wp2_with (first | ((with_reducible refine gate_dst (N := 1) rfl ?_); refine Kd.R_lit Kd.string _ 9 ?hg (N := 1) ?hd (xs := ([⟨#[113, 97, 97, 105]⟩, ⟨#[104, 97, 110, 115]⟩, ⟨#[97, 114, 97, 110]⟩] : List ByteArray)) (inner := [.string ⟨#[113, 97, 97, 105]⟩, .string ⟨#[104, 97, 110, 115]⟩, .string ⟨#[97, 114, 97, 110]⟩]) (ok := fun _ => True) (okp := fun _ => True) ?hr ?hp (fun _ hk => hk) trivial (Below.refl _ _) (Nat.le_refl _) (by simp) ?_; (case hd => rfl); (case hg => rfl); (case hr => first | (go_simp; done) | (go_simp; rfl)); (case hp => exact (Reps.one (show Kd.M Kd.string _ _ _ (⟨#[113, 97, 97, 105]⟩ : ByteArray) [.string ⟨#[113, 97, 97, 105]⟩] from rfl) (Reps.one (show Kd.M Kd.string _ _ _ (⟨#[104, 97, 110, 115]⟩ : ByteArray) [.string ⟨#[104, 97, 110, 115]⟩] from rfl) (Reps.one (show Kd.M Kd.string _ _ _ (⟨#[97, 114, 97, 110]⟩ : ByteArray) [.string ⟨#[97, 114, 97, 110]⟩] from rfl) (Reps.none _ _))))); intro v412 w1 ho2 hb hg_ hnew_; clear hg_ hnew_; (first | rw [← Ny411.out] at ho2 | (simp only [Int.reduceToNat] at ho2; rw [← Ny411.out] at ho2)); have n0_ := ak (Kd.R_lower ho2 (below_size bq)); have n1_ := ak (below_step bq hb); clear HB; have HO413 := n0_; have HB := n1_; clear n0_ n1_; clear hb ho2))
 go_ret
 exact ⟨_, by first | rfl | (simp [errW_none, errW_some] <;> rfl) | (simp [*, errW_none, errW_some] <;> rfl), by (with_reducible repeat (first | apply rA | apply rN | apply rD)); exact HO413.out, bq⟩

def isoglossref12_toScripts.f  : Option (List ByteArray) := some (([⟨#[122, 105, 110, 104]⟩, ⟨#[108, 97, 116, 110]⟩, ⟨#[97, 114, 97, 98]⟩] : List ByteArray))
set_option maxHeartbeats 8000000 in
set_option maxRecDepth 100000 in
theorem isoglossref12_toScripts.calls  (r : List ByteArray) (w : World) (h : isoglossref12_toScripts.f  = some r) :
  Calls Tryd.prog 60 #[] w fun e w' => ∃ v0_ : Value, e = .returned (v0_) ∧ Kd.R Kd.string 9 w' w.heap.size (fun _ => True) v0_ r ∧ Below w.heap.size w w' := by
 have HB := ak (Below.refl w.heap.size w)
 have H : (some (([⟨#[122, 105, 110, 104]⟩, ⟨#[108, 97, 116, 110]⟩, ⟨#[97, 114, 97, 98]⟩] : List ByteArray))) = some r := h
 clear h
 obtain ⟨y414, hy414⟩ : ∃ y_ : List ByteArray, y_ = (([⟨#[122, 105, 110, 104]⟩, ⟨#[108, 97, 116, 110]⟩, ⟨#[97, 114, 97, 98]⟩] : List ByteArray)) := ⟨_, rfl⟩
 replace H : (some y414) = some r := by first | (rw [hy414]; with_reducible exact H) | (have H2_ := (Option.bind_some _ _).symm.trans H; rw [hy414]; with_reducible exact H2_) | (have H2_ := (Option.bind_some _ _).symm.trans H; with_reducible exact H2_) | with_reducible exact H | (rw [hy414]; exact H) | exact H
 have Ny414 := ak hy414
 clear hy414
 obtain rfl := Option.some.inj H
 go_enter Tryd.func60, Tryd.ntmps60
 go_wp2_with (first | ((with_reducible refine gate_dst (N := 1) rfl ?_); refine Kd.R_lit Kd.string _ 9 ?hg (N := 1) ?hd (xs := ([⟨#[122, 105, 110, 104]⟩, ⟨#[108, 97, 116, 110]⟩, ⟨#[97, 114, 97, 98]⟩] : List ByteArray)) (inner := [.string ⟨#[122, 105, 110, 104]⟩, .string ⟨#[108, 97, 116, 110]⟩, .string ⟨#[97, 114, 97, 98]⟩]) (ok := fun _ => True) (okp := fun _ => True) ?hr ?hp (fun _ hk => hk) trivial (Below.refl _ _) (Nat.le_refl _) (by simp) ?_; (case hd => rfl); (case hg => rfl); (case hr => first | (go_simp; done) | (go_simp; rfl)); (case hp => exact (Reps.one (show Kd.M Kd.string _ _ _ (⟨#[122, 105, 110, 104]⟩ : ByteArray) [.string ⟨#[122, 105, 110, 104]⟩] from rfl) (Reps.one (show Kd.M Kd.string _ _ _ (⟨#[108, 97, 116, 110]⟩ : ByteArray) [.string ⟨#[108, 97, 116, 110]⟩] from rfl) (Reps.one (show Kd.M Kd.string _ _ _ (⟨#[97, 114, 97, 98]⟩ : ByteArray) [.string ⟨#[97, 114, 97, 98]⟩] from rfl) (Reps.none _ _))))); intro v415 w1 ho2 hb hg_ hnew_; clear hg_ hnew_; (first | rw [← Ny414.out] at ho2 | (simp only [Int.reduceToNat] at ho2; rw [← Ny414.out] at ho2)); have n0_ := ak (Kd.R_lower ho2 (below_size bq)); have n1_ := ak (below_step bq hb); clear HB; have HO416 := n0_; have HB := n1_; clear n0_ n1_; clear hb ho2))
 go_ret
 exact ⟨_, by first | rfl | (simp [errW_none, errW_some] <;> rfl) | (simp [*, errW_none, errW_some] <;> rfl), by (with_reducible repeat (first | apply rA | apply rN | apply rD)); exact HO416.out, bq⟩

def isoglossref12_regions.f  : Option (List ByteArray) := some (([⟨#[100, 100]⟩, ⟨#[115, 117]⟩, ⟨#[98, 117]⟩, ⟨#[56, 52, 48]⟩] : List ByteArray))
set_option maxHeartbeats 8000000 in
set_option maxRecDepth 100000 in
theorem isoglossref12_regions.calls  (r : List ByteArray) (w : World) (h : isoglossref12_regions.f  = some r) :
  Calls Tryd.prog 61 #[] w fun e w' => ∃ v0_ : Value, e = .returned (v0_) ∧ Kd.R Kd.string 9 w' w.heap.size (fun _ => True) v0_ r ∧ Below w.heap.size w w' := by
 have HB := ak (Below.refl w.heap.size w)
 have H : (some (([⟨#[100, 100]⟩, ⟨#[115, 117]⟩, ⟨#[98, 117]⟩, ⟨#[56, 52, 48]⟩] : List ByteArray))) = some r := h
 clear h
 obtain ⟨y417, hy417⟩ : ∃ y_ : List ByteArray, y_ = (([⟨#[100, 100]⟩, ⟨#[115, 117]⟩, ⟨#[98, 117]⟩, ⟨#[56, 52, 48]⟩] : List ByteArray)) := ⟨_, rfl⟩
 replace H : (some y417) = some r := by first | (rw [hy417]; with_reducible exact H) | (have H2_ := (Option.bind_some _ _).symm.trans H; rw [hy417]; with_reducible exact H2_) | (have H2_ := (Option.bind_some _ _).symm.trans H; with_reducible exact H2_) | with_reducible exact H | (rw [hy417]; exact H) | exact H
 have Ny417 := ak hy417
 clear hy417
 obtain rfl := Option.some.inj H
 go_enter Tryd.func61, Tryd.ntmps61
 go_wp2_with (first | ((with_reducible refine gate_dst (N := 1) rfl ?_); refine Kd.R_lit Kd.string _ 9 ?hg (N := 1) ?hd (xs := ([⟨#[100, 100]⟩, ⟨#[115, 117]⟩, ⟨#[98, 117]⟩, ⟨#[56, 52, 48]⟩] : List ByteArray)) (inner := [.string ⟨#[100, 100]⟩, .string ⟨#[115, 117]⟩, .string ⟨#[98, 117]⟩, .string ⟨#[56, 52, 48]⟩]) (ok := fun _ => True) (okp := fun _ => True) ?hr ?hp (fun _ hk => hk) trivial (Below.refl _ _) (Nat.le_refl _) (by simp) ?_; (case hd => rfl); (case hg => rfl); (case hr => first | (go_simp; done) | (go_simp; rfl)); (case hp => exact (Reps.one (show Kd.M Kd.string _ _ _ (⟨#[100, 100]⟩ : ByteArray) [.string ⟨#[100, 100]⟩] from rfl) (Reps.one (show Kd.M Kd.string _ _ _ (⟨#[115, 117]⟩ : ByteArray) [.string ⟨#[115, 117]⟩] from rfl) (Reps.one (show Kd.M Kd.string _ _ _ (⟨#[98, 117]⟩ : ByteArray) [.string ⟨#[98, 117]⟩] from rfl) (Reps.one (show Kd.M Kd.string _ _ _ (⟨#[56, 52, 48]⟩ : ByteArray) [.string ⟨#[56, 52, 48]⟩] from rfl) (Reps.none _ _)))))); intro v418 w1 ho2 hb hg_ hnew_; clear hg_ hnew_; (first | rw [← Ny417.out] at ho2 | (simp only [Int.reduceToNat] at ho2; rw [← Ny417.out] at ho2)); have n0_ := ak (Kd.R_lower ho2 (below_size bq)); have n1_ := ak (below_step bq hb); clear HB; have HO419 := n0_; have HB := n1_; clear n0_ n1_; clear hb ho2))
 go_ret
 exact ⟨_, by first | rfl | (simp [errW_none, errW_some] <;> rfl) | (simp [*, errW_none, errW_some] <;> rfl), by (with_reducible repeat (first | apply rA | apply rN | apply rD)); exact HO419.out, bq⟩

def isoglossref12_toRegions.f  : Option (List ByteArray) := some (([⟨#[100, 101]⟩, ⟨#[114, 117]⟩, ⟨#[109, 109]⟩, ⟨#[117, 115]⟩] : List ByteArray))
set_option maxHeartbeats 8000000 in
set_option maxRecDepth 100000 in
theorem isoglossref12_toRegions.calls  (r : List ByteArray) (w : World) (h : isoglossref12_toRegions.f  = some r) :
  Calls Tryd.prog 62 #[] w fun e w' => ∃ v0_ : Value, e = .returned (v0_) ∧ Kd.R Kd.string 9 w' w.heap.size (fun _ => True) v0_ r ∧ Below w.heap.size w w' := by
 have HB := ak (Below.refl w.heap.size w)
 have H : (some (([⟨#[100, 101]⟩, ⟨#[114, 117]⟩, ⟨#[109, 109]⟩, ⟨#[117, 115]⟩] : List ByteArray))) = some r := h
 clear h
 obtain ⟨y420, hy420⟩ : ∃ y_ : List ByteArray, y_ = (([⟨#[100, 101]⟩, ⟨#[114, 117]⟩, ⟨#[109, 109]⟩, ⟨#[117, 115]⟩] : List ByteArray)) := ⟨_, rfl⟩
 replace H : (some y420) = some r := by first | (rw [hy420]; with_reducible exact H) | (have H2_ := (Option.bind_some _ _).symm.trans H; rw [hy420]; with_reducible exact H2_) | (have H2_ := (Option.bind_some _ _).symm.trans H; with_reducible exact H2_) | with_reducible exact H | (rw [hy420]; exact H) | exact H
 have Ny420 := ak hy420
 clear hy420
 obtain rfl := Option.some.inj H
 go_enter Tryd.func62, Tryd.ntmps62
 go_wp2_with (first | ((with_reducible refine gate_dst (N := 1) rfl ?_); refine Kd.R_lit Kd.string _ 9 ?hg (N := 1) ?hd (xs := ([⟨#[100, 101]⟩, ⟨#[114, 117]⟩, ⟨#[109, 109]⟩, ⟨#[117, 115]⟩] : List ByteArray)) (inner := [.string ⟨#[100, 101]⟩, .string ⟨#[114, 117]⟩, .string ⟨#[109, 109]⟩, .string ⟨#[117, 115]⟩]) (ok := fun _ => True) (okp := fun _ => True) ?hr ?hp (fun _ hk => hk) trivial (Below.refl _ _) (Nat.le_refl _) (by simp) ?_; (case hd => rfl); (case hg => rfl); (case hr => first | (go_simp; done) | (go_simp; rfl)); (case hp => exact (Reps.one (show Kd.M Kd.string _ _ _ (⟨#[100, 101]⟩ : ByteArray) [.string ⟨#[100, 101]⟩] from rfl) (Reps.one (show Kd.M Kd.string _ _ _ (⟨#[114, 117]⟩ : ByteArray) [.string ⟨#[114, 117]⟩] from rfl) (Reps.one (show Kd.M Kd.string _ _ _ (⟨#[109, 109]⟩ : ByteArray) [.string ⟨#[109, 109]⟩] from rfl) (Reps.one (show Kd.M Kd.string _ _ _ (⟨#[117, 115]⟩ : ByteArray) [.string ⟨#[117, 115]⟩] from rfl) (Reps.none _ _)))))); intro v421 w1 ho2 hb hg_ hnew_; clear hg_ hnew_; (first | rw [← Ny420.out] at ho2 | (simp only [Int.reduceToNat] at ho2; rw [← Ny420.out] at ho2)); have n0_ := ak (Kd.R_lower ho2 (below_size bq)); have n1_ := ak (below_step bq hb); clear HB; have HO422 := n0_; have HB := n1_; clear n0_ n1_; clear hb ho2))
 go_ret
 exact ⟨_, by first | rfl | (simp [errW_none, errW_some] <;> rfl) | (simp [*, errW_none, errW_some] <;> rfl), by (with_reducible repeat (first | apply rA | apply rN | apply rD)); exact HO422.out, bq⟩

def isoglossref02_Title.f (k : Nat) (a0 : ByteArray) : Option (ByteArray) := if a0.toList = ([] : List UInt8) then (some (⟨#[]⟩ : ByteArray)) else (if 0 ≤ 1 then (if 1 ≤ (a0.size : Int) then ((isoglossref02_Upper.f k (a0.extract 0 1)).bind fun t423 => ((isoglossref02_Lower.f k (a0.extract 1 a0.size)).bind fun t424 => (if t423.size + t424.size ≤ 9223372036854775807 then (some (t423 ++ t424)) else (none)))) else (none)) else (none))
def isoglossref02_Title.T3 : Bool × List (List Nat × List Nat) := (true, [([], []), ([0], [0]), ([1], [1]), ([], []), ([3], [3]), ([4, 2], [4]), ([2, 5], [2, 5]), ([6, 5, 0, 1, 2, 3, 4, 5, 6], [6])])
def isoglossref02_Title.B3 : List Nat := [0, 1, 3, 0, 8, 31, 63, 127]
theorem isoglossref02_Title.tab3 : rtab .any (opsOf Tryd.f89 3) = isoglossref02_Title.T3 := by kernel_rfl
theorem isoglossref02_Title.bits3 : waitsOk isoglossref02_Title.T3.2 isoglossref02_Title.B3 = true := by kernel_rfl
set_option maxHeartbeats 8000000 in
set_option maxRecDepth 100000 in
theorem isoglossref02_Title.calls (k : Nat) (a0 : ByteArray) (r : ByteArray) (w : World) (h : isoglossref02_Title.f k a0 = some r) :
  Calls Tryd.prog 89 #[.string a0] w fun e w' => e = .returned (.string r) ∧ Below w.heap.size w w' := by
 have HB := ak (Below.refl w.heap.size w)
 have H : (if a0.toList = ([] : List UInt8) then (some (⟨#[]⟩ : ByteArray)) else (if 0 ≤ 1 then (if 1 ≤ (a0.size : Int) then ((isoglossref02_Upper.f k (a0.extract 0 1)).bind fun t423 => ((isoglossref02_Lower.f k (a0.extract 1 a0.size)).bind fun t424 => (if t423.size + t424.size ≤ 9223372036854775807 then (some (t423 ++ t424)) else (none)))) else (none)) else (none))) = some r := h
 clear h
 by_cases c2 : a0.toList = ([] : List UInt8)
 ·
  rw [if_pos c2] at H
  have c2b0 : (a0.toList == ([] : List UInt8)) = true := beq_iff_eq.mpr c2
  have c2b1 : (a0.toList != ([] : List UInt8)) = false := bne_eq_false_iff_eq.mpr c2
  have c2b2 : a0.toList.isEmpty = true := List.isEmpty_iff.mpr c2
  clear c2
  obtain rfl := Option.some.inj H
  go_enter Tryd.func89, Tryd.ntmps89
  go_wp2
  go_ret
  exact ⟨by first | rfl | (simp [errW_none, errW_some] <;> rfl) | (simp [*, errW_none, errW_some] <;> rfl), bq⟩
 ·
  rw [if_neg c2] at H
  have c2b0 : (a0.toList == ([] : List UInt8)) = false := beq_eq_false_iff_ne.mpr c2
  have c2b1 : (a0.toList != ([] : List UInt8)) = true := bne_iff_ne.mpr c2
  have c2b2 : a0.toList.isEmpty = false := List.isEmpty_eq_false_iff.mpr c2
  by_cases c3 : 0 ≤ 1
  ·
   rw [if_pos c3] at H
   have c3b0 := eq_true c3
   have c3b1 : decide (0 ≤ 1) = true := decide_eq_true c3
   clear c3
   by_cases c4 : 1 ≤ (a0.size : Int)
   ·
    rw [if_pos c4] at H
    have c4b0 := eq_true c4
    have c4b1 : decide (1 ≤ (a0.size : Int)) = true := decide_eq_true c4
    clear c4
    replace H := Option.bind_eq_some_iff.mp H
    obtain ⟨t423, A50, H⟩ := H
    have A5 := ak A50
    clear A50
    have c6b0 := eq_true (of_decide_eq_true (by first | (with_reducible assumption) | assumption) : 1 ≤ (a0.size : Int))
    replace H := Option.bind_eq_some_iff.mp H
    obtain ⟨t424, A70, H⟩ := H
    have A7 := ak A70
    clear A70
    by_cases c8 : t423.size + t424.size ≤ 9223372036854775807
    ·
     rw [if_pos c8] at H
     have c8b0 := eq_true c8
     have c8b1 : decide (t423.size + t424.size ≤ 9223372036854775807) = true := decide_eq_true c8
     try have c8b2 : (9223372036854775807 < t423.size + t424.size) = False := eq_false (Nat.not_lt.2 c8)
     obtain rfl := Option.some.inj H
     go_enter Tryd.func89, Tryd.ntmps89
     try go_wp2
     have n0_ := ak (below_drew1 HB.out)
     clear HB
     have HB := n0_
     clear n0_
     refine start_ (n := 8) (S := fun w' => True) (ds := []) #[false, false, false, false, false, false, false, false] (by kernel_rfl) rfl rfl trivial (fun hHeld => ?_); refine with_tabW isoglossref02_Title.tab3 isoglossref02_Title.bits3 (fun HT_ HW_ => ?_)
     generalize w.drew = w9 at HB hHeld ⊢
     refine pu 0 (some 5) (M 8 1) ?_
     refine pu 1 (some 6) (M 8 3) ?_
     refine pu 3 (some 8) (M 8 11) ?_
     refine pu 4 (some 9) (M 8 27) ?_
     refine one_ (i := 2) (N := some 7) (M 8 31) rfl rfl (one_of HT_.out (by kernel_rfl)) (by decide) (fun K hK => ?_)
     refine goes_ Tryd.func18 (by kernel_rfl) rfl #[.string (a0.extract 0 1)] (by rfl) rfl rfl mq ?_
     with_reducible refine (isoglossref02_Upper.calls k (a0.extract 0 1) t423 _ A5.out).mono ?_
     rintro e w10 ⟨rfl, hb⟩
     refine ⟨_, rfl, ?_⟩
     have n0_ := ak (below_step bq hb)
     clear HB
     have HB := n0_
     clear n0_
     (try clear hb)
     (try clear hb2)
     (try clear hk)
     (try clear hi)
     refine hK.out _ _ trivial (fun hHeld => ?_)
     clear hK K
     refine norm_ (a' := ?_) ?_ ?_
     rotate_left
     ·
      show Act.put _ (some 7) _ = _
      simp only [Act.put, pA, pB, pC, i64_w, i32_w]
      rfl
     refine one_ (i := 5) (N := some 10) (M 8 63) rfl rfl (one_of HT_.out (by kernel_rfl)) (by decide) (fun K hK => ?_)
     refine goes_ Tryd.func27 (by kernel_rfl) rfl #[.string (a0.extract 1 a0.size)] (by rfl) rfl rfl mq ?_
     with_reducible refine (isoglossref02_Lower.calls k (a0.extract 1 a0.size) t424 _ A7.out).mono ?_
     rintro e w11 ⟨rfl, hb⟩
     refine ⟨_, rfl, ?_⟩
     have n0_ := ak (below_step bq hb)
     clear HB
     have HB := n0_
     clear n0_
     (try clear hb)
     (try clear hb2)
     (try clear hk)
     (try clear hi)
     refine hK.out _ _ trivial (fun hHeld => ?_)
     clear hK K
     refine norm_ (a' := ?_) ?_ ?_
     rotate_left
     ·
      show Act.put _ (some 10) _ = _
      simp only [Act.put, pA, pB, pC, i64_w, i32_w]
      rfl
     refine pu 6 (some 11) (M 8 127) ?_
     refine pu 7 (some 2) (M 8 255) ?_
     refine done_ (done_of HT_.out (by kernel_rfl)) ?_
     try go_wp2
     go_ret
     exact ⟨by first | rfl | (simp [errW_none, errW_some] <;> rfl) | (simp [*, errW_none, errW_some] <;> rfl), bq⟩
    ·
     rw [if_neg c8] at H
     exact absurd H (by simp)
   ·
    rw [if_neg c4] at H
    exact absurd H (by simp)
  ·
   rw [if_neg c3] at H
   exact absurd H (by simp)

def isoglossref12_spoilt.f (k : Nat) (a0_0 : Int) (a0_1 : ByteArray) (a0_2 : ByteArray) (a0_3 : ByteArray) (a0_4 : ByteArray) (a0_5 : ByteArray) (a1 : Int) : Option (Int × ByteArray × ByteArray × ByteArray × ByteArray × ByteArray) := if a1 = 1 then ((isoglossref02_Title.f k a0_1).bind fun t427 => (some (a0_0, t427, a0_2, a0_3, a0_4, a0_5))) else (if a1 = 2 then (if a0_2.size + 1 ≤ 9223372036854775807 then (some (a0_0, a0_1, a0_2 ++ (⟨#[120]⟩ : ByteArray), a0_3, a0_4, a0_5)) else (none)) else (if a1 = 3 then (some (a0_0, a0_1, a0_2, (⟨#[]⟩ : ByteArray), (⟨#[]⟩ : ByteArray), (⟨#[]⟩ : ByteArray))) else (if a1 = 4 then (some (8, a0_1, a0_2, a0_3, a0_4, a0_5)) else (if a1 = 5 then (some (a0_0, a0_1, a0_2, (⟨#[97, 98, 99, 100, 101, 102, 103, 104, 105]⟩ : ByteArray), a0_4, a0_5)) else (if a1 = 6 then ((isoglossref12_langs.f).bind fun t428 => ((isoglossref06_Pick.f t428 (a0_1.size : Int)).bind fun t431 => (some (a0_0, a0_1, a0_2, t431, a0_4, a0_5)))) else (some (a0_0, a0_1, a0_2, a0_3, a0_4, a0_5)))))))
set_option maxHeartbeats 8000000 in
set_option maxRecDepth 100000 in
theorem isoglossref12_spoilt.calls (k : Nat) (a0_0 : Int) (a0_1 : ByteArray) (a0_2 : ByteArray) (a0_3 : ByteArray) (a0_4 : ByteArray) (a0_5 : ByteArray) (a1 : Int) (r1 : Int) (r2 : ByteArray) (r3 : ByteArray) (r4 : ByteArray) (r5 : ByteArray) (r6 : ByteArray) (w : World) (h : isoglossref12_spoilt.f k a0_0 a0_1 a0_2 a0_3 a0_4 a0_5 a1 = some (r1, r2, r3, r4, r5, r6)) :
  Calls Tryd.prog 63 #[.agg #[.int .i64 a0_0, .string a0_1, .string a0_2, .string a0_3, .string a0_4, .string a0_5], .int .i64 a1] w fun e w' => e = .returned (.agg #[.int .i64 r1, .string r2, .string r3, .string r4, .string r5, .string r6]) ∧ Below w.heap.size w w' := by
 have hu50 := Tryd.underlying50
 have HB := ak (Below.refl w.heap.size w)
 have H : (if a1 = 1 then ((isoglossref02_Title.f k a0_1).bind fun t427 => (some (a0_0, t427, a0_2, a0_3, a0_4, a0_5))) else (if a1 = 2 then (if a0_2.size + 1 ≤ 9223372036854775807 then (some (a0_0, a0_1, a0_2 ++ (⟨#[120]⟩ : ByteArray), a0_3, a0_4, a0_5)) else (none)) else (if a1 = 3 then (some (a0_0, a0_1, a0_2, (⟨#[]⟩ : ByteArray), (⟨#[]⟩ : ByteArray), (⟨#[]⟩ : ByteArray))) else (if a1 = 4 then (some (8, a0_1, a0_2, a0_3, a0_4, a0_5)) else (if a1 = 5 then (some (a0_0, a0_1, a0_2, (⟨#[97, 98, 99, 100, 101, 102, 103, 104, 105]⟩ : ByteArray), a0_4, a0_5)) else (if a1 = 6 then ((isoglossref12_langs.f).bind fun t428 => ((isoglossref06_Pick.f t428 (a0_1.size : Int)).bind fun t431 => (some (a0_0, a0_1, a0_2, t431, a0_4, a0_5)))) else (some (a0_0, a0_1, a0_2, a0_3, a0_4, a0_5)))))))) = some (r1, r2, r3, r4, r5, r6) := h
 clear h
 by_cases c3 : a1 = 1
 ·
  rw [if_pos c3] at H
  have c3b0 : (a1 == 1) = true := beq_iff_eq.mpr c3
  have c3b1 : (a1 != 1) = false := bne_eq_false_iff_eq.mpr c3
  (try (have c3b2 : (a1 : Int).toNat = 1 := by rw [c3]; rfl))
  try have c3b3 : (0 ≤ a1) = True := eq_true (by omega)
  try have c3b4_2 : (a1 < 2) = True := eq_true (by omega)
  try have c3b4_3 : (a1 < 3) = True := eq_true (by omega)
  try have c3b4_5 : (a1 < 5) = True := eq_true (by omega)
  clear c3
  replace H := Option.bind_eq_some_iff.mp H
  obtain ⟨t427, A40, H⟩ := H
  have A4 := ak A40
  clear A40
  simp only [Option.some.injEq, Prod.mk.injEq] at H
  obtain ⟨rfl, rfl, rfl, rfl, rfl, rfl⟩ := H
  go_enter Tryd.func63, Tryd.ntmps63
  go_wp2_with (first | ((with_reducible refine gate_dst (N := 2) rfl ?_); refine box_event ?hg (N := 2) ?hd (cs := #[.int .i64 a0_0, .string a0_1, .string a0_2, .string a0_3, .string a0_4, .string a0_5]) (t := 50) ?hr ?_; (case hd => rfl); (case hg => rfl); (case hr => first | (go_simp; done) | (go_simp; rfl)); intro gb425 hg w5 hbox hb; have n0_ := ak (below_step bq hb); have n1_ := ak (hbox); have n2_ := ak ((by rw [hg]; exact (below_size bq) : w.heap.size ≤ gb425)); have n3_ := ak ((by rw [hg]; exact (below_size bq) : w.heap.size ≤ gb425)); clear HB; have HB := n0_; have BK425 := n1_; have GW425 := n2_; have GE425 := n3_; clear n0_ n1_ n2_ n3_; clear hb hbox hg) | ((with_reducible refine gate_dst (N := 4) rfl ?_); refine box_event ?hg (N := 4) ?hd (cs := #[.int .i64 0, .string ⟨#[]⟩, .string ⟨#[]⟩, .string ⟨#[]⟩, .string ⟨#[]⟩, .string ⟨#[]⟩]) (t := 50) ?hr ?_; (case hd => rfl); (case hg => rfl); (case hr => first | (go_simp; done) | (go_simp; rfl)); intro gb426 hg w6 hbox hb; have n0_ := ak (blk_below (g := gb425) (bx BK425.out) hb); have n1_ := ak (below_step bq hb); have n2_ := ak (hbox); have n3_ := ak ((by rw [hg]; exact (below_size bq) : w.heap.size ≤ gb426)); have n4_ := ak ((by rw [hg]; exact (below_size bq) : w.heap.size ≤ gb426)); have n5_ := ak ((by rw [hg]; exact Nat.ne_of_lt (blk_lt (g := gb425) (bx BK425.out)) : gb425 ≠ gb426)); have n6_ := ak ((by rw [hg]; exact Nat.ne_of_gt (blk_lt (g := gb425) (bx BK425.out)) : gb426 ≠ gb425)); clear BK425; clear HB; have BK425 := n0_; have HB := n1_; have BK426 := n2_; have GW426 := n3_; have GE426 := n4_; have NB425_426 := n5_; have NB426_425 := n6_; clear n0_ n1_ n2_ n3_ n4_ n5_ n6_; clear hb hbox hg; have hnb7 := NB425_426.out; have hnc7 := NB426_425.out; obtain ⟨hcz8_0, hcz8_1, hcz8_2, hcz8_3, hcz8_4, hcz8_5⟩ := cz6 BK425.out; obtain ⟨hfz8_0, hfz8_1, hfz8_2, hfz8_3, hfz8_4, hfz8_5⟩ := fz6 BK425.out) | ((with_reducible refine gate_callee (f := 89) rfl ?_); refine goesL_ (some 10) rfl rfl Tryd.func89 (by kernel_rfl) rfl #[.string a0_1] rfl mq ?_; (with_reducible refine (isoglossref02_Title.calls k a0_1 t427 _ A4.out).mono ?_); rintro e w9 ⟨rfl, hb⟩; refine ⟨_, rfl, ?_⟩; have n0_ := ak (blk_below (g := gb425) (bx BK425.out) hb); have n1_ := ak (blk_below (g := gb426) (bx BK426.out) hb); have n2_ := ak (below_step bq hb); clear BK425; clear BK426; clear HB; have BK425 := n0_; have BK426 := n1_; have HB := n2_; clear n0_ n1_ n2_; (try clear hb); (try clear hb2); (try clear hk); (try clear hi); obtain ⟨hcz10_0, hcz10_1, hcz10_2, hcz10_3, hcz10_4, hcz10_5⟩ := cz6 BK425.out; obtain ⟨hfz10_0, hfz10_1, hfz10_2, hfz10_3, hfz10_4, hfz10_5⟩ := fz6 BK425.out; obtain ⟨hcz11_0, hcz11_1, hcz11_2, hcz11_3, hcz11_4, hcz11_5⟩ := cz6 BK426.out; obtain ⟨hfz11_0, hfz11_1, hfz11_2, hfz11_3, hfz11_4, hfz11_5⟩ := fz6 BK426.out; (try clear A4)))
  refine bodyPost_ret (results_cell_row rfl _ _ gb426 50 #[.int .i64 a0_0, .string t427, .string a0_2, .string a0_3, .string a0_4, .string a0_5] (0, 0) _ rfl (bx (blk_put (cs := #[.int .i64 a0_0, .string t427, .string a0_2, .string a0_3, .string a0_4, .string ⟨#[]⟩]) (bx (blk_put (cs := #[.int .i64 a0_0, .string t427, .string a0_2, .string a0_3, .string ⟨#[]⟩, .string ⟨#[]⟩]) (bx (blk_put (cs := #[.int .i64 a0_0, .string t427, .string a0_2, .string ⟨#[]⟩, .string ⟨#[]⟩, .string ⟨#[]⟩]) (bx (blk_put (cs := #[.int .i64 a0_0, .string t427, .string ⟨#[]⟩, .string ⟨#[]⟩, .string ⟨#[]⟩, .string ⟨#[]⟩]) (bx (blk_put (cs := #[.int .i64 a0_0, .string ⟨#[]⟩, .string ⟨#[]⟩, .string ⟨#[]⟩, .string ⟨#[]⟩, .string ⟨#[]⟩]) (bx (blk_put (cs := #[.int .i64 0, .string ⟨#[]⟩, .string ⟨#[]⟩, .string ⟨#[]⟩, .string ⟨#[]⟩, .string ⟨#[]⟩]) (bx (blk_far (bx BK426.out) NB426_425.out _)) 0 _ rfl)) 1 _ rfl)) 2 _ rfl)) 3 _ rfl)) 4 _ rfl)) 5 _ rfl)) Tryd.underlying50 rfl (by kernel_rfl)) rfl ?_
  exact ⟨by first | rfl | (simp [errW_none, errW_some] <;> rfl) | (simp [*, errW_none, errW_some] <;> rfl), bq⟩
 ·
  rw [if_neg c3] at H
  have c3b0 : (a1 == 1) = false := beq_eq_false_iff_ne.mpr c3
  have c3b1 : (a1 != 1) = true := bne_iff_ne.mpr c3
  by_cases c12 : a1 = 2
  ·
   rw [if_pos c12] at H
   have c12b0 : (a1 == 2) = true := beq_iff_eq.mpr c12
   have c12b1 : (a1 != 2) = false := bne_eq_false_iff_eq.mpr c12
   (try (have c12b2 : (a1 : Int).toNat = 2 := by rw [c12]; rfl))
   try have c12b3 : (0 ≤ a1) = True := eq_true (by omega)
   try have c12b4_3 : (a1 < 3) = True := eq_true (by omega)
   try have c12b4_5 : (a1 < 5) = True := eq_true (by omega)
   clear c12
   by_cases c13 : a0_2.size + 1 ≤ 9223372036854775807
   ·
    rw [if_pos c13] at H
    have c13b0 := eq_true c13
    have c13b1 : decide (a0_2.size + 1 ≤ 9223372036854775807) = true := decide_eq_true c13
    try have c13b2 : (9223372036854775807 < a0_2.size + 1) = False := eq_false (Nat.not_lt.2 c13)
    simp only [Option.some.injEq, Prod.mk.injEq] at H
    obtain ⟨rfl, rfl, rfl, rfl, rfl, rfl⟩ := H
    go_enter Tryd.func63, Tryd.ntmps63
    go_wp2_with (first | ((with_reducible refine gate_dst (N := 2) rfl ?_); refine box_event ?hg (N := 2) ?hd (cs := #[.int .i64 a0_0, .string a0_1, .string a0_2, .string a0_3, .string a0_4, .string a0_5]) (t := 50) ?hr ?_; (case hd => rfl); (case hg => rfl); (case hr => first | (go_simp; done) | (go_simp; rfl)); intro gb425 hg w14 hbox hb; have n0_ := ak (below_step bq hb); have n1_ := ak (hbox); have n2_ := ak ((by rw [hg]; exact (below_size bq) : w.heap.size ≤ gb425)); have n3_ := ak ((by rw [hg]; exact (below_size bq) : w.heap.size ≤ gb425)); clear HB; have HB := n0_; have BK425 := n1_; have GW425 := n2_; have GE425 := n3_; clear n0_ n1_ n2_ n3_; clear hb hbox hg) | ((with_reducible refine gate_dst (N := 4) rfl ?_); refine box_event ?hg (N := 4) ?hd (cs := #[.int .i64 0, .string ⟨#[]⟩, .string ⟨#[]⟩, .string ⟨#[]⟩, .string ⟨#[]⟩, .string ⟨#[]⟩]) (t := 50) ?hr ?_; (case hd => rfl); (case hg => rfl); (case hr => first | (go_simp; done) | (go_simp; rfl)); intro gb426 hg w15 hbox hb; have n0_ := ak (blk_below (g := gb425) (bx BK425.out) hb); have n1_ := ak (below_step bq hb); have n2_ := ak (hbox); have n3_ := ak ((by rw [hg]; exact (below_size bq) : w.heap.size ≤ gb426)); have n4_ := ak ((by rw [hg]; exact (below_size bq) : w.heap.size ≤ gb426)); have n5_ := ak ((by rw [hg]; exact Nat.ne_of_lt (blk_lt (g := gb425) (bx BK425.out)) : gb425 ≠ gb426)); have n6_ := ak ((by rw [hg]; exact Nat.ne_of_gt (blk_lt (g := gb425) (bx BK425.out)) : gb426 ≠ gb425)); clear BK425; clear HB; have BK425 := n0_; have HB := n1_; have BK426 := n2_; have GW426 := n3_; have GE426 := n4_; have NB425_426 := n5_; have NB426_425 := n6_; clear n0_ n1_ n2_ n3_ n4_ n5_ n6_; clear hb hbox hg; have hnb16 := NB425_426.out; have hnc16 := NB426_425.out; obtain ⟨hcz17_0, hcz17_1, hcz17_2, hcz17_3, hcz17_4, hcz17_5⟩ := cz6 BK425.out; obtain ⟨hfz17_0, hfz17_1, hfz17_2, hfz17_3, hfz17_4, hfz17_5⟩ := fz6 BK425.out; obtain ⟨hcz18_0, hcz18_1, hcz18_2, hcz18_3, hcz18_4, hcz18_5⟩ := cz6 BK426.out; obtain ⟨hfz18_0, hfz18_1, hfz18_2, hfz18_3, hfz18_4, hfz18_5⟩ := fz6 BK426.out))
    refine bodyPost_ret (results_cell_row rfl _ _ gb426 50 #[.int .i64 a0_0, .string a0_1, .string (a0_2 ++ (⟨#[120]⟩ : ByteArray)), .string a0_3, .string a0_4, .string a0_5] (0, 0) _ rfl (bx (blk_put (cs := #[.int .i64 a0_0, .string a0_1, .string (a0_2 ++ (⟨#[120]⟩ : ByteArray)), .string a0_3, .string a0_4, .string ⟨#[]⟩]) (bx (blk_put (cs := #[.int .i64 a0_0, .string a0_1, .string (a0_2 ++ (⟨#[120]⟩ : ByteArray)), .string a0_3, .string ⟨#[]⟩, .string ⟨#[]⟩]) (bx (blk_put (cs := #[.int .i64 a0_0, .string a0_1, .string (a0_2 ++ (⟨#[120]⟩ : ByteArray)), .string ⟨#[]⟩, .string ⟨#[]⟩, .string ⟨#[]⟩]) (bx (blk_put (cs := #[.int .i64 a0_0, .string a0_1, .string ⟨#[]⟩, .string ⟨#[]⟩, .string ⟨#[]⟩, .string ⟨#[]⟩]) (bx (blk_put (cs := #[.int .i64 a0_0, .string ⟨#[]⟩, .string ⟨#[]⟩, .string ⟨#[]⟩, .string ⟨#[]⟩, .string ⟨#[]⟩]) (bx (blk_put (cs := #[.int .i64 0, .string ⟨#[]⟩, .string ⟨#[]⟩, .string ⟨#[]⟩, .string ⟨#[]⟩, .string ⟨#[]⟩]) (bx (blk_far (bx BK426.out) NB426_425.out _)) 0 _ rfl)) 1 _ rfl)) 2 _ rfl)) 3 _ rfl)) 4 _ rfl)) 5 _ rfl)) Tryd.underlying50 rfl (by kernel_rfl)) rfl ?_
    exact ⟨by first | rfl | (simp [errW_none, errW_some] <;> rfl) | (simp [*, errW_none, errW_some] <;> rfl), bq⟩
   ·
    rw [if_neg c13] at H
    exact absurd H (by simp)
  ·
   rw [if_neg c12] at H
   have c12b0 : (a1 == 2) = false := beq_eq_false_iff_ne.mpr c12
   have c12b1 : (a1 != 2) = true := bne_iff_ne.mpr c12
   by_cases c19 : a1 = 3
   ·
    rw [if_pos c19] at H
    have c19b0 : (a1 == 3) = true := beq_iff_eq.mpr c19
    have c19b1 : (a1 != 3) = false := bne_eq_false_iff_eq.mpr c19
    (try (have c19b2 : (a1 : Int).toNat = 3 := by rw [c19]; rfl))
    try have c19b3 : (0 ≤ a1) = True := eq_true (by omega)
    try have c19b4_5 : (a1 < 5) = True := eq_true (by omega)
    clear c19
    simp only [Option.some.injEq, Prod.mk.injEq] at H
    obtain ⟨rfl, rfl, rfl, rfl, rfl, rfl⟩ := H
    go_enter Tryd.func63, Tryd.ntmps63
    go_wp2_with (first | ((with_reducible refine gate_dst (N := 2) rfl ?_); refine box_event ?hg (N := 2) ?hd (cs := #[.int .i64 a0_0, .string a0_1, .string a0_2, .string a0_3, .string a0_4, .string a0_5]) (t := 50) ?hr ?_; (case hd => rfl); (case hg => rfl); (case hr => first | (go_simp; done) | (go_simp; rfl)); intro gb425 hg w20 hbox hb; have n0_ := ak (below_step bq hb); have n1_ := ak (hbox); have n2_ := ak ((by rw [hg]; exact (below_size bq) : w.heap.size ≤ gb425)); have n3_ := ak ((by rw [hg]; exact (below_size bq) : w.heap.size ≤ gb425)); clear HB; have HB := n0_; have BK425 := n1_; have GW425 := n2_; have GE425 := n3_; clear n0_ n1_ n2_ n3_; clear hb hbox hg) | ((with_reducible refine gate_dst (N := 4) rfl ?_); refine box_event ?hg (N := 4) ?hd (cs := #[.int .i64 0, .string ⟨#[]⟩, .string ⟨#[]⟩, .string ⟨#[]⟩, .string ⟨#[]⟩, .string ⟨#[]⟩]) (t := 50) ?hr ?_; (case hd => rfl); (case hg => rfl); (case hr => first | (go_simp; done) | (go_simp; rfl)); intro gb426 hg w21 hbox hb; have n0_ := ak (blk_below (g := gb425) (bx BK425.out) hb); have n1_ := ak (below_step bq hb); have n2_ := ak (hbox); have n3_ := ak ((by rw [hg]; exact (below_size bq) : w.heap.size ≤ gb426)); have n4_ := ak ((by rw [hg]; exact (below_size bq) : w.heap.size ≤ gb426)); have n5_ := ak ((by rw [hg]; exact Nat.ne_of_lt (blk_lt (g := gb425) (bx BK425.out)) : gb425 ≠ gb426)); have n6_ := ak ((by rw [hg]; exact Nat.ne_of_gt (blk_lt (g := gb425) (bx BK425.out)) : gb426 ≠ gb425)); clear BK425; clear HB; have BK425 := n0_; have HB := n1_; have BK426 := n2_; have GW426 := n3_; have GE426 := n4_; have NB425_426 := n5_; have NB426_425 := n6_; clear n0_ n1_ n2_ n3_ n4_ n5_ n6_; clear hb hbox hg; have hnb22 := NB425_426.out; have hnc22 := NB426_425.out; obtain ⟨hcz23_0, hcz23_1, hcz23_2, hcz23_3, hcz23_4, hcz23_5⟩ := cz6 BK425.out; obtain ⟨hfz23_0, hfz23_1, hfz23_2, hfz23_3, hfz23_4, hfz23_5⟩ := fz6 BK425.out; obtain ⟨hcz24_0, hcz24_1, hcz24_2, hcz24_3, hcz24_4, hcz24_5⟩ := cz6 BK426.out; obtain ⟨hfz24_0, hfz24_1, hfz24_2, hfz24_3, hfz24_4, hfz24_5⟩ := fz6 BK426.out))
    refine bodyPost_ret (results_cell_row rfl _ _ gb426 50 #[.int .i64 a0_0, .string a0_1, .string a0_2, .string ⟨#[]⟩, .string ⟨#[]⟩, .string ⟨#[]⟩] (0, 0) _ rfl (bx (blk_put (cs := #[.int .i64 a0_0, .string a0_1, .string a0_2, .string ⟨#[]⟩, .string ⟨#[]⟩, .string ⟨#[]⟩]) (bx (blk_put (cs := #[.int .i64 a0_0, .string a0_1, .string a0_2, .string ⟨#[]⟩, .string ⟨#[]⟩, .string ⟨#[]⟩]) (bx (blk_put (cs := #[.int .i64 a0_0, .string a0_1, .string a0_2, .string ⟨#[]⟩, .string ⟨#[]⟩, .string ⟨#[]⟩]) (bx (blk_put (cs := #[.int .i64 a0_0, .string a0_1, .string ⟨#[]⟩, .string ⟨#[]⟩, .string ⟨#[]⟩, .string ⟨#[]⟩]) (bx (blk_put (cs := #[.int .i64 a0_0, .string ⟨#[]⟩, .string ⟨#[]⟩, .string ⟨#[]⟩, .string ⟨#[]⟩, .string ⟨#[]⟩]) (bx (blk_put (cs := #[.int .i64 0, .string ⟨#[]⟩, .string ⟨#[]⟩, .string ⟨#[]⟩, .string ⟨#[]⟩, .string ⟨#[]⟩]) (bx (blk_far (bx (blk_far (bx (blk_far (bx BK426.out) NB426_425.out _)) NB426_425.out _)) NB426_425.out _)) 0 _ rfl)) 1 _ rfl)) 2 _ rfl)) 3 _ rfl)) 4 _ rfl)) 5 _ rfl)) Tryd.underlying50 rfl (by kernel_rfl)) rfl ?_
    exact ⟨by first | rfl | (simp [errW_none, errW_some] <;> rfl) | (simp [*, errW_none, errW_some] <;> rfl), bq⟩
   ·
    rw [if_neg c19] at H
    have c19b0 : (a1 == 3) = false := beq_eq_false_iff_ne.mpr c19
    have c19b1 : (a1 != 3) = true := bne_iff_ne.mpr c19
    by_cases c25 : a1 = 4
    ·
     rw [if_pos c25] at H
     have c25b0 : (a1 == 4) = true := beq_iff_eq.mpr c25
     have c25b1 : (a1 != 4) = false := bne_eq_false_iff_eq.mpr c25
     (try (have c25b2 : (a1 : Int).toNat = 4 := by rw [c25]; rfl))
     try have c25b3 : (0 ≤ a1) = True := eq_true (by omega)
     try have c25b4_5 : (a1 < 5) = True := eq_true (by omega)
     clear c25
     simp only [Option.some.injEq, Prod.mk.injEq] at H
     obtain ⟨rfl, rfl, rfl, rfl, rfl, rfl⟩ := H
     go_enter Tryd.func63, Tryd.ntmps63
     go_wp2_with (first | ((with_reducible refine gate_dst (N := 2) rfl ?_); refine box_event ?hg (N := 2) ?hd (cs := #[.int .i64 a0_0, .string a0_1, .string a0_2, .string a0_3, .string a0_4, .string a0_5]) (t := 50) ?hr ?_; (case hd => rfl); (case hg => rfl); (case hr => first | (go_simp; done) | (go_simp; rfl)); intro gb425 hg w26 hbox hb; have n0_ := ak (below_step bq hb); have n1_ := ak (hbox); have n2_ := ak ((by rw [hg]; exact (below_size bq) : w.heap.size ≤ gb425)); have n3_ := ak ((by rw [hg]; exact (below_size bq) : w.heap.size ≤ gb425)); clear HB; have HB := n0_; have BK425 := n1_; have GW425 := n2_; have GE425 := n3_; clear n0_ n1_ n2_ n3_; clear hb hbox hg) | ((with_reducible refine gate_dst (N := 4) rfl ?_); refine box_event ?hg (N := 4) ?hd (cs := #[.int .i64 0, .string ⟨#[]⟩, .string ⟨#[]⟩, .string ⟨#[]⟩, .string ⟨#[]⟩, .string ⟨#[]⟩]) (t := 50) ?hr ?_; (case hd => rfl); (case hg => rfl); (case hr => first | (go_simp; done) | (go_simp; rfl)); intro gb426 hg w27 hbox hb; have n0_ := ak (blk_below (g := gb425) (bx BK425.out) hb); have n1_ := ak (below_step bq hb); have n2_ := ak (hbox); have n3_ := ak ((by rw [hg]; exact (below_size bq) : w.heap.size ≤ gb426)); have n4_ := ak ((by rw [hg]; exact (below_size bq) : w.heap.size ≤ gb426)); have n5_ := ak ((by rw [hg]; exact Nat.ne_of_lt (blk_lt (g := gb425) (bx BK425.out)) : gb425 ≠ gb426)); have n6_ := ak ((by rw [hg]; exact Nat.ne_of_gt (blk_lt (g := gb425) (bx BK425.out)) : gb426 ≠ gb425)); clear BK425; clear HB; have BK425 := n0_; have HB := n1_; have BK426 := n2_; have GW426 := n3_; have GE426 := n4_; have NB425_426 := n5_; have NB426_425 := n6_; clear n0_ n1_ n2_ n3_ n4_ n5_ n6_; clear hb hbox hg; have hnb28 := NB425_426.out; have hnc28 := NB426_425.out; obtain ⟨hcz29_0, hcz29_1, hcz29_2, hcz29_3, hcz29_4, hcz29_5⟩ := cz6 BK425.out; obtain ⟨hfz29_0, hfz29_1, hfz29_2, hfz29_3, hfz29_4, hfz29_5⟩ := fz6 BK425.out; obtain ⟨hcz30_0, hcz30_1, hcz30_2, hcz30_3, hcz30_4, hcz30_5⟩ := cz6 BK426.out; obtain ⟨hfz30_0, hfz30_1, hfz30_2, hfz30_3, hfz30_4, hfz30_5⟩ := fz6 BK426.out))
     refine bodyPost_ret (results_cell_row rfl _ _ gb426 50 #[.int .i64 8, .string a0_1, .string a0_2, .string a0_3, .string a0_4, .string a0_5] (0, 0) _ rfl (bx (blk_put (cs := #[.int .i64 8, .string a0_1, .string a0_2, .string a0_3, .string a0_4, .string ⟨#[]⟩]) (bx (blk_put (cs := #[.int .i64 8, .string a0_1, .string a0_2, .string a0_3, .string ⟨#[]⟩, .string ⟨#[]⟩]) (bx (blk_put (cs := #[.int .i64 8, .string a0_1, .string a0_2, .string ⟨#[]⟩, .string ⟨#[]⟩, .string ⟨#[]⟩]) (bx (blk_put (cs := #[.int .i64 8, .string a0_1, .string ⟨#[]⟩, .string ⟨#[]⟩, .string ⟨#[]⟩, .string ⟨#[]⟩]) (bx (blk_put (cs := #[.int .i64 8, .string ⟨#[]⟩, .string ⟨#[]⟩, .string ⟨#[]⟩, .string ⟨#[]⟩, .string ⟨#[]⟩]) (bx (blk_put (cs := #[.int .i64 0, .string ⟨#[]⟩, .string ⟨#[]⟩, .string ⟨#[]⟩, .string ⟨#[]⟩, .string ⟨#[]⟩]) (bx (blk_far (bx BK426.out) NB426_425.out _)) 0 _ rfl)) 1 _ rfl)) 2 _ rfl)) 3 _ rfl)) 4 _ rfl)) 5 _ rfl)) Tryd.underlying50 rfl (by kernel_rfl)) rfl ?_
     exact ⟨by first | rfl | (simp [errW_none, errW_some] <;> rfl) | (simp [*, errW_none, errW_some] <;> rfl), bq⟩
    ·
     rw [if_neg c25] at H
     have c25b0 : (a1 == 4) = false := beq_eq_false_iff_ne.mpr c25
     have c25b1 : (a1 != 4) = true := bne_iff_ne.mpr c25
     by_cases c31 : a1 = 5
     ·
      rw [if_pos c31] at H
      have c31b0 : (a1 == 5) = true := beq_iff_eq.mpr c31
      have c31b1 : (a1 != 5) = false := bne_eq_false_iff_eq.mpr c31
      (try (have c31b2 : (a1 : Int).toNat = 5 := by rw [c31]; rfl))
      try have c31b3 : (0 ≤ a1) = True := eq_true (by omega)
      clear c31
      simp only [Option.some.injEq, Prod.mk.injEq] at H
      obtain ⟨rfl, rfl, rfl, rfl, rfl, rfl⟩ := H
      go_enter Tryd.func63, Tryd.ntmps63
      go_wp2_with (first | ((with_reducible refine gate_dst (N := 2) rfl ?_); refine box_event ?hg (N := 2) ?hd (cs := #[.int .i64 a0_0, .string a0_1, .string a0_2, .string a0_3, .string a0_4, .string a0_5]) (t := 50) ?hr ?_; (case hd => rfl); (case hg => rfl); (case hr => first | (go_simp; done) | (go_simp; rfl)); intro gb425 hg w32 hbox hb; have n0_ := ak (below_step bq hb); have n1_ := ak (hbox); have n2_ := ak ((by rw [hg]; exact (below_size bq) : w.heap.size ≤ gb425)); have n3_ := ak ((by rw [hg]; exact (below_size bq) : w.heap.size ≤ gb425)); clear HB; have HB := n0_; have BK425 := n1_; have GW425 := n2_; have GE425 := n3_; clear n0_ n1_ n2_ n3_; clear hb hbox hg) | ((with_reducible refine gate_dst (N := 4) rfl ?_); refine box_event ?hg (N := 4) ?hd (cs := #[.int .i64 0, .string ⟨#[]⟩, .string ⟨#[]⟩, .string ⟨#[]⟩, .string ⟨#[]⟩, .string ⟨#[]⟩]) (t := 50) ?hr ?_; (case hd => rfl); (case hg => rfl); (case hr => first | (go_simp; done) | (go_simp; rfl)); intro gb426 hg w33 hbox hb; have n0_ := ak (blk_below (g := gb425) (bx BK425.out) hb); have n1_ := ak (below_step bq hb); have n2_ := ak (hbox); have n3_ := ak ((by rw [hg]; exact (below_size bq) : w.heap.size ≤ gb426)); have n4_ := ak ((by rw [hg]; exact (below_size bq) : w.heap.size ≤ gb426)); have n5_ := ak ((by rw [hg]; exact Nat.ne_of_lt (blk_lt (g := gb425) (bx BK425.out)) : gb425 ≠ gb426)); have n6_ := ak ((by rw [hg]; exact Nat.ne_of_gt (blk_lt (g := gb425) (bx BK425.out)) : gb426 ≠ gb425)); clear BK425; clear HB; have BK425 := n0_; have HB := n1_; have BK426 := n2_; have GW426 := n3_; have GE426 := n4_; have NB425_426 := n5_; have NB426_425 := n6_; clear n0_ n1_ n2_ n3_ n4_ n5_ n6_; clear hb hbox hg; have hnb34 := NB425_426.out; have hnc34 := NB426_425.out; obtain ⟨hcz35_0, hcz35_1, hcz35_2, hcz35_3, hcz35_4, hcz35_5⟩ := cz6 BK425.out; obtain ⟨hfz35_0, hfz35_1, hfz35_2, hfz35_3, hfz35_4, hfz35_5⟩ := fz6 BK425.out; obtain ⟨hcz36_0, hcz36_1, hcz36_2, hcz36_3, hcz36_4, hcz36_5⟩ := cz6 BK426.out; obtain ⟨hfz36_0, hfz36_1, hfz36_2, hfz36_3, hfz36_4, hfz36_5⟩ := fz6 BK426.out))
      refine bodyPost_ret (results_cell_row rfl _ _ gb426 50 #[.int .i64 a0_0, .string a0_1, .string a0_2, .string ⟨#[97, 98, 99, 100, 101, 102, 103, 104, 105]⟩, .string a0_4, .string a0_5] (0, 0) _ rfl (bx (blk_put (cs := #[.int .i64 a0_0, .string a0_1, .string a0_2, .string ⟨#[97, 98, 99, 100, 101, 102, 103, 104, 105]⟩, .string a0_4, .string ⟨#[]⟩]) (bx (blk_put (cs := #[.int .i64 a0_0, .string a0_1, .string a0_2, .string ⟨#[97, 98, 99, 100, 101, 102, 103, 104, 105]⟩, .string ⟨#[]⟩, .string ⟨#[]⟩]) (bx (blk_put (cs := #[.int .i64 a0_0, .string a0_1, .string a0_2, .string ⟨#[]⟩, .string ⟨#[]⟩, .string ⟨#[]⟩]) (bx (blk_put (cs := #[.int .i64 a0_0, .string a0_1, .string ⟨#[]⟩, .string ⟨#[]⟩, .string ⟨#[]⟩, .string ⟨#[]⟩]) (bx (blk_put (cs := #[.int .i64 a0_0, .string ⟨#[]⟩, .string ⟨#[]⟩, .string ⟨#[]⟩, .string ⟨#[]⟩, .string ⟨#[]⟩]) (bx (blk_put (cs := #[.int .i64 0, .string ⟨#[]⟩, .string ⟨#[]⟩, .string ⟨#[]⟩, .string ⟨#[]⟩, .string ⟨#[]⟩]) (bx (blk_far (bx BK426.out) NB426_425.out _)) 0 _ rfl)) 1 _ rfl)) 2 _ rfl)) 3 _ rfl)) 4 _ rfl)) 5 _ rfl)) Tryd.underlying50 rfl (by kernel_rfl)) rfl ?_
      exact ⟨by first | rfl | (simp [errW_none, errW_some] <;> rfl) | (simp [*, errW_none, errW_some] <;> rfl), bq⟩
     ·
      rw [if_neg c31] at H
      have c31b0 : (a1 == 5) = false := beq_eq_false_iff_ne.mpr c31
      have c31b1 : (a1 != 5) = true := bne_iff_ne.mpr c31
      by_cases c37 : a1 = 6
      ·
       rw [if_pos c37] at H
       have c37b0 : (a1 == 6) = true := beq_iff_eq.mpr c37
       have c37b1 : (a1 != 6) = false := bne_eq_false_iff_eq.mpr c37
       (try (have c37b2 : (a1 : Int).toNat = 6 := by rw [c37]; rfl))
       try have c37b3 : (0 ≤ a1) = True := eq_true (by omega)
       clear c37
       replace H := Option.bind_eq_some_iff.mp H
       obtain ⟨t428, A380, H⟩ := H
       have A38 := ak A380
       clear A380
       replace H := Option.bind_eq_some_iff.mp H
       obtain ⟨t431, A390, H⟩ := H
       have A39 := ak A390
       clear A390
       simp only [Option.some.injEq, Prod.mk.injEq] at H
       obtain ⟨rfl, rfl, rfl, rfl, rfl, rfl⟩ := H
       go_enter Tryd.func63, Tryd.ntmps63
       try go_wp2_with (first | ((with_reducible refine gate_dst (N := 2) rfl ?_); refine box_event ?hg (N := 2) ?hd (cs := #[.int .i64 a0_0, .string a0_1, .string a0_2, .string a0_3, .string a0_4, .string a0_5]) (t := 50) ?hr ?_; (case hd => rfl); (case hg => rfl); (case hr => first | (go_simp; done) | (go_simp; rfl)); intro gb425 hg w40 hbox hb; have n0_ := ak (below_step bq hb); have n1_ := ak (hbox); have n2_ := ak ((by rw [hg]; exact (below_size bq) : w.heap.size ≤ gb425)); have n3_ := ak ((by rw [hg]; exact (below_size bq) : w.heap.size ≤ gb425)); clear HB; have HB := n0_; have BK425 := n1_; have GW425 := n2_; have GE425 := n3_; clear n0_ n1_ n2_ n3_; clear hb hbox hg) | ((with_reducible refine gate_dst (N := 4) rfl ?_); refine box_event ?hg (N := 4) ?hd (cs := #[.int .i64 0, .string ⟨#[]⟩, .string ⟨#[]⟩, .string ⟨#[]⟩, .string ⟨#[]⟩, .string ⟨#[]⟩]) (t := 50) ?hr ?_; (case hd => rfl); (case hg => rfl); (case hr => first | (go_simp; done) | (go_simp; rfl)); intro gb426 hg w41 hbox hb; have n0_ := ak (blk_below (g := gb425) (bx BK425.out) hb); have n1_ := ak (below_step bq hb); have n2_ := ak (hbox); have n3_ := ak ((by rw [hg]; exact (below_size bq) : w.heap.size ≤ gb426)); have n4_ := ak ((by rw [hg]; exact (below_size bq) : w.heap.size ≤ gb426)); have n5_ := ak ((by rw [hg]; exact Nat.ne_of_lt (blk_lt (g := gb425) (bx BK425.out)) : gb425 ≠ gb426)); have n6_ := ak ((by rw [hg]; exact Nat.ne_of_gt (blk_lt (g := gb425) (bx BK425.out)) : gb426 ≠ gb425)); clear BK425; clear HB; have BK425 := n0_; have HB := n1_; have BK426 := n2_; have GW426 := n3_; have GE426 := n4_; have NB425_426 := n5_; have NB426_425 := n6_; clear n0_ n1_ n2_ n3_ n4_ n5_ n6_; clear hb hbox hg))
       have n0_ := ak (blk_drew BK425.out)
       have n1_ := ak (blk_drew BK426.out)
       have n2_ := ak (below_drew1 HB.out)
       clear BK425
       clear BK426
       clear HB
       have BK425 := n0_
       have BK426 := n1_
       have HB := n2_
       clear n0_ n1_ n2_
       refine start_ (n := 7) (S := fun w' => w'.cell? ⟨gb425, 0, none⟩ = some (.int .i64 a0_0) ∧ w'.cell? ⟨gb425, 1, none⟩ = some (.string a0_1) ∧ w'.cell? ⟨gb425, 2, none⟩ = some (.string a0_2) ∧ w'.cell? ⟨gb425, 3, none⟩ = some (.string a0_3) ∧ w'.cell? ⟨gb425, 4, none⟩ = some (.string a0_4) ∧ w'.cell? ⟨gb425, 5, none⟩ = some (.string a0_5)) (ds := [6]) #[false, false, false, false, false, false, false] (by kernel_rfl) rfl rfl ⟨(blk_cell BK425.out 0).trans rfl, (blk_cell BK425.out 1).trans rfl, (blk_cell BK425.out 2).trans rfl, (blk_cell BK425.out 3).trans rfl, (blk_cell BK425.out 4).trans rfl, (blk_cell BK425.out 5).trans rfl⟩ (fun hHeld => ?_)
       generalize w41.drew = w42 at BK425 BK426 HB hHeld ⊢
       refine pure_ (i := 1) (N := some 32) (v := ?_) (a' := ?_) (M 7 2) rfl rfl (by kernel_rfl) (fun _ _ _ h => h) (Or.inl ⟨by rfl, ?_⟩) ?_ ?_
       rotate_left
       ·
        intro w'
        go_simp
        with_reducible rfl
       rotate_left
       ·
        simp only [Act.put, pA, pB, pC, i64_w, i32_w]
        rfl
       refine take_ (i := 2) (N := some 33) (v := ?_) (a' := ?_) (M 7 6) rfl rfl (by kernel_rfl) (fun _ _ _ h => h) (Or.inl ⟨by rfl, ?_⟩) hHeld ?_ ?_
       rotate_left
       ·
        rintro w' ⟨s0, s1, s2, s3, s4, s5⟩
        go_simp
        with_reducible rfl
       rotate_left
       ·
        simp only [Act.put, pA, pB, pC, i64_w, i32_w]
        rfl
       refine pure_ (i := 3) (N := some 34) (v := ?_) (a' := ?_) (M 7 14) rfl rfl (by kernel_rfl) (fun _ _ _ h => h) (Or.inl ⟨by rfl, ?_⟩) ?_ ?_
       rotate_left
       ·
        intro w'
        go_simp
        with_reducible rfl
       rotate_left
       ·
        simp only [Act.put, pA, pB, pC, i64_w, i32_w]
        rfl
       refine one_ (i := 0) (N := some 31) (M 7 15) rfl rfl (by kernel_rfl) (by decide) (fun K hK => ?_)
       refine goes_ Tryd.func58 (by kernel_rfl) rfl #[] (by rfl) rfl rfl mq ?_
       with_reducible refine (isoglossref12_langs.calls  t428 _ A38.out).mono ?_
       rintro e w43 ⟨v429, rfl, ho0, hb⟩
       refine ⟨_, rfl, ?_⟩
       have n0_ := ak (Kd.R_lower ho0 (below_size bq))
       have n1_ := ak (blk_below (g := gb425) (bx BK425.out) hb)
       have n2_ := ak (blk_below (g := gb426) (bx BK426.out) hb)
       have n3_ := ak (below_step bq hb)
       clear BK425
       clear BK426
       clear HB
       have HO430 := n0_
       have BK425 := n1_
       have BK426 := n2_
       have HB := n3_
       clear n0_ n1_ n2_ n3_
       (try clear hb)
       (try clear hb2)
       (try clear hk)
       (try clear hi)
       (try clear ho0)
       obtain ⟨Ao44, co44, eo44⟩ := Kd.R_slice HO430.out
       (first | subst eo44 | (injection eo44 with f1_ f2_ f3_; have f4_ := f1_.symm; have f5_ := f3_.symm; clear f1_ f2_ f3_; subst f4_; subst f5_))
       refine hK.out _ _ ⟨(blk_cell BK425.out 0).trans rfl, (blk_cell BK425.out 1).trans rfl, (blk_cell BK425.out 2).trans rfl, (blk_cell BK425.out 3).trans rfl, (blk_cell BK425.out 4).trans rfl, (blk_cell BK425.out 5).trans rfl⟩ (fun hHeld => ?_)
       clear hK K
       refine norm_ (a' := ?_) ?_ ?_
       rotate_left
       ·
        show Act.put _ (some 31) _ = _
        simp only [Act.put, pA, pB, pC, i64_w, i32_w]
        rfl
       refine one_ (i := 4) (N := some 35) (M 7 31) rfl rfl (by kernel_rfl) (by decide) (fun K hK => ?_)
       refine goes_ Tryd.func56 (by kernel_rfl) rfl #[.slice Ao44 t428.length co44, .int .i64 (a0_1.size : Int)] (by rfl) rfl rfl mq ?_
       with_reducible refine (isoglossref06_Pick.calls _ _ t428 (a0_1.size : Int) t431 _ ?side1 ?side2 A39.out).mono ?_
       (case side1 => repeat (first | exact (Kd.R_reads' HO430.out).2.2 | (with_reducible refine Kd.C_alloc ?_ _) | (with_reducible refine Kd.C_drewN ?_ _) | (with_reducible refine Kd.C_drew ?_)))
       (case side2 => exact (Kd.R_reads' HO430.out).2.1)
       rintro e w' ⟨rfl, ⟨nd, rfl⟩⟩
       refine ⟨_, rfl, ?_⟩
       refine hK.out _ _ ⟨(blk_cell BK425.out 0).trans rfl, (blk_cell BK425.out 1).trans rfl, (blk_cell BK425.out 2).trans rfl, (blk_cell BK425.out 3).trans rfl, (blk_cell BK425.out 4).trans rfl, (blk_cell BK425.out 5).trans rfl⟩ (fun hHeld => ?_)
       clear hK K
       refine norm_ (a' := ?_) ?_ ?_
       rotate_left
       ·
        show Act.put _ (some 35) _ = _
        simp only [Act.put, pA, pB, pC, i64_w, i32_w]
        rfl
       refine pure_ (i := 5) (N := some 36) (v := ?_) (a' := ?_) (M 7 63) rfl rfl (by kernel_rfl) (fun _ _ _ h => h) (Or.inl ⟨by rfl, ?_⟩) ?_ ?_
       rotate_left
       ·
        intro w'
        go_simp
        with_reducible rfl
       rotate_left
       ·
        simp only [Act.put, pA, pB, pC, i64_w, i32_w]
        rfl
       refine last_ (i := 6) (N := none) (M 7 127) rfl rfl (by kernel_rfl) (by decide) (fun K hK => ?_)
       have hs45 : w43.cell? ⟨gb425, 3, none⟩ = some (.string a0_3) := (blk_cell BK425.out 3).trans rfl
       have hfs45 := blk_frozen BK425.out 3
       have hns45_1 := NB426_425.out
       have hms45_1 := NB425_426.out
       refine skip_ (w1 := ?_) (by rfl) rfl ?_ ?_
       rotate_left
       ·
        go_simp
        rfl
       refine hK.out _ _ ?_
       clear hK K
       refine done_ (by kernel_rfl) ?_
       have hnb46 := NB425_426.out
       have hnc46 := NB426_425.out
       obtain ⟨hcz47_0, hcz47_1, hcz47_2, hcz47_3, hcz47_4, hcz47_5⟩ := cz6 BK425.out
       obtain ⟨hfz47_0, hfz47_1, hfz47_2, hfz47_3, hfz47_4, hfz47_5⟩ := fz6 BK425.out
       obtain ⟨hcz48_0, hcz48_1, hcz48_2, hcz48_3, hcz48_4, hcz48_5⟩ := cz6 BK426.out
       obtain ⟨hfz48_0, hfz48_1, hfz48_2, hfz48_3, hfz48_4, hfz48_5⟩ := fz6 BK426.out
       try go_wp2
       refine bodyPost_ret (results_cell_row rfl _ _ gb426 50 #[.int .i64 a0_0, .string a0_1, .string a0_2, .string t431, .string a0_4, .string a0_5] (0, 0) _ rfl (bx (blk_put (cs := #[.int .i64 a0_0, .string a0_1, .string a0_2, .string t431, .string a0_4, .string ⟨#[]⟩]) (bx (blk_put (cs := #[.int .i64 a0_0, .string a0_1, .string a0_2, .string t431, .string ⟨#[]⟩, .string ⟨#[]⟩]) (bx (blk_put (cs := #[.int .i64 a0_0, .string a0_1, .string a0_2, .string ⟨#[]⟩, .string ⟨#[]⟩, .string ⟨#[]⟩]) (bx (blk_put (cs := #[.int .i64 a0_0, .string a0_1, .string ⟨#[]⟩, .string ⟨#[]⟩, .string ⟨#[]⟩, .string ⟨#[]⟩]) (bx (blk_put (cs := #[.int .i64 a0_0, .string ⟨#[]⟩, .string ⟨#[]⟩, .string ⟨#[]⟩, .string ⟨#[]⟩, .string ⟨#[]⟩]) (bx (blk_put (cs := #[.int .i64 0, .string ⟨#[]⟩, .string ⟨#[]⟩, .string ⟨#[]⟩, .string ⟨#[]⟩, .string ⟨#[]⟩]) (bx (blk_far (bx BK426.out) NB426_425.out _)) 0 _ rfl)) 1 _ rfl)) 2 _ rfl)) 3 _ rfl)) 4 _ rfl)) 5 _ rfl)) Tryd.underlying50 rfl (by kernel_rfl)) rfl ?_
       exact ⟨by first | rfl | (simp [errW_none, errW_some] <;> rfl) | (simp [*, errW_none, errW_some] <;> rfl), bq⟩
      ·
       rw [if_neg c37] at H
       have c37b0 : (a1 == 6) = false := beq_eq_false_iff_ne.mpr c37
       have c37b1 : (a1 != 6) = true := bne_iff_ne.mpr c37
       simp only [Option.some.injEq, Prod.mk.injEq] at H
       obtain ⟨rfl, rfl, rfl, rfl, rfl, rfl⟩ := H
       go_enter Tryd.func63, Tryd.ntmps63
       go_wp2_with (first | ((with_reducible refine gate_dst (N := 2) rfl ?_); refine box_event ?hg (N := 2) ?hd (cs := #[.int .i64 a0_0, .string a0_1, .string a0_2, .string a0_3, .string a0_4, .string a0_5]) (t := 50) ?hr ?_; (case hd => rfl); (case hg => rfl); (case hr => first | (go_simp; done) | (go_simp; rfl)); intro gb425 hg w49 hbox hb; have n0_ := ak (below_step bq hb); have n1_ := ak (hbox); have n2_ := ak ((by rw [hg]; exact (below_size bq) : w.heap.size ≤ gb425)); have n3_ := ak ((by rw [hg]; exact (below_size bq) : w.heap.size ≤ gb425)); clear HB; have HB := n0_; have BK425 := n1_; have GW425 := n2_; have GE425 := n3_; clear n0_ n1_ n2_ n3_; clear hb hbox hg) | ((with_reducible refine gate_dst (N := 4) rfl ?_); refine box_event ?hg (N := 4) ?hd (cs := #[.int .i64 0, .string ⟨#[]⟩, .string ⟨#[]⟩, .string ⟨#[]⟩, .string ⟨#[]⟩, .string ⟨#[]⟩]) (t := 50) ?hr ?_; (case hd => rfl); (case hg => rfl); (case hr => first | (go_simp; done) | (go_simp; rfl)); intro gb426 hg w50 hbox hb; have n0_ := ak (blk_below (g := gb425) (bx BK425.out) hb); have n1_ := ak (below_step bq hb); have n2_ := ak (hbox); have n3_ := ak ((by rw [hg]; exact (below_size bq) : w.heap.size ≤ gb426)); have n4_ := ak ((by rw [hg]; exact (below_size bq) : w.heap.size ≤ gb426)); have n5_ := ak ((by rw [hg]; exact Nat.ne_of_lt (blk_lt (g := gb425) (bx BK425.out)) : gb425 ≠ gb426)); have n6_ := ak ((by rw [hg]; exact Nat.ne_of_gt (blk_lt (g := gb425) (bx BK425.out)) : gb426 ≠ gb425)); clear BK425; clear HB; have BK425 := n0_; have HB := n1_; have BK426 := n2_; have GW426 := n3_; have GE426 := n4_; have NB425_426 := n5_; have NB426_425 := n6_; clear n0_ n1_ n2_ n3_ n4_ n5_ n6_; clear hb hbox hg; have hnb51 := NB425_426.out; have hnc51 := NB426_425.out; obtain ⟨hcz52_0, hcz52_1, hcz52_2, hcz52_3, hcz52_4, hcz52_5⟩ := cz6 BK425.out; obtain ⟨hfz52_0, hfz52_1, hfz52_2, hfz52_3, hfz52_4, hfz52_5⟩ := fz6 BK425.out; obtain ⟨hcz53_0, hcz53_1, hcz53_2, hcz53_3, hcz53_4, hcz53_5⟩ := cz6 BK426.out; obtain ⟨hfz53_0, hfz53_1, hfz53_2, hfz53_3, hfz53_4, hfz53_5⟩ := fz6 BK426.out))
       refine bodyPost_ret (results_cell_row rfl _ _ gb426 50 #[.int .i64 a0_0, .string a0_1, .string a0_2, .string a0_3, .string a0_4, .string a0_5] (0, 0) _ rfl (bx (blk_put (cs := #[.int .i64 a0_0, .string a0_1, .string a0_2, .string a0_3, .string a0_4, .string ⟨#[]⟩]) (bx (blk_put (cs := #[.int .i64 a0_0, .string a0_1, .string a0_2, .string a0_3, .string ⟨#[]⟩, .string ⟨#[]⟩]) (bx (blk_put (cs := #[.int .i64 a0_0, .string a0_1, .string a0_2, .string ⟨#[]⟩, .string ⟨#[]⟩, .string ⟨#[]⟩]) (bx (blk_put (cs := #[.int .i64 a0_0, .string a0_1, .string ⟨#[]⟩, .string ⟨#[]⟩, .string ⟨#[]⟩, .string ⟨#[]⟩]) (bx (blk_put (cs := #[.int .i64 a0_0, .string ⟨#[]⟩, .string ⟨#[]⟩, .string ⟨#[]⟩, .string ⟨#[]⟩, .string ⟨#[]⟩]) (bx (blk_put (cs := #[.int .i64 0, .string ⟨#[]⟩, .string ⟨#[]⟩, .string ⟨#[]⟩, .string ⟨#[]⟩, .string ⟨#[]⟩]) (bx BK426.out) 0 _ rfl)) 1 _ rfl)) 2 _ rfl)) 3 _ rfl)) 4 _ rfl)) 5 _ rfl)) Tryd.underlying50 rfl (by kernel_rfl)) rfl ?_
       exact ⟨by first | rfl | (simp [errW_none, errW_some] <;> rfl) | (simp [*, errW_none, errW_some] <;> rfl), bq⟩

end Go.Proofs.YtmbfnbnlajchmaaDoor.P
