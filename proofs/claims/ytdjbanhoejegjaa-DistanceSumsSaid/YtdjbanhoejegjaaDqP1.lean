/- Made by a program of this seat's own (myprint.py, round the kit's print): what the functions compute, and that they do. -/
import Derived.Test.YtdjbanhoejegjaaDqP0
import Derived.Test.YtdjbanhoejegjaaDqTight
namespace Go.Proofs.Ytdjbanhoejegjaa.P
open Go.RowKit Go.Proofs.YtdjbanhoejegjaaW.PrintWords Go.Proofs.YtdjbanhoejegjaaW.PrintLast Go.Proofs.YtdjbanhoejegjaaW.PrintMore
attribute [local go_sem] StrOrd.binOp_gtr StrOrd.binOp_leq max2_int min2_int max_two min_two max_three min_three max_four min_four   -- for this text's walks alone
set_option linter.unusedVariables false
set_option linter.unusedSimpArgs false

def isoglossref13_rest.f (a0 : Int) (a1 : Int) : Option (Int) := if a1 = 0 then (none) else (some (Int.tmod (wrap64 ((Int.tmod a0 a1) + a1)) a1))
set_option maxHeartbeats 8000000 in
set_option maxRecDepth 100000 in
theorem isoglossref13_rest.calls (a0 : Int) (a1 : Int) (r : Int) (w : World) (h : isoglossref13_rest.f a0 a1 = some r) :
  Calls Try.prog 20 #[.int .i64 a0, .int .i64 a1] w fun e w' => e = .returned (.int .i64 r) ∧ Drawn0 w w' := by
 have H : (if a1 = 0 then (none) else (some (Int.tmod (wrap64 ((Int.tmod a0 a1) + a1)) a1))) = some r := h
 clear h
 by_cases c3 : a1 = 0
 ·
  rw [if_pos c3] at H
  exact absurd H (by simp)
 ·
  rw [if_neg c3] at H
  have c3b0 : (a1 == 0) = false := beq_eq_false_iff_ne.mpr c3
  have c3b1 : (a1 != 0) = true := bne_iff_ne.mpr c3
  obtain rfl := Option.some.inj H
  go_enter Try.func20, Try.ntmps20
  go_wp2
  go_ret
  exact ⟨by first | rfl | (simp; done) | (simp [*]; done), by repeat (first | exact Drawn0.refl _ | apply Drawn0.step)⟩

def isoglossref06_Pick.f (l0 : List ByteArray) (a1 : Int) : Option (ByteArray) := if (l0.length : Int) = 0 then (none) else (if 0 ≤ (Int.tmod (wrap64 ((Int.tmod a1 (l0.length : Int)) + (l0.length : Int))) (l0.length : Int)) then (if (Int.tmod (wrap64 ((Int.tmod a1 (l0.length : Int)) + (l0.length : Int))) (l0.length : Int)) < (l0.length : Int) then (some (rdOf ByteArray.empty l0 (Int.tmod (wrap64 ((Int.tmod a1 (l0.length : Int)) + (l0.length : Int))) (l0.length : Int)))) else (none)) else (none))
set_option maxHeartbeats 8000000 in
set_option maxRecDepth 100000 in
theorem isoglossref06_Pick.calls (A0 : Option Addr) (c0 : Nat) (l0 : List ByteArray) (a1 : Int) (r : ByteArray) (w : World) (hr0 : Kd.C Kd.string w A0 l0.length l0) (hc0 : l0.length ≤ c0) (h : isoglossref06_Pick.f l0 a1 = some r) :
  Calls Try.prog 25 #[.slice A0 l0.length c0, .int .i64 a1] w fun e w' => e = .returned (.string r) ∧ Drawn0 w w' := by
 have HR0 := ak hr0
 have HC0 := ak hc0
 clear hr0 hc0
 have H : (if (l0.length : Int) = 0 then (none) else (if 0 ≤ (Int.tmod (wrap64 ((Int.tmod a1 (l0.length : Int)) + (l0.length : Int))) (l0.length : Int)) then (if (Int.tmod (wrap64 ((Int.tmod a1 (l0.length : Int)) + (l0.length : Int))) (l0.length : Int)) < (l0.length : Int) then (some (rdOf ByteArray.empty l0 (Int.tmod (wrap64 ((Int.tmod a1 (l0.length : Int)) + (l0.length : Int))) (l0.length : Int)))) else (none)) else (none))) = some r := h
 clear h
 by_cases c3 : (l0.length : Int) = 0
 ·
  rw [if_pos c3] at H
  exact absurd H (by simp)
 ·
  rw [if_neg c3] at H
  have c3b0 : ((l0.length : Int) == 0) = false := beq_eq_false_iff_ne.mpr c3
  have c3b1 : ((l0.length : Int) != 0) = true := bne_iff_ne.mpr c3
  have c3b2 : ¬ (l0 = []) := fun h_ => c3 (by rw [h_]; rfl)
  obtain ⟨ji4, hji4⟩ : ∃ j_ : Int, (Int.tmod (wrap64 ((Int.tmod a1 (l0.length : Int)) + (l0.length : Int))) (l0.length : Int)) = j_ := ⟨_, rfl⟩
  replace H : (if 0 ≤ (ji4) then (if (ji4) < (l0.length : Int) then (some (rdOf ByteArray.empty l0 (ji4))) else (none)) else (none)) = some r := by first | (rw [hji4] at H; exact H) | (simp only [hji4] at H ⊢; exact H)
  by_cases c5 : 0 ≤ (ji4)
  ·
   rw [if_pos c5] at H
   have c5b0 : decide (0 ≤ (ji4)) = true := decide_eq_true c5
   clear c5
   by_cases c6 : (ji4) < (l0.length : Int)
   ·
    rw [if_pos c6] at H
    have c6b0 : decide ((ji4) < (l0.length : Int)) = true := decide_eq_true c6
    clear c6
    obtain rfl := Option.some.inj H
    have p126 : 0 ≤ ((ji4) : Int) := of_decide_eq_true (by first | (with_reducible assumption) | assumption)
    have q126 : (ji4) < (l0.length : Int) := of_decide_eq_true (by first | (with_reducible assumption) | assumption)
    obtain ⟨ad126, e126, hx126_0⟩ := Kd.at_string HR0.out (ji4) p126 q126
    cases e126
    replace p126 := eq_true p126
    replace q126 := eq_true q126
    go_enter Try.func25, Try.ntmps25
    go_wp2
    go_ret
    exact ⟨by first | rfl | (simp; done) | (simp only [← hji4] <;> (first | rfl | simp)) | (simp [*]; done), by repeat (first | exact Drawn0.refl _ | apply Drawn0.step)⟩
   ·
    rw [if_neg c6] at H
    exact absurd H (by simp)
  ·
   rw [if_neg c5] at H
   exact absurd H (by simp)

def isoglossref12_langs.f  : Option (List ByteArray) := some (([⟨#[105, 119]⟩, ⟨#[109, 111]⟩, ⟨#[110, 111]⟩, ⟨#[115, 104]⟩, ⟨#[116, 108]⟩, ⟨#[115, 103, 110]⟩, ⟨#[122, 104]⟩, ⟨#[104, 97, 110, 116]⟩] : List ByteArray))
set_option maxHeartbeats 8000000 in
set_option maxRecDepth 100000 in
theorem isoglossref12_langs.calls  (r : List ByteArray) (w : World) (h : isoglossref12_langs.f  = some r) :
  Calls Try.prog 43 #[] w fun e w' => ∃ v0_ : Value, e = .returned (v0_) ∧ Kd.R Kd.string 9 w' w.heap.size (fun _ => True) v0_ r ∧ Below w.heap.size w w' := by
 have HB := ak (Below.refl w.heap.size w)
 have H : (some (([⟨#[105, 119]⟩, ⟨#[109, 111]⟩, ⟨#[110, 111]⟩, ⟨#[115, 104]⟩, ⟨#[116, 108]⟩, ⟨#[115, 103, 110]⟩, ⟨#[122, 104]⟩, ⟨#[104, 97, 110, 116]⟩] : List ByteArray))) = some r := h
 clear h
 obtain ⟨y130, hy130⟩ : ∃ y_ : List ByteArray, y_ = (([⟨#[105, 119]⟩, ⟨#[109, 111]⟩, ⟨#[110, 111]⟩, ⟨#[115, 104]⟩, ⟨#[116, 108]⟩, ⟨#[115, 103, 110]⟩, ⟨#[122, 104]⟩, ⟨#[104, 97, 110, 116]⟩] : List ByteArray)) := ⟨_, rfl⟩
 replace H : (some y130) = some r := by first | (rw [hy130]; with_reducible exact H) | (have H2_ := (Option.bind_some _ _).symm.trans H; rw [hy130]; with_reducible exact H2_) | (have H2_ := (Option.bind_some _ _).symm.trans H; with_reducible exact H2_) | with_reducible exact H | (rw [hy130]; exact H) | exact H
 have Ny130 := ak hy130
 clear hy130
 obtain rfl := Option.some.inj H
 go_enter Try.func43, Try.ntmps43
 go_wp2_with (first | ((with_reducible refine gate_dst (N := 1) rfl ?_); refine Kd.R_lit Kd.string _ 9 ?hg (N := 1) ?hd (xs := ([⟨#[105, 119]⟩, ⟨#[109, 111]⟩, ⟨#[110, 111]⟩, ⟨#[115, 104]⟩, ⟨#[116, 108]⟩, ⟨#[115, 103, 110]⟩, ⟨#[122, 104]⟩, ⟨#[104, 97, 110, 116]⟩] : List ByteArray)) (inner := [.string ⟨#[105, 119]⟩, .string ⟨#[109, 111]⟩, .string ⟨#[110, 111]⟩, .string ⟨#[115, 104]⟩, .string ⟨#[116, 108]⟩, .string ⟨#[115, 103, 110]⟩, .string ⟨#[122, 104]⟩, .string ⟨#[104, 97, 110, 116]⟩]) (ok := fun _ => True) (okp := fun _ => True) ?hr ?hp (fun _ hk => hk) trivial (Below.refl _ _) (Nat.le_refl _) (by simp) ?_; (case hd => rfl); (case hg => rfl); (case hr => first | (go_simp; done) | (go_simp; rfl)); (case hp => exact (Reps.one (show Kd.M Kd.string _ _ _ (⟨#[105, 119]⟩ : ByteArray) [.string ⟨#[105, 119]⟩] from rfl) (Reps.one (show Kd.M Kd.string _ _ _ (⟨#[109, 111]⟩ : ByteArray) [.string ⟨#[109, 111]⟩] from rfl) (Reps.one (show Kd.M Kd.string _ _ _ (⟨#[110, 111]⟩ : ByteArray) [.string ⟨#[110, 111]⟩] from rfl) (Reps.one (show Kd.M Kd.string _ _ _ (⟨#[115, 104]⟩ : ByteArray) [.string ⟨#[115, 104]⟩] from rfl) (Reps.one (show Kd.M Kd.string _ _ _ (⟨#[116, 108]⟩ : ByteArray) [.string ⟨#[116, 108]⟩] from rfl) (Reps.one (show Kd.M Kd.string _ _ _ (⟨#[115, 103, 110]⟩ : ByteArray) [.string ⟨#[115, 103, 110]⟩] from rfl) (Reps.one (show Kd.M Kd.string _ _ _ (⟨#[122, 104]⟩ : ByteArray) [.string ⟨#[122, 104]⟩] from rfl) (Reps.one (show Kd.M Kd.string _ _ _ (⟨#[104, 97, 110, 116]⟩ : ByteArray) [.string ⟨#[104, 97, 110, 116]⟩] from rfl) (Reps.none _ _)))))))))); intro v131 w1 ho2 hb hg_ hnew_; clear hg_ hnew_; (first | rw [← Ny130.out] at ho2 | (simp only [Int.reduceToNat] at ho2; rw [← Ny130.out] at ho2)); have n0_ := ak (Kd.R_lower ho2 (below_size bq)); have n1_ := ak (below_step bq hb); clear HB; have HO132 := n0_; have HB := n1_; clear n0_ n1_; clear hb ho2))
 go_ret
 exact ⟨_, by first | rfl | (simp [errW_none, errW_some] <;> rfl) | (simp [*, errW_none, errW_some] <;> rfl), by (with_reducible repeat (first | apply rA | apply rN | apply rD)); exact HO132.out, bq⟩

def isoglossref02_upper.f (a0 : Int) : Option (Int) := if a0 ≥ 97 then (if a0 ≤ 122 then (some ((((a0 - 97) % 256) + 65) % 256)) else (some a0)) else (some a0)
set_option maxHeartbeats 8000000 in
set_option maxRecDepth 100000 in
theorem isoglossref02_upper.calls (a0 : Int) (r : Int) (w : World) (h : isoglossref02_upper.f a0 = some r) :
  Calls Try.prog 63 #[.int .u8 a0] w fun e w' => e = .returned (.int .u8 r) ∧ Drawn0 w w' := by
 have H : (if a0 ≥ 97 then (if a0 ≤ 122 then (some ((((a0 - 97) % 256) + 65) % 256)) else (some a0)) else (some a0)) = some r := h
 clear h
 by_cases c2 : a0 ≥ 97
 ·
  rw [if_pos c2] at H
  have c2b0 : decide (97 ≤ a0) = true := decide_eq_true c2
  clear c2
  by_cases c3 : a0 ≤ 122
  ·
   rw [if_pos c3] at H
   have c3b0 : decide (a0 ≤ 122) = true := decide_eq_true c3
   clear c3
   obtain rfl := Option.some.inj H
   go_enter Try.func63, Try.ntmps63
   go_wp2
   go_ret
   exact ⟨by first | rfl | (simp; done) | (simp [*]; done), by repeat (first | exact Drawn0.refl _ | apply Drawn0.step)⟩
  ·
   rw [if_neg c3] at H
   have c3b0 : decide (a0 ≤ 122) = false := decide_eq_false c3
   clear c3
   obtain rfl := Option.some.inj H
   go_enter Try.func63, Try.ntmps63
   go_wp2
   go_ret
   exact ⟨by first | rfl | (simp; done) | (simp [*]; done), by repeat (first | exact Drawn0.refl _ | apply Drawn0.step)⟩
 ·
  rw [if_neg c2] at H
  have c2b0 : decide (97 ≤ a0) = false := decide_eq_false c2
  clear c2
  obtain rfl := Option.some.inj H
  go_enter Try.func63, Try.ntmps63
  go_wp2
  go_ret
  exact ⟨by first | rfl | (simp; done) | (simp [*]; done), by repeat (first | exact Drawn0.refl _ | apply Drawn0.step)⟩

def isoglossref02_Upper.l0 : Nat → ByteArray → List Int → Int → Option (ByteArray)
 | 0, _, _, _ => none
 | k + 1, x0, x3, x4 => if x4 < (x0.size : Int) then (if 0 ≤ x4 then ((isoglossref02_upper.f (bt x0 x4)).bind fun t145 => (if x3.length < 140737488355328 then (isoglossref02_Upper.l0 k x0 (x3 ++ [t145]) (wrap64 (x4 + 1))) else (none))) else (none)) else (some (strOfNums x3))
def isoglossref02_Upper.f (k : Nat) (a0 : ByteArray) : Option (ByteArray) := isoglossref02_Upper.l0 k a0 ([] : List Int) 0
set_option maxHeartbeats 8000000 in
set_option maxRecDepth 100000 in
theorem isoglossref02_Upper.calls (k : Nat) (a0 : ByteArray) (r : ByteArray) (w : World) (h : isoglossref02_Upper.f k a0 = some r) :
  Calls Try.prog 55 #[.string a0] w fun e w' => e = .returned (.string r) ∧ Below w.heap.size w w' := by
 have HB := ak (Below.refl w.heap.size w)
 have H : (isoglossref02_Upper.l0 k a0 ([] : List Int) 0) = some r := h
 clear h
 have H' := ak H
 clear H
 go_enter Try.func55, Try.ntmps55
 go_wp2
 go_loopg [3, 4] k (fun kq v3 v4 w' => ∃ (x3_1 : List Int) (x4_1 : Int), v4 = .int .i64 x4_1 ∧ Aside0 (isoglossref02_Upper.l0 kq a0 x3_1 x4_1 = some r) ∧ Aside0 (kq ≤ k) ∧ Aside0 (Kd.R (Kd.int .u8) 5 w' w.heap.size (fun _ => True) v3 x3_1) ∧ Aside0 (Below w.heap.size w w'))
 case atStart => exact ⟨(([] : List Int)), (0), (by first | rfl | (simp; done) | (simp [*]; done)), H', ⟨Nat.le_refl _⟩, ⟨by first | exact Kd.R_nil _ _ _ _ _ | exact Kd.N_nil _ _ _ _ _ | exact Kd.V_nil _ _ _ _ _ | exact Kd.Q_nil _ _ _ _ _ | exact Kd.S_nil _ _ _ _ _⟩, ⟨bq⟩⟩
 case round =>
  clear H'
  obtain ⟨x3_1, x4_1, rfl, HA, HK1, HO_3, HB⟩ := hrel
  cases gk with
  | zero => exact absurd HA.out (by simp [isoglossref02_Upper.l0])
  | succ k1 =>
   have H := HA.out
   clear HA
   simp only [isoglossref02_Upper.l0] at H
   by_cases c2 : x4_1 < (a0.size : Int)
   ·
    rw [if_pos c2] at H
    have c2b0 : decide (x4_1 < (a0.size : Int)) = true := decide_eq_true c2
    clear c2
    by_cases c3 : 0 ≤ x4_1
    ·
     rw [if_pos c3] at H
     have c3b0 : decide (0 ≤ x4_1) = true := decide_eq_true c3
     clear c3
     replace H := Option.bind_eq_some_iff.mp H
     obtain ⟨t145, A50, H⟩ := H
     have A5 := ak A50
     clear A50
     by_cases c6 : x3_1.length < 140737488355328
     ·
      rw [if_pos c6] at H
      have LMc6 := ak c6
      clear c6
      obtain ⟨y146, hy146⟩ : ∃ y_ : List Int, y_ = (x3_1 ++ [t145]) := ⟨_, rfl⟩
      replace H : (isoglossref02_Upper.l0 k1 a0 y146 (wrap64 (x4_1 + 1))) = some r := by first | (rw [hy146]; with_reducible exact H) | (have H2_ := (Option.bind_some _ _).symm.trans H; rw [hy146]; with_reducible exact H2_) | (have H2_ := (Option.bind_some _ _).symm.trans H; with_reducible exact H2_) | with_reducible exact H | (rw [hy146]; exact H) | exact H
      have Ny146 := ak hy146
      clear hy146
      have H' := ak H
      clear H
      have p4 : 0 ≤ (x4_1 : Int) := of_decide_eq_true (by first | (with_reducible assumption) | assumption)
      have q4 : x4_1 < (a0.size : Int) := of_decide_eq_true (by first | (with_reducible assumption) | assumption)
      have hx4 := bt_at a0 x4_1
      replace p4 := eq_true p4
      replace q4 := eq_true q4
      go_wp2_with (first | ((with_reducible refine gate_callee (f := 63) rfl ?_); refine goesL_ (some 15) rfl rfl Try.func63 (by kernel_rfl) rfl #[.int .u8 (bt a0 x4_1)] rfl mq ?_; (with_reducible refine (isoglossref02_upper.calls (bt a0 x4_1) t145 _ A5.out).mono ?_); rintro e w' ⟨rfl, ⟨nd, rfl⟩⟩; refine ⟨_, rfl, ?_⟩; (try clear A5)) | ((with_reducible refine gate_builtin (b := .append) (xs := #[.tmp 11, .tmp 16]) rfl ?_); at_builtin; refine Kd.R_append (Kd.int .u8) (w0 := w) w.heap.size rfl (.tmp 11) (.tmp 16) 83 5 (.int .u8 0) 1 rfl Try.underlying83 info5 rfl (by decide) (by omega) u3 x3_1 t145 [.int .u8 t145] (fun _ => True) (fun _ => False) rfl rfl ?aP (fun _ hk => hk.elim) ?aF ?aO ?aB ?aS ?aL ?_; (case aP => exact rfl); (case aB => exact bq); (case aF => exact (fun _ _ => trivial)); (case aO => exact (rx HO_3.out)); (case aS => exact (below_size bq)); (case aL => have := LMc6.out; omega); intro v147 w7 ho hb hg hat; rw [← Ny146.out] at ho; have n0_ := ak (hb); have n1_ := ak (ho); clear HB; clear HO_3; have HB := n0_; have HO148 := n1_; clear n0_ n1_; clear ho hb hg hat))
      go_roundg k1
      case measure => have := HK1.out; omega
      case rel => exact ⟨(y146), (wrap64 (x4_1 + 1)), (by first | rfl | (simp; done) | (simp [*]; done)), H', ⟨by have := HK1.out; omega⟩, ⟨(rx HO148.out)⟩, ⟨bq⟩⟩
     ·
      rw [if_neg c6] at H
      exact absurd H (by simp)
    ·
     rw [if_neg c3] at H
     exact absurd H (by simp)
   ·
    rw [if_neg c2] at H
    have c2b0 : decide (x4_1 < (a0.size : Int)) = false := decide_eq_false c2
    clear c2
    obtain rfl := Option.some.inj H
    have hcv8 := own_string (P := Try.prog) Try.underlying83 Try.underlying5 Try.underlying9 (Kd.own_of_R HO_3.out)
    go_wp2
    go_ret
    exact ⟨by first | rfl | (simp [errW_none, errW_some] <;> rfl) | (simp [*, errW_none, errW_some] <;> rfl), bq⟩

def isoglossref02_lower.f (a0 : Int) : Option (Int) := if a0 ≥ 65 then (if a0 ≤ 90 then (some ((((a0 - 65) % 256) + 97) % 256)) else (some a0)) else (some a0)
set_option maxHeartbeats 8000000 in
set_option maxRecDepth 100000 in
theorem isoglossref02_lower.calls (a0 : Int) (r : Int) (w : World) (h : isoglossref02_lower.f a0 = some r) :
  Calls Try.prog 64 #[.int .u8 a0] w fun e w' => e = .returned (.int .u8 r) ∧ Drawn0 w w' := by
 have H : (if a0 ≥ 65 then (if a0 ≤ 90 then (some ((((a0 - 65) % 256) + 97) % 256)) else (some a0)) else (some a0)) = some r := h
 clear h
 by_cases c2 : a0 ≥ 65
 ·
  rw [if_pos c2] at H
  have c2b0 : decide (65 ≤ a0) = true := decide_eq_true c2
  clear c2
  by_cases c3 : a0 ≤ 90
  ·
   rw [if_pos c3] at H
   have c3b0 : decide (a0 ≤ 90) = true := decide_eq_true c3
   clear c3
   obtain rfl := Option.some.inj H
   go_enter Try.func64, Try.ntmps64
   go_wp2
   go_ret
   exact ⟨by first | rfl | (simp; done) | (simp [*]; done), by repeat (first | exact Drawn0.refl _ | apply Drawn0.step)⟩
  ·
   rw [if_neg c3] at H
   have c3b0 : decide (a0 ≤ 90) = false := decide_eq_false c3
   clear c3
   obtain rfl := Option.some.inj H
   go_enter Try.func64, Try.ntmps64
   go_wp2
   go_ret
   exact ⟨by first | rfl | (simp; done) | (simp [*]; done), by repeat (first | exact Drawn0.refl _ | apply Drawn0.step)⟩
 ·
  rw [if_neg c2] at H
  have c2b0 : decide (65 ≤ a0) = false := decide_eq_false c2
  clear c2
  obtain rfl := Option.some.inj H
  go_enter Try.func64, Try.ntmps64
  go_wp2
  go_ret
  exact ⟨by first | rfl | (simp; done) | (simp [*]; done), by repeat (first | exact Drawn0.refl _ | apply Drawn0.step)⟩

def isoglossref02_Lower.l0 : Nat → ByteArray → List Int → Int → Option (ByteArray)
 | 0, _, _, _ => none
 | k + 1, x0, x3, x4 => if x4 < (x0.size : Int) then (if 0 ≤ x4 then ((isoglossref02_lower.f (bt x0 x4)).bind fun t149 => (if x3.length < 140737488355328 then (isoglossref02_Lower.l0 k x0 (x3 ++ [t149]) (wrap64 (x4 + 1))) else (none))) else (none)) else (some (strOfNums x3))
def isoglossref02_Lower.f (k : Nat) (a0 : ByteArray) : Option (ByteArray) := isoglossref02_Lower.l0 k a0 ([] : List Int) 0
set_option maxHeartbeats 8000000 in
set_option maxRecDepth 100000 in
theorem isoglossref02_Lower.calls (k : Nat) (a0 : ByteArray) (r : ByteArray) (w : World) (h : isoglossref02_Lower.f k a0 = some r) :
  Calls Try.prog 56 #[.string a0] w fun e w' => e = .returned (.string r) ∧ Below w.heap.size w w' := by
 have HB := ak (Below.refl w.heap.size w)
 have H : (isoglossref02_Lower.l0 k a0 ([] : List Int) 0) = some r := h
 clear h
 have H' := ak H
 clear H
 go_enter Try.func56, Try.ntmps56
 go_wp2
 go_loopg [3, 4] k (fun kq v3 v4 w' => ∃ (x3_1 : List Int) (x4_1 : Int), v4 = .int .i64 x4_1 ∧ Aside0 (isoglossref02_Lower.l0 kq a0 x3_1 x4_1 = some r) ∧ Aside0 (kq ≤ k) ∧ Aside0 (Kd.R (Kd.int .u8) 5 w' w.heap.size (fun _ => True) v3 x3_1) ∧ Aside0 (Below w.heap.size w w'))
 case atStart => exact ⟨(([] : List Int)), (0), (by first | rfl | (simp; done) | (simp [*]; done)), H', ⟨Nat.le_refl _⟩, ⟨by first | exact Kd.R_nil _ _ _ _ _ | exact Kd.N_nil _ _ _ _ _ | exact Kd.V_nil _ _ _ _ _ | exact Kd.Q_nil _ _ _ _ _ | exact Kd.S_nil _ _ _ _ _⟩, ⟨bq⟩⟩
 case round =>
  clear H'
  obtain ⟨x3_1, x4_1, rfl, HA, HK1, HO_3, HB⟩ := hrel
  cases gk with
  | zero => exact absurd HA.out (by simp [isoglossref02_Lower.l0])
  | succ k1 =>
   have H := HA.out
   clear HA
   simp only [isoglossref02_Lower.l0] at H
   by_cases c2 : x4_1 < (a0.size : Int)
   ·
    rw [if_pos c2] at H
    have c2b0 : decide (x4_1 < (a0.size : Int)) = true := decide_eq_true c2
    clear c2
    by_cases c3 : 0 ≤ x4_1
    ·
     rw [if_pos c3] at H
     have c3b0 : decide (0 ≤ x4_1) = true := decide_eq_true c3
     clear c3
     replace H := Option.bind_eq_some_iff.mp H
     obtain ⟨t149, A50, H⟩ := H
     have A5 := ak A50
     clear A50
     by_cases c6 : x3_1.length < 140737488355328
     ·
      rw [if_pos c6] at H
      have LMc6 := ak c6
      clear c6
      obtain ⟨y150, hy150⟩ : ∃ y_ : List Int, y_ = (x3_1 ++ [t149]) := ⟨_, rfl⟩
      replace H : (isoglossref02_Lower.l0 k1 a0 y150 (wrap64 (x4_1 + 1))) = some r := by first | (rw [hy150]; with_reducible exact H) | (have H2_ := (Option.bind_some _ _).symm.trans H; rw [hy150]; with_reducible exact H2_) | (have H2_ := (Option.bind_some _ _).symm.trans H; with_reducible exact H2_) | with_reducible exact H | (rw [hy150]; exact H) | exact H
      have Ny150 := ak hy150
      clear hy150
      have H' := ak H
      clear H
      have p4 : 0 ≤ (x4_1 : Int) := of_decide_eq_true (by first | (with_reducible assumption) | assumption)
      have q4 : x4_1 < (a0.size : Int) := of_decide_eq_true (by first | (with_reducible assumption) | assumption)
      have hx4 := bt_at a0 x4_1
      replace p4 := eq_true p4
      replace q4 := eq_true q4
      go_wp2_with (first | ((with_reducible refine gate_callee (f := 64) rfl ?_); refine goesL_ (some 15) rfl rfl Try.func64 (by kernel_rfl) rfl #[.int .u8 (bt a0 x4_1)] rfl mq ?_; (with_reducible refine (isoglossref02_lower.calls (bt a0 x4_1) t149 _ A5.out).mono ?_); rintro e w' ⟨rfl, ⟨nd, rfl⟩⟩; refine ⟨_, rfl, ?_⟩; (try clear A5)) | ((with_reducible refine gate_builtin (b := .append) (xs := #[.tmp 11, .tmp 16]) rfl ?_); at_builtin; refine Kd.R_append (Kd.int .u8) (w0 := w) w.heap.size rfl (.tmp 11) (.tmp 16) 83 5 (.int .u8 0) 1 rfl Try.underlying83 info5 rfl (by decide) (by omega) u3 x3_1 t149 [.int .u8 t149] (fun _ => True) (fun _ => False) rfl rfl ?aP (fun _ hk => hk.elim) ?aF ?aO ?aB ?aS ?aL ?_; (case aP => exact rfl); (case aB => exact bq); (case aF => exact (fun _ _ => trivial)); (case aO => exact (rx HO_3.out)); (case aS => exact (below_size bq)); (case aL => have := LMc6.out; omega); intro v151 w7 ho hb hg hat; rw [← Ny150.out] at ho; have n0_ := ak (hb); have n1_ := ak (ho); clear HB; clear HO_3; have HB := n0_; have HO152 := n1_; clear n0_ n1_; clear ho hb hg hat))
      go_roundg k1
      case measure => have := HK1.out; omega
      case rel => exact ⟨(y150), (wrap64 (x4_1 + 1)), (by first | rfl | (simp; done) | (simp [*]; done)), H', ⟨by have := HK1.out; omega⟩, ⟨(rx HO152.out)⟩, ⟨bq⟩⟩
     ·
      rw [if_neg c6] at H
      exact absurd H (by simp)
    ·
     rw [if_neg c3] at H
     exact absurd H (by simp)
   ·
    rw [if_neg c2] at H
    have c2b0 : decide (x4_1 < (a0.size : Int)) = false := decide_eq_false c2
    clear c2
    obtain rfl := Option.some.inj H
    have hcv8 := own_string (P := Try.prog) Try.underlying83 Try.underlying5 Try.underlying9 (Kd.own_of_R HO_3.out)
    go_wp2
    go_ret
    exact ⟨by first | rfl | (simp [errW_none, errW_some] <;> rfl) | (simp [*, errW_none, errW_some] <;> rfl), bq⟩

def isoglossref02_Title.f (k : Nat) (a0 : ByteArray) : Option (ByteArray) := if a0.toList = ([] : List UInt8) then (some (⟨#[]⟩ : ByteArray)) else (if 0 ≤ 1 then (if 1 ≤ (a0.size : Int) then ((isoglossref02_Upper.f k (a0.extract 0 1)).bind fun t153 => ((isoglossref02_Lower.f k (a0.extract 1 a0.size)).bind fun t154 => (if t153.size + t154.size ≤ 9223372036854775807 then (some (t153 ++ t154)) else (none)))) else (none)) else (none))
def isoglossref02_Title.T3 : Bool × List (List Nat × List Nat) := (true, [([], []), ([0], [0]), ([1], [1]), ([], []), ([3], [3]), ([4, 2], [4]), ([2, 5], [2, 5]), ([6, 5, 0, 1, 2, 3, 4, 5, 6], [6])])
def isoglossref02_Title.B3 : List Nat := [0, 1, 3, 0, 8, 31, 63, 127]
theorem isoglossref02_Title.tab3 : rtab .any (opsOf Try.f50 3) = isoglossref02_Title.T3 := by kernel_rfl
theorem isoglossref02_Title.bits3 : waitsOk isoglossref02_Title.T3.2 isoglossref02_Title.B3 = true := by kernel_rfl
set_option maxHeartbeats 8000000 in
set_option maxRecDepth 100000 in
theorem isoglossref02_Title.calls (k : Nat) (a0 : ByteArray) (r : ByteArray) (w : World) (h : isoglossref02_Title.f k a0 = some r) :
  Calls Try.prog 50 #[.string a0] w fun e w' => e = .returned (.string r) ∧ Below w.heap.size w w' := by
 have HB := ak (Below.refl w.heap.size w)
 have H : (if a0.toList = ([] : List UInt8) then (some (⟨#[]⟩ : ByteArray)) else (if 0 ≤ 1 then (if 1 ≤ (a0.size : Int) then ((isoglossref02_Upper.f k (a0.extract 0 1)).bind fun t153 => ((isoglossref02_Lower.f k (a0.extract 1 a0.size)).bind fun t154 => (if t153.size + t154.size ≤ 9223372036854775807 then (some (t153 ++ t154)) else (none)))) else (none)) else (none))) = some r := h
 clear h
 by_cases c2 : a0.toList = ([] : List UInt8)
 ·
  rw [if_pos c2] at H
  have c2b0 : (a0.toList == ([] : List UInt8)) = true := beq_iff_eq.mpr c2
  have c2b1 : (a0.toList != ([] : List UInt8)) = false := bne_eq_false_iff_eq.mpr c2
  have c2b2 : a0.toList.isEmpty = true := List.isEmpty_iff.mpr c2
  clear c2
  obtain rfl := Option.some.inj H
  go_enter Try.func50, Try.ntmps50
  go_wp2
  go_ret
  exact ⟨by first | rfl | (simp [errW_none, errW_some] <;> rfl) | (simp [*, errW_none, errW_some] <;> rfl), bq⟩
 ·
  rw [if_neg c2] at H
  have c2b0 : (a0.toList == ([] : List UInt8)) = false := beq_eq_false_iff_ne.mpr c2
  have c2b1 : (a0.toList != ([] : List UInt8)) = true := bne_iff_ne.mpr c2
  have c2b2 : a0.toList.isEmpty = false := List.isEmpty_eq_false_iff.mpr c2
  by_cases c3 : 0 ≤ 1
  ·
   rw [if_pos c3] at H
   have c3b0 := eq_true c3
   have c3b1 : decide (0 ≤ 1) = true := decide_eq_true c3
   clear c3
   by_cases c4 : 1 ≤ (a0.size : Int)
   ·
    rw [if_pos c4] at H
    have c4b0 := eq_true c4
    have c4b1 : decide (1 ≤ (a0.size : Int)) = true := decide_eq_true c4
    clear c4
    replace H := Option.bind_eq_some_iff.mp H
    obtain ⟨t153, A50, H⟩ := H
    have A5 := ak A50
    clear A50
    have c6b0 := eq_true (of_decide_eq_true (by first | (with_reducible assumption) | assumption) : 1 ≤ (a0.size : Int))
    replace H := Option.bind_eq_some_iff.mp H
    obtain ⟨t154, A70, H⟩ := H
    have A7 := ak A70
    clear A70
    by_cases c8 : t153.size + t154.size ≤ 9223372036854775807
    ·
     rw [if_pos c8] at H
     have c8b0 := eq_true c8
     have c8b1 : decide (t153.size + t154.size ≤ 9223372036854775807) = true := decide_eq_true c8
     try have c8b2 : (9223372036854775807 < t153.size + t154.size) = False := eq_false (Nat.not_lt.2 c8)
     obtain rfl := Option.some.inj H
     go_enter Try.func50, Try.ntmps50
     try go_wp2
     have n0_ := ak (below_drew1 HB.out)
     clear HB
     have HB := n0_
     clear n0_
     refine start_ (n := 8) (S := fun w' => True) (ds := []) #[false, false, false, false, false, false, false, false] (by kernel_rfl) rfl rfl trivial (fun hHeld => ?_); refine with_tabW isoglossref02_Title.tab3 isoglossref02_Title.bits3 (fun HT_ HW_ => ?_)
     generalize w.drew = w9 at HB hHeld ⊢
     refine pu 0 (some 5) (M 8 1) ?_
     refine pu 1 (some 6) (M 8 3) ?_
     refine pu 3 (some 8) (M 8 11) ?_
     refine pu 4 (some 9) (M 8 27) ?_
     refine one_ (i := 2) (N := some 7) (M 8 31) rfl rfl (one_of HT_.out (by kernel_rfl)) (by decide) (fun K hK => ?_)
     refine goes_ Try.func55 (by kernel_rfl) rfl #[.string (a0.extract 0 1)] (by rfl) rfl rfl mq ?_
     with_reducible refine (isoglossref02_Upper.calls k (a0.extract 0 1) t153 _ A5.out).mono ?_
     rintro e w10 ⟨rfl, hb⟩
     refine ⟨_, rfl, ?_⟩
     have n0_ := ak (below_step bq hb)
     clear HB
     have HB := n0_
     clear n0_
     (try clear hb)
     (try clear hb2)
     (try clear hk)
     (try clear hi)
     refine hK.out _ _ trivial (fun hHeld => ?_)
     clear hK K
     refine norm_ (a' := ?_) ?_ ?_
     rotate_left
     ·
      show Act.put _ (some 7) _ = _
      simp only [Act.put, pA, pB, pC, i64_w, i32_w]
      rfl
     refine one_ (i := 5) (N := some 10) (M 8 63) rfl rfl (one_of HT_.out (by kernel_rfl)) (by decide) (fun K hK => ?_)
     refine goes_ Try.func56 (by kernel_rfl) rfl #[.string (a0.extract 1 a0.size)] (by rfl) rfl rfl mq ?_
     with_reducible refine (isoglossref02_Lower.calls k (a0.extract 1 a0.size) t154 _ A7.out).mono ?_
     rintro e w11 ⟨rfl, hb⟩
     refine ⟨_, rfl, ?_⟩
     have n0_ := ak (below_step bq hb)
     clear HB
     have HB := n0_
     clear n0_
     (try clear hb)
     (try clear hb2)
     (try clear hk)
     (try clear hi)
     refine hK.out _ _ trivial (fun hHeld => ?_)
     clear hK K
     refine norm_ (a' := ?_) ?_ ?_
     rotate_left
     ·
      show Act.put _ (some 10) _ = _
      simp only [Act.put, pA, pB, pC, i64_w, i32_w]
      rfl
     refine pu 6 (some 11) (M 8 127) ?_
     refine pu 7 (some 2) (M 8 255) ?_
     refine done_ (done_of HT_.out (by kernel_rfl)) ?_
     try go_wp2
     go_ret
     exact ⟨by first | rfl | (simp [errW_none, errW_some] <;> rfl) | (simp [*, errW_none, errW_some] <;> rfl), bq⟩
    ·
     rw [if_neg c8] at H
     exact absurd H (by simp)
   ·
    rw [if_neg c4] at H
    exact absurd H (by simp)
  ·
   rw [if_neg c3] at H
   exact absurd H (by simp)

end Go.Proofs.Ytdjbanhoejegjaa.P
