/- Made by a program of this seat's own (shake.py, merge.py): what the claim leans on: P9, AsciiEv, AsciiLaws, PureFacts, RowTop, ParseS. -/
import Derived.Test.YtpmcfckechjppaaGreatDoorTa06
import Derived.WalkKit
import Derived.ProofKit
import Derived.OpenShut
import Derived.ShutString
import Derived.ChangeOld
import Derived.Below
import Derived.Shelf.Abstract
namespace Go.Proofs.YtpmcfckechjppaaGreatDoor.P
open Go.RowKit Go.Proofs.YtpmcfckechjppaaGreatDoorW.PrintWords Go.Proofs.YtpmcfckechjppaaGreatDoorW.PrintLast Go.Proofs.YtpmcfckechjppaaGreatDoorW.PrintMore
attribute [local go_sem] StrOrd.binOp_gtr StrOrd.binOp_leq max2_int min2_int max_two min_two max_three min_three max_four min_four   -- for this text's walks alone
set_option linter.unusedVariables false
set_option linter.unusedSimpArgs false
set_option maxRecDepth 100000
set_option maxHeartbeats 8000000
def isoglossref20_Matches.j0 : Nat → ByteArray → ByteArray → Bool → Bool → Option (Bool)
 | 0, _, _, _, _ => none
 | k + 1, x0, x1, x5, x15 => if x15 = true then (some x5) else ((isoglossref02_Lower.f k x0).bind fun t260 => ((isoglossref02_Lower.f k x1).bind fun t261 => (if t260.toList = t261.toList then (some true) else (if (t261.size : Int) > (t260.size : Int) then (if 0 ≤ (t260.size : Int) then (if (t260.size : Int) ≤ (t261.size : Int) then (if (t261.extract 0 ((t260.size : Int) : Int).toNat).toList = t260.toList then (if (t260.size : Int) < (t261.size : Int) then (some ((bt t261 (t260.size : Int)) == 45)) else (none)) else (some false)) else (none)) else (none)) else (some false)))))
def isoglossref20_Matches.f (k : Nat) (a0 : ByteArray) (a1 : ByteArray) : Option (Bool) := (isoglossref20_Basic.f k a0).bind fun t259 => (if t259 = true then (isoglossref20_Matches.j0 k a0 a1 t259 (a0.toList == ([42] : List UInt8))) else (isoglossref20_Matches.j0 k a0 a1 t259 true))
theorem isoglossref20_Matches.calls (k : Nat) (a0 : ByteArray) (a1 : ByteArray) (r : Bool) (w : World) (h : isoglossref20_Matches.f k a0 a1 = some r) :
 Calls Tryz.prog 51 #[.string a0, .string a1] w fun e w' => e = .returned (.bool r) ∧ Below w.heap.size w w' := by
 have HB := ak (Below.refl w.heap.size w); have H : ((isoglossref20_Basic.f k a0).bind fun t259 => (if t259 = true then (isoglossref20_Matches.j0 k a0 a1 t259 (a0.toList == ([42] : List UInt8))) else (isoglossref20_Matches.j0 k a0 a1 t259 true))) = some r := h; clear h; replace H := Option.bind_eq_some_iff.mp H; obtain ⟨t259, A30, H⟩ := H; have A3 := ak A30; clear A30; have HC4 := ak H; clear H; go_enter Tryz.func51, Tryz.ntmps51
 go_upto_region 2 with (first | ((with_reducible refine gate_callee (f := 16) rfl ?_); refine goesL_ (some 9) rfl rfl Tryz.func16 (by kernel_rfl) rfl #[.string a0] rfl mq ?_; (with_reducible refine (isoglossref20_Basic.calls k a0 t259 _ A3.out).mono ?_); rintro e w5 ⟨rfl, hb⟩; refine ⟨_, rfl, ?_⟩; have n0_ := ak (below_step bq hb); clear HB; have HB := n0_; clear n0_; (try clear hb); (try clear hb2); (try clear hk); (try clear hi); (try clear A3)))
 (try simp only [Act.put, pA, pB, pC])
 go_cut [15] (fun v15 wc => ∃ (kq : Nat) (Zl : Bool), v15 = .bool Zl ∧ Aside0 (isoglossref20_Matches.j0 kq a0 a1 t259 Zl = some r) ∧ Aside0 (kq ≤ k) ∧ Aside0 (Below w.heap.size w wc))
 case first =>
  have H := HC4.out; clear HC4; by_cases c6 : t259 = true
  ·
   subst c6; have H1 : (isoglossref20_Matches.j0 k a0 a1 true (a0.toList == ([42] : List UInt8))) = some r := by rw [if_pos rfl] at H; exact H
   clear H; have H := H1; clear H1; have H' := ak H; clear H; go_wp2
   go_meet
   case rel => exact ⟨_, ((a0.toList == ([42] : List UInt8))), (by first | rfl | (simp; done) | (simp [*]; done)), H', ⟨by first | omega | exact Nat.le_refl _⟩, ⟨bq⟩⟩
  ·
   replace c6 := Bool.eq_false_iff.mpr c6; subst c6; have H1 : (isoglossref20_Matches.j0 k a0 a1 false true) = some r := by rw [if_neg (show ¬ (false = true) by decide)] at H; exact H
   clear H; have H := H1; clear H1; have H' := ak H; clear H; go_wp2
   go_meet
   case rel => exact ⟨_, (true), (by first | rfl | (simp; done) | (simp [*]; done)), H', ⟨by first | omega | exact Nat.le_refl _⟩, ⟨bq⟩⟩
 case rest =>
  clear HC4; obtain ⟨kq, Zl, rfl, HA, HJ3, HB⟩ := hcut; cases kq with
  | zero => exact absurd HA.out (by simp [isoglossref20_Matches.j0])
  | succ kj3 =>
   have H := HA.out; clear HA; simp only [isoglossref20_Matches.j0] at H
   by_cases c7 : Zl = true
   ·
    subst c7; have H1 : (some t259) = some r := by rw [if_pos rfl] at H; exact H
    clear H; have H := H1; clear H1; obtain rfl := Option.some.inj H; go_wp2
    go_ret
    exact ⟨by first | rfl | (simp [errW_none, errW_some] <;> rfl) | (simp [*, errW_none, errW_some]; exact congrArg (· == 45) (bt_at _ ((_ : Nat) : Int) _)) | (simp [*, errW_none, errW_some] <;> rfl), bq⟩
   ·
    replace c7 := Bool.eq_false_iff.mpr c7; subst c7; have H1 : ((isoglossref02_Lower.f kj3 a0).bind fun t260 => ((isoglossref02_Lower.f kj3 a1).bind fun t261 => (if t260.toList = t261.toList then (some true) else (if (t261.size : Int) > (t260.size : Int) then (if 0 ≤ (t260.size : Int) then (if (t260.size : Int) ≤ (t261.size : Int) then (if (t261.extract 0 ((t260.size : Int) : Int).toNat).toList = t260.toList then (if (t260.size : Int) < (t261.size : Int) then (some ((bt t261 (t260.size : Int)) == 45)) else (none)) else (some false)) else (none)) else (none)) else (some false))))) = some r := by rw [if_neg (show ¬ (false = true) by decide)] at H; exact H
    clear H; have H := H1; clear H1; replace H := Option.bind_eq_some_iff.mp H; obtain ⟨t260, A80, H⟩ := H; have A8 := ak A80; clear A80; replace H := Option.bind_eq_some_iff.mp H; obtain ⟨t261, A90, H⟩ := H; have A9 := ak A90; clear A90; by_cases c10 : t260.toList = t261.toList
    ·
     rw [if_pos c10] at H
     have Zm : (t260.toList == t261.toList) = true := beq_iff_eq.mpr c10; have Zo : (t260.toList != t261.toList) = false := bne_eq_false_iff_eq.mpr c10; clear c10; obtain rfl := Option.some.inj H; go_wp2_with (first | ((with_reducible refine gate_callee (f := 29) rfl ?_); refine goesL_ (some 18) rfl rfl Tryz.func29 (by kernel_rfl) rfl #[.string a0] rfl mq ?_; (with_reducible refine (isoglossref02_Lower.calls kj3 a0 t260 _ A8.out).mono ?_); rintro e w11 ⟨rfl, hb⟩; refine ⟨_, rfl, ?_⟩; have n0_ := ak (below_step bq hb); clear HB; have HB := n0_; clear n0_; (try clear hb); (try clear hb2); (try clear hk); (try clear hi); (try clear A8)) | ((with_reducible refine gate_callee (f := 29) rfl ?_); refine goesL_ (some 20) rfl rfl Tryz.func29 (by kernel_rfl) rfl #[.string a1] rfl mq ?_; (with_reducible refine (isoglossref02_Lower.calls kj3 a1 t261 _ A9.out).mono ?_); rintro e w12 ⟨rfl, hb⟩; refine ⟨_, rfl, ?_⟩; have n0_ := ak (below_step bq hb); clear HB; have HB := n0_; clear n0_; (try clear hb); (try clear hb2); (try clear hk); (try clear hi); (try clear A9)))
     go_ret
     exact ⟨by first | rfl | (simp [errW_none, errW_some] <;> rfl) | (simp [*, errW_none, errW_some]; exact congrArg (· == 45) (bt_at _ ((_ : Nat) : Int) _)) | (simp [*, errW_none, errW_some] <;> rfl), bq⟩
    ·
     rw [if_neg c10] at H
     have Zm : (t260.toList == t261.toList) = false := beq_eq_false_iff_ne.mpr c10; have Zo : (t260.toList != t261.toList) = true := bne_iff_ne.mpr c10; by_cases c13 : (t261.size : Int) > (t260.size : Int)
     ·
      rw [if_pos c13] at H
      have Zp : decide ((t260.size : Int) < (t261.size : Int)) = true := decide_eq_true c13; have Zq : decide (t260.size < t261.size) = true := decide_eq_true (Int.ofNat_lt.mp c13); clear c13; by_cases c14 : 0 ≤ (t260.size : Int)
      ·
       rw [if_pos c14] at H
       have ZA := eq_true c14; have ZB : decide (0 ≤ (t260.size : Int)) = true := decide_eq_true c14; clear c14; by_cases c15 : (t260.size : Int) ≤ (t261.size : Int)
       ·
        rw [if_pos c15] at H
        have ZC := eq_true c15; have ZD : decide ((t260.size : Int) ≤ (t261.size : Int)) = true := decide_eq_true c15; clear c15; by_cases c16 : (t261.extract 0 ((t260.size : Int) : Int).toNat).toList = t260.toList
        ·
         rw [if_pos c16] at H
         have Zn : ((t261.extract 0 ((t260.size : Int) : Int).toNat).toList == t260.toList) = true := beq_iff_eq.mpr c16; have Zr : ((t261.extract 0 ((t260.size : Int) : Int).toNat).toList != t260.toList) = false := bne_eq_false_iff_eq.mpr c16; clear c16; by_cases c17 : (t260.size : Int) < (t261.size : Int)
         ·
          rw [if_pos c17] at H
          have Zs : decide ((t260.size : Int) < (t261.size : Int)) = true := decide_eq_true c17; have ZE : decide (t260.size < t261.size) = true := decide_eq_true (Int.ofNat_lt.mp c17); clear c17; obtain rfl := Option.some.inj H; go_wp2_with (first | ((with_reducible refine gate_callee (f := 29) rfl ?_); refine goesL_ (some 18) rfl rfl Tryz.func29 (by kernel_rfl) rfl #[.string a0] rfl mq ?_; (with_reducible refine (isoglossref02_Lower.calls kj3 a0 t260 _ A8.out).mono ?_); rintro e w19 ⟨rfl, hb⟩; refine ⟨_, rfl, ?_⟩; have n0_ := ak (below_step bq hb); clear HB; have HB := n0_; clear n0_; (try clear hb); (try clear hb2); (try clear hk); (try clear hi); (try clear A8)) | ((with_reducible refine gate_callee (f := 29) rfl ?_); refine goesL_ (some 20) rfl rfl Tryz.func29 (by kernel_rfl) rfl #[.string a1] rfl mq ?_; (with_reducible refine (isoglossref02_Lower.calls kj3 a1 t261 _ A9.out).mono ?_); rintro e w20 ⟨rfl, hb⟩; refine ⟨_, rfl, ?_⟩; have n0_ := ak (below_step bq hb); clear HB; have HB := n0_; clear n0_; (try clear hb); (try clear hb2); (try clear hk); (try clear hi); have p18 : 0 ≤ ((t260.size : Int) : Int) := of_decide_eq_true (by first | (with_reducible assumption) | assumption); have q18 : (t260.size : Int) < (t261.size : Int) := of_decide_eq_true (by first | (with_reducible assumption) | assumption); have hx18 := bt_at t261 (t260.size : Int); replace p18 := eq_true p18; replace q18 := eq_true q18; (try clear A9)))
          go_ret
          exact ⟨by first | rfl | (simp [errW_none, errW_some] <;> rfl) | (simp [*, errW_none, errW_some]; exact congrArg (· == 45) (bt_at _ ((_ : Nat) : Int) _)) | (simp [*, errW_none, errW_some] <;> rfl), bq⟩; all_goals (rename_i hq_; exact absurd (beq_iff_eq.mp Zn) hq_)
         ·
          rw [if_neg c17] at H
          exact absurd H (by simp)
        ·
         rw [if_neg c16] at H
         have Zn : ((t261.extract 0 ((t260.size : Int) : Int).toNat).toList == t260.toList) = false := beq_eq_false_iff_ne.mpr c16; have Zr : ((t261.extract 0 ((t260.size : Int) : Int).toNat).toList != t260.toList) = true := bne_iff_ne.mpr c16; obtain rfl := Option.some.inj H; go_wp2_with (first | ((with_reducible refine gate_callee (f := 29) rfl ?_); refine goesL_ (some 18) rfl rfl Tryz.func29 (by kernel_rfl) rfl #[.string a0] rfl mq ?_; (with_reducible refine (isoglossref02_Lower.calls kj3 a0 t260 _ A8.out).mono ?_); rintro e w21 ⟨rfl, hb⟩; refine ⟨_, rfl, ?_⟩; have n0_ := ak (below_step bq hb); clear HB; have HB := n0_; clear n0_; (try clear hb); (try clear hb2); (try clear hk); (try clear hi); (try clear A8)) | ((with_reducible refine gate_callee (f := 29) rfl ?_); refine goesL_ (some 20) rfl rfl Tryz.func29 (by kernel_rfl) rfl #[.string a1] rfl mq ?_; (with_reducible refine (isoglossref02_Lower.calls kj3 a1 t261 _ A9.out).mono ?_); rintro e w22 ⟨rfl, hb⟩; refine ⟨_, rfl, ?_⟩; have n0_ := ak (below_step bq hb); clear HB; have HB := n0_; clear n0_; (try clear hb); (try clear hb2); (try clear hk); (try clear hi); (try clear A9)))
         go_ret
         exact ⟨by first | rfl | (simp [errW_none, errW_some] <;> rfl) | (simp [*, errW_none, errW_some]; exact congrArg (· == 45) (bt_at _ ((_ : Nat) : Int) _)) | (simp [*, errW_none, errW_some] <;> rfl), bq⟩
       ·
        rw [if_neg c15] at H
        exact absurd H (by simp)
      ·
       rw [if_neg c14] at H
       exact absurd H (by simp)
     ·
      rw [if_neg c13] at H
      have Zp : decide ((t260.size : Int) < (t261.size : Int)) = false := decide_eq_false c13; have Zq : decide (t260.size < t261.size) = false := decide_eq_false (fun h => c13 (Int.ofNat_lt.mpr h)); clear c13; obtain rfl := Option.some.inj H; go_wp2_with (first | ((with_reducible refine gate_callee (f := 29) rfl ?_); refine goesL_ (some 18) rfl rfl Tryz.func29 (by kernel_rfl) rfl #[.string a0] rfl mq ?_; (with_reducible refine (isoglossref02_Lower.calls kj3 a0 t260 _ A8.out).mono ?_); rintro e w23 ⟨rfl, hb⟩; refine ⟨_, rfl, ?_⟩; have n0_ := ak (below_step bq hb); clear HB; have HB := n0_; clear n0_; (try clear hb); (try clear hb2); (try clear hk); (try clear hi); (try clear A8)) | ((with_reducible refine gate_callee (f := 29) rfl ?_); refine goesL_ (some 20) rfl rfl Tryz.func29 (by kernel_rfl) rfl #[.string a1] rfl mq ?_; (with_reducible refine (isoglossref02_Lower.calls kj3 a1 t261 _ A9.out).mono ?_); rintro e w24 ⟨rfl, hb⟩; refine ⟨_, rfl, ?_⟩; have n0_ := ak (below_step bq hb); clear HB; have HB := n0_; clear n0_; (try clear hb); (try clear hb2); (try clear hk); (try clear hi); (try clear A9)))
      go_ret
      exact ⟨by first | rfl | (simp [errW_none, errW_some] <;> rfl) | (simp [*, errW_none, errW_some]; exact congrArg (· == 45) (bt_at _ ((_ : Nat) : Int) _)) | (simp [*, errW_none, errW_some] <;> rfl), bq⟩

mutual
def isoglossref20_Filter.l0 : Nat → List ByteArray → List ByteArray → Bool → List ByteArray → Int → Option (List ByteArray)
 | 0, _, _, _, _, _ => none
 | k + 1, x0, x1, x2, x7, x8 => if x8 < (x1.length : Int) then (isoglossref20_Filter.l1 k x0 x1 x2 x7 x8 false 0) else (some x7)
def isoglossref20_Filter.l1 : Nat → List ByteArray → List ByteArray → Bool → List ByteArray → Int → Bool → Int → Option (List ByteArray)
 | 0, _, _, _, _, _, _, _ => none
 | k + 1, x0, x1, x2, x7, x8, x9, x10 => if x10 < (x0.length : Int) then (if x2 = true then (if x9 = true then (isoglossref20_Filter.l1 k x0 x1 x2 x7 x8 true (wrap64 (x10 + 1))) else (if 0 ≤ x10 then (if 0 ≤ x8 then (if x8 < (x1.length : Int) then ((isoglossref20_MatchesExtended.f k (rdOf ByteArray.empty x0 x10) (rdOf ByteArray.empty x1 x8)).bind fun t268 => (isoglossref20_Filter.l1 k x0 x1 x2 x7 x8 t268 (wrap64 (x10 + 1)))) else (none)) else (none)) else (none))) else (if x9 = true then (isoglossref20_Filter.l1 k x0 x1 x2 x7 x8 true (wrap64 (x10 + 1))) else (if 0 ≤ x10 then (if 0 ≤ x8 then (if x8 < (x1.length : Int) then ((isoglossref20_Matches.f k (rdOf ByteArray.empty x0 x10) (rdOf ByteArray.empty x1 x8)).bind fun t271 => (isoglossref20_Filter.l1 k x0 x1 x2 x7 x8 t271 (wrap64 (x10 + 1)))) else (none)) else (none)) else (none)))) else (if x9 = true then (if 0 ≤ x8 then (if x8 < (x1.length : Int) then (if x7.length < 8796093022208 then (isoglossref20_Filter.l0 k x0 x1 x2 (x7 ++ [rdOf ByteArray.empty x1 x8]) (wrap64 (x8 + 1))) else (none)) else (none)) else (none)) else (isoglossref20_Filter.l0 k x0 x1 x2 x7 (wrap64 (x8 + 1))))
end
def isoglossref20_Filter.f (k : Nat) (l0 : List ByteArray) (l1 : List ByteArray) (a2 : Bool) : Option (List ByteArray) := isoglossref20_Filter.l0 k l0 l1 a2 ([] : List ByteArray) 0
def isoglossref20_Filter.T10 : Bool × List (List Nat × List Nat) := (true, [([], []), ([0], [0]), ([1], [1]), ([1], [1]), ([2, 3, 1], [1, 2, 3]), ([4, 1], [1, 4]), ([1], [1]), ([1], [1]), ([6, 7, 1], [1, 6, 7]), ([8, 1], [1, 8]), ([5, 9, 1, 1], [1, 5, 9]), ([1, 10], [1, 10]), ([11, 10, 0, 1, 2, 3, 4, 5, 6, 7, 8, 9, 10, 11], [0, 11])])
def isoglossref20_Filter.B10 : List Nat := [0, 1, 3, 3, 15, 31, 3, 3, 195, 451, 1023, 2047, 4095]
theorem isoglossref20_Filter.tab10 : rtab .any (opsOf Tryz.f21 10) = isoglossref20_Filter.T10 := by kernel_rfl
theorem isoglossref20_Filter.bits10 : waitsOk isoglossref20_Filter.T10.2 isoglossref20_Filter.B10 = true := by kernel_rfl
def isoglossref20_Filter.T11 : Bool × List (List Nat × List Nat) := (true, [([], []), ([0], [0]), ([1], [1]), ([1], [1]), ([2, 3, 1], [1, 2, 3]), ([4, 1], [1, 4]), ([1], [1]), ([1], [1]), ([6, 7, 1], [1, 6, 7]), ([8, 1], [1, 8]), ([5, 9, 1, 1], [1, 5, 9]), ([1, 10], [1, 10]), ([11, 10, 0, 1, 2, 3, 4, 5, 6, 7, 8, 9, 10, 11], [0, 11])])
def isoglossref20_Filter.B11 : List Nat := [0, 1, 3, 3, 15, 31, 3, 3, 195, 451, 1023, 2047, 4095]
theorem isoglossref20_Filter.tab11 : rtab .any (opsOf Tryz.f21 11) = isoglossref20_Filter.T11 := by kernel_rfl
theorem isoglossref20_Filter.bits11 : waitsOk isoglossref20_Filter.T11.2 isoglossref20_Filter.B11 = true := by kernel_rfl
theorem isoglossref20_Filter.calls (k : Nat) (A0 : Option Addr) (c0 : Nat) (l0 : List ByteArray) (A1 : Option Addr) (c1 : Nat) (l1 : List ByteArray) (a2 : Bool) (r : List ByteArray) (w : World) (hr0 : Kd.C Kd.string w A0 l0.length l0) (hc0 : l0.length ≤ c0) (hr1 : Kd.C Kd.string w A1 l1.length l1) (hc1 : l1.length ≤ c1) (h : isoglossref20_Filter.f k l0 l1 a2 = some r) :
 Calls Tryz.prog 21 #[.slice A0 l0.length c0, .slice A1 l1.length c1, .bool a2] w fun e w' => ∃ v0_ : Value, e = .returned (v0_) ∧ Kd.R Kd.string 9 w' w.heap.size (fun _ => True) v0_ r ∧ Below w.heap.size w w' := by
 have HR0 := ak hr0; have HC0 := ak hc0; clear hr0 hc0; have HR1 := ak hr1; have HC1 := ak hc1; clear hr1 hc1; have HB := ak (Below.refl w.heap.size w); have H : (isoglossref20_Filter.l0 k l0 l1 a2 ([] : List ByteArray) 0) = some r := h; clear h; have H' := ak H; clear H; go_enter Tryz.func21, Tryz.ntmps21
 go_wp2
 go_loopg [7, 8] k (fun kq v7 v8 w' => ∃ (Zd : List ByteArray) (Za : Int), v8 = .int .i64 Za ∧ Aside0 (isoglossref20_Filter.l0 kq l0 l1 a2 Zd Za = some r) ∧ Aside0 (kq ≤ k) ∧ Aside0 (Kd.R Kd.string 9 w' w.heap.size (fun _ => True) v7 Zd) ∧ Aside0 (Below w.heap.size w w'))
 case atStart => exact ⟨(([] : List ByteArray)), (0), (by first | rfl | (simp; done) | (simp [*]; done)), H', ⟨Nat.le_refl _⟩, ⟨by first | exact Kd.R_nil _ _ _ _ _ | exact Kd.N_nil _ _ _ _ _ | exact Kd.V_nil _ _ _ _ _ | exact Kd.Q_nil _ _ _ _ _ | exact Kd.S_nil _ _ _ _ _⟩, ⟨bq⟩⟩
 case round =>
  clear H'; obtain ⟨Zd, Za, rfl, HA, HK1, Zc, HB⟩ := hrel; cases gk with
  | zero => exact absurd HA.out (by simp [isoglossref20_Filter.l0])
  | succ k1 =>
   have H := HA.out; clear HA; simp only [isoglossref20_Filter.l0] at H
   by_cases c4 : Za < (l1.length : Int)
   ·
    rw [if_pos c4] at H
    have c4b0 : decide (Za < (l1.length : Int)) = true := decide_eq_true c4; clear c4; have H' := ak H; clear H; go_wp2
    go_loopg [9, 10] k1 (fun kq v9 v10 w' => ∃ (Zi : Bool) (Zb : Int), v9 = .bool Zi ∧ v10 = .int .i64 Zb ∧ Aside0 (isoglossref20_Filter.l1 kq l0 l1 a2 Zd Za Zi Zb = some r) ∧ Aside0 (kq ≤ k1) ∧ Aside0 (Kd.R Kd.string 9 w' w.heap.size (fun _ => True) u7 Zd) ∧ Aside0 (Below w.heap.size w w'))
    case atStart => exact ⟨(false), (0), (by first | rfl | (simp; done) | (simp [*]; done)), (by first | rfl | (simp; done) | (simp [*]; done)), H', ⟨Nat.le_refl _⟩, ⟨(rx Zc.out)⟩, ⟨bq⟩⟩
    case round =>
     clear H' c4b0; obtain ⟨Zi, Zb, rfl, rfl, HA, HK2, Zc, HB⟩ := hrel; cases gk with
     | zero => exact absurd HA.out (by simp [isoglossref20_Filter.l1])
     | succ k2 =>
      have H := HA.out; clear HA; simp only [isoglossref20_Filter.l1] at H
      by_cases c5 : Zb < (l0.length : Int)
      ·
       rw [if_pos c5] at H
       have c5b0 : decide (Zb < (l0.length : Int)) = true := decide_eq_true c5; clear c5; by_cases c6 : a2 = true
       ·
        subst c6; have H1 : (if Zi = true then (isoglossref20_Filter.l1 k2 l0 l1 true Zd Za true (wrap64 (Zb + 1))) else (if 0 ≤ Zb then (if 0 ≤ Za then (if Za < (l1.length : Int) then ((isoglossref20_MatchesExtended.f k2 (rdOf ByteArray.empty l0 Zb) (rdOf ByteArray.empty l1 Za)).bind fun t268 => (isoglossref20_Filter.l1 k2 l0 l1 true Zd Za t268 (wrap64 (Zb + 1)))) else (none)) else (none)) else (none))) = some r := by rw [if_pos rfl] at H; exact H
        clear H; have H := H1; clear H1; by_cases c7 : Zi = true
        ·
         subst c7; have H1 : (isoglossref20_Filter.l1 k2 l0 l1 true Zd Za true (wrap64 (Zb + 1))) = some r := by rw [if_pos rfl] at H; exact H
         clear H; have H := H1; clear H1; have H' := ak H; clear H; try go_wp2
         have n0_ := ak (Kd.R_drew Zc.out); have n1_ := ak (below_drew1 HB.out); clear Zc HB; have Zc := n0_; have HB := n1_; clear n0_ n1_; refine start_ (n := 13) (S := fun w' => True) (ds := []) #[false, false, false, false, false, false, false, false, false, false, false, false, false] (by kernel_rfl) rfl rfl trivial (fun hHeld => ?_); refine with_tabW isoglossref20_Filter.tab10 isoglossref20_Filter.bits10 (fun HT_ HW_ => ?_); generalize wr.drew = w8 at Zc HB hHeld ⊢
         refine pu 0 (some 24) (M 13 1) ?_; refine pu 1 (some 25) (M 13 3) ?_; refine pn 2 (some 26) (M 13 7) ?_; refine pn 3 (some 27) (M 13 15) ?_; refine pn 4 (some 28) (M 13 31) ?_; refine pn 5 (some 29) (M 13 63) ?_; refine pn 6 (some 30) (M 13 127) ?_; refine pn 7 (some 31) (M 13 255) ?_; refine pn 8 (some 32) (M 13 511) ?_; refine pn 9 (some 33) (M 13 1023) ?_; refine pn 10 (some 34) (M 13 2047) ?_; refine pu 11 (some 35) (M 13 4095) ?_; refine pu 12 (some 9) (M 13 8191) ?_; refine done_ (done_of HT_.out (by kernel_rfl)) ?_; try go_wp2
         go_roundg k2
         case measure => have := HK1.out; have := HK2.out; omega
         case rel => exact ⟨(true), (wrap64 (Zb + 1)), (by first | rfl | (simp; done) | (simp [*]; done)), (by first | rfl | (simp; done) | (simp [*]; done)), H', ⟨by have := HK1.out; have := HK2.out; omega⟩, ⟨(rx Zc.out)⟩, ⟨bq⟩⟩
        ·
         replace c7 := Bool.eq_false_iff.mpr c7; subst c7; have H1 : (if 0 ≤ Zb then (if 0 ≤ Za then (if Za < (l1.length : Int) then ((isoglossref20_MatchesExtended.f k2 (rdOf ByteArray.empty l0 Zb) (rdOf ByteArray.empty l1 Za)).bind fun t268 => (isoglossref20_Filter.l1 k2 l0 l1 true Zd Za t268 (wrap64 (Zb + 1)))) else (none)) else (none)) else (none)) = some r := by rw [if_neg (show ¬ (false = true) by decide)] at H; exact H
         clear H; have H := H1; clear H1; by_cases c9 : 0 ≤ Zb
         ·
          rw [if_pos c9] at H
          have c9b0 : decide (0 ≤ Zb) = true := decide_eq_true c9; clear c9; by_cases c10 : 0 ≤ Za
          ·
           rw [if_pos c10] at H
           have Zm : decide (0 ≤ Za) = true := decide_eq_true c10; clear c10; by_cases c11 : Za < (l1.length : Int)
           ·
            rw [if_pos c11] at H
            have ZF : decide (Za < (l1.length : Int)) = true := decide_eq_true c11; clear c11; replace H := Option.bind_eq_some_iff.mp H; obtain ⟨t268, A120, H⟩ := H; have A12 := ak A120; clear A120; have H' := ak H; clear H; try go_wp2
            have n0_ := ak (Kd.R_drew Zc.out); have n1_ := ak (below_drew1 HB.out); clear Zc HB; have Zc := n0_; have HB := n1_; clear n0_ n1_; have p266 : 0 ≤ (Zb : Int) := of_decide_eq_true (by first | (with_reducible assumption) | assumption); have q266 : Zb < (l0.length : Int) := of_decide_eq_true (by first | (with_reducible assumption) | assumption); obtain ⟨Zt, e266, Ze⟩ := Kd.at_string HR0.out Zb p266 q266; have hw266_0 := Ze; cases e266; replace Ze := (HB.out.cell (World.block_lt_of_cell? w _ Ze)).trans Ze; replace p266 := eq_true p266; replace q266 := eq_true q266; have p267 : 0 ≤ (Za : Int) := of_decide_eq_true (by first | (with_reducible assumption) | assumption); have q267 : Za < (l1.length : Int) := of_decide_eq_true (by first | (with_reducible assumption) | assumption); obtain ⟨Zu, e267, Zf⟩ := Kd.at_string HR1.out Za p267 q267; have hw267_0 := Zf; cases e267; replace Zf := (HB.out.cell (World.block_lt_of_cell? w _ Zf)).trans Zf; replace p267 := eq_true p267; replace q267 := eq_true q267; refine start_ (n := 13) (S := fun w' => w'.cell? (Zt.add (Zb).toNat) = some (.string (rdOf ByteArray.empty l0 Zb)) ∧ w'.cell? (Zu.add (Za).toNat) = some (.string (rdOf ByteArray.empty l1 Za))) (ds := []) #[false, false, false, false, false, false, false, false, false, false, false, false, false] (by kernel_rfl) rfl rfl ⟨((HB.out.cell (World.block_lt_of_cell? w _ hw266_0)).trans hw266_0), ((HB.out.cell (World.block_lt_of_cell? w _ hw267_0)).trans hw267_0)⟩ (fun hHeld => ?_); refine with_tabW isoglossref20_Filter.tab10 isoglossref20_Filter.bits10 (fun HT_ HW_ => ?_); generalize wr.drew = w13 at Zc HB Ze Zf hHeld ⊢
            refine pu 0 (some 24) (M 13 1) ?_; refine pu 1 (some 25) (M 13 3) ?_; refine pu 2 (some 26) (M 13 7) ?_; refine pu 3 (some 27) (M 13 15) ?_; refine pu 4 (some 28) (M 13 31) ?_; refine pu 6 (some 30) (M 13 95) ?_; refine pu 7 (some 31) (M 13 223) ?_; refine pu 8 (some 32) (M 13 479) ?_; refine take_ (i := 5) (N := some 29) (v := ?_) (a' := ?_) (M 13 511) rfl rfl (take_ofW HT_.out HW_.out (by kernel_rfl)) (fun _ _ _ h => h) (Or.inl ⟨by rfl, ?_⟩) hHeld ?_ ?_; rotate_left
            ·
             rintro w' ⟨s0, s1⟩; go_simp; with_reducible rfl
            rotate_left
            ·
             simp only [Act.put, pA, pB, pC, i64_w, i32_w]; rfl
            refine take_ (i := 9) (N := some 33) (v := ?_) (a' := ?_) (M 13 1023) rfl rfl (take_ofW HT_.out HW_.out (by kernel_rfl)) (fun _ _ _ h => h) (Or.inl ⟨by rfl, ?_⟩) hHeld ?_ ?_; rotate_left
            ·
             rintro w' ⟨s0, s1⟩; go_simp; with_reducible rfl
            rotate_left
            ·
             simp only [Act.put, pA, pB, pC, i64_w, i32_w]; rfl
            refine one_ (i := 10) (N := some 34) (M 13 2047) rfl rfl (one_of HT_.out (by kernel_rfl)) (by decide) (fun K hK => ?_); refine goes_ Tryz.func50 (by kernel_rfl) rfl #[.string (rdOf ByteArray.empty l0 Zb), .string (rdOf ByteArray.empty l1 Za)] (by rfl) rfl rfl mq ?_; with_reducible refine (isoglossref20_MatchesExtended.calls k2 (rdOf ByteArray.empty l0 Zb) (rdOf ByteArray.empty l1 Za) t268 _ A12.out).mono ?_
            rintro e w14 ⟨rfl, hb⟩; refine ⟨_, rfl, ?_⟩; have n0_ := ak (Kd.R_below (rx Zc.out) hb); have n1_ := ak (below_step bq hb); clear Zc HB; have Zc := n0_; have HB := n1_; clear n0_ n1_; (try clear hb)
            (try clear hb2)
            (try clear hk)
            (try clear hi)
            refine hK.out _ _ ⟨((HB.out.cell (World.block_lt_of_cell? w _ hw266_0)).trans hw266_0), ((HB.out.cell (World.block_lt_of_cell? w _ hw267_0)).trans hw267_0)⟩ (fun hHeld => ?_); clear hK K; refine norm_ (a' := ?_) ?_ ?_; rotate_left
            ·
             show Act.put _ (some 34) _ = _
             simp only [Act.put, pA, pB, pC, i64_w, i32_w]; rfl
            refine pu 11 (some 35) (M 13 4095) ?_; refine pu 12 (some 9) (M 13 8191) ?_; refine done_ (done_of HT_.out (by kernel_rfl)) ?_; try go_wp2
            go_roundg k2
            case measure => have := HK1.out; have := HK2.out; omega
            case rel => exact ⟨(t268), (wrap64 (Zb + 1)), (by first | rfl | (simp; done) | (simp [*]; done)), (by first | rfl | (simp; done) | (simp [*]; done)), H', ⟨by have := HK1.out; have := HK2.out; omega⟩, ⟨(rx Zc.out)⟩, ⟨bq⟩⟩
           ·
            rw [if_neg c11] at H
            exact absurd H (by simp)
          ·
           rw [if_neg c10] at H
           exact absurd H (by simp)
         ·
          rw [if_neg c9] at H
          exact absurd H (by simp)
       ·
        replace c6 := Bool.eq_false_iff.mpr c6; subst c6; have H1 : (if Zi = true then (isoglossref20_Filter.l1 k2 l0 l1 false Zd Za true (wrap64 (Zb + 1))) else (if 0 ≤ Zb then (if 0 ≤ Za then (if Za < (l1.length : Int) then ((isoglossref20_Matches.f k2 (rdOf ByteArray.empty l0 Zb) (rdOf ByteArray.empty l1 Za)).bind fun t271 => (isoglossref20_Filter.l1 k2 l0 l1 false Zd Za t271 (wrap64 (Zb + 1)))) else (none)) else (none)) else (none))) = some r := by rw [if_neg (show ¬ (false = true) by decide)] at H; exact H
        clear H; have H := H1; clear H1; by_cases c15 : Zi = true
        ·
         subst c15; have H1 : (isoglossref20_Filter.l1 k2 l0 l1 false Zd Za true (wrap64 (Zb + 1))) = some r := by rw [if_pos rfl] at H; exact H
         clear H; have H := H1; clear H1; have H' := ak H; clear H; try go_wp2
         have n0_ := ak (Kd.R_drew Zc.out); have n1_ := ak (below_drew1 HB.out); clear Zc HB; have Zc := n0_; have HB := n1_; clear n0_ n1_; refine start_ (n := 13) (S := fun w' => True) (ds := []) #[false, false, false, false, false, false, false, false, false, false, false, false, false] (by kernel_rfl) rfl rfl trivial (fun hHeld => ?_); refine with_tabW isoglossref20_Filter.tab11 isoglossref20_Filter.bits11 (fun HT_ HW_ => ?_); generalize wr.drew = w16 at Zc HB hHeld ⊢
         refine pu 0 (some 36) (M 13 1) ?_; refine pu 1 (some 37) (M 13 3) ?_; refine pn 2 (some 38) (M 13 7) ?_; refine pn 3 (some 39) (M 13 15) ?_; refine pn 4 (some 40) (M 13 31) ?_; refine pn 5 (some 41) (M 13 63) ?_; refine pn 6 (some 42) (M 13 127) ?_; refine pn 7 (some 43) (M 13 255) ?_; refine pn 8 (some 44) (M 13 511) ?_; refine pn 9 (some 45) (M 13 1023) ?_; refine pn 10 (some 46) (M 13 2047) ?_; refine pu 11 (some 47) (M 13 4095) ?_; refine pu 12 (some 9) (M 13 8191) ?_; refine done_ (done_of HT_.out (by kernel_rfl)) ?_; try go_wp2
         go_roundg k2
         case measure => have := HK1.out; have := HK2.out; omega
         case rel => exact ⟨(true), (wrap64 (Zb + 1)), (by first | rfl | (simp; done) | (simp [*]; done)), (by first | rfl | (simp; done) | (simp [*]; done)), H', ⟨by have := HK1.out; have := HK2.out; omega⟩, ⟨(rx Zc.out)⟩, ⟨bq⟩⟩
        ·
         replace c15 := Bool.eq_false_iff.mpr c15; subst c15; have H1 : (if 0 ≤ Zb then (if 0 ≤ Za then (if Za < (l1.length : Int) then ((isoglossref20_Matches.f k2 (rdOf ByteArray.empty l0 Zb) (rdOf ByteArray.empty l1 Za)).bind fun t271 => (isoglossref20_Filter.l1 k2 l0 l1 false Zd Za t271 (wrap64 (Zb + 1)))) else (none)) else (none)) else (none)) = some r := by rw [if_neg (show ¬ (false = true) by decide)] at H; exact H
         clear H; have H := H1; clear H1; by_cases c17 : 0 ≤ Zb
         ·
          rw [if_pos c17] at H
          have Zs : decide (0 ≤ Zb) = true := decide_eq_true c17; clear c17; by_cases c18 : 0 ≤ Za
          ·
           rw [if_pos c18] at H
           have ZG : decide (0 ≤ Za) = true := decide_eq_true c18; clear c18; by_cases c19 : Za < (l1.length : Int)
           ·
            rw [if_pos c19] at H
            have ZH : decide (Za < (l1.length : Int)) = true := decide_eq_true c19; clear c19; replace H := Option.bind_eq_some_iff.mp H; obtain ⟨t271, A200, H⟩ := H; have A20 := ak A200; clear A200; have H' := ak H; clear H; try go_wp2
            have n0_ := ak (Kd.R_drew Zc.out); have n1_ := ak (below_drew1 HB.out); clear Zc HB; have Zc := n0_; have HB := n1_; clear n0_ n1_; have p269 : 0 ≤ (Zb : Int) := of_decide_eq_true (by first | (with_reducible assumption) | assumption); have q269 : Zb < (l0.length : Int) := of_decide_eq_true (by first | (with_reducible assumption) | assumption); obtain ⟨Zv, e269, Zg⟩ := Kd.at_string HR0.out Zb p269 q269; have hw269_0 := Zg; cases e269; replace Zg := (HB.out.cell (World.block_lt_of_cell? w _ Zg)).trans Zg; replace p269 := eq_true p269; replace q269 := eq_true q269; have p270 : 0 ≤ (Za : Int) := of_decide_eq_true (by first | (with_reducible assumption) | assumption); have q270 : Za < (l1.length : Int) := of_decide_eq_true (by first | (with_reducible assumption) | assumption); obtain ⟨Zw, e270, Zh⟩ := Kd.at_string HR1.out Za p270 q270; have hw270_0 := Zh; cases e270; replace Zh := (HB.out.cell (World.block_lt_of_cell? w _ Zh)).trans Zh; replace p270 := eq_true p270; replace q270 := eq_true q270; refine start_ (n := 13) (S := fun w' => w'.cell? (Zv.add (Zb).toNat) = some (.string (rdOf ByteArray.empty l0 Zb)) ∧ w'.cell? (Zw.add (Za).toNat) = some (.string (rdOf ByteArray.empty l1 Za))) (ds := []) #[false, false, false, false, false, false, false, false, false, false, false, false, false] (by kernel_rfl) rfl rfl ⟨((HB.out.cell (World.block_lt_of_cell? w _ hw269_0)).trans hw269_0), ((HB.out.cell (World.block_lt_of_cell? w _ hw270_0)).trans hw270_0)⟩ (fun hHeld => ?_); refine with_tabW isoglossref20_Filter.tab11 isoglossref20_Filter.bits11 (fun HT_ HW_ => ?_); generalize wr.drew = w21 at Zc HB Zg Zh hHeld ⊢
            refine pu 0 (some 36) (M 13 1) ?_; refine pu 1 (some 37) (M 13 3) ?_; refine pu 2 (some 38) (M 13 7) ?_; refine pu 3 (some 39) (M 13 15) ?_; refine pu 4 (some 40) (M 13 31) ?_; refine pu 6 (some 42) (M 13 95) ?_; refine pu 7 (some 43) (M 13 223) ?_; refine pu 8 (some 44) (M 13 479) ?_; refine take_ (i := 5) (N := some 41) (v := ?_) (a' := ?_) (M 13 511) rfl rfl (take_ofW HT_.out HW_.out (by kernel_rfl)) (fun _ _ _ h => h) (Or.inl ⟨by rfl, ?_⟩) hHeld ?_ ?_; rotate_left
            ·
             rintro w' ⟨s0, s1⟩; go_simp; with_reducible rfl
            rotate_left
            ·
             simp only [Act.put, pA, pB, pC, i64_w, i32_w]; rfl
            refine take_ (i := 9) (N := some 45) (v := ?_) (a' := ?_) (M 13 1023) rfl rfl (take_ofW HT_.out HW_.out (by kernel_rfl)) (fun _ _ _ h => h) (Or.inl ⟨by rfl, ?_⟩) hHeld ?_ ?_; rotate_left
            ·
             rintro w' ⟨s0, s1⟩; go_simp; with_reducible rfl
            rotate_left
            ·
             simp only [Act.put, pA, pB, pC, i64_w, i32_w]; rfl
            refine one_ (i := 10) (N := some 46) (M 13 2047) rfl rfl (one_of HT_.out (by kernel_rfl)) (by decide) (fun K hK => ?_); refine goes_ Tryz.func51 (by kernel_rfl) rfl #[.string (rdOf ByteArray.empty l0 Zb), .string (rdOf ByteArray.empty l1 Za)] (by rfl) rfl rfl mq ?_; with_reducible refine (isoglossref20_Matches.calls k2 (rdOf ByteArray.empty l0 Zb) (rdOf ByteArray.empty l1 Za) t271 _ A20.out).mono ?_
            rintro e w22 ⟨rfl, hb⟩; refine ⟨_, rfl, ?_⟩; have n0_ := ak (Kd.R_below (rx Zc.out) hb); have n1_ := ak (below_step bq hb); clear Zc HB; have Zc := n0_; have HB := n1_; clear n0_ n1_; (try clear hb)
            (try clear hb2)
            (try clear hk)
            (try clear hi)
            refine hK.out _ _ ⟨((HB.out.cell (World.block_lt_of_cell? w _ hw269_0)).trans hw269_0), ((HB.out.cell (World.block_lt_of_cell? w _ hw270_0)).trans hw270_0)⟩ (fun hHeld => ?_); clear hK K; refine norm_ (a' := ?_) ?_ ?_; rotate_left
            ·
             show Act.put _ (some 46) _ = _
             simp only [Act.put, pA, pB, pC, i64_w, i32_w]; rfl
            refine pu 11 (some 47) (M 13 4095) ?_; refine pu 12 (some 9) (M 13 8191) ?_; refine done_ (done_of HT_.out (by kernel_rfl)) ?_; try go_wp2
            go_roundg k2
            case measure => have := HK1.out; have := HK2.out; omega
            case rel => exact ⟨(t271), (wrap64 (Zb + 1)), (by first | rfl | (simp; done) | (simp [*]; done)), (by first | rfl | (simp; done) | (simp [*]; done)), H', ⟨by have := HK1.out; have := HK2.out; omega⟩, ⟨(rx Zc.out)⟩, ⟨bq⟩⟩
           ·
            rw [if_neg c19] at H
            exact absurd H (by simp)
          ·
           rw [if_neg c18] at H
           exact absurd H (by simp)
         ·
          rw [if_neg c17] at H
          exact absurd H (by simp)
      ·
       rw [if_neg c5] at H
       have c5b0 : decide (Zb < (l0.length : Int)) = false := decide_eq_false c5; clear c5; by_cases c23 : Zi = true
       ·
        subst c23; have H1 : (if 0 ≤ Za then (if Za < (l1.length : Int) then (if Zd.length < 8796093022208 then (isoglossref20_Filter.l0 k2 l0 l1 a2 (Zd ++ [rdOf ByteArray.empty l1 Za]) (wrap64 (Za + 1))) else (none)) else (none)) else (none)) = some r := by rw [if_pos rfl] at H; exact H
        clear H; have H := H1; clear H1; by_cases c24 : 0 ≤ Za
        ·
         rw [if_pos c24] at H
         have ZI : decide (0 ≤ Za) = true := decide_eq_true c24; clear c24; by_cases c25 : Za < (l1.length : Int)
         ·
          rw [if_pos c25] at H
          have ZJ : decide (Za < (l1.length : Int)) = true := decide_eq_true c25; clear c25; by_cases c26 : Zd.length < 8796093022208
          ·
           rw [if_pos c26] at H
           have Zx := ak c26; clear c26; obtain ⟨y263, Zj⟩ : ∃ y_ : List ByteArray, y_ = (Zd ++ [rdOf ByteArray.empty l1 Za]) := ⟨_, rfl⟩; replace H : (isoglossref20_Filter.l0 k2 l0 l1 a2 y263 (wrap64 (Za + 1))) = some r := by first | (rw [Zj]; with_reducible exact H) | (have H2_ := (Option.bind_some _ _).symm.trans H; rw [Zj]; with_reducible exact H2_) | (have H2_ := (Option.bind_some _ _).symm.trans H; with_reducible exact H2_) | with_reducible exact H | (rw [Zj]; exact H) | exact H
           have Zy := ak Zj; clear Zj; have H' := ak H; clear H; have p262 : 0 ≤ (Za : Int) := of_decide_eq_true (by first | (with_reducible assumption) | assumption); have q262 : Za < (l1.length : Int) := of_decide_eq_true (by first | (with_reducible assumption) | assumption); obtain ⟨ZK, e262, Zk⟩ := Kd.at_string HR1.out Za p262 q262; cases e262; replace Zk := (HB.out.cell (World.block_lt_of_cell? w _ Zk)).trans Zk; replace p262 := eq_true p262; replace q262 := eq_true q262; go_wp2_with (first | ((with_reducible refine gate_builtin (b := .append) (xs := #[.tmp 49, .tmp 54]) rfl ?_); at_builtin; refine Kd.R_append Kd.string (w0 := w) w.heap.size rfl (.tmp 49) (.tmp 54) 26 9 (.string ⟨#[]⟩) 16 rfl Tryz.underlying26 info9 rfl (by decide) (by omega) u7 Zd (rdOf ByteArray.empty l1 Za) [.string (rdOf ByteArray.empty l1 Za)] (fun _ => True) (fun _ => False) rfl rfl ?aP (fun _ hk => hk.elim) ?aF ?aO ?aB ?aS ?aL ?_; (case aP => exact rfl); (case aB => exact bq); (case aF => exact (fun _ _ => trivial)); (case aO => exact (rx Zc.out)); (case aS => exact (below_size bq)); (case aL => have := Zx.out; omega); intro v264 w27 ho hb hg hat; rw [← Zy.out] at ho; have n0_ := ak (hb); have n1_ := ak (ho); clear HB; clear Zc; have HB := n0_; have Zz := n1_; clear n0_ n1_; clear ho hb hg hat))
           go_roundg k2
           case measure => have := HK1.out; have := HK2.out; omega
           case rel => exact ⟨(y263), (wrap64 (Za + 1)), (by first | rfl | (simp; done) | (simp [*]; done)), H', ⟨by have := HK1.out; have := HK2.out; omega⟩, ⟨(rx Zz.out)⟩, ⟨bq⟩⟩
          ·
           rw [if_neg c26] at H
           exact absurd H (by simp)
         ·
          rw [if_neg c25] at H
          exact absurd H (by simp)
        ·
         rw [if_neg c24] at H
         exact absurd H (by simp)
       ·
        replace c23 := Bool.eq_false_iff.mpr c23; subst c23; have H1 : (isoglossref20_Filter.l0 k2 l0 l1 a2 Zd (wrap64 (Za + 1))) = some r := by rw [if_neg (show ¬ (false = true) by decide)] at H; exact H
        clear H; have H := H1; clear H1; have H' := ak H; clear H; go_wp2
        go_roundg k2
        case measure => have := HK1.out; have := HK2.out; omega
        case rel => exact ⟨(Zd), (wrap64 (Za + 1)), (by first | rfl | (simp; done) | (simp [*]; done)), H', ⟨by have := HK1.out; have := HK2.out; omega⟩, ⟨(rx Zc.out)⟩, ⟨bq⟩⟩
   ·
    rw [if_neg c4] at H
    have c4b0 : decide (Za < (l1.length : Int)) = false := decide_eq_false c4; clear c4; obtain rfl := Option.some.inj H; go_wp2
    go_ret
    exact ⟨_, by first | rfl | (simp [errW_none, errW_some] <;> rfl) | (simp [*, errW_none, errW_some] <;> rfl), by (with_reducible repeat (first | apply rA | apply rN | apply rD)); exact Zc.out, bq⟩
end Go.Proofs.YtpmcfckechjppaaGreatDoor.P
namespace Go.Proofs.YtpmcfckechjppaaGreatDoor.Pure
open Go.RowKit Go.Proofs.YtpmcfckechjppaaGreatDoor.P Go.Proofs.YtpmcfckechjppaaGreatDoorW.PrintWords Go.Proofs.YtpmcfckechjppaaGreatDoorW.PrintLast Go.Proofs.YtpmcfckechjppaaGreatDoorW.PrintMore
open Go.Proofs.YtpmcfckechjppaaGreatDoor.Each Go.Proofs.YtpmcfckechjppaaGreatDoor.Base
set_option linter.unusedVariables false
set_option linter.unusedSimpArgs false
set_option maxRecDepth 100000
set_option maxHeartbeats 8000000
def cmpL : List Int → List Int → Int
 | [], [] => 0
 | [], _ :: _ => -1
 | _ :: _, [] => 1
 | a :: l, b :: m => if a < b then -1 else if b < a then 1 else cmpL l m
def lowL (s : ByteArray) : List Int := (bytesOf s).map lowI
theorem lowL_length (s : ByteArray) : (lowL s).length = s.size := by rw [lowL, List.length_map, bytesOf_length]
theorem lowL_drop (s : ByteArray) (i : Nat) (h : i < s.size) : (lowL s).drop i = lowI (bt s (i : Int)) :: (lowL s).drop (i + 1) := by
 unfold lowL
 rw [← List.map_drop, drop_at s i h, List.map_cons, List.map_drop]

theorem lower_some (c : Int) (h : byteI c) : ascii_lower.f c = some (lowI c) := by
 obtain ⟨h0, h1⟩ := h
 unfold ascii_lower.f lowI
 split
 · split
   · rw [if_pos (by omega)]; congr 1; omega
   · rw [if_neg (by omega)]
 · rw [if_neg (by omega)]
theorem order_byte (a b : Int) : ascii_order_byte.f a b = some (if a < b then -1 else if b < a then 1 else 0) := by
 unfold ascii_order_byte.f
 (repeat' split) <;> first | rfl | omega
theorem order_int (a b : Int) : ascii_order_int.f a b = some (if a < b then -1 else if b < a then 1 else 0) := by
 unfold ascii_order_int.f
 (repeat' split) <;> first | rfl | omega
theorem bt_byte (s : ByteArray) (i : Int) : byteI (bt s i) := bt_range s i

theorem cmp_end (l m : List Int) (n : Nat) (hl : n ≤ l.length) (hm : n ≤ m.length) (hn : n = l.length ∨ n = m.length) :
 cmpL (l.drop n) (m.drop n) = if (l.length : Int) < m.length then -1 else if (m.length : Int) < l.length then 1 else 0 := by
 rcases hn with rfl | rfl
 · rw [List.drop_length]
   rcases Nat.lt_or_ge l.length m.length with h | h
   · rw [if_pos (by omega), List.drop_eq_getElem_cons h]; rfl
   · have : m.length = l.length := by omega
     rw [if_neg (by omega), if_neg (by omega), List.drop_of_length_le (by omega)]; rfl
 · rw [List.drop_length]
   rcases Nat.lt_or_ge m.length l.length with h | h
   · rw [if_neg (by omega), if_pos (by omega), List.drop_eq_getElem_cons h]; rfl
   · rw [if_neg (by omega), if_neg (by omega), List.drop_of_length_le (by omega)]; rfl

theorem Compare_loop (s t : ByteArray) (n : Nat) (hn : n ≤ 281474976710656) (hs : n ≤ s.size) (ht : n ≤ t.size) (hnn : n = s.size ∨ n = t.size) : ∀ (d i : Nat), n - i = d → i ≤ n →
 Ev (fun k => ascii_Compare.l0 k s t (n : Int) (i : Int)) (cmpL ((lowL s).drop i) ((lowL t).drop i))
 | 0, i, hd, hi => by
  obtain rfl : i = n := by omega
  refine Ev.step (fun k => by unfold ascii_Compare.l0; rfl) ?_
  refine Ev.ite_neg (by omega) ?_
  refine Ev.bind_c (order_int _ _) ?_
  have e := cmp_end (lowL s) (lowL t) i (by rw [lowL_length]; exact hs) (by rw [lowL_length]; exact ht) (by rw [lowL_length, lowL_length]; exact hnn)
  rw [lowL_length, lowL_length] at e
  rw [e]
  exact Ev.now _
 | d + 1, i, hd, hi => by
  have ih := Compare_loop s t n hn hs ht hnn d (i + 1) (by omega) (by omega)
  refine Ev.step (fun k => by unfold ascii_Compare.l0; rfl) ?_
  refine Ev.ite_pos (by omega) ?_
  refine Ev.ite_pos (by omega) ?_
  refine Ev.ite_pos (by omega) ?_
  refine Ev.bind_c (lower_some _ (bt_byte _ _)) ?_
  refine Ev.ite_pos (by omega) ?_
  refine Ev.bind_c (lower_some _ (bt_byte _ _)) ?_
  refine Ev.bind_c (order_byte _ _) ?_
  rw [lowL_drop s i (by omega), lowL_drop t i (by omega)]
  simp only [cmpL]
  by_cases h1 : lowI (bt s (i : Int)) < lowI (bt t (i : Int))
  · rw [if_pos h1, if_pos h1]
    exact Ev.ite_neg (by decide) (Ev.now _)
  · rw [if_neg h1, if_neg h1]
    by_cases h2 : lowI (bt t (i : Int)) < lowI (bt s (i : Int))
    · rw [if_pos h2, if_pos h2]
      exact Ev.ite_neg (by decide) (Ev.now _)
    · rw [if_neg h2, if_neg h2]
      refine Ev.ite_pos rfl ?_
      rw [wrap_next (by omega) (by omega)]
      exact ih
theorem Compare_ev (s t : ByteArray) (hs : s.size ≤ 140737488351232) (ht : t.size ≤ 140737488351232) : Ev (fun k => ascii_Compare.f k s t) (cmpL (lowL s) (lowL t)) := by
 have e : mn (s.size : Int) (t.size : Int) = ((min s.size t.size : Nat) : Int) := by unfold mn; split <;> omega
 have := Compare_loop s t (min s.size t.size) (by omega) (by omega) (by omega) (by omega) _ 0 rfl (by omega)
 unfold ascii_Compare.f
 rw [e]
 exact this
theorem Same_ev (s t : ByteArray) (hs : s.size ≤ 140737488351232) (ht : t.size ≤ 140737488351232) : Ev (fun k => ascii_Same.f k s t) (cmpL (lowL s) (lowL t) == 0) := by
 unfold ascii_Same.f
 exact Ev.bind (Compare_ev s t hs ht) (Ev.now _)

def letB (c : Int) : Bool := decide ((97 ≤ c ∧ c ≤ 122) ∨ (65 ≤ c ∧ c ≤ 90))
def digB (c : Int) : Bool := decide (48 ≤ c ∧ c ≤ 57)
def kindI (c : Int) : Int := if letB c = true then 1 else if digB c = true then 2 else 0
def sumI (a b : Bool) : Int := (if a = true then 1 else 0) + (if b = true then 2 else 0)
def clsFrom (a b : Bool) (l : List Int) : Int := if l.all (fun c => letB c || digB c) = true then sumI (a || l.any letB) (b || l.any digB) else 0
def clsL (l : List Int) : Int := clsFrom false false l
theorem let_dig (c : Int) (h : letB c = true) : digB c = false := by
 unfold letB at h; unfold digB
 rw [decide_eq_true_iff] at h
 rw [decide_eq_false_iff_not]; omega
theorem kind_ev (c : Int) (h : byteI c) : Ev (fun k => ascii_kind.f k c) (kindI c) := by
 have hv : ∀ r : Int, ((97 ≤ c ∧ c ≤ 122) ∨ (65 ≤ c ∧ c ≤ 90) → r = 1) → (¬ ((97 ≤ c ∧ c ≤ 122) ∨ (65 ≤ c ∧ c ≤ 90)) → 48 ≤ c ∧ c ≤ 57 → r = 2) → (¬ ((97 ≤ c ∧ c ≤ 122) ∨ (65 ≤ c ∧ c ≤ 90)) → ¬ (48 ≤ c ∧ c ≤ 57) → r = 0) → r = kindI c := by
  intro r h1 h2 h3
  unfold kindI letB digB
  simp only [decide_eq_true_iff]
  (repeat' split)
  · exact h1 ‹_›
  · exact h2 ‹_› ‹_›
  · exact h3 ‹_› ‹_›
 have j1 : ∀ b : Bool, (b = true ↔ (97 ≤ c ∧ c ≤ 122)) → (c < 65 ∨ 90 < c) → Ev (fun k => ascii_kind.j1 k c b) (kindI c) := by
  intro b hb hn
  refine Ev.step (fun k => by unfold ascii_kind.j1; rfl) ?_
  by_cases h1 : b = true
  · refine Ev.ite_pos h1 ?_
    rw [← hv 1 (fun _ => rfl) (fun _ _ => by have := hb.1 h1; omega) (fun _ _ => by have := hb.1 h1; omega)]
    exact Ev.now _
  · refine Ev.ite_neg h1 ?_
    have h2 : ¬ (97 ≤ c ∧ c ≤ 122) := fun h => h1 (hb.2 h)
    by_cases h3 : c ≥ 48
    · refine Ev.ite_pos h3 ?_
      by_cases h4 : c ≤ 57
      · refine Ev.ite_pos h4 ?_
        rw [← hv 2 (by omega) (by omega) (by omega)]; exact Ev.now _
      · refine Ev.ite_neg h4 ?_
        rw [← hv 0 (by omega) (by omega) (by omega)]; exact Ev.now _
    · refine Ev.ite_neg h3 ?_
      rw [← hv 0 (by omega) (by omega) (by omega)]; exact Ev.now _
 have j0 : ∀ b : Bool, (b = true ↔ (65 ≤ c ∧ c ≤ 90)) → Ev (fun k => ascii_kind.j0 k c b) (kindI c) := by
  intro b hb
  refine Ev.step (fun k => by unfold ascii_kind.j0; rfl) ?_
  by_cases h1 : b = true
  · refine Ev.ite_pos h1 ?_
    rw [← hv 1 (fun _ => rfl) (fun _ _ => by have := hb.1 h1; omega) (fun _ _ => by have := hb.1 h1; omega)]
    exact Ev.now _
  · refine Ev.ite_neg h1 ?_
    have h2 : ¬ (65 ≤ c ∧ c ≤ 90) := fun h => h1 (hb.2 h)
    by_cases h3 : c ≥ 97
    · exact Ev.ite_pos h3 (j1 _ (by rw [decide_eq_true_iff]; omega) (by omega))
    · exact Ev.ite_neg h3 (j1 _ (by simp; omega) (by omega))
 unfold ascii_kind.f
 by_cases h3 : c ≥ 65
 · exact Ev.ite_pos h3 (j0 _ (by rw [decide_eq_true_iff]; omega))
 · exact Ev.ite_neg h3 (j0 _ (by simp; omega))
theorem or_kind (a b : Bool) (c : Int) (h : (letB c || digB c) = true) : Go.bits .or .i64 (sumI a b) (kindI c) = sumI (a || letB c) (b || digB c) := by
 unfold kindI
 by_cases h1 : letB c = true
 · rw [if_pos h1, h1, let_dig c h1]
   cases a <;> cases b <;> rfl
 · have h1' : letB c = false := by simpa using h1
   rw [h1', Bool.false_or] at h
   rw [if_neg h1, if_pos h, h1', h]
   cases a <;> cases b <;> rfl
theorem Class_loop (s : ByteArray) (hs : s.size ≤ 140737488351232) : ∀ (d i : Nat) (a b : Bool), s.size - i = d → i ≤ s.size →
 Ev (fun k => ascii_Class.l0 k s (sumI a b) (s.size : Int) (i : Int)) (clsFrom a b ((bytesOf s).drop i))
 | 0, i, a, b, hd, hi => by
  obtain rfl : i = s.size := by omega
  refine Ev.step (fun k => by unfold ascii_Class.l0; rfl) ?_
  refine Ev.ite_neg (by omega) ?_
  rw [List.drop_of_length_le (by rw [bytesOf_length]; exact Nat.le_refl _)]
  have e : clsFrom a b [] = sumI a b := by simp [clsFrom]
  rw [e]
  exact Ev.now _
 | d + 1, i, a, b, hd, hi => by
  refine Ev.step (fun k => by unfold ascii_Class.l0; rfl) ?_
  refine Ev.ite_pos (by omega) ?_
  refine Ev.ite_pos (by omega) ?_
  refine Ev.ite_pos (by omega) ?_
  refine Ev.bind (kind_ev _ (bt_byte _ _)) ?_
  rw [drop_at s i (by omega)]
  generalize bt s (i : Int) = c
  by_cases h : (letB c || digB c) = true
  · have hk : ¬ kindI c = 0 := by
     unfold kindI
     by_cases h1 : letB c = true
     · rw [if_pos h1]; decide
     · have h1' : letB c = false := by simpa using h1
       rw [h1', Bool.false_or] at h
       rw [if_neg h1, if_pos h]; decide
    refine Ev.ite_neg hk ?_
    rw [or_kind a b c h, wrap_next (by omega) (by omega)]
    have ih := Class_loop s hs d (i + 1) (a || letB c) (b || digB c) (by omega) (by omega)
    have e : clsFrom a b (c :: (bytesOf s).drop (i + 1)) = clsFrom (a || letB c) (b || digB c) ((bytesOf s).drop (i + 1)) := by
     simp only [clsFrom, List.all_cons, List.any_cons, h, Bool.true_and, Bool.or_assoc]
    rw [e]
    exact ih
  · have hk : kindI c = 0 := by
     unfold kindI
     simp only [Bool.or_eq_true, not_or] at h
     rw [if_neg h.1, if_neg h.2]
    refine Ev.ite_pos hk ?_
    have e : clsFrom a b (c :: (bytesOf s).drop (i + 1)) = 0 := by
     unfold clsFrom
     rw [if_neg]
     rw [List.all_cons, Bool.and_eq_true]
     exact fun hh => h hh.1
    rw [e]
    exact Ev.now _
theorem Class_ev (s : ByteArray) (hs : s.size ≤ 140737488351232) : Ev (fun k => ascii_Class.f k s) (clsL (bytesOf s)) := by
 have := Class_loop s hs _ 0 false false rfl (by omega)
 unfold ascii_Class.f clsL
 exact this
theorem Alnum_ev (s : ByteArray) (hs : s.size ≤ 140737488351232) : Ev (fun k => ascii_Alnum.f k s) (clsL (bytesOf s) != 0) := by
 unfold ascii_Alnum.f
 exact Ev.bind (Class_ev s hs) (Ev.now _)
theorem Alpha_ev (s : ByteArray) (hs : s.size ≤ 140737488351232) : Ev (fun k => ascii_Alpha.f k s) (clsL (bytesOf s) == 1) := by
 unfold ascii_Alpha.f
 exact Ev.bind (Class_ev s hs) (Ev.now _)
def lowS (s : ByteArray) : ByteArray := strOfNums (eachF lowF s)
theorem lowS_bytes (s : ByteArray) : bytesOf (lowS s) = (bytesOf s).map lowI := each_low s
theorem lowS_size (s : ByteArray) : (lowS s).size = s.size := by rw [size_bytesOf, lowS_bytes, List.length_map, bytesOf_length]
theorem Lower_eq (s : ByteArray) (hs : s.size ≤ 140737488351232) : ascii_Lower.f s = some (lowS s) := by unfold ascii_Lower.f; rw [if_pos hs]; rfl
theorem rlower_some (c : Int) (h : byteI c) : isoglossref02_lower.f c = some (lowI c) := by
 obtain ⟨h0, h1⟩ := h
 unfold isoglossref02_lower.f lowI
 split
 · split
   · rw [if_pos (by omega)]; congr 1; omega
   · rw [if_neg (by omega)]
 · rw [if_neg (by omega)]
theorem rLower_loop (s : ByteArray) (hs : s.size ≤ 140737488351232) : ∀ (d i : Nat) (l : List Int), s.size - i = d → i ≤ s.size → l.length = i →
 Ev (fun k => isoglossref02_Lower.l0 k s l (i : Int)) (strOfNums (l ++ ((bytesOf s).drop i).map lowI))
 | 0, i, l, hd, hi, hl => by
  refine Ev.step (fun k => by unfold isoglossref02_Lower.l0; rfl) ?_
  refine Ev.ite_neg (by omega) ?_
  rw [List.drop_of_length_le (by rw [bytesOf_length]; omega), List.map_nil, List.append_nil]
  exact Ev.now _
 | d + 1, i, l, hd, hi, hl => by
  refine Ev.step (fun k => by unfold isoglossref02_Lower.l0; rfl) ?_
  refine Ev.ite_pos (by omega) ?_
  refine Ev.ite_pos (by omega) ?_
  refine Ev.bind_c (rlower_some _ (bt_byte _ _)) ?_
  refine Ev.ite_pos (by omega) ?_
  rw [wrap_next (by omega) (by omega), drop_at s i (by omega)]
  have ih := rLower_loop s hs d (i + 1) (l ++ [lowI (bt s (i : Int))]) (by omega) (by omega) (by simp [hl])
  rw [List.append_assoc] at ih
  exact ih
theorem rLower_ev (s : ByteArray) (hs : s.size ≤ 140737488351232) : Ev (fun k => isoglossref02_Lower.f k s) (lowS s) := by
 have := rLower_loop s hs _ 0 [] rfl (by omega) rfl
 have e : strOfNums ([] ++ ((bytesOf s).drop 0).map lowI) = lowS s := by
  apply bytesOf_inj
  rw [lowS_bytes, List.nil_append, List.drop_zero]
  exact bytesOf_str _ (map_byte (fun _ => lowI_byte) (bytesOf_byte s))
 rw [e] at this
 exact this
theorem rCompare_loop (s t : ByteArray) (hs : s.size ≤ 140737488351232) (ht : t.size ≤ 140737488351232) : ∀ (d i : Nat), min s.size t.size - i = d → i ≤ s.size → i ≤ t.size →
 Ev (fun k => isoglossref02_Compare.l0 k s t (i : Int)) (cmpL ((bytesOf s).drop i) ((bytesOf t).drop i))
 | 0, i, hd, hi, hj => by
  have e := cmp_end (bytesOf s) (bytesOf t) i (by rw [bytesOf_length]; exact hi) (by rw [bytesOf_length]; exact hj) (by rw [bytesOf_length, bytesOf_length]; omega)
  rw [bytesOf_length, bytesOf_length] at e
  rw [e]
  have j : Ev (fun k => isoglossref02_Compare.j1 k s t (i : Int) false) (if (s.size : Int) < (t.size : Int) then -1 else if (t.size : Int) < (s.size : Int) then 1 else 0) := by
   refine Ev.step (fun k => by unfold isoglossref02_Compare.j1; rfl) ?_
   refine Ev.ite_neg (by decide) ?_
   have R : ∀ r : Int, (if (s.size : Int) < (t.size : Int) then (-1 : Int) else if (t.size : Int) < (s.size : Int) then 1 else 0) = r → ∀ g : Nat → Option Int, Ev g r → Ev g (if (s.size : Int) < (t.size : Int) then (-1 : Int) else if (t.size : Int) < (s.size : Int) then 1 else 0) := by
    intro r hr g hg
    rw [hr]
    exact hg
   by_cases h1 : (s.size : Int) < (t.size : Int)
   · exact R (-1) (if_pos h1) _ (Ev.ite_pos h1 (Ev.now _))
   · by_cases h2 : (t.size : Int) < (s.size : Int)
     · exact R 1 (by rw [if_neg h1, if_pos h2]) _ (Ev.ite_neg h1 (Ev.ite_pos h2 (Ev.now _)))
     · exact R 0 (by rw [if_neg h1, if_neg h2]) _ (Ev.ite_neg h1 (Ev.ite_neg h2 (Ev.now _)))
  refine Ev.step (fun k => by unfold isoglossref02_Compare.l0; rfl) ?_
  by_cases h : (i : Int) < (s.size : Int)
  · refine Ev.ite_pos h ?_
    rw [decide_eq_false (by omega)]
    exact j
  · exact Ev.ite_neg h j
 | d + 1, i, hd, hi, hj => by
  have ih := rCompare_loop s t hs ht d (i + 1) (by omega) (by omega) (by omega)
  refine Ev.step (fun k => by unfold isoglossref02_Compare.l0; rfl) ?_
  refine Ev.ite_pos (by omega) ?_
  rw [decide_eq_true (by omega)]
  refine Ev.step (fun k => by unfold isoglossref02_Compare.j1; rfl) ?_
  refine Ev.ite_pos rfl ?_
  refine Ev.ite_pos (by omega) ?_
  refine Ev.ite_pos (by omega) ?_
  refine Ev.ite_pos (by omega) ?_
  rw [drop_at s i (by omega), drop_at t i (by omega)]
  simp only [cmpL]
  by_cases h1 : bt s (i : Int) < bt t (i : Int)
  · rw [if_pos h1]
    exact Ev.ite_pos h1 (Ev.now _)
  · rw [if_neg h1]
    refine Ev.ite_neg h1 ?_
    by_cases h2 : bt t (i : Int) < bt s (i : Int)
    · rw [if_pos h2]
      exact Ev.ite_pos h2 (Ev.now _)
    · rw [if_neg h2]
      refine Ev.ite_neg h2 ?_
      rw [wrap_next (by omega) (by omega)]
      exact ih
theorem rCompare_ev (s t : ByteArray) (hs : s.size ≤ 140737488351232) (ht : t.size ≤ 140737488351232) : Ev (fun k => isoglossref02_Compare.f k s t) (cmpL (lowL s) (lowL t)) := by
 unfold isoglossref02_Compare.f
 refine Ev.bind (rLower_ev s hs) ?_
 refine Ev.bind (rLower_ev t ht) ?_
 have := rCompare_loop (lowS s) (lowS t) (by rw [lowS_size]; exact hs) (by rw [lowS_size]; exact ht) _ 0 rfl (by omega) (by omega)
 rw [List.drop_zero, List.drop_zero, lowS_bytes, lowS_bytes] at this
 exact this
theorem letter_eq (c : Int) : isoglossref02_letter.f c = some (letB c) := by
 have h : ∀ b : Bool, (b = true ↔ ((97 ≤ c ∧ c ≤ 122) ∨ (65 ≤ c ∧ c ≤ 90))) → some b = some (letB c) := by
  intro b hb
  unfold letB
  congr 1
  rw [Bool.eq_iff_iff, hb, decide_eq_true_iff]
 unfold isoglossref02_letter.f
 (repeat' split) <;> exact h _ (by simp; omega)
theorem digit_eq (c : Int) : isoglossref02_digit.f c = some (digB c) := by
 have h : ∀ b : Bool, (b = true ↔ (48 ≤ c ∧ c ≤ 57)) → some b = some (digB c) := by
  intro b hb
  unfold digB
  congr 1
  rw [Bool.eq_iff_iff, hb, decide_eq_true_iff]
 unfold isoglossref02_digit.f
 (repeat' split) <;> exact h _ (by simp; omega)
def finI (n p q : Nat) : Int := if n = 0 ∨ p + q < n then 0 else if q = 0 then 1 else if p = 0 then 2 else 3
theorem count_sum : ∀ l : List Int, l.countP letB + l.countP digB = l.countP (fun c => letB c || digB c)
 | [] => rfl
 | c :: l => by
  have ih := count_sum l
  rw [List.countP_cons, List.countP_cons, List.countP_cons]
  by_cases h : letB c = true
  · have := let_dig c h
    simp [h, this]; omega
  · have h' : letB c = false := by simpa using h
    by_cases h2 : digB c = true
    · simp [h', h2]; omega
    · have h2' : digB c = false := by simpa using h2
      simp [h', h2']; omega
theorem fin_cls (l : List Int) : finI l.length (l.countP letB) (l.countP digB) = clsL l := by
 have hs := count_sum l
 unfold finI clsL clsFrom sumI
 by_cases h0 : l.length = 0
 · rw [if_pos (.inl h0)]
   obtain rfl := List.eq_nil_of_length_eq_zero h0
   rfl
 · by_cases ha : l.all (fun c => letB c || digB c) = true
   · have hc : l.countP (fun c => letB c || digB c) = l.length := List.countP_eq_length.2 (List.all_eq_true.1 ha)
     rw [if_pos ha, if_neg (by omega)]
     have e1 : (l.any letB = true) ↔ 0 < l.countP letB := by rw [List.any_eq_true, List.countP_pos_iff]
     have e2 : (l.any digB = true) ↔ 0 < l.countP digB := by rw [List.any_eq_true, List.countP_pos_iff]
     simp only [Bool.false_or, e1, e2]
     (repeat' split) <;> omega
   · have hc : ¬ l.countP (fun c => letB c || digB c) = l.length := fun h => ha (List.all_eq_true.2 (List.countP_eq_length.1 h))
     have := List.countP_le_length (p := fun c => letB c || digB c) (l := l)
     rw [if_neg ha, if_pos (.inr (by omega))]
theorem rClass_j (k0 n p q : Nat) (b : Bool) (hb : b = true ↔ n = 0 ∨ p + q < n) : Ev (fun k => isoglossref02_Class.j1 k (p : Int) (q : Int) b) (finI n p q) := by
 refine Ev.step (fun k => by unfold isoglossref02_Class.j1; rfl) ?_
 have R : ∀ r : Int, finI n p q = r → ∀ g : Nat → Option Int, Ev g r → Ev g (finI n p q) := by
  intro r hr g hg
  rw [hr]
  exact hg
 by_cases h1 : b = true
 · exact R 0 (by unfold finI; rw [if_pos (hb.1 h1)]) _ (Ev.ite_pos h1 (Ev.now _))
 · have h1' : ¬ (n = 0 ∨ p + q < n) := fun h => h1 (hb.2 h)
   by_cases h2 : q = 0
   · exact R 1 (by unfold finI; rw [if_neg h1', if_pos h2]) _ (Ev.ite_neg h1 (Ev.ite_pos (by omega) (Ev.now _)))
   · by_cases h3 : p = 0
     · exact R 2 (by unfold finI; rw [if_neg h1', if_neg h2, if_pos h3]) _ (Ev.ite_neg h1 (Ev.ite_neg (by omega) (Ev.ite_pos (by omega) (Ev.now _))))
     · exact R 3 (by unfold finI; rw [if_neg h1', if_neg h2, if_neg h3]) _ (Ev.ite_neg h1 (Ev.ite_neg (by omega) (Ev.ite_neg (by omega) (Ev.now _))))
theorem rClass_loop (s : ByteArray) (hs : s.size ≤ 140737488351232) : ∀ (d i p q : Nat), s.size - i = d → i ≤ s.size → p ≤ i → q ≤ i →
 Ev (fun k => isoglossref02_Class.l0 k s (p : Int) (q : Int) (i : Int)) (finI s.size (p + ((bytesOf s).drop i).countP letB) (q + ((bytesOf s).drop i).countP digB))
 | 0, i, p, q, hd, hi, hp, hq => by
  obtain rfl : i = s.size := by omega
  rw [List.drop_of_length_le (by rw [bytesOf_length]; exact Nat.le_refl _), List.countP_nil, List.countP_nil, Nat.add_zero, Nat.add_zero]
  refine Ev.step (fun k => by unfold isoglossref02_Class.l0; rfl) ?_
  refine Ev.ite_neg (by omega) ?_
  by_cases h : s.toList = []
  · have h0 : s.size = 0 := by rw [size_bytesOf, toList_nil.1 h]; rfl
    exact Ev.ite_pos h (rClass_j 0 _ _ _ _ (by simp [h0]))
  · have h0 : s.size ≠ 0 := fun e => h (toList_nil.2 (List.eq_nil_of_length_eq_zero (by rw [bytesOf_length]; exact e)))
    have hw : wrap64 ((p : Int) + (q : Int)) = (p : Int) + q := by unfold wrap64; omega
    exact Ev.ite_neg h (rClass_j 0 _ _ _ _ (by rw [hw, decide_eq_true_iff]; omega))
 | d + 1, i, p, q, hd, hi, hp, hq => by
  refine Ev.step (fun k => by unfold isoglossref02_Class.l0; rfl) ?_
  refine Ev.ite_pos (by omega) ?_
  refine Ev.ite_pos (by omega) ?_
  refine Ev.bind_c (letter_eq _) ?_
  refine Ev.bind_c (digit_eq _) ?_
  rw [drop_at s i (by omega), List.countP_cons, List.countP_cons, wrap_next (i := (i : Int)) (by omega) (by omega)]
  generalize bt s (i : Int) = c
  by_cases h1 : letB c = true
  · have h2 := let_dig c h1
    have ih := rClass_loop s hs d (i + 1) (p + 1) q (by omega) (by omega) (by omega) (by omega)
    rw [h1, h2]
    refine Ev.ite_pos rfl (Ev.ite_neg (by decide) ?_)
    rw [wrap_next (by omega) (by omega), if_pos rfl, if_neg (by decide)]
    have e : p + (((bytesOf s).drop (i + 1)).countP letB + 1) = p + 1 + ((bytesOf s).drop (i + 1)).countP letB := by omega
    rw [e]
    exact ih
  · have h1' : letB c = false := by simpa using h1
    rw [h1']
    by_cases h2 : digB c = true
    · have ih := rClass_loop s hs d (i + 1) p (q + 1) (by omega) (by omega) (by omega) (by omega)
      rw [h2]
      refine Ev.ite_neg (by decide) (Ev.ite_pos rfl ?_)
      rw [wrap_next (by omega) (by omega), if_pos rfl, if_neg (by decide)]
      have e : q + (((bytesOf s).drop (i + 1)).countP digB + 1) = q + 1 + ((bytesOf s).drop (i + 1)).countP digB := by omega
      rw [e]
      exact ih
    · have h2' : digB c = false := by simpa using h2
      have ih := rClass_loop s hs d (i + 1) p q (by omega) (by omega) (by omega) (by omega)
      rw [h2']
      refine Ev.ite_neg (by decide) (Ev.ite_neg (by decide) ?_)
      rw [if_neg (by decide)]
      exact ih
theorem rClass_ev (s : ByteArray) (hs : s.size ≤ 140737488351232) : Ev (fun k => isoglossref02_Class.f k s) (clsL (bytesOf s)) := by
 have := rClass_loop s hs _ 0 0 0 rfl (by omega) (by omega) (by omega)
 rw [List.drop_zero, Nat.zero_add, Nat.zero_add, size_bytesOf, fin_cls] at this
 unfold isoglossref02_Class.f
 exact this
theorem Ev.cases {α : Type} {c : Prop} [Decidable c] {a b : Nat → Option α} {r : α} (h : c → Ev a r) (k : ¬ c → Ev b r) : Ev (fun n => if c then a n else b n) r := by
 by_cases hc : c
 · exact Base.Ev.ite_pos hc (h hc)
 · exact Base.Ev.ite_neg hc (k hc)
theorem Ev.res {α : Type} {g : Nat → Option α} {r r' : α} (h : Ev g r) (e : r = r') : Ev g r' := e ▸ h

theorem cmpL_zero : ∀ l m : List Int, cmpL l m = 0 ↔ l = m
 | [], [] => by simp [cmpL]
 | [], _ :: _ => by simp [cmpL]
 | _ :: _, [] => by simp [cmpL]
 | a :: l, b :: m => by
  have ih := cmpL_zero l m
  simp only [cmpL, List.cons.injEq]
  by_cases h1 : a < b
  · rw [if_pos h1]; constructor
    · intro h; omega
    · rintro ⟨rfl, _⟩; omega
  · rw [if_neg h1]
    by_cases h2 : b < a
    · rw [if_pos h2]; constructor
      · intro h; omega
      · rintro ⟨rfl, _⟩; omega
    · rw [if_neg h2, ih]
      exact ⟨fun h => ⟨by omega, h⟩, fun h => h.2⟩
theorem let_low (c : Int) : letB (lowI c) = letB c := by unfold letB lowI; rw [Bool.eq_iff_iff]; simp only [decide_eq_true_iff]; split <;> omega
theorem cls_four (l : List Int) : clsL l = 0 ∨ clsL l = 1 ∨ clsL l = 2 ∨ clsL l = 3 := by
 unfold clsL clsFrom sumI
 (repeat' split) <;> omega
theorem cls_zero (l : List Int) : clsL l = 0 ↔ l = [] ∨ l.all (fun c => letB c || digB c) = false := by
 unfold clsL clsFrom sumI
 cases h : l.all (fun c => letB c || digB c) with
 | false => simp
 | true =>
  rw [if_pos rfl]
  cases l with
  | nil => simp
  | cons c l =>
   simp only [List.all_cons, Bool.and_eq_true] at h
   have hc := h.1
   simp only [List.any_cons, Bool.false_or, reduceCtorEq, false_or]
   cases h1 : letB c with
   | true => simp; split <;> omega
   | false =>
    rw [h1, Bool.false_or] at hc
    rw [hc]; simp; split <;> omega
theorem cls_one (l : List Int) : clsL l = 1 ↔ l ≠ [] ∧ l.all letB = true := by
 have hz := cls_zero l
 constructor
 · intro h
   refine ⟨fun e => by rw [e] at h; exact absurd h (by decide), ?_⟩
   unfold clsL clsFrom sumI at h
   by_cases ha : l.all (fun c => letB c || digB c) = true
   · rw [if_pos ha] at h
     have hd : l.any digB = false := by
      cases hd : l.any digB with
      | false => rfl
      | true => rw [hd] at h; simp only [Bool.false_or] at h; revert h; split <;> simp
     rw [List.all_eq_true] at ha ⊢
     intro x hx
     have := ha x hx
     rw [List.any_eq_false] at hd
     have hd2 := hd x hx
     simp at hd2
     simpa [hd2] using this
   · rw [if_neg ha] at h; omega
 · rintro ⟨hne, ha⟩
   have hall : l.all (fun c => letB c || digB c) = true := by
    rw [List.all_eq_true] at ha ⊢
    intro x hx
    simp [ha x hx]
   have hd : l.any digB = false := by
    rw [List.any_eq_false]
    intro x hx
    rw [List.all_eq_true] at ha
    simp [let_dig x (ha x hx)]
   have hl : l.any letB = true := by
    cases l with
    | nil => exact absurd rfl hne
    | cons c l => rw [List.all_cons, Bool.and_eq_true] at ha; simp [ha.1]
   unfold clsL clsFrom sumI
   rw [if_pos hall, hd, hl]
   rfl
theorem bt_map {s t : ByteArray} {f : Int → Int} (h : bytesOf t = (bytesOf s).map f) (i : Nat) (hi : i < s.size) : bt t (i : Int) = f (bt s (i : Int)) := by
 have hl : i < (bytesOf s).length := by rw [bytesOf_length]; exact hi
 rw [bt_get s i _ (List.getElem?_eq_getElem hl)]
 exact bt_get t i _ (by rw [h, List.getElem?_map, List.getElem?_eq_getElem hl]; rfl)
theorem size_append (s t : ByteArray) : (s ++ t).size = s.size + t.size := by rw [size_bytesOf, bytesOf_append, List.length_append, bytesOf_length, bytesOf_length]
end Go.Proofs.YtpmcfckechjppaaGreatDoor.Pure
namespace Go.Proofs.YtpmcfckechjppaaGreatDoor.LikW
open Go.RowKit Go.Proofs.YtpmcfckechjppaaGreatDoorW.PrintWords Go.Proofs.YtpmcfckechjppaaGreatDoorW.PrintLast Go.Proofs.YtpmcfckechjppaaGreatDoor.P
set_option linter.unusedVariables false
set_option linter.unusedSimpArgs false
set_option maxRecDepth 100000
set_option maxHeartbeats 8000000
section
variable {H : Type} {enc : TypeId × Value → H} {P : Program} {w : World} {base : Nat} {sp : Nat → Bool} {held : Bool} {fuel : Nat} {t : TypeId} {cs : List Value} {x : DataW H × List MemPlace}
theorem open_slice {α : Type} (d : Kd α) {e : TypeId} (ht : P.underlying t = some (.slice e)) (hsz : P.cellsOf e = d.sz) (hel : ∀ (n : Nat) (c : List Value) (y : DataW H × List MemPlace), DataW.trod enc P w base sp held n e c = some y → ∃ p, d.K w p c) (h : DataW.trod enc P w base sp held fuel t cs = some x) :
 ∃ (A : Option Addr) (c : Nat) (l : List α), cs = [.slice A l.length c] ∧ l.length ≤ c ∧ Kd.C d w A l.length l := by
 rcases DataW.trod_slice ht h with ⟨rfl, _⟩ | ⟨a, len, cap, elems, rest, n, _, rfl, _, hb, hl, hm, hlen, hels, _, _⟩
 · exact ⟨none, 0, [], rfl, Nat.le_refl _, rfl, by simp, fun h => absurd h (by simp)⟩
 · have key : ∀ m, m ≤ len → ∃ l : List α, l.length = m ∧ ∀ j p, l[j]? = some p → ∃ c, c.length = d.sz ∧ d.K w p c ∧ ∀ i u, c[i]? = some u → w.cell? (a.add (j * d.sz + i)) = some u := by
    intro m
    induction m with
    | zero => intro _; exact ⟨[], rfl, fun j p h => by simp at h⟩
    | succ m ih =>
     intro hmm
     obtain ⟨l, hl1, hl2⟩ := ih (by omega)
     have h1 := hels m (by omega)
     rw [List.getElem?_eq_getElem (show m < elems.length by omega), Option.bind_eq_some_iff] at h1
     obtain ⟨c, hc, hy⟩ := h1
     obtain ⟨p, hp⟩ := hel _ _ _ hy
     obtain ⟨_, hcl, hcc⟩ := World.cells?_some hc
     refine ⟨l ++ [p], by simp [hl1], fun j q hq => ?_⟩
     by_cases hj : j < l.length
     · rw [List.getElem?_append_left hj] at hq
       exact hl2 j q hq
     · have hj2 : j = l.length := by
        have := (List.getElem?_eq_some_iff.1 hq).1
        simp at this
        omega
       subst hj2
       rw [List.getElem?_append_right (Nat.le_refl _), Nat.sub_self, List.getElem?_cons_zero, Option.some.injEq] at hq
       subst hq
       refine ⟨c, by rw [hcl, hsz], hp, fun i u hu => ?_⟩
       have hi : i < P.cellsOf e := by rw [← hcl]; exact (List.getElem?_eq_some_iff.1 hu).1
       have := hcc i hi
       rw [Addr.add_add, hsz] at this
       rw [hl1, this]
       exact hu
   obtain ⟨l, h1, h2⟩ := key len (Nat.le_refl _)
   refine ⟨some a, cap, l, by rw [h1], by omega, rfl, by rw [h1]; unfold maxLen at hm; omega, fun _ => ⟨a, rfl, h2⟩⟩
end
theorem cells_str {H : Type} {enc : TypeId × Value → H} {w : World} {base : Nat} {sp : Nat → Bool} {held : Bool} {fuel : Nat} {cs : List Value} {x : DataW H × List MemPlace} (h : DataW.trod enc Tryz.prog w base sp held fuel 9 cs = some x) : ∃ s : ByteArray, cs = [.string s] := by
 obtain ⟨n, e, _, _⟩ := DataW.trod_string Tryz.underlying9 h
 exact ⟨n, e⟩
theorem texts_slice {H : Type} {enc : TypeId × Value → H} {w : World} {base : Nat} {sp : Nat → Bool} {held : Bool} {fuel : Nat} {cs : List Value} {x : DataW H × List MemPlace} (h : DataW.trod enc Tryz.prog w base sp held fuel 26 cs = some x) :
 ∃ (A : Option Addr) (c : Nat) (l : List ByteArray), cs = [.slice A l.length c] ∧ l.length ≤ c ∧ Kd.C Kd.string w A l.length l :=
 open_slice Kd.string Tryz.underlying26 (by kernel_rfl) (fun n c y h => by obtain ⟨m, e⟩ := cells_str h; exact ⟨m, e⟩) h
theorem open_texts {H : Type} {enc : TypeId × Value → H} {w : World} {b0 : Nat} {r : Reach} {base : Nat} {sp : Nat → Bool} {held : Bool} {v : Value} {d : DataW H} {p : List MemPlace} (hv : Value.okWide Tryz.prog w r b0 26 v) (h : DataW.Trod enc Tryz.prog w base sp held 26 v d p) :
 ∃ (A : Option Addr) (c : Nat) (l : List ByteArray), v = .slice A l.length c ∧ l.length ≤ c ∧ Kd.C Kd.string w A l.length l := by
 obtain ⟨fuel, hf⟩ := h
 obtain ⟨A, c, l, e, h1, h2⟩ := texts_slice hf
 refine ⟨A, c, l, ?_, h1, h2⟩
 unfold Value.okWide at hv
 rw [Tryz.underlying26] at hv
 cases v <;> first | (simp at e; done) | (have e2 : _ = _ := e; simp [Value.cells] at e2; rw [e2.1, e2.2.1, e2.2.2]; done) | (have e2 : _ = _ := e; simp [Value.cells] at e2; done) | (exact absurd hv (by simp [Cell.ok, Cell.okWide]))
theorem trod_lt {H : Type} {enc : TypeId × Value → H} {w : World} {base : Nat} {sp : Nat → Bool} {held : Bool} {t : TypeId} {v : Value} {d : DataW H} {p : List MemPlace} (h : DataW.Trod enc Tryz.prog w base sp held t v d p) : ∀ x ∈ p, x.block < w.heap.size := by
 obtain ⟨fuel, hf⟩ := h
 exact DataW.trod_lt fuel t _ _ hf
end Go.Proofs.YtpmcfckechjppaaGreatDoor.LikW
namespace Go.Proofs.YtpmcfckechjppaaGreatDoor.Ps
open Go.RowKit Go.Proofs.YtpmcfckechjppaaGreatDoorW.PrintWords Go.Proofs.YtpmcfckechjppaaGreatDoorW.PrintLast Go.Proofs.YtpmcfckechjppaaGreatDoor.P
set_option linter.unusedVariables false
set_option linter.unusedSimpArgs false
set_option maxRecDepth 100000
set_option maxHeartbeats 8000000
def PS (W : World) (g : Nat) (A : Option Addr) (l : List (Int × ByteArray)) : Prop := ∀ i x, l[i]? = some x → ∃ b o, A = some ⟨b, o, none⟩ ∧ b ≠ g ∧ b < W.heap.size ∧ W.cell? ⟨b, o + 2 * i, none⟩ = some (.int .i64 x.1) ∧ W.cell? ⟨b, o + 2 * i + 1, none⟩ = some (.string x.2)
theorem PS.keep {W W1 : World} {g : Nat} {A : Option Addr} {l : List (Int × ByteArray)} (h : PS W g A l) (hk : KeepBut W W1 g none) : PS W1 g A l := fun i x hx => by
 obtain ⟨b, o, e, n, lt, p0, p1⟩ := h i x hx
 have hb := hk.2 b lt n (by simp)
 exact ⟨b, o, e, n, Nat.lt_of_lt_of_le lt hk.1, (World.cell?_of_block (w := W) (by exact hb)).trans p0, (World.cell?_of_block (w := W) (by exact hb)).trans p1⟩
def rd (A : Option Addr) (n : Nat) (c : Nat) (e : Int) (a b d : ByteArray) : Array Value := #[.slice A n c, .int .i64 e, .string a, .slice none 0 0, .string b, .string d, .slice none 0 0, .slice none 0 0, .slice none 0 0, .string ⟨#[]⟩]
def hereO (k : Nat) : List (Int × ByteArray) → Option ByteArray
 | [] => some ⟨#[]⟩
 | x :: _ => if 8 < x.2.size then some ⟨#[]⟩ else (ascii_Alnum.f k x.2).bind fun b => some (if b = true then x.2 else ⟨#[]⟩)
theorem here_c (k : Nat) (g : Nat) (A : Option Addr) (c : Nat) (e : Int) (a b d : ByteArray) (l : List (Int × ByteArray)) (w : World) (hR : w.heap[g]? = some (.cells (rd A l.length c e a b d) 87 (0, 0))) (hP : PS w g A l) (r : ByteArray) (hr : hereO k l = some r) :
 Calls Tryz.prog 123 #[.pointer (some ⟨g, 0, none⟩)] w fun e w' => e = .returned (.string r) ∧ Drawn0 w w' := by
 obtain ⟨y0, y1, y2, y3, y4, y5, y6, y7, y8, y9⟩ := cz10 hR
 cases l with
 | nil =>
  cases hr
  go_enter Tryz.func123, Tryz.ntmps123
  go_wp2
  go_ret
  exact ⟨rfl, Drawn0.refl _⟩
 | cons x l =>
  obtain ⟨bk, o, rfl, bg, bl, p0, p1⟩ := hP 0 x rfl
  clear hP hR
  have n0 : (((x :: l).length : Int) == 0) = false := by simp only [List.length_cons]; exact beq_eq_false_iff_ne.2 (by omega)
  have n1 : decide (0 < ((x :: l).length : Int)) = true := by simp only [List.length_cons]; exact decide_eq_true (by omega)
  have n2 : 0 < (x :: l).length := by simp
  generalize (x :: l).length = n at *
  simp only [hereO] at hr
  by_cases h8 : 8 < x.2.size
  · rw [if_pos h8] at hr
    cases hr
    have d8 : decide ((8 : Int) < (x.2.size : Int)) = true := decide_eq_true (by omega)
    go_enter Tryz.func123, Tryz.ntmps123
    go_wp2
    go_ret
    exact ⟨rfl, Drawn0.refl _⟩
  · rw [if_neg h8] at hr
    obtain ⟨z, hz, hr⟩ := Option.bind_eq_some_iff.1 hr
    cases hr
    have HZ := Aside0.mk hz
    clear hz
    have d8 : decide ((8 : Int) < (x.2.size : Int)) = false := decide_eq_false (by omega)
    cases z with
    | true =>
     go_enter Tryz.func123, Tryz.ntmps123
     go_wp2_with (first
      | (go_at_call 175; refine (ascii_Alnum.calls k _ true _ HZ.out).mono ?_; rintro e w' ⟨rfl, ⟨nd, rfl⟩⟩))
     go_ret
     exact ⟨rfl, Drawn0.step (Drawn0.refl _) _⟩
    | false =>
     go_enter Tryz.func123, Tryz.ntmps123
     go_wp2_with (first
      | (go_at_call 175; refine (ascii_Alnum.calls k _ false _ HZ.out).mono ?_; rintro e w' ⟨rfl, ⟨nd, rfl⟩⟩))
     go_ret
     exact ⟨rfl, Drawn0.step (Drawn0.refl _) _⟩
theorem take_c (k : Nat) (g : Nat) (A : Option Addr) (c : Nat) (e : Int) (a b d : ByteArray) (x : Int × ByteArray) (l : List (Int × ByteArray)) (w0 w : World) (hB : Below w0.heap.size w0 w) (hg : w0.heap.size ≤ g) (hc : (x :: l).length ≤ c) (hR : w.heap[g]? = some (.cells (rd A (x :: l).length c e a b d) 87 (0, 0))) (hP : PS w g A (x :: l)) (r : ByteArray) (hr : hereO k (x :: l) = some r) :
 Calls Tryz.prog 130 #[.pointer (some ⟨g, 0, none⟩)] w fun e' w' => e' = .returned (.string r) ∧ (∃ A' c', l.length ≤ c' ∧ w'.heap[g]? = some (.cells (rd A' l.length c' e a b d) 87 (0, 0)) ∧ PS w' g A' l) ∧ Below w0.heap.size w0 w' ∧ KeepBut w w' g none := by
 obtain ⟨y0, y1, y2, y3, y4, y5, y6, y7, y8, y9⟩ := cz10 hR
 obtain ⟨f0, -⟩ := fz10 hR
 have HR := Aside0.mk hR
 have HP := Aside0.mk hP
 have HH := Aside0.mk hr
 have HB := Aside0.mk hB
 have hl : (x :: l).length = l.length + 1 := rfl
 have hq : l.length + 1 ≤ c := hc
 obtain ⟨bk, o, rfl, bg, bl, p0, p1⟩ := hP 0 x rfl
 clear hP hR hr hB hc p0 p1
 rw [hl] at y0
 go_enter Tryz.func130, Tryz.ntmps130
 go_wp2_with (first
  | (go_at_call 123; refine (here_c k g _ c e a b d (x :: l) _ HR.out HP.out r HH.out).mono ?_; rintro e w' ⟨rfl, ⟨nd, rfl⟩⟩))
 · have h0 : l = [] := List.eq_nil_of_length_eq_zero (by omega)
   subst h0
   go_ret
   exact ⟨rfl, ⟨_, _, by simp, blk_put (w := w.drewN nd) HR.out 0 _ rfl, fun i x hx => by simp at hx⟩, below_set (pw_below_drewN HB.out _) hg, (keep_drewN (KeepBut.refl w g none) nd).set_ 0 _⟩
 · go_ret
   refine ⟨rfl, ⟨_, _, by omega, blk_put (w := w.drewN nd) HR.out 0 _ rfl, fun i y hy => ?_⟩, below_set (pw_below_drewN HB.out _) hg, (keep_drewN (KeepBut.refl w g none) nd).set_ 0 _⟩
   obtain ⟨b', o', e', n', lt', p0, p1⟩ := (HP.out.keep ((keep_drewN (KeepBut.refl w g none) nd).set_ 0 _)) (i + 1) y hy
   cases e'
   exact ⟨_, _, rfl, n', lt', by rw [show o + 2 + 2 * i = o + 2 * (i + 1) by omega]; exact p0, by rw [show o + 2 + 2 * i + 1 = o + 2 * (i + 1) + 1 by omega]; exact p1⟩
theorem toList_inj {a b : ByteArray} (h : a.toList = b.toList) : a = b := by
 rw [ByteArray.toList_eq, ByteArray.toList_eq] at h
 exact ByteArray.ext (Array.toList_inj.1 h)
theorem full {r : ByteArray} (h : r ≠ ⟨#[]⟩) : r.toList.isEmpty = false := by
 cases e : r.toList.isEmpty with
 | false => rfl
 | true => exact absurd (toList_inj ((List.isEmpty_iff.1 e).trans (by rw [ByteArray.toList_eq] : ([] : List UInt8) = (⟨#[]⟩ : ByteArray).toList))) h
def Tells (F : FuncId) (f : ByteArray → Option Bool) : Prop := Go.Proofs.Enters Tryz.prog F ∧ ∀ s z w, f s = some z → Calls Tryz.prog F #[.string s] w fun e w' => e = .returned (.bool z) ∧ Drawn0 w w'
theorem one_no (k : Nat) (F : FuncId) (f : ByteArray → Option Bool) (hF : Tells F f) (g : Nat) (A : Option Addr) (c : Nat) (e : Int) (a b d : ByteArray) (l : List (Int × ByteArray)) (w : World) (hR : w.heap[g]? = some (.cells (rd A l.length c e a b d) 87 (0, 0))) (hP : PS w g A l) (r : ByteArray) (hr : hereO k l = some r) (hn : r = ⟨#[]⟩ ∨ f r = some false) :
 Calls Tryz.prog 125 #[.pointer (some ⟨g, 0, none⟩), .func (.func F) #[] #[]] w fun e w' => e = .returned (.string ⟨#[]⟩) ∧ Drawn0 w w' := by
 have HR := Aside0.mk hR
 have HP := Aside0.mk hP
 have HH := Aside0.mk hr
 obtain ⟨eF, hF⟩ := hF
 unfold Go.Proofs.Enters at eF
 clear hP hR hr
 by_cases h0 : r = ⟨#[]⟩
 · subst h0
   go_enter Tryz.func125, Tryz.ntmps125
   go_wp2_with (first
    | (go_at_call 123; refine (here_c k g _ c e a b d l _ (by exact HR.out) (by exact HP.out) _ HH.out).mono ?_; rintro e w' ⟨rfl, ⟨nd, rfl⟩⟩))
   go_ret
   exact ⟨rfl, Drawn0.step (Drawn0.refl _) _⟩
 · have hf := hn.resolve_left h0
   have q0 := full h0
   have HF := Aside0.mk hf
   clear hf hn
   go_enter Tryz.func125, Tryz.ntmps125
   go_wp2_with (first
    | (go_at_call 123; refine (here_c k g _ c e a b d l _ (by exact HR.out) (by exact HP.out) _ HH.out).mono ?_; rintro e w' ⟨rfl, ⟨nd, rfl⟩⟩)
    | (refine (hF _ _ _ HF.out).mono ?_; rintro e w' ⟨rfl, ⟨nd, rfl⟩⟩))
   go_ret
   exact ⟨rfl, Drawn0.step (Drawn0.refl _) _⟩
theorem one_yes (k : Nat) (F : FuncId) (f : ByteArray → Option Bool) (hF : Tells F f) (g : Nat) (A : Option Addr) (c : Nat) (e : Int) (a b d : ByteArray) (x : Int × ByteArray) (l : List (Int × ByteArray)) (w0 w : World) (hB : Below w0.heap.size w0 w) (hg : w0.heap.size ≤ g) (hc : (x :: l).length ≤ c) (hR : w.heap[g]? = some (.cells (rd A (x :: l).length c e a b d) 87 (0, 0))) (hP : PS w g A (x :: l)) (r : ByteArray) (hr : hereO k (x :: l) = some r) (h0 : r ≠ ⟨#[]⟩) (hf : f r = some true) :
 Calls Tryz.prog 125 #[.pointer (some ⟨g, 0, none⟩), .func (.func F) #[] #[]] w fun e' w' => e' = .returned (.string r) ∧ (∃ A' c', l.length ≤ c' ∧ w'.heap[g]? = some (.cells (rd A' l.length c' e a b d) 87 (0, 0)) ∧ PS w' g A' l) ∧ Below w0.heap.size w0 w' ∧ KeepBut w w' g none := by
 have HR := Aside0.mk hR
 have HP := Aside0.mk hP
 have HH := Aside0.mk hr
 have HB := Aside0.mk hB
 have HF := Aside0.mk hf
 have HC := Aside0.mk hc
 obtain ⟨eF, hF⟩ := hF
 unfold Go.Proofs.Enters at eF
 have q0 := full h0
 clear hP hR hr hB hf hc
 go_enter Tryz.func125, Tryz.ntmps125
 go_wp2_with (first
  | (go_at_call 123; refine (here_c k g _ c e a b d (x :: l) _ (by exact HR.out) (by exact HP.out) _ HH.out).mono ?_; rintro e w' ⟨rfl, ⟨nd, rfl⟩⟩)
  | (go_at_call 130; refine (take_c k g _ c e a b d x l w0 _ (by exact pw_below_drewN HB.out _) hg HC.out (by exact HR.out) (by exact HP.out) _ HH.out).mono ?_; rintro e w' ⟨rfl, h1, h2, h3⟩; have H1 := Aside0.mk h1; have H2 := Aside0.mk h2; have H3 := Aside0.mk h3; clear h1 h2 h3)
  | (refine (hF _ _ _ HF.out).mono ?_; rintro e w' ⟨rfl, ⟨nd, rfl⟩⟩))
 go_ret
 exact ⟨rfl, H1.out, H2.out, (keep_drewN (KeepBut.refl w g none) _).trans H3.out (.inl rfl)⟩
theorem tells_lang (k : Nat) : Tells 176 (tag_Language.f k) := ⟨enters_of Tryz.func176 (by kernel_rfl) rfl, fun s z w h => tag_Language.calls k s z w h⟩
theorem tells_script (k : Nat) : Tells 126 (tag_Script.f k) := ⟨enters_of Tryz.func126 (by kernel_rfl) rfl, fun s z w h => tag_Script.calls k s z w h⟩
theorem tells_region (k : Nat) : Tells 127 (tag_Region.f k) := ⟨enters_of Tryz.func127 (by kernel_rfl) rfl, fun s z w h => tag_Region.calls k s z w h⟩
def Left (w0 w w' : World) (g : Nat) (e : Int) (a b d : ByteArray) (l : List (Int × ByteArray)) : Prop := (∃ A' c', l.length ≤ c' ∧ w'.heap[g]? = some (.cells (rd A' l.length c' e a b d) 87 (0, 0)) ∧ PS w' g A' l) ∧ Below w0.heap.size w0 w' ∧ KeepBut w w' g none
theorem language_c (k : Nat) (g : Nat) (A : Option Addr) (c : Nat) (e : Int) (b d : ByteArray) (x : Int × ByteArray) (l : List (Int × ByteArray)) (w0 w : World) (hB : Below w0.heap.size w0 w) (hg : w0.heap.size ≤ g) (hc : (x :: l).length ≤ c) (hR : w.heap[g]? = some (.cells (rd A (x :: l).length c e ⟨#[]⟩ b d) 87 (0, 0))) (hP : PS w g A (x :: l)) (r : ByteArray) (hr : hereO k (x :: l) = some r) (h0 : r ≠ ⟨#[]⟩) (hf : tag_Language.f k r = some true) (hs : r.size = 2 ∨ r.size = 3) (r2 : ByteArray) (hr2 : hereO k l = some r2) (he : tag_Extlang.f k r2 = some false) :
 Calls Tryz.prog 124 #[.pointer (some ⟨g, 0, none⟩)] w fun e' w' => e' = .returned (.tuple #[]) ∧ Left w0 w w' g e r b d l := by
 have HR := Aside0.mk hR
 have HP := Aside0.mk hP
 have HH := Aside0.mk hr
 have HH2 := Aside0.mk hr2
 have HB := Aside0.mk hB
 have HF := Aside0.mk hf
 have HE := Aside0.mk he
 have HC := Aside0.mk hc
 have q0 := full h0
 have hz : (((r.size : Int) == 2) = true) ∨ (((r.size : Int) == 2) = false ∧ ((r.size : Int) == 3) = true) := by
  rcases hs with hs | hs
  · exact .inl (by rw [hs]; rfl)
  · exact .inr (by rw [hs]; exact ⟨rfl, rfl⟩)
 clear hP hR hr hB hf hc hr2 he hs
 rcases hz with hz | ⟨hz, hz3⟩
 all_goals
  go_enter Tryz.func124, Tryz.ntmps124
  go_wp2_with (first
   | (go_at_call 125; refine (one_yes k _ _ (tells_lang k) g _ c e _ b d x l w0 _ (by exact HB.out) hg HC.out (by exact HR.out) (by exact HP.out) _ HH.out h0 HF.out).mono ?_; rintro e w1 ⟨rfl, ⟨A1, c1, h1, h2, h3⟩, h4, h5⟩; obtain ⟨y0, y1, y2, y3, y4, y5, y6, y7, y8, y9⟩ := cz10 h2; obtain ⟨f0, f1, f2, -⟩ := fz10 h2; have HR1 := Aside0.mk h2; have HP1 := Aside0.mk h3; have HB1 := Aside0.mk h4; have HK1 := Aside0.mk h5; clear h2 h3 h4 h5))
  refine wp_loop_once ?_
  go_wp2_with (first
   | (go_at_call 123; refine (here_c k g _ c1 _ r b d l _ (by exact blk_put HR1.out 2 _ rfl) (by exact HP1.out.keep ((KeepBut.refl w1 g none).set_ 2 _)) r2 HH2.out).mono ?_; rintro e w2 ⟨rfl, ⟨nd, rfl⟩⟩)
   | (go_at_call 177; refine (tag_Extlang.calls k _ false _ HE.out).mono ?_; rintro e w2 ⟨rfl, ⟨nd, rfl⟩⟩))
  go_end0
  exact ⟨rfl, ⟨A1, c1, h1, blk_put HR1.out 2 _ rfl, HP1.out.keep (keep_drewN ((KeepBut.refl w1 g none).set_ 2 _) _)⟩, pw_below_drewN (below_set HB1.out hg) _, HK1.out.trans (keep_drewN ((KeepBut.refl w1 g none).set_ 2 _) _) (.inl rfl)⟩
theorem PS.nil (W : World) (g : Nat) (A : Option Addr) : PS W g A [] := fun i x hx => by simp at hx
theorem variants_c (g : Nat) (A : Option Addr) (c : Nat) (e : Int) (a b d : ByteArray) (w : World) (hR : w.heap[g]? = some (.cells (rd A 0 c e a b d) 87 (0, 0))) :
 Calls Tryz.prog 128 #[.pointer (some ⟨g, 0, none⟩)] w fun e' w' => e' = .returned (.tuple #[]) ∧ Drawn0 w w' := by
 have HR := Aside0.mk hR
 clear hR
 go_enter Tryz.func128, Tryz.ntmps128
 refine wp_block ?_
 refine wp_loop_once ?_
 go_wp2_with (first
  | (go_at_call 123; refine (here_c 0 g _ c _ _ _ _ [] _ (by exact HR.out) (PS.nil _ _ _) ⟨#[]⟩ rfl).mono ?_; rintro e w2 ⟨rfl, ⟨nd, rfl⟩⟩))
 go_end0
 exact ⟨rfl, Drawn0.step (Drawn0.refl _) _⟩
theorem extensions_c (g : Nat) (A : Option Addr) (c : Nat) (e : Int) (a b d : ByteArray) (w : World) (hR : w.heap[g]? = some (.cells (rd A 0 c e a b d) 87 (0, 0))) :
 Calls Tryz.prog 129 #[.pointer (some ⟨g, 0, none⟩)] w fun e' w' => e' = .returned (.tuple #[]) ∧ Below w.heap.size w w' := by
 have HR := Aside0.mk hR
 clear hR
 go_enter Tryz.func129, Tryz.ntmps129
 go_wp2
 refine wp_loop_once ?_
 go_wp2_with (first
  | (go_at_call 123; refine (here_c 0 g _ c _ _ _ _ [] _ (by exact bx HR.out) (PS.nil _ _ _) ⟨#[]⟩ rfl).mono ?_; rintro e w2 ⟨rfl, ⟨nd, rfl⟩⟩))
 go_end0
 exact ⟨rfl, pw_below_drewN (below_alloc (Below.refl _ _) _) _⟩
def oneO (k : Nat) (f : ByteArray → Option Bool) (l : List (Int × ByteArray)) : Option (ByteArray × List (Int × ByteArray)) := (hereO k l).bind fun r => if r.toList.isEmpty = true then some (⟨#[]⟩, l) else (f r).bind fun z => if z = true then some (r, l.tail) else some (⟨#[]⟩, l)
theorem one_c (k : Nat) (F : FuncId) (f : ByteArray → Option Bool) (hF : Tells F f) (g : Nat) (A : Option Addr) (c : Nat) (e : Int) (a b d : ByteArray) (l l' : List (Int × ByteArray)) (r : ByteArray) (w0 w : World) (hB : Below w0.heap.size w0 w) (hg : w0.heap.size ≤ g) (hc : l.length ≤ c) (hR : w.heap[g]? = some (.cells (rd A l.length c e a b d) 87 (0, 0))) (hP : PS w g A l) (h : oneO k f l = some (r, l')) :
 Calls Tryz.prog 125 #[.pointer (some ⟨g, 0, none⟩), .func (.func F) #[] #[]] w fun e' w' => e' = .returned (.string r) ∧ Left w0 w w' g e a b d l' := by
 have no : ∀ w', Drawn0 w w' → Left w0 w w' g e a b d l := fun w' hd => by
  obtain ⟨nd, rfl⟩ := hd
  exact ⟨⟨A, c, hc, hR, hP.keep (keep_drewN (KeepBut.refl w g none) nd)⟩, pw_below_drewN hB _, keep_drewN (KeepBut.refl w g none) nd⟩
 unfold oneO at h
 obtain ⟨q, hq, h⟩ := Option.bind_eq_some_iff.1 h
 by_cases h0 : q = ⟨#[]⟩
 · subst h0
   rw [if_pos (by rw [ByteArray.toList_eq]; rfl)] at h
   cases h
   exact (one_no k F f hF g A c e a b d l w hR hP _ hq (.inl rfl)).mono fun e' w' ⟨h1, h2⟩ => ⟨h1, no w' h2⟩
 · rw [if_neg (by rw [full h0]; decide)] at h
   obtain ⟨z, hz, h⟩ := Option.bind_eq_some_iff.1 h
   cases z with
   | false =>
    cases h
    exact (one_no k F f hF g A c e a b d l w hR hP _ hq (.inr hz)).mono fun e' w' ⟨h1, h2⟩ => ⟨h1, no w' h2⟩
   | true =>
    cases h
    cases l with
    | nil => cases hq; exact absurd rfl h0
    | cons x l => exact one_yes k F f hF g A c e a b d x l w0 w hB hg hc hR hP r hq h0 hz
theorem all_c (k : Nat) (g : Nat) (A : Option Addr) (c : Nat) (e : Int) (x : Int × ByteArray) (l l2 : List (Int × ByteArray)) (w0 w : World) (hB : Below w0.heap.size w0 w) (hg : w0.heap.size ≤ g) (hc : (x :: l).length ≤ c) (hR : w.heap[g]? = some (.cells (rd A (x :: l).length c e ⟨#[]⟩ ⟨#[]⟩ ⟨#[]⟩) 87 (0, 0))) (hP : PS w g A (x :: l)) (r : ByteArray) (hr : hereO k (x :: l) = some r) (h0 : r ≠ ⟨#[]⟩) (hx : r ≠ ⟨#[120]⟩) (hf : tag_Language.f k r = some true) (hs : r.size = 2 ∨ r.size = 3) (r2 : ByteArray) (hr2 : hereO k l = some r2) (he : tag_Extlang.f k r2 = some false)
 (s y : ByteArray) (h1 : oneO k (tag_Script.f k) l = some (s, l2)) (h2 : oneO k (tag_Region.f k) l2 = some (y, [])) :
 Calls Tryz.prog 65 #[.pointer (some ⟨g, 0, none⟩)] w fun e' w' => e' = .returned (.tuple #[]) ∧ Left w0 w w' g e r s y [] := by
 have HR := Aside0.mk hR
 have HP := Aside0.mk hP
 have HH := Aside0.mk hr
 have HH2 := Aside0.mk hr2
 have HB := Aside0.mk hB
 have HF := Aside0.mk hf
 have HE := Aside0.mk he
 have HC := Aside0.mk hc
 have HS := Aside0.mk hs
 have H1 := Aside0.mk h1
 have H2 := Aside0.mk h2
 clear hP hR hr hB hf hc hr2 he hs h1 h2
 have q1 : (r.toList == [120]) = false := beq_eq_false_iff_ne.2 fun e => hx (toList_inj (e.trans (by rw [ByteArray.toList_eq])))
 go_enter Tryz.func65, Tryz.ntmps65
 go_wp2_with (first
  | (go_at_call 123; refine (here_c k g _ c _ _ _ _ (x :: l) _ (by exact HR.out) (by exact HP.out) _ HH.out).mono ?_; rintro e w2 ⟨rfl, ⟨nd, rfl⟩⟩)
  | (go_at_call 124; refine (language_c k g _ c e _ _ x l w0 _ (by exact pw_below_drewN HB.out _) hg HC.out (by exact HR.out) (by exact HP.out) r HH.out h0 HF.out HS.out r2 HH2.out HE.out).mono ?_; rintro e w1 ⟨rfl, ⟨A1, c1, g1, g2, g3⟩, g4, g5⟩; have K1 := Aside0.mk g2; have P1 := Aside0.mk g3; have B1 := Aside0.mk g4; have N1 := Aside0.mk ((keep_drewN (KeepBut.refl w g none) _).trans g5 (.inl rfl)); clear g2 g3 g4 g5 HR HP HB q1)
  | (go_at_call 125; refine (one_c k _ _ (tells_script k) g A1 c1 e _ _ _ l l2 s w0 w1 B1.out hg g1 K1.out P1.out H1.out).mono ?_; rintro e w2 ⟨rfl, ⟨A2, c2, g1', g2, g3⟩, g4, g5⟩; obtain ⟨-, -, -, -, f4, -⟩ := fz10 g2; obtain ⟨-, -, -, -, y4, -⟩ := cz10 g2; have K2 := Aside0.mk (blk_put g2 4 (.string s) rfl); have P2 := Aside0.mk (g3.keep ((KeepBut.refl w2 g none).set_ 4 (.string s))); have B2 := Aside0.mk (below_set (j := 4) (v := .string s) g4 hg); have N2 := Aside0.mk (N1.out.trans (g5.trans ((KeepBut.refl w2 g none).set_ 4 (.string s)) (.inl rfl)) (.inl rfl)); clear g2 g3 g4 g5 K1 P1 B1 N1)
  | (go_at_call 125; refine (one_c k _ _ (tells_region k) g A2 c2 e _ _ _ l2 [] y w0 (w2.setCell ⟨g, 4, none⟩ (.string s)) B2.out hg g1' K2.out P2.out H2.out).mono ?_; rintro e w3 ⟨rfl, ⟨A3, c3, -, g2, -⟩, g4, g5⟩; obtain ⟨-, -, -, -, -, f5, -⟩ := fz10 g2; obtain ⟨y0, -, -, -, -, y5, -⟩ := cz10 g2; have K3 := Aside0.mk (blk_put g2 5 (.string y) rfl); have B3 := Aside0.mk (below_set (j := 5) (v := .string y) g4 hg); have N3 := Aside0.mk (N2.out.trans (g5.trans ((KeepBut.refl w3 g none).set_ 5 (.string y)) (.inl rfl)) (.inl rfl)); clear g2 g4 g5 K2 P2 B2 N2 y4 f4)
  | (go_at_call 128; refine (variants_c g A3 c3 e _ _ _ (w3.setCell ⟨g, 5, none⟩ (.string y)) K3.out).mono ?_; rintro e w4 ⟨rfl, ⟨nd, rfl⟩⟩)
  | (go_at_call 129; refine (extensions_c g A3 c3 e _ _ _ _ (by exact K3.out)).mono ?_; rintro e w5 ⟨rfl, hb⟩; have K5 := Aside0.mk ((hb.block g (Array.getElem?_eq_some_iff.1 K3.out).1).trans K3.out); have B5 := Aside0.mk ((pw_below_drewN B3.out nd).trans (hb.mono (pw_below_drewN B3.out nd).size)); have N5 := Aside0.mk (N3.out.trans (KeepBut.of_below (pw_below_drewN (Below.refl _ _) nd |>.trans hb) g none) (.inl rfl)); obtain ⟨z0, -⟩ := cz10 K5.out; clear hb)
  | (go_at_call 123; refine (here_c k g _ c3 _ _ _ _ [] _ (by exact K5.out) (PS.nil _ _ _) ⟨#[]⟩ rfl).mono ?_; rintro e w6 ⟨rfl, ⟨nd, rfl⟩⟩))
 go_end0
 exact ⟨rfl, ⟨A3, c3, Nat.zero_le _, K5.out, PS.nil _ _ _⟩, pw_below_drewN B5.out _, N5.out.trans (keep_drewN (KeepBut.refl w5 g none) _) (.inl rfl)⟩
end Go.Proofs.YtpmcfckechjppaaGreatDoor.Ps
