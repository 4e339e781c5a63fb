/- Made by a program of this seat's own (shake.py, merge.py): what the claim leans on: P7, P8. -/
import Derived.Test.YtpmcfckechjppaaGreatDoorTa04
import Derived.Test.YtpmcfckechjppaaGreatDoorTa05
namespace Go.Proofs.YtpmcfckechjppaaGreatDoor.P
open Go.RowKit Go.Proofs.YtpmcfckechjppaaGreatDoorW.PrintWords Go.Proofs.YtpmcfckechjppaaGreatDoorW.PrintLast Go.Proofs.YtpmcfckechjppaaGreatDoorW.PrintMore
attribute [local go_sem] StrOrd.binOp_gtr StrOrd.binOp_leq max2_int min2_int max_two min_two max_three min_three max_four min_four   -- for this text's walks alone
set_option linter.unusedVariables false
set_option linter.unusedSimpArgs false
set_option maxRecDepth 100000
set_option maxHeartbeats 8000000
def filter_word.f (k : Nat) (a0 : Int) (a1 : ByteArray) : Option (Bool) := if (a1.size : Int) ≤ 8 then ((ascii_Alpha.f k a1).bind fun t210 => (if t210 = true then (some true) else (if a0 > 0 then ((ascii_Alnum.f k a1).bind fun t211 => (some t211)) else (some false)))) else (some false)
theorem filter_word.calls (k : Nat) (a0 : Int) (a1 : ByteArray) (r : Bool) (w : World) (h : filter_word.f k a0 a1 = some r) :
 Calls Tryz.prog 155 #[.int .i64 a0, .string a1] w fun e w' => e = .returned (.bool r) ∧ Drawn0 w w' := by
 have H : (if (a1.size : Int) ≤ 8 then ((ascii_Alpha.f k a1).bind fun t210 => (if t210 = true then (some true) else (if a0 > 0 then ((ascii_Alnum.f k a1).bind fun t211 => (some t211)) else (some false)))) else (some false)) = some r := h; clear h; by_cases c3 : (a1.size : Int) ≤ 8
 ·
  rw [if_pos c3] at H
  have c3b0 : decide ((a1.size : Int) ≤ 8) = true := decide_eq_true c3; have c3b1 : decide (a1.size ≤ 8) = true := decide_eq_true (by omega); clear c3; replace H := Option.bind_eq_some_iff.mp H; obtain ⟨t210, A40, H⟩ := H; have A4 := ak A40; clear A40; by_cases c5 : t210 = true
  ·
   subst c5; have H1 : (some true) = some r := by rw [if_pos rfl] at H; exact H
   clear H; have H := H1; clear H1; obtain rfl := Option.some.inj H; go_enter Tryz.func155, Tryz.ntmps155
   go_wp2_with (first | (go_at_call 178; (with_reducible refine (ascii_Alpha.calls k a1 true _ A4.out).mono ?_); rintro e w' ⟨rfl, ⟨nd, rfl⟩⟩; (try clear A4)))
   go_ret
   exact ⟨by first | rfl | (simp; done) | (simp [*]; done), by repeat (first | exact Drawn0.refl _ | apply Drawn0.step)⟩
  ·
   replace c5 := Bool.eq_false_iff.mpr c5; subst c5; have H1 : (if a0 > 0 then ((ascii_Alnum.f k a1).bind fun t211 => (some t211)) else (some false)) = some r := by rw [if_neg (show ¬ (false = true) by decide)] at H; exact H
   clear H; have H := H1; clear H1; by_cases c6 : a0 > 0
   ·
    rw [if_pos c6] at H
    have c6b0 : decide (0 < a0) = true := decide_eq_true c6; clear c6; replace H := Option.bind_eq_some_iff.mp H; obtain ⟨t211, A70, H⟩ := H; have A7 := ak A70; clear A70; obtain rfl := Option.some.inj H; go_enter Tryz.func155, Tryz.ntmps155
    go_wp2_with (first | (go_at_call 178; (with_reducible refine (ascii_Alpha.calls k a1 false _ A4.out).mono ?_); rintro e w' ⟨rfl, ⟨nd, rfl⟩⟩; (try clear A4)) | (go_at_call 175; (with_reducible refine (ascii_Alnum.calls k a1 t211 _ A7.out).mono ?_); rintro e w' ⟨rfl, ⟨nd, rfl⟩⟩; (try clear A7)))
    go_ret
    exact ⟨by first | rfl | (simp; done) | (simp [*]; done), by repeat (first | exact Drawn0.refl _ | apply Drawn0.step)⟩
   ·
    rw [if_neg c6] at H
    have c6b0 : decide (0 < a0) = false := decide_eq_false c6; clear c6; obtain rfl := Option.some.inj H; go_enter Tryz.func155, Tryz.ntmps155
    go_wp2_with (first | (go_at_call 178; (with_reducible refine (ascii_Alpha.calls k a1 false _ A4.out).mono ?_); rintro e w' ⟨rfl, ⟨nd, rfl⟩⟩; (try clear A4)))
    go_ret
    exact ⟨by first | rfl | (simp; done) | (simp [*]; done), by repeat (first | exact Drawn0.refl _ | apply Drawn0.step)⟩
 ·
  rw [if_neg c3] at H
  have c3b0 : decide ((a1.size : Int) ≤ 8) = false := decide_eq_false c3; have c3b1 : decide (a1.size ≤ 8) = false := decide_eq_false (by omega); clear c3; obtain rfl := Option.some.inj H; go_enter Tryz.func155, Tryz.ntmps155
  go_wp2
  go_ret
  exact ⟨by first | rfl | (simp; done) | (simp [*]; done), by repeat (first | exact Drawn0.refl _ | apply Drawn0.step)⟩

def isoglossref20_Extended.l0 : Nat → List ByteArray → Int → Option (Bool)
 | 0, _, _ => none
 | k + 1, x3, x4 => if x4 < (x3.length : Int) then (if 0 ≤ x4 then (if (rdOf ByteArray.empty x3 x4).toList = ([42] : List UInt8) then (isoglossref20_Extended.l0 k x3 (wrap64 (x4 + 1))) else ((isoglossref20_word.f k (rdOf ByteArray.empty x3 x4) (x4 == 0)).bind fun t217 => (if t217 = true then (isoglossref20_Extended.l0 k x3 (wrap64 (x4 + 1))) else (some false)))) else (none)) else (some true)
def isoglossref20_Extended.f (k : Nat) (a0 : ByteArray) : Option (Bool) := (isoglossref04_Split.f k a0).bind fun t212 => (isoglossref20_Extended.l0 k t212 0)
theorem isoglossref20_Extended.calls (k : Nat) (a0 : ByteArray) (r : Bool) (w : World) (h : isoglossref20_Extended.f k a0 = some r) :
 Calls Tryz.prog 82 #[.string a0] w fun e w' => e = .returned (.bool r) ∧ Below w.heap.size w w' := by
 have HB := ak (Below.refl w.heap.size w); have H : ((isoglossref04_Split.f k a0).bind fun t212 => (isoglossref20_Extended.l0 k t212 0)) = some r := h; clear h; replace H := Option.bind_eq_some_iff.mp H; obtain ⟨t212, A20, H⟩ := H; have A2 := ak A20; clear A20; have H' := ak H; clear H; go_enter Tryz.func82, Tryz.ntmps82
 go_wp2_with (first | ((with_reducible refine gate_callee (f := 46) rfl ?_); refine goesL_ (some 7) rfl rfl Tryz.func46 (by kernel_rfl) rfl #[.string a0] rfl mq ?_; (with_reducible refine (isoglossref04_Split.calls k a0 t212 _ A2.out).mono ?_); rintro e w3 ⟨v213, rfl, ho0, hb⟩; refine ⟨_, rfl, ?_⟩; have n0_ := ak (Kd.R_lower ho0 (below_size bq)); have n1_ := ak (below_step bq hb); clear HB; have Zo := n0_; have HB := n1_; clear n0_ n1_; (try clear hb); (try clear hb2); (try clear hk); (try clear hi); (try clear ho0); (try clear A2)))
 go_loopg [4] k (fun kq v4 w' => ∃ (Zc : Int), v4 = .int .i64 Zc ∧ Aside0 (isoglossref20_Extended.l0 kq t212 Zc = some r) ∧ Aside0 (kq ≤ k) ∧ Aside0 (Kd.R Kd.string 9 w' w.heap.size (fun _ => True) v213 t212) ∧ Aside0 (Below w.heap.size w w'))
 case atStart => exact ⟨(0), (by first | rfl | (simp; done) | (simp [*]; done)), H', ⟨Nat.le_refl _⟩, ⟨(rx Zo.out)⟩, ⟨bq⟩⟩
 case round =>
  clear H'; obtain ⟨Zc, rfl, HA, HK1, Zh, HB⟩ := hrel; cases gk with
  | zero => exact absurd HA.out (by simp [isoglossref20_Extended.l0])
  | succ k1 =>
   have H := HA.out; clear HA; simp only [isoglossref20_Extended.l0] at H
   by_cases c4 : Zc < (t212.length : Int)
   ·
    rw [if_pos c4] at H
    have c4b0 : decide (Zc < (t212.length : Int)) = true := decide_eq_true c4; clear c4; by_cases c5 : 0 ≤ Zc
    ·
     rw [if_pos c5] at H
     have c5b0 : decide (0 ≤ Zc) = true := decide_eq_true c5; clear c5; by_cases c6 : (rdOf ByteArray.empty t212 Zc).toList = ([42] : List UInt8)
     ·
      rw [if_pos c6] at H
      have c6b0 : ((rdOf ByteArray.empty t212 Zc).toList == ([42] : List UInt8)) = true := beq_iff_eq.mpr c6; have c6b1 : ((rdOf ByteArray.empty t212 Zc).toList != ([42] : List UInt8)) = false := bne_eq_false_iff_eq.mpr c6; clear c6; have H' := ak H; clear H; obtain ⟨ZM, ZN, eo7⟩ := Kd.R_slice Zh.out; subst eo7; have p215 : 0 ≤ (Zc : Int) := of_decide_eq_true (by first | (with_reducible assumption) | assumption); have q215 : Zc < (t212.length : Int) := of_decide_eq_true (by first | (with_reducible assumption) | assumption); obtain ⟨Zj, e215, Zk⟩ := Kd.at_string (Kd.R_reads' Zh.out).2.2 Zc p215 q215; cases e215; replace p215 := eq_true p215; replace q215 := eq_true q215; go_wp2
      go_roundg k1
      case measure => have := HK1.out; omega
      case rel => exact ⟨(wrap64 (Zc + 1)), (by first | rfl | (simp; done) | (simp [*]; done)), H', ⟨by have := HK1.out; omega⟩, ⟨(rx Zh.out)⟩, ⟨bq⟩⟩
     ·
      rw [if_neg c6] at H
      have c6b0 : ((rdOf ByteArray.empty t212 Zc).toList == ([42] : List UInt8)) = false := beq_eq_false_iff_ne.mpr c6; have c6b1 : ((rdOf ByteArray.empty t212 Zc).toList != ([42] : List UInt8)) = true := bne_iff_ne.mpr c6; replace H := Option.bind_eq_some_iff.mp H; obtain ⟨t217, A80, H⟩ := H; have A8 := ak A80; clear A80; by_cases c9 : t217 = true
      ·
       subst c9; have H1 : (isoglossref20_Extended.l0 k1 t212 (wrap64 (Zc + 1))) = some r := by rw [if_pos rfl] at H; exact H
       clear H; have H := H1; clear H1; have H' := ak H; clear H; obtain ⟨ZG, ZH, eo10⟩ := Kd.R_slice Zh.out; subst eo10; have p215 : 0 ≤ (Zc : Int) := of_decide_eq_true (by first | (with_reducible assumption) | assumption); have q215 : Zc < (t212.length : Int) := of_decide_eq_true (by first | (with_reducible assumption) | assumption); obtain ⟨Zj, e215, Zk⟩ := Kd.at_string (Kd.R_reads' Zh.out).2.2 Zc p215 q215; cases e215; replace p215 := eq_true p215; replace q215 := eq_true q215; have p216 : 0 ≤ (Zc : Int) := of_decide_eq_true (by first | (with_reducible assumption) | assumption); have q216 : Zc < (t212.length : Int) := of_decide_eq_true (by first | (with_reducible assumption) | assumption); obtain ⟨Zl, e216, Zn⟩ := Kd.at_string (Kd.R_reads' Zh.out).2.2 Zc p216 q216; obtain rfl : Zj = Zl := (by injection e216); replace p216 := eq_true p216; replace q216 := eq_true q216; go_wp2_with (first | (go_at_call 47; (with_reducible refine (isoglossref20_word.calls k1 (rdOf ByteArray.empty t212 Zc) (Zc == 0) true _ A8.out).mono ?_); rintro e w' ⟨rfl, ⟨nd, rfl⟩⟩; (try clear A8)))
       go_roundg k1
       case measure => have := HK1.out; omega
       case rel => exact ⟨(wrap64 (Zc + 1)), (by first | rfl | (simp; done) | (simp [*]; done)), H', ⟨by have := HK1.out; omega⟩, ⟨(rx Zh.out)⟩, ⟨bq⟩⟩
      ·
       replace c9 := Bool.eq_false_iff.mpr c9; subst c9; have H1 : (some false) = some r := by rw [if_neg (show ¬ (false = true) by decide)] at H; exact H
       clear H; have H := H1; clear H1; obtain rfl := Option.some.inj H; obtain ⟨ZI, ZJ, eo11⟩ := Kd.R_slice Zh.out; subst eo11; have p215 : 0 ≤ (Zc : Int) := of_decide_eq_true (by first | (with_reducible assumption) | assumption); have q215 : Zc < (t212.length : Int) := of_decide_eq_true (by first | (with_reducible assumption) | assumption); obtain ⟨Zj, e215, Zk⟩ := Kd.at_string (Kd.R_reads' Zh.out).2.2 Zc p215 q215; cases e215; replace p215 := eq_true p215; replace q215 := eq_true q215; have p216 : 0 ≤ (Zc : Int) := of_decide_eq_true (by first | (with_reducible assumption) | assumption); have q216 : Zc < (t212.length : Int) := of_decide_eq_true (by first | (with_reducible assumption) | assumption); obtain ⟨Zl, e216, Zn⟩ := Kd.at_string (Kd.R_reads' Zh.out).2.2 Zc p216 q216; obtain rfl : Zj = Zl := (by injection e216); replace p216 := eq_true p216; replace q216 := eq_true q216; go_wp2_with (first | (go_at_call 47; (with_reducible refine (isoglossref20_word.calls k1 (rdOf ByteArray.empty t212 Zc) (Zc == 0) false _ A8.out).mono ?_); rintro e w' ⟨rfl, ⟨nd, rfl⟩⟩; (try clear A8)))
       go_ret
       exact ⟨by first | rfl | (simp [errW_none, errW_some] <;> rfl) | (simp [*, errW_none, errW_some] <;> rfl), bq⟩
    ·
     rw [if_neg c5] at H
     exact absurd H (by simp)
   ·
    rw [if_neg c4] at H
    have c4b0 : decide (Zc < (t212.length : Int)) = false := decide_eq_false c4; clear c4; obtain rfl := Option.some.inj H; obtain ⟨ZK, ZL, eo12⟩ := Kd.R_slice Zh.out; subst eo12; go_wp2
    go_ret
    exact ⟨by first | rfl | (simp [errW_none, errW_some] <;> rfl) | (simp [*, errW_none, errW_some] <;> rfl), bq⟩

def isoglossref20_walk.f : Nat → List ByteArray → List ByteArray → Option (Bool)
 | 0, _, _ => none
 | k + 1, l0, l1 => if (l0.length : Int) = 0 then (some true) else (if 0 < (l0.length : Int) then (if (rdOf ByteArray.empty l0 0).toList = ([42] : List UInt8) then (if 1 ≤ (l0.length : Int) then ((isoglossref20_walk.f k (l0.drop 1) l1).bind fun t220 => (some t220)) else (none)) else (if (l1.length : Int) = 0 then (some false) else (if 0 < (l1.length : Int) then ((isoglossref02_Compare.f k (rdOf ByteArray.empty l0 0) (rdOf ByteArray.empty l1 0)).bind fun t223 => (if t223 = 0 then (if 1 ≤ (l0.length : Int) then (if 1 ≤ (l1.length : Int) then ((isoglossref20_walk.f k (l0.drop 1) (l1.drop 1)).bind fun t226 => (some t226)) else (none)) else (none)) else (if ((rdOf ByteArray.empty l1 0).size : Int) = 1 then (some false) else (if 1 ≤ (l1.length : Int) then ((isoglossref20_walk.f k l0 (l1.drop 1)).bind fun t229 => (some t229)) else (none))))) else (none)))) else (none))
def isoglossref20_walk.T7 : Bool × List (List Nat × List Nat) := (true, [([], []), ([0], [0]), ([1], [1]), ([], []), ([3], [3]), ([4], [4]), ([2, 5], [2, 5]), ([6], [6])])
def isoglossref20_walk.B7 : List Nat := [0, 1, 3, 0, 8, 24, 63, 127]
theorem isoglossref20_walk.tab7 : rtab .any (opsOf Tryz.f83 7) = isoglossref20_walk.T7 := by kernel_rfl
theorem isoglossref20_walk.bits7 : waitsOk isoglossref20_walk.T7.2 isoglossref20_walk.B7 = true := by kernel_rfl
theorem isoglossref20_walk.calls (k : Nat) : ∀ (A0 : Option Addr) (c0 : Nat) (l0 : List ByteArray) (A1 : Option Addr) (c1 : Nat) (l1 : List ByteArray) (r : Bool) (w : World) (hr0 : Kd.C Kd.string w A0 l0.length l0) (hc0 : l0.length ≤ c0) (hr1 : Kd.C Kd.string w A1 l1.length l1) (hc1 : l1.length ≤ c1) (h : isoglossref20_walk.f k l0 l1 = some r),
 Calls Tryz.prog 83 #[.slice A0 l0.length c0, .slice A1 l1.length c1] w fun e w' => e = .returned (.bool r) ∧ Below w.heap.size w w' := by
 induction k using Nat.strongRecOn with
 | _ k ih =>
 intro A0 c0 l0 A1 c1 l1 r w hr0 hc0 hr1 hc1 h; cases k with
 | zero => exact absurd h (by simp [isoglossref20_walk.f])
 | succ k =>
 simp only [isoglossref20_walk.f] at h
 have HR0 := ak hr0; have HC0 := ak hc0; clear hr0 hc0; have HR1 := ak hr1; have HC1 := ak hc1; clear hr1 hc1; have HB := ak (Below.refl w.heap.size w); have H : (if (l0.length : Int) = 0 then (some true) else (if 0 < (l0.length : Int) then (if (rdOf ByteArray.empty l0 0).toList = ([42] : List UInt8) then (if 1 ≤ (l0.length : Int) then ((isoglossref20_walk.f k (l0.drop 1) l1).bind fun t220 => (some t220)) else (none)) else (if (l1.length : Int) = 0 then (some false) else (if 0 < (l1.length : Int) then ((isoglossref02_Compare.f k (rdOf ByteArray.empty l0 0) (rdOf ByteArray.empty l1 0)).bind fun t223 => (if t223 = 0 then (if 1 ≤ (l0.length : Int) then (if 1 ≤ (l1.length : Int) then ((isoglossref20_walk.f k (l0.drop 1) (l1.drop 1)).bind fun t226 => (some t226)) else (none)) else (none)) else (if ((rdOf ByteArray.empty l1 0).size : Int) = 1 then (some false) else (if 1 ≤ (l1.length : Int) then ((isoglossref20_walk.f k l0 (l1.drop 1)).bind fun t229 => (some t229)) else (none))))) else (none)))) else (none))) = some r := h; clear h; by_cases c3 : (l0.length : Int) = 0
 ·
  rw [if_pos c3] at H
  have c3b0 : ((l0.length : Int) == 0) = true := beq_iff_eq.mpr c3; have c3b1 : ((l0.length : Int) != 0) = false := bne_eq_false_iff_eq.mpr c3; clear c3; obtain rfl := Option.some.inj H; go_enter Tryz.func83, Tryz.ntmps83
  go_wp2
  go_ret
  exact ⟨by first | rfl | (simp [errW_none, errW_some] <;> rfl) | (simp [*, errW_none, errW_some] <;> rfl), bq⟩
 ·
  rw [if_neg c3] at H
  have c3b0 : ((l0.length : Int) == 0) = false := beq_eq_false_iff_ne.mpr c3; have c3b1 : ((l0.length : Int) != 0) = true := bne_iff_ne.mpr c3; have c3b2 : ¬ (l0 = []) := fun h_ => c3 (by rw [h_]; rfl)
  by_cases c4 : 0 < (l0.length : Int)
  ·
   rw [if_pos c4] at H
   have c4b0 : decide (0 < (l0.length : Int)) = true := decide_eq_true c4; have c4b1 : decide (0 < l0.length) = true := decide_eq_true (by omega); clear c4; by_cases c5 : (rdOf ByteArray.empty l0 0).toList = ([42] : List UInt8)
   ·
    rw [if_pos c5] at H
    have c5b0 : ((rdOf ByteArray.empty l0 0).toList == ([42] : List UInt8)) = true := beq_iff_eq.mpr c5; have c5b1 : ((rdOf ByteArray.empty l0 0).toList != ([42] : List UInt8)) = false := bne_eq_false_iff_eq.mpr c5; clear c5; by_cases c6 : 1 ≤ (l0.length : Int)
    ·
     rw [if_pos c6] at H
     have c6b0 := eq_true c6; have c6b1 : decide (1 ≤ (l0.length : Int)) = true := decide_eq_true c6; clear c6; replace H := Option.bind_eq_some_iff.mp H; obtain ⟨t220, A70, H⟩ := H; have A7 := ak A70; clear A70; obtain rfl := Option.some.inj H; have p218 : 0 ≤ (0 : Int) := (by omega); have q218 : 0 < (l0.length : Int) := of_decide_eq_true (by first | (with_reducible assumption) | assumption); obtain ⟨Zf, e218, Zd⟩ := Kd.at_string HR0.out 0 p218 q218; cases e218; have qi218 : (0 < l0.length) = True := eq_true (by omega); (try rw [show ((0 : Int)).toNat = 0 from rfl] at Zd)
     (try rw [Addr.add_zero'] at Zd)
     replace p218 := eq_true p218; replace q218 := eq_true q218; obtain ⟨i08, hi08, _, hsz8, _⟩ := info_parts info9; obtain ⟨A8, hcut8, hA8, hC8⟩ := print_drop_of (P := Tryz.prog) Value.string ⟨#[]⟩ 26 9 .i64 Tryz.underlying26 hi08 hsz8 (some Zf) c0 l0 1 (by omega) (of_decide_eq_true (by first | (with_reducible assumption) | assumption)) HC0.out; have HR219 := ak (Kd.C_of_reads (h1 := fun _ => rfl) (hA8 _ (Kd.reads_of_C HR0.out))); have HC219 := ak hC8; clear hA8 hC8 hi08 hsz8; go_enter Tryz.func83, Tryz.ntmps83
     go_wp2_with (first | ((with_reducible refine gate_callee (f := 83) rfl ?_); refine goesL_ (some 15) rfl rfl Tryz.func83 (by kernel_rfl) rfl #[.slice A8 (l0.drop 1).length (c0 - 1), .slice A1 l1.length c1] rfl (by (try simp only [List.map_toArray, List.map_cons, List.map_nil]); first | done | (rw [show (l0.drop 1).length = (l0.length - 1) from List.length_drop] <;> rfl) | rfl | (simp only [List.length_drop, List.length_take]; rfl)) ?_; (with_reducible refine (ih k (by omega) _ _ (l0.drop 1) _ _ l1 t220 _ ?side1 ?side2 ?side3 ?side4 A7.out).mono ?_); (case side1 => repeat (first | exact HR219.out | (with_reducible refine Kd.C_alloc ?_ _) | (with_reducible refine Kd.C_drewN ?_ _) | (with_reducible refine Kd.C_drew ?_))); (case side2 => exact HC219.out); (case side3 => repeat (first | exact HR1.out | (with_reducible refine Kd.C_alloc ?_ _) | (with_reducible refine Kd.C_drewN ?_ _) | (with_reducible refine Kd.C_drew ?_))); (case side4 => exact HC1.out); rintro e w9 ⟨rfl, hb⟩; refine ⟨_, rfl, ?_⟩; have n0_ := ak (below_step bq hb); clear HB; have HB := n0_; clear n0_; (try clear hb); (try clear hb2); (try clear hk); (try clear hi); (try clear A7)))
     go_ret
     exact ⟨by first | rfl | (simp [errW_none, errW_some] <;> rfl) | (simp [*, errW_none, errW_some] <;> rfl), bq⟩
    ·
     rw [if_neg c6] at H
     exact absurd H (by simp)
   ·
    rw [if_neg c5] at H
    have c5b0 : ((rdOf ByteArray.empty l0 0).toList == ([42] : List UInt8)) = false := beq_eq_false_iff_ne.mpr c5; have c5b1 : ((rdOf ByteArray.empty l0 0).toList != ([42] : List UInt8)) = true := bne_iff_ne.mpr c5; by_cases c10 : (l1.length : Int) = 0
    ·
     rw [if_pos c10] at H
     have Zp : ((l1.length : Int) == 0) = true := beq_iff_eq.mpr c10; have Zq : ((l1.length : Int) != 0) = false := bne_eq_false_iff_eq.mpr c10; clear c10; obtain rfl := Option.some.inj H; have p218 : 0 ≤ (0 : Int) := (by omega); have q218 : 0 < (l0.length : Int) := of_decide_eq_true (by first | (with_reducible assumption) | assumption); obtain ⟨Zf, e218, Zd⟩ := Kd.at_string HR0.out 0 p218 q218; cases e218; have qi218 : (0 < l0.length) = True := eq_true (by omega); (try rw [show ((0 : Int)).toNat = 0 from rfl] at Zd)
     (try rw [Addr.add_zero'] at Zd)
     replace p218 := eq_true p218; replace q218 := eq_true q218; go_enter Tryz.func83, Tryz.ntmps83
     go_wp2
     go_ret
     exact ⟨by first | rfl | (simp [errW_none, errW_some] <;> rfl) | (simp [*, errW_none, errW_some] <;> rfl), bq⟩
    ·
     rw [if_neg c10] at H
     have Zp : ((l1.length : Int) == 0) = false := beq_eq_false_iff_ne.mpr c10; have Zq : ((l1.length : Int) != 0) = true := bne_iff_ne.mpr c10; have Zv : ¬ (l1 = []) := fun h_ => c10 (by rw [h_]; rfl)
     by_cases c11 : 0 < (l1.length : Int)
     ·
      rw [if_pos c11] at H
      have Zw : decide (0 < (l1.length : Int)) = true := decide_eq_true c11; have Zx : decide (0 < l1.length) = true := decide_eq_true (by omega); clear c11; replace H := Option.bind_eq_some_iff.mp H; obtain ⟨t223, A120, H⟩ := H; have A12 := ak A120; clear A120; by_cases c13 : t223 = 0
      ·
       rw [if_pos c13] at H
       have Zr : (t223 == 0) = true := beq_iff_eq.mpr c13; have Zs : (t223 != 0) = false := bne_eq_false_iff_eq.mpr c13; (try (have Zy : (t223 : Int).toNat = 0 := by rw [c13]; rfl))
       try have Zz : (0 ≤ t223) = True := eq_true (by omega)
       try have c13b4_2 : (t223 < 2) = True := eq_true (by omega)
       try have c13b4_3 : (t223 < 3) = True := eq_true (by omega)
       try have c13b4_5 : (t223 < 5) = True := eq_true (by omega)
       clear c13; by_cases c14 : 1 ≤ (l0.length : Int)
       ·
        rw [if_pos c14] at H
        have ZA := eq_true c14; have ZB : decide (1 ≤ (l0.length : Int)) = true := decide_eq_true c14; clear c14; by_cases c15 : 1 ≤ (l1.length : Int)
        ·
         rw [if_pos c15] at H
         have ZC := eq_true c15; have ZD : decide (1 ≤ (l1.length : Int)) = true := decide_eq_true c15; clear c15; replace H := Option.bind_eq_some_iff.mp H; obtain ⟨t226, A160, H⟩ := H; have A16 := ak A160; clear A160; obtain rfl := Option.some.inj H; have p218 : 0 ≤ (0 : Int) := (by omega); have q218 : 0 < (l0.length : Int) := of_decide_eq_true (by first | (with_reducible assumption) | assumption); obtain ⟨Zf, e218, Zd⟩ := Kd.at_string HR0.out 0 p218 q218; cases e218; have qi218 : (0 < l0.length) = True := eq_true (by omega); (try rw [show ((0 : Int)).toNat = 0 from rfl] at Zd)
         (try rw [Addr.add_zero'] at Zd)
         replace p218 := eq_true p218; replace q218 := eq_true q218; go_enter Tryz.func83, Tryz.ntmps83
         try go_wp2
         have n0_ := ak (below_drew1 HB.out); clear HB; have HB := n0_; clear n0_; have p221 : 0 ≤ (0 : Int) := (by omega); have q221 : 0 < (l0.length : Int) := of_decide_eq_true (by first | (with_reducible assumption) | assumption); obtain ⟨Zi, e221, Za⟩ := Kd.at_string HR0.out 0 p221 q221; have hw221_0 := Za; (try rw [show ((0 : Int)).toNat = 0 from rfl] at hw221_0)
         (try rw [show 0 * 1 = 0 from rfl] at hw221_0)
         (try rw [Addr.add_zero'] at hw221_0)
         obtain rfl : Zf = Zi := (by injection e221); have qi221 : (0 < l0.length) = True := eq_true (by omega); (try rw [show ((0 : Int)).toNat = 0 from rfl] at Za)
         (try rw [Addr.add_zero'] at Za)
         replace Za := (HB.out.cell (World.block_lt_of_cell? w _ Za)).trans Za; replace p221 := eq_true p221; replace q221 := eq_true q221; have p222 : 0 ≤ (0 : Int) := (by omega); have q222 : 0 < (l1.length : Int) := of_decide_eq_true (by first | (with_reducible assumption) | assumption); obtain ⟨Zg, e222, Zb⟩ := Kd.at_string HR1.out 0 p222 q222; have hw222_0 := Zb; (try rw [show ((0 : Int)).toNat = 0 from rfl] at hw222_0)
         (try rw [show 0 * 1 = 0 from rfl] at hw222_0)
         (try rw [Addr.add_zero'] at hw222_0)
         cases e222; have qi222 : (0 < l1.length) = True := eq_true (by omega); (try rw [show ((0 : Int)).toNat = 0 from rfl] at Zb)
         (try rw [Addr.add_zero'] at Zb)
         replace Zb := (HB.out.cell (World.block_lt_of_cell? w _ Zb)).trans Zb; replace p222 := eq_true p222; replace q222 := eq_true q222; refine start_ (n := 8) (S := fun w' => w'.cell? Zf = some (.string (rdOf ByteArray.empty l0 0)) ∧ w'.cell? Zg = some (.string (rdOf ByteArray.empty l1 0))) (ds := []) #[false, false, false, false, false, false, false, false] (by kernel_rfl) rfl rfl ⟨((HB.out.cell (World.block_lt_of_cell? w _ hw221_0)).trans hw221_0), ((HB.out.cell (World.block_lt_of_cell? w _ hw222_0)).trans hw222_0)⟩ (fun hHeld => ?_); refine with_tabW isoglossref20_walk.tab7 isoglossref20_walk.bits7 (fun HT_ HW_ => ?_); generalize w.drew = w17 at HB Za Zb hHeld ⊢
         refine pu 0 (some 19) (M 8 1) ?_; refine pu 1 (some 20) (M 8 3) ?_; refine pu 3 (some 22) (M 8 11) ?_; refine pu 4 (some 23) (M 8 27) ?_; refine take_ (i := 2) (N := some 21) (v := ?_) (a' := ?_) (M 8 31) rfl rfl (take_ofW HT_.out HW_.out (by kernel_rfl)) (fun _ _ _ h => h) (Or.inl ⟨by rfl, ?_⟩) hHeld ?_ ?_; rotate_left
         ·
          rintro w' ⟨s0, s1⟩; go_simp; with_reducible rfl
         rotate_left
         ·
          simp only [Act.put, pA, pB, pC, i64_w, i32_w]; rfl
         refine take_ (i := 5) (N := some 24) (v := ?_) (a' := ?_) (M 8 63) rfl rfl (take_ofW HT_.out HW_.out (by kernel_rfl)) (fun _ _ _ h => h) (Or.inl ⟨by rfl, ?_⟩) hHeld ?_ ?_; rotate_left
         ·
          rintro w' ⟨s0, s1⟩; go_simp; with_reducible rfl
         rotate_left
         ·
          simp only [Act.put, pA, pB, pC, i64_w, i32_w]; rfl
         refine one_ (i := 6) (N := some 25) (M 8 127) rfl rfl (one_of HT_.out (by kernel_rfl)) (by decide) (fun K hK => ?_); refine goes_ Tryz.func18 (by kernel_rfl) rfl #[.string (rdOf ByteArray.empty l0 0), .string (rdOf ByteArray.empty l1 0)] (by rfl) rfl rfl mq ?_; with_reducible refine (isoglossref02_Compare.calls k (rdOf ByteArray.empty l0 0) (rdOf ByteArray.empty l1 0) t223 _ A12.out).mono ?_
         rintro e w18 ⟨rfl, hb⟩; refine ⟨_, rfl, ?_⟩; have n0_ := ak (below_step bq hb); clear HB; have HB := n0_; clear n0_; (try clear hb)
         (try clear hb2)
         (try clear hk)
         (try clear hi)
         refine hK.out _ _ ⟨((HB.out.cell (World.block_lt_of_cell? w _ hw221_0)).trans hw221_0), ((HB.out.cell (World.block_lt_of_cell? w _ hw222_0)).trans hw222_0)⟩ (fun hHeld => ?_); clear hK K; refine norm_ (a' := ?_) ?_ ?_; rotate_left
         ·
          show Act.put _ (some 25) _ = _
          simp only [Act.put, pA, pB, pC, i64_w, i32_w]; rfl
         refine pu 7 (some 26) (M 8 255) ?_; refine done_ (done_of HT_.out (by kernel_rfl)) ?_; try go_wp2
         have n0_ := ak (below_drew1 HB.out); clear HB; have HB := n0_; clear n0_; obtain ⟨i020, hi020, _, hsz20, _⟩ := info_parts info9; obtain ⟨A20, hcut20, hA20, hC20⟩ := print_drop_of (P := Tryz.prog) Value.string ⟨#[]⟩ 26 9 .i64 Tryz.underlying26 hi020 hsz20 (some Zf) c0 l0 1 (by omega) (of_decide_eq_true (by first | (with_reducible assumption) | assumption)) HC0.out; have HR224 := ak (Kd.C_of_reads (h1 := fun _ => rfl) (hA20 _ (Kd.reads_of_C HR0.out))); have HC224 := ak hC20; clear hA20 hC20 hi020 hsz20; obtain ⟨i021, hi021, _, hsz21, _⟩ := info_parts info9; obtain ⟨A21, hcut21, hA21, hC21⟩ := print_drop_of (P := Tryz.prog) Value.string ⟨#[]⟩ 26 9 .i64 Tryz.underlying26 hi021 hsz21 (some Zg) c1 l1 1 (by omega) (of_decide_eq_true (by first | (with_reducible assumption) | assumption)) HC1.out; have HR225 := ak (Kd.C_of_reads (h1 := fun _ => rfl) (hA21 _ (Kd.reads_of_C HR1.out))); have HC225 := ak hC21; clear hA21 hC21 hi021 hsz21; refine start_ (n := 6) (S := fun w' => True) (ds := []) #[false, false, false, false, false, false] (by kernel_rfl) rfl rfl trivial (fun hHeld => ?_); generalize w18.drew = w19 at HB HR224 HR225 hHeld ⊢
         refine pure_ (i := 0) (N := some 27) (v := ?_) (a' := ?_) (M 6 1) rfl rfl (by kernel_rfl) (fun _ _ _ h => h) (Or.inl ⟨by rfl, ?_⟩) ?_ ?_; rotate_left
         ·
          intro w'; go_simp; with_reducible rfl
         rotate_left
         ·
          simp only [Act.put, pA, pB, pC, i64_w, i32_w]; rfl
         refine pure_ (i := 1) (N := some 28) (v := ?_) (a' := ?_) (M 6 3) rfl rfl (by kernel_rfl) (fun _ _ _ h => h) (Or.inl ⟨by rfl, ?_⟩) ?_ ?_; rotate_left
         ·
          intro w'; go_simp; with_reducible rfl
         rotate_left
         ·
          simp only [Act.put, pA, pB, pC, i64_w, i32_w]; rfl
         refine pure_ (i := 2) (N := some 29) (v := ?_) (a' := ?_) (M 6 7) rfl rfl (by kernel_rfl) (fun _ _ _ h => h) (Or.inl ⟨by rfl, ?_⟩) ?_ ?_; rotate_left
         ·
          intro w'; go_simp; with_reducible rfl
         rotate_left
         ·
          simp only [Act.put, pA, pB, pC, i64_w, i32_w]; rfl
         refine pure_ (i := 3) (N := some 30) (v := ?_) (a' := ?_) (M 6 15) rfl rfl (by kernel_rfl) (fun _ _ _ h => h) (Or.inl ⟨by rfl, ?_⟩) ?_ ?_; rotate_left
         ·
          intro w'; go_simp; with_reducible rfl
         rotate_left
         ·
          simp only [Act.put, pA, pB, pC, i64_w, i32_w]; rfl
         refine one_ (i := 4) (N := some 31) (M 6 31) rfl rfl (by kernel_rfl) (by decide) (fun K hK => ?_); refine goes_ Tryz.func83 (by kernel_rfl) rfl #[.slice A20 (l0.drop 1).length (c0 - 1), .slice A21 (l1.drop 1).length (c1 - 1)] (by rfl) rfl rfl (by (try simp only [List.map_toArray, List.map_cons, List.map_nil]); first | done | (rw [show (l0.drop 1).length = (l0.length - 1) from List.length_drop] <;> rfl) | (rw [show (l1.drop 1).length = (l1.length - 1) from List.length_drop] <;> rfl) | rfl | (simp only [List.length_drop, List.length_take]; rfl)) ?_; with_reducible refine (ih k (by omega) _ _ (l0.drop 1) _ _ (l1.drop 1) t226 _ ?side1 ?side2 ?side3 ?side4 A16.out).mono ?_
         (case side1 => repeat (first | exact (Kd.C_below HR224.out HB.out) | (with_reducible refine Kd.C_alloc ?_ _) | (with_reducible refine Kd.C_drewN ?_ _) | (with_reducible refine Kd.C_drew ?_)))
         (case side2 => exact HC224.out)
         (case side3 => repeat (first | exact (Kd.C_below HR225.out HB.out) | (with_reducible refine Kd.C_alloc ?_ _) | (with_reducible refine Kd.C_drewN ?_ _) | (with_reducible refine Kd.C_drew ?_)))
         (case side4 => exact HC225.out)
         rintro e w22 ⟨rfl, hb⟩; refine ⟨_, rfl, ?_⟩; have n0_ := ak (below_step bq hb); clear HB; have HB := n0_; clear n0_; (try clear hb)
         (try clear hb2)
         (try clear hk)
         (try clear hi)
         refine hK.out _ _ trivial (fun hHeld => ?_); clear hK K; refine norm_ (a' := ?_) ?_ ?_; rotate_left
         ·
          show Act.put _ (some 31) _ = _
          simp only [Act.put, pA, pB, pC, i64_w, i32_w]; rfl
         refine pure_ (i := 5) (N := some 4) (v := ?_) (a' := ?_) (M 6 63) rfl rfl (by kernel_rfl) (fun _ _ _ h => h) (Or.inl ⟨by rfl, ?_⟩) ?_ ?_; rotate_left
         ·
          intro w'; go_simp; with_reducible rfl
         rotate_left
         ·
          simp only [Act.put, pA, pB, pC, i64_w, i32_w]; rfl
         refine done_ (by kernel_rfl) ?_; try go_wp2
         go_ret
         exact ⟨by first | rfl | (simp [errW_none, errW_some] <;> rfl) | (simp [*, errW_none, errW_some] <;> rfl), bq⟩
        ·
         rw [if_neg c15] at H
         exact absurd H (by simp)
       ·
        rw [if_neg c14] at H
        exact absurd H (by simp)
      ·
       rw [if_neg c13] at H
       have Zr : (t223 == 0) = false := beq_eq_false_iff_ne.mpr c13; have Zs : (t223 != 0) = true := bne_iff_ne.mpr c13; by_cases c23 : ((rdOf ByteArray.empty l1 0).size : Int) = 1
       ·
        rw [if_pos c23] at H
        have Zt : (((rdOf ByteArray.empty l1 0).size : Int) == 1) = true := beq_iff_eq.mpr c23; have Zu : (((rdOf ByteArray.empty l1 0).size : Int) != 1) = false := bne_eq_false_iff_eq.mpr c23; clear c23; obtain rfl := Option.some.inj H; have p218 : 0 ≤ (0 : Int) := (by omega); have q218 : 0 < (l0.length : Int) := of_decide_eq_true (by first | (with_reducible assumption) | assumption); obtain ⟨Zf, e218, Zd⟩ := Kd.at_string HR0.out 0 p218 q218; cases e218; have qi218 : (0 < l0.length) = True := eq_true (by omega); (try rw [show ((0 : Int)).toNat = 0 from rfl] at Zd)
        (try rw [Addr.add_zero'] at Zd)
        replace p218 := eq_true p218; replace q218 := eq_true q218; go_enter Tryz.func83, Tryz.ntmps83
        try go_wp2
        have n0_ := ak (below_drew1 HB.out); clear HB; have HB := n0_; clear n0_; have p221 : 0 ≤ (0 : Int) := (by omega); have q221 : 0 < (l0.length : Int) := of_decide_eq_true (by first | (with_reducible assumption) | assumption); obtain ⟨Zi, e221, Za⟩ := Kd.at_string HR0.out 0 p221 q221; have hw221_0 := Za; (try rw [show ((0 : Int)).toNat = 0 from rfl] at hw221_0)
        (try rw [show 0 * 1 = 0 from rfl] at hw221_0)
        (try rw [Addr.add_zero'] at hw221_0)
        obtain rfl : Zf = Zi := (by injection e221); have qi221 : (0 < l0.length) = True := eq_true (by omega); (try rw [show ((0 : Int)).toNat = 0 from rfl] at Za)
        (try rw [Addr.add_zero'] at Za)
        replace Za := (HB.out.cell (World.block_lt_of_cell? w _ Za)).trans Za; replace p221 := eq_true p221; replace q221 := eq_true q221; have p222 : 0 ≤ (0 : Int) := (by omega); have q222 : 0 < (l1.length : Int) := of_decide_eq_true (by first | (with_reducible assumption) | assumption); obtain ⟨Zg, e222, Zb⟩ := Kd.at_string HR1.out 0 p222 q222; have hw222_0 := Zb; (try rw [show ((0 : Int)).toNat = 0 from rfl] at hw222_0)
        (try rw [show 0 * 1 = 0 from rfl] at hw222_0)
        (try rw [Addr.add_zero'] at hw222_0)
        cases e222; have qi222 : (0 < l1.length) = True := eq_true (by omega); (try rw [show ((0 : Int)).toNat = 0 from rfl] at Zb)
        (try rw [Addr.add_zero'] at Zb)
        replace Zb := (HB.out.cell (World.block_lt_of_cell? w _ Zb)).trans Zb; replace p222 := eq_true p222; replace q222 := eq_true q222; refine start_ (n := 8) (S := fun w' => w'.cell? Zf = some (.string (rdOf ByteArray.empty l0 0)) ∧ w'.cell? Zg = some (.string (rdOf ByteArray.empty l1 0))) (ds := []) #[false, false, false, false, false, false, false, false] (by kernel_rfl) rfl rfl ⟨((HB.out.cell (World.block_lt_of_cell? w _ hw221_0)).trans hw221_0), ((HB.out.cell (World.block_lt_of_cell? w _ hw222_0)).trans hw222_0)⟩ (fun hHeld => ?_); refine with_tabW isoglossref20_walk.tab7 isoglossref20_walk.bits7 (fun HT_ HW_ => ?_); generalize w.drew = w24 at HB Za Zb hHeld ⊢
        refine pu 0 (some 19) (M 8 1) ?_; refine pu 1 (some 20) (M 8 3) ?_; refine pu 3 (some 22) (M 8 11) ?_; refine pu 4 (some 23) (M 8 27) ?_; refine take_ (i := 2) (N := some 21) (v := ?_) (a' := ?_) (M 8 31) rfl rfl (take_ofW HT_.out HW_.out (by kernel_rfl)) (fun _ _ _ h => h) (Or.inl ⟨by rfl, ?_⟩) hHeld ?_ ?_; rotate_left
        ·
         rintro w' ⟨s0, s1⟩; go_simp; with_reducible rfl
        rotate_left
        ·
         simp only [Act.put, pA, pB, pC, i64_w, i32_w]; rfl
        refine take_ (i := 5) (N := some 24) (v := ?_) (a' := ?_) (M 8 63) rfl rfl (take_ofW HT_.out HW_.out (by kernel_rfl)) (fun _ _ _ h => h) (Or.inl ⟨by rfl, ?_⟩) hHeld ?_ ?_; rotate_left
        ·
         rintro w' ⟨s0, s1⟩; go_simp; with_reducible rfl
        rotate_left
        ·
         simp only [Act.put, pA, pB, pC, i64_w, i32_w]; rfl
        refine one_ (i := 6) (N := some 25) (M 8 127) rfl rfl (one_of HT_.out (by kernel_rfl)) (by decide) (fun K hK => ?_); refine goes_ Tryz.func18 (by kernel_rfl) rfl #[.string (rdOf ByteArray.empty l0 0), .string (rdOf ByteArray.empty l1 0)] (by rfl) rfl rfl mq ?_; with_reducible refine (isoglossref02_Compare.calls k (rdOf ByteArray.empty l0 0) (rdOf ByteArray.empty l1 0) t223 _ A12.out).mono ?_
        rintro e w25 ⟨rfl, hb⟩; refine ⟨_, rfl, ?_⟩; have n0_ := ak (below_step bq hb); clear HB; have HB := n0_; clear n0_; (try clear hb)
        (try clear hb2)
        (try clear hk)
        (try clear hi)
        refine hK.out _ _ ⟨((HB.out.cell (World.block_lt_of_cell? w _ hw221_0)).trans hw221_0), ((HB.out.cell (World.block_lt_of_cell? w _ hw222_0)).trans hw222_0)⟩ (fun hHeld => ?_); clear hK K; refine norm_ (a' := ?_) ?_ ?_; rotate_left
        ·
         show Act.put _ (some 25) _ = _
         simp only [Act.put, pA, pB, pC, i64_w, i32_w]; rfl
        refine pu 7 (some 26) (M 8 255) ?_; refine done_ (done_of HT_.out (by kernel_rfl)) ?_; have p227 : 0 ≤ (0 : Int) := (by omega); have q227 : 0 < (l1.length : Int) := of_decide_eq_true (by first | (with_reducible assumption) | assumption); obtain ⟨Zm, e227, Ze⟩ := Kd.at_string HR1.out 0 p227 q227; obtain rfl : Zg = Zm := (by injection e227); have qi227 : (0 < l1.length) = True := eq_true (by omega); (try rw [show ((0 : Int)).toNat = 0 from rfl] at Ze)
        (try rw [Addr.add_zero'] at Ze)
        replace Ze := (HB.out.cell (World.block_lt_of_cell? w _ Ze)).trans Ze; replace p227 := eq_true p227; replace q227 := eq_true q227; try go_wp2
        go_ret
        exact ⟨by first | rfl | (simp [errW_none, errW_some] <;> rfl) | (simp [*, errW_none, errW_some] <;> rfl), bq⟩
       ·
        rw [if_neg c23] at H
        have Zt : (((rdOf ByteArray.empty l1 0).size : Int) == 1) = false := beq_eq_false_iff_ne.mpr c23; have Zu : (((rdOf ByteArray.empty l1 0).size : Int) != 1) = true := bne_iff_ne.mpr c23; by_cases c26 : 1 ≤ (l1.length : Int)
        ·
         rw [if_pos c26] at H
         have ZE := eq_true c26; have ZF : decide (1 ≤ (l1.length : Int)) = true := decide_eq_true c26; clear c26; replace H := Option.bind_eq_some_iff.mp H; obtain ⟨t229, A270, H⟩ := H; have A27 := ak A270; clear A270; obtain rfl := Option.some.inj H; have p218 : 0 ≤ (0 : Int) := (by omega); have q218 : 0 < (l0.length : Int) := of_decide_eq_true (by first | (with_reducible assumption) | assumption); obtain ⟨Zf, e218, Zd⟩ := Kd.at_string HR0.out 0 p218 q218; cases e218; have qi218 : (0 < l0.length) = True := eq_true (by omega); (try rw [show ((0 : Int)).toNat = 0 from rfl] at Zd)
         (try rw [Addr.add_zero'] at Zd)
         replace p218 := eq_true p218; replace q218 := eq_true q218; go_enter Tryz.func83, Tryz.ntmps83
         try go_wp2
         have n0_ := ak (below_drew1 HB.out); clear HB; have HB := n0_; clear n0_; have p221 : 0 ≤ (0 : Int) := (by omega); have q221 : 0 < (l0.length : Int) := of_decide_eq_true (by first | (with_reducible assumption) | assumption); obtain ⟨Zi, e221, Za⟩ := Kd.at_string HR0.out 0 p221 q221; have hw221_0 := Za; (try rw [show ((0 : Int)).toNat = 0 from rfl] at hw221_0)
         (try rw [show 0 * 1 = 0 from rfl] at hw221_0)
         (try rw [Addr.add_zero'] at hw221_0)
         obtain rfl : Zf = Zi := (by injection e221); have qi221 : (0 < l0.length) = True := eq_true (by omega); (try rw [show ((0 : Int)).toNat = 0 from rfl] at Za)
         (try rw [Addr.add_zero'] at Za)
         replace Za := (HB.out.cell (World.block_lt_of_cell? w _ Za)).trans Za; replace p221 := eq_true p221; replace q221 := eq_true q221; have p222 : 0 ≤ (0 : Int) := (by omega); have q222 : 0 < (l1.length : Int) := of_decide_eq_true (by first | (with_reducible assumption) | assumption); obtain ⟨Zg, e222, Zb⟩ := Kd.at_string HR1.out 0 p222 q222; have hw222_0 := Zb; (try rw [show ((0 : Int)).toNat = 0 from rfl] at hw222_0)
         (try rw [show 0 * 1 = 0 from rfl] at hw222_0)
         (try rw [Addr.add_zero'] at hw222_0)
         cases e222; have qi222 : (0 < l1.length) = True := eq_true (by omega); (try rw [show ((0 : Int)).toNat = 0 from rfl] at Zb)
         (try rw [Addr.add_zero'] at Zb)
         replace Zb := (HB.out.cell (World.block_lt_of_cell? w _ Zb)).trans Zb; replace p222 := eq_true p222; replace q222 := eq_true q222; refine start_ (n := 8) (S := fun w' => w'.cell? Zf = some (.string (rdOf ByteArray.empty l0 0)) ∧ w'.cell? Zg = some (.string (rdOf ByteArray.empty l1 0))) (ds := []) #[false, false, false, false, false, false, false, false] (by kernel_rfl) rfl rfl ⟨((HB.out.cell (World.block_lt_of_cell? w _ hw221_0)).trans hw221_0), ((HB.out.cell (World.block_lt_of_cell? w _ hw222_0)).trans hw222_0)⟩ (fun hHeld => ?_); refine with_tabW isoglossref20_walk.tab7 isoglossref20_walk.bits7 (fun HT_ HW_ => ?_); generalize w.drew = w28 at HB Za Zb hHeld ⊢
         refine pu 0 (some 19) (M 8 1) ?_; refine pu 1 (some 20) (M 8 3) ?_; refine pu 3 (some 22) (M 8 11) ?_; refine pu 4 (some 23) (M 8 27) ?_; refine take_ (i := 2) (N := some 21) (v := ?_) (a' := ?_) (M 8 31) rfl rfl (take_ofW HT_.out HW_.out (by kernel_rfl)) (fun _ _ _ h => h) (Or.inl ⟨by rfl, ?_⟩) hHeld ?_ ?_; rotate_left
         ·
          rintro w' ⟨s0, s1⟩; go_simp; with_reducible rfl
         rotate_left
         ·
          simp only [Act.put, pA, pB, pC, i64_w, i32_w]; rfl
         refine take_ (i := 5) (N := some 24) (v := ?_) (a' := ?_) (M 8 63) rfl rfl (take_ofW HT_.out HW_.out (by kernel_rfl)) (fun _ _ _ h => h) (Or.inl ⟨by rfl, ?_⟩) hHeld ?_ ?_; rotate_left
         ·
          rintro w' ⟨s0, s1⟩; go_simp; with_reducible rfl
         rotate_left
         ·
          simp only [Act.put, pA, pB, pC, i64_w, i32_w]; rfl
         refine one_ (i := 6) (N := some 25) (M 8 127) rfl rfl (one_of HT_.out (by kernel_rfl)) (by decide) (fun K hK => ?_); refine goes_ Tryz.func18 (by kernel_rfl) rfl #[.string (rdOf ByteArray.empty l0 0), .string (rdOf ByteArray.empty l1 0)] (by rfl) rfl rfl mq ?_; with_reducible refine (isoglossref02_Compare.calls k (rdOf ByteArray.empty l0 0) (rdOf ByteArray.empty l1 0) t223 _ A12.out).mono ?_
         rintro e w29 ⟨rfl, hb⟩; refine ⟨_, rfl, ?_⟩; have n0_ := ak (below_step bq hb); clear HB; have HB := n0_; clear n0_; (try clear hb)
         (try clear hb2)
         (try clear hk)
         (try clear hi)
         refine hK.out _ _ ⟨((HB.out.cell (World.block_lt_of_cell? w _ hw221_0)).trans hw221_0), ((HB.out.cell (World.block_lt_of_cell? w _ hw222_0)).trans hw222_0)⟩ (fun hHeld => ?_); clear hK K; refine norm_ (a' := ?_) ?_ ?_; rotate_left
         ·
          show Act.put _ (some 25) _ = _
          simp only [Act.put, pA, pB, pC, i64_w, i32_w]; rfl
         refine pu 7 (some 26) (M 8 255) ?_; refine done_ (done_of HT_.out (by kernel_rfl)) ?_; have p227 : 0 ≤ (0 : Int) := (by omega); have q227 : 0 < (l1.length : Int) := of_decide_eq_true (by first | (with_reducible assumption) | assumption); obtain ⟨Zm, e227, Ze⟩ := Kd.at_string HR1.out 0 p227 q227; obtain rfl : Zg = Zm := (by injection e227); have qi227 : (0 < l1.length) = True := eq_true (by omega); (try rw [show ((0 : Int)).toNat = 0 from rfl] at Ze)
         (try rw [Addr.add_zero'] at Ze)
         replace Ze := (HB.out.cell (World.block_lt_of_cell? w _ Ze)).trans Ze; replace p227 := eq_true p227; replace q227 := eq_true q227; obtain ⟨i030, hi030, _, hsz30, _⟩ := info_parts info9; obtain ⟨A30, hcut30, hA30, hC30⟩ := print_drop_of (P := Tryz.prog) Value.string ⟨#[]⟩ 26 9 .i64 Tryz.underlying26 hi030 hsz30 (some Zg) c1 l1 1 (by omega) (of_decide_eq_true (by first | (with_reducible assumption) | assumption)) HC1.out; have HR228 := ak (Kd.C_of_reads (h1 := fun _ => rfl) (hA30 _ (Kd.reads_of_C HR1.out))); have HC228 := ak hC30; clear hA30 hC30 hi030 hsz30; try go_wp2_with (first | ((with_reducible refine gate_callee (f := 83) rfl ?_); refine goesL_ (some 40) rfl rfl Tryz.func83 (by kernel_rfl) rfl #[.slice (some Zf) l0.length c0, .slice A30 (l1.drop 1).length (c1 - 1)] rfl (by (try simp only [List.map_toArray, List.map_cons, List.map_nil]); first | done | (rw [show (l1.drop 1).length = (l1.length - 1) from List.length_drop] <;> rfl) | rfl | (simp only [List.length_drop, List.length_take]; rfl)) ?_; (with_reducible refine (ih k (by omega) _ _ l0 _ _ (l1.drop 1) t229 _ ?side1 ?side2 ?side3 ?side4 A27.out).mono ?_); (case side1 => repeat (first | exact (Kd.C_below HR0.out HB.out) | (with_reducible refine Kd.C_alloc ?_ _) | (with_reducible refine Kd.C_drewN ?_ _) | (with_reducible refine Kd.C_drew ?_))); (case side2 => exact HC0.out); (case side3 => repeat (first | exact (Kd.C_below HR228.out HB.out) | (with_reducible refine Kd.C_alloc ?_ _) | (with_reducible refine Kd.C_drewN ?_ _) | (with_reducible refine Kd.C_drew ?_))); (case side4 => exact HC228.out); rintro e w31 ⟨rfl, hb⟩; refine ⟨_, rfl, ?_⟩; have n0_ := ak (below_step bq hb); clear HB; have HB := n0_; clear n0_; (try clear hb); (try clear hb2); (try clear hk); (try clear hi); (try clear A27)))
         go_ret
         exact ⟨by first | rfl | (simp [errW_none, errW_some] <;> rfl) | (simp [*, errW_none, errW_some] <;> rfl), bq⟩
        ·
         rw [if_neg c26] at H
         exact absurd H (by simp)
     ·
      rw [if_neg c11] at H
      exact absurd H (by simp)
  ·
   rw [if_neg c4] at H
   exact absurd H (by simp)
def isoglossref20_MatchesExtended.f (k : Nat) (a0 : ByteArray) (a1 : ByteArray) : Option (Bool) := (isoglossref20_Extended.f k a0).bind fun t230 => ((isoglossref04_Split.f k a0).bind fun t231 => ((isoglossref04_Split.f k a1).bind fun t234 => (if t230 = true then (if 0 < (t231.length : Int) then (if (rdOf ByteArray.empty t231 0).toList = ([42] : List UInt8) then (if 1 ≤ (t231.length : Int) then (if 1 ≤ (t234.length : Int) then ((isoglossref20_walk.f k (t231.drop 1) (t234.drop 1)).bind fun t246 => (some t246)) else (none)) else (none)) else (if 0 < (t234.length : Int) then ((isoglossref02_Compare.f k (rdOf ByteArray.empty t231 0) (rdOf ByteArray.empty t234 0)).bind fun t249 => (if t249 = 0 then (if 1 ≤ (t231.length : Int) then (if 1 ≤ (t234.length : Int) then ((isoglossref20_walk.f k (t231.drop 1) (t234.drop 1)).bind fun t258 => (some t258)) else (none)) else (none)) else (some false))) else (none))) else (none)) else (some false))))
def isoglossref20_MatchesExtended.T4 : Bool × List (List Nat × List Nat) := (true, [([], []), ([0], [0]), ([1], [1]), ([2], [2]), ([3, 2], [2, 3]), ([4, 2], [2, 4]), ([5, 2], [2, 5]), ([6, 2, 2], [2, 6]), ([7], [7]), ([8, 7], [7, 8]), ([9, 7], [7, 9]), ([7], [7]), ([11, 7], [7, 11]), ([12, 7], [7, 12]), ([10, 13, 7, 7], [7, 10, 13]), ([14, 7], [7, 14]), ([7, 15, 2], [2, 7, 15]), ([2, 16], [2, 16])])
def isoglossref20_MatchesExtended.B4 : List Nat := [0, 1, 3, 7, 15, 31, 63, 127, 255, 511, 1023, 255, 2303, 6399, 16383, 32767, 65535, 131071]
theorem isoglossref20_MatchesExtended.tab4 : rtab .any (opsOf Tryz.f50 4) = isoglossref20_MatchesExtended.T4 := by kernel_rfl
theorem isoglossref20_MatchesExtended.bits4 : waitsOk isoglossref20_MatchesExtended.T4.2 isoglossref20_MatchesExtended.B4 = true := by kernel_rfl
theorem isoglossref20_MatchesExtended.calls (k : Nat) (a0 : ByteArray) (a1 : ByteArray) (r : Bool) (w : World) (h : isoglossref20_MatchesExtended.f k a0 a1 = some r) :
 Calls Tryz.prog 50 #[.string a0, .string a1] w fun e w' => e = .returned (.bool r) ∧ Below w.heap.size w w' := by
 have HB := ak (Below.refl w.heap.size w); have H : ((isoglossref20_Extended.f k a0).bind fun t230 => ((isoglossref04_Split.f k a0).bind fun t231 => ((isoglossref04_Split.f k a1).bind fun t234 => (if t230 = true then (if 0 < (t231.length : Int) then (if (rdOf ByteArray.empty t231 0).toList = ([42] : List UInt8) then (if 1 ≤ (t231.length : Int) then (if 1 ≤ (t234.length : Int) then ((isoglossref20_walk.f k (t231.drop 1) (t234.drop 1)).bind fun t246 => (some t246)) else (none)) else (none)) else (if 0 < (t234.length : Int) then ((isoglossref02_Compare.f k (rdOf ByteArray.empty t231 0) (rdOf ByteArray.empty t234 0)).bind fun t249 => (if t249 = 0 then (if 1 ≤ (t231.length : Int) then (if 1 ≤ (t234.length : Int) then ((isoglossref20_walk.f k (t231.drop 1) (t234.drop 1)).bind fun t258 => (some t258)) else (none)) else (none)) else (some false))) else (none))) else (none)) else (some false))))) = some r := h; clear h; replace H := Option.bind_eq_some_iff.mp H; obtain ⟨t230, A30, H⟩ := H; have A3 := ak A30; clear A30; replace H := Option.bind_eq_some_iff.mp H; obtain ⟨t231, A40, H⟩ := H; have A4 := ak A40; clear A40; replace H := Option.bind_eq_some_iff.mp H; obtain ⟨t234, A50, H⟩ := H; have A5 := ak A50; clear A50; by_cases c6 : t230 = true
 ·
  subst c6; have H1 : (if 0 < (t231.length : Int) then (if (rdOf ByteArray.empty t231 0).toList = ([42] : List UInt8) then (if 1 ≤ (t231.length : Int) then (if 1 ≤ (t234.length : Int) then ((isoglossref20_walk.f k (t231.drop 1) (t234.drop 1)).bind fun t246 => (some t246)) else (none)) else (none)) else (if 0 < (t234.length : Int) then ((isoglossref02_Compare.f k (rdOf ByteArray.empty t231 0) (rdOf ByteArray.empty t234 0)).bind fun t249 => (if t249 = 0 then (if 1 ≤ (t231.length : Int) then (if 1 ≤ (t234.length : Int) then ((isoglossref20_walk.f k (t231.drop 1) (t234.drop 1)).bind fun t258 => (some t258)) else (none)) else (none)) else (some false))) else (none))) else (none)) = some r := by rw [if_pos rfl] at H; exact H
  clear H; have H := H1; clear H1; by_cases c7 : 0 < (t231.length : Int)
  ·
   rw [if_pos c7] at H
   have c7b0 : decide (0 < (t231.length : Int)) = true := decide_eq_true c7; have c7b1 : decide (0 < t231.length) = true := decide_eq_true (by omega); clear c7; by_cases c8 : (rdOf ByteArray.empty t231 0).toList = ([42] : List UInt8)
   ·
    rw [if_pos c8] at H
    have c8b0 : ((rdOf ByteArray.empty t231 0).toList == ([42] : List UInt8)) = true := beq_iff_eq.mpr c8; have c8b1 : ((rdOf ByteArray.empty t231 0).toList != ([42] : List UInt8)) = false := bne_eq_false_iff_eq.mpr c8; clear c8; by_cases c9 : 1 ≤ (t231.length : Int)
    ·
     rw [if_pos c9] at H
     have c9b0 := eq_true c9; have c9b1 : decide (1 ≤ (t231.length : Int)) = true := decide_eq_true c9; clear c9; obtain ⟨y238, Zh⟩ : ∃ y_ : List ByteArray, y_ = (t231.drop 1) := ⟨_, rfl⟩; replace H : (if 1 ≤ (t234.length : Int) then ((isoglossref20_walk.f k y238 (t234.drop 1)).bind fun t246 => (some t246)) else (none)) = some r := by first | (rw [Zh]; with_reducible exact H) | (have H2_ := (Option.bind_some _ _).symm.trans H; rw [Zh]; with_reducible exact H2_) | (have H2_ := (Option.bind_some _ _).symm.trans H; with_reducible exact H2_) | with_reducible exact H | (rw [Zh]; exact H) | exact H
     have Zv := ak Zh; clear Zh; by_cases c10 : 1 ≤ (t234.length : Int)
     ·
      rw [if_pos c10] at H
      have ZB := eq_true c10; have ZC : decide (1 ≤ (t234.length : Int)) = true := decide_eq_true c10; clear c10; obtain ⟨y242, Zi⟩ : ∃ y_ : List ByteArray, y_ = (t234.drop 1) := ⟨_, rfl⟩; replace H : ((isoglossref20_walk.f k y238 y242).bind fun t246 => (some t246)) = some r := by first | (rw [Zi]; with_reducible exact H) | (have H2_ := (Option.bind_some _ _).symm.trans H; rw [Zi]; with_reducible exact H2_) | (have H2_ := (Option.bind_some _ _).symm.trans H; with_reducible exact H2_) | with_reducible exact H | (rw [Zi]; exact H) | exact H
      have Zw := ak Zi; clear Zi; replace H := Option.bind_eq_some_iff.mp H; obtain ⟨t246, A110, H⟩ := H; have A11 := ak A110; clear A110; obtain rfl := Option.some.inj H; go_enter Tryz.func50, Tryz.ntmps50
      try go_wp2_with (first | ((with_reducible refine gate_callee (f := 82) rfl ?_); refine goesL_ (some 9) rfl rfl Tryz.func82 (by kernel_rfl) rfl #[.string a0] rfl mq ?_; (with_reducible refine (isoglossref20_Extended.calls k a0 true _ A3.out).mono ?_); rintro e w12 ⟨rfl, hb⟩; refine ⟨_, rfl, ?_⟩; have n0_ := ak (below_step bq hb); clear HB; have HB := n0_; clear n0_; (try clear hb); (try clear hb2); (try clear hk); (try clear hi); (try clear A3)) | ((with_reducible refine gate_callee (f := 46) rfl ?_); refine goesL_ (some 11) rfl rfl Tryz.func46 (by kernel_rfl) rfl #[.string a0] rfl mq ?_; (with_reducible refine (isoglossref04_Split.calls k a0 t231 _ A4.out).mono ?_); rintro e w13 ⟨v232, rfl, ho0, hb⟩; refine ⟨_, rfl, ?_⟩; have n0_ := ak (Kd.R_lower ho0 (below_size bq)); have n1_ := ak (below_step bq hb); clear HB; have Za := n0_; have HB := n1_; clear n0_ n1_; (try clear hb); (try clear hb2); (try clear hk); (try clear hi); (try clear ho0); (try clear A4)) | ((with_reducible refine gate_callee (f := 46) rfl ?_); refine goesL_ (some 13) rfl rfl Tryz.func46 (by kernel_rfl) rfl #[.string a1] rfl mq ?_; (with_reducible refine (isoglossref04_Split.calls k a1 t234 _ A5.out).mono ?_); rintro e w14 ⟨v235, rfl, ho0, hb⟩; refine ⟨_, rfl, ?_⟩; have n0_ := ak (Kd.R_elder' (rx Za.out) (Kd.R_base ho0) hb); have n1_ := ak (Kd.R_lower (Kd.R_new' ho0 (Kd.R_lt (rx Za.out))) (below_size bq)); have n2_ := ak (below_step bq hb); clear Za; clear HB; have Za := n0_; have Zb := n1_; have HB := n2_; clear n0_ n1_ n2_; (try clear hb); (try clear hb2); (try clear hk); (try clear hi); (try clear ho0); (try clear A5)))
      have n0_ := ak (Kd.R_drew Za.out); have n1_ := ak (Kd.R_drew Zb.out); have n2_ := ak (below_drew1 HB.out); clear Za Zb HB; have Za := n0_; have Zb := n1_; have HB := n2_; clear n0_ n1_ n2_; obtain ⟨ZL, Zl, eo16⟩ := Kd.R_slice Za.out; (first | subst eo16 | (injection eo16 with f1_ f2_ f3_; have f4_ := f1_.symm; have f5_ := f3_.symm; clear f1_ f2_ f3_; subst f4_; subst f5_))
      have p237 : 0 ≤ (0 : Int) := (by omega); have q237 : 0 < (t231.length : Int) := of_decide_eq_true (by first | (with_reducible assumption) | assumption); obtain ⟨Zd, e237, Zc⟩ := Kd.at_string (Kd.R_reads' Za.out).2.2 0 p237 q237; cases e237; have qi237 : (0 < t231.length) = True := eq_true (by omega); (try rw [show ((0 : Int)).toNat = 0 from rfl] at Zc)
      (try rw [Addr.add_zero'] at Zc)
      replace p237 := eq_true p237; replace q237 := eq_true q237; refine start_ (n := 18) (S := fun w' => w'.cell? Zd = some (.string (rdOf ByteArray.empty t231 0))) (ds := []) #[false, false, false, false, false, false, false, false, false, false, false, false, false, false, false, false, false, false] (by kernel_rfl) rfl rfl (Zc) (fun hHeld => ?_); refine with_tabW isoglossref20_MatchesExtended.tab4 isoglossref20_MatchesExtended.bits4 (fun HT_ HW_ => ?_); generalize w14.drew = w15 at Za Zb HB Zc hHeld ⊢
      refine pu 0 (some 14) (M 18 1) ?_; refine pu 1 (some 15) (M 18 3) ?_; refine pu 2 (some 16) (M 18 7) ?_; refine pu 3 (some 17) (M 18 15) ?_; refine pu 4 (some 18) (M 18 31) ?_; refine take_ (i := 5) (N := some 19) (v := ?_) (a' := ?_) (M 18 63) rfl rfl (take_ofW HT_.out HW_.out (by kernel_rfl)) (fun _ _ _ h => h) (Or.inl ⟨by rfl, ?_⟩) hHeld ?_ ?_; rotate_left
      ·
       intro w' s0; go_simp; with_reducible rfl
      rotate_left
      ·
       simp only [Act.put, pA, pB, pC, i64_w, i32_w]; rfl
      refine pu 6 (some 20) (M 18 127) ?_; refine pu 7 (some 21) (M 18 255) ?_; refine pn 8 (some 22) (M 18 511) ?_; refine pn 9 (some 23) (M 18 1023) ?_; refine pn 10 (some 24) (M 18 2047) ?_; refine pn 11 (some 25) (M 18 4095) ?_; refine pn 12 (some 26) (M 18 8191) ?_; refine pn 13 (some 27) (M 18 16383) ?_; refine pn 14 (some 28) (M 18 32767) ?_; refine pn 15 (some 29) (M 18 65535) ?_; refine pu 16 (some 30) (M 18 131071) ?_; refine pu 17 (some 31) (M 18 262143) ?_; refine done_ (done_of HT_.out (by kernel_rfl)) ?_; try go_wp2
      have n0_ := ak (Kd.R_drew Za.out); have n1_ := ak (Kd.R_drew Zb.out); have n2_ := ak (below_drew1 HB.out); clear Za Zb HB; have Za := n0_; have Zb := n1_; have HB := n2_; clear n0_ n1_ n2_; have q18 : (1 : Int) ≤ ((t231.length : Int) : Int) := of_decide_eq_true (by first | (with_reducible assumption) | assumption); obtain ⟨i018, hi018, _, hsz18, _⟩ := info_parts info9; have hroom18 : t231.length ≤ Zl := (Kd.R_reads' Za.out).2.1; have hC18 : Kd.C Kd.string _ (some Zd) t231.length t231 := (Kd.R_reads' Za.out).2.2; have hcut18 := cut_from (P := Tryz.prog) 26 9 .i64 Tryz.underlying26 hi018 1 hsz18 (some Zd) t231.length Zl 1 (by omega) q18; have hr18 := Kd.C_drop (m := (1 : Int).toNat) (c := Zl) hC18 (by omega) hroom18; obtain ⟨A18, hA18⟩ : ∃ A1, A1 = (if Zl = (1 : Int).toNat then (some Zd) else ((some Zd) : Option Addr).map (·.add ((1 : Int).toNat * 1))) := ⟨_, rfl⟩; obtain ⟨c18, hc18⟩ : ∃ c1, c1 = Zl - (1 : Int).toNat := ⟨_, rfl⟩; have Zp : y238.length = t231.length - (1 : Int).toNat := (by rw [Zv.out, List.length_drop] <;> omega); rw [show (t231).drop (1 : Int).toNat = y238 from Zv.out.symm] at hr18
      replace hr18 : Kd.C Kd.string _ A18 y238.length y238 := (by rw [hA18]; exact hr18); rw [← Zp, ← hA18, ← hc18] at hcut18
      have HR241 := ak hr18; have HC241 := ak (show y238.length ≤ c18 from by rw [Zp, hc18]; exact Nat.sub_le_sub_right hroom18 _); clear hr18 hC18 hroom18 hi018 hsz18 hc18; have KY18 := ak Zp; have KA18 := ak hA18; clear Zp hA18; have KL18 := ak (show 1 ≤ t231.length from by omega); replace q18 := eq_true q18; obtain ⟨Zq, Zm, eo20⟩ := Kd.R_slice Zb.out; (first | subst eo20 | (injection eo20 with f1_ f2_ f3_; have f4_ := f1_.symm; have f5_ := f3_.symm; clear f1_ f2_ f3_; subst f4_; subst f5_))
      have q19 : (1 : Int) ≤ ((t234.length : Int) : Int) := of_decide_eq_true (by first | (with_reducible assumption) | assumption); obtain ⟨i019, hi019, _, hsz19, _⟩ := info_parts info9; have hroom19 : t234.length ≤ Zm := (Kd.R_reads' Zb.out).2.1; have hC19 : Kd.C Kd.string _ Zq t234.length t234 := (Kd.R_reads' Zb.out).2.2; have hcut19 := cut_from (P := Tryz.prog) 26 9 .i64 Tryz.underlying26 hi019 1 hsz19 Zq t234.length Zm 1 (by omega) q19; have hr19 := Kd.C_drop (m := (1 : Int).toNat) (c := Zm) hC19 (by omega) hroom19; obtain ⟨A19, hA19⟩ : ∃ A1, A1 = (if Zm = (1 : Int).toNat then Zq else (Zq : Option Addr).map (·.add ((1 : Int).toNat * 1))) := ⟨_, rfl⟩; obtain ⟨c19, hc19⟩ : ∃ c1, c1 = Zm - (1 : Int).toNat := ⟨_, rfl⟩; have Zr : y242.length = t234.length - (1 : Int).toNat := (by rw [Zw.out, List.length_drop] <;> omega); rw [show (t234).drop (1 : Int).toNat = y242 from Zw.out.symm] at hr19
      replace hr19 : Kd.C Kd.string _ A19 y242.length y242 := (by rw [hA19]; exact hr19); rw [← Zr, ← hA19, ← hc19] at hcut19
      have HR245 := ak hr19; have HC245 := ak (show y242.length ≤ c19 from by rw [Zr, hc19]; exact Nat.sub_le_sub_right hroom19 _); clear hr19 hC19 hroom19 hi019 hsz19 hc19; have KY19 := ak Zr; have KA19 := ak hA19; clear Zr hA19; have KL19 := ak (show 1 ≤ t234.length from by omega); replace q19 := eq_true q19; refine start_ (n := 6) (S := fun w' => True) (ds := []) #[false, false, false, false, false, false] (by kernel_rfl) rfl rfl trivial (fun hHeld => ?_); generalize w15.drew = w17 at Za Zb HB HR241 HR245 hHeld ⊢
      refine pure_ (i := 0) (N := some 32) (v := ?_) (a' := ?_) (M 6 1) rfl rfl (by kernel_rfl) (fun _ _ _ h => h) (Or.inl ⟨by rfl, ?_⟩) ?_ ?_; rotate_left
      ·
       intro w'; go_simp; with_reducible rfl
      rotate_left
      ·
       simp only [Act.put, pA, pB, pC, i64_w, i32_w]; rfl
      refine pure_ (i := 1) (N := some 33) (v := ?_) (a' := ?_) (M 6 3) rfl rfl (by kernel_rfl) (fun _ _ _ h => h) (Or.inl ⟨by rfl, ?_⟩) ?_ ?_; rotate_left
      ·
       intro w'; go_simp; with_reducible rfl
      rotate_left
      ·
       simp only [Act.put, pA, pB, pC, i64_w, i32_w]; rfl
      refine pure_ (i := 2) (N := some 34) (v := ?_) (a' := ?_) (M 6 7) rfl rfl (by kernel_rfl) (fun _ _ _ h => h) (Or.inl ⟨by rfl, ?_⟩) ?_ ?_; rotate_left
      ·
       intro w'; go_simp; with_reducible rfl
      rotate_left
      ·
       simp only [Act.put, pA, pB, pC, i64_w, i32_w]; rfl
      refine pure_ (i := 3) (N := some 35) (v := ?_) (a' := ?_) (M 6 15) rfl rfl (by kernel_rfl) (fun _ _ _ h => h) (Or.inl ⟨by rfl, ?_⟩) ?_ ?_; rotate_left
      ·
       intro w'; go_simp; with_reducible rfl
      rotate_left
      ·
       simp only [Act.put, pA, pB, pC, i64_w, i32_w]; rfl
      refine one_ (i := 4) (N := some 36) (M 6 31) rfl rfl (by kernel_rfl) (by decide) (fun K hK => ?_); refine goes_ Tryz.func83 (by kernel_rfl) rfl #[.slice A18 y238.length c18, .slice A19 y242.length c19] (by rfl) rfl rfl mq ?_; with_reducible refine (isoglossref20_walk.calls k _ _ y238 _ _ y242 t246 _ ?side1 ?side2 ?side3 ?side4 A11.out).mono ?_
      (case side1 => repeat (first | exact (by repeat (first | (with_reducible exact HR241.out) | (with_reducible refine Kd.C_alloc ?_ _) | (with_reducible refine Kd.C_drewN ?_ _) | (with_reducible refine Kd.C_drew ?_) | exact HR241.out)) | (with_reducible refine Kd.C_alloc ?_ _) | (with_reducible refine Kd.C_drewN ?_ _) | (with_reducible refine Kd.C_drew ?_)))
      (case side2 => exact HC241.out)
      (case side3 => repeat (first | exact (by repeat (first | (with_reducible exact HR245.out) | (with_reducible refine Kd.C_alloc ?_ _) | (with_reducible refine Kd.C_drewN ?_ _) | (with_reducible refine Kd.C_drew ?_) | exact HR245.out)) | (with_reducible refine Kd.C_alloc ?_ _) | (with_reducible refine Kd.C_drewN ?_ _) | (with_reducible refine Kd.C_drew ?_)))
      (case side4 => exact HC245.out)
      rintro e w21 ⟨rfl, hb⟩; refine ⟨_, rfl, ?_⟩; have n0_ := ak (Kd.R_below (rx Za.out) hb); have n1_ := ak (Kd.R_below (rx Zb.out) hb); have n2_ := ak (Kd.C_below (by repeat (first | (with_reducible exact HR241.out) | (with_reducible refine Kd.C_alloc ?_ _) | (with_reducible refine Kd.C_drewN ?_ _) | (with_reducible refine Kd.C_drew ?_) | exact HR241.out)) hb); have n3_ := ak (Kd.C_below (by repeat (first | (with_reducible exact HR245.out) | (with_reducible refine Kd.C_alloc ?_ _) | (with_reducible refine Kd.C_drewN ?_ _) | (with_reducible refine Kd.C_drew ?_) | exact HR245.out)) hb); have n4_ := ak (below_step bq hb); clear Za Zb HR241 HR245 HB; have Za := n0_; have Zb := n1_; have HR241 := n2_; have HR245 := n3_; have HB := n4_; clear n0_ n1_ n2_ n3_ n4_; (try clear hb)
      (try clear hb2)
      (try clear hk)
      (try clear hi)
      refine hK.out _ _ trivial (fun hHeld => ?_); clear hK K; refine norm_ (a' := ?_) ?_ ?_; rotate_left
      ·
       show Act.put _ (some 36) _ = _
       simp only [Act.put, pA, pB, pC, i64_w, i32_w]; rfl
      refine pure_ (i := 5) (N := some 4) (v := ?_) (a' := ?_) (M 6 63) rfl rfl (by kernel_rfl) (fun _ _ _ h => h) (Or.inl ⟨by rfl, ?_⟩) ?_ ?_; rotate_left
      ·
       intro w'; go_simp; with_reducible rfl
      rotate_left
      ·
       simp only [Act.put, pA, pB, pC, i64_w, i32_w]; rfl
      refine done_ (by kernel_rfl) ?_; try go_wp2
      go_ret
      exact ⟨by first | rfl | (simp [errW_none, errW_some] <;> rfl) | (simp [*, errW_none, errW_some] <;> rfl), bq⟩
     ·
      rw [if_neg c10] at H
      exact absurd H (by simp)
    ·
     rw [if_neg c9] at H
     exact absurd H (by simp)
   ·
    rw [if_neg c8] at H
    have c8b0 : ((rdOf ByteArray.empty t231 0).toList == ([42] : List UInt8)) = false := beq_eq_false_iff_ne.mpr c8; have c8b1 : ((rdOf ByteArray.empty t231 0).toList != ([42] : List UInt8)) = true := bne_iff_ne.mpr c8; by_cases c22 : 0 < (t234.length : Int)
    ·
     rw [if_pos c22] at H
     have ZD : decide (0 < (t234.length : Int)) = true := decide_eq_true c22; have ZE : decide (0 < t234.length) = true := decide_eq_true (by omega); clear c22; replace H := Option.bind_eq_some_iff.mp H; obtain ⟨t249, A230, H⟩ := H; have A23 := ak A230; clear A230; by_cases c24 : t249 = 0
     ·
      rw [if_pos c24] at H
      have Zz : (t249 == 0) = true := beq_iff_eq.mpr c24; have ZA : (t249 != 0) = false := bne_eq_false_iff_eq.mpr c24; (try (have ZF : (t249 : Int).toNat = 0 := by rw [c24]; rfl))
      try have ZG : (0 ≤ t249) = True := eq_true (by omega)
      try have c24b4_2 : (t249 < 2) = True := eq_true (by omega)
      try have c24b4_3 : (t249 < 3) = True := eq_true (by omega)
      try have c24b4_5 : (t249 < 5) = True := eq_true (by omega)
      clear c24; by_cases c25 : 1 ≤ (t231.length : Int)
      ·
       rw [if_pos c25] at H
       have ZH := eq_true c25; have ZI : decide (1 ≤ (t231.length : Int)) = true := decide_eq_true c25; clear c25; obtain ⟨y250, Zj⟩ : ∃ y_ : List ByteArray, y_ = (t231.drop 1) := ⟨_, rfl⟩; replace H : (if 1 ≤ (t234.length : Int) then ((isoglossref20_walk.f k y250 (t234.drop 1)).bind fun t258 => (some t258)) else (none)) = some r := by first | (rw [Zj]; with_reducible exact H) | (have H2_ := (Option.bind_some _ _).symm.trans H; rw [Zj]; with_reducible exact H2_) | (have H2_ := (Option.bind_some _ _).symm.trans H; with_reducible exact H2_) | with_reducible exact H | (rw [Zj]; exact H) | exact H
       have Zx := ak Zj; clear Zj; by_cases c26 : 1 ≤ (t234.length : Int)
       ·
        rw [if_pos c26] at H
        have ZJ := eq_true c26; have ZK : decide (1 ≤ (t234.length : Int)) = true := decide_eq_true c26; clear c26; obtain ⟨y254, Zk⟩ : ∃ y_ : List ByteArray, y_ = (t234.drop 1) := ⟨_, rfl⟩; replace H : ((isoglossref20_walk.f k y250 y254).bind fun t258 => (some t258)) = some r := by first | (rw [Zk]; with_reducible exact H) | (have H2_ := (Option.bind_some _ _).symm.trans H; rw [Zk]; with_reducible exact H2_) | (have H2_ := (Option.bind_some _ _).symm.trans H; with_reducible exact H2_) | with_reducible exact H | (rw [Zk]; exact H) | exact H
        have Zy := ak Zk; clear Zk; replace H := Option.bind_eq_some_iff.mp H; obtain ⟨t258, A270, H⟩ := H; have A27 := ak A270; clear A270; obtain rfl := Option.some.inj H; go_enter Tryz.func50, Tryz.ntmps50
        try go_wp2_with (first | ((with_reducible refine gate_callee (f := 82) rfl ?_); refine goesL_ (some 9) rfl rfl Tryz.func82 (by kernel_rfl) rfl #[.string a0] rfl mq ?_; (with_reducible refine (isoglossref20_Extended.calls k a0 true _ A3.out).mono ?_); rintro e w28 ⟨rfl, hb⟩; refine ⟨_, rfl, ?_⟩; have n0_ := ak (below_step bq hb); clear HB; have HB := n0_; clear n0_; (try clear hb); (try clear hb2); (try clear hk); (try clear hi); (try clear A3)) | ((with_reducible refine gate_callee (f := 46) rfl ?_); refine goesL_ (some 11) rfl rfl Tryz.func46 (by kernel_rfl) rfl #[.string a0] rfl mq ?_; (with_reducible refine (isoglossref04_Split.calls k a0 t231 _ A4.out).mono ?_); rintro e w29 ⟨v232, rfl, ho0, hb⟩; refine ⟨_, rfl, ?_⟩; have n0_ := ak (Kd.R_lower ho0 (below_size bq)); have n1_ := ak (below_step bq hb); clear HB; have Za := n0_; have HB := n1_; clear n0_ n1_; (try clear hb); (try clear hb2); (try clear hk); (try clear hi); (try clear ho0); (try clear A4)) | ((with_reducible refine gate_callee (f := 46) rfl ?_); refine goesL_ (some 13) rfl rfl Tryz.func46 (by kernel_rfl) rfl #[.string a1] rfl mq ?_; (with_reducible refine (isoglossref04_Split.calls k a1 t234 _ A5.out).mono ?_); rintro e w30 ⟨v235, rfl, ho0, hb⟩; refine ⟨_, rfl, ?_⟩; have n0_ := ak (Kd.R_elder' (rx Za.out) (Kd.R_base ho0) hb); have n1_ := ak (Kd.R_lower (Kd.R_new' ho0 (Kd.R_lt (rx Za.out))) (below_size bq)); have n2_ := ak (below_step bq hb); clear Za; clear HB; have Za := n0_; have Zb := n1_; have HB := n2_; clear n0_ n1_ n2_; (try clear hb); (try clear hb2); (try clear hk); (try clear hi); (try clear ho0); (try clear A5)))
        have n0_ := ak (Kd.R_drew Za.out); have n1_ := ak (Kd.R_drew Zb.out); have n2_ := ak (below_drew1 HB.out); clear Za Zb HB; have Za := n0_; have Zb := n1_; have HB := n2_; clear n0_ n1_ n2_; obtain ⟨ZM, Zn, eo32⟩ := Kd.R_slice Za.out; (first | subst eo32 | (injection eo32 with f1_ f2_ f3_; have f4_ := f1_.symm; have f5_ := f3_.symm; clear f1_ f2_ f3_; subst f4_; subst f5_))
        have p237 : 0 ≤ (0 : Int) := (by omega); have q237 : 0 < (t231.length : Int) := of_decide_eq_true (by first | (with_reducible assumption) | assumption); obtain ⟨Zd, e237, Zc⟩ := Kd.at_string (Kd.R_reads' Za.out).2.2 0 p237 q237; cases e237; have qi237 : (0 < t231.length) = True := eq_true (by omega); (try rw [show ((0 : Int)).toNat = 0 from rfl] at Zc)
        (try rw [Addr.add_zero'] at Zc)
        replace p237 := eq_true p237; replace q237 := eq_true q237; have p247 : 0 ≤ (0 : Int) := (by omega); have q247 : 0 < (t231.length : Int) := of_decide_eq_true (by first | (with_reducible assumption) | assumption); obtain ⟨Zs, e247, Ze⟩ := Kd.at_string (Kd.R_reads' Za.out).2.2 0 p247 q247; obtain rfl : Zd = Zs := (by injection e247); have qi247 : (0 < t231.length) = True := eq_true (by omega); (try rw [show ((0 : Int)).toNat = 0 from rfl] at Ze)
        (try rw [Addr.add_zero'] at Ze)
        replace p247 := eq_true p247; replace q247 := eq_true q247; obtain ⟨ZN, Zo, eo33⟩ := Kd.R_slice Zb.out; (first | subst eo33 | (injection eo33 with f1_ f2_ f3_; have f4_ := f1_.symm; have f5_ := f3_.symm; clear f1_ f2_ f3_; subst f4_; subst f5_))
        have p248 : 0 ≤ (0 : Int) := (by omega); have q248 : 0 < (t234.length : Int) := of_decide_eq_true (by first | (with_reducible assumption) | assumption); obtain ⟨Zg, e248, Zf⟩ := Kd.at_string (Kd.R_reads' Zb.out).2.2 0 p248 q248; cases e248; have qi248 : (0 < t234.length) = True := eq_true (by omega); (try rw [show ((0 : Int)).toNat = 0 from rfl] at Zf)
        (try rw [Addr.add_zero'] at Zf)
        replace p248 := eq_true p248; replace q248 := eq_true q248; refine start_ (n := 18) (S := fun w' => w'.cell? Zd = some (.string (rdOf ByteArray.empty t231 0)) ∧ w'.cell? Zd = some (.string (rdOf ByteArray.empty t231 0)) ∧ w'.cell? Zg = some (.string (rdOf ByteArray.empty t234 0))) (ds := []) #[false, false, false, false, false, false, false, false, false, false, false, false, false, false, false, false, false, false] (by kernel_rfl) rfl rfl ⟨Zc, Ze, Zf⟩ (fun hHeld => ?_); refine with_tabW isoglossref20_MatchesExtended.tab4 isoglossref20_MatchesExtended.bits4 (fun HT_ HW_ => ?_); generalize w30.drew = w31 at Za Zb HB Zc Ze Zf hHeld ⊢
        refine pu 0 (some 14) (M 18 1) ?_; refine pu 1 (some 15) (M 18 3) ?_; refine pu 2 (some 16) (M 18 7) ?_; refine pu 3 (some 17) (M 18 15) ?_; refine pu 4 (some 18) (M 18 31) ?_; refine take_ (i := 5) (N := some 19) (v := ?_) (a' := ?_) (M 18 63) rfl rfl (take_ofW HT_.out HW_.out (by kernel_rfl)) (fun _ _ _ h => h) (Or.inl ⟨by rfl, ?_⟩) hHeld ?_ ?_; rotate_left
        ·
         rintro w' ⟨s0, s1, s2⟩; go_simp; with_reducible rfl
        rotate_left
        ·
         simp only [Act.put, pA, pB, pC, i64_w, i32_w]; rfl
        refine pu 6 (some 20) (M 18 127) ?_; refine pu 7 (some 21) (M 18 255) ?_; refine pu 8 (some 22) (M 18 511) ?_; refine pu 9 (some 23) (M 18 1023) ?_; refine pu 11 (some 25) (M 18 3071) ?_; refine pu 12 (some 26) (M 18 7167) ?_; refine take_ (i := 10) (N := some 24) (v := ?_) (a' := ?_) (M 18 8191) rfl rfl (take_ofW HT_.out HW_.out (by kernel_rfl)) (fun _ _ _ h => h) (Or.inl ⟨by rfl, ?_⟩) hHeld ?_ ?_; rotate_left
        ·
         rintro w' ⟨s0, s1, s2⟩; go_simp; with_reducible rfl
        rotate_left
        ·
         simp only [Act.put, pA, pB, pC, i64_w, i32_w]; rfl
        refine take_ (i := 13) (N := some 27) (v := ?_) (a' := ?_) (M 18 16383) rfl rfl (take_ofW HT_.out HW_.out (by kernel_rfl)) (fun _ _ _ h => h) (Or.inl ⟨by rfl, ?_⟩) hHeld ?_ ?_; rotate_left
        ·
         rintro w' ⟨s0, s1, s2⟩; go_simp; with_reducible rfl
        rotate_left
        ·
         simp only [Act.put, pA, pB, pC, i64_w, i32_w]; rfl
        refine one_ (i := 14) (N := some 28) (M 18 32767) rfl rfl (one_of HT_.out (by kernel_rfl)) (by decide) (fun K hK => ?_); refine goes_ Tryz.func18 (by kernel_rfl) rfl #[.string (rdOf ByteArray.empty t231 0), .string (rdOf ByteArray.empty t234 0)] (by rfl) rfl rfl mq ?_; with_reducible refine (isoglossref02_Compare.calls k (rdOf ByteArray.empty t231 0) (rdOf ByteArray.empty t234 0) t249 _ A23.out).mono ?_
        rintro e w34 ⟨rfl, hb⟩; have HS0_ := (hb.cell (World.block_lt_of_cell? _ _ (hHeld.1))).trans (hHeld.1); have HS1_ := (hb.cell (World.block_lt_of_cell? _ _ (hHeld.2.1))).trans (hHeld.2.1); have HS2_ := (hb.cell (World.block_lt_of_cell? _ _ (hHeld.2.2))).trans (hHeld.2.2); refine ⟨_, rfl, ?_⟩; have n0_ := ak (Kd.R_below (rx Za.out) hb); have n1_ := ak (Kd.R_below (rx Zb.out) hb); have n2_ := ak (below_step bq hb); clear Za Zb HB; have Za := n0_; have Zb := n1_; have HB := n2_; clear n0_ n1_ n2_; (try clear hb)
        (try clear hb2)
        (try clear hk)
        (try clear hi)
        refine hK.out _ _ ⟨HS0_, HS1_, HS2_⟩ (fun hHeld => ?_); clear hK K; refine norm_ (a' := ?_) ?_ ?_; rotate_left
        ·
         show Act.put _ (some 28) _ = _
         simp only [Act.put, pA, pB, pC, i64_w, i32_w]; rfl
        refine pu 15 (some 29) (M 18 65535) ?_; refine pu 16 (some 30) (M 18 131071) ?_; refine pu 17 (some 31) (M 18 262143) ?_; refine done_ (done_of HT_.out (by kernel_rfl)) ?_; try go_wp2
        have n0_ := ak (Kd.R_drew Za.out); have n1_ := ak (Kd.R_drew Zb.out); have n2_ := ak (below_drew1 HB.out); clear Za Zb HB; have Za := n0_; have Zb := n1_; have HB := n2_; clear n0_ n1_ n2_; have q36 : (1 : Int) ≤ ((t231.length : Int) : Int) := of_decide_eq_true (by first | (with_reducible assumption) | assumption); obtain ⟨i036, hi036, _, hsz36, _⟩ := info_parts info9; have hroom36 : t231.length ≤ Zn := (Kd.R_reads' Za.out).2.1; have hC36 : Kd.C Kd.string _ (some Zd) t231.length t231 := (Kd.R_reads' Za.out).2.2; have hcut36 := cut_from (P := Tryz.prog) 26 9 .i64 Tryz.underlying26 hi036 1 hsz36 (some Zd) t231.length Zn 1 (by omega) q36; have hr36 := Kd.C_drop (m := (1 : Int).toNat) (c := Zn) hC36 (by omega) hroom36; obtain ⟨A36, hA36⟩ : ∃ A1, A1 = (if Zn = (1 : Int).toNat then (some Zd) else ((some Zd) : Option Addr).map (·.add ((1 : Int).toNat * 1))) := ⟨_, rfl⟩; obtain ⟨c36, hc36⟩ : ∃ c1, c1 = Zn - (1 : Int).toNat := ⟨_, rfl⟩; have Zt : y250.length = t231.length - (1 : Int).toNat := (by rw [Zx.out, List.length_drop] <;> omega); rw [show (t231).drop (1 : Int).toNat = y250 from Zx.out.symm] at hr36
        replace hr36 : Kd.C Kd.string _ A36 y250.length y250 := (by rw [hA36]; exact hr36); rw [← Zt, ← hA36, ← hc36] at hcut36
        have HR253 := ak hr36; have HC253 := ak (show y250.length ≤ c36 from by rw [Zt, hc36]; exact Nat.sub_le_sub_right hroom36 _); clear hr36 hC36 hroom36 hi036 hsz36 hc36; have KY36 := ak Zt; have KA36 := ak hA36; clear Zt hA36; have KL36 := ak (show 1 ≤ t231.length from by omega); replace q36 := eq_true q36; have q37 : (1 : Int) ≤ ((t234.length : Int) : Int) := of_decide_eq_true (by first | (with_reducible assumption) | assumption); obtain ⟨i037, hi037, _, hsz37, _⟩ := info_parts info9; have hroom37 : t234.length ≤ Zo := (Kd.R_reads' Zb.out).2.1; have hC37 : Kd.C Kd.string _ (some Zg) t234.length t234 := (Kd.R_reads' Zb.out).2.2; have hcut37 := cut_from (P := Tryz.prog) 26 9 .i64 Tryz.underlying26 hi037 1 hsz37 (some Zg) t234.length Zo 1 (by omega) q37; have hr37 := Kd.C_drop (m := (1 : Int).toNat) (c := Zo) hC37 (by omega) hroom37; obtain ⟨A37, hA37⟩ : ∃ A1, A1 = (if Zo = (1 : Int).toNat then (some Zg) else ((some Zg) : Option Addr).map (·.add ((1 : Int).toNat * 1))) := ⟨_, rfl⟩; obtain ⟨c37, hc37⟩ : ∃ c1, c1 = Zo - (1 : Int).toNat := ⟨_, rfl⟩; have Zu : y254.length = t234.length - (1 : Int).toNat := (by rw [Zy.out, List.length_drop] <;> omega); rw [show (t234).drop (1 : Int).toNat = y254 from Zy.out.symm] at hr37
        replace hr37 : Kd.C Kd.string _ A37 y254.length y254 := (by rw [hA37]; exact hr37); rw [← Zu, ← hA37, ← hc37] at hcut37
        have HR257 := ak hr37; have HC257 := ak (show y254.length ≤ c37 from by rw [Zu, hc37]; exact Nat.sub_le_sub_right hroom37 _); clear hr37 hC37 hroom37 hi037 hsz37 hc37; have KY37 := ak Zu; have KA37 := ak hA37; clear Zu hA37; have KL37 := ak (show 1 ≤ t234.length from by omega); replace q37 := eq_true q37; refine start_ (n := 6) (S := fun w' => True) (ds := []) #[false, false, false, false, false, false] (by kernel_rfl) rfl rfl trivial (fun hHeld => ?_); generalize w34.drew = w35 at Za Zb HB HR253 HR257 hHeld ⊢
        refine pure_ (i := 0) (N := some 32) (v := ?_) (a' := ?_) (M 6 1) rfl rfl (by kernel_rfl) (fun _ _ _ h => h) (Or.inl ⟨by rfl, ?_⟩) ?_ ?_; rotate_left
        ·
         intro w'; go_simp; with_reducible rfl
        rotate_left
        ·
         simp only [Act.put, pA, pB, pC, i64_w, i32_w]; rfl
        refine pure_ (i := 1) (N := some 33) (v := ?_) (a' := ?_) (M 6 3) rfl rfl (by kernel_rfl) (fun _ _ _ h => h) (Or.inl ⟨by rfl, ?_⟩) ?_ ?_; rotate_left
        ·
         intro w'; go_simp; with_reducible rfl
        rotate_left
        ·
         simp only [Act.put, pA, pB, pC, i64_w, i32_w]; rfl
        refine pure_ (i := 2) (N := some 34) (v := ?_) (a' := ?_) (M 6 7) rfl rfl (by kernel_rfl) (fun _ _ _ h => h) (Or.inl ⟨by rfl, ?_⟩) ?_ ?_; rotate_left
        ·
         intro w'; go_simp; with_reducible rfl
        rotate_left
        ·
         simp only [Act.put, pA, pB, pC, i64_w, i32_w]; rfl
        refine pure_ (i := 3) (N := some 35) (v := ?_) (a' := ?_) (M 6 15) rfl rfl (by kernel_rfl) (fun _ _ _ h => h) (Or.inl ⟨by rfl, ?_⟩) ?_ ?_; rotate_left
        ·
         intro w'; go_simp; with_reducible rfl
        rotate_left
        ·
         simp only [Act.put, pA, pB, pC, i64_w, i32_w]; rfl
        refine one_ (i := 4) (N := some 36) (M 6 31) rfl rfl (by kernel_rfl) (by decide) (fun K hK => ?_); refine goes_ Tryz.func83 (by kernel_rfl) rfl #[.slice A36 y250.length c36, .slice A37 y254.length c37] (by rfl) rfl rfl mq ?_; with_reducible refine (isoglossref20_walk.calls k _ _ y250 _ _ y254 t258 _ ?side1 ?side2 ?side3 ?side4 A27.out).mono ?_
        (case side1 => repeat (first | exact (by repeat (first | (with_reducible exact HR253.out) | (with_reducible refine Kd.C_alloc ?_ _) | (with_reducible refine Kd.C_drewN ?_ _) | (with_reducible refine Kd.C_drew ?_) | exact HR253.out)) | (with_reducible refine Kd.C_alloc ?_ _) | (with_reducible refine Kd.C_drewN ?_ _) | (with_reducible refine Kd.C_drew ?_)))
        (case side2 => exact HC253.out)
        (case side3 => repeat (first | exact (by repeat (first | (with_reducible exact HR257.out) | (with_reducible refine Kd.C_alloc ?_ _) | (with_reducible refine Kd.C_drewN ?_ _) | (with_reducible refine Kd.C_drew ?_) | exact HR257.out)) | (with_reducible refine Kd.C_alloc ?_ _) | (with_reducible refine Kd.C_drewN ?_ _) | (with_reducible refine Kd.C_drew ?_)))
        (case side4 => exact HC257.out)
        rintro e w38 ⟨rfl, hb⟩; refine ⟨_, rfl, ?_⟩; have n0_ := ak (Kd.R_below (rx Za.out) hb); have n1_ := ak (Kd.R_below (rx Zb.out) hb); have n2_ := ak (Kd.C_below (by repeat (first | (with_reducible exact HR253.out) | (with_reducible refine Kd.C_alloc ?_ _) | (with_reducible refine Kd.C_drewN ?_ _) | (with_reducible refine Kd.C_drew ?_) | exact HR253.out)) hb); have n3_ := ak (Kd.C_below (by repeat (first | (with_reducible exact HR257.out) | (with_reducible refine Kd.C_alloc ?_ _) | (with_reducible refine Kd.C_drewN ?_ _) | (with_reducible refine Kd.C_drew ?_) | exact HR257.out)) hb); have n4_ := ak (below_step bq hb); clear Za Zb HR253 HR257 HB; have Za := n0_; have Zb := n1_; have HR253 := n2_; have HR257 := n3_; have HB := n4_; clear n0_ n1_ n2_ n3_ n4_; (try clear hb)
        (try clear hb2)
        (try clear hk)
        (try clear hi)
        refine hK.out _ _ trivial (fun hHeld => ?_); clear hK K; refine norm_ (a' := ?_) ?_ ?_; rotate_left
        ·
         show Act.put _ (some 36) _ = _
         simp only [Act.put, pA, pB, pC, i64_w, i32_w]; rfl
        refine pure_ (i := 5) (N := some 4) (v := ?_) (a' := ?_) (M 6 63) rfl rfl (by kernel_rfl) (fun _ _ _ h => h) (Or.inl ⟨by rfl, ?_⟩) ?_ ?_; rotate_left
        ·
         intro w'; go_simp; with_reducible rfl
        rotate_left
        ·
         simp only [Act.put, pA, pB, pC, i64_w, i32_w]; rfl
        refine done_ (by kernel_rfl) ?_; try go_wp2
        go_ret
        exact ⟨by first | rfl | (simp [errW_none, errW_some] <;> rfl) | (simp [*, errW_none, errW_some] <;> rfl), bq⟩
       ·
        rw [if_neg c26] at H
        exact absurd H (by simp)
      ·
       rw [if_neg c25] at H
       exact absurd H (by simp)
     ·
      rw [if_neg c24] at H
      have Zz : (t249 == 0) = false := beq_eq_false_iff_ne.mpr c24; have ZA : (t249 != 0) = true := bne_iff_ne.mpr c24; obtain rfl := Option.some.inj H; go_enter Tryz.func50, Tryz.ntmps50
      try go_wp2_with (first | ((with_reducible refine gate_callee (f := 82) rfl ?_); refine goesL_ (some 9) rfl rfl Tryz.func82 (by kernel_rfl) rfl #[.string a0] rfl mq ?_; (with_reducible refine (isoglossref20_Extended.calls k a0 true _ A3.out).mono ?_); rintro e w39 ⟨rfl, hb⟩; refine ⟨_, rfl, ?_⟩; have n0_ := ak (below_step bq hb); clear HB; have HB := n0_; clear n0_; (try clear hb); (try clear hb2); (try clear hk); (try clear hi); (try clear A3)) | ((with_reducible refine gate_callee (f := 46) rfl ?_); refine goesL_ (some 11) rfl rfl Tryz.func46 (by kernel_rfl) rfl #[.string a0] rfl mq ?_; (with_reducible refine (isoglossref04_Split.calls k a0 t231 _ A4.out).mono ?_); rintro e w40 ⟨v232, rfl, ho0, hb⟩; refine ⟨_, rfl, ?_⟩; have n0_ := ak (Kd.R_lower ho0 (below_size bq)); have n1_ := ak (below_step bq hb); clear HB; have Za := n0_; have HB := n1_; clear n0_ n1_; (try clear hb); (try clear hb2); (try clear hk); (try clear hi); (try clear ho0); (try clear A4)) | ((with_reducible refine gate_callee (f := 46) rfl ?_); refine goesL_ (some 13) rfl rfl Tryz.func46 (by kernel_rfl) rfl #[.string a1] rfl mq ?_; (with_reducible refine (isoglossref04_Split.calls k a1 t234 _ A5.out).mono ?_); rintro e w41 ⟨v235, rfl, ho0, hb⟩; refine ⟨_, rfl, ?_⟩; have n0_ := ak (Kd.R_elder' (rx Za.out) (Kd.R_base ho0) hb); have n1_ := ak (Kd.R_lower (Kd.R_new' ho0 (Kd.R_lt (rx Za.out))) (below_size bq)); have n2_ := ak (below_step bq hb); clear Za; clear HB; have Za := n0_; have Zb := n1_; have HB := n2_; clear n0_ n1_ n2_; (try clear hb); (try clear hb2); (try clear hk); (try clear hi); (try clear ho0); (try clear A5)))
      have n0_ := ak (Kd.R_drew Za.out); have n1_ := ak (Kd.R_drew Zb.out); have n2_ := ak (below_drew1 HB.out); clear Za Zb HB; have Za := n0_; have Zb := n1_; have HB := n2_; clear n0_ n1_ n2_; obtain ⟨ZO, ZP, eo43⟩ := Kd.R_slice Za.out; (first | subst eo43 | (injection eo43 with f1_ f2_ f3_; have f4_ := f1_.symm; have f5_ := f3_.symm; clear f1_ f2_ f3_; subst f4_; subst f5_))
      have p237 : 0 ≤ (0 : Int) := (by omega); have q237 : 0 < (t231.length : Int) := of_decide_eq_true (by first | (with_reducible assumption) | assumption); obtain ⟨Zd, e237, Zc⟩ := Kd.at_string (Kd.R_reads' Za.out).2.2 0 p237 q237; cases e237; have qi237 : (0 < t231.length) = True := eq_true (by omega); (try rw [show ((0 : Int)).toNat = 0 from rfl] at Zc)
      (try rw [Addr.add_zero'] at Zc)
      replace p237 := eq_true p237; replace q237 := eq_true q237; have p247 : 0 ≤ (0 : Int) := (by omega); have q247 : 0 < (t231.length : Int) := of_decide_eq_true (by first | (with_reducible assumption) | assumption); obtain ⟨Zs, e247, Ze⟩ := Kd.at_string (Kd.R_reads' Za.out).2.2 0 p247 q247; obtain rfl : Zd = Zs := (by injection e247); have qi247 : (0 < t231.length) = True := eq_true (by omega); (try rw [show ((0 : Int)).toNat = 0 from rfl] at Ze)
      (try rw [Addr.add_zero'] at Ze)
      replace p247 := eq_true p247; replace q247 := eq_true q247; obtain ⟨ZQ, ZR, eo44⟩ := Kd.R_slice Zb.out; (first | subst eo44 | (injection eo44 with f1_ f2_ f3_; have f4_ := f1_.symm; have f5_ := f3_.symm; clear f1_ f2_ f3_; subst f4_; subst f5_))
      have p248 : 0 ≤ (0 : Int) := (by omega); have q248 : 0 < (t234.length : Int) := of_decide_eq_true (by first | (with_reducible assumption) | assumption); obtain ⟨Zg, e248, Zf⟩ := Kd.at_string (Kd.R_reads' Zb.out).2.2 0 p248 q248; cases e248; have qi248 : (0 < t234.length) = True := eq_true (by omega); (try rw [show ((0 : Int)).toNat = 0 from rfl] at Zf)
      (try rw [Addr.add_zero'] at Zf)
      replace p248 := eq_true p248; replace q248 := eq_true q248; refine start_ (n := 18) (S := fun w' => w'.cell? Zd = some (.string (rdOf ByteArray.empty t231 0)) ∧ w'.cell? Zd = some (.string (rdOf ByteArray.empty t231 0)) ∧ w'.cell? Zg = some (.string (rdOf ByteArray.empty t234 0))) (ds := []) #[false, false, false, false, false, false, false, false, false, false, false, false, false, false, false, false, false, false] (by kernel_rfl) rfl rfl ⟨Zc, Ze, Zf⟩ (fun hHeld => ?_); refine with_tabW isoglossref20_MatchesExtended.tab4 isoglossref20_MatchesExtended.bits4 (fun HT_ HW_ => ?_); generalize w41.drew = w42 at Za Zb HB Zc Ze Zf hHeld ⊢
      refine pu 0 (some 14) (M 18 1) ?_; refine pu 1 (some 15) (M 18 3) ?_; refine pu 2 (some 16) (M 18 7) ?_; refine pu 3 (some 17) (M 18 15) ?_; refine pu 4 (some 18) (M 18 31) ?_; refine take_ (i := 5) (N := some 19) (v := ?_) (a' := ?_) (M 18 63) rfl rfl (take_ofW HT_.out HW_.out (by kernel_rfl)) (fun _ _ _ h => h) (Or.inl ⟨by rfl, ?_⟩) hHeld ?_ ?_; rotate_left
      ·
       rintro w' ⟨s0, s1, s2⟩; go_simp; with_reducible rfl
      rotate_left
      ·
       simp only [Act.put, pA, pB, pC, i64_w, i32_w]; rfl
      refine pu 6 (some 20) (M 18 127) ?_; refine pu 7 (some 21) (M 18 255) ?_; refine pu 8 (some 22) (M 18 511) ?_; refine pu 9 (some 23) (M 18 1023) ?_; refine pu 11 (some 25) (M 18 3071) ?_; refine pu 12 (some 26) (M 18 7167) ?_; refine take_ (i := 10) (N := some 24) (v := ?_) (a' := ?_) (M 18 8191) rfl rfl (take_ofW HT_.out HW_.out (by kernel_rfl)) (fun _ _ _ h => h) (Or.inl ⟨by rfl, ?_⟩) hHeld ?_ ?_; rotate_left
      ·
       rintro w' ⟨s0, s1, s2⟩; go_simp; with_reducible rfl
      rotate_left
      ·
       simp only [Act.put, pA, pB, pC, i64_w, i32_w]; rfl
      refine take_ (i := 13) (N := some 27) (v := ?_) (a' := ?_) (M 18 16383) rfl rfl (take_ofW HT_.out HW_.out (by kernel_rfl)) (fun _ _ _ h => h) (Or.inl ⟨by rfl, ?_⟩) hHeld ?_ ?_; rotate_left
      ·
       rintro w' ⟨s0, s1, s2⟩; go_simp; with_reducible rfl
      rotate_left
      ·
       simp only [Act.put, pA, pB, pC, i64_w, i32_w]; rfl
      refine one_ (i := 14) (N := some 28) (M 18 32767) rfl rfl (one_of HT_.out (by kernel_rfl)) (by decide) (fun K hK => ?_); refine goes_ Tryz.func18 (by kernel_rfl) rfl #[.string (rdOf ByteArray.empty t231 0), .string (rdOf ByteArray.empty t234 0)] (by rfl) rfl rfl mq ?_; with_reducible refine (isoglossref02_Compare.calls k (rdOf ByteArray.empty t231 0) (rdOf ByteArray.empty t234 0) t249 _ A23.out).mono ?_
      rintro e w45 ⟨rfl, hb⟩; have HS0_ := (hb.cell (World.block_lt_of_cell? _ _ (hHeld.1))).trans (hHeld.1); have HS1_ := (hb.cell (World.block_lt_of_cell? _ _ (hHeld.2.1))).trans (hHeld.2.1); have HS2_ := (hb.cell (World.block_lt_of_cell? _ _ (hHeld.2.2))).trans (hHeld.2.2); refine ⟨_, rfl, ?_⟩; have n0_ := ak (Kd.R_below (rx Za.out) hb); have n1_ := ak (Kd.R_below (rx Zb.out) hb); have n2_ := ak (below_step bq hb); clear Za Zb HB; have Za := n0_; have Zb := n1_; have HB := n2_; clear n0_ n1_ n2_; (try clear hb)
      (try clear hb2)
      (try clear hk)
      (try clear hi)
      refine hK.out _ _ ⟨HS0_, HS1_, HS2_⟩ (fun hHeld => ?_); clear hK K; refine norm_ (a' := ?_) ?_ ?_; rotate_left
      ·
       show Act.put _ (some 28) _ = _
       simp only [Act.put, pA, pB, pC, i64_w, i32_w]; rfl
      refine pu 15 (some 29) (M 18 65535) ?_; refine pu 16 (some 30) (M 18 131071) ?_; refine pu 17 (some 31) (M 18 262143) ?_; refine done_ (done_of HT_.out (by kernel_rfl)) ?_; try go_wp2
      go_ret
      exact ⟨by first | rfl | (simp [errW_none, errW_some] <;> rfl) | (simp [*, errW_none, errW_some] <;> rfl), bq⟩
    ·
     rw [if_neg c22] at H
     exact absurd H (by simp)
  ·
   rw [if_neg c7] at H
   exact absurd H (by simp)
 ·
  replace c6 := Bool.eq_false_iff.mpr c6; subst c6; have H1 : (some false) = some r := by rw [if_neg (show ¬ (false = true) by decide)] at H; exact H
  clear H; have H := H1; clear H1; obtain rfl := Option.some.inj H; go_enter Tryz.func50, Tryz.ntmps50
  try go_wp2_with (first | ((with_reducible refine gate_callee (f := 82) rfl ?_); refine goesL_ (some 9) rfl rfl Tryz.func82 (by kernel_rfl) rfl #[.string a0] rfl mq ?_; (with_reducible refine (isoglossref20_Extended.calls k a0 false _ A3.out).mono ?_); rintro e w46 ⟨rfl, hb⟩; refine ⟨_, rfl, ?_⟩; have n0_ := ak (below_step bq hb); clear HB; have HB := n0_; clear n0_; (try clear hb); (try clear hb2); (try clear hk); (try clear hi); (try clear A3)) | ((with_reducible refine gate_callee (f := 46) rfl ?_); refine goesL_ (some 11) rfl rfl Tryz.func46 (by kernel_rfl) rfl #[.string a0] rfl mq ?_; (with_reducible refine (isoglossref04_Split.calls k a0 t231 _ A4.out).mono ?_); rintro e w47 ⟨v232, rfl, ho0, hb⟩; refine ⟨_, rfl, ?_⟩; have n0_ := ak (Kd.R_lower ho0 (below_size bq)); have n1_ := ak (below_step bq hb); clear HB; have Za := n0_; have HB := n1_; clear n0_ n1_; (try clear hb); (try clear hb2); (try clear hk); (try clear hi); (try clear ho0); (try clear A4)) | ((with_reducible refine gate_callee (f := 46) rfl ?_); refine goesL_ (some 13) rfl rfl Tryz.func46 (by kernel_rfl) rfl #[.string a1] rfl mq ?_; (with_reducible refine (isoglossref04_Split.calls k a1 t234 _ A5.out).mono ?_); rintro e w48 ⟨v235, rfl, ho0, hb⟩; refine ⟨_, rfl, ?_⟩; have n0_ := ak (Kd.R_elder' (rx Za.out) (Kd.R_base ho0) hb); have n1_ := ak (Kd.R_lower (Kd.R_new' ho0 (Kd.R_lt (rx Za.out))) (below_size bq)); have n2_ := ak (below_step bq hb); clear Za; clear HB; have Za := n0_; have Zb := n1_; have HB := n2_; clear n0_ n1_ n2_; (try clear hb); (try clear hb2); (try clear hk); (try clear hi); (try clear ho0); (try clear A5)))
  have n0_ := ak (Kd.R_drew Za.out); have n1_ := ak (Kd.R_drew Zb.out); have n2_ := ak (below_drew1 HB.out); clear Za Zb HB; have Za := n0_; have Zb := n1_; have HB := n2_; clear n0_ n1_ n2_; refine start_ (n := 18) (S := fun w' => True) (ds := []) #[false, false, false, false, false, false, false, false, false, false, false, false, false, false, false, false, false, false] (by kernel_rfl) rfl rfl trivial (fun hHeld => ?_); refine with_tabW isoglossref20_MatchesExtended.tab4 isoglossref20_MatchesExtended.bits4 (fun HT_ HW_ => ?_); generalize w48.drew = w49 at Za Zb HB hHeld ⊢
  refine pu 0 (some 14) (M 18 1) ?_; refine pu 1 (some 15) (M 18 3) ?_; refine pu 2 (some 16) (M 18 7) ?_; refine pn 3 (some 17) (M 18 15) ?_; refine pn 4 (some 18) (M 18 31) ?_; refine pn 5 (some 19) (M 18 63) ?_; refine pn 6 (some 20) (M 18 127) ?_; refine pn 7 (some 21) (M 18 255) ?_; refine pn 8 (some 22) (M 18 511) ?_; refine pn 9 (some 23) (M 18 1023) ?_; refine pn 10 (some 24) (M 18 2047) ?_; refine pn 11 (some 25) (M 18 4095) ?_; refine pn 12 (some 26) (M 18 8191) ?_; refine pn 13 (some 27) (M 18 16383) ?_; refine pn 14 (some 28) (M 18 32767) ?_; refine pn 15 (some 29) (M 18 65535) ?_; refine pn 16 (some 30) (M 18 131071) ?_; refine pu 17 (some 31) (M 18 262143) ?_; refine done_ (done_of HT_.out (by kernel_rfl)) ?_; try go_wp2
  go_ret
  exact ⟨by first | rfl | (simp [errW_none, errW_some] <;> rfl) | (simp [*, errW_none, errW_some] <;> rfl), bq⟩
end Go.Proofs.YtpmcfckechjppaaGreatDoor.P
