/- Made by a program of this seat's own (shake.py, merge.py): what the claim leans on: P5, P6. -/
import Derived.Test.YtpmcfckechjppaaGreatDoorTa03
namespace Go.Proofs.YtpmcfckechjppaaGreatDoor.P
open Go.RowKit Go.Proofs.YtpmcfckechjppaaGreatDoorW.PrintWords Go.Proofs.YtpmcfckechjppaaGreatDoorW.PrintLast Go.Proofs.YtpmcfckechjppaaGreatDoorW.PrintMore
attribute [local go_sem] StrOrd.binOp_gtr StrOrd.binOp_leq max2_int min2_int max_two min_two max_three min_three max_four min_four   -- for this text's walks alone
set_option linter.unusedVariables false
set_option linter.unusedSimpArgs false
set_option maxRecDepth 100000
set_option maxHeartbeats 8000000
mutual
def isoglossref02_Class.l0 : Nat → ByteArray → Int → Int → Int → Option (Int)
 | 0, _, _, _, _ => none
 | k + 1, x0, x3, x4, x5 => if x5 < (x0.size : Int) then (if 0 ≤ x5 then ((isoglossref02_letter.f (bt x0 x5)).bind fun t180 => ((isoglossref02_digit.f (bt x0 x5)).bind fun t181 => (if t180 = true then (if t181 = true then (isoglossref02_Class.l0 k x0 (wrap64 (x3 + 1)) (wrap64 (x4 + 1)) (wrap64 (x5 + 1))) else (isoglossref02_Class.l0 k x0 (wrap64 (x3 + 1)) x4 (wrap64 (x5 + 1)))) else (if t181 = true then (isoglossref02_Class.l0 k x0 x3 (wrap64 (x4 + 1)) (wrap64 (x5 + 1))) else (isoglossref02_Class.l0 k x0 x3 x4 (wrap64 (x5 + 1))))))) else (none)) else (if x0.toList = ([] : List UInt8) then (isoglossref02_Class.j1 k x3 x4 true) else (isoglossref02_Class.j1 k x3 x4 (decide ((wrap64 (x3 + x4)) < (x0.size : Int)))))
def isoglossref02_Class.j1 : Nat → Int → Int → Bool → Option (Int)
 | 0, _, _, _ => none
 | k + 1, x3, x4, x37 => if x37 = true then (some 0) else (if x4 = 0 then (some 1) else (if x3 = 0 then (some 2) else (some 3)))
end
def isoglossref02_Class.f (k : Nat) (a0 : ByteArray) : Option (Int) := isoglossref02_Class.l0 k a0 0 0 0
theorem isoglossref02_Class.calls (k : Nat) (a0 : ByteArray) (r : Int) (w : World) (h : isoglossref02_Class.f k a0 = some r) :
 Calls Tryz.prog 79 #[.string a0] w fun e w' => e = .returned (.int .i64 r) ∧ Drawn0 w w' := by
 have H : (isoglossref02_Class.l0 k a0 0 0 0) = some r := h; clear h; have H' := ak H; clear H; go_enter Tryz.func79, Tryz.ntmps79
 go_wp2
 go_loopg [3, 4, 5] k (fun kq v3 v4 v5 w' => ∃ (Zc : Int) (Za : Int) (Zb : Int), v3 = .int .i64 Zc ∧ v4 = .int .i64 Za ∧ v5 = .int .i64 Zb ∧ Aside0 (isoglossref02_Class.l0 kq a0 Zc Za Zb = some r) ∧ Aside0 (kq ≤ k) ∧ Drawn0 w w')
 case atStart => exact ⟨(0), (0), (0), (by first | rfl | (simp; done) | (simp [*]; done)), (by first | rfl | (simp; done) | (simp [*]; done)), (by first | rfl | (simp; done) | (simp [*]; done)), H', ⟨Nat.le_refl _⟩, by repeat (first | exact Drawn0.refl _ | apply Drawn0.step)⟩
 case round =>
  clear H'; obtain ⟨Zc, Za, Zb, rfl, rfl, rfl, HA, HK1, ⟨m1, rfl⟩⟩ := hrel; cases gk with
  | zero => exact absurd HA.out (by simp [isoglossref02_Class.l0])
  | succ k1 =>
   have H := HA.out; clear HA; simp only [isoglossref02_Class.l0] at H
   by_cases c2 : Zb < (a0.size : Int)
   ·
    rw [if_pos c2] at H
    have c2b0 : decide (Zb < (a0.size : Int)) = true := decide_eq_true c2; clear c2; by_cases c3 : 0 ≤ Zb
    ·
     rw [if_pos c3] at H
     have c3b0 : decide (0 ≤ Zb) = true := decide_eq_true c3; clear c3; replace H := Option.bind_eq_some_iff.mp H; obtain ⟨t180, A50, H⟩ := H; have A5 := ak A50; clear A50; replace H := Option.bind_eq_some_iff.mp H; obtain ⟨t181, A70, H⟩ := H; have A7 := ak A70; clear A70; by_cases c8 : t180 = true
     ·
      subst c8; have H1 : (if t181 = true then (isoglossref02_Class.l0 k1 a0 (wrap64 (Zc + 1)) (wrap64 (Za + 1)) (wrap64 (Zb + 1))) else (isoglossref02_Class.l0 k1 a0 (wrap64 (Zc + 1)) Za (wrap64 (Zb + 1)))) = some r := by rw [if_pos rfl] at H; exact H
      clear H; have H := H1; clear H1; by_cases c9 : t181 = true
      ·
       subst c9; have H1 : (isoglossref02_Class.l0 k1 a0 (wrap64 (Zc + 1)) (wrap64 (Za + 1)) (wrap64 (Zb + 1))) = some r := by rw [if_pos rfl] at H; exact H
       clear H; have H := H1; clear H1; have H' := ak H; clear H; have p4 : 0 ≤ (Zb : Int) := of_decide_eq_true (by first | (with_reducible assumption) | assumption); have q4 : Zb < (a0.size : Int) := of_decide_eq_true (by first | (with_reducible assumption) | assumption); have hx4 := bt_at a0 Zb; replace p4 := eq_true p4; replace q4 := eq_true q4; go_wp2_with (first | ((with_reducible refine gate_callee (f := 152) rfl ?_); refine goesL_ (some 17) rfl rfl Tryz.func152 (by kernel_rfl) rfl #[.int .u8 (bt a0 Zb)] rfl mq ?_; (with_reducible refine (isoglossref02_letter.calls (bt a0 Zb) true _ A5.out).mono ?_); rintro e w' ⟨rfl, ⟨nd, rfl⟩⟩; refine ⟨_, rfl, ?_⟩; have p6 : 0 ≤ (Zb : Int) := of_decide_eq_true (by first | (with_reducible assumption) | assumption); have q6 : Zb < (a0.size : Int) := of_decide_eq_true (by first | (with_reducible assumption) | assumption); have hx6 := bt_at a0 Zb; replace p6 := eq_true p6; replace q6 := eq_true q6; (try clear A5)) | ((with_reducible refine gate_callee (f := 153) rfl ?_); refine goesL_ (some 21) rfl rfl Tryz.func153 (by kernel_rfl) rfl #[.int .u8 (bt a0 Zb)] rfl mq ?_; (with_reducible refine (isoglossref02_digit.calls (bt a0 Zb) true _ A7.out).mono ?_); rintro e w' ⟨rfl, ⟨nd, rfl⟩⟩; refine ⟨_, rfl, ?_⟩; (try clear A7)))
       go_roundg k1
       case measure => have := HK1.out; omega
       case rel => exact ⟨(wrap64 (Zc + 1)), (wrap64 (Za + 1)), (wrap64 (Zb + 1)), (by first | rfl | (simp; done) | (simp [*]; done)), (by first | rfl | (simp; done) | (simp [*]; done)), (by first | rfl | (simp; done) | (simp [*]; done)), H', ⟨by have := HK1.out; omega⟩, by repeat (first | exact Drawn0.refl _ | apply Drawn0.step)⟩
      ·
       replace c9 := Bool.eq_false_iff.mpr c9; subst c9; have H1 : (isoglossref02_Class.l0 k1 a0 (wrap64 (Zc + 1)) Za (wrap64 (Zb + 1))) = some r := by rw [if_neg (show ¬ (false = true) by decide)] at H; exact H
       clear H; have H := H1; clear H1; have H' := ak H; clear H; have p4 : 0 ≤ (Zb : Int) := of_decide_eq_true (by first | (with_reducible assumption) | assumption); have q4 : Zb < (a0.size : Int) := of_decide_eq_true (by first | (with_reducible assumption) | assumption); have hx4 := bt_at a0 Zb; replace p4 := eq_true p4; replace q4 := eq_true q4; go_wp2_with (first | ((with_reducible refine gate_callee (f := 152) rfl ?_); refine goesL_ (some 17) rfl rfl Tryz.func152 (by kernel_rfl) rfl #[.int .u8 (bt a0 Zb)] rfl mq ?_; (with_reducible refine (isoglossref02_letter.calls (bt a0 Zb) true _ A5.out).mono ?_); rintro e w' ⟨rfl, ⟨nd, rfl⟩⟩; refine ⟨_, rfl, ?_⟩; have p6 : 0 ≤ (Zb : Int) := of_decide_eq_true (by first | (with_reducible assumption) | assumption); have q6 : Zb < (a0.size : Int) := of_decide_eq_true (by first | (with_reducible assumption) | assumption); have hx6 := bt_at a0 Zb; replace p6 := eq_true p6; replace q6 := eq_true q6; (try clear A5)) | ((with_reducible refine gate_callee (f := 153) rfl ?_); refine goesL_ (some 21) rfl rfl Tryz.func153 (by kernel_rfl) rfl #[.int .u8 (bt a0 Zb)] rfl mq ?_; (with_reducible refine (isoglossref02_digit.calls (bt a0 Zb) false _ A7.out).mono ?_); rintro e w' ⟨rfl, ⟨nd, rfl⟩⟩; refine ⟨_, rfl, ?_⟩; (try clear A7)))
       go_roundg k1
       case measure => have := HK1.out; omega
       case rel => exact ⟨(wrap64 (Zc + 1)), (Za), (wrap64 (Zb + 1)), (by first | rfl | (simp; done) | (simp [*]; done)), (by first | rfl | (simp; done) | (simp [*]; done)), (by first | rfl | (simp; done) | (simp [*]; done)), H', ⟨by have := HK1.out; omega⟩, by repeat (first | exact Drawn0.refl _ | apply Drawn0.step)⟩
     ·
      replace c8 := Bool.eq_false_iff.mpr c8; subst c8; have H1 : (if t181 = true then (isoglossref02_Class.l0 k1 a0 Zc (wrap64 (Za + 1)) (wrap64 (Zb + 1))) else (isoglossref02_Class.l0 k1 a0 Zc Za (wrap64 (Zb + 1)))) = some r := by rw [if_neg (show ¬ (false = true) by decide)] at H; exact H
      clear H; have H := H1; clear H1; by_cases c10 : t181 = true
      ·
       subst c10; have H1 : (isoglossref02_Class.l0 k1 a0 Zc (wrap64 (Za + 1)) (wrap64 (Zb + 1))) = some r := by rw [if_pos rfl] at H; exact H
       clear H; have H := H1; clear H1; have H' := ak H; clear H; have p4 : 0 ≤ (Zb : Int) := of_decide_eq_true (by first | (with_reducible assumption) | assumption); have q4 : Zb < (a0.size : Int) := of_decide_eq_true (by first | (with_reducible assumption) | assumption); have hx4 := bt_at a0 Zb; replace p4 := eq_true p4; replace q4 := eq_true q4; go_wp2_with (first | ((with_reducible refine gate_callee (f := 152) rfl ?_); refine goesL_ (some 17) rfl rfl Tryz.func152 (by kernel_rfl) rfl #[.int .u8 (bt a0 Zb)] rfl mq ?_; (with_reducible refine (isoglossref02_letter.calls (bt a0 Zb) false _ A5.out).mono ?_); rintro e w' ⟨rfl, ⟨nd, rfl⟩⟩; refine ⟨_, rfl, ?_⟩; have p6 : 0 ≤ (Zb : Int) := of_decide_eq_true (by first | (with_reducible assumption) | assumption); have q6 : Zb < (a0.size : Int) := of_decide_eq_true (by first | (with_reducible assumption) | assumption); have hx6 := bt_at a0 Zb; replace p6 := eq_true p6; replace q6 := eq_true q6; (try clear A5)) | ((with_reducible refine gate_callee (f := 153) rfl ?_); refine goesL_ (some 21) rfl rfl Tryz.func153 (by kernel_rfl) rfl #[.int .u8 (bt a0 Zb)] rfl mq ?_; (with_reducible refine (isoglossref02_digit.calls (bt a0 Zb) true _ A7.out).mono ?_); rintro e w' ⟨rfl, ⟨nd, rfl⟩⟩; refine ⟨_, rfl, ?_⟩; (try clear A7)))
       go_roundg k1
       case measure => have := HK1.out; omega
       case rel => exact ⟨(Zc), (wrap64 (Za + 1)), (wrap64 (Zb + 1)), (by first | rfl | (simp; done) | (simp [*]; done)), (by first | rfl | (simp; done) | (simp [*]; done)), (by first | rfl | (simp; done) | (simp [*]; done)), H', ⟨by have := HK1.out; omega⟩, by repeat (first | exact Drawn0.refl _ | apply Drawn0.step)⟩
      ·
       replace c10 := Bool.eq_false_iff.mpr c10; subst c10; have H1 : (isoglossref02_Class.l0 k1 a0 Zc Za (wrap64 (Zb + 1))) = some r := by rw [if_neg (show ¬ (false = true) by decide)] at H; exact H
       clear H; have H := H1; clear H1; have H' := ak H; clear H; have p4 : 0 ≤ (Zb : Int) := of_decide_eq_true (by first | (with_reducible assumption) | assumption); have q4 : Zb < (a0.size : Int) := of_decide_eq_true (by first | (with_reducible assumption) | assumption); have hx4 := bt_at a0 Zb; replace p4 := eq_true p4; replace q4 := eq_true q4; go_wp2_with (first | ((with_reducible refine gate_callee (f := 152) rfl ?_); refine goesL_ (some 17) rfl rfl Tryz.func152 (by kernel_rfl) rfl #[.int .u8 (bt a0 Zb)] rfl mq ?_; (with_reducible refine (isoglossref02_letter.calls (bt a0 Zb) false _ A5.out).mono ?_); rintro e w' ⟨rfl, ⟨nd, rfl⟩⟩; refine ⟨_, rfl, ?_⟩; have p6 : 0 ≤ (Zb : Int) := of_decide_eq_true (by first | (with_reducible assumption) | assumption); have q6 : Zb < (a0.size : Int) := of_decide_eq_true (by first | (with_reducible assumption) | assumption); have hx6 := bt_at a0 Zb; replace p6 := eq_true p6; replace q6 := eq_true q6; (try clear A5)) | ((with_reducible refine gate_callee (f := 153) rfl ?_); refine goesL_ (some 21) rfl rfl Tryz.func153 (by kernel_rfl) rfl #[.int .u8 (bt a0 Zb)] rfl mq ?_; (with_reducible refine (isoglossref02_digit.calls (bt a0 Zb) false _ A7.out).mono ?_); rintro e w' ⟨rfl, ⟨nd, rfl⟩⟩; refine ⟨_, rfl, ?_⟩; (try clear A7)))
       go_roundg k1
       case measure => have := HK1.out; omega
       case rel => exact ⟨(Zc), (Za), (wrap64 (Zb + 1)), (by first | rfl | (simp; done) | (simp [*]; done)), (by first | rfl | (simp; done) | (simp [*]; done)), (by first | rfl | (simp; done) | (simp [*]; done)), H', ⟨by have := HK1.out; omega⟩, by repeat (first | exact Drawn0.refl _ | apply Drawn0.step)⟩
    ·
     rw [if_neg c3] at H
     exact absurd H (by simp)
   ·
    rw [if_neg c2] at H
    have c2b0 : decide (Zb < (a0.size : Int)) = false := decide_eq_false c2; clear c2; have HC11 := ak H; clear H; go_upto_region 12 with (fail)
    go_cut [37] (fun v37 wc => ∃ (kq : Nat) (Zd : Bool), v37 = .bool Zd ∧ Aside0 (isoglossref02_Class.j1 kq Zc Za Zd = some r) ∧ Aside0 (kq ≤ k1) ∧ Drawn0 w wc)
    case first =>
     have H := HC11.out; clear HC11; by_cases c12 : a0.toList = ([] : List UInt8)
     ·
      rw [if_pos c12] at H
      have Ze : (a0.toList == ([] : List UInt8)) = true := beq_iff_eq.mpr c12; have Zi : (a0.toList != ([] : List UInt8)) = false := bne_eq_false_iff_eq.mpr c12; have Zg : a0.toList.isEmpty = true := List.isEmpty_iff.mpr c12; clear c12; (first | rw [Ze] | (simp only [i64_w, i32_w]; rw [Ze]) | rw [Zg] | skip)
      have H' := ak H; clear H; go_wp2
      go_meet
      case rel => exact ⟨_, (true), (by first | rfl | (simp; done) | (simp [*]; done)), H', ⟨by have := HK1.out; first | omega | exact Nat.le_refl _⟩, by repeat (first | exact Drawn0.refl _ | apply Drawn0.step)⟩
     ·
      rw [if_neg c12] at H
      have Ze : (a0.toList == ([] : List UInt8)) = false := beq_eq_false_iff_ne.mpr c12; have Zi : (a0.toList != ([] : List UInt8)) = true := bne_iff_ne.mpr c12; have Zg : a0.toList.isEmpty = false := List.isEmpty_eq_false_iff.mpr c12; (first | rw [Ze] | (simp only [i64_w, i32_w]; rw [Ze]) | rw [Zg] | skip)
      have H' := ak H; clear H; go_wp2
      go_meet
      case rel => exact ⟨_, (decide ((wrap64 (Zc + Za)) < (a0.size : Int))), (by first | rfl | (simp; done) | (simp [*]; done)), H', ⟨by have := HK1.out; first | omega | exact Nat.le_refl _⟩, by repeat (first | exact Drawn0.refl _ | apply Drawn0.step)⟩
    case rest =>
     clear HC11 c2b0; obtain ⟨kq, Zd, rfl, HA, HJ10, ⟨mc10, rfl⟩⟩ := hcut; cases kq with
     | zero => exact absurd HA.out (by simp [isoglossref02_Class.j1])
     | succ kj10 =>
      have H := HA.out; clear HA; simp only [isoglossref02_Class.j1] at H
      by_cases c13 : Zd = true
      ·
       subst c13; have H1 : (some 0) = some r := by rw [if_pos rfl] at H; exact H
       clear H; have H := H1; clear H1; obtain rfl := Option.some.inj H; go_wp2
       go_ret
       exact ⟨by first | rfl | (simp; done) | (simp [*]; done), by repeat (first | exact Drawn0.refl _ | apply Drawn0.step)⟩
      ·
       replace c13 := Bool.eq_false_iff.mpr c13; subst c13; have H1 : (if Za = 0 then (some 1) else (if Zc = 0 then (some 2) else (some 3))) = some r := by rw [if_neg (show ¬ (false = true) by decide)] at H; exact H
       clear H; have H := H1; clear H1; by_cases c14 : Za = 0
       ·
        rw [if_pos c14] at H
        have Zj : (Za == 0) = true := beq_iff_eq.mpr c14; have Zk : (Za != 0) = false := bne_eq_false_iff_eq.mpr c14; (try (have Zr : (Za : Int).toNat = 0 := by rw [c14]; rfl))
        try have Zs : (0 ≤ Za) = True := eq_true (by omega)
        try have c14b4_2 : (Za < 2) = True := eq_true (by omega)
        try have c14b4_3 : (Za < 3) = True := eq_true (by omega)
        try have c14b4_5 : (Za < 5) = True := eq_true (by omega)
        clear c14; obtain rfl := Option.some.inj H; go_wp2
        go_ret
        exact ⟨by first | rfl | (simp; done) | (simp [*]; done), by repeat (first | exact Drawn0.refl _ | apply Drawn0.step)⟩
       ·
        rw [if_neg c14] at H
        have Zj : (Za == 0) = false := beq_eq_false_iff_ne.mpr c14; have Zk : (Za != 0) = true := bne_iff_ne.mpr c14; by_cases c15 : Zc = 0
        ·
         rw [if_pos c15] at H
         have Zl : (Zc == 0) = true := beq_iff_eq.mpr c15; have Zm : (Zc != 0) = false := bne_eq_false_iff_eq.mpr c15; (try (have Zt : (Zc : Int).toNat = 0 := by rw [c15]; rfl))
         try have Zu : (0 ≤ Zc) = True := eq_true (by omega)
         try have c15b4_2 : (Zc < 2) = True := eq_true (by omega)
         try have c15b4_3 : (Zc < 3) = True := eq_true (by omega)
         try have c15b4_5 : (Zc < 5) = True := eq_true (by omega)
         clear c15; obtain rfl := Option.some.inj H; go_wp2
         go_ret
         exact ⟨by first | rfl | (simp; done) | (simp [*]; done), by repeat (first | exact Drawn0.refl _ | apply Drawn0.step)⟩
        ·
         rw [if_neg c15] at H
         have Zl : (Zc == 0) = false := beq_eq_false_iff_ne.mpr c15; have Zm : (Zc != 0) = true := bne_iff_ne.mpr c15; obtain rfl := Option.some.inj H; go_wp2
         go_ret
         exact ⟨by first | rfl | (simp; done) | (simp [*]; done), by repeat (first | exact Drawn0.refl _ | apply Drawn0.step)⟩

def isoglossref20_word.f (k : Nat) (a0 : ByteArray) (a1 : Bool) : Option (Bool) := (isoglossref02_Class.f k a0).bind fun t182 => (if (a0.size : Int) ≤ 8 then (if t182 = 1 then (some true) else (if t182 > 0 then (some (!a1)) else (some false))) else (some false))
theorem isoglossref20_word.calls (k : Nat) (a0 : ByteArray) (a1 : Bool) (r : Bool) (w : World) (h : isoglossref20_word.f k a0 a1 = some r) :
 Calls Tryz.prog 47 #[.string a0, .bool a1] w fun e w' => e = .returned (.bool r) ∧ Drawn0 w w' := by
 have H : ((isoglossref02_Class.f k a0).bind fun t182 => (if (a0.size : Int) ≤ 8 then (if t182 = 1 then (some true) else (if t182 > 0 then (some (!a1)) else (some false))) else (some false))) = some r := h; clear h; replace H := Option.bind_eq_some_iff.mp H; obtain ⟨t182, A30, H⟩ := H; have A3 := ak A30; clear A30; by_cases c4 : (a0.size : Int) ≤ 8
 ·
  rw [if_pos c4] at H
  have c4b0 : decide ((a0.size : Int) ≤ 8) = true := decide_eq_true c4; have c4b1 : decide (a0.size ≤ 8) = true := decide_eq_true (by omega); clear c4; by_cases c5 : t182 = 1
  ·
   rw [if_pos c5] at H
   have c5b0 : (t182 == 1) = true := beq_iff_eq.mpr c5; have c5b1 : (t182 != 1) = false := bne_eq_false_iff_eq.mpr c5; (try (have c5b2 : (t182 : Int).toNat = 1 := by rw [c5]; rfl))
   try have c5b3 : (0 ≤ t182) = True := eq_true (by omega)
   try have c5b4_2 : (t182 < 2) = True := eq_true (by omega)
   try have c5b4_3 : (t182 < 3) = True := eq_true (by omega)
   try have c5b4_5 : (t182 < 5) = True := eq_true (by omega)
   clear c5; obtain rfl := Option.some.inj H; go_enter Tryz.func47, Tryz.ntmps47
   go_wp2_with (first | ((with_reducible refine gate_callee (f := 79) rfl ?_); refine goesL_ (some 7) rfl rfl Tryz.func79 (by kernel_rfl) rfl #[.string a0] rfl mq ?_; (with_reducible refine (isoglossref02_Class.calls k a0 t182 _ A3.out).mono ?_); rintro e w' ⟨rfl, ⟨nd, rfl⟩⟩; refine ⟨_, rfl, ?_⟩; (try clear A3)))
   go_ret
   exact ⟨by first | rfl | (simp; done) | (simp [*]; done), by repeat (first | exact Drawn0.refl _ | apply Drawn0.step)⟩
  ·
   rw [if_neg c5] at H
   have c5b0 : (t182 == 1) = false := beq_eq_false_iff_ne.mpr c5; have c5b1 : (t182 != 1) = true := bne_iff_ne.mpr c5; by_cases c6 : t182 > 0
   ·
    rw [if_pos c6] at H
    have c6b0 : decide (0 < t182) = true := decide_eq_true c6; clear c6; obtain rfl := Option.some.inj H; go_enter Tryz.func47, Tryz.ntmps47
    go_wp2_with (first | ((with_reducible refine gate_callee (f := 79) rfl ?_); refine goesL_ (some 7) rfl rfl Tryz.func79 (by kernel_rfl) rfl #[.string a0] rfl mq ?_; (with_reducible refine (isoglossref02_Class.calls k a0 t182 _ A3.out).mono ?_); rintro e w' ⟨rfl, ⟨nd, rfl⟩⟩; refine ⟨_, rfl, ?_⟩; (try clear A3)))
    go_ret
    exact ⟨by first | rfl | (simp; done) | (simp [*]; done), by repeat (first | exact Drawn0.refl _ | apply Drawn0.step)⟩
   ·
    rw [if_neg c6] at H
    have c6b0 : decide (0 < t182) = false := decide_eq_false c6; clear c6; obtain rfl := Option.some.inj H; go_enter Tryz.func47, Tryz.ntmps47
    go_wp2_with (first | ((with_reducible refine gate_callee (f := 79) rfl ?_); refine goesL_ (some 7) rfl rfl Tryz.func79 (by kernel_rfl) rfl #[.string a0] rfl mq ?_; (with_reducible refine (isoglossref02_Class.calls k a0 t182 _ A3.out).mono ?_); rintro e w' ⟨rfl, ⟨nd, rfl⟩⟩; refine ⟨_, rfl, ?_⟩; (try clear A3)))
    go_ret
    exact ⟨by first | rfl | (simp; done) | (simp [*]; done), by repeat (first | exact Drawn0.refl _ | apply Drawn0.step)⟩
 ·
  rw [if_neg c4] at H
  have c4b0 : decide ((a0.size : Int) ≤ 8) = false := decide_eq_false c4; have c4b1 : decide (a0.size ≤ 8) = false := decide_eq_false (by omega); clear c4; obtain rfl := Option.some.inj H; go_enter Tryz.func47, Tryz.ntmps47
  go_wp2_with (first | ((with_reducible refine gate_callee (f := 79) rfl ?_); refine goesL_ (some 7) rfl rfl Tryz.func79 (by kernel_rfl) rfl #[.string a0] rfl mq ?_; (with_reducible refine (isoglossref02_Class.calls k a0 t182 _ A3.out).mono ?_); rintro e w' ⟨rfl, ⟨nd, rfl⟩⟩; refine ⟨_, rfl, ?_⟩; (try clear A3)))
  go_ret
  exact ⟨by first | rfl | (simp; done) | (simp [*]; done), by repeat (first | exact Drawn0.refl _ | apply Drawn0.step)⟩

def isoglossref20_Basic.l0 : Nat → List ByteArray → Int → Option (Bool)
 | 0, _, _ => none
 | k + 1, x3, x4 => if x4 < (x3.length : Int) then (if 0 ≤ x4 then ((isoglossref20_word.f k (rdOf ByteArray.empty x3 x4) (x4 == 0)).bind fun t187 => (if t187 = true then (isoglossref20_Basic.l0 k x3 (wrap64 (x4 + 1))) else (some false))) else (none)) else (some true)
def isoglossref20_Basic.f (k : Nat) (a0 : ByteArray) : Option (Bool) := if a0.toList = ([42] : List UInt8) then (some true) else ((isoglossref04_Split.f k a0).bind fun t183 => (isoglossref20_Basic.l0 k t183 0))
theorem isoglossref20_Basic.calls (k : Nat) (a0 : ByteArray) (r : Bool) (w : World) (h : isoglossref20_Basic.f k a0 = some r) :
 Calls Tryz.prog 16 #[.string a0] w fun e w' => e = .returned (.bool r) ∧ Below w.heap.size w w' := by
 have HB := ak (Below.refl w.heap.size w); have H : (if a0.toList = ([42] : List UInt8) then (some true) else ((isoglossref04_Split.f k a0).bind fun t183 => (isoglossref20_Basic.l0 k t183 0))) = some r := h; clear h; by_cases c2 : a0.toList = ([42] : List UInt8)
 ·
  rw [if_pos c2] at H
  have c2b0 : (a0.toList == ([42] : List UInt8)) = true := beq_iff_eq.mpr c2; have c2b1 : (a0.toList != ([42] : List UInt8)) = false := bne_eq_false_iff_eq.mpr c2; clear c2; obtain rfl := Option.some.inj H; go_enter Tryz.func16, Tryz.ntmps16
  go_wp2
  go_ret
  exact ⟨by first | rfl | (simp [errW_none, errW_some] <;> rfl) | (simp [*, errW_none, errW_some] <;> rfl), bq⟩
 ·
  rw [if_neg c2] at H
  have c2b0 : (a0.toList == ([42] : List UInt8)) = false := beq_eq_false_iff_ne.mpr c2; have c2b1 : (a0.toList != ([42] : List UInt8)) = true := bne_iff_ne.mpr c2; replace H := Option.bind_eq_some_iff.mp H; obtain ⟨t183, A30, H⟩ := H; have A3 := ak A30; clear A30; have H' := ak H; clear H; go_enter Tryz.func16, Tryz.ntmps16
  go_wp2_with (first | ((with_reducible refine gate_callee (f := 46) rfl ?_); refine goesL_ (some 9) rfl rfl Tryz.func46 (by kernel_rfl) rfl #[.string a0] rfl mq ?_; (with_reducible refine (isoglossref04_Split.calls k a0 t183 _ A3.out).mono ?_); rintro e w4 ⟨v184, rfl, ho0, hb⟩; refine ⟨_, rfl, ?_⟩; have n0_ := ak (Kd.R_lower ho0 (below_size bq)); have n1_ := ak (below_step bq hb); clear HB; have Zn := n0_; have HB := n1_; clear n0_ n1_; (try clear hb); (try clear hb2); (try clear hk); (try clear hi); (try clear ho0); (try clear A3)))
  go_loopg [4] k (fun kq v4 w' => ∃ (Za : Int), v4 = .int .i64 Za ∧ Aside0 (isoglossref20_Basic.l0 kq t183 Za = some r) ∧ Aside0 (kq ≤ k) ∧ Aside0 (Kd.R Kd.string 9 w' w.heap.size (fun _ => True) v184 t183) ∧ Aside0 (Below w.heap.size w w'))
  case atStart => exact ⟨(0), (by first | rfl | (simp; done) | (simp [*]; done)), H', ⟨Nat.le_refl _⟩, ⟨(rx Zn.out)⟩, ⟨bq⟩⟩
  case round =>
   clear H' c2 c2b0 c2b1; obtain ⟨Za, rfl, HA, HK1, Zf, HB⟩ := hrel; cases gk with
   | zero => exact absurd HA.out (by simp [isoglossref20_Basic.l0])
   | succ k1 =>
    have H := HA.out; clear HA; simp only [isoglossref20_Basic.l0] at H
    by_cases c5 : Za < (t183.length : Int)
    ·
     rw [if_pos c5] at H
     have c5b0 : decide (Za < (t183.length : Int)) = true := decide_eq_true c5; clear c5; by_cases c6 : 0 ≤ Za
     ·
      rw [if_pos c6] at H
      have c6b0 : decide (0 ≤ Za) = true := decide_eq_true c6; clear c6; replace H := Option.bind_eq_some_iff.mp H; obtain ⟨t187, A70, H⟩ := H; have A7 := ak A70; clear A70; by_cases c8 : t187 = true
      ·
       subst c8; have H1 : (isoglossref20_Basic.l0 k1 t183 (wrap64 (Za + 1))) = some r := by rw [if_pos rfl] at H; exact H
       clear H; have H := H1; clear H1; have H' := ak H; clear H; obtain ⟨ZB, ZC, eo9⟩ := Kd.R_slice Zf.out; subst eo9; have p186 : 0 ≤ (Za : Int) := of_decide_eq_true (by first | (with_reducible assumption) | assumption); have q186 : Za < (t183.length : Int) := of_decide_eq_true (by first | (with_reducible assumption) | assumption); obtain ⟨Zo, e186, Zh⟩ := Kd.at_string (Kd.R_reads' Zf.out).2.2 Za p186 q186; cases e186; replace p186 := eq_true p186; replace q186 := eq_true q186; go_wp2_with (first | ((with_reducible refine gate_callee (f := 47) rfl ?_); refine goesL_ (some 22) rfl rfl Tryz.func47 (by kernel_rfl) rfl #[.string (rdOf ByteArray.empty t183 Za), .bool (Za == 0)] rfl mq ?_; (with_reducible refine (isoglossref20_word.calls k1 (rdOf ByteArray.empty t183 Za) (Za == 0) true _ A7.out).mono ?_); rintro e w' ⟨rfl, ⟨nd, rfl⟩⟩; refine ⟨_, rfl, ?_⟩; (try clear A7)))
       go_roundg k1
       case measure => have := HK1.out; omega
       case rel => exact ⟨(wrap64 (Za + 1)), (by first | rfl | (simp; done) | (simp [*]; done)), H', ⟨by have := HK1.out; omega⟩, ⟨(rx Zf.out)⟩, ⟨bq⟩⟩
      ·
       replace c8 := Bool.eq_false_iff.mpr c8; subst c8; have H1 : (some false) = some r := by rw [if_neg (show ¬ (false = true) by decide)] at H; exact H
       clear H; have H := H1; clear H1; obtain rfl := Option.some.inj H; obtain ⟨Zx, Zy, eo10⟩ := Kd.R_slice Zf.out; subst eo10; have p186 : 0 ≤ (Za : Int) := of_decide_eq_true (by first | (with_reducible assumption) | assumption); have q186 : Za < (t183.length : Int) := of_decide_eq_true (by first | (with_reducible assumption) | assumption); obtain ⟨Zo, e186, Zh⟩ := Kd.at_string (Kd.R_reads' Zf.out).2.2 Za p186 q186; cases e186; replace p186 := eq_true p186; replace q186 := eq_true q186; go_wp2_with (first | ((with_reducible refine gate_callee (f := 47) rfl ?_); refine goesL_ (some 22) rfl rfl Tryz.func47 (by kernel_rfl) rfl #[.string (rdOf ByteArray.empty t183 Za), .bool (Za == 0)] rfl mq ?_; (with_reducible refine (isoglossref20_word.calls k1 (rdOf ByteArray.empty t183 Za) (Za == 0) false _ A7.out).mono ?_); rintro e w' ⟨rfl, ⟨nd, rfl⟩⟩; refine ⟨_, rfl, ?_⟩; (try clear A7)))
       go_ret
       exact ⟨by first | rfl | (simp [errW_none, errW_some] <;> rfl) | (simp [*, errW_none, errW_some] <;> rfl), bq⟩
     ·
      rw [if_neg c6] at H
      exact absurd H (by simp)
    ·
     rw [if_neg c5] at H
     have c5b0 : decide (Za < (t183.length : Int)) = false := decide_eq_false c5; clear c5; obtain rfl := Option.some.inj H; obtain ⟨Zz, ZA, eo11⟩ := Kd.R_slice Zf.out; subst eo11; go_wp2
     go_ret
     exact ⟨by first | rfl | (simp [errW_none, errW_some] <;> rfl) | (simp [*, errW_none, errW_some] <;> rfl), bq⟩

def isoglossref04_Join.l0 : Nat → List ByteArray → ByteArray → Int → Option (ByteArray)
 | 0, _, _, _ => none
 | k + 1, x0, x3, x4 => if x4 < (x0.length : Int) then (if x4 > 0 then (if x3.size + 1 ≤ 9223372036854775807 then (if 0 ≤ x4 then (if (x3 ++ (⟨#[45]⟩ : ByteArray)).size + (rdOf ByteArray.empty x0 x4).size ≤ 9223372036854775807 then (isoglossref04_Join.l0 k x0 ((x3 ++ (⟨#[45]⟩ : ByteArray)) ++ (rdOf ByteArray.empty x0 x4)) (wrap64 (x4 + 1))) else (none)) else (none)) else (none)) else (if 0 ≤ x4 then (if x3.size + (rdOf ByteArray.empty x0 x4).size ≤ 9223372036854775807 then (isoglossref04_Join.l0 k x0 (x3 ++ (rdOf ByteArray.empty x0 x4)) (wrap64 (x4 + 1))) else (none)) else (none))) else (some x3)
def isoglossref04_Join.f (k : Nat) (l0 : List ByteArray) : Option (ByteArray) := isoglossref04_Join.l0 k l0 (⟨#[]⟩ : ByteArray) 0
theorem isoglossref04_Join.calls (k : Nat) (A0 : Option Addr) (c0 : Nat) (l0 : List ByteArray) (r : ByteArray) (w : World) (hr0 : Kd.C Kd.string w A0 l0.length l0) (hc0 : l0.length ≤ c0) (h : isoglossref04_Join.f k l0 = some r) :
 Calls Tryz.prog 32 #[.slice A0 l0.length c0] w fun e w' => e = .returned (.string r) ∧ Drawn0 w w' := by
 have HR0 := ak hr0; have HC0 := ak hc0; clear hr0 hc0; have H : (isoglossref04_Join.l0 k l0 (⟨#[]⟩ : ByteArray) 0) = some r := h; clear h; have H' := ak H; clear H; go_enter Tryz.func32, Tryz.ntmps32
 go_wp2
 go_loopg [3, 4] k (fun kq v3 v4 w' => ∃ (Zc : ByteArray) (Za : Int), v3 = .string Zc ∧ v4 = .int .i64 Za ∧ Aside0 (isoglossref04_Join.l0 kq l0 Zc Za = some r) ∧ Aside0 (kq ≤ k) ∧ Drawn0 w w')
 case atStart => exact ⟨((⟨#[]⟩ : ByteArray)), (0), (by first | rfl | (simp; done) | (simp [*]; done)), (by first | rfl | (simp; done) | (simp [*]; done)), H', ⟨Nat.le_refl _⟩, by repeat (first | exact Drawn0.refl _ | apply Drawn0.step)⟩
 case round =>
  clear H'; obtain ⟨Zc, Za, rfl, rfl, HA, HK1, ⟨m1, rfl⟩⟩ := hrel; cases gk with
  | zero => exact absurd HA.out (by simp [isoglossref04_Join.l0])
  | succ k1 =>
   have H := HA.out; clear HA; simp only [isoglossref04_Join.l0] at H
   by_cases c2 : Za < (l0.length : Int)
   ·
    rw [if_pos c2] at H
    have c2b0 : decide (Za < (l0.length : Int)) = true := decide_eq_true c2; clear c2; by_cases c3 : Za > 0
    ·
     rw [if_pos c3] at H
     have c3b0 : decide (0 < Za) = true := decide_eq_true c3; clear c3; by_cases c4 : Zc.size + 1 ≤ 9223372036854775807
     ·
      rw [if_pos c4] at H
      have c4b0 := eq_true c4; have c4b1 : decide (Zc.size + 1 ≤ 9223372036854775807) = true := decide_eq_true c4; try have c4b2 : (9223372036854775807 < Zc.size + 1) = False := eq_false (Nat.not_lt.2 c4)
      by_cases c5 : 0 ≤ Za
      ·
       rw [if_pos c5] at H
       have c5b0 : decide (0 ≤ Za) = true := decide_eq_true c5; clear c5; by_cases c6 : (Zc ++ (⟨#[45]⟩ : ByteArray)).size + (rdOf ByteArray.empty l0 Za).size ≤ 9223372036854775807
       ·
        rw [if_pos c6] at H
        have c6b0 := eq_true c6; have c6b1 : decide ((Zc ++ (⟨#[45]⟩ : ByteArray)).size + (rdOf ByteArray.empty l0 Za).size ≤ 9223372036854775807) = true := decide_eq_true c6; try have c6b2 : (9223372036854775807 < (Zc ++ (⟨#[45]⟩ : ByteArray)).size + (rdOf ByteArray.empty l0 Za).size) = False := eq_false (Nat.not_lt.2 c6)
        have H' := ak H; clear H; have p188 : 0 ≤ (Za : Int) := of_decide_eq_true (by first | (with_reducible assumption) | assumption); have q188 : Za < (l0.length : Int) := of_decide_eq_true (by first | (with_reducible assumption) | assumption); obtain ⟨Zv, e188, Zp⟩ := Kd.at_string HR0.out Za p188 q188; cases e188; replace p188 := eq_true p188; replace q188 := eq_true q188; go_wp2
        go_roundg k1
        case measure => have := HK1.out; omega
        case rel => exact ⟨((Zc ++ (⟨#[45]⟩ : ByteArray)) ++ (rdOf ByteArray.empty l0 Za)), (wrap64 (Za + 1)), (by first | rfl | (simp; done) | (simp [*]; done)), (by first | rfl | (simp; done) | (simp [*]; done)), H', ⟨by have := HK1.out; omega⟩, by repeat (first | exact Drawn0.refl _ | apply Drawn0.step)⟩
       ·
        rw [if_neg c6] at H
        exact absurd H (by simp)
      ·
       rw [if_neg c5] at H
       exact absurd H (by simp)
     ·
      rw [if_neg c4] at H
      exact absurd H (by simp)
    ·
     rw [if_neg c3] at H
     have c3b0 : decide (0 < Za) = false := decide_eq_false c3; clear c3; by_cases c7 : 0 ≤ Za
     ·
      rw [if_pos c7] at H
      have c7b0 : decide (0 ≤ Za) = true := decide_eq_true c7; clear c7; by_cases c8 : Zc.size + (rdOf ByteArray.empty l0 Za).size ≤ 9223372036854775807
      ·
       rw [if_pos c8] at H
       have c8b0 := eq_true c8; have c8b1 : decide (Zc.size + (rdOf ByteArray.empty l0 Za).size ≤ 9223372036854775807) = true := decide_eq_true c8; try have c8b2 : (9223372036854775807 < Zc.size + (rdOf ByteArray.empty l0 Za).size) = False := eq_false (Nat.not_lt.2 c8)
       have H' := ak H; clear H; have p189 : 0 ≤ (Za : Int) := of_decide_eq_true (by first | (with_reducible assumption) | assumption); have q189 : Za < (l0.length : Int) := of_decide_eq_true (by first | (with_reducible assumption) | assumption); obtain ⟨Zw, e189, Zq⟩ := Kd.at_string HR0.out Za p189 q189; cases e189; replace p189 := eq_true p189; replace q189 := eq_true q189; go_wp2
       go_roundg k1
       case measure => have := HK1.out; omega
       case rel => exact ⟨(Zc ++ (rdOf ByteArray.empty l0 Za)), (wrap64 (Za + 1)), (by first | rfl | (simp; done) | (simp [*]; done)), (by first | rfl | (simp; done) | (simp [*]; done)), H', ⟨by have := HK1.out; omega⟩, by repeat (first | exact Drawn0.refl _ | apply Drawn0.step)⟩
      ·
       rw [if_neg c8] at H
       exact absurd H (by simp)
     ·
      rw [if_neg c7] at H
      exact absurd H (by simp)
   ·
    rw [if_neg c2] at H
    have c2b0 : decide (Za < (l0.length : Int)) = false := decide_eq_false c2; clear c2; obtain rfl := Option.some.inj H; go_wp2
    go_ret
    exact ⟨by first | rfl | (simp; done) | (simp [*]; done), by repeat (first | exact Drawn0.refl _ | apply Drawn0.step)⟩
def isoglossref04_Trim.l0 : Nat → List ByteArray → Option (ByteArray)
 | 0, _ => none
 | k + 1, x3 => if (x3.length : Int) > 1 then (if 0 ≤ (wrap64 ((x3.length : Int) - 1)) then (if (wrap64 ((x3.length : Int) - 1)) < (x3.length : Int) then (if ((rdOf ByteArray.empty x3 (wrap64 ((x3.length : Int) - 1))).size : Int) = 1 then (if (wrap64 ((x3.length : Int) - 1)) ≤ (x3.length : Int) then (isoglossref04_Trim.l0 k (x3.take ((wrap64 ((x3.length : Int) - 1)) : Int).toNat)) else (none)) else ((isoglossref04_Join.f k x3).bind fun t200 => (some t200))) else (none)) else (none)) else ((isoglossref04_Join.f k x3).bind fun t201 => (some t201))
def isoglossref04_Trim.f (k : Nat) (a0 : ByteArray) : Option (ByteArray) := (isoglossref04_Split.f k a0).bind fun t190 => (if 0 ≤ (wrap64 ((t190.length : Int) - 1)) then (if (wrap64 ((t190.length : Int) - 1)) ≤ (t190.length : Int) then (isoglossref04_Trim.l0 k (t190.take ((wrap64 ((t190.length : Int) - 1)) : Int).toNat)) else (none)) else (none))
theorem isoglossref04_Trim.calls (k : Nat) (a0 : ByteArray) (r : ByteArray) (w : World) (h : isoglossref04_Trim.f k a0 = some r) :
 Calls Tryz.prog 17 #[.string a0] w fun e w' => e = .returned (.string r) ∧ Below w.heap.size w w' := by
 have HB := ak (Below.refl w.heap.size w); have H : ((isoglossref04_Split.f k a0).bind fun t190 => (if 0 ≤ (wrap64 ((t190.length : Int) - 1)) then (if (wrap64 ((t190.length : Int) - 1)) ≤ (t190.length : Int) then (isoglossref04_Trim.l0 k (t190.take ((wrap64 ((t190.length : Int) - 1)) : Int).toNat)) else (none)) else (none))) = some r := h; clear h; replace H := Option.bind_eq_some_iff.mp H; obtain ⟨t190, A20, H⟩ := H; have A2 := ak A20; clear A20; obtain ⟨ji3, hji3⟩ : ∃ j_ : Int, (wrap64 ((t190.length : Int) - 1)) = j_ := ⟨_, rfl⟩; replace H : (if 0 ≤ (ji3) then (if (ji3) ≤ (t190.length : Int) then (isoglossref04_Trim.l0 k (t190.take ((ji3) : Int).toNat)) else (none)) else (none)) = some r := by first | (rw [hji3] at H; exact H) | (simp only [hji3] at H ⊢; exact H)
 (try rw [hji3] at A2)
 have hji3w : (IntKind.i64.wrap ((t190.length : Int) - 1)) = ji3 := (i64_w _).trans hji3; by_cases c4 : 0 ≤ (ji3)
 ·
  rw [if_pos c4] at H
  have c4b0 := eq_true c4; have c4b1 : decide (0 ≤ (ji3)) = true := decide_eq_true c4; clear c4; by_cases c5 : (ji3) ≤ (t190.length : Int)
  ·
   rw [if_pos c5] at H
   have c5b0 := eq_true c5; have c5b1 : decide ((ji3) ≤ (t190.length : Int)) = true := decide_eq_true c5; clear c5; obtain ⟨y193, Zf⟩ : ∃ y_ : List ByteArray, y_ = (t190.take ((ji3) : Int).toNat) := ⟨_, rfl⟩; replace H : (isoglossref04_Trim.l0 k y193) = some r := by first | (rw [Zf]; with_reducible exact H) | (have H2_ := (Option.bind_some _ _).symm.trans H; rw [Zf]; with_reducible exact H2_) | (have H2_ := (Option.bind_some _ _).symm.trans H; with_reducible exact H2_) | with_reducible exact H | (rw [Zf]; exact H) | exact H
   have Zl := ak Zf; clear Zf; have H' := ak H; clear H; go_enter Tryz.func17, Tryz.ntmps17
   go_wp2_with (first | ((with_reducible refine gate_callee (f := 46) rfl ?_); refine goesL_ (some 5) rfl rfl Tryz.func46 (by kernel_rfl) rfl #[.string a0] rfl mq ?_; (with_reducible refine (isoglossref04_Split.calls k a0 t190 _ A2.out).mono ?_); rintro e w6 ⟨v191, rfl, ho0, hb⟩; refine ⟨_, rfl, ?_⟩; have n0_ := ak (Kd.R_lower ho0 (below_size bq)); have n1_ := ak (below_step bq hb); clear HB; have Zi := n0_; have HB := n1_; clear n0_ n1_; (try clear hb); (try clear hb2); (try clear hk); (try clear hi); (try clear ho0); obtain ⟨ZM, ZN, eo7⟩ := Kd.R_slice Zi.out; subst eo7; have q8 : ((ji3) : Int) ≤ ((t190.length : Int) : Int) := of_decide_eq_true (by first | (with_reducible assumption) | assumption); obtain ⟨i08, hi08, _, hsz8, _⟩ := info_parts info9; have hcut8 := cut_to (P := Tryz.prog) 26 9 .i64 Tryz.underlying26 hi08 ZM t190.length ZN (ji3) (of_decide_eq_true (by first | (with_reducible assumption) | assumption)) q8 (Kd.R_reads' Zi.out).2.1; have hr8 := Kd.R_take (m := ((ji3) : Int).toNat) Zi.out (by omega); have ZG : y193.length = ((ji3) : Int).toNat := (by rw [Zl.out, List.length_take]; omega); rw [← Zl.out] at hr8; rw [← ZG] at hr8 hcut8; clear ZG hi08 hsz8 Zi; have Zs := ak hr8; clear hr8; replace q8 := eq_true q8; (try clear A2)))
   go_loopg [3] k (fun kq v3 w' => ∃ (Zb : List ByteArray), Aside0 (isoglossref04_Trim.l0 kq Zb = some r) ∧ Aside0 (kq ≤ k) ∧ Aside0 (Kd.R Kd.string 9 w' w.heap.size (fun _ => True) v3 Zb) ∧ Aside0 (Below w.heap.size w w'))
   case atStart => exact ⟨(y193), H', ⟨Nat.le_refl _⟩, ⟨(rx Zs.out)⟩, ⟨bq⟩⟩
   case round =>
    clear H' c4b0 c4b1 c5b0 c5b1 q8; obtain ⟨Zb, HA, HK1, Zd, HB⟩ := hrel; cases gk with
    | zero => exact absurd HA.out (by simp [isoglossref04_Trim.l0])
    | succ k1 =>
     have H := HA.out; clear HA; simp only [isoglossref04_Trim.l0] at H
     by_cases c9 : (Zb.length : Int) > 1
     ·
      rw [if_pos c9] at H
      have c9b0 : decide (1 < (Zb.length : Int)) = true := decide_eq_true c9; have c9b1 : decide (1 < Zb.length) = true := decide_eq_true (by omega); clear c9; obtain ⟨ji10, hji10⟩ : ∃ j_ : Int, (wrap64 ((Zb.length : Int) - 1)) = j_ := ⟨_, rfl⟩; replace H : (if 0 ≤ (ji10) then (if (ji10) < (Zb.length : Int) then (if ((rdOf ByteArray.empty Zb (ji10)).size : Int) = 1 then (if (ji10) ≤ (Zb.length : Int) then (isoglossref04_Trim.l0 k1 (Zb.take ((ji10) : Int).toNat)) else (none)) else ((isoglossref04_Join.f k1 Zb).bind fun t200 => (some t200))) else (none)) else (none)) = some r := by first | (rw [hji10] at H; exact H) | (simp only [hji10] at H ⊢; exact H)
      have hji10w : (IntKind.i64.wrap ((Zb.length : Int) - 1)) = ji10 := (i64_w _).trans hji10; by_cases c11 : 0 ≤ (ji10)
      ·
       rw [if_pos c11] at H
       have Zt : decide (0 ≤ (ji10)) = true := decide_eq_true c11; clear c11; by_cases c12 : (ji10) < (Zb.length : Int)
       ·
        rw [if_pos c12] at H
        have ZO : decide ((ji10) < (Zb.length : Int)) = true := decide_eq_true c12; clear c12; by_cases c13 : ((rdOf ByteArray.empty Zb (ji10)).size : Int) = 1
        ·
         rw [if_pos c13] at H
         have Zm : (((rdOf ByteArray.empty Zb (ji10)).size : Int) == 1) = true := beq_iff_eq.mpr c13; have Zu : (((rdOf ByteArray.empty Zb (ji10)).size : Int) != 1) = false := bne_eq_false_iff_eq.mpr c13; clear c13; by_cases c14 : (ji10) ≤ (Zb.length : Int)
         ·
          rw [if_pos c14] at H
          have ZP := eq_true c14; have ZQ : decide ((ji10) ≤ (Zb.length : Int)) = true := decide_eq_true c14; clear c14; obtain ⟨y197, Zg⟩ : ∃ y_ : List ByteArray, y_ = (Zb.take ((ji10) : Int).toNat) := ⟨_, rfl⟩; replace H : (isoglossref04_Trim.l0 k1 y197) = some r := by first | (rw [Zg]; with_reducible exact H) | (have H2_ := (Option.bind_some _ _).symm.trans H; rw [Zg]; with_reducible exact H2_) | (have H2_ := (Option.bind_some _ _).symm.trans H; with_reducible exact H2_) | with_reducible exact H | (rw [Zg]; exact H) | exact H
          have Zn := ak Zg; clear Zg; have H' := ak H; clear H; obtain ⟨ZS, ZH, eo15⟩ := Kd.R_slice Zd.out; subst eo15; have p196 : 0 ≤ ((ji10) : Int) := of_decide_eq_true (by first | (with_reducible assumption) | assumption); have q196 : (ji10) < (Zb.length : Int) := of_decide_eq_true (by first | (with_reducible assumption) | assumption); obtain ⟨Zk, e196, Zo⟩ := Kd.at_string (Kd.R_reads' Zd.out).2.2 (ji10) p196 q196; cases e196; replace p196 := eq_true p196; replace q196 := eq_true q196; have q16 : ((ji10) : Int) ≤ ((Zb.length : Int) : Int) := of_decide_eq_true (by first | (with_reducible assumption) | assumption); obtain ⟨i016, hi016, _, hsz16, _⟩ := info_parts info9; have hcut16 := cut_to (P := Tryz.prog) 26 9 .i64 Tryz.underlying26 hi016 (some Zk) Zb.length ZH (ji10) (of_decide_eq_true (by first | (with_reducible assumption) | assumption)) q16 (Kd.R_reads' Zd.out).2.1; have hr16 := Kd.R_take (m := ((ji10) : Int).toNat) Zd.out (by omega); have Zr : y197.length = ((ji10) : Int).toNat := (by rw [Zn.out, List.length_take]; omega); rw [← Zn.out] at hr16
          rw [← Zr] at hr16 hcut16
          clear Zr hi016 hsz16 Zd; have Zv := ak hr16; clear hr16; replace q16 := eq_true q16; go_wp2
          go_roundg k1
          case measure => have := HK1.out; omega
          case rel => exact ⟨(y197), H', ⟨by have := HK1.out; omega⟩, ⟨(rx Zv.out)⟩, ⟨bq⟩⟩
         ·
          rw [if_neg c14] at H
          exact absurd H (by simp)
        ·
         rw [if_neg c13] at H
         have Zm : (((rdOf ByteArray.empty Zb (ji10)).size : Int) == 1) = false := beq_eq_false_iff_ne.mpr c13; have Zu : (((rdOf ByteArray.empty Zb (ji10)).size : Int) != 1) = true := bne_iff_ne.mpr c13; replace H := Option.bind_eq_some_iff.mp H; obtain ⟨t200, A170, H⟩ := H; have A17 := ak A170; clear A170; obtain rfl := Option.some.inj H; obtain ⟨ZT, ZI, eo18⟩ := Kd.R_slice Zd.out; subst eo18; have p196 : 0 ≤ ((ji10) : Int) := of_decide_eq_true (by first | (with_reducible assumption) | assumption); have q196 : (ji10) < (Zb.length : Int) := of_decide_eq_true (by first | (with_reducible assumption) | assumption); obtain ⟨Zk, e196, Zo⟩ := Kd.at_string (Kd.R_reads' Zd.out).2.2 (ji10) p196 q196; cases e196; replace p196 := eq_true p196; replace q196 := eq_true q196; go_wp2_with (first | ((with_reducible refine gate_callee (f := 32) rfl ?_); refine goesL_ (some 30) rfl rfl Tryz.func32 (by kernel_rfl) rfl #[.slice (some Zk) Zb.length ZI] rfl mq ?_; (with_reducible refine (isoglossref04_Join.calls k1 _ _ Zb t200 _ ?side1 ?side2 A17.out).mono ?_); (case side1 => repeat (first | exact (Kd.R_reads' Zd.out).2.2 | (with_reducible refine Kd.C_alloc ?_ _) | (with_reducible refine Kd.C_drewN ?_ _) | (with_reducible refine Kd.C_drew ?_))); (case side2 => exact (Kd.R_reads' Zd.out).2.1); rintro e w' ⟨rfl, ⟨nd, rfl⟩⟩; refine ⟨_, rfl, ?_⟩; (try clear A17)))
         go_ret
         exact ⟨by first | rfl | (simp [errW_none, errW_some] <;> rfl) | (simp only [← hji3, ← hji10]; first | rfl | (simp [errW_none, errW_some] <;> rfl)) | (simp [*, errW_none, errW_some] <;> rfl), bq⟩
       ·
        rw [if_neg c12] at H
        exact absurd H (by simp)
      ·
       rw [if_neg c11] at H
       exact absurd H (by simp)
     ·
      rw [if_neg c9] at H
      have c9b0 : decide (1 < (Zb.length : Int)) = false := decide_eq_false c9; have c9b1 : decide (1 < Zb.length) = false := decide_eq_false (by omega); clear c9; replace H := Option.bind_eq_some_iff.mp H; obtain ⟨t201, A190, H⟩ := H; have A19 := ak A190; clear A190; obtain rfl := Option.some.inj H; obtain ⟨ZJ, ZK, eo20⟩ := Kd.R_slice Zd.out; subst eo20; go_wp2_with (first | ((with_reducible refine gate_callee (f := 32) rfl ?_); refine goesL_ (some 30) rfl rfl Tryz.func32 (by kernel_rfl) rfl #[.slice ZJ Zb.length ZK] rfl mq ?_; (with_reducible refine (isoglossref04_Join.calls k1 _ _ Zb t201 _ ?side1 ?side2 A19.out).mono ?_); (case side1 => repeat (first | exact (Kd.R_reads' Zd.out).2.2 | (with_reducible refine Kd.C_alloc ?_ _) | (with_reducible refine Kd.C_drewN ?_ _) | (with_reducible refine Kd.C_drew ?_))); (case side2 => exact (Kd.R_reads' Zd.out).2.1); rintro e w' ⟨rfl, ⟨nd, rfl⟩⟩; refine ⟨_, rfl, ?_⟩; (try clear A19)))
      go_ret
      exact ⟨by first | rfl | (simp [errW_none, errW_some] <;> rfl) | (simp only [← hji3]; first | rfl | (simp [errW_none, errW_some] <;> rfl)) | (simp [*, errW_none, errW_some] <;> rfl), bq⟩
  ·
   rw [if_neg c5] at H
   exact absurd H (by simp)
 ·
  rw [if_neg c4] at H
  exact absurd H (by simp)

def isoglossref02_lower.f (a0 : Int) : Option (Int) := if a0 ≥ 65 then (if a0 ≤ 90 then (some ((((a0 - 65) % 256) + 97) % 256)) else (some a0)) else (some a0)
theorem isoglossref02_lower.calls (a0 : Int) (r : Int) (w : World) (h : isoglossref02_lower.f a0 = some r) :
 Calls Tryz.prog 68 #[.int .u8 a0] w fun e w' => e = .returned (.int .u8 r) ∧ Drawn0 w w' := by
 have H : (if a0 ≥ 65 then (if a0 ≤ 90 then (some ((((a0 - 65) % 256) + 97) % 256)) else (some a0)) else (some a0)) = some r := h; clear h; by_cases c2 : a0 ≥ 65
 ·
  rw [if_pos c2] at H
  have c2b0 : decide (65 ≤ a0) = true := decide_eq_true c2; clear c2; by_cases c3 : a0 ≤ 90
  ·
   rw [if_pos c3] at H
   have c3b0 : decide (a0 ≤ 90) = true := decide_eq_true c3; clear c3; obtain rfl := Option.some.inj H; go_enter Tryz.func68, Tryz.ntmps68
   go_wp2
   go_ret
   exact ⟨by first | rfl | (simp; done) | (simp [*]; done), by repeat (first | exact Drawn0.refl _ | apply Drawn0.step)⟩
  ·
   rw [if_neg c3] at H
   have c3b0 : decide (a0 ≤ 90) = false := decide_eq_false c3; clear c3; obtain rfl := Option.some.inj H; go_enter Tryz.func68, Tryz.ntmps68
   go_wp2
   go_ret
   exact ⟨by first | rfl | (simp; done) | (simp [*]; done), by repeat (first | exact Drawn0.refl _ | apply Drawn0.step)⟩
 ·
  rw [if_neg c2] at H
  have c2b0 : decide (65 ≤ a0) = false := decide_eq_false c2; clear c2; obtain rfl := Option.some.inj H; go_enter Tryz.func68, Tryz.ntmps68
  go_wp2
  go_ret
  exact ⟨by first | rfl | (simp; done) | (simp [*]; done), by repeat (first | exact Drawn0.refl _ | apply Drawn0.step)⟩

def isoglossref02_Lower.l0 : Nat → ByteArray → List Int → Int → Option (ByteArray)
 | 0, _, _, _ => none
 | k + 1, x0, x3, x4 => if x4 < (x0.size : Int) then (if 0 ≤ x4 then ((isoglossref02_lower.f (bt x0 x4)).bind fun t202 => (if x3.length < 140737488355328 then (isoglossref02_Lower.l0 k x0 (x3 ++ [t202]) (wrap64 (x4 + 1))) else (none))) else (none)) else (some (strOfNums x3))
def isoglossref02_Lower.f (k : Nat) (a0 : ByteArray) : Option (ByteArray) := isoglossref02_Lower.l0 k a0 ([] : List Int) 0
theorem isoglossref02_Lower.calls (k : Nat) (a0 : ByteArray) (r : ByteArray) (w : World) (h : isoglossref02_Lower.f k a0 = some r) :
 Calls Tryz.prog 29 #[.string a0] w fun e w' => e = .returned (.string r) ∧ Below w.heap.size w w' := by
 have HB := ak (Below.refl w.heap.size w); have H : (isoglossref02_Lower.l0 k a0 ([] : List Int) 0) = some r := h; clear h; have H' := ak H; clear H; go_enter Tryz.func29, Tryz.ntmps29
 go_wp2
 go_loopg [3, 4] k (fun kq v3 v4 w' => ∃ (Zb : List Int) (Ze : Int), v4 = .int .i64 Ze ∧ Aside0 (isoglossref02_Lower.l0 kq a0 Zb Ze = some r) ∧ Aside0 (kq ≤ k) ∧ Aside0 (Kd.R (Kd.int .u8) 5 w' w.heap.size (fun _ => True) v3 Zb) ∧ Aside0 (Below w.heap.size w w'))
 case atStart => exact ⟨(([] : List Int)), (0), (by first | rfl | (simp; done) | (simp [*]; done)), H', ⟨Nat.le_refl _⟩, ⟨by first | exact Kd.R_nil _ _ _ _ _ | exact Kd.N_nil _ _ _ _ _ | exact Kd.V_nil _ _ _ _ _ | exact Kd.Q_nil _ _ _ _ _ | exact Kd.S_nil _ _ _ _ _⟩, ⟨bq⟩⟩
 case round =>
  clear H'; obtain ⟨Zb, Ze, rfl, HA, HK1, Zd, HB⟩ := hrel; cases gk with
  | zero => exact absurd HA.out (by simp [isoglossref02_Lower.l0])
  | succ k1 =>
   have H := HA.out; clear HA; simp only [isoglossref02_Lower.l0] at H
   by_cases c2 : Ze < (a0.size : Int)
   ·
    rw [if_pos c2] at H
    have c2b0 : decide (Ze < (a0.size : Int)) = true := decide_eq_true c2; clear c2; by_cases c3 : 0 ≤ Ze
    ·
     rw [if_pos c3] at H
     have c3b0 : decide (0 ≤ Ze) = true := decide_eq_true c3; clear c3; replace H := Option.bind_eq_some_iff.mp H; obtain ⟨t202, A50, H⟩ := H; have A5 := ak A50; clear A50; by_cases c6 : Zb.length < 140737488355328
     ·
      rw [if_pos c6] at H
      have ZL := ak c6; clear c6; obtain ⟨y203, Zh⟩ : ∃ y_ : List Int, y_ = (Zb ++ [t202]) := ⟨_, rfl⟩; replace H : (isoglossref02_Lower.l0 k1 a0 y203 (wrap64 (Ze + 1))) = some r := by first | (rw [Zh]; with_reducible exact H) | (have H2_ := (Option.bind_some _ _).symm.trans H; rw [Zh]; with_reducible exact H2_) | (have H2_ := (Option.bind_some _ _).symm.trans H; with_reducible exact H2_) | with_reducible exact H | (rw [Zh]; exact H) | exact H
      have Zw := ak Zh; clear Zh; have H' := ak H; clear H; have p4 : 0 ≤ (Ze : Int) := of_decide_eq_true (by first | (with_reducible assumption) | assumption); have q4 : Ze < (a0.size : Int) := of_decide_eq_true (by first | (with_reducible assumption) | assumption); have hx4 := bt_at a0 Ze; replace p4 := eq_true p4; replace q4 := eq_true q4; go_wp2_with (first | ((with_reducible refine gate_callee (f := 68) rfl ?_); refine goesL_ (some 15) rfl rfl Tryz.func68 (by kernel_rfl) rfl #[.int .u8 (bt a0 Ze)] rfl mq ?_; (with_reducible refine (isoglossref02_lower.calls (bt a0 Ze) t202 _ A5.out).mono ?_); rintro e w' ⟨rfl, ⟨nd, rfl⟩⟩; refine ⟨_, rfl, ?_⟩; (try clear A5)) | ((with_reducible refine gate_builtin (b := .append) (xs := #[.tmp 11, .tmp 16]) rfl ?_); at_builtin; refine Kd.R_append (Kd.int .u8) (w0 := w) w.heap.size rfl (.tmp 11) (.tmp 16) 38 5 (.int .u8 0) 1 rfl Tryz.underlying38 info5 rfl (by decide) (by omega) u3 Zb t202 [.int .u8 t202] (fun _ => True) (fun _ => False) rfl rfl ?aP (fun _ hk => hk.elim) ?aF ?aO ?aB ?aS ?aL ?_; (case aP => exact rfl); (case aB => exact bq); (case aF => exact (fun _ _ => trivial)); (case aO => exact (rx Zd.out)); (case aS => exact (below_size bq)); (case aL => have := ZL.out; omega); intro v204 w7 ho hb hg hat; rw [← Zw.out] at ho; have n0_ := ak (hb); have n1_ := ak (ho); clear HB; clear Zd; have HB := n0_; have Zx := n1_; clear n0_ n1_; clear ho hb hg hat))
      go_roundg k1
      case measure => have := HK1.out; omega
      case rel => exact ⟨(y203), (wrap64 (Ze + 1)), (by first | rfl | (simp; done) | (simp [*]; done)), H', ⟨by have := HK1.out; omega⟩, ⟨(rx Zx.out)⟩, ⟨bq⟩⟩
     ·
      rw [if_neg c6] at H
      exact absurd H (by simp)
    ·
     rw [if_neg c3] at H
     exact absurd H (by simp)
   ·
    rw [if_neg c2] at H
    have c2b0 : decide (Ze < (a0.size : Int)) = false := decide_eq_false c2; clear c2; obtain rfl := Option.some.inj H; have hcv8 := own_string (P := Tryz.prog) Tryz.underlying38 Tryz.underlying5 Tryz.underlying9 (Kd.own_of_R Zd.out); go_wp2
    go_ret
    exact ⟨by first | rfl | (simp [errW_none, errW_some] <;> rfl) | (simp [*, errW_none, errW_some] <;> rfl), bq⟩

mutual
def isoglossref02_Compare.l0 : Nat → ByteArray → ByteArray → Int → Option (Int)
 | 0, _, _, _ => none
 | k + 1, x5, x6, x7 => if x7 < (x5.size : Int) then (isoglossref02_Compare.j1 k x5 x6 x7 (decide (x7 < (x6.size : Int)))) else (isoglossref02_Compare.j1 k x5 x6 x7 false)
def isoglossref02_Compare.j1 : Nat → ByteArray → ByteArray → Int → Bool → Option (Int)
 | 0, _, _, _, _ => none
 | k + 1, x5, x6, x7, x21 => if x21 = true then (if 0 ≤ x7 then (if x7 < (x5.size : Int) then (if x7 < (x6.size : Int) then (if (bt x5 x7) < (bt x6 x7) then (some (-1)) else (if (bt x5 x7) > (bt x6 x7) then (some 1) else (isoglossref02_Compare.l0 k x5 x6 (wrap64 (x7 + 1))))) else (none)) else (none)) else (none)) else (if (x5.size : Int) < (x6.size : Int) then (some (-1)) else (if (x5.size : Int) > (x6.size : Int) then (some 1) else (some 0)))
end
def isoglossref02_Compare.f (k : Nat) (a0 : ByteArray) (a1 : ByteArray) : Option (Int) := (isoglossref02_Lower.f k a0).bind fun t206 => ((isoglossref02_Lower.f k a1).bind fun t207 => (isoglossref02_Compare.l0 k t206 t207 0))
theorem isoglossref02_Compare.calls (k : Nat) (a0 : ByteArray) (a1 : ByteArray) (r : Int) (w : World) (h : isoglossref02_Compare.f k a0 a1 = some r) :
 Calls Tryz.prog 18 #[.string a0, .string a1] w fun e w' => e = .returned (.int .i64 r) ∧ Below w.heap.size w w' := by
 have HB := ak (Below.refl w.heap.size w); have H : ((isoglossref02_Lower.f k a0).bind fun t206 => ((isoglossref02_Lower.f k a1).bind fun t207 => (isoglossref02_Compare.l0 k t206 t207 0))) = some r := h; clear h; replace H := Option.bind_eq_some_iff.mp H; obtain ⟨t206, A30, H⟩ := H; have A3 := ak A30; clear A30; replace H := Option.bind_eq_some_iff.mp H; obtain ⟨t207, A40, H⟩ := H; have A4 := ak A40; clear A40; have H' := ak H; clear H; go_enter Tryz.func18, Tryz.ntmps18
 go_wp2_with (first | (go_at_call 29; (with_reducible refine (isoglossref02_Lower.calls k a0 t206 _ A3.out).mono ?_); rintro e w5 ⟨rfl, hb⟩; have n0_ := ak (below_step bq hb); clear HB; have HB := n0_; clear n0_; (try clear hb); (try clear hb2); (try clear hk); (try clear hi); (try clear A3)) | (go_at_call 29; (with_reducible refine (isoglossref02_Lower.calls k a1 t207 _ A4.out).mono ?_); rintro e w6 ⟨rfl, hb⟩; have n0_ := ak (below_step bq hb); clear HB; have HB := n0_; clear n0_; (try clear hb); (try clear hb2); (try clear hk); (try clear hi); (try clear A4)))
 repeat (go_quiet (first | (go_at_call 29; (with_reducible refine (isoglossref02_Lower.calls k a0 t206 _ A3.out).mono ?_); rintro e w5 ⟨rfl, hb⟩; have n0_ := ak (below_step bq hb); clear HB; have HB := n0_; clear n0_; (try clear hb); (try clear hb2); (try clear hk); (try clear hi); (try clear A3)) | (go_at_call 29; (with_reducible refine (isoglossref02_Lower.calls k a1 t207 _ A4.out).mono ?_); rintro e w6 ⟨rfl, hb⟩; have n0_ := ak (below_step bq hb); clear HB; have HB := n0_; clear n0_; (try clear hb); (try clear hb2); (try clear hk); (try clear hi); (try clear A4))); try go_wp2_with (first | (go_at_call 29; (with_reducible refine (isoglossref02_Lower.calls k a0 t206 _ A3.out).mono ?_); rintro e w5 ⟨rfl, hb⟩; have n0_ := ak (below_step bq hb); clear HB; have HB := n0_; clear n0_; (try clear hb); (try clear hb2); (try clear hk); (try clear hi); (try clear A3)) | (go_at_call 29; (with_reducible refine (isoglossref02_Lower.calls k a1 t207 _ A4.out).mono ?_); rintro e w6 ⟨rfl, hb⟩; have n0_ := ak (below_step bq hb); clear HB; have HB := n0_; clear n0_; (try clear hb); (try clear hb2); (try clear hk); (try clear hi); (try clear A4))))
 go_loopg [7] k (fun kq v7 w' => ∃ (Za : Int), v7 = .int .i64 Za ∧ Aside0 (isoglossref02_Compare.l0 kq t206 t207 Za = some r) ∧ Aside0 (kq ≤ k) ∧ Aside0 (Below w.heap.size w w'))
 case atStart => exact ⟨(0), (by first | rfl | (simp; done) | (simp [*]; done)), H', ⟨Nat.le_refl _⟩, ⟨bq⟩⟩
 case round =>
  clear H'; obtain ⟨Za, rfl, HA, HK1, HB⟩ := hrel; cases gk with
  | zero => exact absurd HA.out (by simp [isoglossref02_Compare.l0])
  | succ k1 =>
   have H := HA.out; clear HA; simp only [isoglossref02_Compare.l0] at H
   have HC7 := ak H; clear H; go_upto_region 4 with (fail)
   repeat (go_quiet (fail); go_upto_region 4 with (fail))
   go_cut [21] (fun v21 wc => ∃ (kq : Nat) (Zj : Bool), v21 = .bool Zj ∧ Aside0 (isoglossref02_Compare.j1 kq t206 t207 Za Zj = some r) ∧ Aside0 (kq ≤ k1) ∧ Aside0 (Below w.heap.size w wc))
   case first =>
    have H := HC7.out; clear HC7; by_cases c8 : Za < (t206.size : Int)
    ·
     rw [if_pos c8] at H
     have c8b0 : decide (Za < (t206.size : Int)) = true := decide_eq_true c8; clear c8; (first | rw [c8b0] | (simp only [i64_w, i32_w]; rw [c8b0]) | rw [c8b2] | skip)
     have H' := ak H; clear H; go_wp2
     repeat (go_quiet (fail); try go_wp2)
     go_meet
     case rel => exact ⟨_, (decide (Za < (t207.size : Int))), (by first | rfl | (simp; done) | (simp [*]; done)), H', ⟨by have := HK1.out; first | omega | exact Nat.le_refl _⟩, ⟨bq⟩⟩
    ·
     rw [if_neg c8] at H
     have c8b0 : decide (Za < (t206.size : Int)) = false := decide_eq_false c8; clear c8; (first | rw [c8b0] | (simp only [i64_w, i32_w]; rw [c8b0]) | rw [c8b2] | skip)
     have H' := ak H; clear H; go_wp2
     repeat (go_quiet (fail); try go_wp2)
     go_meet
     case rel => exact ⟨_, (false), (by first | rfl | (simp; done) | (simp [*]; done)), H', ⟨by have := HK1.out; first | omega | exact Nat.le_refl _⟩, ⟨bq⟩⟩
   case rest =>
    clear HC7; obtain ⟨kq, Zj, rfl, HA, HJ6, HB⟩ := hcut; cases kq with
    | zero => exact absurd HA.out (by simp [isoglossref02_Compare.j1])
    | succ kj6 =>
     have H := HA.out; clear HA; simp only [isoglossref02_Compare.j1] at H
     by_cases c9 : Zj = true
     ·
      subst c9; have H1 : (if 0 ≤ Za then (if Za < (t206.size : Int) then (if Za < (t207.size : Int) then (if (bt t206 Za) < (bt t207 Za) then (some (-1)) else (if (bt t206 Za) > (bt t207 Za) then (some 1) else (isoglossref02_Compare.l0 kj6 t206 t207 (wrap64 (Za + 1))))) else (none)) else (none)) else (none)) = some r := by rw [if_pos rfl] at H; exact H
      clear H; have H := H1; clear H1; by_cases c10 : 0 ≤ Za
      ·
       rw [if_pos c10] at H
       have ZR : decide (0 ≤ Za) = true := decide_eq_true c10; clear c10; by_cases c11 : Za < (t206.size : Int)
       ·
        rw [if_pos c11] at H
        have Zt : decide (Za < (t206.size : Int)) = true := decide_eq_true c11; clear c11; by_cases c13 : Za < (t207.size : Int)
        ·
         rw [if_pos c13] at H
         have Zm : decide (Za < (t207.size : Int)) = true := decide_eq_true c13; clear c13; by_cases c15 : (bt t206 Za) < (bt t207 Za)
         ·
          rw [if_pos c15] at H
          have Zy : decide ((bt t206 Za) < (bt t207 Za)) = true := decide_eq_true c15; clear c15; obtain rfl := Option.some.inj H; have p12 : 0 ≤ (Za : Int) := of_decide_eq_true (by first | (with_reducible assumption) | assumption); have q12 : Za < (t206.size : Int) := of_decide_eq_true (by first | (with_reducible assumption) | assumption); have hx12 := bt_at t206 Za; replace p12 := eq_true p12; replace q12 := eq_true q12; have p14 : 0 ≤ (Za : Int) := of_decide_eq_true (by first | (with_reducible assumption) | assumption); have q14 : Za < (t207.size : Int) := of_decide_eq_true (by first | (with_reducible assumption) | assumption); have hx14 := bt_at t207 Za; replace p14 := eq_true p14; replace q14 := eq_true q14; go_wp2
          repeat (go_quiet (fail); try go_wp2)
          go_ret
          exact ⟨by first | rfl | (simp [errW_none, errW_some] <;> rfl) | (simp [*, errW_none, errW_some] <;> rfl), bq⟩
         ·
          rw [if_neg c15] at H
          have Zy : decide ((bt t206 Za) < (bt t207 Za)) = false := decide_eq_false c15; clear c15; by_cases c18 : (bt t206 Za) > (bt t207 Za)
          ·
           rw [if_pos c18] at H
           have Zz : decide ((bt t207 Za) < (bt t206 Za)) = true := decide_eq_true c18; clear c18; obtain rfl := Option.some.inj H; have p12 : 0 ≤ (Za : Int) := of_decide_eq_true (by first | (with_reducible assumption) | assumption); have q12 : Za < (t206.size : Int) := of_decide_eq_true (by first | (with_reducible assumption) | assumption); have hx12 := bt_at t206 Za; replace p12 := eq_true p12; replace q12 := eq_true q12; have p14 : 0 ≤ (Za : Int) := of_decide_eq_true (by first | (with_reducible assumption) | assumption); have q14 : Za < (t207.size : Int) := of_decide_eq_true (by first | (with_reducible assumption) | assumption); have hx14 := bt_at t207 Za; replace p14 := eq_true p14; replace q14 := eq_true q14; have p16 : 0 ≤ (Za : Int) := of_decide_eq_true (by first | (with_reducible assumption) | assumption); have q16 : Za < (t206.size : Int) := of_decide_eq_true (by first | (with_reducible assumption) | assumption); have hx16 := bt_at t206 Za; replace p16 := eq_true p16; replace q16 := eq_true q16; have p17 : 0 ≤ (Za : Int) := of_decide_eq_true (by first | (with_reducible assumption) | assumption); have q17 : Za < (t207.size : Int) := of_decide_eq_true (by first | (with_reducible assumption) | assumption); have hx17 := bt_at t207 Za; replace p17 := eq_true p17; replace q17 := eq_true q17; go_wp2
           repeat (go_quiet (fail); try go_wp2)
           go_ret
           exact ⟨by first | rfl | (simp [errW_none, errW_some] <;> rfl) | (simp [*, errW_none, errW_some] <;> rfl), bq⟩
          ·
           rw [if_neg c18] at H
           have Zz : decide ((bt t207 Za) < (bt t206 Za)) = false := decide_eq_false c18; clear c18; have H' := ak H; clear H; have p12 : 0 ≤ (Za : Int) := of_decide_eq_true (by first | (with_reducible assumption) | assumption); have q12 : Za < (t206.size : Int) := of_decide_eq_true (by first | (with_reducible assumption) | assumption); have hx12 := bt_at t206 Za; replace p12 := eq_true p12; replace q12 := eq_true q12; have p14 : 0 ≤ (Za : Int) := of_decide_eq_true (by first | (with_reducible assumption) | assumption); have q14 : Za < (t207.size : Int) := of_decide_eq_true (by first | (with_reducible assumption) | assumption); have hx14 := bt_at t207 Za; replace p14 := eq_true p14; replace q14 := eq_true q14; have p16 : 0 ≤ (Za : Int) := of_decide_eq_true (by first | (with_reducible assumption) | assumption); have q16 : Za < (t206.size : Int) := of_decide_eq_true (by first | (with_reducible assumption) | assumption); have hx16 := bt_at t206 Za; replace p16 := eq_true p16; replace q16 := eq_true q16; have p17 : 0 ≤ (Za : Int) := of_decide_eq_true (by first | (with_reducible assumption) | assumption); have q17 : Za < (t207.size : Int) := of_decide_eq_true (by first | (with_reducible assumption) | assumption); have hx17 := bt_at t207 Za; replace p17 := eq_true p17; replace q17 := eq_true q17; go_wp2
           repeat (go_quiet (fail); try go_wp2)
           go_roundg kj6
           case measure => have := HK1.out; have := HJ6.out; omega
           case rel => exact ⟨(wrap64 (Za + 1)), (by first | rfl | (simp; done) | (simp [*]; done)), H', ⟨by have := HK1.out; have := HJ6.out; omega⟩, ⟨bq⟩⟩
        ·
         rw [if_neg c13] at H
         exact absurd H (by simp)
       ·
        rw [if_neg c11] at H
        exact absurd H (by simp)
      ·
       rw [if_neg c10] at H
       exact absurd H (by simp)
     ·
      replace c9 := Bool.eq_false_iff.mpr c9; subst c9; have H1 : (if (t206.size : Int) < (t207.size : Int) then (some (-1)) else (if (t206.size : Int) > (t207.size : Int) then (some 1) else (some 0))) = some r := by rw [if_neg (show ¬ (false = true) by decide)] at H; exact H
      clear H; have H := H1; clear H1; by_cases c19 : (t206.size : Int) < (t207.size : Int)
      ·
       rw [if_pos c19] at H
       have ZA : decide ((t206.size : Int) < (t207.size : Int)) = true := decide_eq_true c19; have ZB : decide (t206.size < t207.size) = true := decide_eq_true (Int.ofNat_lt.mp c19); clear c19; obtain rfl := Option.some.inj H; go_wp2
       repeat (go_quiet (fail); try go_wp2)
       go_ret
       exact ⟨by first | rfl | (simp [errW_none, errW_some] <;> rfl) | (simp [*, errW_none, errW_some] <;> rfl), bq⟩
      ·
       rw [if_neg c19] at H
       have ZA : decide ((t206.size : Int) < (t207.size : Int)) = false := decide_eq_false c19; have ZB : decide (t206.size < t207.size) = false := decide_eq_false (fun h => c19 (Int.ofNat_lt.mpr h)); clear c19; by_cases c20 : (t206.size : Int) > (t207.size : Int)
       ·
        rw [if_pos c20] at H
        have ZC : decide ((t207.size : Int) < (t206.size : Int)) = true := decide_eq_true c20; have ZD : decide (t207.size < t206.size) = true := decide_eq_true (Int.ofNat_lt.mp c20); clear c20; obtain rfl := Option.some.inj H; go_wp2
        repeat (go_quiet (fail); try go_wp2)
        go_ret
        exact ⟨by first | rfl | (simp [errW_none, errW_some] <;> rfl) | (simp [*, errW_none, errW_some] <;> rfl), bq⟩
       ·
        rw [if_neg c20] at H
        have ZC : decide ((t207.size : Int) < (t206.size : Int)) = false := decide_eq_false c20; have ZD : decide (t207.size < t206.size) = false := decide_eq_false (fun h => c20 (Int.ofNat_lt.mpr h)); clear c20; obtain rfl := Option.some.inj H; go_wp2
        repeat (go_quiet (fail); try go_wp2)
        go_ret
        exact ⟨by first | rfl | (simp [errW_none, errW_some] <;> rfl) | (simp [*, errW_none, errW_some] <;> rfl), bq⟩

def isoglossref04_Same.l0 : Nat → List ByteArray → List ByteArray → Int → Option (Bool)
 | 0, _, _, _ => none
 | k + 1, x0, x1, x5 => if x5 < (x0.length : Int) then (if 0 ≤ x5 then (if x5 < (x1.length : Int) then (if (rdOf ByteArray.empty x0 x5).toList = (rdOf ByteArray.empty x1 x5).toList then (isoglossref04_Same.l0 k x0 x1 (wrap64 (x5 + 1))) else (some false)) else (none)) else (none)) else (some true)
def isoglossref04_Same.f (k : Nat) (l0 : List ByteArray) (l1 : List ByteArray) : Option (Bool) := if (l0.length : Int) = (l1.length : Int) then (isoglossref04_Same.l0 k l0 l1 0) else (some false)
theorem isoglossref04_Same.calls (k : Nat) (A0 : Option Addr) (c0 : Nat) (l0 : List ByteArray) (A1 : Option Addr) (c1 : Nat) (l1 : List ByteArray) (r : Bool) (w : World) (hr0 : Kd.C Kd.string w A0 l0.length l0) (hc0 : l0.length ≤ c0) (hr1 : Kd.C Kd.string w A1 l1.length l1) (hc1 : l1.length ≤ c1) (h : isoglossref04_Same.f k l0 l1 = some r) :
 Calls Tryz.prog 19 #[.slice A0 l0.length c0, .slice A1 l1.length c1] w fun e w' => e = .returned (.bool r) ∧ Drawn0 w w' := by
 have HR0 := ak hr0; have HC0 := ak hc0; clear hr0 hc0; have HR1 := ak hr1; have HC1 := ak hc1; clear hr1 hc1; have H : (if (l0.length : Int) = (l1.length : Int) then (isoglossref04_Same.l0 k l0 l1 0) else (some false)) = some r := h; clear h; by_cases c3 : (l0.length : Int) = (l1.length : Int)
 ·
  rw [if_pos c3] at H
  have c3b0 : ((l0.length : Int) == (l1.length : Int)) = true := beq_iff_eq.mpr c3; have c3b1 : ((l0.length : Int) != (l1.length : Int)) = false := bne_eq_false_iff_eq.mpr c3; have c3b2 : (l0.length == l1.length) = true := by first | simpa using c3 | (simp at c3 ⊢; omega)
  clear c3; have H' := ak H; clear H; go_enter Tryz.func19, Tryz.ntmps19
  go_wp2
  repeat (go_quiet (fail); try go_wp2)
  go_loopg [5] k (fun kq v5 w' => ∃ (Zc : Int), v5 = .int .i64 Zc ∧ Aside0 (isoglossref04_Same.l0 kq l0 l1 Zc = some r) ∧ Aside0 (kq ≤ k) ∧ Drawn0 w w')
  case atStart => exact ⟨(0), (by first | rfl | (simp; done) | (simp [*]; done)), H', ⟨Nat.le_refl _⟩, by repeat (first | exact Drawn0.refl _ | apply Drawn0.step)⟩
  case round =>
   clear H' c3b0 c3b1 c3b2; obtain ⟨Zc, rfl, HA, HK1, ⟨m1, rfl⟩⟩ := hrel; cases gk with
   | zero => exact absurd HA.out (by simp [isoglossref04_Same.l0])
   | succ k1 =>
    have H := HA.out; clear HA; simp only [isoglossref04_Same.l0] at H
    by_cases c4 : Zc < (l0.length : Int)
    ·
     rw [if_pos c4] at H
     have c4b0 : decide (Zc < (l0.length : Int)) = true := decide_eq_true c4; clear c4; by_cases c5 : 0 ≤ Zc
     ·
      rw [if_pos c5] at H
      have c5b0 : decide (0 ≤ Zc) = true := decide_eq_true c5; clear c5; by_cases c6 : Zc < (l1.length : Int)
      ·
       rw [if_pos c6] at H
       have c6b0 : decide (Zc < (l1.length : Int)) = true := decide_eq_true c6; clear c6; by_cases c7 : (rdOf ByteArray.empty l0 Zc).toList = (rdOf ByteArray.empty l1 Zc).toList
       ·
        rw [if_pos c7] at H
        have c7b0 : ((rdOf ByteArray.empty l0 Zc).toList == (rdOf ByteArray.empty l1 Zc).toList) = true := beq_iff_eq.mpr c7; have c7b1 : ((rdOf ByteArray.empty l0 Zc).toList != (rdOf ByteArray.empty l1 Zc).toList) = false := bne_eq_false_iff_eq.mpr c7; clear c7; have H' := ak H; clear H; have p208 : 0 ≤ (Zc : Int) := of_decide_eq_true (by first | (with_reducible assumption) | assumption); have q208 : Zc < (l0.length : Int) := of_decide_eq_true (by first | (with_reducible assumption) | assumption); obtain ⟨ZE, e208, Zp⟩ := Kd.at_string HR0.out Zc p208 q208; cases e208; replace p208 := eq_true p208; replace q208 := eq_true q208; have p209 : 0 ≤ (Zc : Int) := of_decide_eq_true (by first | (with_reducible assumption) | assumption); have q209 : Zc < (l1.length : Int) := of_decide_eq_true (by first | (with_reducible assumption) | assumption); obtain ⟨ZF, e209, Zq⟩ := Kd.at_string HR1.out Zc p209 q209; cases e209; replace p209 := eq_true p209; replace q209 := eq_true q209; go_wp2
        repeat (go_quiet (fail); try go_wp2)
        go_roundg k1
        case measure => have := HK1.out; omega
        case rel => exact ⟨(wrap64 (Zc + 1)), (by first | rfl | (simp; done) | (simp [*]; done)), H', ⟨by have := HK1.out; omega⟩, by repeat (first | exact Drawn0.refl _ | apply Drawn0.step)⟩
       ·
        rw [if_neg c7] at H
        have c7b0 : ((rdOf ByteArray.empty l0 Zc).toList == (rdOf ByteArray.empty l1 Zc).toList) = false := beq_eq_false_iff_ne.mpr c7; have c7b1 : ((rdOf ByteArray.empty l0 Zc).toList != (rdOf ByteArray.empty l1 Zc).toList) = true := bne_iff_ne.mpr c7; obtain rfl := Option.some.inj H; have p208 : 0 ≤ (Zc : Int) := of_decide_eq_true (by first | (with_reducible assumption) | assumption); have q208 : Zc < (l0.length : Int) := of_decide_eq_true (by first | (with_reducible assumption) | assumption); obtain ⟨ZE, e208, Zp⟩ := Kd.at_string HR0.out Zc p208 q208; cases e208; replace p208 := eq_true p208; replace q208 := eq_true q208; have p209 : 0 ≤ (Zc : Int) := of_decide_eq_true (by first | (with_reducible assumption) | assumption); have q209 : Zc < (l1.length : Int) := of_decide_eq_true (by first | (with_reducible assumption) | assumption); obtain ⟨ZF, e209, Zq⟩ := Kd.at_string HR1.out Zc p209 q209; cases e209; replace p209 := eq_true p209; replace q209 := eq_true q209; go_wp2
        repeat (go_quiet (fail); try go_wp2)
        go_ret
        exact ⟨by first | rfl | (simp; done) | (simp [*]; done), by repeat (first | exact Drawn0.refl _ | apply Drawn0.step)⟩
      ·
       rw [if_neg c6] at H
       exact absurd H (by simp)
     ·
      rw [if_neg c5] at H
      exact absurd H (by simp)
    ·
     rw [if_neg c4] at H
     have c4b0 : decide (Zc < (l0.length : Int)) = false := decide_eq_false c4; clear c4; obtain rfl := Option.some.inj H; go_wp2
     repeat (go_quiet (fail); try go_wp2)
     go_ret
     exact ⟨by first | rfl | (simp; done) | (simp [*]; done), by repeat (first | exact Drawn0.refl _ | apply Drawn0.step)⟩
 ·
  rw [if_neg c3] at H
  have c3b0 : ((l0.length : Int) == (l1.length : Int)) = false := beq_eq_false_iff_ne.mpr c3; have c3b1 : ((l0.length : Int) != (l1.length : Int)) = true := bne_iff_ne.mpr c3; have c3b2 : (l0.length == l1.length) = false := by first | simpa using c3 | (simp at c3 ⊢; omega)
  obtain rfl := Option.some.inj H; go_enter Tryz.func19, Tryz.ntmps19
  go_wp2
  repeat (go_quiet (fail); try go_wp2)
  go_ret
  exact ⟨by first | rfl | (simp; done) | (simp [*]; done), by repeat (first | exact Drawn0.refl _ | apply Drawn0.step)⟩
end Go.Proofs.YtpmcfckechjppaaGreatDoor.P
