/- Made by a program of this seat's own (shake.py, merge.py): what the claim leans on: P5, P14, P6, P15, P1. -/
import Derived.Test.YtpmcfckechjppaaGreatDoorDd02
set_option linter.unusedVariables false
set_option linter.unusedSimpArgs false
set_option maxRecDepth 100000
set_option maxHeartbeats 8000000
namespace Go.Proofs.YtpmcfckechjppaaGreatDoor.P
open Go.RowKit Go.Proofs.YtpmcfckechjppaaGreatDoorW.PrintWords Go.Proofs.YtpmcfckechjppaaGreatDoorW.PrintLast Go.Proofs.YtpmcfckechjppaaGreatDoorW.PrintMore
attribute [local go_sem] StrOrd.binOp_gtr StrOrd.binOp_leq z7m z7a v0v v1k z4o z4r z7h z6v   -- for this text's walks alone
mutual
def q0f.l0 : Nat → ByteArray → Int → Int → Int → Option (Int)
 | 0, _, _, _, _ => none
 | k + 1, x0, x3, x4, x5 => if x5 < (x0.size : Int) then (if 0 ≤ x5 then ((q1m.f (bt x0 x5)).bind fun t180 => ((q1q.f (bt x0 x5)).bind fun t181 => (if t180 = true then (if t181 = true then (q0f.l0 k x0 (wrap64 (x3 + 1)) (wrap64 (x4 + 1)) (wrap64 (x5 + 1))) else (q0f.l0 k x0 (wrap64 (x3 + 1)) x4 (wrap64 (x5 + 1)))) else (if t181 = true then (q0f.l0 k x0 x3 (wrap64 (x4 + 1)) (wrap64 (x5 + 1))) else (q0f.l0 k x0 x3 x4 (wrap64 (x5 + 1))))))) else (none)) else (if x0.toList = ([] : List UInt8) then (q0f.j1 k x3 x4 true) else (q0f.j1 k x3 x4 (decide ((wrap64 (x3 + x4)) < (x0.size : Int)))))
def q0f.j1 : Nat → Int → Int → Bool → Option (Int)
 | 0, _, _, _ => none
 | k + 1, x3, x4, x37 => if x37 = true then (some 0) else (if x4 = 0 then (some 1) else (if x3 = 0 then (some 2) else (some 3)))
end
def q0f.f (k : Nat) (a0 : ByteArray) : Option (Int) := q0f.l0 k a0 0 0 0
theorem q0f.calls (k : Nat) (a0 : ByteArray) (r : Int) (w : World) (h : q0f.f k a0 = some r) :
 Calls Tryz.prog 79 #[.string a0] w fun e w' => e = .returned (.int .i64 r) ∧ q0k w w' := by
 have H : (q0f.l0 k a0 0 0 0) = some r := h
 clear h
 have H' := ak H
 clear H
 go_enter Tryz.func79, Tryz.ntmps79
 go_wp2
 go_loopg [3, 4, 5] k (fun kq v3 v4 v5 w' => ∃ (x3_1 : Int) (x4_1 : Int) (x5_1 : Int), v3 = .int .i64 x3_1 ∧ v4 = .int .i64 x4_1 ∧ v5 = .int .i64 x5_1 ∧ q0c (q0f.l0 kq a0 x3_1 x4_1 x5_1 = some r) ∧ q0c (kq ≤ k) ∧ q0k w w')
 case atStart => exact ⟨(0), (0), (0), (by first | rfl | (simp; done) | (simp [*]; done)), (by first | rfl | (simp; done) | (simp [*]; done)), (by first | rfl | (simp; done) | (simp [*]; done)), H', ⟨Nat.le_refl _⟩, by repeat (first | exact q0k.refl _ | apply q0k.step)⟩
 case round =>
  clear H'
  obtain ⟨x3_1, x4_1, x5_1, rfl, rfl, rfl, HA, HK1, ⟨m1, rfl⟩⟩ := hrel
  cases gk with
  | zero => exact absurd HA.out (by simp [q0f.l0])
  | succ k1 =>
   have H := HA.out
   clear HA
   simp only [q0f.l0] at H
   by_cases c2 : x5_1 < (a0.size : Int)
   ·
    rw [if_pos c2] at H
    have c2b0 : decide (x5_1 < (a0.size : Int)) = true := decide_eq_true c2
    clear c2
    by_cases c3 : 0 ≤ x5_1
    ·
     rw [if_pos c3] at H
     have c3b0 : decide (0 ≤ x5_1) = true := decide_eq_true c3
     clear c3
     replace H := Option.bind_eq_some_iff.mp H
     obtain ⟨t180, A50, H⟩ := H
     have A5 := ak A50
     clear A50
     replace H := Option.bind_eq_some_iff.mp H
     obtain ⟨t181, A70, H⟩ := H
     have A7 := ak A70
     clear A70
     by_cases c8 : t180 = true
     ·
      subst c8
      have H1 : (if t181 = true then (q0f.l0 k1 a0 (wrap64 (x3_1 + 1)) (wrap64 (x4_1 + 1)) (wrap64 (x5_1 + 1))) else (q0f.l0 k1 a0 (wrap64 (x3_1 + 1)) x4_1 (wrap64 (x5_1 + 1)))) = some r := by rw [if_pos rfl] at H; exact H
      clear H
      have H := H1
      clear H1
      by_cases c9 : t181 = true
      ·
       subst c9
       have H1 : (q0f.l0 k1 a0 (wrap64 (x3_1 + 1)) (wrap64 (x4_1 + 1)) (wrap64 (x5_1 + 1))) = some r := by rw [if_pos rfl] at H; exact H
       clear H
       have H := H1
       clear H1
       have H' := ak H
       clear H
       have p4 : 0 ≤ (x5_1 : Int) := of_decide_eq_true (by first | (with_reducible assumption) | assumption)
       have q4 : x5_1 < (a0.size : Int) := of_decide_eq_true (by first | (with_reducible assumption) | assumption)
       have hx4 := q5w a0 x5_1
       replace p4 := eq_true p4
       replace q4 := eq_true q4
       go_wp2_with (first | ((with_reducible refine q0s (f := 152) rfl ?_); refine q2e (some 17) rfl rfl Tryz.func152 (by kernel_rfl) rfl #[.int .u8 (bt a0 x5_1)] rfl mq ?_; (with_reducible refine (q1m.calls (bt a0 x5_1) true _ A5.out).mono ?_); rintro e w' ⟨rfl, ⟨nd, rfl⟩⟩; refine ⟨_, rfl, ?_⟩; have p6 : 0 ≤ (x5_1 : Int) := of_decide_eq_true (by first | (with_reducible assumption) | assumption); have q6 : x5_1 < (a0.size : Int) := of_decide_eq_true (by first | (with_reducible assumption) | assumption); have hx6 := q5w a0 x5_1; replace p6 := eq_true p6; replace q6 := eq_true q6; (try clear A5)) | ((with_reducible refine q0s (f := 153) rfl ?_); refine q2e (some 21) rfl rfl Tryz.func153 (by kernel_rfl) rfl #[.int .u8 (bt a0 x5_1)] rfl mq ?_; (with_reducible refine (q1q.calls (bt a0 x5_1) true _ A7.out).mono ?_); rintro e w' ⟨rfl, ⟨nd, rfl⟩⟩; refine ⟨_, rfl, ?_⟩; (try clear A7)))
       go_roundg k1
       case measure => have := HK1.out; omega
       case rel => exact ⟨(wrap64 (x3_1 + 1)), (wrap64 (x4_1 + 1)), (wrap64 (x5_1 + 1)), (by first | rfl | (simp; done) | (simp [*]; done)), (by first | rfl | (simp; done) | (simp [*]; done)), (by first | rfl | (simp; done) | (simp [*]; done)), H', ⟨by have := HK1.out; omega⟩, by repeat (first | exact q0k.refl _ | apply q0k.step)⟩
      ·
       replace c9 := Bool.eq_false_iff.mpr c9
       subst c9
       have H1 : (q0f.l0 k1 a0 (wrap64 (x3_1 + 1)) x4_1 (wrap64 (x5_1 + 1))) = some r := by rw [if_neg (show ¬ (false = true) by decide)] at H; exact H
       clear H
       have H := H1
       clear H1
       have H' := ak H
       clear H
       have p4 : 0 ≤ (x5_1 : Int) := of_decide_eq_true (by first | (with_reducible assumption) | assumption)
       have q4 : x5_1 < (a0.size : Int) := of_decide_eq_true (by first | (with_reducible assumption) | assumption)
       have hx4 := q5w a0 x5_1
       replace p4 := eq_true p4
       replace q4 := eq_true q4
       go_wp2_with (first | ((with_reducible refine q0s (f := 152) rfl ?_); refine q2e (some 17) rfl rfl Tryz.func152 (by kernel_rfl) rfl #[.int .u8 (bt a0 x5_1)] rfl mq ?_; (with_reducible refine (q1m.calls (bt a0 x5_1) true _ A5.out).mono ?_); rintro e w' ⟨rfl, ⟨nd, rfl⟩⟩; refine ⟨_, rfl, ?_⟩; have p6 : 0 ≤ (x5_1 : Int) := of_decide_eq_true (by first | (with_reducible assumption) | assumption); have q6 : x5_1 < (a0.size : Int) := of_decide_eq_true (by first | (with_reducible assumption) | assumption); have hx6 := q5w a0 x5_1; replace p6 := eq_true p6; replace q6 := eq_true q6; (try clear A5)) | ((with_reducible refine q0s (f := 153) rfl ?_); refine q2e (some 21) rfl rfl Tryz.func153 (by kernel_rfl) rfl #[.int .u8 (bt a0 x5_1)] rfl mq ?_; (with_reducible refine (q1q.calls (bt a0 x5_1) false _ A7.out).mono ?_); rintro e w' ⟨rfl, ⟨nd, rfl⟩⟩; refine ⟨_, rfl, ?_⟩; (try clear A7)))
       go_roundg k1
       case measure => have := HK1.out; omega
       case rel => exact ⟨(wrap64 (x3_1 + 1)), (x4_1), (wrap64 (x5_1 + 1)), (by first | rfl | (simp; done) | (simp [*]; done)), (by first | rfl | (simp; done) | (simp [*]; done)), (by first | rfl | (simp; done) | (simp [*]; done)), H', ⟨by have := HK1.out; omega⟩, by repeat (first | exact q0k.refl _ | apply q0k.step)⟩
     ·
      replace c8 := Bool.eq_false_iff.mpr c8
      subst c8
      have H1 : (if t181 = true then (q0f.l0 k1 a0 x3_1 (wrap64 (x4_1 + 1)) (wrap64 (x5_1 + 1))) else (q0f.l0 k1 a0 x3_1 x4_1 (wrap64 (x5_1 + 1)))) = some r := by rw [if_neg (show ¬ (false = true) by decide)] at H; exact H
      clear H
      have H := H1
      clear H1
      by_cases c10 : t181 = true
      ·
       subst c10
       have H1 : (q0f.l0 k1 a0 x3_1 (wrap64 (x4_1 + 1)) (wrap64 (x5_1 + 1))) = some r := by rw [if_pos rfl] at H; exact H
       clear H
       have H := H1
       clear H1
       have H' := ak H
       clear H
       have p4 : 0 ≤ (x5_1 : Int) := of_decide_eq_true (by first | (with_reducible assumption) | assumption)
       have q4 : x5_1 < (a0.size : Int) := of_decide_eq_true (by first | (with_reducible assumption) | assumption)
       have hx4 := q5w a0 x5_1
       replace p4 := eq_true p4
       replace q4 := eq_true q4
       go_wp2_with (first | ((with_reducible refine q0s (f := 152) rfl ?_); refine q2e (some 17) rfl rfl Tryz.func152 (by kernel_rfl) rfl #[.int .u8 (bt a0 x5_1)] rfl mq ?_; (with_reducible refine (q1m.calls (bt a0 x5_1) false _ A5.out).mono ?_); rintro e w' ⟨rfl, ⟨nd, rfl⟩⟩; refine ⟨_, rfl, ?_⟩; have p6 : 0 ≤ (x5_1 : Int) := of_decide_eq_true (by first | (with_reducible assumption) | assumption); have q6 : x5_1 < (a0.size : Int) := of_decide_eq_true (by first | (with_reducible assumption) | assumption); have hx6 := q5w a0 x5_1; replace p6 := eq_true p6; replace q6 := eq_true q6; (try clear A5)) | ((with_reducible refine q0s (f := 153) rfl ?_); refine q2e (some 21) rfl rfl Tryz.func153 (by kernel_rfl) rfl #[.int .u8 (bt a0 x5_1)] rfl mq ?_; (with_reducible refine (q1q.calls (bt a0 x5_1) true _ A7.out).mono ?_); rintro e w' ⟨rfl, ⟨nd, rfl⟩⟩; refine ⟨_, rfl, ?_⟩; (try clear A7)))
       go_roundg k1
       case measure => have := HK1.out; omega
       case rel => exact ⟨(x3_1), (wrap64 (x4_1 + 1)), (wrap64 (x5_1 + 1)), (by first | rfl | (simp; done) | (simp [*]; done)), (by first | rfl | (simp; done) | (simp [*]; done)), (by first | rfl | (simp; done) | (simp [*]; done)), H', ⟨by have := HK1.out; omega⟩, by repeat (first | exact q0k.refl _ | apply q0k.step)⟩
      ·
       replace c10 := Bool.eq_false_iff.mpr c10
       subst c10
       have H1 : (q0f.l0 k1 a0 x3_1 x4_1 (wrap64 (x5_1 + 1))) = some r := by rw [if_neg (show ¬ (false = true) by decide)] at H; exact H
       clear H
       have H := H1
       clear H1
       have H' := ak H
       clear H
       have p4 : 0 ≤ (x5_1 : Int) := of_decide_eq_true (by first | (with_reducible assumption) | assumption)
       have q4 : x5_1 < (a0.size : Int) := of_decide_eq_true (by first | (with_reducible assumption) | assumption)
       have hx4 := q5w a0 x5_1
       replace p4 := eq_true p4
       replace q4 := eq_true q4
       go_wp2_with (first | ((with_reducible refine q0s (f := 152) rfl ?_); refine q2e (some 17) rfl rfl Tryz.func152 (by kernel_rfl) rfl #[.int .u8 (bt a0 x5_1)] rfl mq ?_; (with_reducible refine (q1m.calls (bt a0 x5_1) false _ A5.out).mono ?_); rintro e w' ⟨rfl, ⟨nd, rfl⟩⟩; refine ⟨_, rfl, ?_⟩; have p6 : 0 ≤ (x5_1 : Int) := of_decide_eq_true (by first | (with_reducible assumption) | assumption); have q6 : x5_1 < (a0.size : Int) := of_decide_eq_true (by first | (with_reducible assumption) | assumption); have hx6 := q5w a0 x5_1; replace p6 := eq_true p6; replace q6 := eq_true q6; (try clear A5)) | ((with_reducible refine q0s (f := 153) rfl ?_); refine q2e (some 21) rfl rfl Tryz.func153 (by kernel_rfl) rfl #[.int .u8 (bt a0 x5_1)] rfl mq ?_; (with_reducible refine (q1q.calls (bt a0 x5_1) false _ A7.out).mono ?_); rintro e w' ⟨rfl, ⟨nd, rfl⟩⟩; refine ⟨_, rfl, ?_⟩; (try clear A7)))
       go_roundg k1
       case measure => have := HK1.out; omega
       case rel => exact ⟨(x3_1), (x4_1), (wrap64 (x5_1 + 1)), (by first | rfl | (simp; done) | (simp [*]; done)), (by first | rfl | (simp; done) | (simp [*]; done)), (by first | rfl | (simp; done) | (simp [*]; done)), H', ⟨by have := HK1.out; omega⟩, by repeat (first | exact q0k.refl _ | apply q0k.step)⟩
    ·
     rw [if_neg c3] at H
     exact absurd H (by simp)
   ·
    rw [if_neg c2] at H
    have c2b0 : decide (x5_1 < (a0.size : Int)) = false := decide_eq_false c2
    clear c2
    have HC11 := ak H
    clear H
    go_upto_region 12 with (fail)
    go_cut [37] (fun v37 wc => ∃ (kq : Nat) (x37_10 : Bool), v37 = .bool x37_10 ∧ q0c (q0f.j1 kq x3_1 x4_1 x37_10 = some r) ∧ q0c (kq ≤ k1) ∧ q0k w wc)
    case first =>
     have H := HC11.out
     clear HC11
     by_cases c12 : a0.toList = ([] : List UInt8)
     ·
      rw [if_pos c12] at H
      have c12b0 : (a0.toList == ([] : List UInt8)) = true := beq_iff_eq.mpr c12
      have c12b1 : (a0.toList != ([] : List UInt8)) = false := bne_eq_false_iff_eq.mpr c12
      have c12b2 : a0.toList.isEmpty = true := List.isEmpty_iff.mpr c12
      clear c12
      (first | rw [c12b0] | (simp only [q6g, z1y]; rw [c12b0]) | rw [c12b2] | skip)
      have H' := ak H
      clear H
      go_wp2
      go_meet
      case rel => exact ⟨_, (true), (by first | rfl | (simp; done) | (simp [*]; done)), H', ⟨by have := HK1.out; first | omega | exact Nat.le_refl _⟩, by repeat (first | exact q0k.refl _ | apply q0k.step)⟩
     ·
      rw [if_neg c12] at H
      have c12b0 : (a0.toList == ([] : List UInt8)) = false := beq_eq_false_iff_ne.mpr c12
      have c12b1 : (a0.toList != ([] : List UInt8)) = true := bne_iff_ne.mpr c12
      have c12b2 : a0.toList.isEmpty = false := List.isEmpty_eq_false_iff.mpr c12
      (first | rw [c12b0] | (simp only [q6g, z1y]; rw [c12b0]) | rw [c12b2] | skip)
      have H' := ak H
      clear H
      go_wp2
      go_meet
      case rel => exact ⟨_, (decide ((wrap64 (x3_1 + x4_1)) < (a0.size : Int))), (by first | rfl | (simp; done) | (simp [*]; done)), H', ⟨by have := HK1.out; first | omega | exact Nat.le_refl _⟩, by repeat (first | exact q0k.refl _ | apply q0k.step)⟩
    case rest =>
     clear HC11
     try clear c1
     try clear c2
     try clear c2b0
     try clear p2
     try clear c3
     try clear c3b0
     try clear p4
     try clear q4
     try clear hx4
     try clear p6
     try clear q6
     try clear hx6
     try clear c7
     try clear c8
     try clear c9
     try clear c10
     try clear c12
     try clear c12b0
     try clear c12b1
     try clear c12b2
     try clear p4
     try clear p6
     try clear q4
     try clear q6
     obtain ⟨kq, x37_10, rfl, HA, HJ10, ⟨mc10, rfl⟩⟩ := hcut
     cases kq with
     | zero => exact absurd HA.out (by simp [q0f.j1])
     | succ kj10 =>
      have H := HA.out
      clear HA
      simp only [q0f.j1] at H
      by_cases c13 : x37_10 = true
      ·
       subst c13
       have H1 : (some 0) = some r := by rw [if_pos rfl] at H; exact H
       clear H
       have H := H1
       clear H1
       obtain rfl := Option.some.inj H
       go_wp2
       go_ret
       exact bz
      ·
       replace c13 := Bool.eq_false_iff.mpr c13
       subst c13
       have H1 : (if x4_1 = 0 then (some 1) else (if x3_1 = 0 then (some 2) else (some 3))) = some r := by rw [if_neg (show ¬ (false = true) by decide)] at H; exact H
       clear H
       have H := H1
       clear H1
       by_cases c14 : x4_1 = 0
       ·
        rw [if_pos c14] at H
        have c14b0 : (x4_1 == 0) = true := beq_iff_eq.mpr c14
        have c14b1 : (x4_1 != 0) = false := bne_eq_false_iff_eq.mpr c14
        (try (have c14b2 : (x4_1 : Int).toNat = 0 := by rw [c14]; rfl))
        try have c14b3 : (0 ≤ x4_1) = True := eq_true (by omega)
        try have c14b4_2 : (x4_1 < 2) = True := eq_true (by omega)
        try have c14b4_3 : (x4_1 < 3) = True := eq_true (by omega)
        try have c14b4_5 : (x4_1 < 5) = True := eq_true (by omega)
        clear c14
        obtain rfl := Option.some.inj H
        go_wp2
        go_ret
        exact bz
       ·
        rw [if_neg c14] at H
        have c14b0 : (x4_1 == 0) = false := beq_eq_false_iff_ne.mpr c14
        have c14b1 : (x4_1 != 0) = true := bne_iff_ne.mpr c14
        by_cases c15 : x3_1 = 0
        ·
         rw [if_pos c15] at H
         have c15b0 : (x3_1 == 0) = true := beq_iff_eq.mpr c15
         have c15b1 : (x3_1 != 0) = false := bne_eq_false_iff_eq.mpr c15
         (try (have c15b2 : (x3_1 : Int).toNat = 0 := by rw [c15]; rfl))
         try have c15b3 : (0 ≤ x3_1) = True := eq_true (by omega)
         try have c15b4_2 : (x3_1 < 2) = True := eq_true (by omega)
         try have c15b4_3 : (x3_1 < 3) = True := eq_true (by omega)
         try have c15b4_5 : (x3_1 < 5) = True := eq_true (by omega)
         clear c15
         obtain rfl := Option.some.inj H
         go_wp2
         go_ret
         exact bz
        ·
         rw [if_neg c15] at H
         have c15b0 : (x3_1 == 0) = false := beq_eq_false_iff_ne.mpr c15
         have c15b1 : (x3_1 != 0) = true := bne_iff_ne.mpr c15
         obtain rfl := Option.some.inj H
         go_wp2
         go_ret
         exact bz

def q1b.l0 : Nat → List ByteArray → ByteArray → Int → Option (ByteArray)
 | 0, _, _, _ => none
 | k + 1, x0, x3, x4 => if x4 < (x0.length : Int) then (if x4 > 0 then (if x3.size + 1 ≤ 9223372036854775807 then (if 0 ≤ x4 then (if (x3 ++ (⟨#[45]⟩ : ByteArray)).size + (q7o ByteArray.empty x0 x4).size ≤ 9223372036854775807 then (q1b.l0 k x0 ((x3 ++ (⟨#[45]⟩ : ByteArray)) ++ (q7o ByteArray.empty x0 x4)) (wrap64 (x4 + 1))) else (none)) else (none)) else (none)) else (if 0 ≤ x4 then (if x3.size + (q7o ByteArray.empty x0 x4).size ≤ 9223372036854775807 then (q1b.l0 k x0 (x3 ++ (q7o ByteArray.empty x0 x4)) (wrap64 (x4 + 1))) else (none)) else (none))) else (some x3)
def q1b.f (k : Nat) (l0 : List ByteArray) : Option (ByteArray) := q1b.l0 k l0 (⟨#[]⟩ : ByteArray) 0
theorem q1b.calls (k : Nat) (A0 : Option Addr) (c0 : Nat) (l0 : List ByteArray) (r : ByteArray) (w : World) (hr0 : Kd.C Kd.string w A0 l0.length l0) (hc0 : l0.length ≤ c0) (h : q1b.f k l0 = some r) :
 Calls Tryz.prog 32 #[.slice A0 l0.length c0] w fun e w' => e = .returned (.string r) ∧ q0k w w' := by
 have HR0 := ak hr0
 have HC0 := ak hc0
 clear hr0 hc0
 have H : (q1b.l0 k l0 (⟨#[]⟩ : ByteArray) 0) = some r := h
 clear h
 have H' := ak H
 clear H
 go_enter Tryz.func32, Tryz.ntmps32
 go_wp2
 go_loopg [3, 4] k (fun kq v3 v4 w' => ∃ (x3_1 : ByteArray) (x4_1 : Int), v3 = .string x3_1 ∧ v4 = .int .i64 x4_1 ∧ q0c (q1b.l0 kq l0 x3_1 x4_1 = some r) ∧ q0c (kq ≤ k) ∧ q0k w w')
 case atStart => exact ⟨((⟨#[]⟩ : ByteArray)), (0), (by first | rfl | (simp; done) | (simp [*]; done)), (by first | rfl | (simp; done) | (simp [*]; done)), H', ⟨Nat.le_refl _⟩, by repeat (first | exact q0k.refl _ | apply q0k.step)⟩
 case round =>
  clear H'
  obtain ⟨x3_1, x4_1, rfl, rfl, HA, HK1, ⟨m1, rfl⟩⟩ := hrel
  cases gk with
  | zero => exact absurd HA.out (by simp [q1b.l0])
  | succ k1 =>
   have H := HA.out
   clear HA
   simp only [q1b.l0] at H
   by_cases c2 : x4_1 < (l0.length : Int)
   ·
    rw [if_pos c2] at H
    have c2b0 : decide (x4_1 < (l0.length : Int)) = true := decide_eq_true c2
    clear c2
    by_cases c3 : x4_1 > 0
    ·
     rw [if_pos c3] at H
     have c3b0 : decide (0 < x4_1) = true := decide_eq_true c3
     clear c3
     by_cases c4 : x3_1.size + 1 ≤ 9223372036854775807
     ·
      rw [if_pos c4] at H
      have c4b0 := eq_true c4
      have c4b1 : decide (x3_1.size + 1 ≤ 9223372036854775807) = true := decide_eq_true c4
      try have c4b2 : (9223372036854775807 < x3_1.size + 1) = False := eq_false (Nat.not_lt.2 c4)
      by_cases c5 : 0 ≤ x4_1
      ·
       rw [if_pos c5] at H
       have c5b0 : decide (0 ≤ x4_1) = true := decide_eq_true c5
       clear c5
       by_cases c6 : (x3_1 ++ (⟨#[45]⟩ : ByteArray)).size + (q7o ByteArray.empty l0 x4_1).size ≤ 9223372036854775807
       ·
        rw [if_pos c6] at H
        have c6b0 := eq_true c6
        have c6b1 : decide ((x3_1 ++ (⟨#[45]⟩ : ByteArray)).size + (q7o ByteArray.empty l0 x4_1).size ≤ 9223372036854775807) = true := decide_eq_true c6
        try have c6b2 : (9223372036854775807 < (x3_1 ++ (⟨#[45]⟩ : ByteArray)).size + (q7o ByteArray.empty l0 x4_1).size) = False := eq_false (Nat.not_lt.2 c6)
        have H' := ak H
        clear H
        have p188 : 0 ≤ (x4_1 : Int) := of_decide_eq_true (by first | (with_reducible assumption) | assumption)
        have q188 : x4_1 < (l0.length : Int) := of_decide_eq_true (by first | (with_reducible assumption) | assumption)
        obtain ⟨ad188, e188, hx188_0⟩ := Kd.q2o HR0.out x4_1 p188 q188
        cases e188
        replace p188 := eq_true p188
        replace q188 := eq_true q188
        go_wp2
        go_roundg k1
        case measure => have := HK1.out; omega
        case rel => exact ⟨((x3_1 ++ (⟨#[45]⟩ : ByteArray)) ++ (q7o ByteArray.empty l0 x4_1)), (wrap64 (x4_1 + 1)), (by first | rfl | (simp; done) | (simp [*]; done)), (by first | rfl | (simp; done) | (simp [*]; done)), H', ⟨by have := HK1.out; omega⟩, by repeat (first | exact q0k.refl _ | apply q0k.step)⟩
       ·
        rw [if_neg c6] at H
        exact absurd H (by simp)
      ·
       rw [if_neg c5] at H
       exact absurd H (by simp)
     ·
      rw [if_neg c4] at H
      exact absurd H (by simp)
    ·
     rw [if_neg c3] at H
     have c3b0 : decide (0 < x4_1) = false := decide_eq_false c3
     clear c3
     by_cases c7 : 0 ≤ x4_1
     ·
      rw [if_pos c7] at H
      have c7b0 : decide (0 ≤ x4_1) = true := decide_eq_true c7
      clear c7
      by_cases c8 : x3_1.size + (q7o ByteArray.empty l0 x4_1).size ≤ 9223372036854775807
      ·
       rw [if_pos c8] at H
       have c8b0 := eq_true c8
       have c8b1 : decide (x3_1.size + (q7o ByteArray.empty l0 x4_1).size ≤ 9223372036854775807) = true := decide_eq_true c8
       try have c8b2 : (9223372036854775807 < x3_1.size + (q7o ByteArray.empty l0 x4_1).size) = False := eq_false (Nat.not_lt.2 c8)
       have H' := ak H
       clear H
       have p189 : 0 ≤ (x4_1 : Int) := of_decide_eq_true (by first | (with_reducible assumption) | assumption)
       have q189 : x4_1 < (l0.length : Int) := of_decide_eq_true (by first | (with_reducible assumption) | assumption)
       obtain ⟨ad189, e189, hx189_0⟩ := Kd.q2o HR0.out x4_1 p189 q189
       cases e189
       replace p189 := eq_true p189
       replace q189 := eq_true q189
       go_wp2
       go_roundg k1
       case measure => have := HK1.out; omega
       case rel => exact ⟨(x3_1 ++ (q7o ByteArray.empty l0 x4_1)), (wrap64 (x4_1 + 1)), (by first | rfl | (simp; done) | (simp [*]; done)), (by first | rfl | (simp; done) | (simp [*]; done)), H', ⟨by have := HK1.out; omega⟩, by repeat (first | exact q0k.refl _ | apply q0k.step)⟩
      ·
       rw [if_neg c8] at H
       exact absurd H (by simp)
     ·
      rw [if_neg c7] at H
      exact absurd H (by simp)
   ·
    rw [if_neg c2] at H
    have c2b0 : decide (x4_1 < (l0.length : Int)) = false := decide_eq_false c2
    clear c2
    obtain rfl := Option.some.inj H
    go_wp2
    go_ret
    exact bz
def q1x.f  : Option (List ByteArray) := some (([(⟨#[97, 114, 116, 45, 108, 111, 106, 98, 97, 110, 42]⟩ : ByteArray), (⟨#[99, 101, 108, 45, 103, 97, 117, 108, 105, 115, 104, 42]⟩ : ByteArray), (⟨#[101, 110, 45, 103, 98, 45, 111, 101, 100]⟩ : ByteArray), (⟨#[105, 45, 97, 109, 105]⟩ : ByteArray), (⟨#[105, 45, 98, 110, 110]⟩ : ByteArray), (⟨#[105, 45, 100, 101, 102, 97, 117, 108, 116]⟩ : ByteArray), (⟨#[105, 45, 101, 110, 111, 99, 104, 105, 97, 110]⟩ : ByteArray), (⟨#[105, 45, 104, 97, 107]⟩ : ByteArray), (⟨#[105, 45, 107, 108, 105, 110, 103, 111, 110]⟩ : ByteArray), (⟨#[105, 45, 108, 117, 120]⟩ : ByteArray), (⟨#[105, 45, 109, 105, 110, 103, 111]⟩ : ByteArray), (⟨#[105, 45, 110, 97, 118, 97, 106, 111]⟩ : ByteArray), (⟨#[105, 45, 112, 119, 110]⟩ : ByteArray), (⟨#[105, 45, 116, 97, 111]⟩ : ByteArray), (⟨#[105, 45, 116, 97, 121]⟩ : ByteArray), (⟨#[105, 45, 116, 115, 117]⟩ : ByteArray), (⟨#[110, 111, 45, 98, 111, 107, 42]⟩ : ByteArray), (⟨#[110, 111, 45, 110, 121, 110, 42]⟩ : ByteArray), (⟨#[115, 103, 110, 45, 98, 101, 45, 102, 114]⟩ : ByteArray), (⟨#[115, 103, 110, 45, 98, 101, 45, 110, 108]⟩ : ByteArray), (⟨#[115, 103, 110, 45, 99, 104, 45, 100, 101]⟩ : ByteArray), (⟨#[122, 104, 45, 103, 117, 111, 121, 117, 42]⟩ : ByteArray), (⟨#[122, 104, 45, 104, 97, 107, 107, 97, 42]⟩ : ByteArray), (⟨#[122, 104, 45, 109, 105, 110, 42]⟩ : ByteArray), (⟨#[122, 104, 45, 109, 105, 110, 45, 110, 97, 110, 42]⟩ : ByteArray), (⟨#[122, 104, 45, 120, 105, 97, 110, 103, 42]⟩ : ByteArray)] : List ByteArray))
def q2i.f (a0 : Int) : Option (Int) := if a0 ≥ 65 then (if a0 ≤ 90 then (some ((((a0 - 65) % 256) + 97) % 256)) else (some a0)) else (some a0)
theorem q2i.calls (a0 : Int) (r : Int) (w : World) (h : q2i.f a0 = some r) :
 Calls Tryz.prog 68 #[.int .u8 a0] w fun e w' => e = .returned (.int .u8 r) ∧ q0k w w' := by
 have H : (if a0 ≥ 65 then (if a0 ≤ 90 then (some ((((a0 - 65) % 256) + 97) % 256)) else (some a0)) else (some a0)) = some r := h
 clear h
 by_cases c2 : a0 ≥ 65
 ·
  rw [if_pos c2] at H
  have c2b0 : decide (65 ≤ a0) = true := decide_eq_true c2
  clear c2
  by_cases c3 : a0 ≤ 90
  ·
   rw [if_pos c3] at H
   have c3b0 : decide (a0 ≤ 90) = true := decide_eq_true c3
   clear c3
   obtain rfl := Option.some.inj H
   go_enter Tryz.func68, Tryz.ntmps68
   go_wp2
   go_ret
   exact bz
  ·
   rw [if_neg c3] at H
   have c3b0 : decide (a0 ≤ 90) = false := decide_eq_false c3
   clear c3
   obtain rfl := Option.some.inj H
   go_enter Tryz.func68, Tryz.ntmps68
   go_wp2
   go_ret
   exact bz
 ·
  rw [if_neg c2] at H
  have c2b0 : decide (65 ≤ a0) = false := decide_eq_false c2
  clear c2
  obtain rfl := Option.some.inj H
  go_enter Tryz.func68, Tryz.ntmps68
  go_wp2
  go_ret
  exact bz

def q0o.l0 : Nat → ByteArray → List Int → Int → Option (ByteArray)
 | 0, _, _, _ => none
 | k + 1, x0, x3, x4 => if x4 < (x0.size : Int) then (if 0 ≤ x4 then ((q2i.f (bt x0 x4)).bind fun t202 => (if x3.length < 140737488355328 then (q0o.l0 k x0 (x3 ++ [t202]) (wrap64 (x4 + 1))) else (none))) else (none)) else (some (strOfNums x3))
def q0o.f (k : Nat) (a0 : ByteArray) : Option (ByteArray) := q0o.l0 k a0 ([] : List Int) 0
theorem q0o.calls (k : Nat) (a0 : ByteArray) (r : ByteArray) (w : World) (h : q0o.f k a0 = some r) :
 Calls Tryz.prog 29 #[.string a0] w fun e w' => e = .returned (.string r) ∧ Below w.heap.size w w' := by
 have HB := ak (Below.refl w.heap.size w)
 have H : (q0o.l0 k a0 ([] : List Int) 0) = some r := h
 clear h
 have H' := ak H
 clear H
 go_enter Tryz.func29, Tryz.ntmps29
 go_wp2
 go_loopg [3, 4] k (fun kq v3 v4 w' => ∃ (x3_1 : List Int) (x4_1 : Int), v4 = .int .i64 x4_1 ∧ q0c (q0o.l0 kq a0 x3_1 x4_1 = some r) ∧ q0c (kq ≤ k) ∧ q0c (Kd.R (Kd.int .u8) 5 w' w.heap.size (fun _ => True) v3 x3_1) ∧ q0c (Below w.heap.size w w'))
 case atStart => exact ⟨(([] : List Int)), (0), (by first | rfl | (simp; done) | (simp [*]; done)), H', ⟨Nat.le_refl _⟩, ⟨by first | exact Kd.k1i _ _ _ _ _ | exact Kd.N_nil _ _ _ _ _ | exact Kd.V_nil _ _ _ _ _ | exact Kd.Q_nil _ _ _ _ _ | exact Kd.S_nil _ _ _ _ _⟩, ⟨bq⟩⟩
 case round =>
  clear H'
  obtain ⟨x3_1, x4_1, rfl, HA, HK1, HO_3, HB⟩ := hrel
  cases gk with
  | zero => exact absurd HA.out (by simp [q0o.l0])
  | succ k1 =>
   have H := HA.out
   clear HA
   simp only [q0o.l0] at H
   by_cases c2 : x4_1 < (a0.size : Int)
   ·
    rw [if_pos c2] at H
    have c2b0 : decide (x4_1 < (a0.size : Int)) = true := decide_eq_true c2
    clear c2
    by_cases c3 : 0 ≤ x4_1
    ·
     rw [if_pos c3] at H
     have c3b0 : decide (0 ≤ x4_1) = true := decide_eq_true c3
     clear c3
     replace H := Option.bind_eq_some_iff.mp H
     obtain ⟨t202, A50, H⟩ := H
     have A5 := ak A50
     clear A50
     by_cases c6 : x3_1.length < 140737488355328
     ·
      rw [if_pos c6] at H
      have LMc6 := ak c6
      clear c6
      obtain ⟨y203, hy203⟩ : ∃ y_ : List Int, y_ = (x3_1 ++ [t202]) := ⟨_, rfl⟩
      replace H : (q0o.l0 k1 a0 y203 (wrap64 (x4_1 + 1))) = some r := by first | (rw [hy203]; with_reducible exact H) | (have H2_ := (Option.bind_some _ _).symm.trans H; rw [hy203]; with_reducible exact H2_) | (have H2_ := (Option.bind_some _ _).symm.trans H; with_reducible exact H2_) | with_reducible exact H | (rw [hy203]; exact H) | exact H
      have Ny203 := ak hy203
      clear hy203
      have H' := ak H
      clear H
      have p4 : 0 ≤ (x4_1 : Int) := of_decide_eq_true (by first | (with_reducible assumption) | assumption)
      have q4 : x4_1 < (a0.size : Int) := of_decide_eq_true (by first | (with_reducible assumption) | assumption)
      have hx4 := q5w a0 x4_1
      replace p4 := eq_true p4
      replace q4 := eq_true q4
      go_wp2_with (first | ((with_reducible refine q0s (f := 68) rfl ?_); refine q2e (some 15) rfl rfl Tryz.func68 (by kernel_rfl) rfl #[.int .u8 (bt a0 x4_1)] rfl mq ?_; (with_reducible refine (q2i.calls (bt a0 x4_1) t202 _ A5.out).mono ?_); rintro e w' ⟨rfl, ⟨nd, rfl⟩⟩; refine ⟨_, rfl, ?_⟩; (try clear A5)) | ((with_reducible refine q1d (b := .append) (xs := #[.tmp 11, .tmp 16]) rfl ?_); at_builtin; refine Kd.z0s (Kd.int .u8) (w0 := w) w.heap.size rfl (.tmp 11) (.tmp 16) 38 5 (.int .u8 0) 1 rfl Tryz.underlying38 info5 rfl (by decide) (by omega) u3 x3_1 t202 [.int .u8 t202] (fun _ => True) (fun _ => False) rfl rfl ?aP (fun _ hk => hk.elim) ?aF ?aO ?aB ?aS ?aL ?_; (case aP => exact rfl); (case aB => exact bq); (case aF => exact (fun _ _ => trivial)); (case aO => exact (rx HO_3.out)); (case aS => exact (q6n bq)); (case aL => have := LMc6.out; omega); intro v204 w7 ho hb hg hat; rw [← Ny203.out] at ho; have n0_ := ak (hb); have n1_ := ak (ho); clear HB; clear HO_3; have HB := n0_; have HO205 := n1_; clear n0_ n1_; clear ho hb hg hat))
      go_roundg k1
      case measure => have := HK1.out; omega
      case rel => exact ⟨(y203), (wrap64 (x4_1 + 1)), (by first | rfl | (simp; done) | (simp [*]; done)), H', ⟨by have := HK1.out; omega⟩, ⟨(rx HO205.out)⟩, ⟨bq⟩⟩
     ·
      rw [if_neg c6] at H
      exact absurd H (by simp)
    ·
     rw [if_neg c3] at H
     exact absurd H (by simp)
   ·
    rw [if_neg c2] at H
    have c2b0 : decide (x4_1 < (a0.size : Int)) = false := decide_eq_false c2
    clear c2
    obtain rfl := Option.some.inj H
    have hcv8 := z5s (P := Tryz.prog) Tryz.underlying38 Tryz.underlying5 Tryz.underlying9 (Kd.v2z HO_3.out)
    go_wp2
    go_ret
    exact ⟨by first | rfl | (simp [errW_none, errW_some] <;> rfl) | (simp [*, errW_none, errW_some] <;> rfl), bq⟩
def q2m.f (a0 : ByteArray) : Option (ByteArray) := if 0 ≤ (wrap64 ((a0.size : Int) - 1)) then (if (wrap64 ((a0.size : Int) - 1)) < (a0.size : Int) then (if (bt a0 (wrap64 ((a0.size : Int) - 1))) = 42 then (if (wrap64 ((a0.size : Int) - 1)) ≤ (a0.size : Int) then (some (a0.extract 0 ((wrap64 ((a0.size : Int) - 1)) : Int).toNat)) else (none)) else (some a0)) else (none)) else (none)
theorem q2m.calls (a0 : ByteArray) (r : ByteArray) (w : World) (h : q2m.f a0 = some r) :
 Calls Tryz.prog 12 #[.string a0] w fun e w' => e = .returned (.string r) ∧ q0k w w' := by
 have H : (if 0 ≤ (wrap64 ((a0.size : Int) - 1)) then (if (wrap64 ((a0.size : Int) - 1)) < (a0.size : Int) then (if (bt a0 (wrap64 ((a0.size : Int) - 1))) = 42 then (if (wrap64 ((a0.size : Int) - 1)) ≤ (a0.size : Int) then (some (a0.extract 0 ((wrap64 ((a0.size : Int) - 1)) : Int).toNat)) else (none)) else (some a0)) else (none)) else (none)) = some r := h
 clear h
 obtain ⟨ji2, hji2⟩ : ∃ j_ : Int, (wrap64 ((a0.size : Int) - 1)) = j_ := ⟨_, rfl⟩
 replace H : (if 0 ≤ (ji2) then (if (ji2) < (a0.size : Int) then (if (bt a0 (ji2)) = 42 then (if (ji2) ≤ (a0.size : Int) then (some (a0.extract 0 ((ji2) : Int).toNat)) else (none)) else (some a0)) else (none)) else (none)) = some r := by first | (rw [hji2] at H; exact H) | (simp only [hji2] at H ⊢; exact H)
 have hji2w : (IntKind.i64.wrap ((a0.size : Int) - 1)) = ji2 := (q6g _).trans hji2
 by_cases c3 : 0 ≤ (ji2)
 · rw [if_pos c3] at H
   have c3b0 : decide (0 ≤ (ji2)) = true := decide_eq_true c3
   clear c3
   by_cases c4 : (ji2) < (a0.size : Int)
   · rw [if_pos c4] at H
     have c4b0 : decide ((ji2) < (a0.size : Int)) = true := decide_eq_true c4
     clear c4
     by_cases c6 : (bt a0 (ji2)) = 42
     · rw [if_pos c6] at H
       have c6b0 : ((bt a0 (ji2)) == 42) = true := beq_iff_eq.mpr c6
       have c6b1 : ((bt a0 (ji2)) != 42) = false := bne_eq_false_iff_eq.mpr c6
       clear c6
       have c7b0 := eq_true (of_decide_eq_true (by first | (with_reducible assumption) | assumption) : 0 ≤ (ji2))
       by_cases c8 : (ji2) ≤ (a0.size : Int)
       · rw [if_pos c8] at H
         have c8b0 := eq_true c8
         have c8b1 : decide ((ji2) ≤ (a0.size : Int)) = true := decide_eq_true c8
         clear c8
         obtain rfl := Option.some.inj H
         have p5 : 0 ≤ ((ji2) : Int) := of_decide_eq_true (by first | (with_reducible assumption) | assumption)
         have q5 : (ji2) < (a0.size : Int) := of_decide_eq_true (by first | (with_reducible assumption) | assumption)
         have hx5 := q5w a0 (ji2)
         replace p5 := eq_true p5
         replace q5 := eq_true q5
         go_enter Tryz.func12, Tryz.ntmps12
         go_wp2
         go_ret
         exact ⟨by first | rfl | (simp; done) | (simp only [← hji2] <;> (first | rfl | simp)) | (simp [*]; done), by repeat (first | exact q0k.refl _ | apply q0k.step)⟩
       · rw [if_neg c8] at H
         exact absurd H (by simp)
     · rw [if_neg c6] at H
       have c6b0 : ((bt a0 (ji2)) == 42) = false := beq_eq_false_iff_ne.mpr c6
       have c6b1 : ((bt a0 (ji2)) != 42) = true := bne_iff_ne.mpr c6
       obtain rfl := Option.some.inj H
       have p5 : 0 ≤ ((ji2) : Int) := of_decide_eq_true (by first | (with_reducible assumption) | assumption)
       have q5 : (ji2) < (a0.size : Int) := of_decide_eq_true (by first | (with_reducible assumption) | assumption)
       have hx5 := q5w a0 (ji2)
       replace p5 := eq_true p5
       replace q5 := eq_true q5
       go_enter Tryz.func12, Tryz.ntmps12
       go_wp2
       go_ret
       exact ⟨by first | rfl | (simp; done) | (simp only [← hji2] <;> (first | rfl | simp)) | (simp [*]; done), by repeat (first | exact q0k.refl _ | apply q0k.step)⟩
   · rw [if_neg c4] at H
     exact absurd H (by simp)
 · rw [if_neg c3] at H
   exact absurd H (by simp)
def q2a.f (a0 : ByteArray) : Option (ByteArray) := if a0.size ≤ 140737488351232 then some (strOfNums (Each.q3p Each.k4q a0)) else none
theorem q2a.calls (a0 : ByteArray) (r : ByteArray) (w : World) (h : q2a.f a0 = some r) :
 Calls Tryz.prog 62 #[.string a0] w fun e w' => e = .returned (.string r) ∧ Below w.heap.size w w' := by
 unfold q2a.f at h
 by_cases hs : a0.size ≤ 140737488351232
 · rw [if_pos hs] at h
   obtain rfl := Option.some.inj h
   exact Each.k1w a0 w hs
 · rw [if_neg hs] at h
   cases h

def q4n.f (a0 : ByteArray) : Option (ByteArray) := if a0.size ≤ 140737488351232 then some (strOfNums (Each.q3p Each.upF a0)) else none
theorem q4n.calls (a0 : ByteArray) (r : ByteArray) (w : World) (h : q4n.f a0 = some r) :
 Calls Tryz.prog 76 #[.string a0] w fun e w' => e = .returned (.string r) ∧ Below w.heap.size w w' := by
 unfold q4n.f at h
 by_cases hs : a0.size ≤ 140737488351232
 · rw [if_pos hs] at h
   obtain rfl := Option.some.inj h
   exact Each.k7l a0 w hs
 · rw [if_neg hs] at h
   cases h

def q4m.f (a0 : ByteArray) : Option (ByteArray) := if a0.size ≤ 140737488351232 then some (strOfNums (Each.q3p Each.k8a a0)) else none
theorem q4m.calls (a0 : ByteArray) (r : ByteArray) (w : World) (h : q4m.f a0 = some r) :
 Calls Tryz.prog 77 #[.string a0] w fun e w' => e = .returned (.string r) ∧ Below w.heap.size w w' := by
 unfold q4m.f at h
 by_cases hs : a0.size ≤ 140737488351232
 · rw [if_pos hs] at h
   obtain rfl := Option.some.inj h
   exact Each.k1o a0 w hs
 · rw [if_neg hs] at h
   cases h

def q1v.f (a0 : Int) : Option (Int) := if a0 ≥ 65 then (if a0 ≤ 90 then (some ((a0 + 32) % 256)) else (some a0)) else (some a0)
theorem q1v.calls (a0 : Int) (r : Int) (w : World) (h : q1v.f a0 = some r) :
 Calls Tryz.prog 120 #[.int .u8 a0] w fun e w' => e = .returned (.int .u8 r) ∧ q0k w w' := by
 have H : (if a0 ≥ 65 then (if a0 ≤ 90 then (some ((a0 + 32) % 256)) else (some a0)) else (some a0)) = some r := h
 clear h
 by_cases c2 : a0 ≥ 65
 ·
  rw [if_pos c2] at H
  have c2b0 : decide (65 ≤ a0) = true := decide_eq_true c2
  clear c2
  by_cases c3 : a0 ≤ 90
  ·
   rw [if_pos c3] at H
   have c3b0 : decide (a0 ≤ 90) = true := decide_eq_true c3
   clear c3
   obtain rfl := Option.some.inj H
   go_enter Tryz.func120, Tryz.ntmps120
   go_wp2
   go_ret
   exact bz
  ·
   rw [if_neg c3] at H
   have c3b0 : decide (a0 ≤ 90) = false := decide_eq_false c3
   clear c3
   obtain rfl := Option.some.inj H
   go_enter Tryz.func120, Tryz.ntmps120
   go_wp2
   go_ret
   exact bz
 ·
  rw [if_neg c2] at H
  have c2b0 : decide (65 ≤ a0) = false := decide_eq_false c2
  clear c2
  obtain rfl := Option.some.inj H
  go_enter Tryz.func120, Tryz.ntmps120
  go_wp2
  go_ret
  exact bz

def q1s.f (a0 : Int) (a1 : Int) : Option (Int) := if a0 < a1 then (some (-1)) else (if a0 > a1 then (some 1) else (some 0))
theorem q1s.calls (a0 : Int) (a1 : Int) (r : Int) (w : World) (h : q1s.f a0 a1 = some r) :
 Calls Tryz.prog 172 #[.int .u8 a0, .int .u8 a1] w fun e w' => e = .returned (.int .i64 r) ∧ q0k w w' := by
 have H : (if a0 < a1 then (some (-1)) else (if a0 > a1 then (some 1) else (some 0))) = some r := h
 clear h
 by_cases c3 : a0 < a1
 ·
  rw [if_pos c3] at H
  have c3b0 : decide (a0 < a1) = true := decide_eq_true c3
  clear c3
  obtain rfl := Option.some.inj H
  go_enter Tryz.func172, Tryz.ntmps172
  go_wp2
  go_ret
  exact bz
 ·
  rw [if_neg c3] at H
  have c3b0 : decide (a0 < a1) = false := decide_eq_false c3
  clear c3
  by_cases c4 : a0 > a1
  ·
   rw [if_pos c4] at H
   have c4b0 : decide (a1 < a0) = true := decide_eq_true c4
   clear c4
   obtain rfl := Option.some.inj H
   go_enter Tryz.func172, Tryz.ntmps172
   go_wp2
   go_ret
   exact bz
  ·
   rw [if_neg c4] at H
   have c4b0 : decide (a1 < a0) = false := decide_eq_false c4
   clear c4
   obtain rfl := Option.some.inj H
   go_enter Tryz.func172, Tryz.ntmps172
   go_wp2
   go_ret
   exact bz

def q2l.f (a0 : Int) (a1 : Int) : Option (Int) := if a0 < a1 then (some (-1)) else (if a0 > a1 then (some 1) else (some 0))
theorem q2l.calls (a0 : Int) (a1 : Int) (r : Int) (w : World) (h : q2l.f a0 a1 = some r) :
 Calls Tryz.prog 173 #[.int .i64 a0, .int .i64 a1] w fun e w' => e = .returned (.int .i64 r) ∧ q0k w w' := by
 have H : (if a0 < a1 then (some (-1)) else (if a0 > a1 then (some 1) else (some 0))) = some r := h
 clear h
 by_cases c3 : a0 < a1
 ·
  rw [if_pos c3] at H
  have c3b0 : decide (a0 < a1) = true := decide_eq_true c3
  clear c3
  obtain rfl := Option.some.inj H
  go_enter Tryz.func173, Tryz.ntmps173
  go_wp2
  go_ret
  exact bz
 ·
  rw [if_neg c3] at H
  have c3b0 : decide (a0 < a1) = false := decide_eq_false c3
  clear c3
  by_cases c4 : a0 > a1
  ·
   rw [if_pos c4] at H
   have c4b0 : decide (a1 < a0) = true := decide_eq_true c4
   clear c4
   obtain rfl := Option.some.inj H
   go_enter Tryz.func173, Tryz.ntmps173
   go_wp2
   go_ret
   exact bz
  ·
   rw [if_neg c4] at H
   have c4b0 : decide (a1 < a0) = false := decide_eq_false c4
   clear c4
   obtain rfl := Option.some.inj H
   go_enter Tryz.func173, Tryz.ntmps173
   go_wp2
   go_ret
   exact bz

def q1g.l0 : Nat → ByteArray → ByteArray → Int → Int → Option (Int)
 | 0, _, _, _, _ => none
 | k + 1, x0, x1, x11, x12 => if x12 < x11 then (if 0 ≤ x12 then (if x12 < (x0.size : Int) then ((q1v.f (bt x0 x12)).bind fun t102 => (if x12 < (x1.size : Int) then ((q1v.f (bt x1 x12)).bind fun t103 => ((q1s.f t102 t103).bind fun t104 => (if t104 = 0 then (q1g.l0 k x0 x1 x11 (wrap64 (x12 + 1))) else (some t104)))) else (none))) else (none)) else (none)) else ((q2l.f (x0.size : Int) (x1.size : Int)).bind fun t101 => (some t101))
def q1g.f (k : Nat) (a0 : ByteArray) (a1 : ByteArray) : Option (Int) := q1g.l0 k a0 a1 (mn (a0.size : Int) (a1.size : Int)) 0
theorem q1g.calls (k : Nat) (a0 : ByteArray) (a1 : ByteArray) (r : Int) (w : World) (h : q1g.f k a0 a1 = some r) :
 Calls Tryz.prog 117 #[.string a0, .string a1] w fun e w' => e = .returned (.int .i64 r) ∧ q0k w w' := by
 have H : (q1g.l0 k a0 a1 (mn (a0.size : Int) (a1.size : Int)) 0) = some r := h
 clear h
 obtain ⟨ji3, hji3⟩ : ∃ j_ : Int, (mn (a0.size : Int) (a1.size : Int)) = j_ := ⟨_, rfl⟩
 replace H : (q1g.l0 k a0 a1 ji3 0) = some r := by first | (rw [hji3] at H; exact H) | (simp only [hji3] at H ⊢; exact H)
 (try (have hji3l : 0 ≤ ji3 := by (rw [← hji3]; unfold mn; (repeat' split) <;> omega)))
 (try (have hji3m : 0 ≤ ji3 := by omega))
 have hji3_ : (if (a1.size : Int) < (a0.size : Int) then (a1.size : Int) else (a0.size : Int)) = ji3 := hji3
 have hji3n_ : (if a1.size < a0.size then (a1.size : Int) else (a0.size : Int)) = ji3 := by rw [← hji3_]; simp only [Int.ofNat_lt]
 have H' := ak H
 clear H
 go_enter Tryz.func117, Tryz.ntmps117
 go_wp2
 repeat (go_quiet (fail); try go_wp2)
 go_loopg [12] k (fun kq v12 w' => ∃ (x12_1 : Int), v12 = .int .i64 x12_1 ∧ q0c (q1g.l0 kq a0 a1 ji3 x12_1 = some r) ∧ q0c (kq ≤ k) ∧ q0k w w')
 case atStart => exact ⟨(0), (by first | rfl | (simp; done) | (simp [*]; done)), H', ⟨Nat.le_refl _⟩, by repeat (first | exact q0k.refl _ | apply q0k.step)⟩
 case round =>
  clear H'
  try clear c1
  try clear p2
  obtain ⟨x12_1, rfl, HA, HK1, ⟨m1, rfl⟩⟩ := hrel
  cases gk with
  | zero => exact absurd HA.out (by simp [q1g.l0])
  | succ k1 =>
   have H := HA.out
   clear HA
   simp only [q1g.l0] at H
   by_cases c4 : x12_1 < ji3
   ·
    rw [if_pos c4] at H
    have c4b0 : decide (x12_1 < ji3) = true := decide_eq_true c4
    clear c4
    by_cases c5 : 0 ≤ x12_1
    ·
     rw [if_pos c5] at H
     have c5b0 : decide (0 ≤ x12_1) = true := decide_eq_true c5
     clear c5
     by_cases c6 : x12_1 < (a0.size : Int)
     ·
      rw [if_pos c6] at H
      have c6b0 : decide (x12_1 < (a0.size : Int)) = true := decide_eq_true c6
      clear c6
      replace H := Option.bind_eq_some_iff.mp H
      obtain ⟨t102, A80, H⟩ := H
      have A8 := ak A80
      clear A80
      by_cases c9 : x12_1 < (a1.size : Int)
      ·
       rw [if_pos c9] at H
       have c9b0 : decide (x12_1 < (a1.size : Int)) = true := decide_eq_true c9
       clear c9
       replace H := Option.bind_eq_some_iff.mp H
       obtain ⟨t103, A110, H⟩ := H
       have A11 := ak A110
       clear A110
       replace H := Option.bind_eq_some_iff.mp H
       obtain ⟨t104, A120, H⟩ := H
       have A12 := ak A120
       clear A120
       by_cases c13 : t104 = 0
       ·
        rw [if_pos c13] at H
        have c13b0 : (t104 == 0) = true := beq_iff_eq.mpr c13
        have c13b1 : (t104 != 0) = false := bne_eq_false_iff_eq.mpr c13
        (try (have c13b2 : (t104 : Int).toNat = 0 := by rw [c13]; rfl))
        try have c13b3 : (0 ≤ t104) = True := eq_true (by omega)
        try have c13b4_2 : (t104 < 2) = True := eq_true (by omega)
        try have c13b4_3 : (t104 < 3) = True := eq_true (by omega)
        try have c13b4_5 : (t104 < 5) = True := eq_true (by omega)
        clear c13
        have H' := ak H
        clear H
        have p7 : 0 ≤ (x12_1 : Int) := of_decide_eq_true (by first | (with_reducible assumption) | assumption)
        have q7 : x12_1 < (a0.size : Int) := of_decide_eq_true (by first | (with_reducible assumption) | assumption)
        have hx7 := q5w a0 x12_1
        replace p7 := eq_true p7
        replace q7 := eq_true q7
        go_wp2_with (first | (go_at_call 120; (with_reducible refine (q1v.calls (bt a0 x12_1) t102 _ A8.out).mono ?_); rintro e w' ⟨rfl, ⟨nd, rfl⟩⟩; (try first | exact ⟨rfl, _, World.drewN_drewN _ _ _⟩ | exact ⟨rfl, _, Eq.trans (World.drewN_drewN _ _ _) (congrArg (World.drewN _) (Nat.add_assoc _ _ _))⟩); have p10 : 0 ≤ (x12_1 : Int) := of_decide_eq_true (by first | (with_reducible assumption) | assumption); have q10 : x12_1 < (a1.size : Int) := of_decide_eq_true (by first | (with_reducible assumption) | assumption); have hx10 := q5w a1 x12_1; replace p10 := eq_true p10; replace q10 := eq_true q10; (try clear A8)) | (go_at_call 120; (with_reducible refine (q1v.calls (bt a1 x12_1) t103 _ A11.out).mono ?_); rintro e w' ⟨rfl, ⟨nd, rfl⟩⟩; (try first | exact ⟨rfl, _, World.drewN_drewN _ _ _⟩ | exact ⟨rfl, _, Eq.trans (World.drewN_drewN _ _ _) (congrArg (World.drewN _) (Nat.add_assoc _ _ _))⟩); (try clear A11)) | (go_at_call 172; (with_reducible refine (q1s.calls t102 t103 t104 _ A12.out).mono ?_); rintro e w' ⟨rfl, ⟨nd, rfl⟩⟩; (try first | exact ⟨rfl, _, World.drewN_drewN _ _ _⟩ | exact ⟨rfl, _, Eq.trans (World.drewN_drewN _ _ _) (congrArg (World.drewN _) (Nat.add_assoc _ _ _))⟩); (try clear A12)))
        repeat (go_quiet (first | (go_at_call 120; (with_reducible refine (q1v.calls (bt a0 x12_1) t102 _ A8.out).mono ?_); rintro e w' ⟨rfl, ⟨nd, rfl⟩⟩; (try first | exact ⟨rfl, _, World.drewN_drewN _ _ _⟩ | exact ⟨rfl, _, Eq.trans (World.drewN_drewN _ _ _) (congrArg (World.drewN _) (Nat.add_assoc _ _ _))⟩); have p10 : 0 ≤ (x12_1 : Int) := of_decide_eq_true (by first | (with_reducible assumption) | assumption); have q10 : x12_1 < (a1.size : Int) := of_decide_eq_true (by first | (with_reducible assumption) | assumption); have hx10 := q5w a1 x12_1; replace p10 := eq_true p10; replace q10 := eq_true q10; (try clear A8)) | (go_at_call 120; (with_reducible refine (q1v.calls (bt a1 x12_1) t103 _ A11.out).mono ?_); rintro e w' ⟨rfl, ⟨nd, rfl⟩⟩; (try first | exact ⟨rfl, _, World.drewN_drewN _ _ _⟩ | exact ⟨rfl, _, Eq.trans (World.drewN_drewN _ _ _) (congrArg (World.drewN _) (Nat.add_assoc _ _ _))⟩); (try clear A11)) | (go_at_call 172; (with_reducible refine (q1s.calls t102 t103 t104 _ A12.out).mono ?_); rintro e w' ⟨rfl, ⟨nd, rfl⟩⟩; (try first | exact ⟨rfl, _, World.drewN_drewN _ _ _⟩ | exact ⟨rfl, _, Eq.trans (World.drewN_drewN _ _ _) (congrArg (World.drewN _) (Nat.add_assoc _ _ _))⟩); (try clear A12))); try go_wp2_with (first | (go_at_call 120; (with_reducible refine (q1v.calls (bt a0 x12_1) t102 _ A8.out).mono ?_); rintro e w' ⟨rfl, ⟨nd, rfl⟩⟩; (try first | exact ⟨rfl, _, World.drewN_drewN _ _ _⟩ | exact ⟨rfl, _, Eq.trans (World.drewN_drewN _ _ _) (congrArg (World.drewN _) (Nat.add_assoc _ _ _))⟩); have p10 : 0 ≤ (x12_1 : Int) := of_decide_eq_true (by first | (with_reducible assumption) | assumption); have q10 : x12_1 < (a1.size : Int) := of_decide_eq_true (by first | (with_reducible assumption) | assumption); have hx10 := q5w a1 x12_1; replace p10 := eq_true p10; replace q10 := eq_true q10; (try clear A8)) | (go_at_call 120; (with_reducible refine (q1v.calls (bt a1 x12_1) t103 _ A11.out).mono ?_); rintro e w' ⟨rfl, ⟨nd, rfl⟩⟩; (try first | exact ⟨rfl, _, World.drewN_drewN _ _ _⟩ | exact ⟨rfl, _, Eq.trans (World.drewN_drewN _ _ _) (congrArg (World.drewN _) (Nat.add_assoc _ _ _))⟩); (try clear A11)) | (go_at_call 172; (with_reducible refine (q1s.calls t102 t103 t104 _ A12.out).mono ?_); rintro e w' ⟨rfl, ⟨nd, rfl⟩⟩; (try first | exact ⟨rfl, _, World.drewN_drewN _ _ _⟩ | exact ⟨rfl, _, Eq.trans (World.drewN_drewN _ _ _) (congrArg (World.drewN _) (Nat.add_assoc _ _ _))⟩); (try clear A12))))
        go_roundg k1
        case measure => have := HK1.out; omega
        case rel => exact ⟨(wrap64 (x12_1 + 1)), (by first | rfl | (simp; done) | (simp [*]; done)), H', ⟨by have := HK1.out; omega⟩, by repeat (first | exact q0k.refl _ | apply q0k.step)⟩
       ·
        rw [if_neg c13] at H
        have c13b0 : (t104 == 0) = false := beq_eq_false_iff_ne.mpr c13
        have c13b1 : (t104 != 0) = true := bne_iff_ne.mpr c13
        obtain rfl := Option.some.inj H
        have p7 : 0 ≤ (x12_1 : Int) := of_decide_eq_true (by first | (with_reducible assumption) | assumption)
        have q7 : x12_1 < (a0.size : Int) := of_decide_eq_true (by first | (with_reducible assumption) | assumption)
        have hx7 := q5w a0 x12_1
        replace p7 := eq_true p7
        replace q7 := eq_true q7
        go_wp2_with (first | (go_at_call 120; (with_reducible refine (q1v.calls (bt a0 x12_1) t102 _ A8.out).mono ?_); rintro e w' ⟨rfl, ⟨nd, rfl⟩⟩; (try first | exact ⟨rfl, _, World.drewN_drewN _ _ _⟩ | exact ⟨rfl, _, Eq.trans (World.drewN_drewN _ _ _) (congrArg (World.drewN _) (Nat.add_assoc _ _ _))⟩); have p10 : 0 ≤ (x12_1 : Int) := of_decide_eq_true (by first | (with_reducible assumption) | assumption); have q10 : x12_1 < (a1.size : Int) := of_decide_eq_true (by first | (with_reducible assumption) | assumption); have hx10 := q5w a1 x12_1; replace p10 := eq_true p10; replace q10 := eq_true q10; (try clear A8)) | (go_at_call 120; (with_reducible refine (q1v.calls (bt a1 x12_1) t103 _ A11.out).mono ?_); rintro e w' ⟨rfl, ⟨nd, rfl⟩⟩; (try first | exact ⟨rfl, _, World.drewN_drewN _ _ _⟩ | exact ⟨rfl, _, Eq.trans (World.drewN_drewN _ _ _) (congrArg (World.drewN _) (Nat.add_assoc _ _ _))⟩); (try clear A11)) | (go_at_call 172; (with_reducible refine (q1s.calls t102 t103 t104 _ A12.out).mono ?_); rintro e w' ⟨rfl, ⟨nd, rfl⟩⟩; (try first | exact ⟨rfl, _, World.drewN_drewN _ _ _⟩ | exact ⟨rfl, _, Eq.trans (World.drewN_drewN _ _ _) (congrArg (World.drewN _) (Nat.add_assoc _ _ _))⟩); (try clear A12)))
        repeat (go_quiet (first | (go_at_call 120; (with_reducible refine (q1v.calls (bt a0 x12_1) t102 _ A8.out).mono ?_); rintro e w' ⟨rfl, ⟨nd, rfl⟩⟩; (try first | exact ⟨rfl, _, World.drewN_drewN _ _ _⟩ | exact ⟨rfl, _, Eq.trans (World.drewN_drewN _ _ _) (congrArg (World.drewN _) (Nat.add_assoc _ _ _))⟩); have p10 : 0 ≤ (x12_1 : Int) := of_decide_eq_true (by first | (with_reducible assumption) | assumption); have q10 : x12_1 < (a1.size : Int) := of_decide_eq_true (by first | (with_reducible assumption) | assumption); have hx10 := q5w a1 x12_1; replace p10 := eq_true p10; replace q10 := eq_true q10; (try clear A8)) | (go_at_call 120; (with_reducible refine (q1v.calls (bt a1 x12_1) t103 _ A11.out).mono ?_); rintro e w' ⟨rfl, ⟨nd, rfl⟩⟩; (try first | exact ⟨rfl, _, World.drewN_drewN _ _ _⟩ | exact ⟨rfl, _, Eq.trans (World.drewN_drewN _ _ _) (congrArg (World.drewN _) (Nat.add_assoc _ _ _))⟩); (try clear A11)) | (go_at_call 172; (with_reducible refine (q1s.calls t102 t103 t104 _ A12.out).mono ?_); rintro e w' ⟨rfl, ⟨nd, rfl⟩⟩; (try first | exact ⟨rfl, _, World.drewN_drewN _ _ _⟩ | exact ⟨rfl, _, Eq.trans (World.drewN_drewN _ _ _) (congrArg (World.drewN _) (Nat.add_assoc _ _ _))⟩); (try clear A12))); try go_wp2_with (first | (go_at_call 120; (with_reducible refine (q1v.calls (bt a0 x12_1) t102 _ A8.out).mono ?_); rintro e w' ⟨rfl, ⟨nd, rfl⟩⟩; (try first | exact ⟨rfl, _, World.drewN_drewN _ _ _⟩ | exact ⟨rfl, _, Eq.trans (World.drewN_drewN _ _ _) (congrArg (World.drewN _) (Nat.add_assoc _ _ _))⟩); have p10 : 0 ≤ (x12_1 : Int) := of_decide_eq_true (by first | (with_reducible assumption) | assumption); have q10 : x12_1 < (a1.size : Int) := of_decide_eq_true (by first | (with_reducible assumption) | assumption); have hx10 := q5w a1 x12_1; replace p10 := eq_true p10; replace q10 := eq_true q10; (try clear A8)) | (go_at_call 120; (with_reducible refine (q1v.calls (bt a1 x12_1) t103 _ A11.out).mono ?_); rintro e w' ⟨rfl, ⟨nd, rfl⟩⟩; (try first | exact ⟨rfl, _, World.drewN_drewN _ _ _⟩ | exact ⟨rfl, _, Eq.trans (World.drewN_drewN _ _ _) (congrArg (World.drewN _) (Nat.add_assoc _ _ _))⟩); (try clear A11)) | (go_at_call 172; (with_reducible refine (q1s.calls t102 t103 t104 _ A12.out).mono ?_); rintro e w' ⟨rfl, ⟨nd, rfl⟩⟩; (try first | exact ⟨rfl, _, World.drewN_drewN _ _ _⟩ | exact ⟨rfl, _, Eq.trans (World.drewN_drewN _ _ _) (congrArg (World.drewN _) (Nat.add_assoc _ _ _))⟩); (try clear A12))))
        go_ret
        exact ⟨by first | rfl | (simp; done) | (simp only [← hji3] <;> (first | rfl | simp)) | (simp [*]; done), by repeat (first | exact q0k.refl _ | apply q0k.step)⟩
      ·
       rw [if_neg c9] at H
       exact absurd H (by simp)
     ·
      rw [if_neg c6] at H
      exact absurd H (by simp)
    ·
     rw [if_neg c5] at H
     exact absurd H (by simp)
   ·
    rw [if_neg c4] at H
    have c4b0 : decide (x12_1 < ji3) = false := decide_eq_false c4
    clear c4
    replace H := Option.bind_eq_some_iff.mp H
    obtain ⟨t101, A140, H⟩ := H
    have A14 := ak A140
    clear A140
    obtain rfl := Option.some.inj H
    go_wp2_with (first | (go_at_call 173; (with_reducible refine (q2l.calls (a0.size : Int) (a1.size : Int) t101 _ A14.out).mono ?_); rintro e w' ⟨rfl, ⟨nd, rfl⟩⟩; (try first | exact ⟨rfl, _, World.drewN_drewN _ _ _⟩ | exact ⟨rfl, _, Eq.trans (World.drewN_drewN _ _ _) (congrArg (World.drewN _) (Nat.add_assoc _ _ _))⟩); (try clear A14)))
    repeat (go_quiet (first | (go_at_call 173; (with_reducible refine (q2l.calls (a0.size : Int) (a1.size : Int) t101 _ A14.out).mono ?_); rintro e w' ⟨rfl, ⟨nd, rfl⟩⟩; (try first | exact ⟨rfl, _, World.drewN_drewN _ _ _⟩ | exact ⟨rfl, _, Eq.trans (World.drewN_drewN _ _ _) (congrArg (World.drewN _) (Nat.add_assoc _ _ _))⟩); (try clear A14))); try go_wp2_with (first | (go_at_call 173; (with_reducible refine (q2l.calls (a0.size : Int) (a1.size : Int) t101 _ A14.out).mono ?_); rintro e w' ⟨rfl, ⟨nd, rfl⟩⟩; (try first | exact ⟨rfl, _, World.drewN_drewN _ _ _⟩ | exact ⟨rfl, _, Eq.trans (World.drewN_drewN _ _ _) (congrArg (World.drewN _) (Nat.add_assoc _ _ _))⟩); (try clear A14))))
    go_ret
    exact ⟨by first | rfl | (simp; done) | (simp only [← hji3] <;> (first | rfl | simp)) | (simp [*]; done), by repeat (first | exact q0k.refl _ | apply q0k.step)⟩

def q3h.f (k : Nat) (a0 : ByteArray) (a1 : ByteArray) : Option (Bool) := (q1g.f k a0 a1).bind fun t105 => (some (t105 == 0))
theorem q3h.calls (k : Nat) (a0 : ByteArray) (a1 : ByteArray) (r : Bool) (w : World) (h : q3h.f k a0 a1 = some r) :
 Calls Tryz.prog 81 #[.string a0, .string a1] w fun e w' => e = .returned (.bool r) ∧ q0k w w' := by
 have H : ((q1g.f k a0 a1).bind fun t105 => (some (t105 == 0))) = some r := h
 clear h
 replace H := Option.bind_eq_some_iff.mp H
 obtain ⟨t105, A30, H⟩ := H
 have A3 := ak A30
 clear A30
 obtain rfl := Option.some.inj H
 go_enter Tryz.func81, Tryz.ntmps81
 go_wp2_with (first | ((with_reducible refine q0s (f := 117) rfl ?_); refine q2e (some 7) rfl rfl Tryz.func117 (by kernel_rfl) rfl #[.string a0, .string a1] rfl mq ?_; (with_reducible refine (q1g.calls k a0 a1 t105 _ A3.out).mono ?_); rintro e w' ⟨rfl, ⟨nd, rfl⟩⟩; refine ⟨_, rfl, ?_⟩; (try clear A3)))
 go_ret
 exact bz

def q0t.s (k : Nat) (a0 : ByteArray) : Nat → Int → Int → Option Int
 | 0, _, _ => none
 | n + 1, i, j => if i < j then (q1g.f k (GrandW.nameAt ((i + j) / 2)) a0).bind fun c => (if c ≥ 0 then (q0t.s k a0 n i ((i + j) / 2)) else (q0t.s k a0 n ((i + j) / 2 + 1) j)) else some i
def q0t.f (k : Nat) (a0 : ByteArray) : Option (Int × Bool) := (q0t.s k a0 27 0 26).bind fun i => (if i = 26 then (some (0, false)) else ((q3h.f k (GrandW.nameAt i) a0).bind fun b => (if b = true then (some (i, true)) else (some (0, false)))))
theorem q0t.asks (k : Nat) (s : ByteArray) (h c : Int) (p : Addr) (w : World) (hG : GrandW.G w) (h0 : 0 ≤ h) (h1 : h < 26) (hp : w.cell? p = some (.string s)) (hc : q1g.f k (GrandW.nameAt h) s = some c) :
 Calls Tryz.prog 116 #[.int .i64 h, .pointer (some p)] w fun e w' => e = .returned (.bool (decide (0 ≤ c))) ∧ q0k w w' := by
 have hn := hG.cell h.toNat (by omega)
 rw [Int.toNat_of_nonneg h0] at hn
 have HC := aq hc
 clear hc
 go_enter Tryz.func116, Tryz.ntmps116
 go_wp2_with fail
 go_quiet ((go_at_call 117; refine (q1g.calls k _ s c _ HC.out).mono ?_; rintro e w' ⟨rfl, ⟨nd, rfl⟩⟩; first | exact ⟨rfl, _, World.drewN_drewN _ _ _⟩ | exact ⟨rfl, _, Eq.trans (World.drewN_drewN _ _ _) (congrArg (World.drewN _) (Nat.add_assoc _ _ _))⟩))
 go_wp2
 go_ret
 exact ⟨rfl, by repeat (first | exact q0k.refl _ | apply q0k.step)⟩
theorem q0t.search (k : Nat) (s : ByteArray) (p : Addr) (w : World) (hG : GrandW.G w) (hp : w.cell? p = some (.string s)) (r : Int) (hr : q0t.s k s 27 0 26 = some r) :
 Calls Tryz.prog 115 #[.int .i64 26, .func (Fn.func 116) #[] #[.pointer (some p)]] w fun e w' => e = .returned (.int .i64 r) ∧ q0c (0 ≤ r ∧ r ≤ 26) ∧ q0k w w' := by
 have HG := aq hG
 have HP := aq hp
 have HR := aq hr
 clear hG hp hr
 go_enter Tryz.func115, Tryz.ntmps115
 go_wp2
 go_loopw [5, 6] (fun vi vj wr => ∃ (n : Nat) (i j : Int), vi = .int .i64 i ∧ vj = .int .i64 j ∧ 0 ≤ i ∧ i ≤ j ∧ j ≤ 26 ∧ q0c (q0t.s k s n i j = some r) ∧ q0c (q0k w wr)) (fun vi vj _ => (intOf vj - intOf vi).toNat)
 case atStart => exact ⟨27, 0, 26, rfl, rfl, by omega, by omega, by omega, HR, ⟨q0k.refl w⟩⟩
 case round =>
  clear HR
  obtain ⟨n, i, j, rfl, rfl, h0, h1, h2, HS, HD⟩ := hrel
  have hD := HD.out.out
  obtain ⟨nd0, hD⟩ := hD
  subst hD
  clear HD
  have H := HS.out
  clear HS
  cases n with
  | zero => exact absurd H (by simp [q0t.s])
  | succ n =>
   unfold q0t.s at H
   by_cases hij : i < j
   · rw [if_pos hij] at H
     obtain ⟨c, hc, H⟩ := Option.bind_eq_some_iff.mp H
     have HC := aq hc
     clear hc
     by_cases hc0 : 0 ≤ c
     · have hd : decide (0 ≤ c) = true := decide_eq_true hc0
       rw [if_pos hc0] at H
       have HS := aq H
       clear H hc0
       go_wp2_with (go_at_call 116; refine (q0t.asks k s ((i + j) / 2) c p _ (HG.out.drewN nd0) (by omega) (by omega) HP.out HC.out).mono ?_; rintro e w' ⟨rfl, ⟨nd, rfl⟩⟩)
       go_roundw
       case rel => exact ⟨n, i, (i + j) / 2, rfl, rfl, h0, by omega, by omega, HS, ⟨⟨_, rfl⟩⟩⟩
       case measure => simp [intOf]; omega
     · have hd : decide (0 ≤ c) = false := decide_eq_false hc0
       rw [if_neg hc0] at H
       have HS := aq H
       clear H hc0
       go_wp2_with (go_at_call 116; refine (q0t.asks k s ((i + j) / 2) c p _ (HG.out.drewN nd0) (by omega) (by omega) HP.out HC.out).mono ?_; rintro e w' ⟨rfl, ⟨nd, rfl⟩⟩)
       go_roundw
       case rel => exact ⟨n, (i + j) / 2 + 1, j, rfl, rfl, by omega, by omega, h2, HS, ⟨⟨_, rfl⟩⟩⟩
       case measure => simp [intOf]; omega
   · rw [if_neg hij] at H
     have HE := aq (Option.some.inj H)
     have HB := aq (And.intro h0 (Int.le_trans h1 h2))
     clear H
     go_wp2
     go_ret
     exact ⟨by rw [HE.out]; rfl, by rw [← HE.out]; exact HB, ⟨_, rfl⟩⟩
theorem q0t.calls (k : Nat) (a0 : ByteArray) (r1 : Int) (r2 : Bool) (w : World) (h : q0t.f k a0 = some (r1, r2)) (hG : GrandW.G w) :
 Calls Tryz.prog 61 #[.string a0] w fun e w' => e = .returned (.tuple #[.int .i64 r1, .bool r2]) ∧ Below w.heap.size w w' := by
 have hmf : ∀ (fn : Fn) (first cap : Array Value) (w : World), (Instr.makeFunc fn first cap).run Tryz.prog w = .ok (.func fn first cap) w := fun _ _ _ _ => rfl
 unfold q0t.f at h
 obtain ⟨i, hi, H⟩ := Option.bind_eq_some_iff.mp h
 clear h
 have HG := aq hG
 have HI := aq hi
 clear hG hi
 have hB0 : Below w.heap.size w (w.alloc (.cells #[.string a0] 9)) := (Below.refl _ _).alloc (Nat.le_refl _) _
 have HB0 := aq hB0
 clear hB0
 by_cases h26 : i = 26
 · subst h26
   rw [if_pos rfl] at H
   obtain ⟨rfl, rfl⟩ := Prod.mk.inj (Option.some.inj H)
   clear H
   go_enter Tryz.func61, Tryz.ntmps61
   go_wp2_with (go_at_call 115; refine (q0t.search k a0 _ _ (HG.out.below HB0.out) (by simp [go_sem]) 26 HI.out).mono ?_; rintro e w' ⟨rfl, hb, ⟨nd, rfl⟩⟩)
   go_quiet (fail)
   go_wp2
   go_ret2
   exact ⟨rfl, q0d (q0d HB0.out _) _⟩
 · rw [if_neg h26] at H
   obtain ⟨b, hb, H⟩ := Option.bind_eq_some_iff.mp H
   have HBb := aq hb
   clear hb
   have HH := aq H
   clear H
   have e26 : (i == 26) = false := by simpa using h26
   clear h26
   go_enter Tryz.func61, Tryz.ntmps61
   go_wp2_with (go_at_call 115; refine (q0t.search k a0 _ _ (HG.out.below HB0.out) (by simp [go_sem]) i HI.out).mono ?_; rintro e w' ⟨rfl, hb, ⟨nd, rfl⟩⟩)
   obtain ⟨b0, b1⟩ := hb.out
   have h25 : i < 26 := by
    have : i ≠ 26 := by simpa using e26
    omega
   have hn := (HG.out.below HB0.out).cell i.toNat (by omega)
   rw [Int.toNat_of_nonneg b0] at hn
   clear b1 hb
   cases b with
   | true =>
    obtain ⟨rfl, rfl⟩ := Prod.mk.inj (Option.some.inj HH.out)
    clear HH
    go_quiet ((go_at_call 81; refine (q3h.calls k (GrandW.nameAt i) a0 true _ HBb.out).mono ?_; rintro e w' ⟨rfl, ⟨nd, rfl⟩⟩; first | exact ⟨rfl, _, World.drewN_drewN _ _ _⟩ | exact ⟨rfl, _, Eq.trans (World.drewN_drewN _ _ _) (congrArg (World.drewN _) (Nat.add_assoc _ _ _))⟩))
    go_wp2
    go_ret2
    exact ⟨rfl, by repeat (first | exact HB0.out | apply q0d)⟩
   | false =>
    obtain ⟨rfl, rfl⟩ := Prod.mk.inj (Option.some.inj HH.out)
    clear HH
    go_quiet ((go_at_call 81; refine (q3h.calls k (GrandW.nameAt i) a0 false _ HBb.out).mono ?_; rintro e w' ⟨rfl, ⟨nd, rfl⟩⟩; first | exact ⟨rfl, _, World.drewN_drewN _ _ _⟩ | exact ⟨rfl, _, Eq.trans (World.drewN_drewN _ _ _) (congrArg (World.drewN _) (Nat.add_assoc _ _ _))⟩))
    go_wp2
    go_ret2
    exact ⟨rfl, by repeat (first | exact HB0.out | apply q0d)⟩

mutual
def q1h.j0 : Nat → Int → Bool → Option (Int)
 | 0, _, _ => none
 | k + 1, x0, x3 => if x3 = true then (some 1) else (if x0 ≥ 97 then (q1h.j1 k x0 (decide (x0 ≤ 122))) else (q1h.j1 k x0 false))
def q1h.j1 : Nat → Int → Bool → Option (Int)
 | 0, _, _ => none
 | k + 1, x0, x10 => if x10 = true then (some 1) else (if x0 ≥ 48 then (if x0 ≤ 57 then (some 2) else (some 0)) else (some 0))
end
def q1h.f (k : Nat) (a0 : Int) : Option (Int) := if a0 ≥ 65 then (q1h.j0 k a0 (decide (a0 ≤ 90))) else (q1h.j0 k a0 false)
theorem q1h.calls (k : Nat) (a0 : Int) (r : Int) (w : World) (h : q1h.f k a0 = some r) :
 Calls Tryz.prog 266 #[.int .u8 a0] w fun e w' => e = .returned (.int .i64 r) ∧ q0k w w' := by
 have H : (if a0 ≥ 65 then (q1h.j0 k a0 (decide (a0 ≤ 90))) else (q1h.j0 k a0 false)) = some r := h
 clear h
 have HC2 := ak H
 clear H
 go_enter Tryz.func266, Tryz.ntmps266
 go_upto_region 1 with (fail)
 go_cut [3] (fun v3 wc => ∃ (kq : Nat) (x3_1 : Bool), v3 = .bool x3_1 ∧ q0c (q1h.j0 kq a0 x3_1 = some r) ∧ q0c (kq ≤ k) ∧ q0k w wc)
 case first =>
  have H := HC2.out
  clear HC2
  by_cases c3 : a0 ≥ 65
  ·
   rw [if_pos c3] at H
   have c3b0 : decide (65 ≤ a0) = true := decide_eq_true c3
   clear c3
   (first | rw [c3b0] | (simp only [q6g, z1y]; rw [c3b0]) | rw [c3b2] | skip)
   have H' := ak H
   clear H
   go_wp2
   go_meet
   case rel => exact ⟨_, (decide (a0 ≤ 90)), (by first | rfl | (simp; done) | (simp [*]; done)), H', ⟨by first | omega | exact Nat.le_refl _⟩, by repeat (first | exact q0k.refl _ | apply q0k.step)⟩
  ·
   rw [if_neg c3] at H
   have c3b0 : decide (65 ≤ a0) = false := decide_eq_false c3
   clear c3
   (first | rw [c3b0] | (simp only [q6g, z1y]; rw [c3b0]) | rw [c3b2] | skip)
   have H' := ak H
   clear H
   go_wp2
   go_meet
   case rel => exact ⟨_, (false), (by first | rfl | (simp; done) | (simp [*]; done)), H', ⟨by first | omega | exact Nat.le_refl _⟩, by repeat (first | exact q0k.refl _ | apply q0k.step)⟩
 case rest =>
  clear HC2
  try clear c2
  try clear p2
  try clear c3
  try clear c3b0
  obtain ⟨kq, x3_1, rfl, HA, HJ1, ⟨mc1, rfl⟩⟩ := hcut
  cases kq with
  | zero => exact absurd HA.out (by simp [q1h.j0])
  | succ kj1 =>
   have H := HA.out
   clear HA
   simp only [q1h.j0] at H
   by_cases c4 : x3_1 = true
   ·
    subst c4
    have H1 : (some 1) = some r := by rw [if_pos rfl] at H; exact H
    clear H
    have H := H1
    clear H1
    obtain rfl := Option.some.inj H
    go_wp2
    go_ret
    exact bz
   ·
    replace c4 := Bool.eq_false_iff.mpr c4
    subst c4
    have H1 : (if a0 ≥ 97 then (q1h.j1 kj1 a0 (decide (a0 ≤ 122))) else (q1h.j1 kj1 a0 false)) = some r := by rw [if_neg (show ¬ (false = true) by decide)] at H; exact H
    clear H
    have H := H1
    clear H1
    have HC5 := ak H
    clear H
    go_upto_region 2 with (fail)
    go_cut [10] (fun v10 wc => ∃ (kq : Nat) (x10_4 : Bool), v10 = .bool x10_4 ∧ q0c (q1h.j1 kq a0 x10_4 = some r) ∧ q0c (kq ≤ kj1) ∧ q0k w wc)
    case first =>
     have H := HC5.out
     clear HC5
     by_cases c6 : a0 ≥ 97
     ·
      rw [if_pos c6] at H
      have c6b0 : decide (97 ≤ a0) = true := decide_eq_true c6
      clear c6
      (first | rw [c6b0] | (simp only [q6g, z1y]; rw [c6b0]) | rw [c6b2] | skip)
      have H' := ak H
      clear H
      go_wp2
      go_meet
      case rel => exact ⟨_, (decide (a0 ≤ 122)), (by first | rfl | (simp; done) | (simp [*]; done)), H', ⟨by have := HJ1.out; first | omega | exact Nat.le_refl _⟩, by repeat (first | exact q0k.refl _ | apply q0k.step)⟩
     ·
      rw [if_neg c6] at H
      have c6b0 : decide (97 ≤ a0) = false := decide_eq_false c6
      clear c6
      (first | rw [c6b0] | (simp only [q6g, z1y]; rw [c6b0]) | rw [c6b2] | skip)
      have H' := ak H
      clear H
      go_wp2
      go_meet
      case rel => exact ⟨_, (false), (by first | rfl | (simp; done) | (simp [*]; done)), H', ⟨by have := HJ1.out; first | omega | exact Nat.le_refl _⟩, by repeat (first | exact q0k.refl _ | apply q0k.step)⟩
    case rest =>
     clear HC5
     try clear c1
     try clear c2
     try clear p2
     try clear c3
     try clear c3b0
     try clear c4
     try clear c6
     try clear c6b0
     try clear p2
     obtain ⟨kq, x10_4, rfl, HA, HJ4, ⟨mc4, rfl⟩⟩ := hcut
     cases kq with
     | zero => exact absurd HA.out (by simp [q1h.j1])
     | succ kj4 =>
      have H := HA.out
      clear HA
      simp only [q1h.j1] at H
      by_cases c7 : x10_4 = true
      ·
       subst c7
       have H1 : (some 1) = some r := by rw [if_pos rfl] at H; exact H
       clear H
       have H := H1
       clear H1
       obtain rfl := Option.some.inj H
       go_wp2
       go_ret
       exact bz
      ·
       replace c7 := Bool.eq_false_iff.mpr c7
       subst c7
       have H1 : (if a0 ≥ 48 then (if a0 ≤ 57 then (some 2) else (some 0)) else (some 0)) = some r := by rw [if_neg (show ¬ (false = true) by decide)] at H; exact H
       clear H
       have H := H1
       clear H1
       by_cases c8 : a0 ≥ 48
       ·
        rw [if_pos c8] at H
        have c8b0 : decide (48 ≤ a0) = true := decide_eq_true c8
        clear c8
        by_cases c9 : a0 ≤ 57
        ·
         rw [if_pos c9] at H
         have c9b0 : decide (a0 ≤ 57) = true := decide_eq_true c9
         clear c9
         obtain rfl := Option.some.inj H
         go_wp2
         go_ret
         exact bz
        ·
         rw [if_neg c9] at H
         have c9b0 : decide (a0 ≤ 57) = false := decide_eq_false c9
         clear c9
         obtain rfl := Option.some.inj H
         go_wp2
         go_ret
         exact bz
       ·
        rw [if_neg c8] at H
        have c8b0 : decide (48 ≤ a0) = false := decide_eq_false c8
        clear c8
        obtain rfl := Option.some.inj H
        go_wp2
        go_ret
        exact bz

def q1j.l0 : Nat → ByteArray → Int → Int → Int → Option (Int)
 | 0, _, _, _, _ => none
 | k + 1, x0, x3, x7, x8 => if x8 < x7 then (if 0 ≤ x8 then (if x8 < (x0.size : Int) then ((q1h.f k (bt x0 x8)).bind fun t106 => (if t106 = 0 then (some 0) else (q1j.l0 k x0 (Go.bits .or .i64 x3 t106) x7 (wrap64 (x8 + 1))))) else (none)) else (none)) else (some x3)
def q1j.f (k : Nat) (a0 : ByteArray) : Option (Int) := q1j.l0 k a0 0 (a0.size : Int) 0
theorem q1j.calls (k : Nat) (a0 : ByteArray) (r : Int) (w : World) (h : q1j.f k a0 = some r) :
 Calls Tryz.prog 224 #[.string a0] w fun e w' => e = .returned (.int .i64 r) ∧ q0k w w' := by
 have H : (q1j.l0 k a0 0 (a0.size : Int) 0) = some r := h
 clear h
 have H' := ak H
 clear H
 go_enter Tryz.func224, Tryz.ntmps224
 go_wp2
 go_loopg [3, 8] k (fun kq v3 v8 w' => ∃ (x3_1 : Int) (x8_1 : Int), v3 = .int .i64 x3_1 ∧ v8 = .int .i64 x8_1 ∧ q0c (q1j.l0 kq a0 x3_1 (a0.size : Int) x8_1 = some r) ∧ q0c (kq ≤ k) ∧ q0k w w')
 case atStart => exact ⟨(0), (0), (by first | rfl | (simp; done) | (simp [*]; done)), (by first | rfl | (simp; done) | (simp [*]; done)), H', ⟨Nat.le_refl _⟩, by repeat (first | exact q0k.refl _ | apply q0k.step)⟩
 case round =>
  clear H'
  obtain ⟨x3_1, x8_1, rfl, rfl, HA, HK1, ⟨m1, rfl⟩⟩ := hrel
  cases gk with
  | zero => exact absurd HA.out (by simp [q1j.l0])
  | succ k1 =>
   have H := HA.out
   clear HA
   simp only [q1j.l0] at H
   by_cases c2 : x8_1 < (a0.size : Int)
   ·
    rw [if_pos c2] at H
    have c2b0 : decide (x8_1 < (a0.size : Int)) = true := decide_eq_true c2
    clear c2
    by_cases c3 : 0 ≤ x8_1
    ·
     rw [if_pos c3] at H
     have c3b0 : decide (0 ≤ x8_1) = true := decide_eq_true c3
     clear c3
     by_cases c4 : x8_1 < (a0.size : Int)
     ·
      rw [if_pos c4] at H
      have c4b0 : decide (x8_1 < (a0.size : Int)) = true := decide_eq_true c4
      clear c4
      replace H := Option.bind_eq_some_iff.mp H
      obtain ⟨t106, A60, H⟩ := H
      have A6 := ak A60
      clear A60
      by_cases c7 : t106 = 0
      ·
       rw [if_pos c7] at H
       have c7b0 : (t106 == 0) = true := beq_iff_eq.mpr c7
       have c7b1 : (t106 != 0) = false := bne_eq_false_iff_eq.mpr c7
       (try (have c7b2 : (t106 : Int).toNat = 0 := by rw [c7]; rfl))
       try have c7b3 : (0 ≤ t106) = True := eq_true (by omega)
       try have c7b4_2 : (t106 < 2) = True := eq_true (by omega)
       try have c7b4_3 : (t106 < 3) = True := eq_true (by omega)
       try have c7b4_5 : (t106 < 5) = True := eq_true (by omega)
       clear c7
       obtain rfl := Option.some.inj H
       have p5 : 0 ≤ (x8_1 : Int) := of_decide_eq_true (by first | (with_reducible assumption) | assumption)
       have q5 : x8_1 < (a0.size : Int) := of_decide_eq_true (by first | (with_reducible assumption) | assumption)
       have hx5 := q5w a0 x8_1
       replace p5 := eq_true p5
       replace q5 := eq_true q5
       go_wp2_with (first | ((with_reducible refine q0s (f := 266) rfl ?_); refine q2e (some 14) rfl rfl Tryz.func266 (by kernel_rfl) rfl #[.int .u8 (bt a0 x8_1)] rfl mq ?_; (with_reducible refine (q1h.calls k1 (bt a0 x8_1) t106 _ A6.out).mono ?_); rintro e w' ⟨rfl, ⟨nd, rfl⟩⟩; refine ⟨_, rfl, ?_⟩; (try clear A6)))
       go_ret
       exact bz
      ·
       rw [if_neg c7] at H
       have c7b0 : (t106 == 0) = false := beq_eq_false_iff_ne.mpr c7
       have c7b1 : (t106 != 0) = true := bne_iff_ne.mpr c7
       have H' := ak H
       clear H
       have p5 : 0 ≤ (x8_1 : Int) := of_decide_eq_true (by first | (with_reducible assumption) | assumption)
       have q5 : x8_1 < (a0.size : Int) := of_decide_eq_true (by first | (with_reducible assumption) | assumption)
       have hx5 := q5w a0 x8_1
       replace p5 := eq_true p5
       replace q5 := eq_true q5
       go_wp2_with (first | ((with_reducible refine q0s (f := 266) rfl ?_); refine q2e (some 14) rfl rfl Tryz.func266 (by kernel_rfl) rfl #[.int .u8 (bt a0 x8_1)] rfl mq ?_; (with_reducible refine (q1h.calls k1 (bt a0 x8_1) t106 _ A6.out).mono ?_); rintro e w' ⟨rfl, ⟨nd, rfl⟩⟩; refine ⟨_, rfl, ?_⟩; (try clear A6)))
       go_roundg k1
       case measure => have := HK1.out; omega
       case rel => exact ⟨(Go.bits .or .i64 x3_1 t106), (wrap64 (x8_1 + 1)), (by first | rfl | (simp; done) | (simp [*]; done)), (by first | rfl | (simp; done) | (simp [*]; done)), H', ⟨by have := HK1.out; omega⟩, by repeat (first | exact q0k.refl _ | apply q0k.step)⟩
     ·
      rw [if_neg c4] at H
      exact absurd H (by simp)
    ·
     rw [if_neg c3] at H
     exact absurd H (by simp)
   ·
    rw [if_neg c2] at H
    have c2b0 : decide (x8_1 < (a0.size : Int)) = false := decide_eq_false c2
    clear c2
    obtain rfl := Option.some.inj H
    go_wp2
    go_ret
    exact bz

def q1i.f (k : Nat) (a0 : ByteArray) : Option (Bool) := (q1j.f k a0).bind fun t107 => (some (t107 == 1))
theorem q1i.calls (k : Nat) (a0 : ByteArray) (r : Bool) (w : World) (h : q1i.f k a0 = some r) :
 Calls Tryz.prog 178 #[.string a0] w fun e w' => e = .returned (.bool r) ∧ q0k w w' := by
 have H : ((q1j.f k a0).bind fun t107 => (some (t107 == 1))) = some r := h
 clear h
 replace H := Option.bind_eq_some_iff.mp H
 obtain ⟨t107, A20, H⟩ := H
 have A2 := ak A20
 clear A20
 obtain rfl := Option.some.inj H
 go_enter Tryz.func178, Tryz.ntmps178
 go_wp2_with (first | ((with_reducible refine q0s (f := 224) rfl ?_); refine q2e (some 4) rfl rfl Tryz.func224 (by kernel_rfl) rfl #[.string a0] rfl mq ?_; (with_reducible refine (q1j.calls k a0 t107 _ A2.out).mono ?_); rintro e w' ⟨rfl, ⟨nd, rfl⟩⟩; refine ⟨_, rfl, ?_⟩; (try clear A2)))
 go_ret
 exact bz

def q3y.f (a0 : ByteArray) (a1 : Int) (a2 : Int) : Option (Bool) := if (a0.size : Int) ≥ a1 then (some (decide ((a0.size : Int) ≤ a2))) else (some false)
theorem q3y.calls (a0 : ByteArray) (a1 : Int) (a2 : Int) (r : Bool) (w : World) (h : q3y.f a0 a1 a2 = some r) :
 Calls Tryz.prog 225 #[.string a0, .int .i64 a1, .int .i64 a2] w fun e w' => e = .returned (.bool r) ∧ q0k w w' := by
 have H : (if (a0.size : Int) ≥ a1 then (some (decide ((a0.size : Int) ≤ a2))) else (some false)) = some r := h
 clear h
 by_cases c4 : (a0.size : Int) ≥ a1
 ·
  rw [if_pos c4] at H
  have c4b0 : decide (a1 ≤ (a0.size : Int)) = true := decide_eq_true c4
  clear c4
  obtain rfl := Option.some.inj H
  go_enter Tryz.func225, Tryz.ntmps225
  go_wp2
  go_ret
  exact bz
 ·
  rw [if_neg c4] at H
  have c4b0 : decide (a1 ≤ (a0.size : Int)) = false := decide_eq_false c4
  clear c4
  obtain rfl := Option.some.inj H
  go_enter Tryz.func225, Tryz.ntmps225
  go_wp2
  go_ret
  exact bz
end Go.Proofs.YtpmcfckechjppaaGreatDoor.P
