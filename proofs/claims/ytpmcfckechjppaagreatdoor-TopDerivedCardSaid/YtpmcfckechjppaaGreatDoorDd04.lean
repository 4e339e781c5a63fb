/- Made by a program of this seat's own (shake.py, merge.py): what the claim leans on: P2, P9, Refs, AsciiEv, AsciiLaws, PureFacts, GrandEv, Pl. -/
import Derived.Test.YtpmcfckechjppaaGreatDoorDd03
set_option linter.unusedVariables false
set_option linter.unusedSimpArgs false
set_option maxRecDepth 100000
set_option maxHeartbeats 8000000
namespace Go.Proofs.YtpmcfckechjppaaGreatDoor.P
open Go.RowKit Go.Proofs.YtpmcfckechjppaaGreatDoorW.PrintWords Go.Proofs.YtpmcfckechjppaaGreatDoorW.PrintLast Go.Proofs.YtpmcfckechjppaaGreatDoorW.PrintMore
attribute [local go_sem] StrOrd.binOp_gtr StrOrd.binOp_leq z7m z7a v0v v1k z4o z4r z7h z6v   -- for this text's walks alone
def q2r.f (k : Nat) (a0 : ByteArray) : Option (Bool) := (q1i.f k a0).bind fun t108 => (if t108 = true then ((q3y.f a0 2 8).bind fun t109 => (some t109)) else (some false))
theorem q2r.calls (k : Nat) (a0 : ByteArray) (r : Bool) (w : World) (h : q2r.f k a0 = some r) :
 Calls Tryz.prog 176 #[.string a0] w fun e w' => e = .returned (.bool r) ∧ q0k w w' := by
 have H : ((q1i.f k a0).bind fun t108 => (if t108 = true then ((q3y.f a0 2 8).bind fun t109 => (some t109)) else (some false))) = some r := h
 clear h
 replace H := Option.bind_eq_some_iff.mp H
 obtain ⟨t108, A20, H⟩ := H
 have A2 := ak A20
 clear A20
 by_cases c3 : t108 = true
 ·
  subst c3
  have H1 : ((q3y.f a0 2 8).bind fun t109 => (some t109)) = some r := by rw [if_pos rfl] at H; exact H
  clear H
  have H := H1
  clear H1
  replace H := Option.bind_eq_some_iff.mp H
  obtain ⟨t109, A40, H⟩ := H
  have A4 := ak A40
  clear A40
  obtain rfl := Option.some.inj H
  go_enter Tryz.func176, Tryz.ntmps176
  go_wp2_with (first | ((with_reducible refine q0s (f := 178) rfl ?_); refine q2e (some 4) rfl rfl Tryz.func178 (by kernel_rfl) rfl #[.string a0] rfl mq ?_; (with_reducible refine (q1i.calls k a0 true _ A2.out).mono ?_); rintro e w' ⟨rfl, ⟨nd, rfl⟩⟩; refine ⟨_, rfl, ?_⟩; (try clear A2)) | (go_at_call 225; (with_reducible refine (q3y.calls a0 2 8 t109 _ A4.out).mono ?_); rintro e w' ⟨rfl, ⟨nd, rfl⟩⟩; (try clear A4)))
  go_ret
  exact bz
 ·
  replace c3 := Bool.eq_false_iff.mpr c3
  subst c3
  have H1 : (some false) = some r := by rw [if_neg (show ¬ (false = true) by decide)] at H; exact H
  clear H
  have H := H1
  clear H1
  obtain rfl := Option.some.inj H
  go_enter Tryz.func176, Tryz.ntmps176
  go_wp2_with (first | ((with_reducible refine q0s (f := 178) rfl ?_); refine q2e (some 4) rfl rfl Tryz.func178 (by kernel_rfl) rfl #[.string a0] rfl mq ?_; (with_reducible refine (q1i.calls k a0 false _ A2.out).mono ?_); rintro e w' ⟨rfl, ⟨nd, rfl⟩⟩; refine ⟨_, rfl, ?_⟩; (try clear A2)))
  go_ret
  exact bz

def q3m.f (k : Nat) (a0 : ByteArray) : Option (Bool) := (q1i.f k a0).bind fun t110 => (if t110 = true then (some ((a0.size : Int) == 3)) else (some false))
theorem q3m.calls (k : Nat) (a0 : ByteArray) (r : Bool) (w : World) (h : q3m.f k a0 = some r) :
 Calls Tryz.prog 177 #[.string a0] w fun e w' => e = .returned (.bool r) ∧ q0k w w' := by
 have H : ((q1i.f k a0).bind fun t110 => (if t110 = true then (some ((a0.size : Int) == 3)) else (some false))) = some r := h
 clear h
 replace H := Option.bind_eq_some_iff.mp H
 obtain ⟨t110, A20, H⟩ := H
 have A2 := ak A20
 clear A20
 by_cases c3 : t110 = true
 ·
  subst c3
  have H1 : (some ((a0.size : Int) == 3)) = some r := by rw [if_pos rfl] at H; exact H
  clear H
  have H := H1
  clear H1
  obtain rfl := Option.some.inj H
  go_enter Tryz.func177, Tryz.ntmps177
  go_wp2_with (first | ((with_reducible refine q0s (f := 178) rfl ?_); refine q2e (some 4) rfl rfl Tryz.func178 (by kernel_rfl) rfl #[.string a0] rfl mq ?_; (with_reducible refine (q1i.calls k a0 true _ A2.out).mono ?_); rintro e w' ⟨rfl, ⟨nd, rfl⟩⟩; refine ⟨_, rfl, ?_⟩; (try clear A2)))
  go_ret
  exact bz
 ·
  replace c3 := Bool.eq_false_iff.mpr c3
  subst c3
  have H1 : (some false) = some r := by rw [if_neg (show ¬ (false = true) by decide)] at H; exact H
  clear H
  have H := H1
  clear H1
  obtain rfl := Option.some.inj H
  go_enter Tryz.func177, Tryz.ntmps177
  go_wp2_with (first | ((with_reducible refine q0s (f := 178) rfl ?_); refine q2e (some 4) rfl rfl Tryz.func178 (by kernel_rfl) rfl #[.string a0] rfl mq ?_; (with_reducible refine (q1i.calls k a0 false _ A2.out).mono ?_); rintro e w' ⟨rfl, ⟨nd, rfl⟩⟩; refine ⟨_, rfl, ?_⟩; (try clear A2)))
  go_ret
  exact bz

def q4e.f (k : Nat) (a0 : ByteArray) : Option (Bool) := (q1i.f k a0).bind fun t111 => (if t111 = true then (some ((a0.size : Int) == 4)) else (some false))
theorem q4e.calls (k : Nat) (a0 : ByteArray) (r : Bool) (w : World) (h : q4e.f k a0 = some r) :
 Calls Tryz.prog 126 #[.string a0] w fun e w' => e = .returned (.bool r) ∧ q0k w w' := by
 have H : ((q1i.f k a0).bind fun t111 => (if t111 = true then (some ((a0.size : Int) == 4)) else (some false))) = some r := h
 clear h
 replace H := Option.bind_eq_some_iff.mp H
 obtain ⟨t111, A20, H⟩ := H
 have A2 := ak A20
 clear A20
 by_cases c3 : t111 = true
 ·
  subst c3
  have H1 : (some ((a0.size : Int) == 4)) = some r := by rw [if_pos rfl] at H; exact H
  clear H
  have H := H1
  clear H1
  obtain rfl := Option.some.inj H
  go_enter Tryz.func126, Tryz.ntmps126
  go_wp2_with (first | ((with_reducible refine q0s (f := 178) rfl ?_); refine q2e (some 4) rfl rfl Tryz.func178 (by kernel_rfl) rfl #[.string a0] rfl mq ?_; (with_reducible refine (q1i.calls k a0 true _ A2.out).mono ?_); rintro e w' ⟨rfl, ⟨nd, rfl⟩⟩; refine ⟨_, rfl, ?_⟩; (try clear A2)))
  go_ret
  exact bz
 ·
  replace c3 := Bool.eq_false_iff.mpr c3
  subst c3
  have H1 : (some false) = some r := by rw [if_neg (show ¬ (false = true) by decide)] at H; exact H
  clear H
  have H := H1
  clear H1
  obtain rfl := Option.some.inj H
  go_enter Tryz.func126, Tryz.ntmps126
  go_wp2_with (first | ((with_reducible refine q0s (f := 178) rfl ?_); refine q2e (some 4) rfl rfl Tryz.func178 (by kernel_rfl) rfl #[.string a0] rfl mq ?_; (with_reducible refine (q1i.calls k a0 false _ A2.out).mono ?_); rintro e w' ⟨rfl, ⟨nd, rfl⟩⟩; refine ⟨_, rfl, ?_⟩; (try clear A2)))
  go_ret
  exact bz

def q1n.f (k : Nat) (a0 : ByteArray) : Option (Bool) := (q1j.f k a0).bind fun t112 => (some (t112 == 2))
theorem q1n.calls (k : Nat) (a0 : ByteArray) (r : Bool) (w : World) (h : q1n.f k a0 = some r) :
 Calls Tryz.prog 179 #[.string a0] w fun e w' => e = .returned (.bool r) ∧ q0k w w' := by
 have H : ((q1j.f k a0).bind fun t112 => (some (t112 == 2))) = some r := h
 clear h
 replace H := Option.bind_eq_some_iff.mp H
 obtain ⟨t112, A20, H⟩ := H
 have A2 := ak A20
 clear A20
 obtain rfl := Option.some.inj H
 go_enter Tryz.func179, Tryz.ntmps179
 go_wp2_with (first | ((with_reducible refine q0s (f := 224) rfl ?_); refine q2e (some 4) rfl rfl Tryz.func224 (by kernel_rfl) rfl #[.string a0] rfl mq ?_; (with_reducible refine (q1j.calls k a0 t112 _ A2.out).mono ?_); rintro e w' ⟨rfl, ⟨nd, rfl⟩⟩; refine ⟨_, rfl, ?_⟩; (try clear A2)))
 go_ret
 exact bz

def q4f.f (k : Nat) (a0 : ByteArray) : Option (Bool) := (q1i.f k a0).bind fun t113 => (if t113 = true then (if (a0.size : Int) = 2 then (some true) else ((q1n.f k a0).bind fun t114 => (if t114 = true then (some ((a0.size : Int) == 3)) else (some false)))) else ((q1n.f k a0).bind fun t115 => (if t115 = true then (some ((a0.size : Int) == 3)) else (some false))))
theorem q4f.calls (k : Nat) (a0 : ByteArray) (r : Bool) (w : World) (h : q4f.f k a0 = some r) :
 Calls Tryz.prog 127 #[.string a0] w fun e w' => e = .returned (.bool r) ∧ q0k w w' := by
 have H : ((q1i.f k a0).bind fun t113 => (if t113 = true then (if (a0.size : Int) = 2 then (some true) else ((q1n.f k a0).bind fun t114 => (if t114 = true then (some ((a0.size : Int) == 3)) else (some false)))) else ((q1n.f k a0).bind fun t115 => (if t115 = true then (some ((a0.size : Int) == 3)) else (some false))))) = some r := h
 clear h
 replace H := Option.bind_eq_some_iff.mp H
 obtain ⟨t113, A20, H⟩ := H
 have A2 := ak A20
 clear A20
 by_cases c3 : t113 = true
 ·
  subst c3
  have H1 : (if (a0.size : Int) = 2 then (some true) else ((q1n.f k a0).bind fun t114 => (if t114 = true then (some ((a0.size : Int) == 3)) else (some false)))) = some r := by rw [if_pos rfl] at H; exact H
  clear H
  have H := H1
  clear H1
  by_cases c4 : (a0.size : Int) = 2
  ·
   rw [if_pos c4] at H
   have c4b0 : ((a0.size : Int) == 2) = true := beq_iff_eq.mpr c4
   have c4b1 : ((a0.size : Int) != 2) = false := bne_eq_false_iff_eq.mpr c4
   clear c4
   obtain rfl := Option.some.inj H
   go_enter Tryz.func127, Tryz.ntmps127
   go_wp2_with (first | ((with_reducible refine q0s (f := 178) rfl ?_); refine q2e (some 4) rfl rfl Tryz.func178 (by kernel_rfl) rfl #[.string a0] rfl mq ?_; (with_reducible refine (q1i.calls k a0 true _ A2.out).mono ?_); rintro e w' ⟨rfl, ⟨nd, rfl⟩⟩; refine ⟨_, rfl, ?_⟩; (try clear A2)))
   go_ret
   exact bz
  ·
   rw [if_neg c4] at H
   have c4b0 : ((a0.size : Int) == 2) = false := beq_eq_false_iff_ne.mpr c4
   have c4b1 : ((a0.size : Int) != 2) = true := bne_iff_ne.mpr c4
   replace H := Option.bind_eq_some_iff.mp H
   obtain ⟨t114, A50, H⟩ := H
   have A5 := ak A50
   clear A50
   by_cases c6 : t114 = true
   ·
    subst c6
    have H1 : (some ((a0.size : Int) == 3)) = some r := by rw [if_pos rfl] at H; exact H
    clear H
    have H := H1
    clear H1
    obtain rfl := Option.some.inj H
    go_enter Tryz.func127, Tryz.ntmps127
    go_wp2_with (first | ((with_reducible refine q0s (f := 178) rfl ?_); refine q2e (some 4) rfl rfl Tryz.func178 (by kernel_rfl) rfl #[.string a0] rfl mq ?_; (with_reducible refine (q1i.calls k a0 true _ A2.out).mono ?_); rintro e w' ⟨rfl, ⟨nd, rfl⟩⟩; refine ⟨_, rfl, ?_⟩; (try clear A2)) | (go_at_call 179; (with_reducible refine (q1n.calls k a0 true _ A5.out).mono ?_); rintro e w' ⟨rfl, ⟨nd, rfl⟩⟩; (try clear A5)))
    go_ret
    exact bz
   ·
    replace c6 := Bool.eq_false_iff.mpr c6
    subst c6
    have H1 : (some false) = some r := by rw [if_neg (show ¬ (false = true) by decide)] at H; exact H
    clear H
    have H := H1
    clear H1
    obtain rfl := Option.some.inj H
    go_enter Tryz.func127, Tryz.ntmps127
    go_wp2_with (first | ((with_reducible refine q0s (f := 178) rfl ?_); refine q2e (some 4) rfl rfl Tryz.func178 (by kernel_rfl) rfl #[.string a0] rfl mq ?_; (with_reducible refine (q1i.calls k a0 true _ A2.out).mono ?_); rintro e w' ⟨rfl, ⟨nd, rfl⟩⟩; refine ⟨_, rfl, ?_⟩; (try clear A2)) | (go_at_call 179; (with_reducible refine (q1n.calls k a0 false _ A5.out).mono ?_); rintro e w' ⟨rfl, ⟨nd, rfl⟩⟩; (try clear A5)))
    go_ret
    exact bz
 ·
  replace c3 := Bool.eq_false_iff.mpr c3
  subst c3
  have H1 : ((q1n.f k a0).bind fun t115 => (if t115 = true then (some ((a0.size : Int) == 3)) else (some false))) = some r := by rw [if_neg (show ¬ (false = true) by decide)] at H; exact H
  clear H
  have H := H1
  clear H1
  replace H := Option.bind_eq_some_iff.mp H
  obtain ⟨t115, A70, H⟩ := H
  have A7 := ak A70
  clear A70
  by_cases c8 : t115 = true
  ·
   subst c8
   have H1 : (some ((a0.size : Int) == 3)) = some r := by rw [if_pos rfl] at H; exact H
   clear H
   have H := H1
   clear H1
   obtain rfl := Option.some.inj H
   go_enter Tryz.func127, Tryz.ntmps127
   go_wp2_with (first | ((with_reducible refine q0s (f := 178) rfl ?_); refine q2e (some 4) rfl rfl Tryz.func178 (by kernel_rfl) rfl #[.string a0] rfl mq ?_; (with_reducible refine (q1i.calls k a0 false _ A2.out).mono ?_); rintro e w' ⟨rfl, ⟨nd, rfl⟩⟩; refine ⟨_, rfl, ?_⟩; (try clear A2)) | (go_at_call 179; (with_reducible refine (q1n.calls k a0 true _ A7.out).mono ?_); rintro e w' ⟨rfl, ⟨nd, rfl⟩⟩; (try clear A7)))
   go_ret
   exact bz
  ·
   replace c8 := Bool.eq_false_iff.mpr c8
   subst c8
   have H1 : (some false) = some r := by rw [if_neg (show ¬ (false = true) by decide)] at H; exact H
   clear H
   have H := H1
   clear H1
   obtain rfl := Option.some.inj H
   go_enter Tryz.func127, Tryz.ntmps127
   go_wp2_with (first | ((with_reducible refine q0s (f := 178) rfl ?_); refine q2e (some 4) rfl rfl Tryz.func178 (by kernel_rfl) rfl #[.string a0] rfl mq ?_; (with_reducible refine (q1i.calls k a0 false _ A2.out).mono ?_); rintro e w' ⟨rfl, ⟨nd, rfl⟩⟩; refine ⟨_, rfl, ?_⟩; (try clear A2)) | (go_at_call 179; (with_reducible refine (q1n.calls k a0 false _ A7.out).mono ?_); rintro e w' ⟨rfl, ⟨nd, rfl⟩⟩; (try clear A7)))
   go_ret
   exact bz

def q1r.f (k : Nat) (a0 : ByteArray) : Option (Bool) := (q1j.f k a0).bind fun t116 => (some (t116 != 0))
theorem q1r.calls (k : Nat) (a0 : ByteArray) (r : Bool) (w : World) (h : q1r.f k a0 = some r) :
 Calls Tryz.prog 175 #[.string a0] w fun e w' => e = .returned (.bool r) ∧ q0k w w' := by
 have H : ((q1j.f k a0).bind fun t116 => (some (t116 != 0))) = some r := h
 clear h
 replace H := Option.bind_eq_some_iff.mp H
 obtain ⟨t116, A20, H⟩ := H
 have A2 := ak A20
 clear A20
 obtain rfl := Option.some.inj H
 go_enter Tryz.func175, Tryz.ntmps175
 go_wp2_with (first | ((with_reducible refine q0s (f := 224) rfl ?_); refine q2e (some 4) rfl rfl Tryz.func224 (by kernel_rfl) rfl #[.string a0] rfl mq ?_; (with_reducible refine (q1j.calls k a0 t116 _ A2.out).mono ?_); rintro e w' ⟨rfl, ⟨nd, rfl⟩⟩; refine ⟨_, rfl, ?_⟩; (try clear A2)))
 go_ret
 exact bz

def q6p.f (k : Nat) (a0 : ByteArray) : Option (Bool) := (q1r.f k a0).bind fun t117 => (if t117 = true then ((q3y.f a0 5 8).bind fun t118 => (if t118 = true then (some true) else (if (a0.size : Int) = 4 then (if 0 ≤ 1 then (if 1 ≤ (a0.size : Int) then ((q1n.f k (a0.extract 0 1)).bind fun t119 => (some t119)) else (none)) else (none)) else (some false)))) else (some false))
theorem q6p.calls (k : Nat) (a0 : ByteArray) (r : Bool) (w : World) (h : q6p.f k a0 = some r) :
 Calls Tryz.prog 180 #[.string a0] w fun e w' => e = .returned (.bool r) ∧ q0k w w' := by
 have H : ((q1r.f k a0).bind fun t117 => (if t117 = true then ((q3y.f a0 5 8).bind fun t118 => (if t118 = true then (some true) else (if (a0.size : Int) = 4 then (if 0 ≤ 1 then (if 1 ≤ (a0.size : Int) then ((q1n.f k (a0.extract 0 1)).bind fun t119 => (some t119)) else (none)) else (none)) else (some false)))) else (some false))) = some r := h
 clear h
 replace H := Option.bind_eq_some_iff.mp H
 obtain ⟨t117, A20, H⟩ := H
 have A2 := ak A20
 clear A20
 by_cases c3 : t117 = true
 ·
  subst c3
  have H1 : ((q3y.f a0 5 8).bind fun t118 => (if t118 = true then (some true) else (if (a0.size : Int) = 4 then (if 0 ≤ 1 then (if 1 ≤ (a0.size : Int) then ((q1n.f k (a0.extract 0 1)).bind fun t119 => (some t119)) else (none)) else (none)) else (some false)))) = some r := by rw [if_pos rfl] at H; exact H
  clear H
  have H := H1
  clear H1
  replace H := Option.bind_eq_some_iff.mp H
  obtain ⟨t118, A40, H⟩ := H
  have A4 := ak A40
  clear A40
  by_cases c5 : t118 = true
  ·
   subst c5
   have H1 : (some true) = some r := by rw [if_pos rfl] at H; exact H
   clear H
   have H := H1
   clear H1
   obtain rfl := Option.some.inj H
   go_enter Tryz.func180, Tryz.ntmps180
   go_wp2_with (first | ((with_reducible refine q0s (f := 175) rfl ?_); refine q2e (some 4) rfl rfl Tryz.func175 (by kernel_rfl) rfl #[.string a0] rfl mq ?_; (with_reducible refine (q1r.calls k a0 true _ A2.out).mono ?_); rintro e w' ⟨rfl, ⟨nd, rfl⟩⟩; refine ⟨_, rfl, ?_⟩; (try clear A2)) | (go_at_call 225; (with_reducible refine (q3y.calls a0 5 8 true _ A4.out).mono ?_); rintro e w' ⟨rfl, ⟨nd, rfl⟩⟩; (try clear A4)))
   go_ret
   exact bz
  ·
   replace c5 := Bool.eq_false_iff.mpr c5
   subst c5
   have H1 : (if (a0.size : Int) = 4 then (if 0 ≤ 1 then (if 1 ≤ (a0.size : Int) then ((q1n.f k (a0.extract 0 1)).bind fun t119 => (some t119)) else (none)) else (none)) else (some false)) = some r := by rw [if_neg (show ¬ (false = true) by decide)] at H; exact H
   clear H
   have H := H1
   clear H1
   by_cases c6 : (a0.size : Int) = 4
   ·
    rw [if_pos c6] at H
    have c6b0 : ((a0.size : Int) == 4) = true := beq_iff_eq.mpr c6
    have c6b1 : ((a0.size : Int) != 4) = false := bne_eq_false_iff_eq.mpr c6
    clear c6
    by_cases c7 : 0 ≤ 1
    ·
     rw [if_pos c7] at H
     have c7b0 := eq_true c7
     have c7b1 : decide (0 ≤ 1) = true := decide_eq_true c7
     clear c7
     by_cases c8 : 1 ≤ (a0.size : Int)
     ·
      rw [if_pos c8] at H
      have c8b0 := eq_true c8
      have c8b1 : decide (1 ≤ (a0.size : Int)) = true := decide_eq_true c8
      clear c8
      replace H := Option.bind_eq_some_iff.mp H
      obtain ⟨t119, A90, H⟩ := H
      have A9 := ak A90
      clear A90
      obtain rfl := Option.some.inj H
      go_enter Tryz.func180, Tryz.ntmps180
      go_wp2_with (first | ((with_reducible refine q0s (f := 175) rfl ?_); refine q2e (some 4) rfl rfl Tryz.func175 (by kernel_rfl) rfl #[.string a0] rfl mq ?_; (with_reducible refine (q1r.calls k a0 true _ A2.out).mono ?_); rintro e w' ⟨rfl, ⟨nd, rfl⟩⟩; refine ⟨_, rfl, ?_⟩; (try clear A2)) | (go_at_call 225; (with_reducible refine (q3y.calls a0 5 8 false _ A4.out).mono ?_); rintro e w' ⟨rfl, ⟨nd, rfl⟩⟩; (try clear A4)) | (go_at_call 179; (with_reducible refine (q1n.calls k (a0.extract 0 1) t119 _ A9.out).mono ?_); rintro e w' ⟨rfl, ⟨nd, rfl⟩⟩; (try clear A9)))
      go_ret
      exact bz
     ·
      rw [if_neg c8] at H
      exact absurd H (by simp)
    ·
     rw [if_neg c7] at H
     exact absurd H (by simp)
   ·
    rw [if_neg c6] at H
    have c6b0 : ((a0.size : Int) == 4) = false := beq_eq_false_iff_ne.mpr c6
    have c6b1 : ((a0.size : Int) != 4) = true := bne_iff_ne.mpr c6
    obtain rfl := Option.some.inj H
    go_enter Tryz.func180, Tryz.ntmps180
    go_wp2_with (first | ((with_reducible refine q0s (f := 175) rfl ?_); refine q2e (some 4) rfl rfl Tryz.func175 (by kernel_rfl) rfl #[.string a0] rfl mq ?_; (with_reducible refine (q1r.calls k a0 true _ A2.out).mono ?_); rintro e w' ⟨rfl, ⟨nd, rfl⟩⟩; refine ⟨_, rfl, ?_⟩; (try clear A2)) | (go_at_call 225; (with_reducible refine (q3y.calls a0 5 8 false _ A4.out).mono ?_); rintro e w' ⟨rfl, ⟨nd, rfl⟩⟩; (try clear A4)))
    go_ret
    exact bz
 ·
  replace c3 := Bool.eq_false_iff.mpr c3
  subst c3
  have H1 : (some false) = some r := by rw [if_neg (show ¬ (false = true) by decide)] at H; exact H
  clear H
  have H := H1
  clear H1
  obtain rfl := Option.some.inj H
  go_enter Tryz.func180, Tryz.ntmps180
  go_wp2_with (first | ((with_reducible refine q0s (f := 175) rfl ?_); refine q2e (some 4) rfl rfl Tryz.func175 (by kernel_rfl) rfl #[.string a0] rfl mq ?_; (with_reducible refine (q1r.calls k a0 false _ A2.out).mono ?_); rintro e w' ⟨rfl, ⟨nd, rfl⟩⟩; refine ⟨_, rfl, ?_⟩; (try clear A2)))
  go_ret
  exact bz

def q4w.f (k : Nat) (a0 : ByteArray) : Option (Bool) := (q1r.f k a0).bind fun t120 => (if t120 = true then (if (a0.size : Int) = 1 then ((q3h.f k a0 (⟨#[120]⟩ : ByteArray)).bind fun t121 => (some (!t121))) else (some false)) else (some false))
theorem q4w.calls (k : Nat) (a0 : ByteArray) (r : Bool) (w : World) (h : q4w.f k a0 = some r) :
 Calls Tryz.prog 183 #[.string a0] w fun e w' => e = .returned (.bool r) ∧ q0k w w' := by
 have H : ((q1r.f k a0).bind fun t120 => (if t120 = true then (if (a0.size : Int) = 1 then ((q3h.f k a0 (⟨#[120]⟩ : ByteArray)).bind fun t121 => (some (!t121))) else (some false)) else (some false))) = some r := h
 clear h
 replace H := Option.bind_eq_some_iff.mp H
 obtain ⟨t120, A20, H⟩ := H
 have A2 := ak A20
 clear A20
 by_cases c3 : t120 = true
 ·
  subst c3
  have H1 : (if (a0.size : Int) = 1 then ((q3h.f k a0 (⟨#[120]⟩ : ByteArray)).bind fun t121 => (some (!t121))) else (some false)) = some r := by rw [if_pos rfl] at H; exact H
  clear H
  have H := H1
  clear H1
  by_cases c4 : (a0.size : Int) = 1
  ·
   rw [if_pos c4] at H
   have c4b0 : ((a0.size : Int) == 1) = true := beq_iff_eq.mpr c4
   have c4b1 : ((a0.size : Int) != 1) = false := bne_eq_false_iff_eq.mpr c4
   clear c4
   replace H := Option.bind_eq_some_iff.mp H
   obtain ⟨t121, A50, H⟩ := H
   have A5 := ak A50
   clear A50
   obtain rfl := Option.some.inj H
   go_enter Tryz.func183, Tryz.ntmps183
   go_wp2_with (first | ((with_reducible refine q0s (f := 175) rfl ?_); refine q2e (some 4) rfl rfl Tryz.func175 (by kernel_rfl) rfl #[.string a0] rfl mq ?_; (with_reducible refine (q1r.calls k a0 true _ A2.out).mono ?_); rintro e w' ⟨rfl, ⟨nd, rfl⟩⟩; refine ⟨_, rfl, ?_⟩; (try clear A2)) | (go_at_call 81; (with_reducible refine (q3h.calls k a0 (⟨#[120]⟩ : ByteArray) t121 _ A5.out).mono ?_); rintro e w' ⟨rfl, ⟨nd, rfl⟩⟩; (try clear A5)))
   go_ret
   exact bz
  ·
   rw [if_neg c4] at H
   have c4b0 : ((a0.size : Int) == 1) = false := beq_eq_false_iff_ne.mpr c4
   have c4b1 : ((a0.size : Int) != 1) = true := bne_iff_ne.mpr c4
   obtain rfl := Option.some.inj H
   go_enter Tryz.func183, Tryz.ntmps183
   go_wp2_with (first | ((with_reducible refine q0s (f := 175) rfl ?_); refine q2e (some 4) rfl rfl Tryz.func175 (by kernel_rfl) rfl #[.string a0] rfl mq ?_; (with_reducible refine (q1r.calls k a0 true _ A2.out).mono ?_); rintro e w' ⟨rfl, ⟨nd, rfl⟩⟩; refine ⟨_, rfl, ?_⟩; (try clear A2)))
   go_ret
   exact bz
 ·
  replace c3 := Bool.eq_false_iff.mpr c3
  subst c3
  have H1 : (some false) = some r := by rw [if_neg (show ¬ (false = true) by decide)] at H; exact H
  clear H
  have H := H1
  clear H1
  obtain rfl := Option.some.inj H
  go_enter Tryz.func183, Tryz.ntmps183
  go_wp2_with (first | ((with_reducible refine q0s (f := 175) rfl ?_); refine q2e (some 4) rfl rfl Tryz.func175 (by kernel_rfl) rfl #[.string a0] rfl mq ?_; (with_reducible refine (q1r.calls k a0 false _ A2.out).mono ?_); rintro e w' ⟨rfl, ⟨nd, rfl⟩⟩; refine ⟨_, rfl, ?_⟩; (try clear A2)))
  go_ret
  exact bz
def q3g.f (a0 : ByteArray) : Option (ByteArray) := if (a0.size : Int) > 60 then (if 0 ≤ 60 then (if 60 ≤ (a0.size : Int) then (some (a0.extract 0 60)) else (none)) else (none)) else (some a0)
theorem q3g.calls (a0 : ByteArray) (r : ByteArray) (w : World) (h : q3g.f a0 = some r) :
 Calls Tryz.prog 9 #[.string a0] w fun e w' => e = .returned (.string r) ∧ q0k w w' := by
 have H : (if (a0.size : Int) > 60 then (if 0 ≤ 60 then (if 60 ≤ (a0.size : Int) then (some (a0.extract 0 60)) else (none)) else (none)) else (some a0)) = some r := h
 clear h
 by_cases c2 : (a0.size : Int) > 60
 ·
  rw [if_pos c2] at H
  have c2b0 : decide (60 < (a0.size : Int)) = true := decide_eq_true c2
  have c2b1 : decide (60 < a0.size) = true := decide_eq_true (by omega)
  clear c2
  by_cases c3 : 0 ≤ 60
  ·
   rw [if_pos c3] at H
   have c3b0 := eq_true c3
   have c3b1 : decide (0 ≤ 60) = true := decide_eq_true c3
   clear c3
   by_cases c4 : 60 ≤ (a0.size : Int)
   ·
    rw [if_pos c4] at H
    have c4b0 := eq_true c4
    have c4b1 : decide (60 ≤ (a0.size : Int)) = true := decide_eq_true c4
    clear c4
    obtain rfl := Option.some.inj H
    go_enter Tryz.func9, Tryz.ntmps9
    go_wp2
    go_ret
    exact bz
   ·
    rw [if_neg c4] at H
    exact absurd H (by simp)
  ·
   rw [if_neg c3] at H
   exact absurd H (by simp)
 ·
  rw [if_neg c2] at H
  have c2b0 : decide (60 < (a0.size : Int)) = false := decide_eq_false c2
  have c2b1 : decide (60 < a0.size) = false := decide_eq_false (by omega)
  clear c2
  obtain rfl := Option.some.inj H
  go_enter Tryz.func9, Tryz.ntmps9
  go_wp2
  go_ret
  exact bz
def q2n.f (l0 : List ByteArray) (a1 : Int) : Option (ByteArray) := if (l0.length : Int) = 0 then (none) else (if 0 ≤ (Int.tmod (wrap64 ((Int.tmod a1 (l0.length : Int)) + (l0.length : Int))) (l0.length : Int)) then (if (Int.tmod (wrap64 ((Int.tmod a1 (l0.length : Int)) + (l0.length : Int))) (l0.length : Int)) < (l0.length : Int) then (some (q7o ByteArray.empty l0 (Int.tmod (wrap64 ((Int.tmod a1 (l0.length : Int)) + (l0.length : Int))) (l0.length : Int)))) else (none)) else (none))
theorem q2n.calls (A0 : Option Addr) (c0 : Nat) (l0 : List ByteArray) (a1 : Int) (r : ByteArray) (w : World) (hr0 : Kd.C Kd.string w A0 l0.length l0) (hc0 : l0.length ≤ c0) (h : q2n.f l0 a1 = some r) :
 Calls Tryz.prog 34 #[.slice A0 l0.length c0, .int .i64 a1] w fun e w' => e = .returned (.string r) ∧ q0k w w' := by
 have HR0 := aq hr0
 have HC0 := aq hc0
 clear hr0 hc0
 have H : (if (l0.length : Int) = 0 then (none) else (if 0 ≤ (Int.tmod (wrap64 ((Int.tmod a1 (l0.length : Int)) + (l0.length : Int))) (l0.length : Int)) then (if (Int.tmod (wrap64 ((Int.tmod a1 (l0.length : Int)) + (l0.length : Int))) (l0.length : Int)) < (l0.length : Int) then (some (q7o ByteArray.empty l0 (Int.tmod (wrap64 ((Int.tmod a1 (l0.length : Int)) + (l0.length : Int))) (l0.length : Int)))) else (none)) else (none))) = some r := h
 clear h
 by_cases c3 : (l0.length : Int) = 0
 · rw [if_pos c3] at H
   exact absurd H (by simp)
 · rw [if_neg c3] at H
   have c3b0 : ((l0.length : Int) == 0) = false := beq_eq_false_iff_ne.mpr c3
   have c3b1 : ((l0.length : Int) != 0) = true := bne_iff_ne.mpr c3
   have c3b2 : ¬ (l0 = []) := fun h_ => c3 (by rw [h_]; rfl)
   obtain ⟨ji4, hji4⟩ : ∃ j_ : Int, (Int.tmod (wrap64 ((Int.tmod a1 (l0.length : Int)) + (l0.length : Int))) (l0.length : Int)) = j_ := ⟨_, rfl⟩
   replace H : (if 0 ≤ (ji4) then (if (ji4) < (l0.length : Int) then (some (q7o ByteArray.empty l0 (ji4))) else (none)) else (none)) = some r := by first | (rw [hji4] at H; exact H) | (simp only [hji4] at H ⊢; exact H)
   by_cases c5 : 0 ≤ (ji4)
   · rw [if_pos c5] at H
     have c5b0 : decide (0 ≤ (ji4)) = true := decide_eq_true c5
     clear c5
     by_cases c6 : (ji4) < (l0.length : Int)
     · rw [if_pos c6] at H
       have c6b0 : decide ((ji4) < (l0.length : Int)) = true := decide_eq_true c6
       clear c6
       obtain rfl := Option.some.inj H
       have p315 : 0 ≤ ((ji4) : Int) := of_decide_eq_true (by first | (with_reducible assumption) | assumption)
       have q315 : (ji4) < (l0.length : Int) := of_decide_eq_true (by first | (with_reducible assumption) | assumption)
       obtain ⟨ad315, e315, hx315_0⟩ := Kd.q2o HR0.out (ji4) p315 q315
       cases e315
       replace p315 := eq_true p315
       replace q315 := eq_true q315
       go_enter Tryz.func34, Tryz.ntmps34
       go_wp2
       go_ret
       exact ⟨by first | rfl | (simp; done) | (simp only [← hji4] <;> (first | rfl | simp)) | (simp [*]; done), by repeat (first | exact q0k.refl _ | apply q0k.step)⟩
     · rw [if_neg c6] at H
       exact absurd H (by simp)
   · rw [if_neg c5] at H
     exact absurd H (by simp)

def q3k.f (a0 : Int) : Option (Int) := if a0 ≥ 97 then (if a0 ≤ 122 then (some ((((a0 - 97) % 256) + 65) % 256)) else (some a0)) else (some a0)
theorem q3k.calls (a0 : Int) (r : Int) (w : World) (h : q3k.f a0 = some r) :
 Calls Tryz.prog 193 #[.int .u8 a0] w fun e w' => e = .returned (.int .u8 r) ∧ q0k w w' := by
 have H : (if a0 ≥ 97 then (if a0 ≤ 122 then (some ((((a0 - 97) % 256) + 65) % 256)) else (some a0)) else (some a0)) = some r := h
 clear h
 by_cases c2 : a0 ≥ 97
 ·
  rw [if_pos c2] at H
  have c2b0 : decide (97 ≤ a0) = true := decide_eq_true c2
  clear c2
  by_cases c3 : a0 ≤ 122
  ·
   rw [if_pos c3] at H
   have c3b0 : decide (a0 ≤ 122) = true := decide_eq_true c3
   clear c3
   obtain rfl := Option.some.inj H
   go_enter Tryz.func193, Tryz.ntmps193
   go_wp2
   go_ret
   exact bz
  ·
   rw [if_neg c3] at H
   have c3b0 : decide (a0 ≤ 122) = false := decide_eq_false c3
   clear c3
   obtain rfl := Option.some.inj H
   go_enter Tryz.func193, Tryz.ntmps193
   go_wp2
   go_ret
   exact bz
 ·
  rw [if_neg c2] at H
  have c2b0 : decide (97 ≤ a0) = false := decide_eq_false c2
  clear c2
  obtain rfl := Option.some.inj H
  go_enter Tryz.func193, Tryz.ntmps193
  go_wp2
  go_ret
  exact bz

def q1f.l0 : Nat → ByteArray → List Int → Int → Option (ByteArray)
 | 0, _, _, _ => none
 | k + 1, x0, x3, x4 => if x4 < (x0.size : Int) then (if 0 ≤ x4 then ((q3k.f (bt x0 x4)).bind fun t331 => (if x3.length < 140737488355328 then (q1f.l0 k x0 (x3 ++ [t331]) (wrap64 (x4 + 1))) else (none))) else (none)) else (some (strOfNums x3))
def q1f.f (k : Nat) (a0 : ByteArray) : Option (ByteArray) := q1f.l0 k a0 ([] : List Int) 0
theorem q1f.calls (k : Nat) (a0 : ByteArray) (r : ByteArray) (w : World) (h : q1f.f k a0 = some r) :
 Calls Tryz.prog 145 #[.string a0] w fun e w' => e = .returned (.string r) ∧ Below w.heap.size w w' := by
 have HB := ak (Below.refl w.heap.size w)
 have H : (q1f.l0 k a0 ([] : List Int) 0) = some r := h
 clear h
 have H' := ak H
 clear H
 go_enter Tryz.func145, Tryz.ntmps145
 go_wp2
 go_loopg [3, 4] k (fun kq v3 v4 w' => ∃ (x3_1 : List Int) (x4_1 : Int), v4 = .int .i64 x4_1 ∧ q0c (q1f.l0 kq a0 x3_1 x4_1 = some r) ∧ q0c (kq ≤ k) ∧ q0c (Kd.R (Kd.int .u8) 5 w' w.heap.size (fun _ => True) v3 x3_1) ∧ q0c (Below w.heap.size w w'))
 case atStart => exact ⟨(([] : List Int)), (0), (by first | rfl | (simp; done) | (simp [*]; done)), H', ⟨Nat.le_refl _⟩, ⟨by first | exact Kd.k1i _ _ _ _ _ | exact Kd.N_nil _ _ _ _ _ | exact Kd.V_nil _ _ _ _ _ | exact Kd.Q_nil _ _ _ _ _ | exact Kd.S_nil _ _ _ _ _⟩, ⟨bq⟩⟩
 case round =>
  clear H'
  try clear c1
  obtain ⟨x3_1, x4_1, rfl, HA, HK1, HO_3, HB⟩ := hrel
  cases gk with
  | zero => exact absurd HA.out (by simp [q1f.l0])
  | succ k1 =>
   have H := HA.out
   clear HA
   simp only [q1f.l0] at H
   by_cases c2 : x4_1 < (a0.size : Int)
   ·
    rw [if_pos c2] at H
    have c2b0 : decide (x4_1 < (a0.size : Int)) = true := decide_eq_true c2
    clear c2
    by_cases c3 : 0 ≤ x4_1
    ·
     rw [if_pos c3] at H
     have c3b0 : decide (0 ≤ x4_1) = true := decide_eq_true c3
     clear c3
     replace H := Option.bind_eq_some_iff.mp H
     obtain ⟨t331, A50, H⟩ := H
     have A5 := ak A50
     clear A50
     by_cases c6 : x3_1.length < 140737488355328
     ·
      rw [if_pos c6] at H
      have LMc6 := ak c6
      clear c6
      obtain ⟨y332, hy332⟩ : ∃ y_ : List Int, y_ = (x3_1 ++ [t331]) := ⟨_, rfl⟩
      replace H : (q1f.l0 k1 a0 y332 (wrap64 (x4_1 + 1))) = some r := by first | (rw [hy332]; with_reducible exact H) | (have H2_ := (Option.bind_some _ _).symm.trans H; rw [hy332]; with_reducible exact H2_) | (have H2_ := (Option.bind_some _ _).symm.trans H; with_reducible exact H2_) | with_reducible exact H | (rw [hy332]; exact H) | exact H
      have Ny332 := ak hy332
      clear hy332
      have H' := ak H
      clear H
      have p4 : 0 ≤ (x4_1 : Int) := of_decide_eq_true (by first | (with_reducible assumption) | assumption)
      have q4 : x4_1 < (a0.size : Int) := of_decide_eq_true (by first | (with_reducible assumption) | assumption)
      have hx4 := q5w a0 x4_1
      replace p4 := eq_true p4
      replace q4 := eq_true q4
      go_wp2_with (first | ((with_reducible refine q0s (f := 193) rfl ?_); refine q2e (some 15) rfl rfl Tryz.func193 (by kernel_rfl) rfl #[.int .u8 (bt a0 x4_1)] rfl mq ?_; (with_reducible refine (q3k.calls (bt a0 x4_1) t331 _ A5.out).mono ?_); rintro e w' ⟨rfl, ⟨nd, rfl⟩⟩; refine ⟨_, rfl, ?_⟩; (try clear A5)) | ((with_reducible refine q1d (b := .append) (xs := #[.tmp 11, .tmp 16]) rfl ?_); at_builtin; refine Kd.z0s (Kd.int .u8) (w0 := w) w.heap.size rfl (.tmp 11) (.tmp 16) 38 5 (.int .u8 0) 1 rfl Tryz.underlying38 info5 rfl (by decide) (by omega) u3 x3_1 t331 [.int .u8 t331] (fun _ => True) (fun _ => False) rfl rfl ?aP (fun _ hk => hk.elim) ?aF ?aO ?aB ?aS ?aL ?_; (case aP => exact rfl); (case aB => exact bq); (case aF => exact (fun _ _ => trivial)); (case aO => exact (rx HO_3.out)); (case aS => exact (q6n bq)); (case aL => have := LMc6.out; omega); intro v333 w7 ho hb hg hat; rw [← Ny332.out] at ho; have n0_ := ak (hb); have n1_ := ak (ho); clear HB; clear HO_3; have HB := n0_; have HO334 := n1_; clear n0_ n1_; clear ho hb hg hat))
      go_roundg k1
      case measure => have := HK1.out; omega
      case rel => exact ⟨(y332), (wrap64 (x4_1 + 1)), (by first | rfl | (simp; done) | (simp [*]; done)), H', ⟨by have := HK1.out; omega⟩, ⟨(rx HO334.out)⟩, ⟨bq⟩⟩
     ·
      rw [if_neg c6] at H
      exact absurd H (by simp)
    ·
     rw [if_neg c3] at H
     exact absurd H (by simp)
   ·
    rw [if_neg c2] at H
    have c2b0 : decide (x4_1 < (a0.size : Int)) = false := decide_eq_false c2
    clear c2
    obtain rfl := Option.some.inj H
    have hcv8 := z5s (P := Tryz.prog) Tryz.underlying38 Tryz.underlying5 Tryz.underlying9 (Kd.v2z HO_3.out)
    go_wp2
    go_ret
    exact ⟨by first | rfl | (simp [errW_none, errW_some] <;> rfl) | (simp [*, errW_none, errW_some] <;> rfl), bq⟩

def q1c.f (k : Nat) (a0 : ByteArray) : Option (ByteArray) := if a0.toList = ([] : List UInt8) then (some (⟨#[]⟩ : ByteArray)) else (if 0 ≤ 1 then (if 1 ≤ (a0.size : Int) then ((q1f.f k (a0.extract 0 1)).bind fun t335 => ((q0o.f k (a0.extract 1 a0.size)).bind fun t336 => (if t335.size + t336.size ≤ 9223372036854775807 then (some (t335 ++ t336)) else (none)))) else (none)) else (none))
def q1c.T3 : Bool × List (List Nat × List Nat) := (true, [([], []), ([0], [0]), ([1], [1]), ([], []), ([3], [3]), ([4, 2], [4]), ([2, 5], [2, 5]), ([6, 5, 0, 1, 2, 3, 4, 5, 6], [6])])
def q1c.B3 : List Nat := [0, 1, 3, 0, 8, 31, 63, 127]
theorem q1c.j2v : q9c .any (opsOf Tryz.f72 3) = q1c.T3 := by kernel_rfl
theorem q1c.j1y : q6y q1c.T3.2 q1c.B3 = true := by kernel_rfl
theorem q1c.calls (k : Nat) (a0 : ByteArray) (r : ByteArray) (w : World) (h : q1c.f k a0 = some r) :
 Calls Tryz.prog 72 #[.string a0] w fun e w' => e = .returned (.string r) ∧ Below w.heap.size w w' := by
 have HB := ak (Below.refl w.heap.size w)
 have H : (if a0.toList = ([] : List UInt8) then (some (⟨#[]⟩ : ByteArray)) else (if 0 ≤ 1 then (if 1 ≤ (a0.size : Int) then ((q1f.f k (a0.extract 0 1)).bind fun t335 => ((q0o.f k (a0.extract 1 a0.size)).bind fun t336 => (if t335.size + t336.size ≤ 9223372036854775807 then (some (t335 ++ t336)) else (none)))) else (none)) else (none))) = some r := h
 clear h
 by_cases c2 : a0.toList = ([] : List UInt8)
 ·
  rw [if_pos c2] at H
  have c2b0 : (a0.toList == ([] : List UInt8)) = true := beq_iff_eq.mpr c2
  have c2b1 : (a0.toList != ([] : List UInt8)) = false := bne_eq_false_iff_eq.mpr c2
  have c2b2 : a0.toList.isEmpty = true := List.isEmpty_iff.mpr c2
  clear c2
  obtain rfl := Option.some.inj H
  go_enter Tryz.func72, Tryz.ntmps72
  go_wp2
  go_ret
  exact ⟨by first | rfl | (simp [errW_none, errW_some] <;> rfl) | (simp [*, errW_none, errW_some] <;> rfl), bq⟩
 ·
  rw [if_neg c2] at H
  have c2b0 : (a0.toList == ([] : List UInt8)) = false := beq_eq_false_iff_ne.mpr c2
  have c2b1 : (a0.toList != ([] : List UInt8)) = true := bne_iff_ne.mpr c2
  have c2b2 : a0.toList.isEmpty = false := List.isEmpty_eq_false_iff.mpr c2
  by_cases c3 : 0 ≤ 1
  ·
   rw [if_pos c3] at H
   have c3b0 := eq_true c3
   have c3b1 : decide (0 ≤ 1) = true := decide_eq_true c3
   clear c3
   by_cases c4 : 1 ≤ (a0.size : Int)
   ·
    rw [if_pos c4] at H
    have c4b0 := eq_true c4
    have c4b1 : decide (1 ≤ (a0.size : Int)) = true := decide_eq_true c4
    clear c4
    replace H := Option.bind_eq_some_iff.mp H
    obtain ⟨t335, A50, H⟩ := H
    have A5 := ak A50
    clear A50
    have c6b0 := eq_true (of_decide_eq_true (by first | (with_reducible assumption) | assumption) : 1 ≤ (a0.size : Int))
    replace H := Option.bind_eq_some_iff.mp H
    obtain ⟨t336, A70, H⟩ := H
    have A7 := ak A70
    clear A70
    by_cases c8 : t335.size + t336.size ≤ 9223372036854775807
    ·
     rw [if_pos c8] at H
     have c8b0 := eq_true c8
     have c8b1 : decide (t335.size + t336.size ≤ 9223372036854775807) = true := decide_eq_true c8
     try have c8b2 : (9223372036854775807 < t335.size + t336.size) = False := eq_false (Nat.not_lt.2 c8)
     obtain rfl := Option.some.inj H
     go_enter Tryz.func72, Tryz.ntmps72
     try go_wp2
     have n0_ := ak (q0m HB.out)
     clear HB
     have HB := n0_
     clear n0_
     refine q2w (n := 8) (S := fun w' => True) (ds := []) (M 8 0) (by kernel_rfl) rfl rfl trivial (fun hHeld => ?_); refine z3d q1c.j2v q1c.j1y (fun HT_ HW_ => ?_)
     generalize w.drew = w9 at HB hHeld ⊢
     refine pu 0 (some 5) (M 8 1) ?_
     refine pu 1 (some 6) (M 8 3) ?_
     refine pu 3 (some 8) (M 8 11) ?_
     refine pu 4 (some 9) (M 8 27) ?_
     refine j1p (i := 2) (N := some 7) (M 8 31) rfl rfl (k4o HT_.out (by kernel_rfl)) (by decide) (fun K hK => ?_)
     refine q5j Tryz.func145 (by kernel_rfl) rfl #[.string (a0.extract 0 1)] (by rfl) rfl rfl mq ?_
     with_reducible refine (q1f.calls k (a0.extract 0 1) t335 _ A5.out).mono ?_
     rintro e w10 ⟨rfl, hb⟩
     refine ⟨_, rfl, ?_⟩
     have n0_ := ak (z1b bq hb)
     clear HB
     have HB := n0_
     clear n0_
     (try clear hb)
     (try clear hb2)
     (try clear hk)
     (try clear hi)
     refine hK.out _ _ trivial (fun hHeld => ?_)
     clear hK K
     refine k5e (a' := ?_) ?_ ?_
     rotate_left
     ·
      show Act.put _ (some 7) _ = _
      simp only [Act.put, pA, pB, pC, q6g, z1y]
      rfl
     refine j1p (i := 5) (N := some 10) (M 8 63) rfl rfl (k4o HT_.out (by kernel_rfl)) (by decide) (fun K hK => ?_)
     refine q5j Tryz.func29 (by kernel_rfl) rfl #[.string (a0.extract 1 a0.size)] (by rfl) rfl rfl mq ?_
     with_reducible refine (q0o.calls k (a0.extract 1 a0.size) t336 _ A7.out).mono ?_
     rintro e w11 ⟨rfl, hb⟩
     refine ⟨_, rfl, ?_⟩
     have n0_ := ak (z1b bq hb)
     clear HB
     have HB := n0_
     clear n0_
     (try clear hb)
     (try clear hb2)
     (try clear hk)
     (try clear hi)
     refine hK.out _ _ trivial (fun hHeld => ?_)
     clear hK K
     refine k5e (a' := ?_) ?_ ?_
     rotate_left
     ·
      show Act.put _ (some 10) _ = _
      simp only [Act.put, pA, pB, pC, q6g, z1y]
      rfl
     refine pu 6 (some 11) (M 8 127) ?_
     refine pu 7 (some 2) (M 8 255) ?_
     refine q4t (k7c HT_.out (by kernel_rfl)) ?_
     try go_wp2
     go_ret
     exact ⟨by first | rfl | (simp [errW_none, errW_some] <;> rfl) | (simp [*, errW_none, errW_some] <;> rfl), bq⟩
    ·
     rw [if_neg c8] at H
     exact absurd H (by simp)
   ·
    rw [if_neg c4] at H
    exact absurd H (by simp)
  ·
   rw [if_neg c3] at H
   exact absurd H (by simp)

def q4l.f (a0 : Int) (a1 : Int) : Option (Int) := if a1 = 0 then (none) else (some (Int.tmod (wrap64 ((Int.tmod a0 a1) + a1)) a1))
theorem q4l.calls (a0 : Int) (a1 : Int) (r : Int) (w : World) (h : q4l.f a0 a1 = some r) :
 Calls Tryz.prog 13 #[.int .i64 a0, .int .i64 a1] w fun e w' => e = .returned (.int .i64 r) ∧ q0k w w' := by
 have H : (if a1 = 0 then (none) else (some (Int.tmod (wrap64 ((Int.tmod a0 a1) + a1)) a1))) = some r := h
 clear h
 by_cases c3 : a1 = 0
 ·
  rw [if_pos c3] at H
  exact absurd H (by simp)
 ·
  rw [if_neg c3] at H
  have c3b0 : (a1 == 0) = false := beq_eq_false_iff_ne.mpr c3
  have c3b1 : (a1 != 0) = true := bne_iff_ne.mpr c3
  obtain rfl := Option.some.inj H
  go_enter Tryz.func13, Tryz.ntmps13
  go_wp2
  go_ret
  exact bz

def z7v (w0 W : World) (g : Nat) (f0 : List (S92)) (f1 : Int) (f2 : ByteArray) (f3 : List ByteArray) (f4 : ByteArray) (f5 : ByteArray) (f6 : List ByteArray) (f7 : List (S65)) (f8 : List ByteArray) (f9 : ByteArray) : Prop := ∃ A0 c0, ∃ A3 c3, ∃ A6 c6, ∃ A7 c7, ∃ A8 c8, W.heap[g]? = some (.cells #[.slice A0 f0.length c0, .int .i64 f1, .string f2, .slice A3 f3.length c3, .string f4, .string f5, .slice A6 f6.length c6, .slice A7 f7.length c7, .slice A8 f8.length c8, .string f9] 87 (0, 0)) ∧ w0.heap.size ≤ g ∧ Kd.C k92 w0 A0 f0.length f0 ∧ Kd.C Kd.string w0 A3 f3.length f3 ∧ Kd.C Kd.string w0 A6 f6.length f6 ∧ Kd.C k65 w0 A7 f7.length f7 ∧ Kd.C Kd.string w0 A8 f8.length f8
theorem z7v.grown {w0 W : World} {g : Nat} {f0 : List (S92)} {f1 : Int} {f2 : ByteArray} {f3 : List ByteArray} {f4 : ByteArray} {f5 : ByteArray} {f6 : List ByteArray} {f7 : List (S65)} {f8 : List ByteArray} {f9 : ByteArray} {W1 : World} {row : Option Nat} (h : z7v w0 W g f0 f1 f2 f3 f4 f5 f6 f7 f8 f9) (hw : W.grownBy W1 row) (hne : some g ≠ row) : z7v w0 W1 g f0 f1 f2 f3 f4 f5 f6 f7 f8 f9 := by
 obtain ⟨A0, c0, A3, c3, A6, c6, A7, c7, A8, c8, hb, hg, hr0, hr3, hr6, hr7, hr8⟩ := h
 exact ⟨A0, c0, A3, c3, A6, c6, A7, c7, A8, c8, q6r hb hw hne, hg, hr0, hr3, hr6, hr7, hr8⟩
theorem z7v.below {w0 W : World} {g : Nat} {f0 : List (S92)} {f1 : Int} {f2 : ByteArray} {f3 : List ByteArray} {f4 : ByteArray} {f5 : ByteArray} {f6 : List ByteArray} {f7 : List (S65)} {f8 : List ByteArray} {f9 : ByteArray} {W1 : World} (h : z7v w0 W g f0 f1 f2 f3 f4 f5 f6 f7 f8 f9) (hw : Below W.heap.size W W1) : z7v w0 W1 g f0 f1 f2 f3 f4 f5 f6 f7 f8 f9 := h.grown (q3v hw none) (by simp)
theorem z7v.alloc {w0 W : World} {g : Nat} {f0 : List (S92)} {f1 : Int} {f2 : ByteArray} {f3 : List ByteArray} {f4 : ByteArray} {f5 : ByteArray} {f6 : List ByteArray} {f7 : List (S65)} {f8 : List ByteArray} {f9 : ByteArray} (h : z7v w0 W g f0 f1 f2 f3 f4 f5 f6 f7 f8 f9) (o : Obj) : z7v w0 (W.alloc o) g f0 f1 f2 f3 f4 f5 f6 f7 f8 f9 := h.below (q0b (Below.refl _ _) o)
end Go.Proofs.YtpmcfckechjppaaGreatDoor.P
namespace Go.Proofs.YtpmcfckechjppaaGreatDoor.Pure
open Go.RowKit Go.Proofs.YtpmcfckechjppaaGreatDoor.P Go.Proofs.YtpmcfckechjppaaGreatDoorW.PrintWords Go.Proofs.YtpmcfckechjppaaGreatDoorW.PrintLast Go.Proofs.YtpmcfckechjppaaGreatDoorW.PrintMore
open Go.Proofs.YtpmcfckechjppaaGreatDoor.Each Go.Proofs.YtpmcfckechjppaaGreatDoor.Base
def cmpL : List Int → List Int → Int
 | [], [] => 0
 | [], _ :: _ => -1
 | _ :: _, [] => 1
 | a :: l, b :: m => if a < b then -1 else if b < a then 1 else cmpL l m
def q6a (s : ByteArray) : List Int := (bytesOf s).map z0q
theorem q5a (s : ByteArray) : (q6a s).length = s.size := by rw [q6a, List.length_map, bytesOf_length]
theorem z8m (s : ByteArray) (i : Nat) (h : i < s.size) : (q6a s).drop i = z0q (bt s (i : Int)) :: (q6a s).drop (i + 1) := by
 unfold q6a
 rw [← List.map_drop, drop_at s i h, List.map_cons, List.map_drop]

theorem z5r (c : Int) (h : z0d c) : q1v.f c = some (z0q c) := by
 obtain ⟨h0, h1⟩ := h
 unfold q1v.f z0q
 split
 · split
   · rw [if_pos (by omega)]; congr 1; omega
   · rw [if_neg (by omega)]
 · rw [if_neg (by omega)]
theorem v4l (a b : Int) : q1s.f a b = some (if a < b then -1 else if b < a then 1 else 0) := by
 unfold q1s.f
 (repeat' split) <;> first | rfl | omega
theorem v8u (a b : Int) : q2l.f a b = some (if a < b then -1 else if b < a then 1 else 0) := by
 unfold q2l.f
 (repeat' split) <;> first | rfl | omega
theorem z7e (s : ByteArray) (i : Int) : z0d (bt s i) := z2r s i

theorem k7t (l m : List Int) (n : Nat) (hl : n ≤ l.length) (hm : n ≤ m.length) (hn : n = l.length ∨ n = m.length) :
 cmpL (l.drop n) (m.drop n) = if (l.length : Int) < m.length then -1 else if (m.length : Int) < l.length then 1 else 0 := by
 rcases hn with rfl | rfl
 · rw [List.drop_length]
   rcases Nat.lt_or_ge l.length m.length with h | h
   · rw [if_pos (by omega), List.drop_eq_getElem_cons h]; rfl
   · have : m.length = l.length := by omega
     rw [if_neg (by omega), if_neg (by omega), List.drop_of_length_le (by omega)]; rfl
 · rw [List.drop_length]
   rcases Nat.lt_or_ge m.length l.length with h | h
   · rw [if_neg (by omega), if_pos (by omega), List.drop_eq_getElem_cons h]; rfl
   · rw [if_neg (by omega), if_neg (by omega), List.drop_of_length_le (by omega)]; rfl

theorem z1o (s t : ByteArray) (n : Nat) (hn : n ≤ 281474976710656) (hs : n ≤ s.size) (ht : n ≤ t.size) (hnn : n = s.size ∨ n = t.size) : ∀ (d i : Nat), n - i = d → i ≤ n →
 Ev (fun k => q1g.l0 k s t (n : Int) (i : Int)) (cmpL ((q6a s).drop i) ((q6a t).drop i))
 | 0, i, hd, hi => by
  obtain rfl : i = n := by omega
  refine Ev.step (fun k => by unfold q1g.l0; rfl) ?_
  refine Ev.q1l (by omega) ?_
  refine Ev.z1u (v8u _ _) ?_
  have e := k7t (q6a s) (q6a t) i (by rw [q5a]; exact hs) (by rw [q5a]; exact ht) (by rw [q5a, q5a]; exact hnn)
  rw [q5a, q5a] at e
  rw [e]
  exact Ev.now _
 | d + 1, i, hd, hi => by
  have ih := z1o s t n hn hs ht hnn d (i + 1) (by omega) (by omega)
  refine Ev.step (fun k => by unfold q1g.l0; rfl) ?_
  refine Ev.q0x (by omega) ?_
  refine Ev.q0x (by omega) ?_
  refine Ev.q0x (by omega) ?_
  refine Ev.z1u (z5r _ (z7e _ _)) ?_
  refine Ev.q0x (by omega) ?_
  refine Ev.z1u (z5r _ (z7e _ _)) ?_
  refine Ev.z1u (v4l _ _) ?_
  rw [z8m s i (by omega), z8m t i (by omega)]
  simp only [cmpL]
  by_cases h1 : z0q (bt s (i : Int)) < z0q (bt t (i : Int))
  · rw [if_pos h1, if_pos h1]
    exact Ev.q1l (by decide) (Ev.now _)
  · rw [if_neg h1, if_neg h1]
    by_cases h2 : z0q (bt t (i : Int)) < z0q (bt s (i : Int))
    · rw [if_pos h2, if_pos h2]
      exact Ev.q1l (by decide) (Ev.now _)
    · rw [if_neg h2, if_neg h2]
      refine Ev.q0x rfl ?_
      rw [q7f (by omega) (by omega)]
      exact ih
theorem z5w (s t : ByteArray) (hs : s.size ≤ 140737488351232) (ht : t.size ≤ 140737488351232) : Ev (fun k => q1g.f k s t) (cmpL (q6a s) (q6a t)) := by
 have e : mn (s.size : Int) (t.size : Int) = ((min s.size t.size : Nat) : Int) := by unfold mn; split <;> omega
 have := z1o s t (min s.size t.size) (by omega) (by omega) (by omega) (by omega) _ 0 rfl (by omega)
 unfold q1g.f
 rw [e]
 exact this
theorem v1i (s t : ByteArray) (hs : s.size ≤ 140737488351232) (ht : t.size ≤ 140737488351232) : Ev (fun k => q3h.f k s t) (cmpL (q6a s) (q6a t) == 0) := by
 unfold q3h.f
 exact Ev.bind (z5w s t hs ht) (Ev.now _)

def q7c (c : Int) : Bool := decide ((97 ≤ c ∧ c ≤ 122) ∨ (65 ≤ c ∧ c ≤ 90))
def q7p (c : Int) : Bool := decide (48 ≤ c ∧ c ≤ 57)
def z4q (c : Int) : Int := if q7c c = true then 1 else if q7p c = true then 2 else 0
def v7f (a b : Bool) : Int := (if a = true then 1 else 0) + (if b = true then 2 else 0)
def q4p (a b : Bool) (l : List Int) : Int := if l.all (fun c => q7c c || q7p c) = true then v7f (a || l.any q7c) (b || l.any q7p) else 0
def q4d (l : List Int) : Int := q4p false false l
theorem z4m (c : Int) (h : q7c c = true) : q7p c = false := by
 unfold q7c at h; unfold q7p
 rw [decide_eq_true_iff] at h
 rw [decide_eq_false_iff_not]; omega
theorem k5r (c : Int) (h : z0d c) : Ev (fun k => q1h.f k c) (z4q c) := by
 have hv : ∀ r : Int, ((97 ≤ c ∧ c ≤ 122) ∨ (65 ≤ c ∧ c ≤ 90) → r = 1) → (¬ ((97 ≤ c ∧ c ≤ 122) ∨ (65 ≤ c ∧ c ≤ 90)) → 48 ≤ c ∧ c ≤ 57 → r = 2) → (¬ ((97 ≤ c ∧ c ≤ 122) ∨ (65 ≤ c ∧ c ≤ 90)) → ¬ (48 ≤ c ∧ c ≤ 57) → r = 0) → r = z4q c := by
  intro r h1 h2 h3
  unfold z4q q7c q7p
  simp only [decide_eq_true_iff]
  (repeat' split)
  · exact h1 ‹_›
  · exact h2 ‹_› ‹_›
  · exact h3 ‹_› ‹_›
 have j1 : ∀ b : Bool, (b = true ↔ (97 ≤ c ∧ c ≤ 122)) → (c < 65 ∨ 90 < c) → Ev (fun k => q1h.j1 k c b) (z4q c) := by
  intro b hb hn
  refine Ev.step (fun k => by unfold q1h.j1; rfl) ?_
  by_cases h1 : b = true
  · refine Ev.q0x h1 ?_
    rw [← hv 1 (fun _ => rfl) (fun _ _ => by have := hb.1 h1; omega) (fun _ _ => by have := hb.1 h1; omega)]
    exact Ev.now _
  · refine Ev.q1l h1 ?_
    have h2 : ¬ (97 ≤ c ∧ c ≤ 122) := fun h => h1 (hb.2 h)
    by_cases h3 : c ≥ 48
    · refine Ev.q0x h3 ?_
      by_cases h4 : c ≤ 57
      · refine Ev.q0x h4 ?_
        rw [← hv 2 (by omega) (by omega) (by omega)]; exact Ev.now _
      · refine Ev.q1l h4 ?_
        rw [← hv 0 (by omega) (by omega) (by omega)]; exact Ev.now _
    · refine Ev.q1l h3 ?_
      rw [← hv 0 (by omega) (by omega) (by omega)]; exact Ev.now _
 have j0 : ∀ b : Bool, (b = true ↔ (65 ≤ c ∧ c ≤ 90)) → Ev (fun k => q1h.j0 k c b) (z4q c) := by
  intro b hb
  refine Ev.step (fun k => by unfold q1h.j0; rfl) ?_
  by_cases h1 : b = true
  · refine Ev.q0x h1 ?_
    rw [← hv 1 (fun _ => rfl) (fun _ _ => by have := hb.1 h1; omega) (fun _ _ => by have := hb.1 h1; omega)]
    exact Ev.now _
  · refine Ev.q1l h1 ?_
    have h2 : ¬ (65 ≤ c ∧ c ≤ 90) := fun h => h1 (hb.2 h)
    by_cases h3 : c ≥ 97
    · exact Ev.q0x h3 (j1 _ (by rw [decide_eq_true_iff]; omega) (by omega))
    · exact Ev.q1l h3 (j1 _ (by simp; omega) (by omega))
 unfold q1h.f
 by_cases h3 : c ≥ 65
 · exact Ev.q0x h3 (j0 _ (by rw [decide_eq_true_iff]; omega))
 · exact Ev.q1l h3 (j0 _ (by simp; omega))
theorem k4w (a b : Bool) (c : Int) (h : (q7c c || q7p c) = true) : Go.bits .or .i64 (v7f a b) (z4q c) = v7f (a || q7c c) (b || q7p c) := by
 unfold z4q
 by_cases h1 : q7c c = true
 · rw [if_pos h1, h1, z4m c h1]
   cases a <;> cases b <;> rfl
 · have h1' : q7c c = false := by simpa using h1
   rw [h1', Bool.false_or] at h
   rw [if_neg h1, if_pos h, h1', h]
   cases a <;> cases b <;> rfl
theorem z5p (s : ByteArray) (hs : s.size ≤ 140737488351232) : ∀ (d i : Nat) (a b : Bool), s.size - i = d → i ≤ s.size →
 Ev (fun k => q1j.l0 k s (v7f a b) (s.size : Int) (i : Int)) (q4p a b ((bytesOf s).drop i))
 | 0, i, a, b, hd, hi => by
  obtain rfl : i = s.size := by omega
  refine Ev.step (fun k => by unfold q1j.l0; rfl) ?_
  refine Ev.q1l (by omega) ?_
  rw [List.drop_of_length_le (by rw [bytesOf_length]; exact Nat.le_refl _)]
  have e : q4p a b [] = v7f a b := by simp [q4p]
  rw [e]
  exact Ev.now _
 | d + 1, i, a, b, hd, hi => by
  refine Ev.step (fun k => by unfold q1j.l0; rfl) ?_
  refine Ev.q0x (by omega) ?_
  refine Ev.q0x (by omega) ?_
  refine Ev.q0x (by omega) ?_
  refine Ev.bind (k5r _ (z7e _ _)) ?_
  rw [drop_at s i (by omega)]
  generalize bt s (i : Int) = c
  by_cases h : (q7c c || q7p c) = true
  · have hk : ¬ z4q c = 0 := by
     unfold z4q
     by_cases h1 : q7c c = true
     · rw [if_pos h1]; decide
     · have h1' : q7c c = false := by simpa using h1
       rw [h1', Bool.false_or] at h
       rw [if_neg h1, if_pos h]; decide
    refine Ev.q1l hk ?_
    rw [k4w a b c h, q7f (by omega) (by omega)]
    have ih := z5p s hs d (i + 1) (a || q7c c) (b || q7p c) (by omega) (by omega)
    have e : q4p a b (c :: (bytesOf s).drop (i + 1)) = q4p (a || q7c c) (b || q7p c) ((bytesOf s).drop (i + 1)) := by
     simp only [q4p, List.all_cons, List.any_cons, h, Bool.true_and, Bool.or_assoc]
    rw [e]
    exact ih
  · have hk : z4q c = 0 := by
     unfold z4q
     simp only [Bool.or_eq_true, not_or] at h
     rw [if_neg h.1, if_neg h.2]
    refine Ev.q0x hk ?_
    have e : q4p a b (c :: (bytesOf s).drop (i + 1)) = 0 := by
     unfold q4p
     rw [if_neg]
     rw [List.all_cons, Bool.and_eq_true]
     exact fun hh => h hh.1
    rw [e]
    exact Ev.now _
theorem z6x (s : ByteArray) (hs : s.size ≤ 140737488351232) : Ev (fun k => q1j.f k s) (q4d (bytesOf s)) := by
 have := z5p s hs _ 0 false false rfl (by omega)
 unfold q1j.f q4d
 exact this
theorem z7y (s : ByteArray) (hs : s.size ≤ 140737488351232) : Ev (fun k => q1r.f k s) (q4d (bytesOf s) != 0) := by
 unfold q1r.f
 exact Ev.bind (z6x s hs) (Ev.now _)
theorem z2i (s : ByteArray) (hs : s.size ≤ 140737488351232) : Ev (fun k => q1i.f k s) (q4d (bytesOf s) == 1) := by
 unfold q1i.f
 exact Ev.bind (z6x s hs) (Ev.now _)
theorem v3c (s : ByteArray) (hs : s.size ≤ 140737488351232) : Ev (fun k => q1n.f k s) (q4d (bytesOf s) == 2) := by
 unfold q1n.f
 exact Ev.bind (z6x s hs) (Ev.now _)

def q5p (s : ByteArray) : ByteArray := strOfNums (q3p k4q s)
theorem q5c (s : ByteArray) : bytesOf (q5p s) = (bytesOf s).map z0q := z6m s
theorem q8i (s : ByteArray) : (q5p s).size = s.size := by rw [q6w, q5c, List.length_map, bytesOf_length]
theorem v3z (s : ByteArray) (hs : s.size ≤ 140737488351232) : q2a.f s = some (q5p s) := by unfold q2a.f; rw [if_pos hs]; rfl
theorem v2c (c : Int) (h : z0d c) : q2i.f c = some (z0q c) := by
 obtain ⟨h0, h1⟩ := h
 unfold q2i.f z0q
 split
 · split
   · rw [if_pos (by omega)]; congr 1; omega
   · rw [if_neg (by omega)]
 · rw [if_neg (by omega)]
theorem z3r (s : ByteArray) (hs : s.size ≤ 140737488351232) : ∀ (d i : Nat) (l : List Int), s.size - i = d → i ≤ s.size → l.length = i →
 Ev (fun k => q0o.l0 k s l (i : Int)) (strOfNums (l ++ ((bytesOf s).drop i).map z0q))
 | 0, i, l, hd, hi, hl => by
  refine Ev.step (fun k => by unfold q0o.l0; rfl) ?_
  refine Ev.q1l (by omega) ?_
  rw [List.drop_of_length_le (by rw [bytesOf_length]; omega), List.map_nil, List.append_nil]
  exact Ev.now _
 | d + 1, i, l, hd, hi, hl => by
  refine Ev.step (fun k => by unfold q0o.l0; rfl) ?_
  refine Ev.q0x (by omega) ?_
  refine Ev.q0x (by omega) ?_
  refine Ev.z1u (v2c _ (z7e _ _)) ?_
  refine Ev.q0x (by omega) ?_
  rw [q7f (by omega) (by omega), drop_at s i (by omega)]
  have ih := z3r s hs d (i + 1) (l ++ [z0q (bt s (i : Int))]) (by omega) (by omega) (by simp [hl])
  rw [List.append_assoc] at ih
  exact ih
theorem z0j (s : ByteArray) (hs : s.size ≤ 140737488351232) : Ev (fun k => q0o.f k s) (q5p s) := by
 have := z3r s hs _ 0 [] rfl (by omega) rfl
 have e : strOfNums ([] ++ ((bytesOf s).drop 0).map z0q) = q5p s := by
  apply q6t
  rw [q5c, List.nil_append, List.drop_zero]
  exact z4k _ (v3s (fun _ => z9d) (z1v s))
 rw [e] at this
 exact this
theorem letter_eq (c : Int) : q1m.f c = some (q7c c) := by
 have h : ∀ b : Bool, (b = true ↔ ((97 ≤ c ∧ c ≤ 122) ∨ (65 ≤ c ∧ c ≤ 90))) → some b = some (q7c c) := by
  intro b hb
  unfold q7c
  congr 1
  rw [Bool.eq_iff_iff, hb, decide_eq_true_iff]
 unfold q1m.f
 (repeat' split) <;> exact h _ (by simp; omega)
theorem digit_eq (c : Int) : q1q.f c = some (q7p c) := by
 have h : ∀ b : Bool, (b = true ↔ (48 ≤ c ∧ c ≤ 57)) → some b = some (q7p c) := by
  intro b hb
  unfold q7p
  congr 1
  rw [Bool.eq_iff_iff, hb, decide_eq_true_iff]
 unfold q1q.f
 (repeat' split) <;> exact h _ (by simp; omega)
def k0p (n p q : Nat) : Int := if n = 0 ∨ p + q < n then 0 else if q = 0 then 1 else if p = 0 then 2 else 3
theorem z9q : ∀ l : List Int, l.countP q7c + l.countP q7p = l.countP (fun c => q7c c || q7p c)
 | [] => rfl
 | c :: l => by
  have ih := z9q l
  rw [List.countP_cons, List.countP_cons, List.countP_cons]
  by_cases h : q7c c = true
  · have := z4m c h
    simp [h, this]; omega
  · have h' : q7c c = false := by simpa using h
    by_cases h2 : q7p c = true
    · simp [h', h2]; omega
    · have h2' : q7p c = false := by simpa using h2
      simp [h', h2']; omega
theorem k5b (l : List Int) : k0p l.length (l.countP q7c) (l.countP q7p) = q4d l := by
 have hs := z9q l
 unfold k0p q4d q4p v7f
 by_cases h0 : l.length = 0
 · rw [if_pos (.inl h0)]
   obtain rfl := List.eq_nil_of_length_eq_zero h0
   rfl
 · by_cases ha : l.all (fun c => q7c c || q7p c) = true
   · have hc : l.countP (fun c => q7c c || q7p c) = l.length := List.countP_eq_length.2 (List.all_eq_true.1 ha)
     rw [if_pos ha, if_neg (by omega)]
     have e1 : (l.any q7c = true) ↔ 0 < l.countP q7c := by rw [List.any_eq_true, List.countP_pos_iff]
     have e2 : (l.any q7p = true) ↔ 0 < l.countP q7p := by rw [List.any_eq_true, List.countP_pos_iff]
     simp only [Bool.false_or, e1, e2]
     (repeat' split) <;> omega
   · have hc : ¬ l.countP (fun c => q7c c || q7p c) = l.length := fun h => ha (List.all_eq_true.2 (List.countP_eq_length.1 h))
     have := List.countP_le_length (p := fun c => q7c c || q7p c) (l := l)
     rw [if_neg ha, if_pos (.inr (by omega))]
theorem v3m (k0 n p q : Nat) (b : Bool) (hb : b = true ↔ n = 0 ∨ p + q < n) : Ev (fun k => q0f.j1 k (p : Int) (q : Int) b) (k0p n p q) := by
 refine Ev.step (fun k => by unfold q0f.j1; rfl) ?_
 have R : ∀ r : Int, k0p n p q = r → ∀ g : Nat → Option Int, Ev g r → Ev g (k0p n p q) := by
  intro r hr g hg
  rw [hr]
  exact hg
 by_cases h1 : b = true
 · exact R 0 (by unfold k0p; rw [if_pos (hb.1 h1)]) _ (Ev.q0x h1 (Ev.now _))
 · have h1' : ¬ (n = 0 ∨ p + q < n) := fun h => h1 (hb.2 h)
   by_cases h2 : q = 0
   · exact R 1 (by unfold k0p; rw [if_neg h1', if_pos h2]) _ (Ev.q1l h1 (Ev.q0x (by omega) (Ev.now _)))
   · by_cases h3 : p = 0
     · exact R 2 (by unfold k0p; rw [if_neg h1', if_neg h2, if_pos h3]) _ (Ev.q1l h1 (Ev.q1l (by omega) (Ev.q0x (by omega) (Ev.now _))))
     · exact R 3 (by unfold k0p; rw [if_neg h1', if_neg h2, if_neg h3]) _ (Ev.q1l h1 (Ev.q1l (by omega) (Ev.q1l (by omega) (Ev.now _))))
theorem q7s (s : ByteArray) (hs : s.size ≤ 140737488351232) : ∀ (d i p q : Nat), s.size - i = d → i ≤ s.size → p ≤ i → q ≤ i →
 Ev (fun k => q0f.l0 k s (p : Int) (q : Int) (i : Int)) (k0p s.size (p + ((bytesOf s).drop i).countP q7c) (q + ((bytesOf s).drop i).countP q7p))
 | 0, i, p, q, hd, hi, hp, hq => by
  obtain rfl : i = s.size := by omega
  rw [List.drop_of_length_le (by rw [bytesOf_length]; exact Nat.le_refl _), List.countP_nil, List.countP_nil, Nat.add_zero, Nat.add_zero]
  refine Ev.step (fun k => by unfold q0f.l0; rfl) ?_
  refine Ev.q1l (by omega) ?_
  by_cases h : s.toList = []
  · have h0 : s.size = 0 := by rw [q6w, toList_nil.1 h]; rfl
    exact Ev.q0x h (v3m 0 _ _ _ _ (by simp [h0]))
  · have h0 : s.size ≠ 0 := fun e => h (toList_nil.2 (List.eq_nil_of_length_eq_zero (by rw [bytesOf_length]; exact e)))
    have hw : wrap64 ((p : Int) + (q : Int)) = (p : Int) + q := by unfold wrap64; omega
    exact Ev.q1l h (v3m 0 _ _ _ _ (by rw [hw, decide_eq_true_iff]; omega))
 | d + 1, i, p, q, hd, hi, hp, hq => by
  refine Ev.step (fun k => by unfold q0f.l0; rfl) ?_
  refine Ev.q0x (by omega) ?_
  refine Ev.q0x (by omega) ?_
  refine Ev.z1u (letter_eq _) ?_
  refine Ev.z1u (digit_eq _) ?_
  rw [drop_at s i (by omega), List.countP_cons, List.countP_cons, q7f (i := (i : Int)) (by omega) (by omega)]
  generalize bt s (i : Int) = c
  by_cases h1 : q7c c = true
  · have h2 := z4m c h1
    have ih := q7s s hs d (i + 1) (p + 1) q (by omega) (by omega) (by omega) (by omega)
    rw [h1, h2]
    refine Ev.q0x rfl (Ev.q1l (by decide) ?_)
    rw [q7f (by omega) (by omega), if_pos rfl, if_neg (by decide)]
    have e : p + (((bytesOf s).drop (i + 1)).countP q7c + 1) = p + 1 + ((bytesOf s).drop (i + 1)).countP q7c := by omega
    rw [e]
    exact ih
  · have h1' : q7c c = false := by simpa using h1
    rw [h1']
    by_cases h2 : q7p c = true
    · have ih := q7s s hs d (i + 1) p (q + 1) (by omega) (by omega) (by omega) (by omega)
      rw [h2]
      refine Ev.q1l (by decide) (Ev.q0x rfl ?_)
      rw [q7f (by omega) (by omega), if_pos rfl, if_neg (by decide)]
      have e : q + (((bytesOf s).drop (i + 1)).countP q7p + 1) = q + 1 + ((bytesOf s).drop (i + 1)).countP q7p := by omega
      rw [e]
      exact ih
    · have h2' : q7p c = false := by simpa using h2
      have ih := q7s s hs d (i + 1) p q (by omega) (by omega) (by omega) (by omega)
      rw [h2']
      refine Ev.q1l (by decide) (Ev.q1l (by decide) ?_)
      rw [if_neg (by decide)]
      exact ih
theorem z9a (s : ByteArray) (hs : s.size ≤ 140737488351232) : Ev (fun k => q0f.f k s) (q4d (bytesOf s)) := by
 have := q7s s hs _ 0 0 0 rfl (by omega) (by omega) (by omega)
 rw [List.drop_zero, Nat.zero_add, Nat.zero_add, q6w, k5b] at this
 unfold q0f.f
 exact this
theorem Ev.res {α : Type} {g : Nat → Option α} {r r' : α} (h : Ev g r) (e : r = r') : Ev g r' := e ▸ h

theorem z4c : ∀ l m : List Int, cmpL m l = - cmpL l m
 | [], [] => by simp [cmpL]
 | [], _ :: _ => by simp [cmpL]
 | _ :: _, [] => by simp [cmpL]
 | a :: l, b :: m => by
  have := z4c l m
  simp only [cmpL]
  (repeat' split) <;> omega
theorem q8o : ∀ l m : List Int, cmpL l m = 0 ↔ l = m
 | [], [] => by simp [cmpL]
 | [], _ :: _ => by simp [cmpL]
 | _ :: _, [] => by simp [cmpL]
 | a :: l, b :: m => by
  have ih := q8o l m
  simp only [cmpL, List.cons.injEq]
  by_cases h1 : a < b
  · rw [if_pos h1]; constructor
    · intro h; omega
    · rintro ⟨rfl, _⟩; omega
  · rw [if_neg h1]
    by_cases h2 : b < a
    · rw [if_pos h2]; constructor
      · intro h; omega
      · rintro ⟨rfl, _⟩; omega
    · rw [if_neg h2, ih]
      exact ⟨fun h => ⟨by omega, h⟩, fun h => h.2⟩
theorem z5v : ∀ l m n : List Int, cmpL l m ≤ 0 → cmpL m n ≤ 0 → cmpL l n ≤ 0
 | [], [], [] => by simp [cmpL]
 | [], [], _ :: _ => by simp [cmpL]
 | [], _ :: _, [] => by simp [cmpL]
 | [], _ :: _, _ :: _ => by simp [cmpL]
 | _ :: _, [], _ => by simp [cmpL]
 | _ :: _, _ :: _, [] => by simp [cmpL]
 | a :: l, b :: m, c :: n => by
  have ih := z5v l m n
  simp only [cmpL]
  (repeat' split) <;> omega
theorem k1b (l : List Int) : q4d l = 0 ∨ q4d l = 1 ∨ q4d l = 2 ∨ q4d l = 3 := by
 unfold q4d q4p v7f
 (repeat' split) <;> omega
theorem k1n : q4d [] = 0 := by decide
theorem k0u (l : List Int) : q4d l = 0 ↔ l = [] ∨ l.all (fun c => q7c c || q7p c) = false := by
 unfold q4d q4p v7f
 cases h : l.all (fun c => q7c c || q7p c) with
 | false => simp
 | true =>
  rw [if_pos rfl]
  cases l with
  | nil => simp
  | cons c l =>
   simp only [List.all_cons, Bool.and_eq_true] at h
   have hc := h.1
   simp only [List.any_cons, Bool.false_or, reduceCtorEq, false_or]
   cases h1 : q7c c with
   | true => simp; split <;> omega
   | false =>
    rw [h1, Bool.false_or] at hc
    rw [hc]; simp; split <;> omega
theorem v7o (l : List Int) : q4d l = 1 ↔ l ≠ [] ∧ l.all q7c = true := by
 have hz := k0u l
 constructor
 · intro h
   refine ⟨fun e => by rw [e] at h; exact absurd h (by decide), ?_⟩
   unfold q4d q4p v7f at h
   by_cases ha : l.all (fun c => q7c c || q7p c) = true
   · rw [if_pos ha] at h
     have hd : l.any q7p = false := by
      cases hd : l.any q7p with
      | false => rfl
      | true => rw [hd] at h; simp only [Bool.false_or] at h; revert h; split <;> simp
     rw [List.all_eq_true] at ha ⊢
     intro x hx
     have := ha x hx
     rw [List.any_eq_false] at hd
     have hd2 := hd x hx
     simp at hd2
     simpa [hd2] using this
   · rw [if_neg ha] at h; omega
 · rintro ⟨hne, ha⟩
   have hall : l.all (fun c => q7c c || q7p c) = true := by
    rw [List.all_eq_true] at ha ⊢
    intro x hx
    simp [ha x hx]
   have hd : l.any q7p = false := by
    rw [List.any_eq_false]
    intro x hx
    rw [List.all_eq_true] at ha
    simp [z4m x (ha x hx)]
   have hl : l.any q7c = true := by
    cases l with
    | nil => exact absurd rfl hne
    | cons c l => rw [List.all_cons, Bool.and_eq_true] at ha; simp [ha.1]
   unfold q4d q4p v7f
   rw [if_pos hall, hd, hl]
   rfl
theorem k8y {s t : ByteArray} {f : Int → Int} (h : bytesOf t = (bytesOf s).map f) (i : Nat) (hi : i < s.size) : bt t (i : Int) = f (bt s (i : Int)) := by
 have hl : i < (bytesOf s).length := by rw [bytesOf_length]; exact hi
 rw [z8t s i _ (List.getElem?_eq_getElem hl)]
 exact z8t t i _ (by rw [h, List.getElem?_map, List.getElem?_eq_getElem hl]; rfl)
theorem size_append (s t : ByteArray) : (s ++ t).size = s.size + t.size := by rw [q6w, q9e, List.length_append, bytesOf_length, bytesOf_length]
end Go.Proofs.YtpmcfckechjppaaGreatDoor.Pure
namespace Go.Proofs.YtpmcfckechjppaaGreatDoor.Pure
open Go.RowKit Go.Proofs.YtpmcfckechjppaaGreatDoor.P Go.Proofs.YtpmcfckechjppaaGreatDoorW.PrintWords Go.Proofs.YtpmcfckechjppaaGreatDoorW.PrintLast Go.Proofs.YtpmcfckechjppaaGreatDoorW.PrintMore
open Go.Proofs.YtpmcfckechjppaaGreatDoor.Each Go.Proofs.YtpmcfckechjppaaGreatDoor.Base Go.Proofs.YtpmcfckechjppaaGreatDoor.GrandW
def q6v (i : Int) : List Int := q6a (nameAt i)
theorem v2s : ∀ i < 26, ∀ j < 26, i ≤ j → cmpL (q6v (i : Nat)) (q6v (j : Nat)) ≤ 0 := by decide +kernel
theorem z3t (i : Int) : (nameAt i).size ≤ 140737488351232 := Nat.le_trans (z3s i) (by decide)

theorem v4g (p : Nat → Prop) (hp : ∀ i j, i ≤ j → p i → p j) : ∀ n, ∃ r, r ≤ n ∧ (∀ h, h < r → ¬ p h) ∧ (∀ h, r ≤ h → h < n → p h)
 | 0 => ⟨0, Nat.le_refl _, fun _ h => absurd h (by omega), fun _ _ h => absurd h (by omega)⟩
 | n + 1 => by
  obtain ⟨r, hr, h1, h2⟩ := v4g p hp n
  by_cases hn : p n
  · by_cases hrn : r = n
    · exact ⟨r, by omega, h1, fun h a b => by
       have : h = n := by omega
       rw [this]; exact hn⟩
    · exact ⟨r, by omega, h1, fun h a b => by
       by_cases e : h = n
       · rw [e]; exact hn
       · exact h2 h a (by omega)⟩
  · refine ⟨n + 1, by omega, fun h a b => hn (hp h n (by omega) b), fun h a b => absurd b (by omega)⟩

theorem z2z (s : ByteArray) (hs : s.size ≤ 140737488351232) (r : Nat) (h1 : ∀ h : Nat, h < r → ¬ 0 ≤ cmpL (q6v h) (q6a s)) (h2 : ∀ h : Nat, r ≤ h → h < 26 → 0 ≤ cmpL (q6v h) (q6a s)) (hr : r ≤ 26) :
 ∀ (n i j : Nat), i ≤ r → r ≤ j → j ≤ 26 → j - i < n → Ev (fun k => q0t.s k s n (i : Int) (j : Int)) (r : Int)
 | 0, _, _, _, _, _, h => absurd h (by omega)
 | n + 1, i, j, hi, hj, h26, hn => by
  have e : ((i : Int) + (j : Int)) / 2 = (((i + j) / 2 : Nat) : Int) := by omega
  unfold q0t.s
  by_cases hij : i < j
  · refine Ev.q0x (by omega) ?_
    rw [e]
    refine Ev.bind (z5w _ s (z3t _) hs) ?_
    by_cases hp : 0 ≤ cmpL (q6a (nameAt (((i + j) / 2 : Nat) : Int))) (q6a s)
    · refine Ev.q0x hp ?_
      have hm : r ≤ (i + j) / 2 := by
       apply Nat.le_of_not_lt
       intro hlt
       exact h1 _ hlt hp
      exact z2z s hs r h1 h2 hr n i ((i + j) / 2) hi hm (by omega) (by omega)
    · refine Ev.q1l hp ?_
      have hm : (i + j) / 2 < r := by
       apply Nat.lt_of_not_le
       intro hle
       exact hp (h2 _ hle (by omega))
      have ih := z2z s hs r h1 h2 hr n ((i + j) / 2 + 1) j (by omega) hj h26 (by omega)
      have e2 : ((((i + j) / 2 + 1 : Nat)) : Int) = (((i + j) / 2 : Nat) : Int) + 1 := by omega
      rw [e2] at ih
      exact ih
  · refine Ev.q1l (by omega) ?_
    have : i = r := by omega
    rw [this]
    exact Ev.now _

theorem k6q (s : ByteArray) (hs : s.size ≤ 140737488351232) : ∃ (r : Int) (b : Bool), Ev (fun k => q0t.f k s) (r, b) ∧
 ((b = true ∧ 0 ≤ r ∧ r < 26 ∧ q6v r = q6a s) ∨ (b = false ∧ r = 0 ∧ ∀ i : Int, 0 ≤ i → i < 26 → q6v i ≠ q6a s)) := by
 obtain ⟨r, hr, h1, h2⟩ := v4g (fun i => 26 ≤ i ∨ 0 ≤ cmpL (q6v (i : Nat)) (q6a s)) (by
  intro i j hij hpi
  by_cases hj : 26 ≤ j
  · exact .inl hj
  · right
    rcases hpi with hi | hi
    · omega
    · have z := v2s i (by omega) j (by omega) hij
      have y : cmpL (q6a s) (q6v i) ≤ 0 := by rw [z4c] ; omega
      have x := z5v _ _ _ y z
      rw [z4c] at x
      omega) 26
 have h1' : ∀ h : Nat, h < r → ¬ 0 ≤ cmpL (q6v h) (q6a s) := fun h a b => h1 h a (.inr b)
 have h2' : ∀ h : Nat, r ≤ h → h < 26 → 0 ≤ cmpL (q6v h) (q6a s) := fun h a b => by
  rcases h2 h a b with c | c
  · omega
  · exact c
 have hsr := z2z s hs r h1' h2' hr 27 0 26 (by omega) (by omega) (by omega) (by omega)
 by_cases h26 : r = 26
 · refine ⟨0, false, ?_, .inr ⟨rfl, rfl, ?_⟩⟩
   · unfold q0t.f
     refine Ev.bind hsr ?_
     refine Ev.q0x (by omega) (Ev.now _)
   · intro i hi hi2 e
     apply h1' i.toNat (by omega)
     rw [Int.toNat_of_nonneg hi, e, (q8o _ _).2 rfl]
     omega
 · by_cases hc : cmpL (q6v (r : Int)) (q6a s) = 0
   · refine ⟨r, true, ?_, .inl ⟨rfl, by omega, by omega, (q8o _ _).1 hc⟩⟩
     unfold q0t.f
     refine Ev.bind hsr ?_
     refine Ev.q1l (by omega) ?_
     refine Ev.bind (v1i _ s (z3t _) hs) ?_
     refine Ev.q0x ?_ (Ev.now _)
     have hc' : cmpL (q6a (nameAt (r : Int))) (q6a s) = 0 := hc
     rw [hc']; rfl
   · refine ⟨0, false, ?_, .inr ⟨rfl, rfl, ?_⟩⟩
     · unfold q0t.f
       refine Ev.bind hsr ?_
       refine Ev.q1l (by omega) ?_
       refine Ev.bind (v1i _ s (z3t _) hs) ?_
       refine Ev.q1l ?_ (Ev.now _)
       intro h
       exact hc (show cmpL (q6a (nameAt (r : Int))) (q6a s) = 0 by simpa using h)
     · intro i hi hi2 e
       by_cases hir : i.toNat < r
       · apply h1' i.toNat hir
         rw [Int.toNat_of_nonneg hi, e, (q8o _ _).2 rfl]
         omega
       · apply hc
         have z := v2s r (by omega) i.toNat (by omega) (by omega)
         rw [Int.toNat_of_nonneg hi, e] at z
         have y := h2' r (by omega) (by omega)
         omega

theorem k5j : ∀ i < 26, ∃ l, q1x.f = some l ∧ l.length = 26 ∧ q2m.f (q7o ByteArray.empty l ((i : Nat) : Int)) = some (nameAt (i : Nat)) := by
 intro i hi
 refine ⟨_, rfl, rfl, ?_⟩
 revert i
 decide +kernel
def q7n : List ByteArray := (q1x.f).getD []
theorem v2k : q1x.f = some q7n := rfl
theorem v8d (i : Int) (h0 : 0 ≤ i) (h1 : i < 26) : q2m.f (q7o ByteArray.empty q7n i) = some (nameAt i) := by
 obtain ⟨l, hl, _, h⟩ := k5j i.toNat (by omega)
 have e : l = q7n := by rw [v2k] at hl; exact (Option.some.inj hl).symm
 rw [e, Int.toNat_of_nonneg h0] at h
 exact h
theorem v7k : ∀ i < 26, (bytesOf (nameAt ((i : Nat) : Int))).map z0q = bytesOf (nameAt ((i : Nat) : Int)) := by decide +kernel
theorem k2s (i : Int) (h0 : 0 ≤ i) (h1 : i < 26) : q6v i = bytesOf (nameAt i) := by
 have h := v7k i.toNat (by omega)
 rw [Int.toNat_of_nonneg h0] at h
 exact h
theorem v2o (i : Int) (h0 : 0 ≤ i) (h1 : i < 26) (s : ByteArray) : (q5p s).toList = (nameAt i).toList ↔ q6v i = q6a s := by
 rw [toList_inj, k2s i h0 h1]
 constructor
 · intro e
   rw [← e, q5c]; rfl
 · intro e
   apply q6t
   rw [e, q5c]; rfl
end Go.Proofs.YtpmcfckechjppaaGreatDoor.Pure
namespace Go.Proofs.YtpmcfckechjppaaGreatDoor.Ps
open Go.RowKit Go.Proofs.YtpmcfckechjppaaGreatDoorW.PrintWords Go.Proofs.YtpmcfckechjppaaGreatDoorW.PrintLast Go.Proofs.YtpmcfckechjppaaGreatDoorW.PrintMore Go.Proofs.YtpmcfckechjppaaGreatDoor.P
open Go.Proofs.YtpmcfckechjppaaGreatDoor.Each Go.Proofs.YtpmcfckechjppaaGreatDoor.Base Go.Proofs.YtpmcfckechjppaaGreatDoor.Pure
abbrev Pc : Type := Int × ByteArray
def xB : ByteArray := ⟨#[120]⟩
def q3u (s : ByteArray) : Bool := decide (s.size ≤ 8) && (q4d (bytesOf s) != 0)
def q2t (s : ByteArray) : Bool := q4d (bytesOf s) == 1 && (decide (2 ≤ s.size) && decide (s.size ≤ 8))
def q5v (s : ByteArray) : Bool := q4d (bytesOf s) == 1 && decide (s.size = 3)
def z5e (s : ByteArray) : Bool := q4d (bytesOf s) == 1 && decide (s.size = 4)
def z6u (s : ByteArray) : Bool := (q4d (bytesOf s) == 1 && decide (s.size = 2)) || (q4d (bytesOf s) == 2 && decide (s.size = 3))
def q5q (s : ByteArray) : Bool := q4d (bytesOf s) != 0 && (decide (s.size = 1) && !(cmpL (q6a s) (q6a xB) == 0))
def q6u (s : ByteArray) : Bool := q4d (bytesOf s) != 0 && ((decide (5 ≤ s.size) && decide (s.size ≤ 8)) || (decide (s.size = 4) && (q4d (bytesOf (s.extract 0 1)) == 2)))
def q2g (s : ByteArray) : Bool := decide (1 < s.size)
def q2b (_ : ByteArray) : Bool := true
structure z4j where
 lang : ByteArray := ⟨#[]⟩
 extl : List ByteArray := []
 scr : ByteArray := ⟨#[]⟩
 reg : ByteArray := ⟨#[]⟩
 vars : List ByteArray := []
 exts : List (ByteArray × List ByteArray) := []
 priv : List ByteArray := []
def q3s : List Pc → ByteArray
 | [] => ⟨#[]⟩
 | x :: _ => if q3u x.2 = true then x.2 else ⟨#[]⟩
def q4r (e : Int) : List Pc → Int
 | [] => e
 | x :: _ => x.1
def rowP (f : ByteArray → Bool) : List Pc → List ByteArray × List Pc
 | [] => ([], [])
 | x :: l => if (q3u x.2 && f x.2) = true then (x.2 :: (rowP f l).1, (rowP f l).2) else ([], x :: l)
def q5m (f : ByteArray → Bool) : List Pc → ByteArray × List Pc
 | [] => (⟨#[]⟩, [])
 | x :: l => if (q3u x.2 && f x.2) = true then (x.2, l) else (⟨#[]⟩, x :: l)
def q4o : Nat → List Pc → List ByteArray × List Pc
 | 0, l => ([], l)
 | _ + 1, [] => ([], [])
 | n + 1, x :: l => if (q3u x.2 && q5v x.2) = true then (x.2 :: (q4o n l).1, (q4o n l).2) else ([], x :: l)
def q5d (acc : List ByteArray) : List Pc → Except (Int × Int) (List ByteArray × List Pc)
 | [] => .ok (acc, [])
 | x :: l => if (q3u x.2 && q6u x.2) = true then (if acc.any (fun y => decide (y = x.2)) = true then .error (x.1, 11) else q5d (acc ++ [x.2]) l) else .ok (acc, x :: l)
def q4j (e : Int) : Nat → List (ByteArray × List ByteArray) → List Pc → Except (Int × Int) (List (ByteArray × List ByteArray) × List Pc)
 | 0, acc, l => .ok (acc, l)
 | _ + 1, acc, [] => .ok (acc, [])
 | n + 1, acc, x :: l => if (q3u x.2 && q5q x.2) = true then
  (if acc.any (fun y => decide (y.1 = x.2)) = true then .error (x.1, 11) else
   if (rowP q2g l).1 = [] then .error (q4r e (rowP q2g l).2, 10) else q4j e n (acc ++ [(x.2, (rowP q2g l).1)]) (rowP q2g l).2)
  else .ok (acc, x :: l)
def q5n (e : Int) (l : List Pc) : Except (Int × Int) (List ByteArray) :=
 if q3s l = xB then (if (rowP q2b l.tail).1 = [] then .error (q4r e (rowP q2b l.tail).2, 10) else if (rowP q2b l.tail).2 = [] then .ok (rowP q2b l.tail).1 else .error (q4r e (rowP q2b l.tail).2, 10))
 else if l = [] then .ok [] else .error (q4r e l, 10)
def exl (a : ByteArray) (l : List Pc) : List ByteArray × List Pc := if a.size = 2 ∨ a.size = 3 then q4o 3 l else ([], l)
def z5l (e : Int) (t : z4j) (l : List Pc) : Except (Int × Int) z4j :=
 match q5d [] l with
 | .error x => .error x
 | .ok v => match q4j e (v.2.length + 1) [] v.2 with
  | .error x => .error x
  | .ok z => match q5n e z.2 with
   | .error x => .error x
   | .ok p => .ok { t with vars := v.1, exts := z.1, priv := p }
def v0j (e : Int) (l : List Pc) : Except (Int × Int) z4j :=
 if q3s l = xB then (match q5n e l with | .error x => .error x | .ok p => .ok { priv := p })
 else if (q5m q2t l).1.size = 0 then .error (q4r e l, 10)
 else z5l e { lang := (q5m q2t l).1, extl := (exl (q5m q2t l).1 (q5m q2t l).2).1, scr := (q5m z5e (exl (q5m q2t l).1 (q5m q2t l).2).2).1, reg := (q5m z6u (q5m z5e (exl (q5m q2t l).1 (q5m q2t l).2).2).2).1 } (q5m z6u (q5m z5e (exl (q5m q2t l).1 (q5m q2t l).2).2).2).2
theorem q7r {s : ByteArray} (h : q3u s = true) : s.size ≤ 8 ∧ s.size ≠ 0 := by
 unfold q3u at h
 simp only [Bool.and_eq_true, decide_eq_true_eq, bne_iff_ne, ne_eq] at h
 refine ⟨h.1, fun h0 => h.2 ?_⟩
 have : bytesOf s = [] := List.eq_nil_of_length_eq_zero (by rw [bytesOf_length]; exact h0)
 rw [this]; exact k1n
theorem v3o (f : ByteArray → Bool) : ∀ l : List Pc, (rowP f l).1 ++ (rowP f l).2.map Prod.snd = l.map Prod.snd
 | [] => rfl
 | x :: l => by
  unfold rowP
  split
  · simp [v3o f l]
  · rfl
theorem one_pos {f : ByteArray → Bool} {x : Pc} {l : List Pc} (h : (q3u x.2 && f x.2) = true) : q5m f (x :: l) = (x.2, l) := if_pos h
theorem q9t {f : ByteArray → Bool} {x : Pc} {l : List Pc} (h : ¬ (q3u x.2 && f x.2) = true) : q5m f (x :: l) = (⟨#[]⟩, x :: l) := if_neg h
theorem z2v {l : List Pc} {s : ByteArray} (h : q3s l = s) (h0 : s.size ≠ 0) : ∃ x m, l = x :: m ∧ x.2 = s ∧ q3u s = true := by
 cases l with
 | nil => subst h; exact absurd rfl h0
 | cons x m =>
  by_cases hs : q3u x.2 = true
  · have e : q3s (x :: m) = x.2 := if_pos hs
    rw [e] at h
    exact ⟨x, m, rfl, h, h ▸ hs⟩
  · have e : q3s (x :: m) = ⟨#[]⟩ := if_neg hs
    rw [e] at h
    subst h; exact absurd rfl h0
end Go.Proofs.YtpmcfckechjppaaGreatDoor.Ps
