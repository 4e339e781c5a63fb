/- Made by a program of this seat's own (myprint.py, round the kit's print): what the functions compute, and that they do. -/
import Derived.Test.YtmbfnbnlajchmaaDoorAkP0
import Derived.Test.YtmbfnbnlajchmaaDoorAkP10
import Derived.Test.YtmbfnbnlajchmaaDoorAkP11
import Derived.Test.YtmbfnbnlajchmaaDoorAkTight
namespace Go.Proofs.YtmbfnbnlajchmaaDoor.P
open Go.RowKit Go.Proofs.YtmbfnbnlajchmaaDoorW.PrintWords Go.Proofs.YtmbfnbnlajchmaaDoorW.PrintLast Go.Proofs.YtmbfnbnlajchmaaDoorW.PrintMore
attribute [local go_sem] StrOrd.binOp_gtr StrOrd.binOp_leq max2_int min2_int max_two min_two max_three min_three max_four min_four   -- for this text's walks alone
set_option linter.unusedVariables false
set_option linter.unusedSimpArgs false

def alias_Key.j0 : Nat → Int → Int → Int → Bool → Option (ByteArray × Bool)
 | 0, _, _, _, _ => none
 | k + 1, x0, x8, x10, x32 => if x32 = true then (some ((⟨#[]⟩ : ByteArray), false)) else ((some (([(x0) % 256] : List Int) : List Int)).bind fun y601 => ((pack_Put.f k x8 8).bind fun t604 => (if (strOfNums y601).size + t604.size ≤ 9223372036854775807 then ((pack_Put.f k x10 8).bind fun t605 => (if ((strOfNums y601) ++ t604).size + t605.size ≤ 9223372036854775807 then (some (((strOfNums y601) ++ t604) ++ t605, true)) else (none))) else (none))))
def alias_Key.f (k : Nat) (a0 : Int) (a1 : ByteArray) (a2 : ByteArray) : Option (ByteArray × Bool) := (pack_Pack.f a1).bind fun bt596 => ((pack_Pack.f a2).bind fun bt598 => ((alias_rule.f a0).bind fun t600 => (if (AliasW.isNil t600) = true then (alias_Key.j0 k a0 bt596.1 bt598.1 true) else (if bt596.2 = true then (alias_Key.j0 k a0 bt596.1 bt598.1 (!bt598.2)) else (alias_Key.j0 k a0 bt596.1 bt598.1 true)))))
def alias_Key.T5 : Bool × List (List Nat × List Nat) := (true, [([], []), ([0], [0]), ([1], [1]), ([2], [2]), ([], []), ([4], [4]), ([3, 5], [3, 5]), ([], []), ([7, 5], [7]), ([6, 8], [6, 8]), ([9, 8, 0, 1, 2, 3, 4, 5, 6, 7, 8, 9], [9]), ([10, 0, 1, 2, 3, 4, 5, 6, 7, 8, 9, 10], [])])
def alias_Key.B5 : List Nat := [0, 1, 3, 7, 0, 16, 63, 0, 176, 511, 1023, 2047]
theorem alias_Key.tab5 : rtab .any (opsOf Tryd.f37 5) = alias_Key.T5 := by kernel_rfl
theorem alias_Key.bits5 : waitsOk alias_Key.T5.2 alias_Key.B5 = true := by kernel_rfl
set_option maxHeartbeats 8000000 in
set_option maxRecDepth 100000 in
theorem alias_Key.calls (k : Nat) (a0 : Int) (a1 : ByteArray) (a2 : ByteArray) (r1 : ByteArray) (r2 : Bool) (w : World) (h : alias_Key.f k a0 a1 a2 = some (r1, r2)) (hG : GrandW.G w) :
  Calls Tryd.prog 37 #[.int .i64 a0, .string a1, .string a2] w fun e w' => e = .returned (.tuple #[.string r1, .bool r2]) ∧ Below w.heap.size w w' := by
 have HG := ak hG
 clear hG
 have hfe := AliasW.rule_eql
 have hfn := AliasW.rule_neq
 have hfg := AliasW.rule_guard
 have HB := ak (Below.refl w.heap.size w)
 have H : ((pack_Pack.f a1).bind fun bt596 => ((pack_Pack.f a2).bind fun bt598 => ((alias_rule.f a0).bind fun t600 => (if (AliasW.isNil t600) = true then (alias_Key.j0 k a0 bt596.1 bt598.1 true) else (if bt596.2 = true then (alias_Key.j0 k a0 bt596.1 bt598.1 (!bt598.2)) else (alias_Key.j0 k a0 bt596.1 bt598.1 true)))))) = some (r1, r2) := h
 clear h
 replace H := Option.bind_eq_some_iff.mp H
 obtain ⟨⟨t596, t597⟩, A40, H⟩ := H
 replace H : ((pack_Pack.f a2).bind fun bt598 => ((alias_rule.f a0).bind fun t600 => (if (AliasW.isNil t600) = true then (alias_Key.j0 k a0 t596 bt598.1 true) else (if t597 = true then (alias_Key.j0 k a0 t596 bt598.1 (!bt598.2)) else (alias_Key.j0 k a0 t596 bt598.1 true))))) = some (r1, r2) := H
 have A4 := ak A40
 clear A40
 replace H := Option.bind_eq_some_iff.mp H
 obtain ⟨⟨t598, t599⟩, A50, H⟩ := H
 replace H : ((alias_rule.f a0).bind fun t600 => (if (AliasW.isNil t600) = true then (alias_Key.j0 k a0 t596 t598 true) else (if t597 = true then (alias_Key.j0 k a0 t596 t598 (!t599)) else (alias_Key.j0 k a0 t596 t598 true)))) = some (r1, r2) := H
 have A5 := ak A50
 clear A50
 have HC6 := ak H
 clear H
 go_enter Tryd.func37, Tryd.ntmps37
 go_upto_region 3 with (first | ((with_reducible refine gate_callee (f := 67) rfl ?_); refine goesL_ (some 14) rfl rfl Tryd.func67 (by kernel_rfl) rfl #[.string a1] rfl mq ?_; (with_reducible refine (pack_Pack.calls a1 t596 t597 _ A4.out).mono ?_); rintro e w7 ⟨rfl, hb⟩; refine ⟨_, rfl, ?_⟩; have n0_ := ak (below_step bq hb); clear HB; have HB := n0_; clear n0_; (try clear hb); (try clear hb2); (try clear hk); (try clear hi); (try clear A4)) | ((with_reducible refine gate_callee (f := 67) rfl ?_); refine goesL_ (some 19) rfl rfl Tryd.func67 (by kernel_rfl) rfl #[.string a2] rfl mq ?_; (with_reducible refine (pack_Pack.calls a2 t598 t599 _ A5.out).mono ?_); rintro e w8 ⟨rfl, hb⟩; refine ⟨_, rfl, ?_⟩; have n0_ := ak (below_step bq hb); clear HB; have HB := n0_; clear n0_; (try clear hb); (try clear hb2); (try clear hk); (try clear hi); (try clear A5)))
 (try simp only [Act.put, pA, pB, pC])
 go_cut [32] (fun v32 wc => ∃ (kq : Nat) (x32_5 : Bool), v32 = .bool x32_5 ∧ Aside0 (alias_Key.j0 kq a0 t596 t598 x32_5 = some (r1, r2)) ∧ Aside0 (kq ≤ k) ∧ Aside0 (Below w.heap.size w wc))
 case first =>
  have H := HC6.out
  clear HC6
  replace H := Option.bind_eq_some_iff.mp H
  obtain ⟨t600, A90, H⟩ := H
  have A9 := ak A90
  clear A90
  by_cases c10 : (AliasW.isNil t600) = true
  ·
   rw [if_pos c10] at H
   have c10b0 : (AliasW.isNil t600) = true := c10
   clear c10
   (first | rw [c10b0] | (simp only [i64_w, i32_w]; rw [c10b0]) | rw [c10b2] | skip)
   have H' := ak H
   clear H
   go_wp2_with (first | ((with_reducible refine gate_callee (f := 66) rfl ?_); refine goesL_ (some 23) rfl rfl Tryd.func66 (by kernel_rfl) rfl #[.int .i64 a0] rfl mq ?_; (with_reducible refine (alias_rule.calls a0 t600 _ A9.out HG.out.on).mono ?_); rintro e w11 ⟨rfl, hb⟩; refine ⟨_, rfl, ?_⟩; have n0_ := ak (below_step bq hb); clear HB; have HB := n0_; clear n0_; (try clear hb); (try clear hb2); (try clear hk); (try clear hi); (try clear A9)))
   go_meet
   case rel => exact ⟨_, (true), (by first | rfl | (simp; done) | (simp [*]; done)), H', ⟨by first | omega | exact Nat.le_refl _⟩, ⟨bq⟩⟩
  ·
   rw [if_neg c10] at H
   have c10b0 : (AliasW.isNil t600) = false := by simpa using c10
   clear c10
   (first | rw [c10b0] | (simp only [i64_w, i32_w]; rw [c10b0]) | rw [c10b2] | skip)
   by_cases c12 : t597 = true
   ·
    subst c12
    have H1 : (alias_Key.j0 k a0 t596 t598 (!t599)) = some (r1, r2) := by rw [if_pos rfl] at H; exact H
    clear H
    have H := H1
    clear H1
    have H' := ak H
    clear H
    go_wp2_with (first | ((with_reducible refine gate_callee (f := 66) rfl ?_); refine goesL_ (some 23) rfl rfl Tryd.func66 (by kernel_rfl) rfl #[.int .i64 a0] rfl mq ?_; (with_reducible refine (alias_rule.calls a0 t600 _ A9.out HG.out.on).mono ?_); rintro e w13 ⟨rfl, hb⟩; refine ⟨_, rfl, ?_⟩; have n0_ := ak (below_step bq hb); clear HB; have HB := n0_; clear n0_; (try clear hb); (try clear hb2); (try clear hk); (try clear hi); (try clear A9)))
    go_meet
    case rel => exact ⟨_, (!t599), (by first | rfl | (simp; done) | (simp [*]; done)), H', ⟨by first | omega | exact Nat.le_refl _⟩, ⟨bq⟩⟩
   ·
    replace c12 := Bool.eq_false_iff.mpr c12
    subst c12
    have H1 : (alias_Key.j0 k a0 t596 t598 true) = some (r1, r2) := by rw [if_neg (show ¬ (false = true) by decide)] at H; exact H
    clear H
    have H := H1
    clear H1
    have H' := ak H
    clear H
    go_wp2_with (first | ((with_reducible refine gate_callee (f := 66) rfl ?_); refine goesL_ (some 23) rfl rfl Tryd.func66 (by kernel_rfl) rfl #[.int .i64 a0] rfl mq ?_; (with_reducible refine (alias_rule.calls a0 t600 _ A9.out HG.out.on).mono ?_); rintro e w14 ⟨rfl, hb⟩; refine ⟨_, rfl, ?_⟩; have n0_ := ak (below_step bq hb); clear HB; have HB := n0_; clear n0_; (try clear hb); (try clear hb2); (try clear hk); (try clear hi); (try clear A9)))
    go_meet
    case rel => exact ⟨_, (true), (by first | rfl | (simp; done) | (simp [*]; done)), H', ⟨by first | omega | exact Nat.le_refl _⟩, ⟨bq⟩⟩
 case rest =>
  clear HC6
  try clear c1
  try clear p2
  try clear c3
  try clear c6
  try clear c10
  try clear c10b0
  try clear c12
  obtain ⟨kq, x32_5, rfl, HA, HJ5, HB⟩ := hcut
  cases kq with
  | zero => exact absurd HA.out (by simp [alias_Key.j0])
  | succ kj5 =>
   have H := HA.out
   clear HA
   simp only [alias_Key.j0] at H
   by_cases c15 : x32_5 = true
   ·
    subst c15
    have H1 : (some ((⟨#[]⟩ : ByteArray), false)) = some (r1, r2) := by rw [if_pos rfl] at H; exact H
    clear H
    have H := H1
    clear H1
    simp only [Option.some.injEq, Prod.mk.injEq] at H
    obtain ⟨rfl, rfl⟩ := H
    go_wp2
    go_ret2
    exact ⟨by first | rfl | (simp [errW_none, errW_some] <;> rfl) | (simp [*, errW_none, errW_some] <;> rfl), bq⟩
   ·
    replace c15 := Bool.eq_false_iff.mpr c15
    subst c15
    have H1 : ((some (([(a0) % 256] : List Int) : List Int)).bind fun y601 => ((pack_Put.f kj5 t596 8).bind fun t604 => (if (strOfNums y601).size + t604.size ≤ 9223372036854775807 then ((pack_Put.f kj5 t598 8).bind fun t605 => (if ((strOfNums y601) ++ t604).size + t605.size ≤ 9223372036854775807 then (some (((strOfNums y601) ++ t604) ++ t605, true)) else (none))) else (none)))) = some (r1, r2) := by rw [if_neg (show ¬ (false = true) by decide)] at H; exact H
    clear H
    have H := H1
    clear H1
    obtain ⟨y601, hy601⟩ : ∃ y_ : List Int, y_ = (([(a0) % 256] : List Int)) := ⟨_, rfl⟩
    replace H : ((pack_Put.f kj5 t596 8).bind fun t604 => (if (strOfNums y601).size + t604.size ≤ 9223372036854775807 then ((pack_Put.f kj5 t598 8).bind fun t605 => (if ((strOfNums y601) ++ t604).size + t605.size ≤ 9223372036854775807 then (some (((strOfNums y601) ++ t604) ++ t605, true)) else (none))) else (none))) = some (r1, r2) := by first | (rw [hy601]; with_reducible exact H) | (have H2_ := (Option.bind_some _ _).symm.trans H; rw [hy601]; with_reducible exact H2_) | (have H2_ := (Option.bind_some _ _).symm.trans H; with_reducible exact H2_) | with_reducible exact H | (rw [hy601]; exact H) | exact H
    have Ny601 := ak hy601
    clear hy601
    replace H := Option.bind_eq_some_iff.mp H
    obtain ⟨t604, A160, H⟩ := H
    have A16 := ak A160
    clear A160
    by_cases c17 : (strOfNums y601).size + t604.size ≤ 9223372036854775807
    ·
     rw [if_pos c17] at H
     have c17b0 := eq_true c17
     have c17b1 : decide ((strOfNums y601).size + t604.size ≤ 9223372036854775807) = true := decide_eq_true c17
     try have c17b2 : (9223372036854775807 < (strOfNums y601).size + t604.size) = False := eq_false (Nat.not_lt.2 c17)
     replace H := Option.bind_eq_some_iff.mp H
     obtain ⟨t605, A180, H⟩ := H
     have A18 := ak A180
     clear A180
     by_cases c19 : ((strOfNums y601) ++ t604).size + t605.size ≤ 9223372036854775807
     ·
      rw [if_pos c19] at H
      have c19b0 := eq_true c19
      have c19b1 : decide (((strOfNums y601) ++ t604).size + t605.size ≤ 9223372036854775807) = true := decide_eq_true c19
      try have c19b2 : (9223372036854775807 < ((strOfNums y601) ++ t604).size + t605.size) = False := eq_false (Nat.not_lt.2 c19)
      try have c19b6 : (9223372036854775807 < (strOfNums y601).size + t604.size + t605.size) = False := eq_false (by have z := c19; rw [ByteArray.size_append] at z; omega)
      simp only [Option.some.injEq, Prod.mk.injEq] at H
      obtain ⟨rfl, rfl⟩ := H
      try go_wp2
      have n0_ := ak (below_drew1 HB.out)
      clear HB
      have HB := n0_
      clear n0_
      refine start_ (n := 12) (S := fun w' => True) (ds := []) #[false, false, false, false, false, false, false, false, false, false, false, false] (by kernel_rfl) rfl rfl trivial (fun hHeld => ?_); refine with_tabW alias_Key.tab5 alias_Key.bits5 (fun HT_ HW_ => ?_)
      generalize wc.drew = w20 at HB hHeld ⊢
      refine pu 0 (some 33) (M 12 1) ?_
      refine pu 1 (some 34) (M 12 3) ?_
      refine pu 4 (some 37) (M 12 19) ?_
      refine pu 7 (some 40) (M 12 147) ?_
      refine join_ (σ := Value) 3 (M 12 511) (fun s_ => [(35, s_), (36, .string (strOfNums y601)), (38, .string t604), (41, .string t605), (39, .string ((strOfNums y601) ++ t604))]) (fun s_ w' => (Kd.R (Kd.int .u8) 5 w' w.heap.size (fun _ => True) s_ y601) ∧ (Below w.heap.size w w')) ?_ ?_
      rotate_left
      ·
       intro hJ2_3_5_8
       refine join_ (σ := Value) 4 (M 12 255) (fun s_ => [(35, s_), (36, .string (strOfNums y601)), (38, .string t604), (39, .string ((strOfNums y601) ++ t604))]) (fun s_ w' => (Kd.R (Kd.int .u8) 5 w' w.heap.size (fun _ => True) s_ y601) ∧ (Below w.heap.size w w')) ?_ ?_
       rotate_left
       ·
        intro hJ2_3_5
        refine join_ (σ := Value) 5 (M 12 439) (fun s_ => [(35, s_), (38, .string t604), (41, .string t605)]) (fun s_ w' => (Kd.R (Kd.int .u8) 5 w' w.heap.size (fun _ => True) s_ y601) ∧ (Below w.heap.size w w')) ?_ ?_
        rotate_left
        ·
         intro hJ2_5_8
         refine join_ (σ := Value) 6 (M 12 159) (fun s_ => [(35, s_), (36, .string (strOfNums y601))]) (fun s_ w' => (Kd.R (Kd.int .u8) 5 w' w.heap.size (fun _ => True) s_ y601) ∧ (Below w.heap.size w w')) ?_ ?_
         rotate_left
         ·
          intro hJ2_3
          refine join_ (σ := Value) 6 (M 12 183) (fun s_ => [(35, s_), (38, .string t604)]) (fun s_ w' => (Kd.R (Kd.int .u8) 5 w' w.heap.size (fun _ => True) s_ y601) ∧ (Below w.heap.size w w')) ?_ ?_
          rotate_left
          ·
           intro hJ2_5
           refine join_ (σ := Unit) 6 (M 12 435) (fun s_ => [(38, .string t604), (41, .string t605)]) (fun s_ w' => (Below w.heap.size w w')) ?_ ?_
           rotate_left
           ·
            intro hJ5_8
            refine join_ (σ := Value) 7 (M 12 151) (fun s_ => [(35, s_)]) (fun s_ w' => (Kd.R (Kd.int .u8) 5 w' w.heap.size (fun _ => True) s_ y601) ∧ (Below w.heap.size w w')) ?_ ?_
            rotate_left
            ·
             intro hJ2
             refine join_ (σ := Unit) 7 (M 12 179) (fun s_ => [(38, .string t604)]) (fun s_ w' => (Below w.heap.size w w')) ?_ ?_
             rotate_left
             ·
              intro hJ5
              refine two_ (i := 2) (j := 5) (Ni := some 35) (Nj := some 38) (M 12 151) (M 12 179) rfl rfl rfl rfl (two_of HT_.out (by kernel_rfl)) (by decide) (by decide) (fun K hK => ?_) (fun K hK => ?_)
              ·
               skip
               refine Kd.R_lit_step (Kd.int .u8) _ 5 ?hg (N := 35) ?hd (xs := ([(a0) % 256] : List Int)) (inner := [.int .u8 ((a0) % 256)]) (ok := fun _ => True) (okp := fun _ => True) ?hr ?hp (fun _ hk => hk) trivial (Below.refl _ _) (Nat.le_refl _) (by simp) ?_; (case hd => rfl); (case hg => rfl); (case hr => first | (go_simp; done) | (go_simp; rfl)); (case hp => exact (Reps.one (show Kd.M (Kd.int .u8) _ _ _ ((a0) % 256) [.int .u8 ((a0) % 256)] from rfl) (Reps.none _ _)))
               intro v602 w21 ho22 hb hg_ hnew_
               clear hg_ hnew_
               (first | rw [← Ny601.out] at ho22 | (simp only [Int.reduceToNat] at ho22; rw [← Ny601.out] at ho22))
               have n0_ := ak (Kd.R_lower ho22 (below_size bq))
               have n1_ := ak (below_step bq hb)
               clear HB
               have HO603 := n0_
               have HB := n1_
               clear n0_ n1_
               clear hb ho22
               refine hK.out _ _ trivial (fun hHeld => ?_)
               clear hK K
               refine norm_ (a' := ?_) ?_ ?_
               rotate_left
               ·
                show Act.put _ (some 35) _ = _
                simp only [Act.put, pA, pB, pC, i64_w, i32_w]
                rfl
               exact norm_ (by first | (simp only [putAll, Act.put, pA, pB, pC]; done) | (simp only [putAll, Act.put, pA, pB, pC]; rfl)) (hJ2 (v602) _ ⟨(rx HO603.out), bq⟩)
              ·
               skip
               refine goes_ Tryd.func68 (by kernel_rfl) rfl #[.int .u64 t596, .int .i64 8] (by rfl) rfl rfl mq ?_
               with_reducible refine (pack_Put.calls kj5 t596 8 t604 _ A16.out).mono ?_
               rintro e w21 ⟨rfl, hb⟩
               refine ⟨_, rfl, ?_⟩
               have n0_ := ak (below_step bq hb)
               clear HB
               have HB := n0_
               clear n0_
               (try clear hb)
               (try clear hb2)
               (try clear hk)
               (try clear hi)
               refine hK.out _ _ trivial (fun hHeld => ?_)
               clear hK K
               refine norm_ (a' := ?_) ?_ ?_
               rotate_left
               ·
                show Act.put _ (some 38) _ = _
                simp only [Act.put, pA, pB, pC, i64_w, i32_w]
                rfl
               exact norm_ (by first | (simp only [putAll, Act.put, pA, pB, pC]; done) | (simp only [putAll, Act.put, pA, pB, pC]; rfl)) (hJ5 () _ bq)
             ·
              skip
              rintro _ w22 h0_
              have n0_ : Aside0 (Below w.heap.size w w22) := ⟨h0_⟩
              clear HB
              clear h0_
              have HB := n0_
              clear n0_
              have hHeld := trivial
              refine norm_ (a' := ?_) ?_ ?_
              rotate_left
              ·
               simp only [putAll, Act.put, pA, pB, pC]
               rfl
              refine two_ (i := 2) (j := 8) (Ni := some 35) (Nj := some 41) (M 12 183) (M 12 435) rfl rfl rfl rfl (two_of HT_.out (by kernel_rfl)) (by decide) (by decide) (fun K hK => ?_) (fun K hK => ?_)
              ·
               skip
               refine Kd.R_lit_step (Kd.int .u8) _ 5 ?hg (N := 35) ?hd (xs := ([(a0) % 256] : List Int)) (inner := [.int .u8 ((a0) % 256)]) (ok := fun _ => True) (okp := fun _ => True) ?hr ?hp (fun _ hk => hk) trivial (Below.refl _ _) (Nat.le_refl _) (by simp) ?_; (case hd => rfl); (case hg => rfl); (case hr => first | (go_simp; done) | (go_simp; rfl)); (case hp => exact (Reps.one (show Kd.M (Kd.int .u8) _ _ _ ((a0) % 256) [.int .u8 ((a0) % 256)] from rfl) (Reps.none _ _)))
               intro v602 w23 ho24 hb hg_ hnew_
               clear hg_ hnew_
               (first | rw [← Ny601.out] at ho24 | (simp only [Int.reduceToNat] at ho24; rw [← Ny601.out] at ho24))
               have n0_ := ak (Kd.R_lower ho24 (below_size bq))
               have n1_ := ak (below_step bq hb)
               clear HB
               have HO603 := n0_
               have HB := n1_
               clear n0_ n1_
               clear hb ho24
               refine hK.out _ _ trivial (fun hHeld => ?_)
               clear hK K
               refine norm_ (a' := ?_) ?_ ?_
               rotate_left
               ·
                show Act.put _ (some 35) _ = _
                simp only [Act.put, pA, pB, pC, i64_w, i32_w]
                rfl
               exact norm_ (by first | (simp only [putAll, Act.put, pA, pB, pC]; done) | (simp only [putAll, Act.put, pA, pB, pC]; rfl)) (hJ2_5 (v602) _ ⟨(rx HO603.out), bq⟩)
              ·
               skip
               refine goes_ Tryd.func68 (by kernel_rfl) rfl #[.int .u64 t598, .int .i64 8] (by rfl) rfl rfl mq ?_
               with_reducible refine (pack_Put.calls kj5 t598 8 t605 _ A18.out).mono ?_
               rintro e w23 ⟨rfl, hb⟩
               refine ⟨_, rfl, ?_⟩
               have n0_ := ak (below_step bq hb)
               clear HB
               have HB := n0_
               clear n0_
               (try clear hb)
               (try clear hb2)
               (try clear hk)
               (try clear hi)
               refine hK.out _ _ trivial (fun hHeld => ?_)
               clear hK K
               refine norm_ (a' := ?_) ?_ ?_
               rotate_left
               ·
                show Act.put _ (some 41) _ = _
                simp only [Act.put, pA, pB, pC, i64_w, i32_w]
                rfl
               exact norm_ (by first | (simp only [putAll, Act.put, pA, pB, pC]; done) | (simp only [putAll, Act.put, pA, pB, pC]; rfl)) (hJ5_8 () _ bq)
            ·
             skip
             rintro v602 w23 ⟨h0_, h1_⟩
             have n0_ : Aside0 (Kd.R (Kd.int .u8) 5 w23 w.heap.size (fun _ => True) v602 y601) := ⟨h0_⟩
             have n1_ : Aside0 (Below w.heap.size w w23) := ⟨h1_⟩
             clear HB
             clear h0_ h1_
             have HO603 := n0_
             have HB := n1_
             clear n0_ n1_
             have hHeld := trivial
             refine norm_ (a' := ?_) ?_ ?_
             rotate_left
             ·
              simp only [putAll, Act.put, pA, pB, pC]
              rfl
             refine two_ (i := 3) (j := 5) (Ni := some 36) (Nj := some 38) (M 12 159) (M 12 183) rfl rfl rfl rfl (two_of HT_.out (by kernel_rfl)) (by decide) (by decide) (fun K hK => ?_) (fun K hK => ?_)
             ·
              skip
              have hcv24 := own_string (P := Tryd.prog) Tryd.underlying28 Tryd.underlying5 Tryd.underlying9 (Kd.own_of_R HO603.out)
              refine value_ (w1 := ?_) (v := ?_) (by rfl) rfl ?_ ?_
              rotate_left 2
              ·
               go_simp
               constructor
               ·
                rfl
               ·
                rfl
              clear hcv24
              refine hK.out _ _ trivial (fun hHeld => ?_)
              clear hK K
              refine norm_ (a' := ?_) ?_ ?_
              rotate_left
              ·
               show Act.put _ (some 36) _ = _
               simp only [Act.put, pA, pB, pC, i64_w, i32_w]
               rfl
              exact norm_ (by first | (simp only [putAll, Act.put, pA, pB, pC]; done) | (simp only [putAll, Act.put, pA, pB, pC]; rfl)) (hJ2_3 (v602) _ ⟨(rx HO603.out), bq⟩)
             ·
              skip
              refine goes_ Tryd.func68 (by kernel_rfl) rfl #[.int .u64 t596, .int .i64 8] (by rfl) rfl rfl mq ?_
              with_reducible refine (pack_Put.calls kj5 t596 8 t604 _ A16.out).mono ?_
              rintro e w24 ⟨rfl, hb⟩
              refine ⟨_, rfl, ?_⟩
              have n0_ := ak (Kd.R_below (rx HO603.out) hb)
              have n1_ := ak (below_step bq hb)
              clear HO603
              clear HB
              have HO603 := n0_
              have HB := n1_
              clear n0_ n1_
              (try clear hb)
              (try clear hb2)
              (try clear hk)
              (try clear hi)
              refine hK.out _ _ trivial (fun hHeld => ?_)
              clear hK K
              refine norm_ (a' := ?_) ?_ ?_
              rotate_left
              ·
               show Act.put _ (some 38) _ = _
               simp only [Act.put, pA, pB, pC, i64_w, i32_w]
               rfl
              exact norm_ (by first | (simp only [putAll, Act.put, pA, pB, pC]; done) | (simp only [putAll, Act.put, pA, pB, pC]; rfl)) (hJ2_5 (v602) _ ⟨(rx HO603.out), bq⟩)
           ·
            skip
            rintro _ w23 h0_
            have n0_ : Aside0 (Below w.heap.size w w23) := ⟨h0_⟩
            clear HB
            clear h0_
            have HB := n0_
            clear n0_
            have hHeld := trivial
            refine norm_ (a' := ?_) ?_ ?_
            rotate_left
            ·
             simp only [putAll, Act.put, pA, pB, pC]
             rfl
            refine one_ (i := 2) (N := some 35) (M 12 439) rfl rfl (one_of HT_.out (by kernel_rfl)) (by decide) (fun K hK => ?_)
            refine Kd.R_lit_step (Kd.int .u8) _ 5 ?hg (N := 35) ?hd (xs := ([(a0) % 256] : List Int)) (inner := [.int .u8 ((a0) % 256)]) (ok := fun _ => True) (okp := fun _ => True) ?hr ?hp (fun _ hk => hk) trivial (Below.refl _ _) (Nat.le_refl _) (by simp) ?_; (case hd => rfl); (case hg => rfl); (case hr => first | (go_simp; done) | (go_simp; rfl)); (case hp => exact (Reps.one (show Kd.M (Kd.int .u8) _ _ _ ((a0) % 256) [.int .u8 ((a0) % 256)] from rfl) (Reps.none _ _)))
            intro v602 w24 ho25 hb hg_ hnew_
            clear hg_ hnew_
            (first | rw [← Ny601.out] at ho25 | (simp only [Int.reduceToNat] at ho25; rw [← Ny601.out] at ho25))
            have n0_ := ak (Kd.R_lower ho25 (below_size bq))
            have n1_ := ak (below_step bq hb)
            clear HB
            have HO603 := n0_
            have HB := n1_
            clear n0_ n1_
            clear hb ho25
            refine hK.out _ _ trivial (fun hHeld => ?_)
            clear hK K
            refine norm_ (a' := ?_) ?_ ?_
            rotate_left
            ·
             show Act.put _ (some 35) _ = _
             simp only [Act.put, pA, pB, pC, i64_w, i32_w]
             rfl
            exact norm_ (by first | (simp only [putAll, Act.put, pA, pB, pC]; done) | (simp only [putAll, Act.put, pA, pB, pC]; rfl)) (hJ2_5_8 (v602) _ ⟨(rx HO603.out), bq⟩)
          ·
           skip
           rintro v602 w24 ⟨h0_, h1_⟩
           have n0_ : Aside0 (Kd.R (Kd.int .u8) 5 w24 w.heap.size (fun _ => True) v602 y601) := ⟨h0_⟩
           have n1_ : Aside0 (Below w.heap.size w w24) := ⟨h1_⟩
           clear HB
           clear h0_ h1_
           have HO603 := n0_
           have HB := n1_
           clear n0_ n1_
           have hHeld := trivial
           refine norm_ (a' := ?_) ?_ ?_
           rotate_left
           ·
            simp only [putAll, Act.put, pA, pB, pC]
            rfl
           refine two_ (i := 3) (j := 8) (Ni := some 36) (Nj := some 41) (M 12 191) (M 12 439) rfl rfl rfl rfl (two_of HT_.out (by kernel_rfl)) (by decide) (by decide) (fun K hK => ?_) (fun K hK => ?_)
           ·
            skip
            have hcv25 := own_string (P := Tryd.prog) Tryd.underlying28 Tryd.underlying5 Tryd.underlying9 (Kd.own_of_R HO603.out)
            refine value_ (w1 := ?_) (v := ?_) (by rfl) rfl ?_ ?_
            rotate_left 2
            ·
             go_simp
             constructor
             ·
              rfl
             ·
              rfl
            clear hcv25
            refine hK.out _ _ trivial (fun hHeld => ?_)
            clear hK K
            refine norm_ (a' := ?_) ?_ ?_
            rotate_left
            ·
             show Act.put _ (some 36) _ = _
             simp only [Act.put, pA, pB, pC, i64_w, i32_w]
             rfl
            refine pu 6 (some 39) (M 12 255) ?_
            exact norm_ (by first | (simp only [putAll, Act.put, pA, pB, pC]; done) | (simp only [putAll, Act.put, pA, pB, pC]; rfl)) (hJ2_3_5 (v602) _ ⟨(rx HO603.out), bq⟩)
           ·
            skip
            refine goes_ Tryd.func68 (by kernel_rfl) rfl #[.int .u64 t598, .int .i64 8] (by rfl) rfl rfl mq ?_
            with_reducible refine (pack_Put.calls kj5 t598 8 t605 _ A18.out).mono ?_
            rintro e w25 ⟨rfl, hb⟩
            refine ⟨_, rfl, ?_⟩
            have n0_ := ak (Kd.R_below (rx HO603.out) hb)
            have n1_ := ak (below_step bq hb)
            clear HO603
            clear HB
            have HO603 := n0_
            have HB := n1_
            clear n0_ n1_
            (try clear hb)
            (try clear hb2)
            (try clear hk)
            (try clear hi)
            refine hK.out _ _ trivial (fun hHeld => ?_)
            clear hK K
            refine norm_ (a' := ?_) ?_ ?_
            rotate_left
            ·
             show Act.put _ (some 41) _ = _
             simp only [Act.put, pA, pB, pC, i64_w, i32_w]
             rfl
            exact norm_ (by first | (simp only [putAll, Act.put, pA, pB, pC]; done) | (simp only [putAll, Act.put, pA, pB, pC]; rfl)) (hJ2_5_8 (v602) _ ⟨(rx HO603.out), bq⟩)
         ·
          skip
          rintro v602 w24 ⟨h0_, h1_⟩
          have n0_ : Aside0 (Kd.R (Kd.int .u8) 5 w24 w.heap.size (fun _ => True) v602 y601) := ⟨h0_⟩
          have n1_ : Aside0 (Below w.heap.size w w24) := ⟨h1_⟩
          clear HB
          clear h0_ h1_
          have HO603 := n0_
          have HB := n1_
          clear n0_ n1_
          have hHeld := trivial
          refine norm_ (a' := ?_) ?_ ?_
          rotate_left
          ·
           simp only [putAll, Act.put, pA, pB, pC]
           rfl
          refine one_ (i := 5) (N := some 38) (M 12 191) rfl rfl (one_of HT_.out (by kernel_rfl)) (by decide) (fun K hK => ?_)
          refine goes_ Tryd.func68 (by kernel_rfl) rfl #[.int .u64 t596, .int .i64 8] (by rfl) rfl rfl mq ?_
          with_reducible refine (pack_Put.calls kj5 t596 8 t604 _ A16.out).mono ?_
          rintro e w25 ⟨rfl, hb⟩
          refine ⟨_, rfl, ?_⟩
          have n0_ := ak (Kd.R_below (rx HO603.out) hb)
          have n1_ := ak (below_step bq hb)
          clear HO603
          clear HB
          have HO603 := n0_
          have HB := n1_
          clear n0_ n1_
          (try clear hb)
          (try clear hb2)
          (try clear hk)
          (try clear hi)
          refine hK.out _ _ trivial (fun hHeld => ?_)
          clear hK K
          refine norm_ (a' := ?_) ?_ ?_
          rotate_left
          ·
           show Act.put _ (some 38) _ = _
           simp only [Act.put, pA, pB, pC, i64_w, i32_w]
           rfl
          refine pu 6 (some 39) (M 12 255) ?_
          exact norm_ (by first | (simp only [putAll, Act.put, pA, pB, pC]; done) | (simp only [putAll, Act.put, pA, pB, pC]; rfl)) (hJ2_3_5 (v602) _ ⟨(rx HO603.out), bq⟩)
        ·
         skip
         rintro v602 w25 ⟨h0_, h1_⟩
         have n0_ : Aside0 (Kd.R (Kd.int .u8) 5 w25 w.heap.size (fun _ => True) v602 y601) := ⟨h0_⟩
         have n1_ : Aside0 (Below w.heap.size w w25) := ⟨h1_⟩
         clear HB
         clear h0_ h1_
         have HO603 := n0_
         have HB := n1_
         clear n0_ n1_
         have hHeld := trivial
         refine norm_ (a' := ?_) ?_ ?_
         rotate_left
         ·
          simp only [putAll, Act.put, pA, pB, pC]
          rfl
         refine one_ (i := 3) (N := some 36) (M 12 447) rfl rfl (one_of HT_.out (by kernel_rfl)) (by decide) (fun K hK => ?_)
         have hcv26 := own_string (P := Tryd.prog) Tryd.underlying28 Tryd.underlying5 Tryd.underlying9 (Kd.own_of_R HO603.out)
         refine value_ (w1 := ?_) (v := ?_) (by rfl) rfl ?_ ?_
         rotate_left 2
         ·
          go_simp
          constructor
          ·
           rfl
          ·
           rfl
         clear hcv26
         refine hK.out _ _ trivial (fun hHeld => ?_)
         clear hK K
         refine norm_ (a' := ?_) ?_ ?_
         rotate_left
         ·
          show Act.put _ (some 36) _ = _
          simp only [Act.put, pA, pB, pC, i64_w, i32_w]
          rfl
         refine pu 6 (some 39) (M 12 511) ?_
         exact norm_ (by first | (simp only [putAll, Act.put, pA, pB, pC]; done) | (simp only [putAll, Act.put, pA, pB, pC]; rfl)) (hJ2_3_5_8 (v602) _ ⟨(rx HO603.out), bq⟩)
       ·
        skip
        rintro v602 w25 ⟨h0_, h1_⟩
        have n0_ : Aside0 (Kd.R (Kd.int .u8) 5 w25 w.heap.size (fun _ => True) v602 y601) := ⟨h0_⟩
        have n1_ : Aside0 (Below w.heap.size w w25) := ⟨h1_⟩
        clear HB
        clear h0_ h1_
        have HO603 := n0_
        have HB := n1_
        clear n0_ n1_
        have hHeld := trivial
        refine norm_ (a' := ?_) ?_ ?_
        rotate_left
        ·
         simp only [putAll, Act.put, pA, pB, pC]
         rfl
        refine one_ (i := 8) (N := some 41) (M 12 511) rfl rfl (one_of HT_.out (by kernel_rfl)) (by decide) (fun K hK => ?_)
        refine goes_ Tryd.func68 (by kernel_rfl) rfl #[.int .u64 t598, .int .i64 8] (by rfl) rfl rfl mq ?_
        with_reducible refine (pack_Put.calls kj5 t598 8 t605 _ A18.out).mono ?_
        rintro e w26 ⟨rfl, hb⟩
        refine ⟨_, rfl, ?_⟩
        have n0_ := ak (Kd.R_below (rx HO603.out) hb)
        have n1_ := ak (below_step bq hb)
        clear HO603
        clear HB
        have HO603 := n0_
        have HB := n1_
        clear n0_ n1_
        (try clear hb)
        (try clear hb2)
        (try clear hk)
        (try clear hi)
        refine hK.out _ _ trivial (fun hHeld => ?_)
        clear hK K
        refine norm_ (a' := ?_) ?_ ?_
        rotate_left
        ·
         show Act.put _ (some 41) _ = _
         simp only [Act.put, pA, pB, pC, i64_w, i32_w]
         rfl
        exact norm_ (by first | (simp only [putAll, Act.put, pA, pB, pC]; done) | (simp only [putAll, Act.put, pA, pB, pC]; rfl)) (hJ2_3_5_8 (v602) _ ⟨(rx HO603.out), bq⟩)
      rintro v602 w26 ⟨h0_, h1_⟩
      have n0_ : Aside0 (Kd.R (Kd.int .u8) 5 w26 w.heap.size (fun _ => True) v602 y601) := ⟨h0_⟩
      have n1_ : Aside0 (Below w.heap.size w w26) := ⟨h1_⟩
      clear HB
      clear h0_ h1_
      have HO603 := n0_
      have HB := n1_
      clear n0_ n1_
      have hHeld := trivial
      refine norm_ (a' := ?_) ?_ ?_
      rotate_left
      ·
       simp only [putAll, Act.put, pA, pB, pC]
       rfl
      refine pu 9 (some 42) (M 12 1023) ?_
      refine pu 10 (some 6) (M 12 2047) ?_
      refine pu 11 (some 7) (M 12 4095) ?_
      refine done_ (done_of HT_.out (by kernel_rfl)) ?_
      try go_wp2
      go_ret2
      exact ⟨by first | rfl | (simp [errW_none, errW_some] <;> rfl) | (simp [*, errW_none, errW_some] <;> rfl), bq⟩
     ·
      rw [if_neg c19] at H
      exact absurd H (by simp)
    ·
     rw [if_neg c17] at H
     exact absurd H (by simp)

end Go.Proofs.YtmbfnbnlajchmaaDoor.P
