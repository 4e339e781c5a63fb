/- Made by a program of this seat's own (shake.py, merge.py): what the claim leans on: MatX, MatB, Through. -/
import Derived.Test.YtpmcfckechjppaaGreatDoorTa15
namespace Go.Proofs.YtpmcfckechjppaaGreatDoor.P
open Go.RowKit Go.Proofs.YtpmcfckechjppaaGreatDoorW.PrintWords Go.Proofs.YtpmcfckechjppaaGreatDoorW.PrintLast Go.Proofs.YtpmcfckechjppaaGreatDoorW.PrintMore
attribute [local go_sem] StrOrd.binOp_gtr StrOrd.binOp_leq max2_int min2_int max_two min_two max_three min_three max_four min_four   -- for this text's walks alone
set_option linter.unusedVariables false
set_option linter.unusedSimpArgs false
set_option maxRecDepth 100000
set_option maxHeartbeats 8000000
mutual
def filter_MatchesExtended.j0 : Nat → List ByteArray → List ByteArray → Bool → Option (Bool)
 | 0, _, _, _ => none
 | k + 1, x5, x6, x29 => if x29 = true then (some false) else (if 1 ≤ (x5.length : Int) then (if 1 ≤ (x6.length : Int) then (filter_MatchesExtended.l0 k (x5.drop (1 : Int).toNat) (x6.drop (1 : Int).toNat)) else (none)) else (none))
def filter_MatchesExtended.l0 : Nat → List ByteArray → List ByteArray → Option (Bool)
 | 0, _, _ => none
 | k + 1, x5, x6 => if (x5.length : Int) > 0 then (if 0 < (x5.length : Int) then (if (rdOf ByteArray.empty x5 0).toList = ([42] : List UInt8) then (if 1 ≤ (x5.length : Int) then (filter_MatchesExtended.l0 k (x5.drop (1 : Int).toNat) x6) else (none)) else (if (x6.length : Int) = 0 then (some false) else (if 0 < (x6.length : Int) then ((ascii_Same.f k (rdOf ByteArray.empty x5 0) (rdOf ByteArray.empty x6 0)).bind fun t129 => (if t129 = true then (if 1 ≤ (x5.length : Int) then (if 1 ≤ (x6.length : Int) then (filter_MatchesExtended.l0 k (x5.drop (1 : Int).toNat) (x6.drop (1 : Int).toNat)) else (none)) else (none)) else (if ((rdOf ByteArray.empty x6 0).size : Int) = 1 then (some false) else (if 1 ≤ (x6.length : Int) then (filter_MatchesExtended.l0 k x5 (x6.drop (1 : Int).toNat)) else (none))))) else (none)))) else (none)) else (some true)
end
def filter_MatchesExtended.f (k : Nat) (a0 : ByteArray) (a1 : ByteArray) : Option (Bool) := (split_Split.f a0).bind fun t106 => ((split_Split.f a1).bind fun t109 => ((filter_Extended.f a0).bind fun t112 => (if t112 = true then (if 0 < (t106.length : Int) then (if (rdOf ByteArray.empty t106 0).toList = ([42] : List UInt8) then (filter_MatchesExtended.j0 k t106 t109 false) else (if 0 < (t109.length : Int) then ((ascii_Same.f k (rdOf ByteArray.empty t106 0) (rdOf ByteArray.empty t109 0)).bind fun t116 => (filter_MatchesExtended.j0 k t106 t109 (!t116))) else (none))) else (none)) else (filter_MatchesExtended.j0 k t106 t109 true))))
theorem filter_MatchesExtended.mono_l : ∀ k, (∀ y0 y1 y2, LeO (filter_MatchesExtended.j0 k y0 y1 y2) (filter_MatchesExtended.j0 (k + 1) y0 y1 y2)) ∧ (∀ y0 y1, LeO (filter_MatchesExtended.l0 k y0 y1) (filter_MatchesExtended.l0 (k + 1) y0 y1))
 | 0 => ⟨fun _ _ _ r h => by simp [filter_MatchesExtended.j0] at h, fun _ _ r h => by simp [filter_MatchesExtended.l0] at h⟩
 | k + 1 => by
  obtain ⟨ih0, ih1⟩ := filter_MatchesExtended.mono_l k
  refine ⟨?_, ?_⟩
  ·
   intro y0 y1 y2
   unfold filter_MatchesExtended.j0
   repeat' first
   | (with_reducible exact ih0 _ _ _)
   | (with_reducible exact ih1 _ _)
   | (with_reducible exact ascii_Same.mono _ _ _)
   | (with_reducible exact LeO.refl _)
   | (with_reducible exact LeO.none _)
   | (with_reducible refine LeO.ite ?_ ?_)
   | (with_reducible refine LeO.bind ?_ (fun _ => ?_))
   | exact ih0 _ _ _
   | exact ih1 _ _
   | exact ascii_Same.mono _ _ _
   | exact LeO.none _
   | refine LeO.ite ?_ ?_
   | refine LeO.bind ?_ (fun _ => ?_)
  ·
   intro y0 y1
   unfold filter_MatchesExtended.l0
   repeat' first
   | (with_reducible exact ih0 _ _ _)
   | (with_reducible exact ih1 _ _)
   | (with_reducible exact ascii_Same.mono _ _ _)
   | (with_reducible exact LeO.refl _)
   | (with_reducible exact LeO.none _)
   | (with_reducible refine LeO.ite ?_ ?_)
   | (with_reducible refine LeO.bind ?_ (fun _ => ?_))
   | exact ih0 _ _ _
   | exact ih1 _ _
   | exact ascii_Same.mono _ _ _
   | exact LeO.none _
   | refine LeO.ite ?_ ?_
   | refine LeO.bind ?_ (fun _ => ?_)
theorem filter_MatchesExtended.mono : ∀ a0 a1 k, LeO (filter_MatchesExtended.f k a0 a1) (filter_MatchesExtended.f (k + 1) a0 a1) := by
 intro a0 a1 k; obtain ⟨ih0, ih1⟩ := filter_MatchesExtended.mono_l k; unfold filter_MatchesExtended.f
 repeat' first
  | (with_reducible exact ih0 _ _ _)
  | (with_reducible exact ih1 _ _)
  | (with_reducible exact ascii_Same.mono _ _ _)
  | (with_reducible exact LeO.refl _)
  | (with_reducible exact LeO.none _)
  | (with_reducible refine LeO.ite ?_ ?_)
  | (with_reducible refine LeO.bind ?_ (fun _ => ?_))
  | exact ih0 _ _ _
  | exact ih1 _ _
  | exact ascii_Same.mono _ _ _
  | exact LeO.none _
  | refine LeO.ite ?_ ?_
  | refine LeO.bind ?_ (fun _ => ?_)
def filter_MatchesExtended.T2 : Bool × List (List Nat × List Nat) := (true, [([], []), ([0], [0]), ([1], [1]), ([2, 1], [2]), ([3], [3]), ([4, 3], [3, 4]), ([5, 3], [3, 5]), ([6, 3], [3, 6]), ([7, 3, 3], [3, 7]), ([8], [8]), ([9, 8], [8, 9]), ([10, 8], [8, 10]), ([8], [8]), ([12, 8], [8, 12]), ([13, 8], [8, 13]), ([11, 14, 8, 8], [8, 11, 14]), ([15, 8], [8, 15]), ([8, 16, 3], [3, 8, 16]), ([3, 17], [3, 17])])
def filter_MatchesExtended.B2 : List Nat := [0, 1, 3, 7, 15, 31, 63, 127, 255, 511, 1023, 2047, 511, 4607, 12799, 32767, 65535, 131071, 262143]
theorem filter_MatchesExtended.tab2 : rtab .any (opsOf Tryz.f52 2) = filter_MatchesExtended.T2 := by kernel_rfl
theorem filter_MatchesExtended.bits2 : waitsOk filter_MatchesExtended.T2.2 filter_MatchesExtended.B2 = true := by kernel_rfl
def filter_MatchesExtended.T10 : Bool × List (List Nat × List Nat) := (true, [([], []), ([0], [0]), ([1], [1]), ([], []), ([3], [3]), ([4], [4]), ([2, 5], [2, 5]), ([6, 6], [6])])
def filter_MatchesExtended.B10 : List Nat := [0, 1, 3, 0, 8, 24, 63, 127]
theorem filter_MatchesExtended.tab10 : rtab .any (opsOf Tryz.f52 10) = filter_MatchesExtended.T10 := by kernel_rfl
theorem filter_MatchesExtended.bits10 : waitsOk filter_MatchesExtended.T10.2 filter_MatchesExtended.B10 = true := by kernel_rfl
theorem filter_MatchesExtended.calls (k : Nat) (a0 : ByteArray) (a1 : ByteArray) (r : Bool) (w : World) (h : filter_MatchesExtended.f k a0 a1 = some r) :
 Calls Tryz.prog 52 #[.string a0, .string a1] w fun e w' => e = .returned (.bool r) ∧ Below w.heap.size w w' := by
 have HB := ak (Below.refl w.heap.size w); have H : ((split_Split.f a0).bind fun t106 => ((split_Split.f a1).bind fun t109 => ((filter_Extended.f a0).bind fun t112 => (if t112 = true then (if 0 < (t106.length : Int) then (if (rdOf ByteArray.empty t106 0).toList = ([42] : List UInt8) then (filter_MatchesExtended.j0 k t106 t109 false) else (if 0 < (t109.length : Int) then ((ascii_Same.f k (rdOf ByteArray.empty t106 0) (rdOf ByteArray.empty t109 0)).bind fun t116 => (filter_MatchesExtended.j0 k t106 t109 (!t116))) else (none))) else (none)) else (filter_MatchesExtended.j0 k t106 t109 true))))) = some r := h; clear h; replace H := Option.bind_eq_some_iff.mp H; obtain ⟨t106, A30, H⟩ := H; have A3 := ak A30; clear A30; replace H := Option.bind_eq_some_iff.mp H; obtain ⟨t109, A40, H⟩ := H; have A4 := ak A40; clear A40; have HC5 := ak H; clear H; go_enter Tryz.func52, Tryz.ntmps52
 go_wp2_with (fail)
 refine scope_body ?_; go_upto_region 2 with (first | ((with_reducible refine gate_callee (f := 84) rfl ?_); refine goesL_ (some 8) rfl rfl Tryz.func84 (by kernel_rfl) rfl #[.string a0] rfl mq ?_; (with_reducible refine (split_Split.calls a0 t106 _ A3.out).mono ?_); rintro e w6 ⟨v107, rfl, ho0, hb⟩; refine ⟨_, rfl, ?_⟩; have n0_ := ak (Kd.R_lower ho0 (below_size bq)); have n1_ := ak (below_step bq hb); clear HB; have Zc := n0_; have HB := n1_; clear n0_ n1_; (try clear hb); (try clear hb2); (try clear hk); (try clear hi); (try clear ho0); (try clear A3)) | ((with_reducible refine gate_callee (f := 84) rfl ?_); refine goesL_ (some 10) rfl rfl Tryz.func84 (by kernel_rfl) rfl #[.string a1] rfl mq ?_; (with_reducible refine (split_Split.calls a1 t109 _ A4.out).mono ?_); rintro e w7 ⟨v110, rfl, ho0, hb⟩; refine ⟨_, rfl, ?_⟩; have n0_ := ak (Kd.R_elder' (rx Zc.out) (Kd.R_base ho0) hb); have n1_ := ak (Kd.R_lower (Kd.R_new' ho0 (Kd.R_lt (rx Zc.out))) (below_size bq)); have n2_ := ak (below_step bq hb); clear Zc; clear HB; have Zc := n0_; have Zf := n1_; have HB := n2_; clear n0_ n1_ n2_; (try clear hb); (try clear hb2); (try clear hk); (try clear hi); (try clear ho0); (try clear A4)))
 (try simp only [Act.put, pA, pB, pC])
 go_cut [29] (fun v29 wc => ∃ (kq : Nat) (Zy : Bool), v29 = .bool Zy ∧ Aside0 (filter_MatchesExtended.j0 kq t106 t109 Zy = some r) ∧ Aside0 (kq ≤ k) ∧ Aside0 (Kd.Q Kd.string 9 wc w.heap.size (fun k_ => some k_ ≠ (v110 : Value).ownBlock) v107 t106) ∧ Aside0 (Kd.Q Kd.string 9 wc w.heap.size (fun k_ => some k_ ≠ (v107 : Value).ownBlock) v110 t109) ∧ Aside0 (Below w.heap.size w wc))
 case first =>
  have H := HC5.out; clear HC5; replace H := Option.bind_eq_some_iff.mp H; obtain ⟨t112, A80, H⟩ := H; have A8 := ak A80; clear A80; by_cases c9 : t112 = true
  ·
   subst c9; have H1 : (if 0 < (t106.length : Int) then (if (rdOf ByteArray.empty t106 0).toList = ([42] : List UInt8) then (filter_MatchesExtended.j0 k t106 t109 false) else (if 0 < (t109.length : Int) then ((ascii_Same.f k (rdOf ByteArray.empty t106 0) (rdOf ByteArray.empty t109 0)).bind fun t116 => (filter_MatchesExtended.j0 k t106 t109 (!t116))) else (none))) else (none)) = some r := by rw [if_pos rfl] at H; exact H
   clear H; have H := H1; clear H1; by_cases c10 : 0 < (t106.length : Int)
   ·
    rw [if_pos c10] at H
    have ZP : decide (0 < (t106.length : Int)) = true := decide_eq_true c10; have Zah : decide (0 < t106.length) = true := decide_eq_true (by omega); clear c10; (first | rw [ZP] | (simp only [i64_w, i32_w]; rw [ZP]) | rw [Zai] | skip)
    by_cases c11 : (rdOf ByteArray.empty t106 0).toList = ([42] : List UInt8)
    ·
     rw [if_pos c11] at H
     have ZX : ((rdOf ByteArray.empty t106 0).toList == ([42] : List UInt8)) = true := beq_iff_eq.mpr c11; have ZY : ((rdOf ByteArray.empty t106 0).toList != ([42] : List UInt8)) = false := bne_eq_false_iff_eq.mpr c11; clear c11; have H' := ak H; clear H; try go_wp2
     have n0_ := ak (Kd.R_drew Zc.out); have n1_ := ak (Kd.R_drew Zf.out); have n2_ := ak (below_drew1 HB.out); clear Zc Zf HB; have Zc := n0_; have Zf := n1_; have HB := n2_; clear n0_ n1_ n2_; have p113 : 0 ≤ (0 : Int) := (by omega); have q113 : 0 < (t106.length : Int) := of_decide_eq_true (by first | (with_reducible assumption) | assumption); obtain ⟨A0_, c0_, hv_, _, _⟩ := Kd.R_reads Zc.out; (first | subst hv_ | cases hv_)
     obtain ⟨Zp, e113, Zl⟩ := Kd.at_string (Kd.R_reads' Zc.out).2.2 0 p113 q113; cases e113; have qi113 : (0 < t106.length) = True := eq_true (by omega); (try rw [show ((0 : Int)).toNat = 0 from rfl] at Zl)
     (try rw [Addr.add_zero'] at Zl)
     replace p113 := eq_true p113; replace q113 := eq_true q113; refine start_ (n := 19) (S := fun w' => w'.cell? Zp = some (.string (rdOf ByteArray.empty t106 0))) (ds := []) #[false, false, false, false, false, false, false, false, false, false, false, false, false, false, false, false, false, false, false] (by kernel_rfl) rfl rfl (Zl) (fun hHeld => ?_); refine with_tabW filter_MatchesExtended.tab2 filter_MatchesExtended.bits2 (fun HT_ HW_ => ?_); generalize w7.drew = w12 at Zc Zf HB Zl hHeld ⊢
     refine pu 0 (some 11) (M 19 1) ?_; refine one_ (i := 1) (N := some 12) (M 19 3) rfl rfl (one_of HT_.out (by kernel_rfl)) (by decide) (fun K hK => ?_); refine goes_ Tryz.func85 (by kernel_rfl) rfl #[.string a0] (by rfl) rfl rfl mq ?_; with_reducible refine (filter_Extended.calls a0 true _ A8.out).mono ?_
     rintro e w13 ⟨rfl, hb⟩; have HS0_ := (hb.cell (World.block_lt_of_cell? _ _ (hHeld))).trans (hHeld); refine ⟨_, rfl, ?_⟩; have n0_ := ak (Kd.R_below (rx Zc.out) hb); have n1_ := ak (Kd.R_below (rx Zf.out) hb); have n2_ := ak (below_step bq hb); clear Zc Zf HB; have Zc := n0_; have Zf := n1_; have HB := n2_; clear n0_ n1_ n2_; (try clear hb)
     (try clear hb2)
     (try clear hk)
     (try clear hi)
     obtain ⟨Zay, Zaz, eo14⟩ := Kd.R_slice Zc.out; (first | subst eo14 | (injection eo14 with f1_ f2_ f3_; have f4_ := f1_.symm; have f5_ := f3_.symm; clear f1_ f2_ f3_; subst f4_; subst f5_))
     refine hK.out _ _ (HS0_) (fun hHeld => ?_); clear hK K; refine norm_ (a' := ?_) ?_ ?_; rotate_left
     ·
      show Act.put _ (some 12) _ = _
      simp only [Act.put, pA, pB, pC, i64_w, i32_w]; rfl
     refine pu 2 (some 13) (M 19 7) ?_; refine pu 3 (some 14) (M 19 15) ?_; refine pu 4 (some 15) (M 19 31) ?_; refine pu 5 (some 16) (M 19 63) ?_; refine take_ (i := 6) (N := some 17) (v := ?_) (a' := ?_) (M 19 127) rfl rfl (take_ofW HT_.out HW_.out (by kernel_rfl)) (fun _ _ _ h => h) (Or.inl ⟨by rfl, ?_⟩) hHeld ?_ ?_; rotate_left
     ·
      intro w' s0; go_simp; with_reducible rfl
     rotate_left
     ·
      simp only [Act.put, pA, pB, pC, i64_w, i32_w]; rfl
     refine pu 7 (some 18) (M 19 255) ?_; refine pu 8 (some 19) (M 19 511) ?_; refine pn 9 (some 20) (M 19 1023) ?_; refine pn 10 (some 21) (M 19 2047) ?_; refine pn 11 (some 22) (M 19 4095) ?_; refine pn 12 (some 23) (M 19 8191) ?_; refine pn 13 (some 24) (M 19 16383) ?_; refine pn 14 (some 25) (M 19 32767) ?_; refine pn 15 (some 26) (M 19 65535) ?_; refine pn 16 (some 27) (M 19 131071) ?_; refine pu 17 (some 28) (M 19 262143) ?_; refine pu 18 (some 29) (M 19 524287) ?_; refine done_ (done_of HT_.out (by kernel_rfl)) ?_; try go_wp2
     go_meet
     case rel => exact ⟨_, (false), (by first | rfl | (simp; done) | (simp [*]; done)), H', ⟨by first | omega | exact Nat.le_refl _⟩, ⟨Kd.Q_of_R (rx (Kd.R_mono Zc.out (fun _ hk => hk.2)))⟩, ⟨Kd.Q_of_R (rx (Kd.R_mono Zf.out (fun _ hk => hk.2)))⟩, ⟨bq⟩⟩
    ·
     rw [if_neg c11] at H
     have ZX : ((rdOf ByteArray.empty t106 0).toList == ([42] : List UInt8)) = false := beq_eq_false_iff_ne.mpr c11; have ZY : ((rdOf ByteArray.empty t106 0).toList != ([42] : List UInt8)) = true := bne_iff_ne.mpr c11; by_cases c15 : 0 < (t109.length : Int)
     ·
      rw [if_pos c15] at H
      have Zaj : decide (0 < (t109.length : Int)) = true := decide_eq_true c15; have Zak : decide (0 < t109.length) = true := decide_eq_true (by omega); clear c15; replace H := Option.bind_eq_some_iff.mp H; obtain ⟨t116, A160, H⟩ := H; have A16 := ak A160; clear A160; have H' := ak H; clear H; try go_wp2
      have n0_ := ak (Kd.R_drew Zc.out); have n1_ := ak (Kd.R_drew Zf.out); have n2_ := ak (below_drew1 HB.out); clear Zc Zf HB; have Zc := n0_; have Zf := n1_; have HB := n2_; clear n0_ n1_ n2_; have p113 : 0 ≤ (0 : Int) := (by omega); have q113 : 0 < (t106.length : Int) := of_decide_eq_true (by first | (with_reducible assumption) | assumption); obtain ⟨A0_, c0_, hv_, _, _⟩ := Kd.R_reads Zc.out; (first | subst hv_ | cases hv_)
      obtain ⟨Zp, e113, Zl⟩ := Kd.at_string (Kd.R_reads' Zc.out).2.2 0 p113 q113; cases e113; have qi113 : (0 < t106.length) = True := eq_true (by omega); (try rw [show ((0 : Int)).toNat = 0 from rfl] at Zl)
      (try rw [Addr.add_zero'] at Zl)
      replace p113 := eq_true p113; replace q113 := eq_true q113; have p114 : 0 ≤ (0 : Int) := (by omega); have q114 : 0 < (t106.length : Int) := of_decide_eq_true (by first | (with_reducible assumption) | assumption); obtain ⟨A0_, c0_, hv_, _, _⟩ := Kd.R_reads Zc.out; (first | subst hv_ | cases hv_)
      obtain ⟨ZZ, e114, Zn⟩ := Kd.at_string (Kd.R_reads' Zc.out).2.2 0 p114 q114; obtain rfl : Zp = ZZ := (by injection e114); have qi114 : (0 < t106.length) = True := eq_true (by omega); (try rw [show ((0 : Int)).toNat = 0 from rfl] at Zn)
      (try rw [Addr.add_zero'] at Zn)
      replace p114 := eq_true p114; replace q114 := eq_true q114; have p115 : 0 ≤ (0 : Int) := (by omega); have q115 : 0 < (t109.length : Int) := of_decide_eq_true (by first | (with_reducible assumption) | assumption); obtain ⟨A1_, c1_, hv1_, _, _⟩ := Kd.R_reads Zf.out; (first | subst hv1_ | cases hv1_)
      obtain ⟨Z0, e115, Zo⟩ := Kd.at_string (Kd.R_reads' Zf.out).2.2 0 p115 q115; cases e115; have qi115 : (0 < t109.length) = True := eq_true (by omega); (try rw [show ((0 : Int)).toNat = 0 from rfl] at Zo)
      (try rw [Addr.add_zero'] at Zo)
      replace p115 := eq_true p115; replace q115 := eq_true q115; refine start_ (n := 19) (S := fun w' => w'.cell? Zp = some (.string (rdOf ByteArray.empty t106 0)) ∧ w'.cell? Zp = some (.string (rdOf ByteArray.empty t106 0)) ∧ w'.cell? Z0 = some (.string (rdOf ByteArray.empty t109 0))) (ds := []) #[false, false, false, false, false, false, false, false, false, false, false, false, false, false, false, false, false, false, false] (by kernel_rfl) rfl rfl ⟨Zl, Zn, Zo⟩ (fun hHeld => ?_); refine with_tabW filter_MatchesExtended.tab2 filter_MatchesExtended.bits2 (fun HT_ HW_ => ?_); generalize w7.drew = w17 at Zc Zf HB Zl Zn Zo hHeld ⊢
      refine pu 0 (some 11) (M 19 1) ?_; refine one_ (i := 1) (N := some 12) (M 19 3) rfl rfl (one_of HT_.out (by kernel_rfl)) (by decide) (fun K hK => ?_); refine goes_ Tryz.func85 (by kernel_rfl) rfl #[.string a0] (by rfl) rfl rfl mq ?_; with_reducible refine (filter_Extended.calls a0 true _ A8.out).mono ?_
      rintro e w18 ⟨rfl, hb⟩; have HS0_ := (hb.cell (World.block_lt_of_cell? _ _ (hHeld.1))).trans (hHeld.1); have HS1_ := (hb.cell (World.block_lt_of_cell? _ _ (hHeld.2.1))).trans (hHeld.2.1); have HS2_ := (hb.cell (World.block_lt_of_cell? _ _ (hHeld.2.2))).trans (hHeld.2.2); refine ⟨_, rfl, ?_⟩; have n0_ := ak (Kd.R_below (rx Zc.out) hb); have n1_ := ak (Kd.R_below (rx Zf.out) hb); have n2_ := ak (below_step bq hb); clear Zc Zf HB; have Zc := n0_; have Zf := n1_; have HB := n2_; clear n0_ n1_ n2_; (try clear hb)
      (try clear hb2)
      (try clear hk)
      (try clear hi)
      obtain ⟨ZaA, ZaB, eo19⟩ := Kd.R_slice Zc.out; (first | subst eo19 | (injection eo19 with f1_ f2_ f3_; have f4_ := f1_.symm; have f5_ := f3_.symm; clear f1_ f2_ f3_; subst f4_; subst f5_))
      obtain ⟨ZaC, ZaD, eo20⟩ := Kd.R_slice Zf.out; (first | subst eo20 | (injection eo20 with f1_ f2_ f3_; have f4_ := f1_.symm; have f5_ := f3_.symm; clear f1_ f2_ f3_; subst f4_; subst f5_))
      refine hK.out _ _ ⟨HS0_, HS1_, HS2_⟩ (fun hHeld => ?_); clear hK K; refine norm_ (a' := ?_) ?_ ?_; rotate_left
      ·
       show Act.put _ (some 12) _ = _
       simp only [Act.put, pA, pB, pC, i64_w, i32_w]; rfl
      refine pu 2 (some 13) (M 19 7) ?_; refine pu 3 (some 14) (M 19 15) ?_; refine pu 4 (some 15) (M 19 31) ?_; refine pu 5 (some 16) (M 19 63) ?_; refine take_ (i := 6) (N := some 17) (v := ?_) (a' := ?_) (M 19 127) rfl rfl (take_ofW HT_.out HW_.out (by kernel_rfl)) (fun _ _ _ h => h) (Or.inl ⟨by rfl, ?_⟩) hHeld ?_ ?_; rotate_left
      ·
       rintro w' ⟨s0, s1, s2⟩; go_simp; with_reducible rfl
      rotate_left
      ·
       simp only [Act.put, pA, pB, pC, i64_w, i32_w]; rfl
      refine pu 7 (some 18) (M 19 255) ?_; refine pu 8 (some 19) (M 19 511) ?_; refine pu 9 (some 20) (M 19 1023) ?_; refine pu 10 (some 21) (M 19 2047) ?_; refine pu 12 (some 23) (M 19 6143) ?_; refine pu 13 (some 24) (M 19 14335) ?_; refine take_ (i := 11) (N := some 22) (v := ?_) (a' := ?_) (M 19 16383) rfl rfl (take_ofW HT_.out HW_.out (by kernel_rfl)) (fun _ _ _ h => h) (Or.inl ⟨by rfl, ?_⟩) hHeld ?_ ?_; rotate_left
      ·
       rintro w' ⟨s0, s1, s2⟩; go_simp; with_reducible rfl
      rotate_left
      ·
       simp only [Act.put, pA, pB, pC, i64_w, i32_w]; rfl
      refine take_ (i := 14) (N := some 25) (v := ?_) (a' := ?_) (M 19 32767) rfl rfl (take_ofW HT_.out HW_.out (by kernel_rfl)) (fun _ _ _ h => h) (Or.inl ⟨by rfl, ?_⟩) hHeld ?_ ?_; rotate_left
      ·
       rintro w' ⟨s0, s1, s2⟩; go_simp; with_reducible rfl
      rotate_left
      ·
       simp only [Act.put, pA, pB, pC, i64_w, i32_w]; rfl
      refine one_ (i := 15) (N := some 26) (M 19 65535) rfl rfl (one_of HT_.out (by kernel_rfl)) (by decide) (fun K hK => ?_); refine goes_ Tryz.func81 (by kernel_rfl) rfl #[.string (rdOf ByteArray.empty t106 0), .string (rdOf ByteArray.empty t109 0)] (by rfl) rfl rfl mq ?_; with_reducible refine (ascii_Same.calls k (rdOf ByteArray.empty t106 0) (rdOf ByteArray.empty t109 0) t116 _ A16.out).mono ?_
      rintro e w' ⟨rfl, ⟨nd, rfl⟩⟩; refine ⟨_, rfl, ?_⟩; refine hK.out _ _ ⟨hHeld.1, hHeld.2.1, hHeld.2.2⟩ (fun hHeld => ?_); clear hK K; refine norm_ (a' := ?_) ?_ ?_; rotate_left
      ·
       show Act.put _ (some 26) _ = _
       simp only [Act.put, pA, pB, pC, i64_w, i32_w]; rfl
      refine pu 16 (some 27) (M 19 131071) ?_; refine pu 17 (some 28) (M 19 262143) ?_; refine pu 18 (some 29) (M 19 524287) ?_; refine done_ (done_of HT_.out (by kernel_rfl)) ?_; try go_wp2
      go_meet
      case rel => exact ⟨_, (!t116), (by first | rfl | (simp; done) | (simp [*]; done)), H', ⟨by first | omega | exact Nat.le_refl _⟩, ⟨Kd.Q_of_R (rx (Kd.R_mono Zc.out (fun _ hk => hk.2)))⟩, ⟨Kd.Q_of_R (rx (Kd.R_mono Zf.out (fun _ hk => hk.2)))⟩, ⟨bq⟩⟩
     ·
      rw [if_neg c15] at H
      exact absurd H (by simp)
   ·
    rw [if_neg c10] at H
    exact absurd H (by simp)
  ·
   replace c9 := Bool.eq_false_iff.mpr c9; subst c9; have H1 : (filter_MatchesExtended.j0 k t106 t109 true) = some r := by rw [if_neg (show ¬ (false = true) by decide)] at H; exact H
   clear H; have H := H1; clear H1; have H' := ak H; clear H; try go_wp2
   have n0_ := ak (Kd.R_drew Zc.out); have n1_ := ak (Kd.R_drew Zf.out); have n2_ := ak (below_drew1 HB.out); clear Zc Zf HB; have Zc := n0_; have Zf := n1_; have HB := n2_; clear n0_ n1_ n2_; refine start_ (n := 19) (S := fun w' => True) (ds := []) #[false, false, false, false, false, false, false, false, false, false, false, false, false, false, false, false, false, false, false] (by kernel_rfl) rfl rfl trivial (fun hHeld => ?_); refine with_tabW filter_MatchesExtended.tab2 filter_MatchesExtended.bits2 (fun HT_ HW_ => ?_); generalize w7.drew = w21 at Zc Zf HB hHeld ⊢
   refine pu 0 (some 11) (M 19 1) ?_; refine one_ (i := 1) (N := some 12) (M 19 3) rfl rfl (one_of HT_.out (by kernel_rfl)) (by decide) (fun K hK => ?_); refine goes_ Tryz.func85 (by kernel_rfl) rfl #[.string a0] (by rfl) rfl rfl mq ?_; with_reducible refine (filter_Extended.calls a0 false _ A8.out).mono ?_
   rintro e w22 ⟨rfl, hb⟩; refine ⟨_, rfl, ?_⟩; have n0_ := ak (Kd.R_below (rx Zc.out) hb); have n1_ := ak (Kd.R_below (rx Zf.out) hb); have n2_ := ak (below_step bq hb); clear Zc Zf HB; have Zc := n0_; have Zf := n1_; have HB := n2_; clear n0_ n1_ n2_; (try clear hb)
   (try clear hb2)
   (try clear hk)
   (try clear hi)
   refine hK.out _ _ trivial (fun hHeld => ?_); clear hK K; refine norm_ (a' := ?_) ?_ ?_; rotate_left
   ·
    show Act.put _ (some 12) _ = _
    simp only [Act.put, pA, pB, pC, i64_w, i32_w]; rfl
   refine pu 2 (some 13) (M 19 7) ?_; refine pu 3 (some 14) (M 19 15) ?_; refine pn 4 (some 15) (M 19 31) ?_; refine pn 5 (some 16) (M 19 63) ?_; refine pn 6 (some 17) (M 19 127) ?_; refine pn 7 (some 18) (M 19 255) ?_; refine pn 8 (some 19) (M 19 511) ?_; refine pn 9 (some 20) (M 19 1023) ?_; refine pn 10 (some 21) (M 19 2047) ?_; refine pn 11 (some 22) (M 19 4095) ?_; refine pn 12 (some 23) (M 19 8191) ?_; refine pn 13 (some 24) (M 19 16383) ?_; refine pn 14 (some 25) (M 19 32767) ?_; refine pn 15 (some 26) (M 19 65535) ?_; refine pn 16 (some 27) (M 19 131071) ?_; refine pn 17 (some 28) (M 19 262143) ?_; refine pu 18 (some 29) (M 19 524287) ?_; refine done_ (done_of HT_.out (by kernel_rfl)) ?_; try go_wp2
   go_meet
   case rel => exact ⟨_, (true), (by first | rfl | (simp; done) | (simp [*]; done)), H', ⟨by first | omega | exact Nat.le_refl _⟩, ⟨Kd.Q_of_R (rx (Kd.R_mono Zc.out (fun _ hk => hk.2)))⟩, ⟨Kd.Q_of_R (rx (Kd.R_mono Zf.out (fun _ hk => hk.2)))⟩, ⟨bq⟩⟩
 case rest =>
  clear HC5; obtain ⟨kq, Zy, rfl, HA, HJ4, Ze, Zd, HB⟩ := hcut; cases kq with
  | zero => exact absurd HA.out (by simp [filter_MatchesExtended.j0])
  | succ kj4 =>
   have H := HA.out; clear HA; simp only [filter_MatchesExtended.j0] at H
   by_cases c23 : Zy = true
   ·
    subst c23; have H1 : (some false) = some r := by rw [if_pos rfl] at H; exact H
    clear H; have H := H1; clear H1; obtain rfl := Option.some.inj H; go_wp2
    go_ret
    exact ⟨by first | rfl | (simp [errW_none, errW_some] <;> rfl) | (simp [*, errW_none, errW_some] <;> rfl), bq⟩
   ·
    replace c23 := Bool.eq_false_iff.mpr c23; subst c23; have H1 : (if 1 ≤ (t106.length : Int) then (if 1 ≤ (t109.length : Int) then (filter_MatchesExtended.l0 kj4 (t106.drop (1 : Int).toNat) (t109.drop (1 : Int).toNat)) else (none)) else (none)) = some r := by rw [if_neg (show ¬ (false = true) by decide)] at H; exact H
    clear H; have H := H1; clear H1; by_cases c24 : 1 ≤ (t106.length : Int)
    ·
     rw [if_pos c24] at H
     have Z1 := eq_true c24; have Z2 : decide (1 ≤ (t106.length : Int)) = true := decide_eq_true c24; clear c24; obtain ⟨y117, Zq⟩ : ∃ y_ : List ByteArray, y_ = (t106.drop (1 : Int).toNat) := ⟨_, rfl⟩; replace H : (if 1 ≤ (t109.length : Int) then (filter_MatchesExtended.l0 kj4 y117 (t109.drop (1 : Int).toNat)) else (none)) = some r := by first | (rw [Zq]; with_reducible exact H) | (have H2_ := (Option.bind_some _ _).symm.trans H; rw [Zq]; with_reducible exact H2_) | (have H2_ := (Option.bind_some _ _).symm.trans H; with_reducible exact H2_) | with_reducible exact H | (rw [Zq]; exact H) | exact H
     have ZQ := ak Zq; clear Zq; by_cases c25 : 1 ≤ (t109.length : Int)
     ·
      rw [if_pos c25] at H
      have Z3 := eq_true c25; have Z4 : decide (1 ≤ (t109.length : Int)) = true := decide_eq_true c25; clear c25; obtain ⟨y120, Zr⟩ : ∃ y_ : List ByteArray, y_ = (t109.drop (1 : Int).toNat) := ⟨_, rfl⟩; replace H : (filter_MatchesExtended.l0 kj4 y117 y120) = some r := by first | (rw [Zr]; with_reducible exact H) | (have H2_ := (Option.bind_some _ _).symm.trans H; rw [Zr]; with_reducible exact H2_) | (have H2_ := (Option.bind_some _ _).symm.trans H; with_reducible exact H2_) | with_reducible exact H | (rw [Zr]; exact H) | exact H
      have ZR := ak Zr; clear Zr; have H' := ak H; clear H; try go_wp2
      have n0_ := ak (Kd.Q_drew Ze.out); have n1_ := ak (Kd.Q_drew Zd.out); have n2_ := ak (below_drew1 HB.out); clear Ze Zd HB; have Ze := n0_; have Zd := n1_; have HB := n2_; clear n0_ n1_ n2_; obtain ⟨ZA, ZD, eo27, _⟩ := Kd.Q_slice Ze.out; (first | subst eo27 | (injection eo27 with f1_ f2_ f3_; have f4_ := f1_.symm; have f5_ := f3_.symm; clear f1_ f2_ f3_; subst f4_; subst f5_))
      have q28 : (1 : Int) ≤ ((t106.length : Int) : Int) := of_decide_eq_true (by first | (with_reducible assumption) | assumption); obtain ⟨i028, hi028, _, hsz28, _⟩ := info_parts info9; have hcut28 := cut_from (P := Tryz.prog) 26 9 .i64 Tryz.underlying26 hi028 1 hsz28 ZA t106.length ZD 1 (by omega) q28; have hr28 := Kd.Q_drop (k := (1 : Int).toNat) Ze.out (by omega); obtain ⟨A28, hA28⟩ : ∃ A1, A1 = (if ZD = (1 : Int).toNat then ZA else (ZA : Option Addr).map (·.add ((1 : Int).toNat * 1))) := ⟨_, rfl⟩; obtain ⟨c28, hc28⟩ : ∃ c1, c1 = ZD - (1 : Int).toNat := ⟨_, rfl⟩; have ZJ : y117.length = t106.length - (1 : Int).toNat := (by rw [ZQ.out, List.length_drop]); rw [← ZQ.out] at hr28
      rw [← ZJ, ← hA28, ← hc28] at hcut28
      replace hr28 : Kd.Q Kd.string 9 wc.drew w.heap.size (fun k_ => some k_ ≠ (v110 : Value).ownBlock) (.slice A28 y117.length c28) y117 := (by rw [hA28, hc28, ZJ]; exact hr28); have HE28 : Aside0 ((Value.slice A28 y117.length c28).ownBlock = (.slice ZA t106.length ZD : Value).ownBlock) := ⟨by rw [hA28]; split <;> (cases (ZA : Option Addr) <;> rfl)⟩; clear ZJ hi028 hsz28 Ze hA28 hc28; have Zs := ak hr28; clear hr28; replace q28 := eq_true q28; have n_ := ak (Kd.Q_mono (ok' := fun k_ => some k_ ≠ (.slice A28 y117.length c28 : Value).ownBlock) Zd.out (fun k_ hk => (by rw [HE28.out]; exact hk))); clear Zd; have Zd := n_; clear n_; obtain ⟨ZB, ZE, eo29, _⟩ := Kd.Q_slice Zd.out; (first | subst eo29 | (injection eo29 with f1_ f2_ f3_; have f4_ := f1_.symm; have f5_ := f3_.symm; clear f1_ f2_ f3_; subst f4_; subst f5_))
      have q30 : (1 : Int) ≤ ((t109.length : Int) : Int) := of_decide_eq_true (by first | (with_reducible assumption) | assumption); obtain ⟨i030, hi030, _, hsz30, _⟩ := info_parts info9; have hcut30 := cut_from (P := Tryz.prog) 26 9 .i64 Tryz.underlying26 hi030 1 hsz30 ZB t109.length ZE 1 (by omega) q30; have hr30 := Kd.Q_drop (k := (1 : Int).toNat) Zd.out (by omega); obtain ⟨A30, hA30⟩ : ∃ A1, A1 = (if ZE = (1 : Int).toNat then ZB else (ZB : Option Addr).map (·.add ((1 : Int).toNat * 1))) := ⟨_, rfl⟩; obtain ⟨c30, hc30⟩ : ∃ c1, c1 = ZE - (1 : Int).toNat := ⟨_, rfl⟩; have ZK : y120.length = t109.length - (1 : Int).toNat := (by rw [ZR.out, List.length_drop]); rw [← ZR.out] at hr30
      rw [← ZK, ← hA30, ← hc30] at hcut30
      replace hr30 : Kd.Q Kd.string 9 wc.drew w.heap.size (fun k_ => some k_ ≠ (.slice A28 y117.length c28 : Value).ownBlock) (.slice A30 y120.length c30) y120 := (by rw [hA30, hc30, ZK]; exact hr30); have HE30 : Aside0 ((Value.slice A30 y120.length c30).ownBlock = (.slice ZB t109.length ZE : Value).ownBlock) := ⟨by rw [hA30]; split <;> (cases (ZB : Option Addr) <;> rfl)⟩; clear ZK hi030 hsz30 Zd hA30 hc30; have ZS := ak hr30; clear hr30; replace q30 := eq_true q30; have n_ := ak (Kd.Q_mono (ok' := fun k_ => some k_ ≠ (.slice A30 y120.length c30 : Value).ownBlock) Zs.out (fun k_ hk => (by rw [HE30.out]; exact hk))); clear Zs; have Zs := n_; clear n_; refine start_ (n := 6) (S := fun w' => True) (ds := []) #[false, false, false, false, false, false] (by kernel_rfl) rfl rfl trivial (fun hHeld => ?_); generalize wc.drew = w26 at HB Zs ZS hHeld ⊢
      refine pure_ (i := 0) (N := some 30) (v := ?_) (a' := ?_) (M 6 1) rfl rfl (by kernel_rfl) (fun _ _ _ h => h) (Or.inl ⟨by rfl, ?_⟩) ?_ ?_; rotate_left
      ·
       intro w'; go_simp; with_reducible rfl
      rotate_left
      ·
       simp only [Act.put, pA, pB, pC, i64_w, i32_w]; rfl
      refine pure_ (i := 1) (N := some 31) (v := ?_) (a' := ?_) (M 6 3) rfl rfl (by kernel_rfl) (fun _ _ _ h => h) (Or.inl ⟨by rfl, ?_⟩) ?_ ?_; rotate_left
      ·
       intro w'; go_simp; with_reducible rfl
      rotate_left
      ·
       simp only [Act.put, pA, pB, pC, i64_w, i32_w]; rfl
      refine pure_ (i := 2) (N := some 32) (v := ?_) (a' := ?_) (M 6 7) rfl rfl (by kernel_rfl) (fun _ _ _ h => h) (Or.inl ⟨by rfl, ?_⟩) ?_ ?_; rotate_left
      ·
       intro w'; go_simp; with_reducible rfl
      rotate_left
      ·
       simp only [Act.put, pA, pB, pC, i64_w, i32_w]; rfl
      refine pure_ (i := 3) (N := some 33) (v := ?_) (a' := ?_) (M 6 15) rfl rfl (by kernel_rfl) (fun _ _ _ h => h) (Or.inl ⟨by rfl, ?_⟩) ?_ ?_; rotate_left
      ·
       intro w'; go_simp; with_reducible rfl
      rotate_left
      ·
       simp only [Act.put, pA, pB, pC, i64_w, i32_w]; rfl
      refine pure_ (i := 4) (N := some 5) (v := ?_) (a' := ?_) (M 6 31) rfl rfl (by kernel_rfl) (fun _ _ _ h => h) (Or.inl ⟨by rfl, ?_⟩) ?_ ?_; rotate_left
      ·
       intro w'; go_simp; with_reducible rfl
      rotate_left
      ·
       simp only [Act.put, pA, pB, pC, i64_w, i32_w]; rfl
      refine pure_ (i := 5) (N := some 6) (v := ?_) (a' := ?_) (M 6 63) rfl rfl (by kernel_rfl) (fun _ _ _ h => h) (Or.inl ⟨by rfl, ?_⟩) ?_ ?_; rotate_left
      ·
       intro w'; go_simp; with_reducible rfl
      rotate_left
      ·
       simp only [Act.put, pA, pB, pC, i64_w, i32_w]; rfl
      refine done_ (by kernel_rfl) ?_; try go_wp2
      refine wp_label ?_; simp only [Exit.then]; go_wp2
      go_loopg [5, 6] kj4 (fun kq v5 v6 w' => ∃ (Za : List ByteArray) (Zb : List ByteArray), Aside0 (filter_MatchesExtended.l0 kq Za Zb = some r) ∧ Aside0 (kq ≤ kj4) ∧ Aside0 (Kd.Q Kd.string 9 w' w.heap.size (fun k_ => some k_ ≠ (v6 : Value).ownBlock) v5 Za) ∧ Aside0 (Kd.Q Kd.string 9 w' w.heap.size (fun k_ => some k_ ≠ (v5 : Value).ownBlock) v6 Zb) ∧ Aside0 (Below w.heap.size w w'))
      case atStart => exact ⟨(y117), (y120), H', ⟨Nat.le_refl _⟩, ⟨by (with_reducible repeat (first | apply Kd.Q_alloc | apply Kd.Q_drewN | apply Kd.Q_drew)); exact Zs.out⟩, ⟨by (with_reducible repeat (first | apply Kd.Q_alloc | apply Kd.Q_drewN | apply Kd.Q_drew)); exact ZS.out⟩, ⟨bq⟩⟩
      case round =>
       clear H' Z1 Z2 Z3 Z4 q28 q30; obtain ⟨Za, Zb, HA, HK2, Ze, Zd, HB⟩ := hrel; cases gk with
       | zero => exact absurd HA.out (by simp [filter_MatchesExtended.l0])
       | succ k2 =>
        have H := HA.out; clear HA; simp only [filter_MatchesExtended.l0] at H
        by_cases c31 : (Za.length : Int) > 0
        ·
         rw [if_pos c31] at H
         have Z5 : decide (0 < (Za.length : Int)) = true := decide_eq_true c31; have Z6 : decide (0 < Za.length) = true := decide_eq_true (by omega); clear c31; by_cases c32 : 0 < (Za.length : Int)
         ·
          rw [if_pos c32] at H
          have Zal : decide (0 < (Za.length : Int)) = true := decide_eq_true c32; have Zam : decide (0 < Za.length) = true := decide_eq_true (by omega); clear c32; by_cases c33 : (rdOf ByteArray.empty Za 0).toList = ([42] : List UInt8)
          ·
           rw [if_pos c33] at H
           have Z7 : ((rdOf ByteArray.empty Za 0).toList == ([42] : List UInt8)) = true := beq_iff_eq.mpr c33; have Z8 : ((rdOf ByteArray.empty Za 0).toList != ([42] : List UInt8)) = false := bne_eq_false_iff_eq.mpr c33; clear c33; by_cases c34 : 1 ≤ (Za.length : Int)
           ·
            rw [if_pos c34] at H
            have Zan := eq_true c34; have Zao : decide (1 ≤ (Za.length : Int)) = true := decide_eq_true c34; clear c34; obtain ⟨y124, Zt⟩ : ∃ y_ : List ByteArray, y_ = (Za.drop (1 : Int).toNat) := ⟨_, rfl⟩; replace H : (filter_MatchesExtended.l0 k2 y124 Zb) = some r := by first | (rw [Zt]; with_reducible exact H) | (have H2_ := (Option.bind_some _ _).symm.trans H; rw [Zt]; with_reducible exact H2_) | (have H2_ := (Option.bind_some _ _).symm.trans H; with_reducible exact H2_) | with_reducible exact H | (rw [Zt]; exact H) | exact H
            have ZT := ak Zt; clear Zt; have H' := ak H; clear H; obtain ⟨ZaE, ZF, eo35, _⟩ := Kd.Q_slice Ze.out; subst eo35; have p123 : 0 ≤ (0 : Int) := (by omega); have q123 : 0 < (Za.length : Int) := of_decide_eq_true (by first | (with_reducible assumption) | assumption); obtain ⟨Zg, e123, Zh⟩ := Kd.at_string (Kd.Q_reads' Ze.out).2.2 0 p123 q123; cases e123; have qi123 : (0 < Za.length) = True := eq_true (by omega); (try rw [show ((0 : Int)).toNat = 0 from rfl] at Zh)
            (try rw [Addr.add_zero'] at Zh)
            replace p123 := eq_true p123; replace q123 := eq_true q123; have q36 : (1 : Int) ≤ ((Za.length : Int) : Int) := of_decide_eq_true (by first | (with_reducible assumption) | assumption); obtain ⟨i036, hi036, _, hsz36, _⟩ := info_parts info9; have hcut36 := cut_from (P := Tryz.prog) 26 9 .i64 Tryz.underlying26 hi036 1 hsz36 (some Zg) Za.length ZF 1 (by omega) q36; have hr36 := Kd.Q_drop (k := (1 : Int).toNat) Ze.out (by omega); obtain ⟨A36, hA36⟩ : ∃ A1, A1 = (if ZF = (1 : Int).toNat then (some Zg) else ((some Zg) : Option Addr).map (·.add ((1 : Int).toNat * 1))) := ⟨_, rfl⟩; obtain ⟨c36, hc36⟩ : ∃ c1, c1 = ZF - (1 : Int).toNat := ⟨_, rfl⟩; have ZL : y124.length = Za.length - (1 : Int).toNat := (by rw [ZT.out, List.length_drop]); rw [← ZT.out] at hr36
            rw [← ZL, ← hA36, ← hc36] at hcut36
            replace hr36 : Kd.Q Kd.string 9 wr w.heap.size (fun k_ => some k_ ≠ (u6 : Value).ownBlock) (.slice A36 y124.length c36) y124 := (by rw [hA36, hc36, ZL]; exact hr36); have HE36 : Aside0 ((Value.slice A36 y124.length c36).ownBlock = (.slice (some Zg) Za.length ZF : Value).ownBlock) := ⟨by rw [hA36]; split <;> (cases ((some Zg) : Option Addr) <;> rfl)⟩; clear ZL hi036 hsz36 Ze hA36 hc36; have Z9 := ak hr36; clear hr36; replace q36 := eq_true q36; have n_ := ak (Kd.Q_mono (ok' := fun k_ => some k_ ≠ (.slice A36 y124.length c36 : Value).ownBlock) Zd.out (fun k_ hk => (by rw [HE36.out]; exact hk))); clear Zd; have Zd := n_; clear n_; go_wp2
            go_roundg k2
            case measure => have := HJ4.out; have := HK2.out; omega
            case rel => exact ⟨(y124), (Zb), H', ⟨by have := HJ4.out; have := HK2.out; omega⟩, ⟨by (with_reducible repeat (first | apply Kd.Q_alloc | apply Kd.Q_drewN | apply Kd.Q_drew)); exact Z9.out⟩, ⟨by (with_reducible repeat (first | apply Kd.Q_alloc | apply Kd.Q_drewN | apply Kd.Q_drew)); exact Zd.out⟩, ⟨bq⟩⟩
           ·
            rw [if_neg c34] at H
            exact absurd H (by simp)
          ·
           rw [if_neg c33] at H
           have Z7 : ((rdOf ByteArray.empty Za 0).toList == ([42] : List UInt8)) = false := beq_eq_false_iff_ne.mpr c33; have Z8 : ((rdOf ByteArray.empty Za 0).toList != ([42] : List UInt8)) = true := bne_iff_ne.mpr c33; by_cases c37 : (Zb.length : Int) = 0
           ·
            rw [if_pos c37] at H
            have Zaa : ((Zb.length : Int) == 0) = true := beq_iff_eq.mpr c37; have Zab : ((Zb.length : Int) != 0) = false := bne_eq_false_iff_eq.mpr c37; clear c37; obtain rfl := Option.some.inj H; obtain ⟨ZaF, ZaG, eo38, _⟩ := Kd.Q_slice Ze.out; subst eo38; have p123 : 0 ≤ (0 : Int) := (by omega); have q123 : 0 < (Za.length : Int) := of_decide_eq_true (by first | (with_reducible assumption) | assumption); obtain ⟨Zg, e123, Zh⟩ := Kd.at_string (Kd.Q_reads' Ze.out).2.2 0 p123 q123; cases e123; have qi123 : (0 < Za.length) = True := eq_true (by omega); (try rw [show ((0 : Int)).toNat = 0 from rfl] at Zh)
            (try rw [Addr.add_zero'] at Zh)
            replace p123 := eq_true p123; replace q123 := eq_true q123; obtain ⟨ZaH, ZaI, eo39, _⟩ := Kd.Q_slice Zd.out; subst eo39; go_wp2
            go_ret
            exact ⟨by first | rfl | (simp [errW_none, errW_some] <;> rfl) | (simp [*, errW_none, errW_some] <;> rfl), bq⟩
           ·
            rw [if_neg c37] at H
            have Zaa : ((Zb.length : Int) == 0) = false := beq_eq_false_iff_ne.mpr c37; have Zab : ((Zb.length : Int) != 0) = true := bne_iff_ne.mpr c37; have Zap : ¬ (Zb = []) := fun h_ => c37 (by rw [h_]; rfl)
            by_cases c40 : 0 < (Zb.length : Int)
            ·
             rw [if_pos c40] at H
             have Zaq : decide (0 < (Zb.length : Int)) = true := decide_eq_true c40; have Zar : decide (0 < Zb.length) = true := decide_eq_true (by omega); clear c40; replace H := Option.bind_eq_some_iff.mp H; obtain ⟨t129, A410, H⟩ := H; have A41 := ak A410; clear A410; by_cases c42 : t129 = true
             ·
              subst c42; have H1 : (if 1 ≤ (Za.length : Int) then (if 1 ≤ (Zb.length : Int) then (filter_MatchesExtended.l0 k2 (Za.drop (1 : Int).toNat) (Zb.drop (1 : Int).toNat)) else (none)) else (none)) = some r := by rw [if_pos rfl] at H; exact H
              clear H; have H := H1; clear H1; by_cases c43 : 1 ≤ (Za.length : Int)
              ·
               rw [if_pos c43] at H
               have Zas := eq_true c43; have Zat : decide (1 ≤ (Za.length : Int)) = true := decide_eq_true c43; clear c43; obtain ⟨y130, Zu⟩ : ∃ y_ : List ByteArray, y_ = (Za.drop (1 : Int).toNat) := ⟨_, rfl⟩; replace H : (if 1 ≤ (Zb.length : Int) then (filter_MatchesExtended.l0 k2 y130 (Zb.drop (1 : Int).toNat)) else (none)) = some r := by first | (rw [Zu]; with_reducible exact H) | (have H2_ := (Option.bind_some _ _).symm.trans H; rw [Zu]; with_reducible exact H2_) | (have H2_ := (Option.bind_some _ _).symm.trans H; with_reducible exact H2_) | with_reducible exact H | (rw [Zu]; exact H) | exact H
               have ZU := ak Zu; clear Zu; by_cases c44 : 1 ≤ (Zb.length : Int)
               ·
                rw [if_pos c44] at H
                have Zau := eq_true c44; have Zav : decide (1 ≤ (Zb.length : Int)) = true := decide_eq_true c44; clear c44; obtain ⟨y133, Zv⟩ : ∃ y_ : List ByteArray, y_ = (Zb.drop (1 : Int).toNat) := ⟨_, rfl⟩; replace H : (filter_MatchesExtended.l0 k2 y130 y133) = some r := by first | (rw [Zv]; with_reducible exact H) | (have H2_ := (Option.bind_some _ _).symm.trans H; rw [Zv]; with_reducible exact H2_) | (have H2_ := (Option.bind_some _ _).symm.trans H; with_reducible exact H2_) | with_reducible exact H | (rw [Zv]; exact H) | exact H
                have ZV := ak Zv; clear Zv; have H' := ak H; clear H; obtain ⟨ZaJ, ZG, eo45, _⟩ := Kd.Q_slice Ze.out; subst eo45; have p123 : 0 ≤ (0 : Int) := (by omega); have q123 : 0 < (Za.length : Int) := of_decide_eq_true (by first | (with_reducible assumption) | assumption); obtain ⟨Zg, e123, Zh⟩ := Kd.at_string (Kd.Q_reads' Ze.out).2.2 0 p123 q123; cases e123; have qi123 : (0 < Za.length) = True := eq_true (by omega); (try rw [show ((0 : Int)).toNat = 0 from rfl] at Zh)
                (try rw [Addr.add_zero'] at Zh)
                replace p123 := eq_true p123; replace q123 := eq_true q123; obtain ⟨ZaK, ZC, eo46, _⟩ := Kd.Q_slice Zd.out; subst eo46; try go_wp2
                have n0_ := ak (Kd.Q_drew Ze.out); have n1_ := ak (Kd.Q_drew Zd.out); have n2_ := ak (below_drew1 HB.out); clear Ze Zd HB; have Ze := n0_; have Zd := n1_; have HB := n2_; clear n0_ n1_ n2_; have p127 : 0 ≤ (0 : Int) := (by omega); have q127 : 0 < (Za.length : Int) := of_decide_eq_true (by first | (with_reducible assumption) | assumption); obtain ⟨Zw, e127, Zi⟩ := Kd.at_string (Kd.Q_reads' Ze.out).2.2 0 p127 q127; obtain rfl : Zg = Zw := (by injection e127); have qi127 : (0 < Za.length) = True := eq_true (by omega); (try rw [show ((0 : Int)).toNat = 0 from rfl] at Zi)
                (try rw [Addr.add_zero'] at Zi)
                replace p127 := eq_true p127; replace q127 := eq_true q127; have p128 : 0 ≤ (0 : Int) := (by omega); have q128 : 0 < (Zb.length : Int) := of_decide_eq_true (by first | (with_reducible assumption) | assumption); obtain ⟨Zk, e128, Zj⟩ := Kd.at_string (Kd.Q_reads' Zd.out).2.2 0 p128 q128; cases e128; have qi128 : (0 < Zb.length) = True := eq_true (by omega); (try rw [show ((0 : Int)).toNat = 0 from rfl] at Zj)
                (try rw [Addr.add_zero'] at Zj)
                replace p128 := eq_true p128; replace q128 := eq_true q128; refine start_ (n := 8) (S := fun w' => w'.cell? Zg = some (.string (rdOf ByteArray.empty Za 0)) ∧ w'.cell? Zk = some (.string (rdOf ByteArray.empty Zb 0))) (ds := []) #[false, false, false, false, false, false, false, false] (by kernel_rfl) rfl rfl ⟨Zi, Zj⟩ (fun hHeld => ?_); refine with_tabW filter_MatchesExtended.tab10 filter_MatchesExtended.bits10 (fun HT_ HW_ => ?_); generalize wr.drew = w47 at Ze Zd HB Zi Zj hHeld ⊢
                refine pu 0 (some 49) (M 8 1) ?_; refine pu 1 (some 50) (M 8 3) ?_; refine pu 3 (some 52) (M 8 11) ?_; refine pu 4 (some 53) (M 8 27) ?_; refine take_ (i := 2) (N := some 51) (v := ?_) (a' := ?_) (M 8 31) rfl rfl (take_ofW HT_.out HW_.out (by kernel_rfl)) (fun _ _ _ h => h) (Or.inl ⟨by rfl, ?_⟩) hHeld ?_ ?_; rotate_left
                ·
                 rintro w' ⟨s0, s1⟩; go_simp; with_reducible rfl
                rotate_left
                ·
                 simp only [Act.put, pA, pB, pC, i64_w, i32_w]; rfl
                refine take_ (i := 5) (N := some 54) (v := ?_) (a' := ?_) (M 8 63) rfl rfl (take_ofW HT_.out HW_.out (by kernel_rfl)) (fun _ _ _ h => h) (Or.inl ⟨by rfl, ?_⟩) hHeld ?_ ?_; rotate_left
                ·
                 rintro w' ⟨s0, s1⟩; go_simp; with_reducible rfl
                rotate_left
                ·
                 simp only [Act.put, pA, pB, pC, i64_w, i32_w]; rfl
                refine one_ (i := 6) (N := some 55) (M 8 127) rfl rfl (one_of HT_.out (by kernel_rfl)) (by decide) (fun K hK => ?_); refine goes_ Tryz.func81 (by kernel_rfl) rfl #[.string (rdOf ByteArray.empty Za 0), .string (rdOf ByteArray.empty Zb 0)] (by rfl) rfl rfl mq ?_; with_reducible refine (ascii_Same.calls k2 (rdOf ByteArray.empty Za 0) (rdOf ByteArray.empty Zb 0) true _ A41.out).mono ?_
                rintro e w' ⟨rfl, ⟨nd, rfl⟩⟩; refine ⟨_, rfl, ?_⟩; refine hK.out _ _ ⟨hHeld.1, hHeld.2⟩ (fun hHeld => ?_); clear hK K; refine norm_ (a' := ?_) ?_ ?_; rotate_left
                ·
                 show Act.put _ (some 55) _ = _
                 simp only [Act.put, pA, pB, pC, i64_w, i32_w]; rfl
                refine pu 7 (some 48) (M 8 255) ?_; refine done_ (done_of HT_.out (by kernel_rfl)) ?_; have q48 : (1 : Int) ≤ ((Za.length : Int) : Int) := of_decide_eq_true (by first | (with_reducible assumption) | assumption); obtain ⟨i048, hi048, _, hsz48, _⟩ := info_parts info9; have hcut48 := cut_from (P := Tryz.prog) 26 9 .i64 Tryz.underlying26 hi048 1 hsz48 (some Zg) Za.length ZG 1 (by omega) q48; have hr48 := Kd.Q_drop (k := (1 : Int).toNat) Ze.out (by omega); obtain ⟨A48, hA48⟩ : ∃ A1, A1 = (if ZG = (1 : Int).toNat then (some Zg) else ((some Zg) : Option Addr).map (·.add ((1 : Int).toNat * 1))) := ⟨_, rfl⟩; obtain ⟨c48, hc48⟩ : ∃ c1, c1 = ZG - (1 : Int).toNat := ⟨_, rfl⟩; have ZM : y130.length = Za.length - (1 : Int).toNat := (by rw [ZU.out, List.length_drop]); rw [← ZU.out] at hr48
                rw [← ZM, ← hA48, ← hc48] at hcut48
                replace hr48 : Kd.Q Kd.string 9 w47 w.heap.size (fun k_ => some k_ ≠ (.slice (some Zk) Zb.length ZC : Value).ownBlock) (.slice A48 y130.length c48) y130 := (by rw [hA48, hc48, ZM]; exact hr48); have HE48 : Aside0 ((Value.slice A48 y130.length c48).ownBlock = (.slice (some Zg) Za.length ZG : Value).ownBlock) := ⟨by rw [hA48]; split <;> (cases ((some Zg) : Option Addr) <;> rfl)⟩; clear ZM hi048 hsz48 Ze hA48 hc48; have Zz := ak hr48; clear hr48; replace q48 := eq_true q48; have n_ := ak (Kd.Q_mono (ok' := fun k_ => some k_ ≠ (.slice A48 y130.length c48 : Value).ownBlock) Zd.out (fun k_ hk => (by rw [HE48.out]; exact hk))); clear Zd; have Zd := n_; clear n_; have q49 : (1 : Int) ≤ ((Zb.length : Int) : Int) := of_decide_eq_true (by first | (with_reducible assumption) | assumption); obtain ⟨i049, hi049, _, hsz49, _⟩ := info_parts info9; have hcut49 := cut_from (P := Tryz.prog) 26 9 .i64 Tryz.underlying26 hi049 1 hsz49 (some Zk) Zb.length ZC 1 (by omega) q49; have hr49 := Kd.Q_drop (k := (1 : Int).toNat) Zd.out (by omega); obtain ⟨A49, hA49⟩ : ∃ A1, A1 = (if ZC = (1 : Int).toNat then (some Zk) else ((some Zk) : Option Addr).map (·.add ((1 : Int).toNat * 1))) := ⟨_, rfl⟩; obtain ⟨c49, hc49⟩ : ∃ c1, c1 = ZC - (1 : Int).toNat := ⟨_, rfl⟩; have ZN : y133.length = Zb.length - (1 : Int).toNat := (by rw [ZV.out, List.length_drop]); rw [← ZV.out] at hr49
                rw [← ZN, ← hA49, ← hc49] at hcut49
                replace hr49 : Kd.Q Kd.string 9 w47 w.heap.size (fun k_ => some k_ ≠ (.slice A48 y130.length c48 : Value).ownBlock) (.slice A49 y133.length c49) y133 := (by rw [hA49, hc49, ZN]; exact hr49); have HE49 : Aside0 ((Value.slice A49 y133.length c49).ownBlock = (.slice (some Zk) Zb.length ZC : Value).ownBlock) := ⟨by rw [hA49]; split <;> (cases ((some Zk) : Option Addr) <;> rfl)⟩; clear ZN hi049 hsz49 Zd hA49 hc49; have Zac := ak hr49; clear hr49; replace q49 := eq_true q49; have n_ := ak (Kd.Q_mono (ok' := fun k_ => some k_ ≠ (.slice A49 y133.length c49 : Value).ownBlock) Zz.out (fun k_ hk => (by rw [HE49.out]; exact hk))); clear Zz; have Zz := n_; clear n_; try go_wp2
                go_roundg k2
                case measure => have := HJ4.out; have := HK2.out; omega
                case rel => exact ⟨(y130), (y133), H', ⟨by have := HJ4.out; have := HK2.out; omega⟩, ⟨by (with_reducible repeat (first | apply Kd.Q_alloc | apply Kd.Q_drewN | apply Kd.Q_drew)); exact Zz.out⟩, ⟨by (with_reducible repeat (first | apply Kd.Q_alloc | apply Kd.Q_drewN | apply Kd.Q_drew)); exact Zac.out⟩, ⟨bq⟩⟩
               ·
                rw [if_neg c44] at H
                exact absurd H (by simp)
              ·
               rw [if_neg c43] at H
               exact absurd H (by simp)
             ·
              replace c42 := Bool.eq_false_iff.mpr c42; subst c42; have H1 : (if ((rdOf ByteArray.empty Zb 0).size : Int) = 1 then (some false) else (if 1 ≤ (Zb.length : Int) then (filter_MatchesExtended.l0 k2 Za (Zb.drop (1 : Int).toNat)) else (none))) = some r := by rw [if_neg (show ¬ (false = true) by decide)] at H; exact H
              clear H; have H := H1; clear H1; by_cases c50 : ((rdOf ByteArray.empty Zb 0).size : Int) = 1
              ·
               rw [if_pos c50] at H
               have Zad : (((rdOf ByteArray.empty Zb 0).size : Int) == 1) = true := beq_iff_eq.mpr c50; have Zae : (((rdOf ByteArray.empty Zb 0).size : Int) != 1) = false := bne_eq_false_iff_eq.mpr c50; clear c50; obtain rfl := Option.some.inj H; obtain ⟨ZaL, ZaM, eo51, _⟩ := Kd.Q_slice Ze.out; subst eo51; have p123 : 0 ≤ (0 : Int) := (by omega); have q123 : 0 < (Za.length : Int) := of_decide_eq_true (by first | (with_reducible assumption) | assumption); obtain ⟨Zg, e123, Zh⟩ := Kd.at_string (Kd.Q_reads' Ze.out).2.2 0 p123 q123; cases e123; have qi123 : (0 < Za.length) = True := eq_true (by omega); (try rw [show ((0 : Int)).toNat = 0 from rfl] at Zh)
               (try rw [Addr.add_zero'] at Zh)
               replace p123 := eq_true p123; replace q123 := eq_true q123; obtain ⟨ZaN, ZaO, eo52, _⟩ := Kd.Q_slice Zd.out; subst eo52; try go_wp2
               have n0_ := ak (Kd.Q_drew Ze.out); have n1_ := ak (Kd.Q_drew Zd.out); have n2_ := ak (below_drew1 HB.out); clear Ze Zd HB; have Ze := n0_; have Zd := n1_; have HB := n2_; clear n0_ n1_ n2_; have p127 : 0 ≤ (0 : Int) := (by omega); have q127 : 0 < (Za.length : Int) := of_decide_eq_true (by first | (with_reducible assumption) | assumption); obtain ⟨Zw, e127, Zi⟩ := Kd.at_string (Kd.Q_reads' Ze.out).2.2 0 p127 q127; obtain rfl : Zg = Zw := (by injection e127); have qi127 : (0 < Za.length) = True := eq_true (by omega); (try rw [show ((0 : Int)).toNat = 0 from rfl] at Zi)
               (try rw [Addr.add_zero'] at Zi)
               replace p127 := eq_true p127; replace q127 := eq_true q127; have p128 : 0 ≤ (0 : Int) := (by omega); have q128 : 0 < (Zb.length : Int) := of_decide_eq_true (by first | (with_reducible assumption) | assumption); obtain ⟨Zk, e128, Zj⟩ := Kd.at_string (Kd.Q_reads' Zd.out).2.2 0 p128 q128; cases e128; have qi128 : (0 < Zb.length) = True := eq_true (by omega); (try rw [show ((0 : Int)).toNat = 0 from rfl] at Zj)
               (try rw [Addr.add_zero'] at Zj)
               replace p128 := eq_true p128; replace q128 := eq_true q128; refine start_ (n := 8) (S := fun w' => w'.cell? Zg = some (.string (rdOf ByteArray.empty Za 0)) ∧ w'.cell? Zk = some (.string (rdOf ByteArray.empty Zb 0))) (ds := []) #[false, false, false, false, false, false, false, false] (by kernel_rfl) rfl rfl ⟨Zi, Zj⟩ (fun hHeld => ?_); refine with_tabW filter_MatchesExtended.tab10 filter_MatchesExtended.bits10 (fun HT_ HW_ => ?_); generalize wr.drew = w53 at Ze Zd HB Zi Zj hHeld ⊢
               refine pu 0 (some 49) (M 8 1) ?_; refine pu 1 (some 50) (M 8 3) ?_; refine pu 3 (some 52) (M 8 11) ?_; refine pu 4 (some 53) (M 8 27) ?_; refine take_ (i := 2) (N := some 51) (v := ?_) (a' := ?_) (M 8 31) rfl rfl (take_ofW HT_.out HW_.out (by kernel_rfl)) (fun _ _ _ h => h) (Or.inl ⟨by rfl, ?_⟩) hHeld ?_ ?_; rotate_left
               ·
                rintro w' ⟨s0, s1⟩; go_simp; with_reducible rfl
               rotate_left
               ·
                simp only [Act.put, pA, pB, pC, i64_w, i32_w]; rfl
               refine take_ (i := 5) (N := some 54) (v := ?_) (a' := ?_) (M 8 63) rfl rfl (take_ofW HT_.out HW_.out (by kernel_rfl)) (fun _ _ _ h => h) (Or.inl ⟨by rfl, ?_⟩) hHeld ?_ ?_; rotate_left
               ·
                rintro w' ⟨s0, s1⟩; go_simp; with_reducible rfl
               rotate_left
               ·
                simp only [Act.put, pA, pB, pC, i64_w, i32_w]; rfl
               refine one_ (i := 6) (N := some 55) (M 8 127) rfl rfl (one_of HT_.out (by kernel_rfl)) (by decide) (fun K hK => ?_); refine goes_ Tryz.func81 (by kernel_rfl) rfl #[.string (rdOf ByteArray.empty Za 0), .string (rdOf ByteArray.empty Zb 0)] (by rfl) rfl rfl mq ?_; with_reducible refine (ascii_Same.calls k2 (rdOf ByteArray.empty Za 0) (rdOf ByteArray.empty Zb 0) false _ A41.out).mono ?_
               rintro e w' ⟨rfl, ⟨nd, rfl⟩⟩; refine ⟨_, rfl, ?_⟩; refine hK.out _ _ ⟨hHeld.1, hHeld.2⟩ (fun hHeld => ?_); clear hK K; refine norm_ (a' := ?_) ?_ ?_; rotate_left
               ·
                show Act.put _ (some 55) _ = _
                simp only [Act.put, pA, pB, pC, i64_w, i32_w]; rfl
               refine pu 7 (some 48) (M 8 255) ?_; refine done_ (done_of HT_.out (by kernel_rfl)) ?_; have p136 : 0 ≤ (0 : Int) := (by omega); have q136 : 0 < (Zb.length : Int) := of_decide_eq_true (by first | (with_reducible assumption) | assumption); obtain ⟨ZH, e136, Zm⟩ := Kd.at_string (Kd.Q_reads' Zd.out).2.2 0 p136 q136; obtain rfl : Zk = ZH := (by injection e136); have qi136 : (0 < Zb.length) = True := eq_true (by omega); (try rw [show ((0 : Int)).toNat = 0 from rfl] at Zm)
               (try rw [Addr.add_zero'] at Zm)
               replace p136 := eq_true p136; replace q136 := eq_true q136; try go_wp2
               go_ret
               exact ⟨by first | rfl | (simp [errW_none, errW_some] <;> rfl) | (simp [*, errW_none, errW_some] <;> rfl), bq⟩
              ·
               rw [if_neg c50] at H
               have Zad : (((rdOf ByteArray.empty Zb 0).size : Int) == 1) = false := beq_eq_false_iff_ne.mpr c50; have Zae : (((rdOf ByteArray.empty Zb 0).size : Int) != 1) = true := bne_iff_ne.mpr c50; by_cases c54 : 1 ≤ (Zb.length : Int)
               ·
                rw [if_pos c54] at H
                have Zaw := eq_true c54; have Zax : decide (1 ≤ (Zb.length : Int)) = true := decide_eq_true c54; clear c54; obtain ⟨y137, Zx⟩ : ∃ y_ : List ByteArray, y_ = (Zb.drop (1 : Int).toNat) := ⟨_, rfl⟩; replace H : (filter_MatchesExtended.l0 k2 Za y137) = some r := by first | (rw [Zx]; with_reducible exact H) | (have H2_ := (Option.bind_some _ _).symm.trans H; rw [Zx]; with_reducible exact H2_) | (have H2_ := (Option.bind_some _ _).symm.trans H; with_reducible exact H2_) | with_reducible exact H | (rw [Zx]; exact H) | exact H
                have ZW := ak Zx; clear Zx; have H' := ak H; clear H; obtain ⟨ZaP, Zag, eo55, _⟩ := Kd.Q_slice Ze.out; subst eo55; have p123 : 0 ≤ (0 : Int) := (by omega); have q123 : 0 < (Za.length : Int) := of_decide_eq_true (by first | (with_reducible assumption) | assumption); obtain ⟨Zg, e123, Zh⟩ := Kd.at_string (Kd.Q_reads' Ze.out).2.2 0 p123 q123; cases e123; have qi123 : (0 < Za.length) = True := eq_true (by omega); (try rw [show ((0 : Int)).toNat = 0 from rfl] at Zh)
                (try rw [Addr.add_zero'] at Zh)
                replace p123 := eq_true p123; replace q123 := eq_true q123; obtain ⟨ZaQ, ZI, eo56, _⟩ := Kd.Q_slice Zd.out; subst eo56; try go_wp2
                have n0_ := ak (Kd.Q_drew Ze.out); have n1_ := ak (Kd.Q_drew Zd.out); have n2_ := ak (below_drew1 HB.out); clear Ze Zd HB; have Ze := n0_; have Zd := n1_; have HB := n2_; clear n0_ n1_ n2_; have p127 : 0 ≤ (0 : Int) := (by omega); have q127 : 0 < (Za.length : Int) := of_decide_eq_true (by first | (with_reducible assumption) | assumption); obtain ⟨Zw, e127, Zi⟩ := Kd.at_string (Kd.Q_reads' Ze.out).2.2 0 p127 q127; obtain rfl : Zg = Zw := (by injection e127); have qi127 : (0 < Za.length) = True := eq_true (by omega); (try rw [show ((0 : Int)).toNat = 0 from rfl] at Zi)
                (try rw [Addr.add_zero'] at Zi)
                replace p127 := eq_true p127; replace q127 := eq_true q127; have p128 : 0 ≤ (0 : Int) := (by omega); have q128 : 0 < (Zb.length : Int) := of_decide_eq_true (by first | (with_reducible assumption) | assumption); obtain ⟨Zk, e128, Zj⟩ := Kd.at_string (Kd.Q_reads' Zd.out).2.2 0 p128 q128; cases e128; have qi128 : (0 < Zb.length) = True := eq_true (by omega); (try rw [show ((0 : Int)).toNat = 0 from rfl] at Zj)
                (try rw [Addr.add_zero'] at Zj)
                replace p128 := eq_true p128; replace q128 := eq_true q128; refine start_ (n := 8) (S := fun w' => w'.cell? Zg = some (.string (rdOf ByteArray.empty Za 0)) ∧ w'.cell? Zk = some (.string (rdOf ByteArray.empty Zb 0))) (ds := []) #[false, false, false, false, false, false, false, false] (by kernel_rfl) rfl rfl ⟨Zi, Zj⟩ (fun hHeld => ?_); refine with_tabW filter_MatchesExtended.tab10 filter_MatchesExtended.bits10 (fun HT_ HW_ => ?_); generalize wr.drew = w57 at Ze Zd HB Zi Zj hHeld ⊢
                refine pu 0 (some 49) (M 8 1) ?_; refine pu 1 (some 50) (M 8 3) ?_; refine pu 3 (some 52) (M 8 11) ?_; refine pu 4 (some 53) (M 8 27) ?_; refine take_ (i := 2) (N := some 51) (v := ?_) (a' := ?_) (M 8 31) rfl rfl (take_ofW HT_.out HW_.out (by kernel_rfl)) (fun _ _ _ h => h) (Or.inl ⟨by rfl, ?_⟩) hHeld ?_ ?_; rotate_left
                ·
                 rintro w' ⟨s0, s1⟩; go_simp; with_reducible rfl
                rotate_left
                ·
                 simp only [Act.put, pA, pB, pC, i64_w, i32_w]; rfl
                refine take_ (i := 5) (N := some 54) (v := ?_) (a' := ?_) (M 8 63) rfl rfl (take_ofW HT_.out HW_.out (by kernel_rfl)) (fun _ _ _ h => h) (Or.inl ⟨by rfl, ?_⟩) hHeld ?_ ?_; rotate_left
                ·
                 rintro w' ⟨s0, s1⟩; go_simp; with_reducible rfl
                rotate_left
                ·
                 simp only [Act.put, pA, pB, pC, i64_w, i32_w]; rfl
                refine one_ (i := 6) (N := some 55) (M 8 127) rfl rfl (one_of HT_.out (by kernel_rfl)) (by decide) (fun K hK => ?_); refine goes_ Tryz.func81 (by kernel_rfl) rfl #[.string (rdOf ByteArray.empty Za 0), .string (rdOf ByteArray.empty Zb 0)] (by rfl) rfl rfl mq ?_; with_reducible refine (ascii_Same.calls k2 (rdOf ByteArray.empty Za 0) (rdOf ByteArray.empty Zb 0) false _ A41.out).mono ?_
                rintro e w' ⟨rfl, ⟨nd, rfl⟩⟩; refine ⟨_, rfl, ?_⟩; refine hK.out _ _ ⟨hHeld.1, hHeld.2⟩ (fun hHeld => ?_); clear hK K; refine norm_ (a' := ?_) ?_ ?_; rotate_left
                ·
                 show Act.put _ (some 55) _ = _
                 simp only [Act.put, pA, pB, pC, i64_w, i32_w]; rfl
                refine pu 7 (some 48) (M 8 255) ?_; refine done_ (done_of HT_.out (by kernel_rfl)) ?_; have p136 : 0 ≤ (0 : Int) := (by omega); have q136 : 0 < (Zb.length : Int) := of_decide_eq_true (by first | (with_reducible assumption) | assumption); obtain ⟨ZH, e136, Zm⟩ := Kd.at_string (Kd.Q_reads' Zd.out).2.2 0 p136 q136; obtain rfl : Zk = ZH := (by injection e136); have qi136 : (0 < Zb.length) = True := eq_true (by omega); (try rw [show ((0 : Int)).toNat = 0 from rfl] at Zm)
                (try rw [Addr.add_zero'] at Zm)
                replace p136 := eq_true p136; replace q136 := eq_true q136; have q58 : (1 : Int) ≤ ((Zb.length : Int) : Int) := of_decide_eq_true (by first | (with_reducible assumption) | assumption); obtain ⟨i058, hi058, _, hsz58, _⟩ := info_parts info9; have hcut58 := cut_from (P := Tryz.prog) 26 9 .i64 Tryz.underlying26 hi058 1 hsz58 (some Zk) Zb.length ZI 1 (by omega) q58; have hr58 := Kd.Q_drop (k := (1 : Int).toNat) Zd.out (by omega); obtain ⟨A58, hA58⟩ : ∃ A1, A1 = (if ZI = (1 : Int).toNat then (some Zk) else ((some Zk) : Option Addr).map (·.add ((1 : Int).toNat * 1))) := ⟨_, rfl⟩; obtain ⟨c58, hc58⟩ : ∃ c1, c1 = ZI - (1 : Int).toNat := ⟨_, rfl⟩; have ZO : y137.length = Zb.length - (1 : Int).toNat := (by rw [ZW.out, List.length_drop]); rw [← ZW.out] at hr58
                rw [← ZO, ← hA58, ← hc58] at hcut58
                replace hr58 : Kd.Q Kd.string 9 w57 w.heap.size (fun k_ => some k_ ≠ (.slice (some Zg) Za.length Zag : Value).ownBlock) (.slice A58 y137.length c58) y137 := (by rw [hA58, hc58, ZO]; exact hr58); have HE58 : Aside0 ((Value.slice A58 y137.length c58).ownBlock = (.slice (some Zk) Zb.length ZI : Value).ownBlock) := ⟨by rw [hA58]; split <;> (cases ((some Zk) : Option Addr) <;> rfl)⟩; clear ZO hi058 hsz58 Zd hA58 hc58; have Zaf := ak hr58; clear hr58; replace q58 := eq_true q58; have n_ := ak (Kd.Q_mono (ok' := fun k_ => some k_ ≠ (.slice A58 y137.length c58 : Value).ownBlock) Ze.out (fun k_ hk => (by rw [HE58.out]; exact hk))); clear Ze; have Ze := n_; clear n_; try go_wp2
                go_roundg k2
                case measure => have := HJ4.out; have := HK2.out; omega
                case rel => exact ⟨(Za), (y137), H', ⟨by have := HJ4.out; have := HK2.out; omega⟩, ⟨by (with_reducible repeat (first | apply Kd.Q_alloc | apply Kd.Q_drewN | apply Kd.Q_drew)); exact Ze.out⟩, ⟨by (with_reducible repeat (first | apply Kd.Q_alloc | apply Kd.Q_drewN | apply Kd.Q_drew)); exact Zaf.out⟩, ⟨bq⟩⟩
               ·
                rw [if_neg c54] at H
                exact absurd H (by simp)
            ·
             rw [if_neg c40] at H
             exact absurd H (by simp)
         ·
          rw [if_neg c32] at H
          exact absurd H (by simp)
        ·
         rw [if_neg c31] at H
         have Z5 : decide (0 < (Za.length : Int)) = false := decide_eq_false c31; have Z6 : decide (0 < Za.length) = false := decide_eq_false (by omega); clear c31; obtain rfl := Option.some.inj H; obtain ⟨ZaR, ZaS, eo59, _⟩ := Kd.Q_slice Ze.out; subst eo59; go_wp2
         go_ret
         exact ⟨by first | rfl | (simp [errW_none, errW_some] <;> rfl) | (simp [*, errW_none, errW_some] <;> rfl), bq⟩
     ·
      rw [if_neg c25] at H
      exact absurd H (by simp)
    ·
     rw [if_neg c24] at H
     exact absurd H (by simp)

def filter_MatchesExtended.Pure : Prop := ∀ (a0 : ByteArray) (a1 : ByteArray), a0.size ≤ 140737488351232 → a1.size ≤ 140737488351232 → ∃ k, filter_MatchesExtended.f k a0 a1 = some true
theorem filter_MatchesExtended.walk (P : filter_MatchesExtended.Pure) (a0 : ByteArray) (a1 : ByteArray) (w : World) (w0 : a0.size ≤ 140737488351232) (w1 : a1.size ≤ 140737488351232) :
 Calls Tryz.prog 52 #[.string a0, .string a1] w fun e w' => e = .returned (.bool true) ∧ Below w.heap.size w w' := by
 obtain ⟨k, h⟩ := P a0 a1 w0 w1; refine (filter_MatchesExtended.calls k a0 a1 true w h).mono ?_; rintro e w' ⟨rfl, hd⟩; exact ⟨rfl, hd⟩
def filter_Matches.j0 : Nat → ByteArray → ByteArray → Bool → Option (Bool)
 | 0, _, _, _ => none
 | k + 1, x0, x1, x12 => if x12 = true then (some (x0.toList == ([42] : List UInt8))) else ((ascii_Same.f k x0 x1).bind fun t146 => (if t146 = true then (some true) else (if (x1.size : Int) > (x0.size : Int) then (if 0 ≤ (x0.size : Int) then (if (x0.size : Int) ≤ (x1.size : Int) then ((ascii_Same.f k x0 (x1.extract 0 ((x0.size : Int) : Int).toNat)).bind fun t147 => (if t147 = true then (if (x0.size : Int) < (x1.size : Int) then (some ((bt x1 (x0.size : Int)) == 45)) else (none)) else (some false))) else (none)) else (none)) else (some false))))
def filter_Matches.f (k : Nat) (a0 : ByteArray) (a1 : ByteArray) : Option (Bool) := (filter_Basic.f a0).bind fun t145 => (if t145 = true then (filter_Matches.j0 k a0 a1 (a0.toList == ([42] : List UInt8))) else (filter_Matches.j0 k a0 a1 true))
theorem filter_Matches.mono_l : ∀ k, (∀ y0 y1 y2, LeO (filter_Matches.j0 k y0 y1 y2) (filter_Matches.j0 (k + 1) y0 y1 y2))
 | 0 => fun _ _ _ r h => by simp [filter_Matches.j0] at h
 | k + 1 => by
  have ih0 := filter_Matches.mono_l k
  ·
   intro y0 y1 y2
   unfold filter_Matches.j0
   repeat' first
   | (with_reducible exact ih0 _ _ _)
   | (with_reducible exact ascii_Same.mono _ _ _)
   | (with_reducible exact LeO.refl _)
   | (with_reducible exact LeO.none _)
   | (with_reducible refine LeO.ite ?_ ?_)
   | (with_reducible refine LeO.bind ?_ (fun _ => ?_))
   | exact ih0 _ _ _
   | exact ascii_Same.mono _ _ _
   | exact LeO.none _
   | refine LeO.ite ?_ ?_
   | refine LeO.bind ?_ (fun _ => ?_)
theorem filter_Matches.mono : ∀ a0 a1 k, LeO (filter_Matches.f k a0 a1) (filter_Matches.f (k + 1) a0 a1) := by
 intro a0 a1 k; have ih0 := filter_Matches.mono_l k; unfold filter_Matches.f
 repeat' first
  | (with_reducible exact ih0 _ _ _)
  | (with_reducible exact ascii_Same.mono _ _ _)
  | (with_reducible exact LeO.refl _)
  | (with_reducible exact LeO.none _)
  | (with_reducible refine LeO.ite ?_ ?_)
  | (with_reducible refine LeO.bind ?_ (fun _ => ?_))
  | exact ih0 _ _ _
  | exact ascii_Same.mono _ _ _
  | exact LeO.none _
  | refine LeO.ite ?_ ?_
  | refine LeO.bind ?_ (fun _ => ?_)
theorem filter_Matches.calls (k : Nat) (a0 : ByteArray) (a1 : ByteArray) (r : Bool) (w : World) (h : filter_Matches.f k a0 a1 = some r) :
 Calls Tryz.prog 49 #[.string a0, .string a1] w fun e w' => e = .returned (.bool r) ∧ Below w.heap.size w w' := by
 have HB := ak (Below.refl w.heap.size w); have H : ((filter_Basic.f a0).bind fun t145 => (if t145 = true then (filter_Matches.j0 k a0 a1 (a0.toList == ([42] : List UInt8))) else (filter_Matches.j0 k a0 a1 true))) = some r := h; clear h; have HC3 := ak H; clear H; go_enter Tryz.func49, Tryz.ntmps49
 go_upto_region 1 with (fail)
 go_cut [12] (fun v12 wc => ∃ (kq : Nat) (Za : Bool), v12 = .bool Za ∧ Aside0 (filter_Matches.j0 kq a0 a1 Za = some r) ∧ Aside0 (kq ≤ k) ∧ Aside0 (Below w.heap.size w wc))
 case first =>
  have H := HC3.out; clear HC3; replace H := Option.bind_eq_some_iff.mp H; obtain ⟨t145, A40, H⟩ := H; have A4 := ak A40; clear A40; by_cases c5 : t145 = true
  ·
   subst c5; have H1 : (filter_Matches.j0 k a0 a1 (a0.toList == ([42] : List UInt8))) = some r := by rw [if_pos rfl] at H; exact H
   clear H; have H := H1; clear H1; have H' := ak H; clear H; go_wp2_with (first | ((with_reducible refine gate_callee (f := 80) rfl ?_); refine goesL_ (some 7) rfl rfl Tryz.func80 (by kernel_rfl) rfl #[.string a0] rfl mq ?_; (with_reducible refine (filter_Basic.calls a0 true _ A4.out).mono ?_); rintro e w6 ⟨rfl, hb⟩; refine ⟨_, rfl, ?_⟩; have n0_ := ak (below_step bq hb); clear HB; have HB := n0_; clear n0_; (try clear hb); (try clear hb2); (try clear hk); (try clear hi); (try clear A4)))
   go_meet
   case rel => exact ⟨_, ((a0.toList == ([42] : List UInt8))), (by first | rfl | (simp; done) | (simp [*]; done)), H', ⟨by first | omega | exact Nat.le_refl _⟩, ⟨bq⟩⟩
  ·
   replace c5 := Bool.eq_false_iff.mpr c5; subst c5; have H1 : (filter_Matches.j0 k a0 a1 true) = some r := by rw [if_neg (show ¬ (false = true) by decide)] at H; exact H
   clear H; have H := H1; clear H1; have H' := ak H; clear H; go_wp2_with (first | ((with_reducible refine gate_callee (f := 80) rfl ?_); refine goesL_ (some 7) rfl rfl Tryz.func80 (by kernel_rfl) rfl #[.string a0] rfl mq ?_; (with_reducible refine (filter_Basic.calls a0 false _ A4.out).mono ?_); rintro e w7 ⟨rfl, hb⟩; refine ⟨_, rfl, ?_⟩; have n0_ := ak (below_step bq hb); clear HB; have HB := n0_; clear n0_; (try clear hb); (try clear hb2); (try clear hk); (try clear hi); (try clear A4)))
   go_meet
   case rel => exact ⟨_, (true), (by first | rfl | (simp; done) | (simp [*]; done)), H', ⟨by first | omega | exact Nat.le_refl _⟩, ⟨bq⟩⟩
 case rest =>
  clear HC3; obtain ⟨kq, Za, rfl, HA, HJ2, HB⟩ := hcut; cases kq with
  | zero => exact absurd HA.out (by simp [filter_Matches.j0])
  | succ kj2 =>
   have H := HA.out; clear HA; simp only [filter_Matches.j0] at H
   by_cases c8 : Za = true
   ·
    subst c8; have H1 : (some (a0.toList == ([42] : List UInt8))) = some r := by rw [if_pos rfl] at H; exact H
    clear H; have H := H1; clear H1; obtain rfl := Option.some.inj H; go_wp2
    go_ret
    exact ⟨by first | rfl | (simp [errW_none, errW_some] <;> rfl) | (simp [*, errW_none, errW_some]; exact congrArg (· == 45) (bt_at _ ((_ : Nat) : Int) _)) | (simp [*, errW_none, errW_some] <;> rfl), bq⟩
   ·
    replace c8 := Bool.eq_false_iff.mpr c8; subst c8; have H1 : ((ascii_Same.f kj2 a0 a1).bind fun t146 => (if t146 = true then (some true) else (if (a1.size : Int) > (a0.size : Int) then (if 0 ≤ (a0.size : Int) then (if (a0.size : Int) ≤ (a1.size : Int) then ((ascii_Same.f kj2 a0 (a1.extract 0 ((a0.size : Int) : Int).toNat)).bind fun t147 => (if t147 = true then (if (a0.size : Int) < (a1.size : Int) then (some ((bt a1 (a0.size : Int)) == 45)) else (none)) else (some false))) else (none)) else (none)) else (some false)))) = some r := by rw [if_neg (show ¬ (false = true) by decide)] at H; exact H
    clear H; have H := H1; clear H1; replace H := Option.bind_eq_some_iff.mp H; obtain ⟨t146, A90, H⟩ := H; have A9 := ak A90; clear A90; by_cases c10 : t146 = true
    ·
     subst c10; have H1 : (some true) = some r := by rw [if_pos rfl] at H; exact H
     clear H; have H := H1; clear H1; obtain rfl := Option.some.inj H; go_wp2_with (first | ((with_reducible refine gate_callee (f := 81) rfl ?_); refine goesL_ (some 19) rfl rfl Tryz.func81 (by kernel_rfl) rfl #[.string a0, .string a1] rfl mq ?_; (with_reducible refine (ascii_Same.calls kj2 a0 a1 true _ A9.out).mono ?_); rintro e w' ⟨rfl, ⟨nd, rfl⟩⟩; refine ⟨_, rfl, ?_⟩; (try clear A9)))
     go_ret
     exact ⟨by first | rfl | (simp [errW_none, errW_some] <;> rfl) | (simp [*, errW_none, errW_some]; exact congrArg (· == 45) (bt_at _ ((_ : Nat) : Int) _)) | (simp [*, errW_none, errW_some] <;> rfl), bq⟩
    ·
     replace c10 := Bool.eq_false_iff.mpr c10; subst c10; have H1 : (if (a1.size : Int) > (a0.size : Int) then (if 0 ≤ (a0.size : Int) then (if (a0.size : Int) ≤ (a1.size : Int) then ((ascii_Same.f kj2 a0 (a1.extract 0 ((a0.size : Int) : Int).toNat)).bind fun t147 => (if t147 = true then (if (a0.size : Int) < (a1.size : Int) then (some ((bt a1 (a0.size : Int)) == 45)) else (none)) else (some false))) else (none)) else (none)) else (some false)) = some r := by rw [if_neg (show ¬ (false = true) by decide)] at H; exact H
     clear H; have H := H1; clear H1; by_cases c11 : (a1.size : Int) > (a0.size : Int)
     ·
      rw [if_pos c11] at H
      have Zb : decide ((a0.size : Int) < (a1.size : Int)) = true := decide_eq_true c11; have Zc : decide (a0.size < a1.size) = true := decide_eq_true (Int.ofNat_lt.mp c11); clear c11; by_cases c12 : 0 ≤ (a0.size : Int)
      ·
       rw [if_pos c12] at H
       have Zd := eq_true c12; have Ze : decide (0 ≤ (a0.size : Int)) = true := decide_eq_true c12; clear c12; by_cases c13 : (a0.size : Int) ≤ (a1.size : Int)
       ·
        rw [if_pos c13] at H
        have Zf := eq_true c13; have Zg : decide ((a0.size : Int) ≤ (a1.size : Int)) = true := decide_eq_true c13; clear c13; replace H := Option.bind_eq_some_iff.mp H; obtain ⟨t147, A140, H⟩ := H; rw [Int.toNat_natCast] at A140
        have A14 := ak A140; clear A140; by_cases c15 : t147 = true
        ·
         subst c15; have H1 : (if (a0.size : Int) < (a1.size : Int) then (some ((bt a1 (a0.size : Int)) == 45)) else (none)) = some r := by rw [if_pos rfl] at H; exact H
         clear H; have H := H1; clear H1; by_cases c16 : (a0.size : Int) < (a1.size : Int)
         ·
          rw [if_pos c16] at H
          have Zh : decide ((a0.size : Int) < (a1.size : Int)) = true := decide_eq_true c16; have Zi : decide (a0.size < a1.size) = true := decide_eq_true (Int.ofNat_lt.mp c16); clear c16; obtain rfl := Option.some.inj H; go_wp2_with (first | ((with_reducible refine gate_callee (f := 81) rfl ?_); refine goesL_ (some 19) rfl rfl Tryz.func81 (by kernel_rfl) rfl #[.string a0, .string a1] rfl mq ?_; (with_reducible refine (ascii_Same.calls kj2 a0 a1 false _ A9.out).mono ?_); rintro e w' ⟨rfl, ⟨nd, rfl⟩⟩; refine ⟨_, rfl, ?_⟩; (try clear A9)) | (go_at_call 81; (with_reducible refine (ascii_Same.calls kj2 a0 (a1.extract 0 a0.size) true _ A14.out).mono ?_); rintro e w' ⟨rfl, ⟨nd, rfl⟩⟩; have p17 : 0 ≤ ((a0.size : Int) : Int) := of_decide_eq_true (by first | (with_reducible assumption) | assumption); have q17 : (a0.size : Int) < (a1.size : Int) := of_decide_eq_true (by first | (with_reducible assumption) | assumption); have hx17 := bt_at a1 (a0.size : Int); replace p17 := eq_true p17; replace q17 := eq_true q17; (try clear A14)))
          go_ret
          exact ⟨by first | rfl | (simp [errW_none, errW_some] <;> rfl) | (simp [*, errW_none, errW_some]; exact congrArg (· == 45) (bt_at _ ((_ : Nat) : Int) _)) | (simp [*, errW_none, errW_some] <;> rfl), bq⟩
         ·
          rw [if_neg c16] at H
          exact absurd H (by simp)
        ·
         replace c15 := Bool.eq_false_iff.mpr c15; subst c15; have H1 : (some false) = some r := by rw [if_neg (show ¬ (false = true) by decide)] at H; exact H
         clear H; have H := H1; clear H1; obtain rfl := Option.some.inj H; go_wp2_with (first | ((with_reducible refine gate_callee (f := 81) rfl ?_); refine goesL_ (some 19) rfl rfl Tryz.func81 (by kernel_rfl) rfl #[.string a0, .string a1] rfl mq ?_; (with_reducible refine (ascii_Same.calls kj2 a0 a1 false _ A9.out).mono ?_); rintro e w' ⟨rfl, ⟨nd, rfl⟩⟩; refine ⟨_, rfl, ?_⟩; (try clear A9)) | (go_at_call 81; (with_reducible refine (ascii_Same.calls kj2 a0 (a1.extract 0 a0.size) false _ A14.out).mono ?_); rintro e w' ⟨rfl, ⟨nd, rfl⟩⟩; (try clear A14)))
         go_ret
         exact ⟨by first | rfl | (simp [errW_none, errW_some] <;> rfl) | (simp [*, errW_none, errW_some]; exact congrArg (· == 45) (bt_at _ ((_ : Nat) : Int) _)) | (simp [*, errW_none, errW_some] <;> rfl), bq⟩
       ·
        rw [if_neg c13] at H
        exact absurd H (by simp)
      ·
       rw [if_neg c12] at H
       exact absurd H (by simp)
     ·
      rw [if_neg c11] at H
      have Zb : decide ((a0.size : Int) < (a1.size : Int)) = false := decide_eq_false c11; have Zc : decide (a0.size < a1.size) = false := decide_eq_false (fun h => c11 (Int.ofNat_lt.mpr h)); clear c11; obtain rfl := Option.some.inj H; go_wp2_with (first | ((with_reducible refine gate_callee (f := 81) rfl ?_); refine goesL_ (some 19) rfl rfl Tryz.func81 (by kernel_rfl) rfl #[.string a0, .string a1] rfl mq ?_; (with_reducible refine (ascii_Same.calls kj2 a0 a1 false _ A9.out).mono ?_); rintro e w' ⟨rfl, ⟨nd, rfl⟩⟩; refine ⟨_, rfl, ?_⟩; (try clear A9)))
      go_ret
      exact ⟨by first | rfl | (simp [errW_none, errW_some] <;> rfl) | (simp [*, errW_none, errW_some]; exact congrArg (· == 45) (bt_at _ ((_ : Nat) : Int) _)) | (simp [*, errW_none, errW_some] <;> rfl), bq⟩

def filter_Matches.Pure : Prop := ∀ (a0 : ByteArray) (a1 : ByteArray), a0.size ≤ 140737488351232 → a1.size ≤ 140737488351232 → ∃ k, filter_Matches.f k a0 a1 = some true
theorem filter_Matches.walk (P : filter_Matches.Pure) (a0 : ByteArray) (a1 : ByteArray) (w : World) (w0 : a0.size ≤ 140737488351232) (w1 : a1.size ≤ 140737488351232) :
 Calls Tryz.prog 49 #[.string a0, .string a1] w fun e w' => e = .returned (.bool true) ∧ Below w.heap.size w w' := by
 obtain ⟨k, h⟩ := P a0 a1 w0 w1; refine (filter_Matches.calls k a0 a1 true w h).mono ?_; rintro e w' ⟨rfl, hd⟩; exact ⟨rfl, hd⟩
end Go.Proofs.YtpmcfckechjppaaGreatDoor.P
namespace Go.Proofs.YtpmcfckechjppaaGreatDoor.Ps
open Go.RowKit Go.Shelf Go.Proofs.YtpmcfckechjppaaGreatDoorW.PrintWords Go.Proofs.YtpmcfckechjppaaGreatDoorW.PrintLast Go.Proofs.YtpmcfckechjppaaGreatDoorW.PrintMore Go.Proofs.YtpmcfckechjppaaGreatDoor.P Go.Proofs.YtpmcfckechjppaaGreatDoor.LikW
attribute [local go_sem] Oper.semAt_some
set_option linter.unusedVariables false
set_option linter.unusedSimpArgs false
set_option maxRecDepth 100000
set_option maxHeartbeats 8000000
theorem filter_snoc {α : Type} (f : α → Bool) (l : List α) (i : Nat) (x : α) (h : l[i]? = some x) : (l.take (i + 1)).filter f = (l.take i).filter f ++ (if f x = true then [x] else []) := by
 rw [List.take_add_one, h, Option.toList_some, List.filter_append]
 cases hx : f x <;> simp [hx]
theorem any_snoc {α : Type} (f : α → Bool) (l : List α) (i : Nat) (x : α) (h : l[i]? = some x) : (l.take (i + 1)).any f = ((l.take i).any f || f x) := by
 rw [List.take_add_one, h, Option.toList_some, List.any_append]
 simp
theorem through_c (tags ranges : List ByteArray) (m : Nat) (em : ∀ args W, (callFunc m args).run Tryz.prog W = .ok (.enter m args) W) (g : ByteArray → ByteArray → Bool)
 (hm : ∀ r ∈ ranges, ∀ t ∈ tags, ∀ W, Calls Tryz.prog m #[.string r, .string t] W fun e w' => e = .returned (.bool (g r t)) ∧ Below W.heap.size W w')
 (A B : Option Addr) (cA cB : Nat) (w : World) (hl : tags.length ≤ 1000000) (hl2 : ranges.length ≤ 1000000) (hA : Kd.C Kd.string w A tags.length tags) (hB : Kd.C Kd.string w B ranges.length ranges) :
 Calls Tryz.prog 48 #[.slice A tags.length cA, .slice B ranges.length cB, .func (.func m) #[] #[]] w fun e w' => ∃ v, e = .returned v ∧ Kd.R Kd.string 9 w' w.heap.size (fun _ => True) v (tags.filter fun t => ranges.any fun r => g r t) ∧ Below w.heap.size w w' := by
 have HA := Aside0.mk hA
 have HRB := Aside0.mk hB
 have HM := Aside0.mk hm
 have HL := Aside0.mk hl
 have HL2 := Aside0.mk hl2
 clear hA hB hm hl hl2
 go_enter Tryz.func48, Tryz.ntmps48
 go_wp2
 go_loopw [7, 14] (fun vo vi wr => ∃ (i : Nat) (out : List ByteArray), vi = .int .i64 (i : Int) ∧ i ≤ tags.length ∧ Aside0 (out = (tags.take i).filter fun t => ranges.any fun r => g r t) ∧ Aside0 (Kd.R Kd.string 9 wr w.heap.size (fun _ => True) vo out) ∧ Aside0 (Below w.heap.size w wr)) (fun _ vi _ => tags.length - (intOf vi).toNat)
 case atStart => exact ⟨0, [], rfl, Nat.zero_le _, ⟨rfl⟩, ⟨Kd.R_nil _ _ _ _ _⟩, ⟨Below.refl _ _⟩⟩
 case round =>
  obtain ⟨i, out, rfl, hi, HO, HR, HB⟩ := hrel
  by_cases hlt : i < tags.length
  · obtain ⟨ad, e, x0⟩ := Kd.at_string HA.out (i : Int) (by omega) (by omega)
    cases e
    have x1 := (HB.out.cell (World.block_lt_of_cell? w _ x0)).trans x0
    obtain ⟨t, ht⟩ : ∃ t, t = rdOf ByteArray.empty tags (i : Int) := ⟨_, rfl⟩
    rw [← ht] at x0 x1
    simp only [Int.toNat_natCast] at x0 x1
    have ht2 : tags[i]? = some t := by rw [ht]; simp [rdOf, List.getD_eq_getElem?_getD, List.getElem?_eq_getElem hlt]
    have hmt := fun r hr => HM.out r hr t (List.mem_of_getElem? ht2)
    have HMT := Aside0.mk hmt
    have HT2 := Aside0.mk ht2
    clear hmt ht ht2
    have d1 : decide ((i : Int) < (tags.length : Int)) = true := decide_eq_true (by omega)
    have m0 : (0 : Int) ≤ (i : Int) := by omega
    have m1 : (i : Int) < (tags.length : Int) := by omega
    have m2 : i < tags.length := hlt
    go_wp2
    refine wp_scope_straight ?_
    go_wp2
    refine wp_label ?_
    simp only [Exit.then]
    go_wp2
    go_loopw [7, 20] (fun vo' vk wr' => ∃ (k : Nat), vk = .int .i64 (k : Int) ∧ k ≤ ranges.length ∧ Aside0 ((ranges.take k).any (fun r => g r t) = false) ∧ Aside0 (Kd.R Kd.string 9 wr' w.heap.size (fun _ => True) vo' out) ∧ Aside0 (Below w.heap.size w wr')) (fun _ vk _ => ranges.length - (intOf vk).toNat)
    case atStart => exact ⟨0, rfl, Nat.zero_le _, ⟨rfl⟩, HR, HB⟩
    case round =>
     obtain ⟨k, rfl, hk, HN, HR2, HB2⟩ := hrel
     clear x0 x1
     by_cases hlt2 : k < ranges.length
     · obtain ⟨ad2, e, x0⟩ := Kd.at_string HRB.out (k : Int) (by omega) (by omega)
       cases e
       have x1 := (HB2.out.cell (World.block_lt_of_cell? w _ x0)).trans x0
       obtain ⟨r, hr⟩ : ∃ r, r = rdOf ByteArray.empty ranges (k : Int) := ⟨_, rfl⟩
       rw [← hr] at x0 x1
       simp only [Int.toNat_natCast] at x0 x1
       have hr2 : ranges[k]? = some r := by rw [hr]; simp [rdOf, List.getD_eq_getElem?_getD, List.getElem?_eq_getElem hlt2]
       have hc := HMT.out r (List.mem_of_getElem? hr2)
       have HC := Aside0.mk hc
       have d2 : decide ((k : Int) < (ranges.length : Int)) = true := decide_eq_true (by omega)
       have m3 : (0 : Int) ≤ (k : Int) := by omega
       have m4 : (k : Int) < (ranges.length : Int) := by omega
       have m5 : k < ranges.length := hlt2
       have hsn := any_snoc (fun r => g r t) ranges k r hr2
       rw [HN.out] at hsn
       have wk : wrap64 ((k : Int) + 1) = (k : Int) + 1 := by unfold wrap64; have := HL2.out; omega
       cases hg : g r t with
       | true =>
        have hany : ranges.any (fun r => g r t) = true := List.any_eq_true.2 ⟨r, List.mem_of_getElem? hr2, hg⟩
        have HG := Aside0.mk hg
        have HANY := Aside0.mk hany
        have hf := filter_snoc (fun t => ranges.any fun r => g r t) tags i t HT2.out
        simp only [hany, ← HO.out, if_true] at hf
        have HF := Aside0.mk hf
        have hlo : out.length ≤ 1000000 := by
         rw [HO.out]
         have h1 := List.length_filter_le (fun t => ranges.any fun r => g r t) (tags.take i)
         have h2 := List.length_take_le' i tags
         have := HL.out
         omega
        have HLO := Aside0.mk hlo
        have wi : wrap64 ((i : Int) + 1) = (i : Int) + 1 := by unfold wrap64; have := HL.out; omega
        clear hr hr2 hc hsn hg hany x0 hf hlo HR HB
        go_wp2_with (first
         | (with_reducible refine (HC.out _).mono ?_; rintro e w1 ⟨rfl, hb⟩; rw [HG.out]; have HR3 := Aside0.mk (Kd.R_below HR2.out hb); have HB3 := Aside0.mk (HB2.out.trans (hb.mono HB2.out.size)); clear HR2 HB2 hb)
         | ((with_reducible refine gate_builtin (b := .append) (xs := #[.tmp 28, .tmp 30]) rfl ?_); at_builtin; refine Kd.R_append Kd.string (w0 := w) w.heap.size rfl (.tmp 28) (.tmp 30) 26 9 (.string ⟨#[]⟩) 16 rfl Tryz.underlying26 info9 rfl (by decide) (by omega) u7 out t [.string t] (fun _ => True) (fun _ => False) rfl rfl ?aP (fun _ hk => hk.elim) ?aF ?aO ?aB ?aS ?aL ?_; (case aP => exact rfl); (case aB => exact HB3.out); (case aF => exact (fun _ _ => trivial)); (case aO => exact HR3.out); (case aS => exact (below_size HB3.out)); (case aL => have := HLO.out; omega); intro v165 w14 ho hb hg hat; have n0_ := ak (hb); have n1_ := ak (ho); clear HB3; clear HR3; have HB3 := n0_; have HR3 := n1_; clear n0_ n1_; clear ho hb hg hat))
        simp only [Exit.noGoto, Exit.inBlock, Exit.then]
        go_wp2
        go_roundw
        case rel => exact ⟨i + 1, out ++ [t], by rw [wi]; simp, by omega, ⟨by rw [HF.out]⟩, HR3, HB3⟩
        case measure => rw [wi]; simp [intOf]; omega
       | false =>
        have HG := Aside0.mk hg
        have HSN : Aside0 ((ranges.take (k + 1)).any (fun r => g r t) = false) := ⟨by rw [hsn]; simp [hg]⟩
        clear hr hr2 hc hsn hg x0
        go_wp2_with (first | (with_reducible refine (HC.out _).mono ?_; rintro e w1 ⟨rfl, hb⟩; rw [HG.out]))
        go_roundw
        case rel => exact ⟨k + 1, by rw [wk]; simp, by omega, HSN, ⟨Kd.R_below HR2.out hb⟩, ⟨HB2.out.trans (hb.mono HB2.out.size)⟩⟩
        case measure => rw [wk]; simp [intOf]; omega
     · obtain rfl : k = ranges.length := by omega
       have d2 : decide ((ranges.length : Int) < (ranges.length : Int)) = false := decide_eq_false (by omega)
       have hn := HN.out
       rw [List.take_length] at hn
       have hf := filter_snoc (fun t => ranges.any fun r => g r t) tags i t HT2.out
       simp only [hn, ← HO.out] at hf
       have HF := Aside0.mk hf
       clear hn hf
       have wi : wrap64 ((i : Int) + 1) = (i : Int) + 1 := by unfold wrap64; have := HL.out; omega
       go_wp2
       simp only [Exit.noGoto, Exit.inBlock, Exit.then]
       go_wp2
       go_roundw
       case rel => exact ⟨i + 1, out, by rw [wi]; simp, by omega, ⟨by rw [HF.out]; simp⟩, HR2, HB2⟩
       case measure => rw [wi]; simp [intOf]; omega
  · obtain rfl : i = tags.length := by omega
    have d1 : decide ((tags.length : Int) < (tags.length : Int)) = false := decide_eq_false (by omega)
    have ho := HO.out
    rw [List.take_length] at ho
    have HO2 := Aside0.mk ho
    clear ho
    go_wp2
    go_ret
    exact ⟨_, rfl, by rw [← HO2.out]; exact HR.out, HB.out⟩
end Go.Proofs.YtpmcfckechjppaaGreatDoor.Ps
