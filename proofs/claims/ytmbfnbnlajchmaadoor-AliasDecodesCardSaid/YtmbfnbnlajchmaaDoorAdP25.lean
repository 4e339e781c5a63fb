/- Made by a program of this seat's own (myprint.py, round the kit's print): what the functions compute, and that they do. -/
import Derived.Test.YtmbfnbnlajchmaaDoorAdP0
import Derived.Test.YtmbfnbnlajchmaaDoorAdP15
import Derived.Test.YtmbfnbnlajchmaaDoorAdP24
import Derived.Test.YtmbfnbnlajchmaaDoorAdTight
namespace Go.Proofs.YtmbfnbnlajchmaaDoor.P
open Go.RowKit Go.Proofs.YtmbfnbnlajchmaaDoorW.PrintWords Go.Proofs.YtmbfnbnlajchmaaDoorW.PrintLast Go.Proofs.YtmbfnbnlajchmaaDoorW.PrintMore
attribute [local go_sem] StrOrd.binOp_gtr StrOrd.binOp_leq max2_int min2_int max_two min_two max_three min_three max_four min_four   -- for this text's walks alone
set_option linter.unusedVariables false
set_option linter.unusedSimpArgs false

mutual
def isoglossref03_Get.j0 : Nat → ByteArray → Int → Int → Bool → Option (Int × Bool)
 | 0, _, _, _, _ => none
 | k + 1, x0, x1, x2, x26 => if x26 = true then (some (0, false)) else (isoglossref03_Get.l0 k x0 x1 x2 0 0)
def isoglossref03_Get.l0 : Nat → ByteArray → Int → Int → Int → Int → Option (Int × Bool)
 | 0, _, _, _, _, _ => none
 | k + 1, x0, x1, x2, x7, x8 => if x8 < x2 then (if 0 ≤ (wrap64 (x1 + x8)) then (if (wrap64 (x1 + x8)) < (x0.size : Int) then (isoglossref03_Get.l0 k x0 x1 x2 (IntKind.u64.wrap ((IntKind.u64.wrap (x7 * 256)) + (IntKind.u64.wrap (bt x0 (wrap64 (x1 + x8)))))) (wrap64 (x8 + 1))) else (none)) else (none)) else (some (x7, true))
end
def isoglossref03_Get.f (k : Nat) (a0 : ByteArray) (a1 : Int) (a2 : Int) : Option (Int × Bool) := if a2 < 0 then (isoglossref03_Get.j0 k a0 a1 a2 true) else (if a2 > 8 then (isoglossref03_Get.j0 k a0 a1 a2 true) else (if a1 < 0 then (isoglossref03_Get.j0 k a0 a1 a2 true) else (isoglossref03_Get.j0 k a0 a1 a2 (decide (a1 > (wrap64 ((a0.size : Int) - a2)))))))
set_option maxHeartbeats 8000000 in
set_option maxRecDepth 100000 in
theorem isoglossref03_Get.calls (k : Nat) (a0 : ByteArray) (a1 : Int) (a2 : Int) (r1 : Int) (r2 : Bool) (w : World) (h : isoglossref03_Get.f k a0 a1 a2 = some (r1, r2)) :
  Calls Tryd.prog 113 #[.string a0, .int .i64 a1, .int .i64 a2] w fun e w' => e = .returned (.agg #[.int .u64 r1, .bool r2]) ∧ Below w.heap.size w w' := by
 have hu95 := Tryd.underlying95
 have HB := ak (Below.refl w.heap.size w)
 have H : (if a2 < 0 then (isoglossref03_Get.j0 k a0 a1 a2 true) else (if a2 > 8 then (isoglossref03_Get.j0 k a0 a1 a2 true) else (if a1 < 0 then (isoglossref03_Get.j0 k a0 a1 a2 true) else (isoglossref03_Get.j0 k a0 a1 a2 (decide (a1 > (wrap64 ((a0.size : Int) - a2)))))))) = some (r1, r2) := h
 clear h
 have HC4 := ak H
 clear H
 go_enter Tryd.func113, Tryd.ntmps113
 go_upto_region 1 with (first | ((with_reducible refine gate_dst (N := 6) rfl ?_); (try (refine gate_guard (by rfl) ?_; dsimp only)); refine box_event ?hg (N := 6) ?hd (cs := #[.int .u64 0, .bool false]) (t := 95) ?hr ?_; (case hd => rfl); (case hg => rfl); (case hr => first | (go_simp; done) | (go_simp; rfl)); intro gb709 hg w5 hbox hb; have n0_ := ak (below_step bq hb); have n1_ := ak (hbox); have n2_ := ak ((by rw [hg]; exact (below_size bq) : w.heap.size ≤ gb709)); have n3_ := ak ((by rw [hg]; exact (below_size bq) : w.heap.size ≤ gb709)); clear HB; have HB := n0_; have BK709 := n1_; have GW709 := n2_; have GE709 := n3_; clear n0_ n1_ n2_ n3_; clear hb hbox hg))
 (try simp only [Act.put, pA, pB, pC])
 go_cut [26] (fun v26 wc => ∃ (kq : Nat) (x26_3 : Bool), v26 = .bool x26_3 ∧ Aside0 (isoglossref03_Get.j0 kq a0 a1 a2 x26_3 = some (r1, r2)) ∧ Aside0 (kq ≤ k) ∧ Aside0 (wc.heap[gb709]? = some (.cells #[.int .u64 0, .bool false] 95 (0, 0))) ∧ Aside0 (Below w.heap.size w wc))
 case first =>
  have H := HC4.out
  clear HC4
  by_cases c6 : a2 < 0
  ·
   rw [if_pos c6] at H
   have c6b0 : decide (a2 < 0) = true := decide_eq_true c6
   clear c6
   (first | rw [c6b0] | (simp only [i64_w, i32_w]; rw [c6b0]) | rw [c6b2] | skip)
   have H' := ak H
   clear H
   go_wp2
   go_meet
   case rel => exact ⟨_, (true), (by first | rfl | (simp; done) | (simp [*]; done)), H', ⟨by first | omega | exact Nat.le_refl _⟩, ⟨(bx BK709.out)⟩, ⟨bq⟩⟩
  ·
   rw [if_neg c6] at H
   have c6b0 : decide (a2 < 0) = false := decide_eq_false c6
   clear c6
   (first | rw [c6b0] | (simp only [i64_w, i32_w]; rw [c6b0]) | rw [c6b2] | skip)
   by_cases c7 : a2 > 8
   ·
    rw [if_pos c7] at H
    have c7b0 : decide (8 < a2) = true := decide_eq_true c7
    clear c7
    have H' := ak H
    clear H
    go_wp2
    go_meet
    case rel => exact ⟨_, (true), (by first | rfl | (simp; done) | (simp [*]; done)), H', ⟨by first | omega | exact Nat.le_refl _⟩, ⟨(bx BK709.out)⟩, ⟨bq⟩⟩
   ·
    rw [if_neg c7] at H
    have c7b0 : decide (8 < a2) = false := decide_eq_false c7
    clear c7
    by_cases c8 : a1 < 0
    ·
     rw [if_pos c8] at H
     have c8b0 : decide (a1 < 0) = true := decide_eq_true c8
     clear c8
     have H' := ak H
     clear H
     go_wp2
     go_meet
     case rel => exact ⟨_, (true), (by first | rfl | (simp; done) | (simp [*]; done)), H', ⟨by first | omega | exact Nat.le_refl _⟩, ⟨(bx BK709.out)⟩, ⟨bq⟩⟩
    ·
     rw [if_neg c8] at H
     have c8b0 : decide (a1 < 0) = false := decide_eq_false c8
     clear c8
     have H' := ak H
     clear H
     go_wp2
     go_meet
     case rel => exact ⟨_, (decide (a1 > (wrap64 ((a0.size : Int) - a2)))), (by first | rfl | (simp; done) | (simp [*]; done)), H', ⟨by first | omega | exact Nat.le_refl _⟩, ⟨(bx BK709.out)⟩, ⟨bq⟩⟩
 case rest =>
  clear HC4
  try clear c1
  try clear p2
  try clear c6
  try clear c6b0
  try clear p6
  try clear c7
  try clear c7b0
  try clear c8
  try clear c8b0
  obtain ⟨kq, x26_3, rfl, HA, HJ3, BK709, HB⟩ := hcut
  cases kq with
  | zero => exact absurd HA.out (by simp [isoglossref03_Get.j0])
  | succ kj3 =>
   have H := HA.out
   clear HA
   simp only [isoglossref03_Get.j0] at H
   by_cases c9 : x26_3 = true
   ·
    subst c9
    have H1 : (some (0, false)) = some (r1, r2) := by rw [if_pos rfl] at H; exact H
    clear H
    have H := H1
    clear H1
    simp only [Option.some.injEq, Prod.mk.injEq] at H
    obtain ⟨rfl, rfl⟩ := H
    obtain ⟨hcz10_0, hcz10_1⟩ := cz2 BK709.out
    obtain ⟨hfz10_0, hfz10_1⟩ := fz2 BK709.out
    go_wp2
    refine bodyPost_ret (results_cell_row rfl _ _ gb709 95 #[.int .u64 0, .bool false] (0, 0) _ rfl (bx (blk_put (cs := #[.int .u64 0, .bool false]) (bx (blk_put (cs := #[.int .u64 0, .bool false]) (bx BK709.out) 0 _ rfl)) 1 _ rfl)) Tryd.underlying95 rfl (by kernel_rfl)) rfl ?_
    exact ⟨by first | rfl | (simp [errW_none, errW_some] <;> rfl) | (simp [*, errW_none, errW_some] <;> rfl), bq⟩
   ·
    replace c9 := Bool.eq_false_iff.mpr c9
    subst c9
    have H1 : (isoglossref03_Get.l0 kj3 a0 a1 a2 0 0) = some (r1, r2) := by rw [if_neg (show ¬ (false = true) by decide)] at H; exact H
    clear H
    have H := H1
    clear H1
    have H' := ak H
    clear H
    go_wp2
    go_loopg [7, 8] kj3 (fun kq v7 v8 w' => ∃ (x7_2 : Int) (x8_2 : Int), v7 = .int .u64 x7_2 ∧ v8 = .int .i64 x8_2 ∧ Aside0 (isoglossref03_Get.l0 kq a0 a1 a2 x7_2 x8_2 = some (r1, r2)) ∧ Aside0 (kq ≤ kj3) ∧ Aside0 (w'.heap[gb709]? = some (.cells #[.int .u64 0, .bool false] 95 (0, 0))) ∧ Aside0 (Below w.heap.size w w'))
    case atStart => exact ⟨(0), (0), (by first | rfl | (simp; done) | (simp [*]; done)), (by first | rfl | (simp; done) | (simp [*]; done)), H', ⟨Nat.le_refl _⟩, ⟨(bx BK709.out)⟩, ⟨bq⟩⟩
    case round =>
     clear H'
     try clear c1
     try clear p2
     try clear c6
     try clear c6b0
     try clear p6
     try clear c7
     try clear c7b0
     try clear c8
     try clear c8b0
     try clear c9
     try clear hcz10_0
     try clear hcz10_1
     try clear hfz10_0
     try clear hfz10_1
     try clear p2
     try clear p6
     obtain ⟨x7_2, x8_2, rfl, rfl, HA, HK2, BK709, HB⟩ := hrel
     cases gk with
     | zero => exact absurd HA.out (by simp [isoglossref03_Get.l0])
     | succ k2 =>
      have H := HA.out
      clear HA
      simp only [isoglossref03_Get.l0] at H
      by_cases c11 : x8_2 < a2
      ·
       rw [if_pos c11] at H
       have c11b0 : decide (x8_2 < a2) = true := decide_eq_true c11
       clear c11
       obtain ⟨ji12, hji12⟩ : ∃ j_ : Int, (wrap64 (a1 + x8_2)) = j_ := ⟨_, rfl⟩
       replace H : (if 0 ≤ (ji12) then (if (ji12) < (a0.size : Int) then (isoglossref03_Get.l0 k2 a0 a1 a2 (IntKind.u64.wrap ((IntKind.u64.wrap (x7_2 * 256)) + (IntKind.u64.wrap (bt a0 (ji12))))) (wrap64 (x8_2 + 1))) else (none)) else (none)) = some (r1, r2) := by first | (rw [hji12] at H; exact H) | (simp only [hji12] at H ⊢; exact H)
       have hji12w : (IntKind.i64.wrap (a1 + x8_2)) = ji12 := (i64_w _).trans hji12
       by_cases c13 : 0 ≤ (ji12)
       ·
        rw [if_pos c13] at H
        have c13b0 : decide (0 ≤ (ji12)) = true := decide_eq_true c13
        clear c13
        by_cases c14 : (ji12) < (a0.size : Int)
        ·
         rw [if_pos c14] at H
         have c14b0 : decide ((ji12) < (a0.size : Int)) = true := decide_eq_true c14
         clear c14
         have H' := ak H
         clear H
         have p15 : 0 ≤ ((ji12) : Int) := of_decide_eq_true (by first | (with_reducible assumption) | assumption)
         have q15 : (ji12) < (a0.size : Int) := of_decide_eq_true (by first | (with_reducible assumption) | assumption)
         have hx15 := bt_at a0 (ji12)
         replace p15 := eq_true p15
         replace q15 := eq_true q15
         go_wp2
         go_roundg k2
         case measure => have := HJ3.out; have := HK2.out; omega
         case rel => exact ⟨(IntKind.u64.wrap ((IntKind.u64.wrap (x7_2 * 256)) + (IntKind.u64.wrap (bt a0 (ji12))))), (wrap64 (x8_2 + 1)), (by first | rfl | (simp; done) | (simp only [← hji12] <;> (first | rfl | simp)) | (simp [*]; done)), (by first | rfl | (simp; done) | (simp [*]; done)), H', ⟨by have := HJ3.out; have := HK2.out; omega⟩, ⟨(bx BK709.out)⟩, ⟨bq⟩⟩
        ·
         rw [if_neg c14] at H
         exact absurd H (by simp)
       ·
        rw [if_neg c13] at H
        exact absurd H (by simp)
      ·
       rw [if_neg c11] at H
       have c11b0 : decide (x8_2 < a2) = false := decide_eq_false c11
       clear c11
       simp only [Option.some.injEq, Prod.mk.injEq] at H
       obtain ⟨rfl, rfl⟩ := H
       obtain ⟨hcz16_0, hcz16_1⟩ := cz2 BK709.out
       obtain ⟨hfz16_0, hfz16_1⟩ := fz2 BK709.out
       go_wp2
       refine bodyPost_ret (results_cell_row rfl _ _ gb709 95 #[.int .u64 x7_2, .bool true] (0, 0) _ rfl (bx (blk_put (cs := #[.int .u64 x7_2, .bool false]) (bx (blk_put (cs := #[.int .u64 0, .bool false]) (bx BK709.out) 0 _ rfl)) 1 _ rfl)) Tryd.underlying95 rfl (by kernel_rfl)) rfl ?_
       exact ⟨by first | rfl | (simp [errW_none, errW_some] <;> rfl) | (simp [*, errW_none, errW_some] <;> rfl), bq⟩

def isoglossref12_Decode.l0 : Nat → ByteArray → Int → ByteArray → ByteArray → ByteArray → ByteArray → ByteArray → Option (Int × ByteArray × ByteArray × ByteArray × ByteArray × ByteArray × Bool)
 | 0, _, _, _, _, _, _, _ => none
 | k + 1, x0, x4, x712000, x712001, x712002, x712003, x712004 => if x4 < 5 then ((isoglossref03_Get.f k x0 (wrap64 (1 + (wrap64 (8 * x4)))) 8).bind fun bt714 => ((isoglossref03_Unpack.f k bt714.1).bind fun bt716 => (if bt716.2 = true then (if x4 = 0 then (isoglossref12_Decode.l0 k x0 (wrap64 (x4 + 1)) bt716.1 x712001 x712002 x712003 x712004) else (if x4 = 1 then (isoglossref12_Decode.l0 k x0 (wrap64 (x4 + 1)) x712000 bt716.1 x712002 x712003 x712004) else (if x4 = 2 then (isoglossref12_Decode.l0 k x0 (wrap64 (x4 + 1)) x712000 x712001 bt716.1 x712003 x712004) else (if x4 = 3 then (isoglossref12_Decode.l0 k x0 (wrap64 (x4 + 1)) x712000 x712001 x712002 bt716.1 x712004) else (if x4 = 4 then (isoglossref12_Decode.l0 k x0 (wrap64 (x4 + 1)) x712000 x712001 x712002 x712003 bt716.1) else (none)))))) else (some (0, (⟨#[]⟩ : ByteArray), (⟨#[]⟩ : ByteArray), (⟨#[]⟩ : ByteArray), (⟨#[]⟩ : ByteArray), (⟨#[]⟩ : ByteArray), false))))) else (if 0 < (x0.size : Int) then ((isoglossref12_Right.f k (wrap64 (bt x0 0)) x712000 x712001 x712002 x712003 x712004).bind fun t713 => (if t713 = true then (some (wrap64 (bt x0 0), x712000, x712001, x712002, x712003, x712004, true)) else (some (0, (⟨#[]⟩ : ByteArray), (⟨#[]⟩ : ByteArray), (⟨#[]⟩ : ByteArray), (⟨#[]⟩ : ByteArray), (⟨#[]⟩ : ByteArray), false)))) else (none))
def isoglossref12_Decode.f (k : Nat) (a0 : ByteArray) : Option (Int × ByteArray × ByteArray × ByteArray × ByteArray × ByteArray × Bool) := if (a0.size : Int) = 41 then (isoglossref12_Decode.l0 k a0 0 (⟨#[]⟩ : ByteArray) (⟨#[]⟩ : ByteArray) (⟨#[]⟩ : ByteArray) (⟨#[]⟩ : ByteArray) (⟨#[]⟩ : ByteArray)) else (some (0, (⟨#[]⟩ : ByteArray), (⟨#[]⟩ : ByteArray), (⟨#[]⟩ : ByteArray), (⟨#[]⟩ : ByteArray), (⟨#[]⟩ : ByteArray), false))
def isoglossref12_Decode.T11 : Bool × List (List Nat × List Nat) := (true, [([], []), ([0], [0]), ([1], [1]), ([], []), ([3], [3]), ([], []), ([5], [5]), ([], []), ([7], [7]), ([], []), ([9], [9]), ([], []), ([11], [11]), ([2, 4, 6, 8, 10, 12], [2, 4, 6, 8, 10, 12]), ([], []), ([14, 13, 0, 1, 2, 3, 4, 5, 6, 7, 8, 9, 10, 11, 12, 13, 14], [13, 14])])
def isoglossref12_Decode.B11 : List Nat := [0, 1, 3, 0, 8, 0, 32, 0, 128, 0, 512, 0, 2048, 8191, 0, 32767]
theorem isoglossref12_Decode.tab11 : rtab .any (opsOf Tryd.f76 11) = isoglossref12_Decode.T11 := by kernel_rfl
theorem isoglossref12_Decode.bits11 : waitsOk isoglossref12_Decode.T11.2 isoglossref12_Decode.B11 = true := by kernel_rfl
set_option maxHeartbeats 8000000 in
set_option maxRecDepth 100000 in
theorem isoglossref12_Decode.calls (k : Nat) (a0 : ByteArray) (r1 : Int) (r2 : ByteArray) (r3 : ByteArray) (r4 : ByteArray) (r5 : ByteArray) (r6 : ByteArray) (r7 : Bool) (w : World) (h : isoglossref12_Decode.f k a0 = some (r1, r2, r3, r4, r5, r6, r7)) :
  Calls Tryd.prog 76 #[.string a0] w fun e w' => e = .returned (.agg #[.int .i64 r1, .string r2, .string r3, .string r4, .string r5, .string r6, .bool r7]) ∧ Below w.heap.size w w' := by
 have hu101 := Tryd.underlying101
 have hu98 := Tryd.underlying98
 have hu114 := Tryd.underlying114
 have hu50 := Tryd.underlying50
 have hf95_0 : ∀ (n0 : Int) (n1 : Bool) (W : World), (Instr.field 95 (.agg #[.int .u64 n0, .bool n1]) 0).run Tryd.prog W = .ok (.int .u64 n0) W := by intros; kernel_rfl
 have HB := ak (Below.refl w.heap.size w)
 have H : (if (a0.size : Int) = 41 then (isoglossref12_Decode.l0 k a0 0 (⟨#[]⟩ : ByteArray) (⟨#[]⟩ : ByteArray) (⟨#[]⟩ : ByteArray) (⟨#[]⟩ : ByteArray) (⟨#[]⟩ : ByteArray)) else (some (0, (⟨#[]⟩ : ByteArray), (⟨#[]⟩ : ByteArray), (⟨#[]⟩ : ByteArray), (⟨#[]⟩ : ByteArray), (⟨#[]⟩ : ByteArray), false))) = some (r1, r2, r3, r4, r5, r6, r7) := h
 clear h
 by_cases c2 : (a0.size : Int) = 41
 ·
  rw [if_pos c2] at H
  have c2b0 : ((a0.size : Int) == 41) = true := beq_iff_eq.mpr c2
  have c2b1 : ((a0.size : Int) != 41) = false := bne_eq_false_iff_eq.mpr c2
  clear c2
  have H' := ak H
  clear H
  go_enter Tryd.func76, Tryd.ntmps76
  go_wp2_with (first | ((with_reducible refine gate_dst (N := 2) rfl ?_); refine box_event ?hg (N := 2) ?hd (cs := #[.int .i64 0, .string ⟨#[]⟩, .string ⟨#[]⟩, .string ⟨#[]⟩, .string ⟨#[]⟩, .string ⟨#[]⟩, .bool false]) (t := 101) ?hr ?_; (case hd => rfl); (case hg => rfl); (case hr => first | (go_simp; done) | (go_simp; rfl)); intro gb710 hg w3 hbox hb; have n0_ := ak (below_step bq hb); have n1_ := ak (hbox); have n2_ := ak ((by rw [hg]; exact (below_size bq) : w.heap.size ≤ gb710)); have n3_ := ak ((by rw [hg]; exact (below_size bq) : w.heap.size ≤ gb710)); clear HB; have HB := n0_; have BK710 := n1_; have GW710 := n2_; have GE710 := n3_; clear n0_ n1_ n2_ n3_; clear hb hbox hg) | ((with_reducible refine gate_dst (N := 3) rfl ?_); refine box_event ?hg (N := 3) ?hd (cs := #[.string ⟨#[]⟩, .string ⟨#[]⟩, .string ⟨#[]⟩, .string ⟨#[]⟩, .string ⟨#[]⟩]) (t := 98) ?hr ?_; (case hd => rfl); (case hg => rfl); (case hr => first | (go_simp; done) | (go_simp; rfl)); intro gb711 hg w4 hbox hb; have n0_ := ak (blk_below (g := gb710) (bx BK710.out) hb); have n1_ := ak (below_step bq hb); have n2_ := ak (hbox); have n3_ := ak ((by rw [hg]; exact (below_size bq) : w.heap.size ≤ gb711)); have n4_ := ak ((by rw [hg]; exact (below_size bq) : w.heap.size ≤ gb711)); have n5_ := ak ((by rw [hg]; exact Nat.ne_of_lt (blk_lt (g := gb710) (bx BK710.out)) : gb710 ≠ gb711)); have n6_ := ak ((by rw [hg]; exact Nat.ne_of_gt (blk_lt (g := gb710) (bx BK710.out)) : gb711 ≠ gb710)); clear BK710; clear HB; have BK710 := n0_; have HB := n1_; have BK711 := n2_; have GW711 := n3_; have GE711 := n4_; have NB710_711 := n5_; have NB711_710 := n6_; clear n0_ n1_ n2_ n3_ n4_ n5_ n6_; clear hb hbox hg))
  go_loopg [4] k (fun kq v4 w' => ∃ (x4_1 : Int) (x711000_1 : Int) (x711001_1 : ByteArray) (x711002_1 : ByteArray) (x711003_1 : ByteArray) (x711004_1 : ByteArray) (x711005_1 : ByteArray) (x711006_1 : Bool) (x712000_1 : ByteArray) (x712001_1 : ByteArray) (x712002_1 : ByteArray) (x712003_1 : ByteArray) (x712004_1 : ByteArray), v4 = .int .i64 x4_1 ∧ Aside0 (isoglossref12_Decode.l0 kq a0 x4_1 x712000_1 x712001_1 x712002_1 x712003_1 x712004_1 = some (r1, r2, r3, r4, r5, r6, r7)) ∧ Aside0 (kq ≤ k) ∧ Aside0 (w'.heap[gb710]? = some (.cells #[.int .i64 x711000_1, .string x711001_1, .string x711002_1, .string x711003_1, .string x711004_1, .string x711005_1, .bool x711006_1] 101 (0, 0))) ∧ Aside0 (w'.heap[gb711]? = some (.cells #[.string x712000_1, .string x712001_1, .string x712002_1, .string x712003_1, .string x712004_1] 98 (0, 0))) ∧ Aside0 (Below w.heap.size w w'))
  case atStart => exact ⟨(0), (0), ((⟨#[]⟩ : ByteArray)), ((⟨#[]⟩ : ByteArray)), ((⟨#[]⟩ : ByteArray)), ((⟨#[]⟩ : ByteArray)), ((⟨#[]⟩ : ByteArray)), (false), ((⟨#[]⟩ : ByteArray)), ((⟨#[]⟩ : ByteArray)), ((⟨#[]⟩ : ByteArray)), ((⟨#[]⟩ : ByteArray)), ((⟨#[]⟩ : ByteArray)), (by first | rfl | (simp; done) | (simp [*]; done) | (simp <;> unfold wrap64 <;> omega)), H', ⟨Nat.le_refl _⟩, ⟨(bx BK710.out)⟩, ⟨(bx BK711.out)⟩, ⟨bq⟩⟩
  case round =>
   clear H'
   try clear c2
   try clear c2b0
   try clear c2b1
   try clear p2
   obtain ⟨x4_1, x711000_1, x711001_1, x711002_1, x711003_1, x711004_1, x711005_1, x711006_1, x712000_1, x712001_1, x712002_1, x712003_1, x712004_1, rfl, HA, HK1, BK710, BK711, HB⟩ := hrel
   cases gk with
   | zero => exact absurd HA.out (by simp [isoglossref12_Decode.l0])
   | succ k1 =>
    have H := HA.out
    clear HA
    simp only [isoglossref12_Decode.l0] at H
    by_cases c5 : x4_1 < 5
    ·
     rw [if_pos c5] at H
     have c5b0 : decide (x4_1 < 5) = true := decide_eq_true c5
     clear c5
     replace H := Option.bind_eq_some_iff.mp H
     obtain ⟨⟨t714, t715⟩, A60, H⟩ := H
     replace H : ((isoglossref03_Unpack.f k1 t714).bind fun bt716 => (if bt716.2 = true then (if x4_1 = 0 then (isoglossref12_Decode.l0 k1 a0 (wrap64 (x4_1 + 1)) bt716.1 x712001_1 x712002_1 x712003_1 x712004_1) else (if x4_1 = 1 then (isoglossref12_Decode.l0 k1 a0 (wrap64 (x4_1 + 1)) x712000_1 bt716.1 x712002_1 x712003_1 x712004_1) else (if x4_1 = 2 then (isoglossref12_Decode.l0 k1 a0 (wrap64 (x4_1 + 1)) x712000_1 x712001_1 bt716.1 x712003_1 x712004_1) else (if x4_1 = 3 then (isoglossref12_Decode.l0 k1 a0 (wrap64 (x4_1 + 1)) x712000_1 x712001_1 x712002_1 bt716.1 x712004_1) else (if x4_1 = 4 then (isoglossref12_Decode.l0 k1 a0 (wrap64 (x4_1 + 1)) x712000_1 x712001_1 x712002_1 x712003_1 bt716.1) else (none)))))) else (some (0, (⟨#[]⟩ : ByteArray), (⟨#[]⟩ : ByteArray), (⟨#[]⟩ : ByteArray), (⟨#[]⟩ : ByteArray), (⟨#[]⟩ : ByteArray), false)))) = some (r1, r2, r3, r4, r5, r6, r7) := H
     have A6 := ak A60
     clear A60
     replace H := Option.bind_eq_some_iff.mp H
     obtain ⟨⟨t716, t717⟩, A70, H⟩ := H
     replace H : (if t717 = true then (if x4_1 = 0 then (isoglossref12_Decode.l0 k1 a0 (wrap64 (x4_1 + 1)) t716 x712001_1 x712002_1 x712003_1 x712004_1) else (if x4_1 = 1 then (isoglossref12_Decode.l0 k1 a0 (wrap64 (x4_1 + 1)) x712000_1 t716 x712002_1 x712003_1 x712004_1) else (if x4_1 = 2 then (isoglossref12_Decode.l0 k1 a0 (wrap64 (x4_1 + 1)) x712000_1 x712001_1 t716 x712003_1 x712004_1) else (if x4_1 = 3 then (isoglossref12_Decode.l0 k1 a0 (wrap64 (x4_1 + 1)) x712000_1 x712001_1 x712002_1 t716 x712004_1) else (if x4_1 = 4 then (isoglossref12_Decode.l0 k1 a0 (wrap64 (x4_1 + 1)) x712000_1 x712001_1 x712002_1 x712003_1 t716) else (none)))))) else (some (0, (⟨#[]⟩ : ByteArray), (⟨#[]⟩ : ByteArray), (⟨#[]⟩ : ByteArray), (⟨#[]⟩ : ByteArray), (⟨#[]⟩ : ByteArray), false))) = some (r1, r2, r3, r4, r5, r6, r7) := H
     have A7 := ak A70
     clear A70
     by_cases c8 : t717 = true
     ·
      subst c8
      have H1 : (if x4_1 = 0 then (isoglossref12_Decode.l0 k1 a0 (wrap64 (x4_1 + 1)) t716 x712001_1 x712002_1 x712003_1 x712004_1) else (if x4_1 = 1 then (isoglossref12_Decode.l0 k1 a0 (wrap64 (x4_1 + 1)) x712000_1 t716 x712002_1 x712003_1 x712004_1) else (if x4_1 = 2 then (isoglossref12_Decode.l0 k1 a0 (wrap64 (x4_1 + 1)) x712000_1 x712001_1 t716 x712003_1 x712004_1) else (if x4_1 = 3 then (isoglossref12_Decode.l0 k1 a0 (wrap64 (x4_1 + 1)) x712000_1 x712001_1 x712002_1 t716 x712004_1) else (if x4_1 = 4 then (isoglossref12_Decode.l0 k1 a0 (wrap64 (x4_1 + 1)) x712000_1 x712001_1 x712002_1 x712003_1 t716) else (none)))))) = some (r1, r2, r3, r4, r5, r6, r7) := by rw [if_pos rfl] at H; exact H
      clear H
      have H := H1
      clear H1
      by_cases c9 : x4_1 = 0
      ·
       rw [if_pos c9] at H
       have c9b0 : (x4_1 == 0) = true := beq_iff_eq.mpr c9
       have c9b1 : (x4_1 != 0) = false := bne_eq_false_iff_eq.mpr c9
       (try (have c9b2 : (x4_1 : Int).toNat = 0 := by rw [c9]; rfl))
       try have c9b3 : (0 ≤ x4_1) = True := eq_true (by omega)
       try have c9b4_2 : (x4_1 < 2) = True := eq_true (by omega)
       try have c9b4_3 : (x4_1 < 3) = True := eq_true (by omega)
       try have c9b4_5 : (x4_1 < 5) = True := eq_true (by omega)
       have A6' : Aside0 (isoglossref03_Get.f k1 a0 (1 + 8 * x4_1) 8 = some (t714, t715)) := ⟨by have z : wrap64 (1 + (wrap64 (8 * x4_1))) = 1 + 8 * x4_1 := (by unfold wrap64; omega); rw [← z]; exact A6.out⟩
       clear c9
       have H' := ak H
       clear H
       go_wp2_with (first | ((with_reducible refine gate_callee (f := 113) rfl ?_); refine goesL_ (some 20) rfl rfl Tryd.func113 (by kernel_rfl) rfl #[.string a0, .int .i64 (wrap64 (1 + (wrap64 (8 * x4_1)))), .int .i64 8] rfl mq ?_; (with_reducible refine (isoglossref03_Get.calls k1 a0 (wrap64 (1 + (wrap64 (8 * x4_1)))) 8 t714 t715 _ A6.out).mono ?_); rintro e w10 ⟨rfl, hb⟩; refine ⟨_, rfl, ?_⟩; have n0_ := ak (blk_below (g := gb710) (bx BK710.out) hb); have n1_ := ak (blk_below (g := gb711) (bx BK711.out) hb); have n2_ := ak (below_step bq hb); clear BK710; clear BK711; clear HB; have BK710 := n0_; have BK711 := n1_; have HB := n2_; clear n0_ n1_ n2_; (try clear hb); (try clear hb2); (try clear hk); (try clear hi); (try clear A6)) | ((with_reducible refine gate_callee (f := 113) rfl ?_); refine goesL_ (some 20) rfl rfl Tryd.func113 (by kernel_rfl) rfl #[.string a0, .int .i64 (1 + 8 * x4_1), .int .i64 8] rfl mq ?_; (with_reducible refine (isoglossref03_Get.calls k1 a0 (1 + 8 * x4_1) 8 t714 t715 _ A6'.out).mono ?_); rintro e w10 ⟨rfl, hb⟩; refine ⟨_, rfl, ?_⟩; have n0_ := ak (blk_below (g := gb710) (bx BK710.out) hb); have n1_ := ak (blk_below (g := gb711) (bx BK711.out) hb); have n2_ := ak (below_step bq hb); clear BK710; clear BK711; clear HB; have BK710 := n0_; have BK711 := n1_; have HB := n2_; clear n0_ n1_ n2_; (try clear hb); (try clear hb2); (try clear hk); (try clear hi); (try clear A6 A6')) | ((with_reducible refine gate_callee (f := 112) rfl ?_); refine goesL_ (some 22) rfl rfl Tryd.func112 (by kernel_rfl) rfl #[.int .u64 t714] rfl mq ?_; (with_reducible refine (isoglossref03_Unpack.calls k1 t714 t716 true _ A7.out).mono ?_); rintro e w11 ⟨rfl, hb⟩; refine ⟨_, rfl, ?_⟩; have n0_ := ak (blk_below (g := gb710) (bx BK710.out) hb); have n1_ := ak (blk_below (g := gb711) (bx BK711.out) hb); have n2_ := ak (below_step bq hb); clear BK710; clear BK711; clear HB; have BK710 := n0_; have BK711 := n1_; have HB := n2_; clear n0_ n1_ n2_; (try clear hb); (try clear hb2); (try clear hk); (try clear hi); (try clear A7)) | ((with_reducible refine gate_dst (N := 5) rfl ?_); refine box_event ?hg (N := 5) ?hd (cs := #[.string ⟨#[]⟩, .bool false]) (t := 114) ?hr ?_; (case hd => rfl); (case hg => rfl); (case hr => first | (go_simp; done) | (go_simp; rfl)); intro gb718 hg w12 hbox hb; have n0_ := ak (blk_below (g := gb710) (bx BK710.out) hb); have n1_ := ak (blk_below (g := gb711) (bx BK711.out) hb); have n2_ := ak (below_step bq hb); have n3_ := ak (hbox); have n4_ := ak ((by rw [hg]; exact (below_size bq) : w.heap.size ≤ gb718)); have n5_ := ak ((by rw [hg]; exact (below_size bq) : w.heap.size ≤ gb718)); have n6_ := ak ((by rw [hg]; exact Nat.ne_of_lt (blk_lt (g := gb710) (bx BK710.out)) : gb710 ≠ gb718)); have n7_ := ak ((by rw [hg]; exact Nat.ne_of_gt (blk_lt (g := gb710) (bx BK710.out)) : gb718 ≠ gb710)); have n8_ := ak ((by rw [hg]; exact Nat.ne_of_lt (blk_lt (g := gb711) (bx BK711.out)) : gb711 ≠ gb718)); have n9_ := ak ((by rw [hg]; exact Nat.ne_of_gt (blk_lt (g := gb711) (bx BK711.out)) : gb718 ≠ gb711)); clear BK710; clear BK711; clear HB; have BK710 := n0_; have BK711 := n1_; have HB := n2_; have BK718 := n3_; have GW718 := n4_; have GE718 := n5_; have NB710_718 := n6_; have NB718_710 := n7_; have NB711_718 := n8_; have NB718_711 := n9_; clear n0_ n1_ n2_ n3_ n4_ n5_ n6_ n7_ n8_ n9_; clear hb hbox hg; have hnb13 := NB718_710.out; have hnc13 := NB710_718.out; have hnb14 := NB718_711.out; have hnc14 := NB711_718.out; obtain ⟨hcz15_0, hcz15_1⟩ := cz2 BK718.out; obtain ⟨hfz15_0, hfz15_1⟩ := fz2 BK718.out; have hnb16 := NB711_710.out; have hnc16 := NB710_711.out; obtain ⟨hcz17_0, hcz17_1, hcz17_2, hcz17_3, hcz17_4⟩ := cz5 BK711.out; obtain ⟨hfz17_0, hfz17_1, hfz17_2, hfz17_3, hfz17_4⟩ := fz5 BK711.out))
       go_roundg k1
       case measure => have := HK1.out; omega
       case rel => exact ⟨(wrap64 (x4_1 + 1)), (x711000_1), (x711001_1), (x711002_1), (x711003_1), (x711004_1), (x711005_1), (x711006_1), (t716), (x712001_1), (x712002_1), (x712003_1), (x712004_1), (by first | rfl | (simp; done) | (simp [*]; done) | (simp <;> unfold wrap64 <;> omega)), H', ⟨by have := HK1.out; omega⟩, ⟨(bx (blk_far (bx (blk_far (bx (blk_far (bx BK710.out) NB710_718.out _)) NB710_718.out _)) NB710_711.out _))⟩, ⟨(bx (blk_put (cs := #[.string x712000_1, .string x712001_1, .string x712002_1, .string x712003_1, .string x712004_1]) (bx (blk_far (bx (blk_far (bx BK711.out) NB711_718.out _)) NB711_718.out _)) 0 _ rfl))⟩, ⟨bq⟩⟩
      ·
       rw [if_neg c9] at H
       have c9b0 : (x4_1 == 0) = false := beq_eq_false_iff_ne.mpr c9
       have c9b1 : (x4_1 != 0) = true := bne_iff_ne.mpr c9
       by_cases c18 : x4_1 = 1
       ·
        rw [if_pos c18] at H
        have c18b0 : (x4_1 == 1) = true := beq_iff_eq.mpr c18
        have c18b1 : (x4_1 != 1) = false := bne_eq_false_iff_eq.mpr c18
        (try (have c18b2 : (x4_1 : Int).toNat = 1 := by rw [c18]; rfl))
        try have c18b3 : (0 ≤ x4_1) = True := eq_true (by omega)
        try have c18b4_2 : (x4_1 < 2) = True := eq_true (by omega)
        try have c18b4_3 : (x4_1 < 3) = True := eq_true (by omega)
        try have c18b4_5 : (x4_1 < 5) = True := eq_true (by omega)
        have A6' : Aside0 (isoglossref03_Get.f k1 a0 (1 + 8 * x4_1) 8 = some (t714, t715)) := ⟨by have z : wrap64 (1 + (wrap64 (8 * x4_1))) = 1 + 8 * x4_1 := (by unfold wrap64; omega); rw [← z]; exact A6.out⟩
        clear c18
        have H' := ak H
        clear H
        go_wp2_with (first | ((with_reducible refine gate_callee (f := 113) rfl ?_); refine goesL_ (some 20) rfl rfl Tryd.func113 (by kernel_rfl) rfl #[.string a0, .int .i64 (wrap64 (1 + (wrap64 (8 * x4_1)))), .int .i64 8] rfl mq ?_; (with_reducible refine (isoglossref03_Get.calls k1 a0 (wrap64 (1 + (wrap64 (8 * x4_1)))) 8 t714 t715 _ A6.out).mono ?_); rintro e w19 ⟨rfl, hb⟩; refine ⟨_, rfl, ?_⟩; have n0_ := ak (blk_below (g := gb710) (bx BK710.out) hb); have n1_ := ak (blk_below (g := gb711) (bx BK711.out) hb); have n2_ := ak (below_step bq hb); clear BK710; clear BK711; clear HB; have BK710 := n0_; have BK711 := n1_; have HB := n2_; clear n0_ n1_ n2_; (try clear hb); (try clear hb2); (try clear hk); (try clear hi); (try clear A6)) | ((with_reducible refine gate_callee (f := 113) rfl ?_); refine goesL_ (some 20) rfl rfl Tryd.func113 (by kernel_rfl) rfl #[.string a0, .int .i64 (1 + 8 * x4_1), .int .i64 8] rfl mq ?_; (with_reducible refine (isoglossref03_Get.calls k1 a0 (1 + 8 * x4_1) 8 t714 t715 _ A6'.out).mono ?_); rintro e w19 ⟨rfl, hb⟩; refine ⟨_, rfl, ?_⟩; have n0_ := ak (blk_below (g := gb710) (bx BK710.out) hb); have n1_ := ak (blk_below (g := gb711) (bx BK711.out) hb); have n2_ := ak (below_step bq hb); clear BK710; clear BK711; clear HB; have BK710 := n0_; have BK711 := n1_; have HB := n2_; clear n0_ n1_ n2_; (try clear hb); (try clear hb2); (try clear hk); (try clear hi); (try clear A6 A6')) | ((with_reducible refine gate_callee (f := 112) rfl ?_); refine goesL_ (some 22) rfl rfl Tryd.func112 (by kernel_rfl) rfl #[.int .u64 t714] rfl mq ?_; (with_reducible refine (isoglossref03_Unpack.calls k1 t714 t716 true _ A7.out).mono ?_); rintro e w20 ⟨rfl, hb⟩; refine ⟨_, rfl, ?_⟩; have n0_ := ak (blk_below (g := gb710) (bx BK710.out) hb); have n1_ := ak (blk_below (g := gb711) (bx BK711.out) hb); have n2_ := ak (below_step bq hb); clear BK710; clear BK711; clear HB; have BK710 := n0_; have BK711 := n1_; have HB := n2_; clear n0_ n1_ n2_; (try clear hb); (try clear hb2); (try clear hk); (try clear hi); (try clear A7)) | ((with_reducible refine gate_dst (N := 5) rfl ?_); refine box_event ?hg (N := 5) ?hd (cs := #[.string ⟨#[]⟩, .bool false]) (t := 114) ?hr ?_; (case hd => rfl); (case hg => rfl); (case hr => first | (go_simp; done) | (go_simp; rfl)); intro gb718 hg w21 hbox hb; have n0_ := ak (blk_below (g := gb710) (bx BK710.out) hb); have n1_ := ak (blk_below (g := gb711) (bx BK711.out) hb); have n2_ := ak (below_step bq hb); have n3_ := ak (hbox); have n4_ := ak ((by rw [hg]; exact (below_size bq) : w.heap.size ≤ gb718)); have n5_ := ak ((by rw [hg]; exact (below_size bq) : w.heap.size ≤ gb718)); have n6_ := ak ((by rw [hg]; exact Nat.ne_of_lt (blk_lt (g := gb710) (bx BK710.out)) : gb710 ≠ gb718)); have n7_ := ak ((by rw [hg]; exact Nat.ne_of_gt (blk_lt (g := gb710) (bx BK710.out)) : gb718 ≠ gb710)); have n8_ := ak ((by rw [hg]; exact Nat.ne_of_lt (blk_lt (g := gb711) (bx BK711.out)) : gb711 ≠ gb718)); have n9_ := ak ((by rw [hg]; exact Nat.ne_of_gt (blk_lt (g := gb711) (bx BK711.out)) : gb718 ≠ gb711)); clear BK710; clear BK711; clear HB; have BK710 := n0_; have BK711 := n1_; have HB := n2_; have BK718 := n3_; have GW718 := n4_; have GE718 := n5_; have NB710_718 := n6_; have NB718_710 := n7_; have NB711_718 := n8_; have NB718_711 := n9_; clear n0_ n1_ n2_ n3_ n4_ n5_ n6_ n7_ n8_ n9_; clear hb hbox hg; have hnb22 := NB718_710.out; have hnc22 := NB710_718.out; have hnb23 := NB718_711.out; have hnc23 := NB711_718.out; obtain ⟨hcz24_0, hcz24_1⟩ := cz2 BK718.out; obtain ⟨hfz24_0, hfz24_1⟩ := fz2 BK718.out; have hnb25 := NB711_710.out; have hnc25 := NB710_711.out; obtain ⟨hcz26_0, hcz26_1, hcz26_2, hcz26_3, hcz26_4⟩ := cz5 BK711.out; obtain ⟨hfz26_0, hfz26_1, hfz26_2, hfz26_3, hfz26_4⟩ := fz5 BK711.out))
        go_roundg k1
        case measure => have := HK1.out; omega
        case rel => exact ⟨(wrap64 (x4_1 + 1)), (x711000_1), (x711001_1), (x711002_1), (x711003_1), (x711004_1), (x711005_1), (x711006_1), (x712000_1), (t716), (x712002_1), (x712003_1), (x712004_1), (by first | rfl | (simp; done) | (simp [*]; done) | (simp <;> unfold wrap64 <;> omega)), H', ⟨by have := HK1.out; omega⟩, ⟨(bx (blk_far (bx (blk_far (bx (blk_far (bx BK710.out) NB710_718.out _)) NB710_718.out _)) NB710_711.out _))⟩, ⟨(bx (blk_put (cs := #[.string x712000_1, .string x712001_1, .string x712002_1, .string x712003_1, .string x712004_1]) (bx (blk_far (bx (blk_far (bx BK711.out) NB711_718.out _)) NB711_718.out _)) 1 _ rfl))⟩, ⟨bq⟩⟩
       ·
        rw [if_neg c18] at H
        have c18b0 : (x4_1 == 1) = false := beq_eq_false_iff_ne.mpr c18
        have c18b1 : (x4_1 != 1) = true := bne_iff_ne.mpr c18
        by_cases c27 : x4_1 = 2
        ·
         rw [if_pos c27] at H
         have c27b0 : (x4_1 == 2) = true := beq_iff_eq.mpr c27
         have c27b1 : (x4_1 != 2) = false := bne_eq_false_iff_eq.mpr c27
         (try (have c27b2 : (x4_1 : Int).toNat = 2 := by rw [c27]; rfl))
         try have c27b3 : (0 ≤ x4_1) = True := eq_true (by omega)
         try have c27b4_3 : (x4_1 < 3) = True := eq_true (by omega)
         try have c27b4_5 : (x4_1 < 5) = True := eq_true (by omega)
         have A6' : Aside0 (isoglossref03_Get.f k1 a0 (1 + 8 * x4_1) 8 = some (t714, t715)) := ⟨by have z : wrap64 (1 + (wrap64 (8 * x4_1))) = 1 + 8 * x4_1 := (by unfold wrap64; omega); rw [← z]; exact A6.out⟩
         clear c27
         have H' := ak H
         clear H
         go_wp2_with (first | ((with_reducible refine gate_callee (f := 113) rfl ?_); refine goesL_ (some 20) rfl rfl Tryd.func113 (by kernel_rfl) rfl #[.string a0, .int .i64 (wrap64 (1 + (wrap64 (8 * x4_1)))), .int .i64 8] rfl mq ?_; (with_reducible refine (isoglossref03_Get.calls k1 a0 (wrap64 (1 + (wrap64 (8 * x4_1)))) 8 t714 t715 _ A6.out).mono ?_); rintro e w28 ⟨rfl, hb⟩; refine ⟨_, rfl, ?_⟩; have n0_ := ak (blk_below (g := gb710) (bx BK710.out) hb); have n1_ := ak (blk_below (g := gb711) (bx BK711.out) hb); have n2_ := ak (below_step bq hb); clear BK710; clear BK711; clear HB; have BK710 := n0_; have BK711 := n1_; have HB := n2_; clear n0_ n1_ n2_; (try clear hb); (try clear hb2); (try clear hk); (try clear hi); (try clear A6)) | ((with_reducible refine gate_callee (f := 113) rfl ?_); refine goesL_ (some 20) rfl rfl Tryd.func113 (by kernel_rfl) rfl #[.string a0, .int .i64 (1 + 8 * x4_1), .int .i64 8] rfl mq ?_; (with_reducible refine (isoglossref03_Get.calls k1 a0 (1 + 8 * x4_1) 8 t714 t715 _ A6'.out).mono ?_); rintro e w28 ⟨rfl, hb⟩; refine ⟨_, rfl, ?_⟩; have n0_ := ak (blk_below (g := gb710) (bx BK710.out) hb); have n1_ := ak (blk_below (g := gb711) (bx BK711.out) hb); have n2_ := ak (below_step bq hb); clear BK710; clear BK711; clear HB; have BK710 := n0_; have BK711 := n1_; have HB := n2_; clear n0_ n1_ n2_; (try clear hb); (try clear hb2); (try clear hk); (try clear hi); (try clear A6 A6')) | ((with_reducible refine gate_callee (f := 112) rfl ?_); refine goesL_ (some 22) rfl rfl Tryd.func112 (by kernel_rfl) rfl #[.int .u64 t714] rfl mq ?_; (with_reducible refine (isoglossref03_Unpack.calls k1 t714 t716 true _ A7.out).mono ?_); rintro e w29 ⟨rfl, hb⟩; refine ⟨_, rfl, ?_⟩; have n0_ := ak (blk_below (g := gb710) (bx BK710.out) hb); have n1_ := ak (blk_below (g := gb711) (bx BK711.out) hb); have n2_ := ak (below_step bq hb); clear BK710; clear BK711; clear HB; have BK710 := n0_; have BK711 := n1_; have HB := n2_; clear n0_ n1_ n2_; (try clear hb); (try clear hb2); (try clear hk); (try clear hi); (try clear A7)) | ((with_reducible refine gate_dst (N := 5) rfl ?_); refine box_event ?hg (N := 5) ?hd (cs := #[.string ⟨#[]⟩, .bool false]) (t := 114) ?hr ?_; (case hd => rfl); (case hg => rfl); (case hr => first | (go_simp; done) | (go_simp; rfl)); intro gb718 hg w30 hbox hb; have n0_ := ak (blk_below (g := gb710) (bx BK710.out) hb); have n1_ := ak (blk_below (g := gb711) (bx BK711.out) hb); have n2_ := ak (below_step bq hb); have n3_ := ak (hbox); have n4_ := ak ((by rw [hg]; exact (below_size bq) : w.heap.size ≤ gb718)); have n5_ := ak ((by rw [hg]; exact (below_size bq) : w.heap.size ≤ gb718)); have n6_ := ak ((by rw [hg]; exact Nat.ne_of_lt (blk_lt (g := gb710) (bx BK710.out)) : gb710 ≠ gb718)); have n7_ := ak ((by rw [hg]; exact Nat.ne_of_gt (blk_lt (g := gb710) (bx BK710.out)) : gb718 ≠ gb710)); have n8_ := ak ((by rw [hg]; exact Nat.ne_of_lt (blk_lt (g := gb711) (bx BK711.out)) : gb711 ≠ gb718)); have n9_ := ak ((by rw [hg]; exact Nat.ne_of_gt (blk_lt (g := gb711) (bx BK711.out)) : gb718 ≠ gb711)); clear BK710; clear BK711; clear HB; have BK710 := n0_; have BK711 := n1_; have HB := n2_; have BK718 := n3_; have GW718 := n4_; have GE718 := n5_; have NB710_718 := n6_; have NB718_710 := n7_; have NB711_718 := n8_; have NB718_711 := n9_; clear n0_ n1_ n2_ n3_ n4_ n5_ n6_ n7_ n8_ n9_; clear hb hbox hg; have hnb31 := NB718_710.out; have hnc31 := NB710_718.out; have hnb32 := NB718_711.out; have hnc32 := NB711_718.out; obtain ⟨hcz33_0, hcz33_1⟩ := cz2 BK718.out; obtain ⟨hfz33_0, hfz33_1⟩ := fz2 BK718.out; have hnb34 := NB711_710.out; have hnc34 := NB710_711.out; obtain ⟨hcz35_0, hcz35_1, hcz35_2, hcz35_3, hcz35_4⟩ := cz5 BK711.out; obtain ⟨hfz35_0, hfz35_1, hfz35_2, hfz35_3, hfz35_4⟩ := fz5 BK711.out))
         go_roundg k1
         case measure => have := HK1.out; omega
         case rel => exact ⟨(wrap64 (x4_1 + 1)), (x711000_1), (x711001_1), (x711002_1), (x711003_1), (x711004_1), (x711005_1), (x711006_1), (x712000_1), (x712001_1), (t716), (x712003_1), (x712004_1), (by first | rfl | (simp; done) | (simp [*]; done) | (simp <;> unfold wrap64 <;> omega)), H', ⟨by have := HK1.out; omega⟩, ⟨(bx (blk_far (bx (blk_far (bx (blk_far (bx BK710.out) NB710_718.out _)) NB710_718.out _)) NB710_711.out _))⟩, ⟨(bx (blk_put (cs := #[.string x712000_1, .string x712001_1, .string x712002_1, .string x712003_1, .string x712004_1]) (bx (blk_far (bx (blk_far (bx BK711.out) NB711_718.out _)) NB711_718.out _)) 2 _ rfl))⟩, ⟨bq⟩⟩
        ·
         rw [if_neg c27] at H
         have c27b0 : (x4_1 == 2) = false := beq_eq_false_iff_ne.mpr c27
         have c27b1 : (x4_1 != 2) = true := bne_iff_ne.mpr c27
         by_cases c36 : x4_1 = 3
         ·
          rw [if_pos c36] at H
          have c36b0 : (x4_1 == 3) = true := beq_iff_eq.mpr c36
          have c36b1 : (x4_1 != 3) = false := bne_eq_false_iff_eq.mpr c36
          (try (have c36b2 : (x4_1 : Int).toNat = 3 := by rw [c36]; rfl))
          try have c36b3 : (0 ≤ x4_1) = True := eq_true (by omega)
          try have c36b4_5 : (x4_1 < 5) = True := eq_true (by omega)
          have A6' : Aside0 (isoglossref03_Get.f k1 a0 (1 + 8 * x4_1) 8 = some (t714, t715)) := ⟨by have z : wrap64 (1 + (wrap64 (8 * x4_1))) = 1 + 8 * x4_1 := (by unfold wrap64; omega); rw [← z]; exact A6.out⟩
          clear c36
          have H' := ak H
          clear H
          go_wp2_with (first | ((with_reducible refine gate_callee (f := 113) rfl ?_); refine goesL_ (some 20) rfl rfl Tryd.func113 (by kernel_rfl) rfl #[.string a0, .int .i64 (wrap64 (1 + (wrap64 (8 * x4_1)))), .int .i64 8] rfl mq ?_; (with_reducible refine (isoglossref03_Get.calls k1 a0 (wrap64 (1 + (wrap64 (8 * x4_1)))) 8 t714 t715 _ A6.out).mono ?_); rintro e w37 ⟨rfl, hb⟩; refine ⟨_, rfl, ?_⟩; have n0_ := ak (blk_below (g := gb710) (bx BK710.out) hb); have n1_ := ak (blk_below (g := gb711) (bx BK711.out) hb); have n2_ := ak (below_step bq hb); clear BK710; clear BK711; clear HB; have BK710 := n0_; have BK711 := n1_; have HB := n2_; clear n0_ n1_ n2_; (try clear hb); (try clear hb2); (try clear hk); (try clear hi); (try clear A6)) | ((with_reducible refine gate_callee (f := 113) rfl ?_); refine goesL_ (some 20) rfl rfl Tryd.func113 (by kernel_rfl) rfl #[.string a0, .int .i64 (1 + 8 * x4_1), .int .i64 8] rfl mq ?_; (with_reducible refine (isoglossref03_Get.calls k1 a0 (1 + 8 * x4_1) 8 t714 t715 _ A6'.out).mono ?_); rintro e w37 ⟨rfl, hb⟩; refine ⟨_, rfl, ?_⟩; have n0_ := ak (blk_below (g := gb710) (bx BK710.out) hb); have n1_ := ak (blk_below (g := gb711) (bx BK711.out) hb); have n2_ := ak (below_step bq hb); clear BK710; clear BK711; clear HB; have BK710 := n0_; have BK711 := n1_; have HB := n2_; clear n0_ n1_ n2_; (try clear hb); (try clear hb2); (try clear hk); (try clear hi); (try clear A6 A6')) | ((with_reducible refine gate_callee (f := 112) rfl ?_); refine goesL_ (some 22) rfl rfl Tryd.func112 (by kernel_rfl) rfl #[.int .u64 t714] rfl mq ?_; (with_reducible refine (isoglossref03_Unpack.calls k1 t714 t716 true _ A7.out).mono ?_); rintro e w38 ⟨rfl, hb⟩; refine ⟨_, rfl, ?_⟩; have n0_ := ak (blk_below (g := gb710) (bx BK710.out) hb); have n1_ := ak (blk_below (g := gb711) (bx BK711.out) hb); have n2_ := ak (below_step bq hb); clear BK710; clear BK711; clear HB; have BK710 := n0_; have BK711 := n1_; have HB := n2_; clear n0_ n1_ n2_; (try clear hb); (try clear hb2); (try clear hk); (try clear hi); (try clear A7)) | ((with_reducible refine gate_dst (N := 5) rfl ?_); refine box_event ?hg (N := 5) ?hd (cs := #[.string ⟨#[]⟩, .bool false]) (t := 114) ?hr ?_; (case hd => rfl); (case hg => rfl); (case hr => first | (go_simp; done) | (go_simp; rfl)); intro gb718 hg w39 hbox hb; have n0_ := ak (blk_below (g := gb710) (bx BK710.out) hb); have n1_ := ak (blk_below (g := gb711) (bx BK711.out) hb); have n2_ := ak (below_step bq hb); have n3_ := ak (hbox); have n4_ := ak ((by rw [hg]; exact (below_size bq) : w.heap.size ≤ gb718)); have n5_ := ak ((by rw [hg]; exact (below_size bq) : w.heap.size ≤ gb718)); have n6_ := ak ((by rw [hg]; exact Nat.ne_of_lt (blk_lt (g := gb710) (bx BK710.out)) : gb710 ≠ gb718)); have n7_ := ak ((by rw [hg]; exact Nat.ne_of_gt (blk_lt (g := gb710) (bx BK710.out)) : gb718 ≠ gb710)); have n8_ := ak ((by rw [hg]; exact Nat.ne_of_lt (blk_lt (g := gb711) (bx BK711.out)) : gb711 ≠ gb718)); have n9_ := ak ((by rw [hg]; exact Nat.ne_of_gt (blk_lt (g := gb711) (bx BK711.out)) : gb718 ≠ gb711)); clear BK710; clear BK711; clear HB; have BK710 := n0_; have BK711 := n1_; have HB := n2_; have BK718 := n3_; have GW718 := n4_; have GE718 := n5_; have NB710_718 := n6_; have NB718_710 := n7_; have NB711_718 := n8_; have NB718_711 := n9_; clear n0_ n1_ n2_ n3_ n4_ n5_ n6_ n7_ n8_ n9_; clear hb hbox hg; have hnb40 := NB718_710.out; have hnc40 := NB710_718.out; have hnb41 := NB718_711.out; have hnc41 := NB711_718.out; obtain ⟨hcz42_0, hcz42_1⟩ := cz2 BK718.out; obtain ⟨hfz42_0, hfz42_1⟩ := fz2 BK718.out; have hnb43 := NB711_710.out; have hnc43 := NB710_711.out; obtain ⟨hcz44_0, hcz44_1, hcz44_2, hcz44_3, hcz44_4⟩ := cz5 BK711.out; obtain ⟨hfz44_0, hfz44_1, hfz44_2, hfz44_3, hfz44_4⟩ := fz5 BK711.out))
          go_roundg k1
          case measure => have := HK1.out; omega
          case rel => exact ⟨(wrap64 (x4_1 + 1)), (x711000_1), (x711001_1), (x711002_1), (x711003_1), (x711004_1), (x711005_1), (x711006_1), (x712000_1), (x712001_1), (x712002_1), (t716), (x712004_1), (by first | rfl | (simp; done) | (simp [*]; done) | (simp <;> unfold wrap64 <;> omega)), H', ⟨by have := HK1.out; omega⟩, ⟨(bx (blk_far (bx (blk_far (bx (blk_far (bx BK710.out) NB710_718.out _)) NB710_718.out _)) NB710_711.out _))⟩, ⟨(bx (blk_put (cs := #[.string x712000_1, .string x712001_1, .string x712002_1, .string x712003_1, .string x712004_1]) (bx (blk_far (bx (blk_far (bx BK711.out) NB711_718.out _)) NB711_718.out _)) 3 _ rfl))⟩, ⟨bq⟩⟩
         ·
          rw [if_neg c36] at H
          have c36b0 : (x4_1 == 3) = false := beq_eq_false_iff_ne.mpr c36
          have c36b1 : (x4_1 != 3) = true := bne_iff_ne.mpr c36
          by_cases c45 : x4_1 = 4
          ·
           rw [if_pos c45] at H
           have c45b0 : (x4_1 == 4) = true := beq_iff_eq.mpr c45
           have c45b1 : (x4_1 != 4) = false := bne_eq_false_iff_eq.mpr c45
           (try (have c45b2 : (x4_1 : Int).toNat = 4 := by rw [c45]; rfl))
           try have c45b3 : (0 ≤ x4_1) = True := eq_true (by omega)
           try have c45b4_5 : (x4_1 < 5) = True := eq_true (by omega)
           have A6' : Aside0 (isoglossref03_Get.f k1 a0 (1 + 8 * x4_1) 8 = some (t714, t715)) := ⟨by have z : wrap64 (1 + (wrap64 (8 * x4_1))) = 1 + 8 * x4_1 := (by unfold wrap64; omega); rw [← z]; exact A6.out⟩
           clear c45
           have H' := ak H
           clear H
           go_wp2_with (first | ((with_reducible refine gate_callee (f := 113) rfl ?_); refine goesL_ (some 20) rfl rfl Tryd.func113 (by kernel_rfl) rfl #[.string a0, .int .i64 (wrap64 (1 + (wrap64 (8 * x4_1)))), .int .i64 8] rfl mq ?_; (with_reducible refine (isoglossref03_Get.calls k1 a0 (wrap64 (1 + (wrap64 (8 * x4_1)))) 8 t714 t715 _ A6.out).mono ?_); rintro e w46 ⟨rfl, hb⟩; refine ⟨_, rfl, ?_⟩; have n0_ := ak (blk_below (g := gb710) (bx BK710.out) hb); have n1_ := ak (blk_below (g := gb711) (bx BK711.out) hb); have n2_ := ak (below_step bq hb); clear BK710; clear BK711; clear HB; have BK710 := n0_; have BK711 := n1_; have HB := n2_; clear n0_ n1_ n2_; (try clear hb); (try clear hb2); (try clear hk); (try clear hi); (try clear A6)) | ((with_reducible refine gate_callee (f := 113) rfl ?_); refine goesL_ (some 20) rfl rfl Tryd.func113 (by kernel_rfl) rfl #[.string a0, .int .i64 (1 + 8 * x4_1), .int .i64 8] rfl mq ?_; (with_reducible refine (isoglossref03_Get.calls k1 a0 (1 + 8 * x4_1) 8 t714 t715 _ A6'.out).mono ?_); rintro e w46 ⟨rfl, hb⟩; refine ⟨_, rfl, ?_⟩; have n0_ := ak (blk_below (g := gb710) (bx BK710.out) hb); have n1_ := ak (blk_below (g := gb711) (bx BK711.out) hb); have n2_ := ak (below_step bq hb); clear BK710; clear BK711; clear HB; have BK710 := n0_; have BK711 := n1_; have HB := n2_; clear n0_ n1_ n2_; (try clear hb); (try clear hb2); (try clear hk); (try clear hi); (try clear A6 A6')) | ((with_reducible refine gate_callee (f := 112) rfl ?_); refine goesL_ (some 22) rfl rfl Tryd.func112 (by kernel_rfl) rfl #[.int .u64 t714] rfl mq ?_; (with_reducible refine (isoglossref03_Unpack.calls k1 t714 t716 true _ A7.out).mono ?_); rintro e w47 ⟨rfl, hb⟩; refine ⟨_, rfl, ?_⟩; have n0_ := ak (blk_below (g := gb710) (bx BK710.out) hb); have n1_ := ak (blk_below (g := gb711) (bx BK711.out) hb); have n2_ := ak (below_step bq hb); clear BK710; clear BK711; clear HB; have BK710 := n0_; have BK711 := n1_; have HB := n2_; clear n0_ n1_ n2_; (try clear hb); (try clear hb2); (try clear hk); (try clear hi); (try clear A7)) | ((with_reducible refine gate_dst (N := 5) rfl ?_); refine box_event ?hg (N := 5) ?hd (cs := #[.string ⟨#[]⟩, .bool false]) (t := 114) ?hr ?_; (case hd => rfl); (case hg => rfl); (case hr => first | (go_simp; done) | (go_simp; rfl)); intro gb718 hg w48 hbox hb; have n0_ := ak (blk_below (g := gb710) (bx BK710.out) hb); have n1_ := ak (blk_below (g := gb711) (bx BK711.out) hb); have n2_ := ak (below_step bq hb); have n3_ := ak (hbox); have n4_ := ak ((by rw [hg]; exact (below_size bq) : w.heap.size ≤ gb718)); have n5_ := ak ((by rw [hg]; exact (below_size bq) : w.heap.size ≤ gb718)); have n6_ := ak ((by rw [hg]; exact Nat.ne_of_lt (blk_lt (g := gb710) (bx BK710.out)) : gb710 ≠ gb718)); have n7_ := ak ((by rw [hg]; exact Nat.ne_of_gt (blk_lt (g := gb710) (bx BK710.out)) : gb718 ≠ gb710)); have n8_ := ak ((by rw [hg]; exact Nat.ne_of_lt (blk_lt (g := gb711) (bx BK711.out)) : gb711 ≠ gb718)); have n9_ := ak ((by rw [hg]; exact Nat.ne_of_gt (blk_lt (g := gb711) (bx BK711.out)) : gb718 ≠ gb711)); clear BK710; clear BK711; clear HB; have BK710 := n0_; have BK711 := n1_; have HB := n2_; have BK718 := n3_; have GW718 := n4_; have GE718 := n5_; have NB710_718 := n6_; have NB718_710 := n7_; have NB711_718 := n8_; have NB718_711 := n9_; clear n0_ n1_ n2_ n3_ n4_ n5_ n6_ n7_ n8_ n9_; clear hb hbox hg; have hnb49 := NB718_710.out; have hnc49 := NB710_718.out; have hnb50 := NB718_711.out; have hnc50 := NB711_718.out; obtain ⟨hcz51_0, hcz51_1⟩ := cz2 BK718.out; obtain ⟨hfz51_0, hfz51_1⟩ := fz2 BK718.out; have hnb52 := NB711_710.out; have hnc52 := NB710_711.out; obtain ⟨hcz53_0, hcz53_1, hcz53_2, hcz53_3, hcz53_4⟩ := cz5 BK711.out; obtain ⟨hfz53_0, hfz53_1, hfz53_2, hfz53_3, hfz53_4⟩ := fz5 BK711.out))
           go_roundg k1
           case measure => have := HK1.out; omega
           case rel => exact ⟨(wrap64 (x4_1 + 1)), (x711000_1), (x711001_1), (x711002_1), (x711003_1), (x711004_1), (x711005_1), (x711006_1), (x712000_1), (x712001_1), (x712002_1), (x712003_1), (t716), (by first | rfl | (simp; done) | (simp [*]; done) | (simp <;> unfold wrap64 <;> omega)), H', ⟨by have := HK1.out; omega⟩, ⟨(bx (blk_far (bx (blk_far (bx (blk_far (bx BK710.out) NB710_718.out _)) NB710_718.out _)) NB710_711.out _))⟩, ⟨(bx (blk_put (cs := #[.string x712000_1, .string x712001_1, .string x712002_1, .string x712003_1, .string x712004_1]) (bx (blk_far (bx (blk_far (bx BK711.out) NB711_718.out _)) NB711_718.out _)) 4 _ rfl))⟩, ⟨bq⟩⟩
          ·
           rw [if_neg c45] at H
           exact absurd H (by simp)
     ·
      replace c8 := Bool.eq_false_iff.mpr c8
      subst c8
      have H1 : (some (0, (⟨#[]⟩ : ByteArray), (⟨#[]⟩ : ByteArray), (⟨#[]⟩ : ByteArray), (⟨#[]⟩ : ByteArray), (⟨#[]⟩ : ByteArray), false)) = some (r1, r2, r3, r4, r5, r6, r7) := by rw [if_neg (show ¬ (false = true) by decide)] at H; exact H
      clear H
      have H := H1
      clear H1
      simp only [Option.some.injEq, Prod.mk.injEq] at H
      obtain ⟨rfl, rfl, rfl, rfl, rfl, rfl, rfl⟩ := H
      go_wp2_with (first | ((with_reducible refine gate_callee (f := 113) rfl ?_); refine goesL_ (some 20) rfl rfl Tryd.func113 (by kernel_rfl) rfl #[.string a0, .int .i64 (wrap64 (1 + (wrap64 (8 * x4_1)))), .int .i64 8] rfl mq ?_; (with_reducible refine (isoglossref03_Get.calls k1 a0 (wrap64 (1 + (wrap64 (8 * x4_1)))) 8 t714 t715 _ A6.out).mono ?_); rintro e w54 ⟨rfl, hb⟩; refine ⟨_, rfl, ?_⟩; have n0_ := ak (blk_below (g := gb710) (bx BK710.out) hb); have n1_ := ak (blk_below (g := gb711) (bx BK711.out) hb); have n2_ := ak (below_step bq hb); clear BK710; clear BK711; clear HB; have BK710 := n0_; have BK711 := n1_; have HB := n2_; clear n0_ n1_ n2_; (try clear hb); (try clear hb2); (try clear hk); (try clear hi); (try clear A6)) | ((with_reducible refine gate_callee (f := 112) rfl ?_); refine goesL_ (some 22) rfl rfl Tryd.func112 (by kernel_rfl) rfl #[.int .u64 t714] rfl mq ?_; (with_reducible refine (isoglossref03_Unpack.calls k1 t714 t716 false _ A7.out).mono ?_); rintro e w55 ⟨rfl, hb⟩; refine ⟨_, rfl, ?_⟩; have n0_ := ak (blk_below (g := gb710) (bx BK710.out) hb); have n1_ := ak (blk_below (g := gb711) (bx BK711.out) hb); have n2_ := ak (below_step bq hb); clear BK710; clear BK711; clear HB; have BK710 := n0_; have BK711 := n1_; have HB := n2_; clear n0_ n1_ n2_; (try clear hb); (try clear hb2); (try clear hk); (try clear hi); (try clear A7)) | ((with_reducible refine gate_dst (N := 5) rfl ?_); refine box_event ?hg (N := 5) ?hd (cs := #[.string ⟨#[]⟩, .bool false]) (t := 114) ?hr ?_; (case hd => rfl); (case hg => rfl); (case hr => first | (go_simp; done) | (go_simp; rfl)); intro gb718 hg w56 hbox hb; have n0_ := ak (blk_below (g := gb710) (bx BK710.out) hb); have n1_ := ak (blk_below (g := gb711) (bx BK711.out) hb); have n2_ := ak (below_step bq hb); have n3_ := ak (hbox); have n4_ := ak ((by rw [hg]; exact (below_size bq) : w.heap.size ≤ gb718)); have n5_ := ak ((by rw [hg]; exact (below_size bq) : w.heap.size ≤ gb718)); have n6_ := ak ((by rw [hg]; exact Nat.ne_of_lt (blk_lt (g := gb710) (bx BK710.out)) : gb710 ≠ gb718)); have n7_ := ak ((by rw [hg]; exact Nat.ne_of_gt (blk_lt (g := gb710) (bx BK710.out)) : gb718 ≠ gb710)); have n8_ := ak ((by rw [hg]; exact Nat.ne_of_lt (blk_lt (g := gb711) (bx BK711.out)) : gb711 ≠ gb718)); have n9_ := ak ((by rw [hg]; exact Nat.ne_of_gt (blk_lt (g := gb711) (bx BK711.out)) : gb718 ≠ gb711)); clear BK710; clear BK711; clear HB; have BK710 := n0_; have BK711 := n1_; have HB := n2_; have BK718 := n3_; have GW718 := n4_; have GE718 := n5_; have NB710_718 := n6_; have NB718_710 := n7_; have NB711_718 := n8_; have NB718_711 := n9_; clear n0_ n1_ n2_ n3_ n4_ n5_ n6_ n7_ n8_ n9_; clear hb hbox hg; have hnb57 := NB718_710.out; have hnc57 := NB710_718.out; have hnb58 := NB718_711.out; have hnc58 := NB711_718.out; obtain ⟨hcz59_0, hcz59_1⟩ := cz2 BK718.out; obtain ⟨hfz59_0, hfz59_1⟩ := fz2 BK718.out; have hnb60 := NB710_711.out; have hnc60 := NB711_710.out; obtain ⟨hcz61_0, hcz61_1, hcz61_2, hcz61_3, hcz61_4, hcz61_5, hcz61_6⟩ := cz7 BK710.out; obtain ⟨hfz61_0, hfz61_1, hfz61_2, hfz61_3, hfz61_4, hfz61_5, hfz61_6⟩ := fz7 BK710.out))
      refine bodyPost_ret (results_cell_row rfl _ _ gb710 101 #[.int .i64 0, .string ⟨#[]⟩, .string ⟨#[]⟩, .string ⟨#[]⟩, .string ⟨#[]⟩, .string ⟨#[]⟩, .bool false] (0, 0) _ rfl (bx (blk_put (cs := #[.int .i64 0, .string ⟨#[]⟩, .string ⟨#[]⟩, .string ⟨#[]⟩, .string ⟨#[]⟩, .string ⟨#[]⟩, .bool x711006_1]) (bx (blk_put (cs := #[.int .i64 0, .string ⟨#[]⟩, .string ⟨#[]⟩, .string ⟨#[]⟩, .string ⟨#[]⟩, .string x711005_1, .bool x711006_1]) (bx (blk_put (cs := #[.int .i64 0, .string ⟨#[]⟩, .string ⟨#[]⟩, .string ⟨#[]⟩, .string x711004_1, .string x711005_1, .bool x711006_1]) (bx (blk_put (cs := #[.int .i64 0, .string ⟨#[]⟩, .string ⟨#[]⟩, .string x711003_1, .string x711004_1, .string x711005_1, .bool x711006_1]) (bx (blk_put (cs := #[.int .i64 0, .string ⟨#[]⟩, .string x711002_1, .string x711003_1, .string x711004_1, .string x711005_1, .bool x711006_1]) (bx (blk_put (cs := #[.int .i64 0, .string x711001_1, .string x711002_1, .string x711003_1, .string x711004_1, .string x711005_1, .bool x711006_1]) (bx (blk_put (cs := #[.int .i64 x711000_1, .string x711001_1, .string x711002_1, .string x711003_1, .string x711004_1, .string x711005_1, .bool x711006_1]) (bx (blk_far (bx (blk_far (bx BK710.out) NB710_718.out _)) NB710_718.out _)) 0 _ rfl)) 1 _ rfl)) 2 _ rfl)) 3 _ rfl)) 4 _ rfl)) 5 _ rfl)) 6 _ rfl)) Tryd.underlying101 rfl (by kernel_rfl)) rfl ?_
      exact ⟨by first | rfl | (simp [errW_none, errW_some] <;> rfl) | (simp [*, errW_none, errW_some] <;> rfl), bq⟩
    ·
     rw [if_neg c5] at H
     have c5b0 : decide (x4_1 < 5) = false := decide_eq_false c5
     clear c5
     by_cases c62 : 0 < (a0.size : Int)
     ·
      rw [if_pos c62] at H
      have c62b0 : decide (0 < (a0.size : Int)) = true := decide_eq_true c62
      have c62b1 : decide (0 < a0.size) = true := decide_eq_true (by omega)
      clear c62
      replace H := Option.bind_eq_some_iff.mp H
      obtain ⟨t713, A640, H⟩ := H
      have A64 := ak A640
      clear A640
      by_cases c65 : t713 = true
      ·
       subst c65
       have H1 : (some (wrap64 (bt a0 0), x712000_1, x712001_1, x712002_1, x712003_1, x712004_1, true)) = some (r1, r2, r3, r4, r5, r6, r7) := by rw [if_pos rfl] at H; exact H
       clear H
       have H := H1
       clear H1
       simp only [Option.some.injEq, Prod.mk.injEq] at H
       obtain ⟨rfl, rfl, rfl, rfl, rfl, rfl, rfl⟩ := H
       try go_wp2
       have n0_ := ak (blk_drew BK710.out)
       have n1_ := ak (blk_drew BK711.out)
       have n2_ := ak (below_drew1 HB.out)
       clear BK710
       clear BK711
       clear HB
       have BK710 := n0_
       have BK711 := n1_
       have HB := n2_
       clear n0_ n1_ n2_
       have p63 : 0 ≤ (0 : Int) := (by omega)
       have q63 : 0 < a0.size := (by have : (0 : Int) < (a0.size : Int) := of_decide_eq_true (by first | (with_reducible assumption) | assumption); omega)
       have hx63 : ∀ h : 0 < a0.size, ((a0[0]'h).toNat : Int) = bt a0 0 := bt_at a0 0
       clear p63
       have qi63 : (0 < (a0.size : Int)) = True := eq_true (of_decide_eq_true (by first | (with_reducible assumption) | assumption))
       replace q63 := eq_true q63
       refine start_ (n := 16) (S := fun w' => w'.cell? ⟨gb711, 0, none⟩ = some (.string x712000_1) ∧ w'.cell? ⟨gb711, 1, none⟩ = some (.string x712001_1) ∧ w'.cell? ⟨gb711, 2, none⟩ = some (.string x712002_1) ∧ w'.cell? ⟨gb711, 3, none⟩ = some (.string x712003_1) ∧ w'.cell? ⟨gb711, 4, none⟩ = some (.string x712004_1)) (ds := []) #[false, false, false, false, false, false, false, false, false, false, false, false, false, false, false, false] (by kernel_rfl) rfl rfl ⟨(blk_cell BK711.out 0).trans rfl, (blk_cell BK711.out 1).trans rfl, (blk_cell BK711.out 2).trans rfl, (blk_cell BK711.out 3).trans rfl, (blk_cell BK711.out 4).trans rfl⟩ (fun hHeld => ?_); refine with_tabW isoglossref12_Decode.tab11 isoglossref12_Decode.bits11 (fun HT_ HW_ => ?_)
       generalize wr.drew = w66 at BK710 BK711 HB hHeld ⊢
       refine pu 0 (some 31) (M 16 1) ?_
       refine pu 3 (some 34) (M 16 9) ?_
       refine pu 5 (some 36) (M 16 41) ?_
       refine pu 7 (some 38) (M 16 169) ?_
       refine pu 9 (some 40) (M 16 681) ?_
       refine pu 11 (some 42) (M 16 2729) ?_
       refine take_ (i := 1) (N := some 32) (v := ?_) (a' := ?_) (M 16 2731) rfl rfl (take_ofW HT_.out HW_.out (by kernel_rfl)) (fun _ _ _ h => h) (Or.inl ⟨by rfl, ?_⟩) hHeld ?_ ?_
       rotate_left
       ·
        rintro w' ⟨s0, s1, s2, s3, s4⟩
        go_simp
        with_reducible rfl
       rotate_left
       ·
        simp only [Act.put, pA, pB, pC, i64_w, i32_w]
        rfl
       refine pu 2 (some 33) (M 16 2735) ?_
       refine take_ (i := 4) (N := some 35) (v := ?_) (a' := ?_) (M 16 2751) rfl rfl (take_ofW HT_.out HW_.out (by kernel_rfl)) (fun _ _ _ h => h) (Or.inl ⟨by rfl, ?_⟩) hHeld ?_ ?_
       rotate_left
       ·
        rintro w' ⟨s0, s1, s2, s3, s4⟩
        go_simp
        with_reducible rfl
       rotate_left
       ·
        simp only [Act.put, pA, pB, pC, i64_w, i32_w]
        rfl
       refine take_ (i := 6) (N := some 37) (v := ?_) (a' := ?_) (M 16 2815) rfl rfl (take_ofW HT_.out HW_.out (by kernel_rfl)) (fun _ _ _ h => h) (Or.inl ⟨by rfl, ?_⟩) hHeld ?_ ?_
       rotate_left
       ·
        rintro w' ⟨s0, s1, s2, s3, s4⟩
        go_simp
        with_reducible rfl
       rotate_left
       ·
        simp only [Act.put, pA, pB, pC, i64_w, i32_w]
        rfl
       refine take_ (i := 8) (N := some 39) (v := ?_) (a' := ?_) (M 16 3071) rfl rfl (take_ofW HT_.out HW_.out (by kernel_rfl)) (fun _ _ _ h => h) (Or.inl ⟨by rfl, ?_⟩) hHeld ?_ ?_
       rotate_left
       ·
        rintro w' ⟨s0, s1, s2, s3, s4⟩
        go_simp
        with_reducible rfl
       rotate_left
       ·
        simp only [Act.put, pA, pB, pC, i64_w, i32_w]
        rfl
       refine take_ (i := 10) (N := some 41) (v := ?_) (a' := ?_) (M 16 4095) rfl rfl (take_ofW HT_.out HW_.out (by kernel_rfl)) (fun _ _ _ h => h) (Or.inl ⟨by rfl, ?_⟩) hHeld ?_ ?_
       rotate_left
       ·
        rintro w' ⟨s0, s1, s2, s3, s4⟩
        go_simp
        with_reducible rfl
       rotate_left
       ·
        simp only [Act.put, pA, pB, pC, i64_w, i32_w]
        rfl
       refine take_ (i := 12) (N := some 43) (v := ?_) (a' := ?_) (M 16 8191) rfl rfl (take_ofW HT_.out HW_.out (by kernel_rfl)) (fun _ _ _ h => h) (Or.inl ⟨by rfl, ?_⟩) hHeld ?_ ?_
       rotate_left
       ·
        rintro w' ⟨s0, s1, s2, s3, s4⟩
        go_simp
        with_reducible rfl
       rotate_left
       ·
        simp only [Act.put, pA, pB, pC, i64_w, i32_w]
        rfl
       refine pu 13 (some 44) (M 16 16383) ?_
       refine one_ (i := 14) (N := some 6) (M 16 32767) rfl rfl (one_of HT_.out (by kernel_rfl)) (by decide) (fun K hK => ?_)
       refine box_step ?hg (N := 6) ?hd (cs := #[.int .i64 0, .string ⟨#[]⟩, .string ⟨#[]⟩, .string ⟨#[]⟩, .string ⟨#[]⟩, .string ⟨#[]⟩]) (t := 50) ?hr ?_; (case hd => rfl); (case hg => rfl); (case hr => first | (go_simp; done) | (go_simp; rfl))
       intro gb712 hg w67 hbox hb
       have n0_ := ak (blk_below (g := gb710) (bx BK710.out) hb)
       have n1_ := ak (blk_below (g := gb711) (bx BK711.out) hb)
       have n2_ := ak (below_step bq hb)
       have n3_ := ak (hbox)
       have n4_ := ak ((by rw [hg]; exact (below_size bq) : w.heap.size ≤ gb712))
       have n5_ := ak ((by rw [hg]; exact (below_size bq) : w.heap.size ≤ gb712))
       have n6_ := ak ((by rw [hg]; exact Nat.ne_of_lt (blk_lt (g := gb710) (bx BK710.out)) : gb710 ≠ gb712))
       have n7_ := ak ((by rw [hg]; exact Nat.ne_of_gt (blk_lt (g := gb710) (bx BK710.out)) : gb712 ≠ gb710))
       have n8_ := ak ((by rw [hg]; exact Nat.ne_of_lt (blk_lt (g := gb711) (bx BK711.out)) : gb711 ≠ gb712))
       have n9_ := ak ((by rw [hg]; exact Nat.ne_of_gt (blk_lt (g := gb711) (bx BK711.out)) : gb712 ≠ gb711))
       clear BK710
       clear BK711
       clear HB
       have BK710 := n0_
       have BK711 := n1_
       have HB := n2_
       have BK712 := n3_
       have GW712 := n4_
       have GE712 := n5_
       have NB710_712 := n6_
       have NB712_710 := n7_
       have NB711_712 := n8_
       have NB712_711 := n9_
       clear n0_ n1_ n2_ n3_ n4_ n5_ n6_ n7_ n8_ n9_
       clear hb hbox hg
       refine hK.out _ _ ⟨(blk_cell BK711.out 0).trans rfl, (blk_cell BK711.out 1).trans rfl, (blk_cell BK711.out 2).trans rfl, (blk_cell BK711.out 3).trans rfl, (blk_cell BK711.out 4).trans rfl⟩ (fun hHeld => ?_)
       clear hK K
       refine norm_ (a' := ?_) ?_ ?_
       rotate_left
       ·
        show Act.put _ (some 6) _ = _
        simp only [Act.put, pA, pB, pC, i64_w, i32_w]
        rfl
       refine one_ (i := 15) (N := none) (M 16 65535) rfl rfl (one_of HT_.out (by kernel_rfl)) (by decide) (fun K hK => ?_)
       have hs68 : w67.cell? ⟨gb712, 0, none⟩ = some (.int .i64 0) := (blk_cell BK712.out 0).trans rfl
       have hfs68 := blk_frozen BK712.out 0
       have hns68_0 := NB710_712.out
       have hns68_1 := NB711_712.out
       have hms68_0 := NB712_710.out
       have hms68_1 := NB712_711.out
       have hs69 : w67.cell? ⟨gb712, 1, none⟩ = some (.string ⟨#[]⟩) := (blk_cell BK712.out 1).trans rfl
       have hfs69 := blk_frozen BK712.out 1
       have hns69_0 := NB710_712.out
       have hns69_1 := NB711_712.out
       have hms69_0 := NB712_710.out
       have hms69_1 := NB712_711.out
       have hs70 : w67.cell? ⟨gb712, 2, none⟩ = some (.string ⟨#[]⟩) := (blk_cell BK712.out 2).trans rfl
       have hfs70 := blk_frozen BK712.out 2
       have hns70_0 := NB710_712.out
       have hns70_1 := NB711_712.out
       have hms70_0 := NB712_710.out
       have hms70_1 := NB712_711.out
       have hs71 : w67.cell? ⟨gb712, 3, none⟩ = some (.string ⟨#[]⟩) := (blk_cell BK712.out 3).trans rfl
       have hfs71 := blk_frozen BK712.out 3
       have hns71_0 := NB710_712.out
       have hns71_1 := NB711_712.out
       have hms71_0 := NB712_710.out
       have hms71_1 := NB712_711.out
       have hs72 : w67.cell? ⟨gb712, 4, none⟩ = some (.string ⟨#[]⟩) := (blk_cell BK712.out 4).trans rfl
       have hfs72 := blk_frozen BK712.out 4
       have hns72_0 := NB710_712.out
       have hns72_1 := NB711_712.out
       have hms72_0 := NB712_710.out
       have hms72_1 := NB712_711.out
       have hs73 : w67.cell? ⟨gb712, 5, none⟩ = some (.string ⟨#[]⟩) := (blk_cell BK712.out 5).trans rfl
       have hfs73 := blk_frozen BK712.out 5
       have hns73_0 := NB710_712.out
       have hns73_1 := NB711_712.out
       have hms73_0 := NB712_710.out
       have hms73_1 := NB712_711.out
       refine skip_ (w1 := ?_) (by rfl) rfl ?_ ?_
       rotate_left
       ·
        go_simp
        rfl
       refine hK.out _ _ ⟨((cell_far (p := ⟨gb712, _, none⟩) NB711_712.out _).trans (((cell_far (p := ⟨gb712, _, none⟩) NB711_712.out _).trans (((cell_far (p := ⟨gb712, _, none⟩) NB711_712.out _).trans (((cell_far (p := ⟨gb712, _, none⟩) NB711_712.out _).trans (((cell_far (p := ⟨gb712, _, none⟩) NB711_712.out _).trans (((cell_far (p := ⟨gb712, _, none⟩) NB711_712.out _).trans (hHeld.1)))))))))))), ((cell_far (p := ⟨gb712, _, none⟩) NB711_712.out _).trans (((cell_far (p := ⟨gb712, _, none⟩) NB711_712.out _).trans (((cell_far (p := ⟨gb712, _, none⟩) NB711_712.out _).trans (((cell_far (p := ⟨gb712, _, none⟩) NB711_712.out _).trans (((cell_far (p := ⟨gb712, _, none⟩) NB711_712.out _).trans (((cell_far (p := ⟨gb712, _, none⟩) NB711_712.out _).trans (hHeld.2.1)))))))))))), ((cell_far (p := ⟨gb712, _, none⟩) NB711_712.out _).trans (((cell_far (p := ⟨gb712, _, none⟩) NB711_712.out _).trans (((cell_far (p := ⟨gb712, _, none⟩) NB711_712.out _).trans (((cell_far (p := ⟨gb712, _, none⟩) NB711_712.out _).trans (((cell_far (p := ⟨gb712, _, none⟩) NB711_712.out _).trans (((cell_far (p := ⟨gb712, _, none⟩) NB711_712.out _).trans (hHeld.2.2.1)))))))))))), ((cell_far (p := ⟨gb712, _, none⟩) NB711_712.out _).trans (((cell_far (p := ⟨gb712, _, none⟩) NB711_712.out _).trans (((cell_far (p := ⟨gb712, _, none⟩) NB711_712.out _).trans (((cell_far (p := ⟨gb712, _, none⟩) NB711_712.out _).trans (((cell_far (p := ⟨gb712, _, none⟩) NB711_712.out _).trans (((cell_far (p := ⟨gb712, _, none⟩) NB711_712.out _).trans (hHeld.2.2.2.1)))))))))))), ((cell_far (p := ⟨gb712, _, none⟩) NB711_712.out _).trans (((cell_far (p := ⟨gb712, _, none⟩) NB711_712.out _).trans (((cell_far (p := ⟨gb712, _, none⟩) NB711_712.out _).trans (((cell_far (p := ⟨gb712, _, none⟩) NB711_712.out _).trans (((cell_far (p := ⟨gb712, _, none⟩) NB711_712.out _).trans (((cell_far (p := ⟨gb712, _, none⟩) NB711_712.out _).trans (hHeld.2.2.2.2))))))))))))⟩ (fun hHeld => ?_)
       clear hK K
       refine done_ (done_of HT_.out (by kernel_rfl)) ?_
       have hnb74 := NB712_710.out
       have hnc74 := NB710_712.out
       have hnb75 := NB712_711.out
       have hnc75 := NB711_712.out
       obtain ⟨hcz76_0, hcz76_1, hcz76_2, hcz76_3, hcz76_4, hcz76_5⟩ := cz6 BK712.out
       obtain ⟨hfz76_0, hfz76_1, hfz76_2, hfz76_3, hfz76_4, hfz76_5⟩ := fz6 BK712.out
       try go_wp2_with (first | ((with_reducible refine gate_callee (f := 55) rfl ?_); refine goesL_ (some 46) rfl rfl Tryd.func55 (by kernel_rfl) rfl #[.agg #[.int .i64 (wrap64 (bt a0 0)), .string x712000_1, .string x712001_1, .string x712002_1, .string x712003_1, .string x712004_1]] rfl mq ?_; (with_reducible refine (isoglossref12_Right.calls k1 (wrap64 (bt a0 0)) x712000_1 x712001_1 x712002_1 x712003_1 x712004_1 true _ A64.out).mono ?_); rintro e w77 ⟨rfl, hb⟩; refine ⟨_, rfl, ?_⟩; have n0_ := ak (blk_below (g := gb710) (o := .cells #[.int .i64 x711000_1, .string x711001_1, .string x711002_1, .string x711003_1, .string x711004_1, .string x711005_1, .bool x711006_1] 101 (0, 0)) (bx (blk_far (bx (blk_far (bx (blk_far (bx (blk_far (bx (blk_far (bx (blk_far (bx BK710.out) NB710_712.out _)) NB710_712.out _)) NB710_712.out _)) NB710_712.out _)) NB710_712.out _)) NB710_712.out _)) hb); have n1_ := ak (blk_below (g := gb711) (o := .cells #[.string x712000_1, .string x712001_1, .string x712002_1, .string x712003_1, .string x712004_1] 98 (0, 0)) (bx (blk_far (bx (blk_far (bx (blk_far (bx (blk_far (bx (blk_far (bx (blk_far (bx BK711.out) NB711_712.out _)) NB711_712.out _)) NB711_712.out _)) NB711_712.out _)) NB711_712.out _)) NB711_712.out _)) hb); have n2_ := ak (blk_below (g := gb712) (o := .cells #[.int .i64 (wrap64 (bt a0 0)), .string x712000_1, .string x712001_1, .string x712002_1, .string x712003_1, .string x712004_1] 50 (0, 0)) (bx (blk_put (cs := #[.int .i64 (wrap64 (bt a0 0)), .string x712000_1, .string x712001_1, .string x712002_1, .string x712003_1, .string ⟨#[]⟩]) (bx (blk_put (cs := #[.int .i64 (wrap64 (bt a0 0)), .string x712000_1, .string x712001_1, .string x712002_1, .string ⟨#[]⟩, .string ⟨#[]⟩]) (bx (blk_put (cs := #[.int .i64 (wrap64 (bt a0 0)), .string x712000_1, .string x712001_1, .string ⟨#[]⟩, .string ⟨#[]⟩, .string ⟨#[]⟩]) (bx (blk_put (cs := #[.int .i64 (wrap64 (bt a0 0)), .string x712000_1, .string ⟨#[]⟩, .string ⟨#[]⟩, .string ⟨#[]⟩, .string ⟨#[]⟩]) (bx (blk_put (cs := #[.int .i64 (wrap64 (bt a0 0)), .string ⟨#[]⟩, .string ⟨#[]⟩, .string ⟨#[]⟩, .string ⟨#[]⟩, .string ⟨#[]⟩]) (bx (blk_put (cs := #[.int .i64 0, .string ⟨#[]⟩, .string ⟨#[]⟩, .string ⟨#[]⟩, .string ⟨#[]⟩, .string ⟨#[]⟩]) (bx BK712.out) 0 _ rfl)) 1 _ rfl)) 2 _ rfl)) 3 _ rfl)) 4 _ rfl)) 5 _ rfl)) hb); have n3_ := ak (below_step bq hb); clear BK710; clear BK711; clear BK712; clear HB; have BK710 := n0_; have BK711 := n1_; have BK712 := n2_; have HB := n3_; clear n0_ n1_ n2_ n3_; (try clear hb); (try clear hb2); (try clear hk); (try clear hi); obtain ⟨hcz78_0, hcz78_1, hcz78_2, hcz78_3, hcz78_4, hcz78_5⟩ := cz6 BK712.out; obtain ⟨hfz78_0, hfz78_1, hfz78_2, hfz78_3, hfz78_4, hfz78_5⟩ := fz6 BK712.out; have hnb79 := NB710_711.out; have hnc79 := NB711_710.out; obtain ⟨hcz80_0, hcz80_1, hcz80_2, hcz80_3, hcz80_4, hcz80_5, hcz80_6⟩ := cz7 BK710.out; obtain ⟨hfz80_0, hfz80_1, hfz80_2, hfz80_3, hfz80_4, hfz80_5, hfz80_6⟩ := fz7 BK710.out; (try clear A64)))
       refine bodyPost_ret (results_cell_row rfl _ _ gb710 101 #[.int .i64 (wrap64 (bt a0 0)), .string x712000_1, .string x712001_1, .string x712002_1, .string x712003_1, .string x712004_1, .bool true] (0, 0) _ rfl (bx (blk_put (cs := #[.int .i64 (wrap64 (bt a0 0)), .string x712000_1, .string x712001_1, .string x712002_1, .string x712003_1, .string x712004_1, .bool x711006_1]) (bx (blk_put (cs := #[.int .i64 (wrap64 (bt a0 0)), .string x712000_1, .string x712001_1, .string x712002_1, .string x712003_1, .string x711005_1, .bool x711006_1]) (bx (blk_put (cs := #[.int .i64 (wrap64 (bt a0 0)), .string x712000_1, .string x712001_1, .string x712002_1, .string x711004_1, .string x711005_1, .bool x711006_1]) (bx (blk_put (cs := #[.int .i64 (wrap64 (bt a0 0)), .string x712000_1, .string x712001_1, .string x711003_1, .string x711004_1, .string x711005_1, .bool x711006_1]) (bx (blk_put (cs := #[.int .i64 (wrap64 (bt a0 0)), .string x712000_1, .string x711002_1, .string x711003_1, .string x711004_1, .string x711005_1, .bool x711006_1]) (bx (blk_put (cs := #[.int .i64 (wrap64 (bt a0 0)), .string x711001_1, .string x711002_1, .string x711003_1, .string x711004_1, .string x711005_1, .bool x711006_1]) (bx (blk_put (cs := #[.int .i64 x711000_1, .string x711001_1, .string x711002_1, .string x711003_1, .string x711004_1, .string x711005_1, .bool x711006_1]) (bx BK710.out) 0 _ rfl)) 1 _ rfl)) 2 _ rfl)) 3 _ rfl)) 4 _ rfl)) 5 _ rfl)) 6 _ rfl)) Tryd.underlying101 rfl (by kernel_rfl)) rfl ?_
       exact ⟨by first | rfl | (simp [errW_none, errW_some] <;> rfl) | (simp [*, errW_none, errW_some] <;> rfl), bq⟩
      ·
       replace c65 := Bool.eq_false_iff.mpr c65
       subst c65
       have H1 : (some (0, (⟨#[]⟩ : ByteArray), (⟨#[]⟩ : ByteArray), (⟨#[]⟩ : ByteArray), (⟨#[]⟩ : ByteArray), (⟨#[]⟩ : ByteArray), false)) = some (r1, r2, r3, r4, r5, r6, r7) := by rw [if_neg (show ¬ (false = true) by decide)] at H; exact H
       clear H
       have H := H1
       clear H1
       simp only [Option.some.injEq, Prod.mk.injEq] at H
       obtain ⟨rfl, rfl, rfl, rfl, rfl, rfl, rfl⟩ := H
       try go_wp2
       have n0_ := ak (blk_drew BK710.out)
       have n1_ := ak (blk_drew BK711.out)
       have n2_ := ak (below_drew1 HB.out)
       clear BK710
       clear BK711
       clear HB
       have BK710 := n0_
       have BK711 := n1_
       have HB := n2_
       clear n0_ n1_ n2_
       have p63 : 0 ≤ (0 : Int) := (by omega)
       have q63 : 0 < a0.size := (by have : (0 : Int) < (a0.size : Int) := of_decide_eq_true (by first | (with_reducible assumption) | assumption); omega)
       have hx63 : ∀ h : 0 < a0.size, ((a0[0]'h).toNat : Int) = bt a0 0 := bt_at a0 0
       clear p63
       have qi63 : (0 < (a0.size : Int)) = True := eq_true (of_decide_eq_true (by first | (with_reducible assumption) | assumption))
       replace q63 := eq_true q63
       refine start_ (n := 16) (S := fun w' => w'.cell? ⟨gb711, 0, none⟩ = some (.string x712000_1) ∧ w'.cell? ⟨gb711, 1, none⟩ = some (.string x712001_1) ∧ w'.cell? ⟨gb711, 2, none⟩ = some (.string x712002_1) ∧ w'.cell? ⟨gb711, 3, none⟩ = some (.string x712003_1) ∧ w'.cell? ⟨gb711, 4, none⟩ = some (.string x712004_1)) (ds := []) #[false, false, false, false, false, false, false, false, false, false, false, false, false, false, false, false] (by kernel_rfl) rfl rfl ⟨(blk_cell BK711.out 0).trans rfl, (blk_cell BK711.out 1).trans rfl, (blk_cell BK711.out 2).trans rfl, (blk_cell BK711.out 3).trans rfl, (blk_cell BK711.out 4).trans rfl⟩ (fun hHeld => ?_); refine with_tabW isoglossref12_Decode.tab11 isoglossref12_Decode.bits11 (fun HT_ HW_ => ?_)
       generalize wr.drew = w81 at BK710 BK711 HB hHeld ⊢
       refine pu 0 (some 31) (M 16 1) ?_
       refine pu 3 (some 34) (M 16 9) ?_
       refine pu 5 (some 36) (M 16 41) ?_
       refine pu 7 (some 38) (M 16 169) ?_
       refine pu 9 (some 40) (M 16 681) ?_
       refine pu 11 (some 42) (M 16 2729) ?_
       refine take_ (i := 1) (N := some 32) (v := ?_) (a' := ?_) (M 16 2731) rfl rfl (take_ofW HT_.out HW_.out (by kernel_rfl)) (fun _ _ _ h => h) (Or.inl ⟨by rfl, ?_⟩) hHeld ?_ ?_
       rotate_left
       ·
        rintro w' ⟨s0, s1, s2, s3, s4⟩
        go_simp
        with_reducible rfl
       rotate_left
       ·
        simp only [Act.put, pA, pB, pC, i64_w, i32_w]
        rfl
       refine pu 2 (some 33) (M 16 2735) ?_
       refine take_ (i := 4) (N := some 35) (v := ?_) (a' := ?_) (M 16 2751) rfl rfl (take_ofW HT_.out HW_.out (by kernel_rfl)) (fun _ _ _ h => h) (Or.inl ⟨by rfl, ?_⟩) hHeld ?_ ?_
       rotate_left
       ·
        rintro w' ⟨s0, s1, s2, s3, s4⟩
        go_simp
        with_reducible rfl
       rotate_left
       ·
        simp only [Act.put, pA, pB, pC, i64_w, i32_w]
        rfl
       refine take_ (i := 6) (N := some 37) (v := ?_) (a' := ?_) (M 16 2815) rfl rfl (take_ofW HT_.out HW_.out (by kernel_rfl)) (fun _ _ _ h => h) (Or.inl ⟨by rfl, ?_⟩) hHeld ?_ ?_
       rotate_left
       ·
        rintro w' ⟨s0, s1, s2, s3, s4⟩
        go_simp
        with_reducible rfl
       rotate_left
       ·
        simp only [Act.put, pA, pB, pC, i64_w, i32_w]
        rfl
       refine take_ (i := 8) (N := some 39) (v := ?_) (a' := ?_) (M 16 3071) rfl rfl (take_ofW HT_.out HW_.out (by kernel_rfl)) (fun _ _ _ h => h) (Or.inl ⟨by rfl, ?_⟩) hHeld ?_ ?_
       rotate_left
       ·
        rintro w' ⟨s0, s1, s2, s3, s4⟩
        go_simp
        with_reducible rfl
       rotate_left
       ·
        simp only [Act.put, pA, pB, pC, i64_w, i32_w]
        rfl
       refine take_ (i := 10) (N := some 41) (v := ?_) (a' := ?_) (M 16 4095) rfl rfl (take_ofW HT_.out HW_.out (by kernel_rfl)) (fun _ _ _ h => h) (Or.inl ⟨by rfl, ?_⟩) hHeld ?_ ?_
       rotate_left
       ·
        rintro w' ⟨s0, s1, s2, s3, s4⟩
        go_simp
        with_reducible rfl
       rotate_left
       ·
        simp only [Act.put, pA, pB, pC, i64_w, i32_w]
        rfl
       refine take_ (i := 12) (N := some 43) (v := ?_) (a' := ?_) (M 16 8191) rfl rfl (take_ofW HT_.out HW_.out (by kernel_rfl)) (fun _ _ _ h => h) (Or.inl ⟨by rfl, ?_⟩) hHeld ?_ ?_
       rotate_left
       ·
        rintro w' ⟨s0, s1, s2, s3, s4⟩
        go_simp
        with_reducible rfl
       rotate_left
       ·
        simp only [Act.put, pA, pB, pC, i64_w, i32_w]
        rfl
       refine pu 13 (some 44) (M 16 16383) ?_
       refine one_ (i := 14) (N := some 6) (M 16 32767) rfl rfl (one_of HT_.out (by kernel_rfl)) (by decide) (fun K hK => ?_)
       refine box_step ?hg (N := 6) ?hd (cs := #[.int .i64 0, .string ⟨#[]⟩, .string ⟨#[]⟩, .string ⟨#[]⟩, .string ⟨#[]⟩, .string ⟨#[]⟩]) (t := 50) ?hr ?_; (case hd => rfl); (case hg => rfl); (case hr => first | (go_simp; done) | (go_simp; rfl))
       intro gb712 hg w82 hbox hb
       have n0_ := ak (blk_below (g := gb710) (bx BK710.out) hb)
       have n1_ := ak (blk_below (g := gb711) (bx BK711.out) hb)
       have n2_ := ak (below_step bq hb)
       have n3_ := ak (hbox)
       have n4_ := ak ((by rw [hg]; exact (below_size bq) : w.heap.size ≤ gb712))
       have n5_ := ak ((by rw [hg]; exact (below_size bq) : w.heap.size ≤ gb712))
       have n6_ := ak ((by rw [hg]; exact Nat.ne_of_lt (blk_lt (g := gb710) (bx BK710.out)) : gb710 ≠ gb712))
       have n7_ := ak ((by rw [hg]; exact Nat.ne_of_gt (blk_lt (g := gb710) (bx BK710.out)) : gb712 ≠ gb710))
       have n8_ := ak ((by rw [hg]; exact Nat.ne_of_lt (blk_lt (g := gb711) (bx BK711.out)) : gb711 ≠ gb712))
       have n9_ := ak ((by rw [hg]; exact Nat.ne_of_gt (blk_lt (g := gb711) (bx BK711.out)) : gb712 ≠ gb711))
       clear BK710
       clear BK711
       clear HB
       have BK710 := n0_
       have BK711 := n1_
       have HB := n2_
       have BK712 := n3_
       have GW712 := n4_
       have GE712 := n5_
       have NB710_712 := n6_
       have NB712_710 := n7_
       have NB711_712 := n8_
       have NB712_711 := n9_
       clear n0_ n1_ n2_ n3_ n4_ n5_ n6_ n7_ n8_ n9_
       clear hb hbox hg
       refine hK.out _ _ ⟨(blk_cell BK711.out 0).trans rfl, (blk_cell BK711.out 1).trans rfl, (blk_cell BK711.out 2).trans rfl, (blk_cell BK711.out 3).trans rfl, (blk_cell BK711.out 4).trans rfl⟩ (fun hHeld => ?_)
       clear hK K
       refine norm_ (a' := ?_) ?_ ?_
       rotate_left
       ·
        show Act.put _ (some 6) _ = _
        simp only [Act.put, pA, pB, pC, i64_w, i32_w]
        rfl
       refine one_ (i := 15) (N := none) (M 16 65535) rfl rfl (one_of HT_.out (by kernel_rfl)) (by decide) (fun K hK => ?_)
       have hs83 : w82.cell? ⟨gb712, 0, none⟩ = some (.int .i64 0) := (blk_cell BK712.out 0).trans rfl
       have hfs83 := blk_frozen BK712.out 0
       have hns83_0 := NB710_712.out
       have hns83_1 := NB711_712.out
       have hms83_0 := NB712_710.out
       have hms83_1 := NB712_711.out
       have hs84 : w82.cell? ⟨gb712, 1, none⟩ = some (.string ⟨#[]⟩) := (blk_cell BK712.out 1).trans rfl
       have hfs84 := blk_frozen BK712.out 1
       have hns84_0 := NB710_712.out
       have hns84_1 := NB711_712.out
       have hms84_0 := NB712_710.out
       have hms84_1 := NB712_711.out
       have hs85 : w82.cell? ⟨gb712, 2, none⟩ = some (.string ⟨#[]⟩) := (blk_cell BK712.out 2).trans rfl
       have hfs85 := blk_frozen BK712.out 2
       have hns85_0 := NB710_712.out
       have hns85_1 := NB711_712.out
       have hms85_0 := NB712_710.out
       have hms85_1 := NB712_711.out
       have hs86 : w82.cell? ⟨gb712, 3, none⟩ = some (.string ⟨#[]⟩) := (blk_cell BK712.out 3).trans rfl
       have hfs86 := blk_frozen BK712.out 3
       have hns86_0 := NB710_712.out
       have hns86_1 := NB711_712.out
       have hms86_0 := NB712_710.out
       have hms86_1 := NB712_711.out
       have hs87 : w82.cell? ⟨gb712, 4, none⟩ = some (.string ⟨#[]⟩) := (blk_cell BK712.out 4).trans rfl
       have hfs87 := blk_frozen BK712.out 4
       have hns87_0 := NB710_712.out
       have hns87_1 := NB711_712.out
       have hms87_0 := NB712_710.out
       have hms87_1 := NB712_711.out
       have hs88 : w82.cell? ⟨gb712, 5, none⟩ = some (.string ⟨#[]⟩) := (blk_cell BK712.out 5).trans rfl
       have hfs88 := blk_frozen BK712.out 5
       have hns88_0 := NB710_712.out
       have hns88_1 := NB711_712.out
       have hms88_0 := NB712_710.out
       have hms88_1 := NB712_711.out
       refine skip_ (w1 := ?_) (by rfl) rfl ?_ ?_
       rotate_left
       ·
        go_simp
        rfl
       refine hK.out _ _ ⟨((cell_far (p := ⟨gb712, _, none⟩) NB711_712.out _).trans (((cell_far (p := ⟨gb712, _, none⟩) NB711_712.out _).trans (((cell_far (p := ⟨gb712, _, none⟩) NB711_712.out _).trans (((cell_far (p := ⟨gb712, _, none⟩) NB711_712.out _).trans (((cell_far (p := ⟨gb712, _, none⟩) NB711_712.out _).trans (((cell_far (p := ⟨gb712, _, none⟩) NB711_712.out _).trans (hHeld.1)))))))))))), ((cell_far (p := ⟨gb712, _, none⟩) NB711_712.out _).trans (((cell_far (p := ⟨gb712, _, none⟩) NB711_712.out _).trans (((cell_far (p := ⟨gb712, _, none⟩) NB711_712.out _).trans (((cell_far (p := ⟨gb712, _, none⟩) NB711_712.out _).trans (((cell_far (p := ⟨gb712, _, none⟩) NB711_712.out _).trans (((cell_far (p := ⟨gb712, _, none⟩) NB711_712.out _).trans (hHeld.2.1)))))))))))), ((cell_far (p := ⟨gb712, _, none⟩) NB711_712.out _).trans (((cell_far (p := ⟨gb712, _, none⟩) NB711_712.out _).trans (((cell_far (p := ⟨gb712, _, none⟩) NB711_712.out _).trans (((cell_far (p := ⟨gb712, _, none⟩) NB711_712.out _).trans (((cell_far (p := ⟨gb712, _, none⟩) NB711_712.out _).trans (((cell_far (p := ⟨gb712, _, none⟩) NB711_712.out _).trans (hHeld.2.2.1)))))))))))), ((cell_far (p := ⟨gb712, _, none⟩) NB711_712.out _).trans (((cell_far (p := ⟨gb712, _, none⟩) NB711_712.out _).trans (((cell_far (p := ⟨gb712, _, none⟩) NB711_712.out _).trans (((cell_far (p := ⟨gb712, _, none⟩) NB711_712.out _).trans (((cell_far (p := ⟨gb712, _, none⟩) NB711_712.out _).trans (((cell_far (p := ⟨gb712, _, none⟩) NB711_712.out _).trans (hHeld.2.2.2.1)))))))))))), ((cell_far (p := ⟨gb712, _, none⟩) NB711_712.out _).trans (((cell_far (p := ⟨gb712, _, none⟩) NB711_712.out _).trans (((cell_far (p := ⟨gb712, _, none⟩) NB711_712.out _).trans (((cell_far (p := ⟨gb712, _, none⟩) NB711_712.out _).trans (((cell_far (p := ⟨gb712, _, none⟩) NB711_712.out _).trans (((cell_far (p := ⟨gb712, _, none⟩) NB711_712.out _).trans (hHeld.2.2.2.2))))))))))))⟩ (fun hHeld => ?_)
       clear hK K
       refine done_ (done_of HT_.out (by kernel_rfl)) ?_
       have hnb89 := NB712_710.out
       have hnc89 := NB710_712.out
       have hnb90 := NB712_711.out
       have hnc90 := NB711_712.out
       obtain ⟨hcz91_0, hcz91_1, hcz91_2, hcz91_3, hcz91_4, hcz91_5⟩ := cz6 BK712.out
       obtain ⟨hfz91_0, hfz91_1, hfz91_2, hfz91_3, hfz91_4, hfz91_5⟩ := fz6 BK712.out
       try go_wp2_with (first | ((with_reducible refine gate_callee (f := 55) rfl ?_); refine goesL_ (some 46) rfl rfl Tryd.func55 (by kernel_rfl) rfl #[.agg #[.int .i64 (wrap64 (bt a0 0)), .string x712000_1, .string x712001_1, .string x712002_1, .string x712003_1, .string x712004_1]] rfl mq ?_; (with_reducible refine (isoglossref12_Right.calls k1 (wrap64 (bt a0 0)) x712000_1 x712001_1 x712002_1 x712003_1 x712004_1 false _ A64.out).mono ?_); rintro e w92 ⟨rfl, hb⟩; refine ⟨_, rfl, ?_⟩; have n0_ := ak (blk_below (g := gb710) (o := .cells #[.int .i64 x711000_1, .string x711001_1, .string x711002_1, .string x711003_1, .string x711004_1, .string x711005_1, .bool x711006_1] 101 (0, 0)) (bx (blk_far (bx (blk_far (bx (blk_far (bx (blk_far (bx (blk_far (bx (blk_far (bx BK710.out) NB710_712.out _)) NB710_712.out _)) NB710_712.out _)) NB710_712.out _)) NB710_712.out _)) NB710_712.out _)) hb); have n1_ := ak (blk_below (g := gb711) (o := .cells #[.string x712000_1, .string x712001_1, .string x712002_1, .string x712003_1, .string x712004_1] 98 (0, 0)) (bx (blk_far (bx (blk_far (bx (blk_far (bx (blk_far (bx (blk_far (bx (blk_far (bx BK711.out) NB711_712.out _)) NB711_712.out _)) NB711_712.out _)) NB711_712.out _)) NB711_712.out _)) NB711_712.out _)) hb); have n2_ := ak (blk_below (g := gb712) (o := .cells #[.int .i64 (wrap64 (bt a0 0)), .string x712000_1, .string x712001_1, .string x712002_1, .string x712003_1, .string x712004_1] 50 (0, 0)) (bx (blk_put (cs := #[.int .i64 (wrap64 (bt a0 0)), .string x712000_1, .string x712001_1, .string x712002_1, .string x712003_1, .string ⟨#[]⟩]) (bx (blk_put (cs := #[.int .i64 (wrap64 (bt a0 0)), .string x712000_1, .string x712001_1, .string x712002_1, .string ⟨#[]⟩, .string ⟨#[]⟩]) (bx (blk_put (cs := #[.int .i64 (wrap64 (bt a0 0)), .string x712000_1, .string x712001_1, .string ⟨#[]⟩, .string ⟨#[]⟩, .string ⟨#[]⟩]) (bx (blk_put (cs := #[.int .i64 (wrap64 (bt a0 0)), .string x712000_1, .string ⟨#[]⟩, .string ⟨#[]⟩, .string ⟨#[]⟩, .string ⟨#[]⟩]) (bx (blk_put (cs := #[.int .i64 (wrap64 (bt a0 0)), .string ⟨#[]⟩, .string ⟨#[]⟩, .string ⟨#[]⟩, .string ⟨#[]⟩, .string ⟨#[]⟩]) (bx (blk_put (cs := #[.int .i64 0, .string ⟨#[]⟩, .string ⟨#[]⟩, .string ⟨#[]⟩, .string ⟨#[]⟩, .string ⟨#[]⟩]) (bx BK712.out) 0 _ rfl)) 1 _ rfl)) 2 _ rfl)) 3 _ rfl)) 4 _ rfl)) 5 _ rfl)) hb); have n3_ := ak (below_step bq hb); clear BK710; clear BK711; clear BK712; clear HB; have BK710 := n0_; have BK711 := n1_; have BK712 := n2_; have HB := n3_; clear n0_ n1_ n2_ n3_; (try clear hb); (try clear hb2); (try clear hk); (try clear hi); have hnb93 := NB710_711.out; have hnc93 := NB711_710.out; obtain ⟨hcz94_0, hcz94_1, hcz94_2, hcz94_3, hcz94_4, hcz94_5, hcz94_6⟩ := cz7 BK710.out; obtain ⟨hfz94_0, hfz94_1, hfz94_2, hfz94_3, hfz94_4, hfz94_5, hfz94_6⟩ := fz7 BK710.out; (try clear A64)))
       refine bodyPost_ret (results_cell_row rfl _ _ gb710 101 #[.int .i64 0, .string ⟨#[]⟩, .string ⟨#[]⟩, .string ⟨#[]⟩, .string ⟨#[]⟩, .string ⟨#[]⟩, .bool false] (0, 0) _ rfl (bx (blk_put (cs := #[.int .i64 0, .string ⟨#[]⟩, .string ⟨#[]⟩, .string ⟨#[]⟩, .string ⟨#[]⟩, .string ⟨#[]⟩, .bool x711006_1]) (bx (blk_put (cs := #[.int .i64 0, .string ⟨#[]⟩, .string ⟨#[]⟩, .string ⟨#[]⟩, .string ⟨#[]⟩, .string x711005_1, .bool x711006_1]) (bx (blk_put (cs := #[.int .i64 0, .string ⟨#[]⟩, .string ⟨#[]⟩, .string ⟨#[]⟩, .string x711004_1, .string x711005_1, .bool x711006_1]) (bx (blk_put (cs := #[.int .i64 0, .string ⟨#[]⟩, .string ⟨#[]⟩, .string x711003_1, .string x711004_1, .string x711005_1, .bool x711006_1]) (bx (blk_put (cs := #[.int .i64 0, .string ⟨#[]⟩, .string x711002_1, .string x711003_1, .string x711004_1, .string x711005_1, .bool x711006_1]) (bx (blk_put (cs := #[.int .i64 0, .string x711001_1, .string x711002_1, .string x711003_1, .string x711004_1, .string x711005_1, .bool x711006_1]) (bx (blk_put (cs := #[.int .i64 x711000_1, .string x711001_1, .string x711002_1, .string x711003_1, .string x711004_1, .string x711005_1, .bool x711006_1]) (bx BK710.out) 0 _ rfl)) 1 _ rfl)) 2 _ rfl)) 3 _ rfl)) 4 _ rfl)) 5 _ rfl)) 6 _ rfl)) Tryd.underlying101 rfl (by kernel_rfl)) rfl ?_
       exact ⟨by first | rfl | (simp [errW_none, errW_some] <;> rfl) | (simp [*, errW_none, errW_some] <;> rfl), bq⟩
     ·
      rw [if_neg c62] at H
      exact absurd H (by simp)
 ·
  rw [if_neg c2] at H
  have c2b0 : ((a0.size : Int) == 41) = false := beq_eq_false_iff_ne.mpr c2
  have c2b1 : ((a0.size : Int) != 41) = true := bne_iff_ne.mpr c2
  simp only [Option.some.injEq, Prod.mk.injEq] at H
  obtain ⟨rfl, rfl, rfl, rfl, rfl, rfl, rfl⟩ := H
  go_enter Tryd.func76, Tryd.ntmps76
  go_wp2_with (first | ((with_reducible refine gate_dst (N := 2) rfl ?_); refine box_event ?hg (N := 2) ?hd (cs := #[.int .i64 0, .string ⟨#[]⟩, .string ⟨#[]⟩, .string ⟨#[]⟩, .string ⟨#[]⟩, .string ⟨#[]⟩, .bool false]) (t := 101) ?hr ?_; (case hd => rfl); (case hg => rfl); (case hr => first | (go_simp; done) | (go_simp; rfl)); intro gb710 hg w95 hbox hb; have n0_ := ak (below_step bq hb); have n1_ := ak (hbox); have n2_ := ak ((by rw [hg]; exact (below_size bq) : w.heap.size ≤ gb710)); have n3_ := ak ((by rw [hg]; exact (below_size bq) : w.heap.size ≤ gb710)); clear HB; have HB := n0_; have BK710 := n1_; have GW710 := n2_; have GE710 := n3_; clear n0_ n1_ n2_ n3_; clear hb hbox hg; obtain ⟨hcz96_0, hcz96_1, hcz96_2, hcz96_3, hcz96_4, hcz96_5, hcz96_6⟩ := cz7 BK710.out; obtain ⟨hfz96_0, hfz96_1, hfz96_2, hfz96_3, hfz96_4, hfz96_5, hfz96_6⟩ := fz7 BK710.out))
  refine bodyPost_ret (results_cell_row rfl _ _ gb710 101 #[.int .i64 0, .string ⟨#[]⟩, .string ⟨#[]⟩, .string ⟨#[]⟩, .string ⟨#[]⟩, .string ⟨#[]⟩, .bool false] (0, 0) _ rfl (bx (blk_put (cs := #[.int .i64 0, .string ⟨#[]⟩, .string ⟨#[]⟩, .string ⟨#[]⟩, .string ⟨#[]⟩, .string ⟨#[]⟩, .bool false]) (bx (blk_put (cs := #[.int .i64 0, .string ⟨#[]⟩, .string ⟨#[]⟩, .string ⟨#[]⟩, .string ⟨#[]⟩, .string ⟨#[]⟩, .bool false]) (bx (blk_put (cs := #[.int .i64 0, .string ⟨#[]⟩, .string ⟨#[]⟩, .string ⟨#[]⟩, .string ⟨#[]⟩, .string ⟨#[]⟩, .bool false]) (bx (blk_put (cs := #[.int .i64 0, .string ⟨#[]⟩, .string ⟨#[]⟩, .string ⟨#[]⟩, .string ⟨#[]⟩, .string ⟨#[]⟩, .bool false]) (bx (blk_put (cs := #[.int .i64 0, .string ⟨#[]⟩, .string ⟨#[]⟩, .string ⟨#[]⟩, .string ⟨#[]⟩, .string ⟨#[]⟩, .bool false]) (bx (blk_put (cs := #[.int .i64 0, .string ⟨#[]⟩, .string ⟨#[]⟩, .string ⟨#[]⟩, .string ⟨#[]⟩, .string ⟨#[]⟩, .bool false]) (bx (blk_put (cs := #[.int .i64 0, .string ⟨#[]⟩, .string ⟨#[]⟩, .string ⟨#[]⟩, .string ⟨#[]⟩, .string ⟨#[]⟩, .bool false]) (bx BK710.out) 0 _ rfl)) 1 _ rfl)) 2 _ rfl)) 3 _ rfl)) 4 _ rfl)) 5 _ rfl)) 6 _ rfl)) Tryd.underlying101 rfl (by kernel_rfl)) rfl ?_
  exact ⟨by first | rfl | (simp [errW_none, errW_some] <;> rfl) | (simp [*, errW_none, errW_some] <;> rfl), bq⟩

end Go.Proofs.YtmbfnbnlajchmaaDoor.P
