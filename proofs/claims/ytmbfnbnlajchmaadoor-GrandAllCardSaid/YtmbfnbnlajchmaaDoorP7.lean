/- Made by a program of this seat's own (myprint.py, round the kit's print): what the functions compute, and that they do. -/
import Derived.Test.YtmbfnbnlajchmaaDoorP0
import Derived.Test.YtmbfnbnlajchmaaDoorP1
import Derived.Test.YtmbfnbnlajchmaaDoorP4
import Derived.Test.YtmbfnbnlajchmaaDoorP6
namespace Go.Proofs.YtmbfnbnlajchmaaDoor.P
open Go.RowKit Go.Proofs.YtmbfnbnlajchmaaDoorW.PrintWords Go.Proofs.YtmbfnbnlajchmaaDoorW.PrintLast Go.Proofs.YtmbfnbnlajchmaaDoorW.PrintMore
attribute [local go_sem] StrOrd.binOp_gtr StrOrd.binOp_leq max2_int min2_int max_two min_two max_three min_three max_four min_four   -- for this text's walks alone
set_option linter.unusedVariables false
set_option linter.unusedSimpArgs false

/-! ### isoglossref04_Check: function 28 -/
def isoglossref04_Check.l0 : Nat → List (S82) → Int → Option (Int × Int)
  | 0, _, _ => none
  | k + 1, x3, x4 => if x4 < (x3.length : Int) then (if 0 ≤ x4 then ((isoglossref04_Sub.f k ((rd_T82 x3 x4).f1)).bind fun t213 => (if t213 = true then (isoglossref04_Check.l0 k x3 (wrap64 (x4 + 1))) else (some (10, (rd_T82 x3 x4).f0)))) else (none)) else (some (0, (-1)))
def isoglossref04_Check.f (k : Nat) (a0 : ByteArray) : Option (Int × Int) := (isoglossref04_Each.f k a0).bind fun t209 => (isoglossref04_Check.l0 k t209 0)
theorem isoglossref04_Check.mono_l : ∀ k, (∀ y0 y1, LeO (isoglossref04_Check.l0 k y0 y1) (isoglossref04_Check.l0 (k + 1) y0 y1))
  | 0 => fun _ _ r h => by simp [isoglossref04_Check.l0] at h
  | k + 1 => by
    have ih0 := isoglossref04_Check.mono_l k
    · intro y0 y1
      unfold isoglossref04_Check.l0
      repeat' first
      | (with_reducible exact ih0 _ _)
      | (with_reducible exact isoglossref04_Each.mono _ _)
      | (with_reducible exact isoglossref04_Sub.mono _ _)
      | (with_reducible exact LeO.refl _)
      | (with_reducible exact LeO.none _)
      | (with_reducible refine LeO.ite ?_ ?_)
      | (with_reducible refine LeO.bind ?_ (fun _ => ?_))
      | exact ih0 _ _
      | exact isoglossref04_Each.mono _ _
      | exact isoglossref04_Sub.mono _ _
      | exact LeO.none _
      | refine LeO.ite ?_ ?_
      | refine LeO.bind ?_ (fun _ => ?_)
theorem isoglossref04_Check.mono : ∀ a0 k, LeO (isoglossref04_Check.f k a0) (isoglossref04_Check.f (k + 1) a0) := by
  intro a0 k
  have ih0 := isoglossref04_Check.mono_l k
  unfold isoglossref04_Check.f
  repeat' first
      | (with_reducible exact ih0 _ _)
      | (with_reducible exact isoglossref04_Each.mono _ _)
      | (with_reducible exact isoglossref04_Sub.mono _ _)
      | (with_reducible exact LeO.refl _)
      | (with_reducible exact LeO.none _)
      | (with_reducible refine LeO.ite ?_ ?_)
      | (with_reducible refine LeO.bind ?_ (fun _ => ?_))
      | exact ih0 _ _
      | exact isoglossref04_Each.mono _ _
      | exact isoglossref04_Sub.mono _ _
      | exact LeO.none _
      | refine LeO.ite ?_ ?_
      | refine LeO.bind ?_ (fun _ => ?_)
set_option maxHeartbeats 8000000 in
set_option maxRecDepth 100000 in
theorem isoglossref04_Check.calls (k : Nat) (a0 : ByteArray) (r1 : Int) (r2 : Int) (w : World) (h : isoglossref04_Check.f k a0 = some (r1, r2)) :
    Calls Tryd.prog 28 #[.string a0] w fun e w' => e = .returned (.agg #[.int .i64 r1, .int .i64 r2]) ∧ Below w.heap.size w w' := by
  have hu47 := Tryd.underlying47
  have HB := Aside0.mk (Below.refl w.heap.size w)
  have H : ((isoglossref04_Each.f k a0).bind fun t209 => (isoglossref04_Check.l0 k t209 0)) = some (r1, r2) := h
  clear h
  replace H := Option.bind_eq_some_iff.mp H
  obtain ⟨t209, A20, H⟩ := H
  replace H : (isoglossref04_Check.l0 k t209 0) = some (r1, r2) := H
  have A2 := Aside0.mk A20
  clear A20
  have H' := Aside0.mk H
  clear H
  go_enter Tryd.func28, Tryd.ntmps28
  go_wp2_with (first | ((with_reducible refine gate_dst (N := 2) rfl ?_); refine box_event ?hg (N := 2) ?hd (cs := #[.int .i64 0, .int .i64 0]) (t := 47) ?hr ?_; (case hd => rfl); (case hg => rfl); (case hr => first | (go_simp; done) | (go_simp; rfl)); intro gb208 hg w3 hbox hb; have n0_ := Aside0.mk (below_step (by repeat (first | (with_reducible first | exact HB.out | apply below_alloc | apply pw_below_drewN | apply below_drew1) | exact HB.out)) hb); have n1_ := Aside0.mk (hbox); have n2_ := Aside0.mk ((by rw [hg]; exact (below_size (by repeat (first | (with_reducible first | exact HB.out | apply below_alloc | apply pw_below_drewN | apply below_drew1) | exact HB.out))) : w.heap.size ≤ gb208)); have n3_ := Aside0.mk ((by rw [hg]; exact (below_size (by repeat (first | (with_reducible first | exact HB.out | apply below_alloc | apply pw_below_drewN | apply below_drew1) | exact HB.out))) : w.heap.size ≤ gb208)); clear HB; have HB := n0_; have BK208 := n1_; have GW208 := n2_; have GE208 := n3_; clear n0_ n1_ n2_ n3_; clear hb hbox hg) | ((with_reducible refine gate_callee (f := 52) rfl ?_); refine goesL_ (some 7) rfl rfl Tryd.func52 (by kernel_rfl) rfl #[.string a0] rfl (by (try simp only [List.map_toArray, List.map_cons, List.map_nil]); first | done | rfl | (simp only [List.length_drop, List.length_take]; rfl)) ?_; (with_reducible refine (isoglossref04_Each.calls k a0 t209 _ A2.out).mono ?_); rintro e w4 ⟨v210, rfl, ho0, hb⟩; refine ⟨_, rfl, ?_⟩; have n0_ := Aside0.mk (Kd.R_lower ho0 (below_size (by repeat (first | (with_reducible first | exact HB.out | apply below_alloc | apply pw_below_drewN | apply below_drew1 | refine below_set ?_ GE208.out) | exact HB.out)))); have n1_ := Aside0.mk (blk_below (g := gb208) (o := .cells #[.int .i64 0, .int .i64 0] 47 (0, 0)) (by (with_reducible repeat (first | refine blk_drewN ?_ _ | refine blk_drew ?_ | refine blk_alloc ?_ _)); exact BK208.out) hb); have n2_ := Aside0.mk (below_step (by repeat (first | (with_reducible first | exact HB.out | apply below_alloc | apply pw_below_drewN | apply below_drew1 | refine below_set ?_ GE208.out) | exact HB.out)) hb); clear BK208; clear HB; have HO211 := n0_; have BK208 := n1_; have HB := n2_; clear n0_ n1_ n2_; (try clear hb); (try clear hb2); (try clear hk); (try clear hi); (try clear ho0); (try clear A2)))
  go_loopg [4] k (fun kq v4 w' => ∃ (x4_1 : Int) (x209000_1 : Int) (x209001_1 : Int), v4 = .int .i64 x4_1 ∧ Aside0 (isoglossref04_Check.l0 kq t209 x4_1 = some (r1, r2)) ∧ Aside0 (kq ≤ k) ∧ Aside0 (Kd.R k82 82 w' w.heap.size (fun _ => True) v210 t209) ∧ Aside0 (w'.heap[gb208]? = some (.cells #[.int .i64 x209000_1, .int .i64 x209001_1] 47 (0, 0))) ∧ Aside0 (Below w.heap.size w w'))
  case atStart => exact ⟨(0), (0), (0), (by first | rfl | (simp; done) | (simp [*]; done)), H', ⟨Nat.le_refl _⟩, ⟨by (with_reducible repeat (first | apply Kd.R_alloc | apply Kd.R_drewN | apply Kd.R_drew)); exact HO211.out⟩, ⟨by (with_reducible repeat (first | refine blk_drewN ?_ _ | refine blk_drew ?_ | refine blk_alloc ?_ _)); exact BK208.out⟩, ⟨by repeat (first | (with_reducible first | exact HB.out | apply below_alloc | apply pw_below_drewN | apply below_drew1 | refine below_set ?_ GE208.out) | exact HB.out)⟩⟩
  case round =>
    clear H'
    try clear c2
    try clear p2
    obtain ⟨x4_1, x209000_1, x209001_1, rfl, HA, HK1, HO_3, BK208, HB⟩ := hrel
    cases gk with
    | zero => exact absurd HA.out (by simp [isoglossref04_Check.l0])
    | succ k1 =>
      have H := HA.out
      clear HA
      simp only [isoglossref04_Check.l0] at H
      by_cases c5 : x4_1 < (t209.length : Int)
      · rw [if_pos c5] at H
        have c5b0 : decide (x4_1 < (t209.length : Int)) = true := decide_eq_true c5
        clear c5
        by_cases c6 : 0 ≤ x4_1
        · rw [if_pos c6] at H
          have c6b0 : decide (0 ≤ x4_1) = true := decide_eq_true c6
          clear c6
          replace H := Option.bind_eq_some_iff.mp H
          obtain ⟨t213, A70, H⟩ := H
          replace H : (if t213 = true then (isoglossref04_Check.l0 k1 t209 (wrap64 (x4_1 + 1))) else (some (10, (rd_T82 t209 x4_1).f0))) = some (r1, r2) := H
          have A7 := Aside0.mk A70
          clear A70
          by_cases c8 : t213 = true
          · subst c8
            have H1 : (isoglossref04_Check.l0 k1 t209 (wrap64 (x4_1 + 1))) = some (r1, r2) := by rw [if_pos rfl] at H; exact H
            clear H
            have H := H1
            clear H1
            have H' := Aside0.mk H
            clear H
            obtain ⟨Ao9, co9, eo9⟩ := Kd.R_slice HO_3.out
            subst eo9
            have p212 : 0 ≤ (x4_1 : Int) := of_decide_eq_true (by first | (with_reducible assumption) | assumption)
            have q212 : x4_1 < (t209.length : Int) := of_decide_eq_true (by first | (with_reducible assumption) | assumption)
            obtain ⟨ad212, e212, hx212_0, hx212_1⟩ := at_T82 (Kd.R_reads' HO_3.out).2.2 x4_1 p212 q212
            cases e212
            replace p212 := eq_true p212
            replace q212 := eq_true q212
            go_wp2_with (first | ((with_reducible refine gate_callee (f := 54) rfl ?_); refine goesL_ (some 19) rfl rfl Tryd.func54 (by kernel_rfl) rfl #[.string ((rd_T82 t209 x4_1).f1)] rfl (by (try simp only [List.map_toArray, List.map_cons, List.map_nil]); first | done | rfl | (simp only [List.length_drop, List.length_take]; rfl)) ?_; (with_reducible refine (isoglossref04_Sub.calls k1 ((rd_T82 t209 x4_1).f1) true _ A7.out).mono ?_); rintro e w' ⟨rfl, ⟨nd, rfl⟩⟩; refine ⟨_, rfl, ?_⟩; (try clear A7)))
            go_roundg k1
            case measure => have := HK1.out; omega
            case rel => exact ⟨(wrap64 (x4_1 + 1)), (x209000_1), (x209001_1), (by first | rfl | (simp; done) | (simp [*]; done)), H', ⟨by have := HK1.out; omega⟩, ⟨by (with_reducible repeat (first | apply Kd.R_alloc | apply Kd.R_drewN | apply Kd.R_drew)); exact HO_3.out⟩, ⟨by (with_reducible repeat (first | refine blk_drewN ?_ _ | refine blk_drew ?_ | refine blk_alloc ?_ _)); exact BK208.out⟩, ⟨by repeat (first | (with_reducible first | exact HB.out | apply below_alloc | apply pw_below_drewN | apply below_drew1 | refine below_set ?_ GE208.out) | exact HB.out)⟩⟩
          · replace c8 := Bool.eq_false_iff.mpr c8
            subst c8
            have H1 : (some (10, (rd_T82 t209 x4_1).f0)) = some (r1, r2) := by rw [if_neg (show ¬ (false = true) by decide)] at H; exact H
            clear H
            have H := H1
            clear H1
            simp only [Option.some.injEq, Prod.mk.injEq] at H
            obtain ⟨rfl, rfl⟩ := H
            obtain ⟨Ao10, co10, eo10⟩ := Kd.R_slice HO_3.out
            subst eo10
            have p212 : 0 ≤ (x4_1 : Int) := of_decide_eq_true (by first | (with_reducible assumption) | assumption)
            have q212 : x4_1 < (t209.length : Int) := of_decide_eq_true (by first | (with_reducible assumption) | assumption)
            obtain ⟨ad212, e212, hx212_0, hx212_1⟩ := at_T82 (Kd.R_reads' HO_3.out).2.2 x4_1 p212 q212
            cases e212
            replace p212 := eq_true p212
            replace q212 := eq_true q212
            go_wp2_with (first | ((with_reducible refine gate_callee (f := 54) rfl ?_); refine goesL_ (some 19) rfl rfl Tryd.func54 (by kernel_rfl) rfl #[.string ((rd_T82 t209 x4_1).f1)] rfl (by (try simp only [List.map_toArray, List.map_cons, List.map_nil]); first | done | rfl | (simp only [List.length_drop, List.length_take]; rfl)) ?_; (with_reducible refine (isoglossref04_Sub.calls k1 ((rd_T82 t209 x4_1).f1) false _ A7.out).mono ?_); rintro e w' ⟨rfl, ⟨nd, rfl⟩⟩; refine ⟨_, rfl, ?_⟩; (try (rw [drewN_self wr]; generalize hq_ : World.drewN wr _ = wr; have n0_ : Aside0 (Kd.R k82 82 wr w.heap.size (fun _ => True) (.slice (some ad212) t209.length co10) t209) := ⟨by rw [← hq_]; exact (by (with_reducible repeat (first | apply Kd.R_alloc | apply Kd.R_drewN | apply Kd.R_drew)); exact HO_3.out)⟩; have n1_ : Aside0 (wr.heap[gb208]? = some (.cells #[.int .i64 x209000_1, .int .i64 x209001_1] 47 (0, 0))) := ⟨by rw [← hq_]; exact (by (with_reducible repeat (first | refine blk_drewN ?_ _ | refine blk_drew ?_ | refine blk_alloc ?_ _)); exact BK208.out)⟩; have n2_ : Aside0 (Below w.heap.size w wr) := ⟨by rw [← hq_]; exact (by repeat (first | (with_reducible first | exact HB.out | apply below_alloc | apply pw_below_drewN | apply below_drew1 | refine below_set ?_ GE208.out) | exact HB.out))⟩; clear HO_3 BK208 HB hq_; have HO_3 := n0_; have BK208 := n1_; have HB := n2_; clear n0_ n1_ n2_)); have p214 : 0 ≤ (x4_1 : Int) := of_decide_eq_true (by first | (with_reducible assumption) | assumption); have q214 : x4_1 < (t209.length : Int) := of_decide_eq_true (by first | (with_reducible assumption) | assumption); obtain ⟨ad214, e214, hx214_0, hx214_1⟩ := at_T82 (Kd.R_reads' HO_3.out).2.2 x4_1 p214 q214; obtain rfl : ad212 = ad214 := (by injection e214); replace p214 := eq_true p214; replace q214 := eq_true q214; have hcz11_0 : wr.cell? ⟨gb208, 0, none⟩ = some (.int .i64 x209000_1) := (blk_cell BK208.out 0).trans rfl; have hcz11_1 : wr.cell? ⟨gb208, 1, none⟩ = some (.int .i64 x209001_1) := (blk_cell BK208.out 1).trans rfl; have hfz11_0 := blk_frozen BK208.out 0; have hfz11_1 := blk_frozen BK208.out 1; (try clear A7)))
            refine bodyPost_ret (results_cell_row rfl _ _ gb208 47 #[.int .i64 10, .int .i64 ((rd_T82 t209 x4_1).f0)] (0, 0) _ rfl (by (with_reducible repeat (first | refine blk_drewN ?_ _ | refine blk_drew ?_ | refine blk_alloc ?_ _)); refine blk_put (cs := #[.int .i64 10, .int .i64 x209001_1]) ?_ 1 _ rfl; (with_reducible repeat (first | refine blk_drewN ?_ _ | refine blk_drew ?_ | refine blk_alloc ?_ _)); refine blk_put (cs := #[.int .i64 x209000_1, .int .i64 x209001_1]) ?_ 0 _ rfl; (with_reducible repeat (first | refine blk_drewN ?_ _ | refine blk_drew ?_ | refine blk_alloc ?_ _)); exact BK208.out) Tryd.underlying47 rfl (by kernel_rfl)) rfl ?_
            exact ⟨by first | rfl | (simp [errW_none, errW_some] <;> rfl) | (simp [*, errW_none, errW_some] <;> rfl), by repeat (first | (with_reducible first | exact HB.out | apply below_alloc | apply pw_below_drewN | apply below_drew1 | refine below_set ?_ GE208.out) | exact HB.out)⟩
        · rw [if_neg c6] at H
          exact absurd H (by simp)
      · rw [if_neg c5] at H
        have c5b0 : decide (x4_1 < (t209.length : Int)) = false := decide_eq_false c5
        clear c5
        simp only [Option.some.injEq, Prod.mk.injEq] at H
        obtain ⟨rfl, rfl⟩ := H
        obtain ⟨Ao12, co12, eo12⟩ := Kd.R_slice HO_3.out
        subst eo12
        have hcz13_0 : wr.cell? ⟨gb208, 0, none⟩ = some (.int .i64 x209000_1) := (blk_cell BK208.out 0).trans rfl
        have hcz13_1 : wr.cell? ⟨gb208, 1, none⟩ = some (.int .i64 x209001_1) := (blk_cell BK208.out 1).trans rfl
        have hfz13_0 := blk_frozen BK208.out 0
        have hfz13_1 := blk_frozen BK208.out 1
        go_wp2
        refine bodyPost_ret (results_cell_row rfl _ _ gb208 47 #[.int .i64 0, .int .i64 (-1)] (0, 0) _ rfl (by (with_reducible repeat (first | refine blk_drewN ?_ _ | refine blk_drew ?_ | refine blk_alloc ?_ _)); refine blk_put (cs := #[.int .i64 0, .int .i64 x209001_1]) ?_ 1 _ rfl; (with_reducible repeat (first | refine blk_drewN ?_ _ | refine blk_drew ?_ | refine blk_alloc ?_ _)); refine blk_put (cs := #[.int .i64 x209000_1, .int .i64 x209001_1]) ?_ 0 _ rfl; (with_reducible repeat (first | refine blk_drewN ?_ _ | refine blk_drew ?_ | refine blk_alloc ?_ _)); exact BK208.out) Tryd.underlying47 rfl (by kernel_rfl)) rfl ?_
        exact ⟨by first | rfl | (simp [errW_none, errW_some] <;> rfl) | (simp [*, errW_none, errW_some] <;> rfl), by repeat (first | (with_reducible first | exact HB.out | apply below_alloc | apply pw_below_drewN | apply below_drew1 | refine below_set ?_ GE208.out) | exact HB.out)⟩

/-! ### isoglosslaw05_GrandTags: function 7 -/
def isoglosslaw05_GrandTags.j0 : Nat → Int → Bool → List ByteArray → Bool → Option (Bool)
  | 0, _, _, _, _ => none
  | k + 1, x0, x3, x6, x38 => if x38 = true then (some false) else (if 0 < (x6.length : Int) then (if x3 = true then (if ((rdOf ByteArray.empty x6 0).size : Int) = 2 then (some true) else (if ((rdOf ByteArray.empty x6 0).size : Int) = 3 then (some true) else (if ((rdOf ByteArray.empty x6 0).size : Int) = 1 then ((grand_Len.f).bind fun t228 => ((isoglosslaw05_rest.f x0 t228).bind fun t229 => ((grand_Regular.f t229).bind fun t230 => (some (!t230))))) else (some false)))) else (some false)) else (none))
def isoglosslaw05_GrandTags.f (k : Nat) (a0 : Int) : Option (Bool) := (isoglosslaw05_awake.f k).bind fun t215 => ((grand_Len.f).bind fun t216 => (if t216 = 0 then (some false) else ((grand_Len.f).bind fun t217 => ((isoglosslaw05_rest.f a0 t217).bind fun t218 => ((grand_Name.f t218).bind fun bt219 => ((isoglossref04_Split.f k bt219.1).bind fun t221 => (if bt219.2 = true then (if (t221.length : Int) < 2 then (isoglosslaw05_GrandTags.j0 k a0 t215 t221 true) else ((isoglossref02_Lower.f k bt219.1).bind fun t224 => (if bt219.1.toList = t224.toList then ((isoglossref04_Check.f k bt219.1).bind fun bt225 => (isoglosslaw05_GrandTags.j0 k a0 t215 t221 (decide (bt225.2 ≥ 0)))) else (isoglosslaw05_GrandTags.j0 k a0 t215 t221 true)))) else (isoglosslaw05_GrandTags.j0 k a0 t215 t221 true))))))))
theorem isoglosslaw05_GrandTags.mono_l : ∀ k, (∀ y0 y1 y2 y3, LeO (isoglosslaw05_GrandTags.j0 k y0 y1 y2 y3) (isoglosslaw05_GrandTags.j0 (k + 1) y0 y1 y2 y3))
  | 0 => fun _ _ _ _ r h => by simp [isoglosslaw05_GrandTags.j0] at h
  | k + 1 => by
    have ih0 := isoglosslaw05_GrandTags.mono_l k
    · intro y0 y1 y2 y3
      unfold isoglosslaw05_GrandTags.j0
      repeat' first
      | (with_reducible exact ih0 _ _ _ _)
      | (with_reducible exact isoglosslaw05_awake.mono _)
      | (with_reducible exact isoglossref02_Lower.mono _ _)
      | (with_reducible exact isoglossref04_Check.mono _ _)
      | (with_reducible exact isoglossref04_Split.mono _ _)
      | (with_reducible exact LeO.refl _)
      | (with_reducible exact LeO.none _)
      | (with_reducible refine LeO.ite ?_ ?_)
      | (with_reducible refine LeO.bind ?_ (fun _ => ?_))
      | exact ih0 _ _ _ _
      | exact isoglosslaw05_awake.mono _
      | exact isoglossref02_Lower.mono _ _
      | exact isoglossref04_Check.mono _ _
      | exact isoglossref04_Split.mono _ _
      | exact LeO.none _
      | refine LeO.ite ?_ ?_
      | refine LeO.bind ?_ (fun _ => ?_)
theorem isoglosslaw05_GrandTags.mono : ∀ a0 k, LeO (isoglosslaw05_GrandTags.f k a0) (isoglosslaw05_GrandTags.f (k + 1) a0) := by
  intro a0 k
  have ih0 := isoglosslaw05_GrandTags.mono_l k
  unfold isoglosslaw05_GrandTags.f
  repeat' first
      | (with_reducible exact ih0 _ _ _ _)
      | (with_reducible exact isoglosslaw05_awake.mono _)
      | (with_reducible exact isoglossref02_Lower.mono _ _)
      | (with_reducible exact isoglossref04_Check.mono _ _)
      | (with_reducible exact isoglossref04_Split.mono _ _)
      | (with_reducible exact LeO.refl _)
      | (with_reducible exact LeO.none _)
      | (with_reducible refine LeO.ite ?_ ?_)
      | (with_reducible refine LeO.bind ?_ (fun _ => ?_))
      | exact ih0 _ _ _ _
      | exact isoglosslaw05_awake.mono _
      | exact isoglossref02_Lower.mono _ _
      | exact isoglossref04_Check.mono _ _
      | exact isoglossref04_Split.mono _ _
      | exact LeO.none _
      | refine LeO.ite ?_ ?_
      | refine LeO.bind ?_ (fun _ => ?_)
set_option maxHeartbeats 8000000 in
set_option maxRecDepth 100000 in
theorem isoglosslaw05_GrandTags.calls (k : Nat) (a0 : Int) (r : Bool) (w : World) (h : isoglosslaw05_GrandTags.f k a0 = some r) (hG : GrandW.G w) :
    Calls Tryd.prog 7 #[.int .i64 a0] w fun e w' => e = .returned (.bool r) ∧ Below w.heap.size w w' := by
  have HG := Aside0.mk hG
  clear hG
  have hf47_1 : ∀ (n0 : Int) (n1 : Int) (W : World), (Instr.field 47 (.agg #[.int .i64 n0, .int .i64 n1]) 1).run Tryd.prog W = .ok (.int .i64 n1) W := by intros; kernel_rfl
  have HB := Aside0.mk (Below.refl w.heap.size w)
  have H : ((isoglosslaw05_awake.f k).bind fun t215 => ((grand_Len.f).bind fun t216 => (if t216 = 0 then (some false) else ((grand_Len.f).bind fun t217 => ((isoglosslaw05_rest.f a0 t217).bind fun t218 => ((grand_Name.f t218).bind fun bt219 => ((isoglossref04_Split.f k bt219.1).bind fun t221 => (if bt219.2 = true then (if (t221.length : Int) < 2 then (isoglosslaw05_GrandTags.j0 k a0 t215 t221 true) else ((isoglossref02_Lower.f k bt219.1).bind fun t224 => (if bt219.1.toList = t224.toList then ((isoglossref04_Check.f k bt219.1).bind fun bt225 => (isoglosslaw05_GrandTags.j0 k a0 t215 t221 (decide (bt225.2 ≥ 0)))) else (isoglosslaw05_GrandTags.j0 k a0 t215 t221 true)))) else (isoglosslaw05_GrandTags.j0 k a0 t215 t221 true))))))))) = some r := h
  clear h
  replace H := Option.bind_eq_some_iff.mp H
  obtain ⟨t215, A20, H⟩ := H
  replace H : ((grand_Len.f).bind fun t216 => (if t216 = 0 then (some false) else ((grand_Len.f).bind fun t217 => ((isoglosslaw05_rest.f a0 t217).bind fun t218 => ((grand_Name.f t218).bind fun bt219 => ((isoglossref04_Split.f k bt219.1).bind fun t221 => (if bt219.2 = true then (if (t221.length : Int) < 2 then (isoglosslaw05_GrandTags.j0 k a0 t215 t221 true) else ((isoglossref02_Lower.f k bt219.1).bind fun t224 => (if bt219.1.toList = t224.toList then ((isoglossref04_Check.f k bt219.1).bind fun bt225 => (isoglosslaw05_GrandTags.j0 k a0 t215 t221 (decide (bt225.2 ≥ 0)))) else (isoglosslaw05_GrandTags.j0 k a0 t215 t221 true)))) else (isoglosslaw05_GrandTags.j0 k a0 t215 t221 true)))))))) = some r := H
  have A2 := Aside0.mk A20
  clear A20
  replace H := Option.bind_eq_some_iff.mp H
  obtain ⟨t216, A30, H⟩ := H
  replace H : (if t216 = 0 then (some false) else ((grand_Len.f).bind fun t217 => ((isoglosslaw05_rest.f a0 t217).bind fun t218 => ((grand_Name.f t218).bind fun bt219 => ((isoglossref04_Split.f k bt219.1).bind fun t221 => (if bt219.2 = true then (if (t221.length : Int) < 2 then (isoglosslaw05_GrandTags.j0 k a0 t215 t221 true) else ((isoglossref02_Lower.f k bt219.1).bind fun t224 => (if bt219.1.toList = t224.toList then ((isoglossref04_Check.f k bt219.1).bind fun bt225 => (isoglosslaw05_GrandTags.j0 k a0 t215 t221 (decide (bt225.2 ≥ 0)))) else (isoglosslaw05_GrandTags.j0 k a0 t215 t221 true)))) else (isoglosslaw05_GrandTags.j0 k a0 t215 t221 true))))))) = some r := H
  have A3 := Aside0.mk A30
  clear A30
  by_cases c4 : t216 = 0
  · rw [if_pos c4] at H
    have c4b0 : (t216 == 0) = true := beq_iff_eq.mpr c4
    have c4b1 : (t216 != 0) = false := bne_eq_false_iff_eq.mpr c4
    (try (have c4b2 : (t216 : Int).toNat = 0 := by rw [c4]; rfl))
    try have c4b3 : (0 ≤ t216) = True := eq_true (by omega)
    try have c4b4_2 : (t216 < 2) = True := eq_true (by omega)
    try have c4b4_3 : (t216 < 3) = True := eq_true (by omega)
    try have c4b4_5 : (t216 < 5) = True := eq_true (by omega)
    clear c4
    obtain rfl := Option.some.inj H
    go_enter Tryd.func7, Tryd.ntmps7
    go_wp2_with (first | ((with_reducible refine gate_callee (f := 14) rfl ?_); refine goesL_ (some 8) rfl rfl Tryd.func14 (by kernel_rfl) rfl #[] rfl (by (try simp only [List.map_toArray, List.map_cons, List.map_nil]); first | done | rfl | (simp only [List.length_drop, List.length_take]; rfl)) ?_; (with_reducible refine (isoglosslaw05_awake.calls k  t215 _ A2.out (by repeat (first | exact HG.out | exact GrandW.G.below HG.out HB.out | apply GrandW.G.alloc | apply GrandW.G.drewN | apply GrandW.G.drew))).mono ?_); rintro e w5 ⟨rfl, hb⟩; refine ⟨_, rfl, ?_⟩; have n0_ := Aside0.mk (below_step (by repeat (first | (with_reducible first | exact HB.out | apply below_alloc | apply pw_below_drewN | apply below_drew1) | exact HB.out)) hb); clear HB; have HB := n0_; clear n0_; (try clear hb); (try clear hb2); (try clear hk); (try clear hi); (try clear A2)) | ((with_reducible refine gate_callee (f := 23) rfl ?_); refine goesL_ (some 9) rfl rfl Tryd.func23 (by kernel_rfl) rfl #[] rfl (by (try simp only [List.map_toArray, List.map_cons, List.map_nil]); first | done | rfl | (simp only [List.length_drop, List.length_take]; rfl)) ?_; (with_reducible refine (grand_Len.calls  t216 _ A3.out (by repeat (first | exact HG.out | exact GrandW.G.below HG.out HB.out | apply GrandW.G.alloc | apply GrandW.G.drewN | apply GrandW.G.drew))).mono ?_); rintro e w6 ⟨rfl, hb⟩; refine ⟨_, rfl, ?_⟩; have n0_ := Aside0.mk (below_step (by repeat (first | (with_reducible first | exact HB.out | apply below_alloc | apply pw_below_drewN | apply below_drew1) | exact HB.out)) hb); clear HB; have HB := n0_; clear n0_; (try clear hb); (try clear hb2); (try clear hk); (try clear hi); (try clear A3)))
    go_ret
    exact ⟨by first | rfl | (simp [errW_none, errW_some] <;> rfl) | (simp [*, errW_none, errW_some] <;> rfl), by repeat (first | (with_reducible first | exact HB.out | apply below_alloc | apply pw_below_drewN | apply below_drew1) | exact HB.out)⟩
  · rw [if_neg c4] at H
    have c4b0 : (t216 == 0) = false := beq_eq_false_iff_ne.mpr c4
    have c4b1 : (t216 != 0) = true := bne_iff_ne.mpr c4
    replace H := Option.bind_eq_some_iff.mp H
    obtain ⟨t217, A70, H⟩ := H
    replace H : ((isoglosslaw05_rest.f a0 t217).bind fun t218 => ((grand_Name.f t218).bind fun bt219 => ((isoglossref04_Split.f k bt219.1).bind fun t221 => (if bt219.2 = true then (if (t221.length : Int) < 2 then (isoglosslaw05_GrandTags.j0 k a0 t215 t221 true) else ((isoglossref02_Lower.f k bt219.1).bind fun t224 => (if bt219.1.toList = t224.toList then ((isoglossref04_Check.f k bt219.1).bind fun bt225 => (isoglosslaw05_GrandTags.j0 k a0 t215 t221 (decide (bt225.2 ≥ 0)))) else (isoglosslaw05_GrandTags.j0 k a0 t215 t221 true)))) else (isoglosslaw05_GrandTags.j0 k a0 t215 t221 true))))) = some r := H
    have A7 := Aside0.mk A70
    clear A70
    replace H := Option.bind_eq_some_iff.mp H
    obtain ⟨t218, A80, H⟩ := H
    replace H : ((grand_Name.f t218).bind fun bt219 => ((isoglossref04_Split.f k bt219.1).bind fun t221 => (if bt219.2 = true then (if (t221.length : Int) < 2 then (isoglosslaw05_GrandTags.j0 k a0 t215 t221 true) else ((isoglossref02_Lower.f k bt219.1).bind fun t224 => (if bt219.1.toList = t224.toList then ((isoglossref04_Check.f k bt219.1).bind fun bt225 => (isoglosslaw05_GrandTags.j0 k a0 t215 t221 (decide (bt225.2 ≥ 0)))) else (isoglosslaw05_GrandTags.j0 k a0 t215 t221 true)))) else (isoglosslaw05_GrandTags.j0 k a0 t215 t221 true)))) = some r := H
    have A8 := Aside0.mk A80
    clear A80
    replace H := Option.bind_eq_some_iff.mp H
    obtain ⟨⟨t219, t220⟩, A90, H⟩ := H
    replace H : ((isoglossref04_Split.f k t219).bind fun t221 => (if t220 = true then (if (t221.length : Int) < 2 then (isoglosslaw05_GrandTags.j0 k a0 t215 t221 true) else ((isoglossref02_Lower.f k t219).bind fun t224 => (if t219.toList = t224.toList then ((isoglossref04_Check.f k t219).bind fun bt225 => (isoglosslaw05_GrandTags.j0 k a0 t215 t221 (decide (bt225.2 ≥ 0)))) else (isoglosslaw05_GrandTags.j0 k a0 t215 t221 true)))) else (isoglosslaw05_GrandTags.j0 k a0 t215 t221 true))) = some r := H
    have A9 := Aside0.mk A90
    clear A90
    replace H := Option.bind_eq_some_iff.mp H
    obtain ⟨t221, A100, H⟩ := H
    replace H : (if t220 = true then (if (t221.length : Int) < 2 then (isoglosslaw05_GrandTags.j0 k a0 t215 t221 true) else ((isoglossref02_Lower.f k t219).bind fun t224 => (if t219.toList = t224.toList then ((isoglossref04_Check.f k t219).bind fun bt225 => (isoglosslaw05_GrandTags.j0 k a0 t215 t221 (decide (bt225.2 ≥ 0)))) else (isoglosslaw05_GrandTags.j0 k a0 t215 t221 true)))) else (isoglosslaw05_GrandTags.j0 k a0 t215 t221 true)) = some r := H
    have A10 := Aside0.mk A100
    clear A100
    have HC11 := Aside0.mk H
    clear H
    go_enter Tryd.func7, Tryd.ntmps7
    go_upto_region 6 with (first | ((with_reducible refine gate_callee (f := 14) rfl ?_); refine goesL_ (some 8) rfl rfl Tryd.func14 (by kernel_rfl) rfl #[] rfl (by (try simp only [List.map_toArray, List.map_cons, List.map_nil]); first | done | rfl | (simp only [List.length_drop, List.length_take]; rfl)) ?_; (with_reducible refine (isoglosslaw05_awake.calls k  t215 _ A2.out (by repeat (first | exact HG.out | exact GrandW.G.below HG.out HB.out | apply GrandW.G.alloc | apply GrandW.G.drewN | apply GrandW.G.drew))).mono ?_); rintro e w12 ⟨rfl, hb⟩; refine ⟨_, rfl, ?_⟩; have n0_ := Aside0.mk (below_step (by repeat (first | (with_reducible first | exact HB.out | apply below_alloc | apply pw_below_drewN | apply below_drew1) | exact HB.out)) hb); clear HB; have HB := n0_; clear n0_; (try clear hb); (try clear hb2); (try clear hk); (try clear hi); (try clear A2)) | ((with_reducible refine gate_callee (f := 23) rfl ?_); refine goesL_ (some 9) rfl rfl Tryd.func23 (by kernel_rfl) rfl #[] rfl (by (try simp only [List.map_toArray, List.map_cons, List.map_nil]); first | done | rfl | (simp only [List.length_drop, List.length_take]; rfl)) ?_; (with_reducible refine (grand_Len.calls  t216 _ A3.out (by repeat (first | exact HG.out | exact GrandW.G.below HG.out HB.out | apply GrandW.G.alloc | apply GrandW.G.drewN | apply GrandW.G.drew))).mono ?_); rintro e w13 ⟨rfl, hb⟩; refine ⟨_, rfl, ?_⟩; have n0_ := Aside0.mk (below_step (by repeat (first | (with_reducible first | exact HB.out | apply below_alloc | apply pw_below_drewN | apply below_drew1) | exact HB.out)) hb); clear HB; have HB := n0_; clear n0_; (try clear hb); (try clear hb2); (try clear hk); (try clear hi); (try clear A3)) | ((with_reducible refine gate_callee (f := 23) rfl ?_); refine goesL_ (some 13) rfl rfl Tryd.func23 (by kernel_rfl) rfl #[] rfl (by (try simp only [List.map_toArray, List.map_cons, List.map_nil]); first | done | rfl | (simp only [List.length_drop, List.length_take]; rfl)) ?_; (with_reducible refine (grand_Len.calls  t217 _ A7.out (by repeat (first | exact HG.out | exact GrandW.G.below HG.out HB.out | apply GrandW.G.alloc | apply GrandW.G.drewN | apply GrandW.G.drew))).mono ?_); rintro e w14 ⟨rfl, hb⟩; refine ⟨_, rfl, ?_⟩; have n0_ := Aside0.mk (below_step (by repeat (first | (with_reducible first | exact HB.out | apply below_alloc | apply pw_below_drewN | apply below_drew1) | exact HB.out)) hb); clear HB; have HB := n0_; clear n0_; (try clear hb); (try clear hb2); (try clear hk); (try clear hi); (try clear A7)) | ((with_reducible refine gate_callee (f := 17) rfl ?_); refine goesL_ (some 14) rfl rfl Tryd.func17 (by kernel_rfl) rfl #[.int .i64 a0, .int .i64 t217] rfl (by (try simp only [List.map_toArray, List.map_cons, List.map_nil]); first | done | rfl | (simp only [List.length_drop, List.length_take]; rfl)) ?_; (with_reducible refine (isoglosslaw05_rest.calls a0 t217 t218 _ A8.out).mono ?_); rintro e w' ⟨rfl, ⟨nd, rfl⟩⟩; refine ⟨_, rfl, ?_⟩; (try clear A8)) | ((with_reducible refine gate_callee (f := 21) rfl ?_); refine goesL_ (some 15) rfl rfl Tryd.func21 (by kernel_rfl) rfl #[.int .i64 t218] rfl (by (try simp only [List.map_toArray, List.map_cons, List.map_nil]); first | done | rfl | (simp only [List.length_drop, List.length_take]; rfl)) ?_; (with_reducible refine (grand_Name.calls t218 t219 t220 _ A9.out (by repeat (first | exact HG.out | exact GrandW.G.below HG.out HB.out | apply GrandW.G.alloc | apply GrandW.G.drewN | apply GrandW.G.drew))).mono ?_); rintro e w' ⟨rfl, ⟨nd, rfl⟩⟩; refine ⟨_, rfl, ?_⟩; (try clear A9)) | ((with_reducible refine gate_callee (f := 26) rfl ?_); refine goesL_ (some 19) rfl rfl Tryd.func26 (by kernel_rfl) rfl #[.string t219] rfl (by (try simp only [List.map_toArray, List.map_cons, List.map_nil]); first | done | rfl | (simp only [List.length_drop, List.length_take]; rfl)) ?_; (with_reducible refine (isoglossref04_Split.calls k t219 t221 _ A10.out).mono ?_); rintro e w15 ⟨v222, rfl, ho0, hb⟩; refine ⟨_, rfl, ?_⟩; have n0_ := Aside0.mk (Kd.R_lower ho0 (below_size (by repeat (first | (with_reducible first | exact HB.out | apply below_alloc | apply pw_below_drewN | apply below_drew1) | exact HB.out)))); have n1_ := Aside0.mk (below_step (by repeat (first | (with_reducible first | exact HB.out | apply below_alloc | apply pw_below_drewN | apply below_drew1) | exact HB.out)) hb); clear HB; have HO223 := n0_; have HB := n1_; clear n0_ n1_; (try clear hb); (try clear hb2); (try clear hk); (try clear hi); (try clear ho0); (try clear A10)))
    (try simp only [Act.put, List.setIfInBounds_toArray, List.set_cons_zero, List.set_cons_succ])
    go_cut [38] (fun v38 wc => ∃ (kq : Nat) (x38_10 : Bool), v38 = .bool x38_10 ∧ Aside0 (isoglosslaw05_GrandTags.j0 kq a0 t215 t221 x38_10 = some r) ∧ Aside0 (kq ≤ k) ∧ Aside0 (Kd.R Kd.string 9 wc w.heap.size (fun _ => True) v222 t221) ∧ Aside0 (Below w.heap.size w wc))
    case first =>
      have H := HC11.out
      clear HC11
      by_cases c16 : t220 = true
      · subst c16
        have H1 : (if (t221.length : Int) < 2 then (isoglosslaw05_GrandTags.j0 k a0 t215 t221 true) else ((isoglossref02_Lower.f k t219).bind fun t224 => (if t219.toList = t224.toList then ((isoglossref04_Check.f k t219).bind fun bt225 => (isoglosslaw05_GrandTags.j0 k a0 t215 t221 (decide (bt225.2 ≥ 0)))) else (isoglosslaw05_GrandTags.j0 k a0 t215 t221 true)))) = some r := by rw [if_pos rfl] at H; exact H
        clear H
        have H := H1
        clear H1
        by_cases c17 : (t221.length : Int) < 2
        · rw [if_pos c17] at H
          have c17b0 : decide ((t221.length : Int) < 2) = true := decide_eq_true c17
          have c17b1 : decide (t221.length < 2) = true := decide_eq_true (by omega)
          clear c17
          (first | rw [c17b0] | (simp only [i64_w, i32_w]; rw [c17b0]) | rw [c17b2] | skip)
          have H' := Aside0.mk H
          clear H
          obtain ⟨Ao18, co18, eo18⟩ := Kd.R_slice HO223.out
          subst eo18
          go_wp2
          go_meet
          case rel => exact ⟨_, (true), (by first | rfl | (simp; done) | (simp [*]; done)), H', ⟨by first | omega | exact Nat.le_refl _⟩, ⟨by (with_reducible repeat (first | apply Kd.R_alloc | apply Kd.R_drewN | apply Kd.R_drew)); exact HO223.out⟩, ⟨by repeat (first | (with_reducible first | exact HB.out | apply below_alloc | apply pw_below_drewN | apply below_drew1) | exact HB.out)⟩⟩
        · rw [if_neg c17] at H
          have c17b0 : decide ((t221.length : Int) < 2) = false := decide_eq_false c17
          have c17b1 : decide (t221.length < 2) = false := decide_eq_false (by omega)
          clear c17
          (first | rw [c17b0] | (simp only [i64_w, i32_w]; rw [c17b0]) | rw [c17b2] | skip)
          replace H := Option.bind_eq_some_iff.mp H
          obtain ⟨t224, A190, H⟩ := H
          replace H : (if t219.toList = t224.toList then ((isoglossref04_Check.f k t219).bind fun bt225 => (isoglosslaw05_GrandTags.j0 k a0 t215 t221 (decide (bt225.2 ≥ 0)))) else (isoglosslaw05_GrandTags.j0 k a0 t215 t221 true)) = some r := H
          have A19 := Aside0.mk A190
          clear A190
          by_cases c20 : t219.toList = t224.toList
          · rw [if_pos c20] at H
            have c20b0 : (t219.toList == t224.toList) = true := beq_iff_eq.mpr c20
            have c20b1 : (t219.toList != t224.toList) = false := bne_eq_false_iff_eq.mpr c20
            clear c20
            replace H := Option.bind_eq_some_iff.mp H
            obtain ⟨⟨t225, t226⟩, A210, H⟩ := H
            replace H : (isoglosslaw05_GrandTags.j0 k a0 t215 t221 (decide (t226 ≥ 0))) = some r := H
            have A21 := Aside0.mk A210
            clear A210
            have H' := Aside0.mk H
            clear H
            obtain ⟨Ao22, co22, eo22⟩ := Kd.R_slice HO223.out
            subst eo22
            go_wp2_with (first | (go_at_call 27; (with_reducible refine (isoglossref02_Lower.calls k t219 t224 _ A19.out).mono ?_); rintro e w23 ⟨rfl, hb⟩; have n0_ := Aside0.mk (Kd.R_below (by (with_reducible repeat (first | apply Kd.R_alloc | apply Kd.R_drewN | apply Kd.R_drew)); exact HO223.out) hb); have n1_ := Aside0.mk (below_step (by repeat (first | (with_reducible first | exact HB.out | apply below_alloc | apply pw_below_drewN | apply below_drew1) | exact HB.out)) hb); clear HO223; clear HB; have HO223 := n0_; have HB := n1_; clear n0_ n1_; (try clear hb); (try clear hb2); (try clear hk); (try clear hi); (try clear A19)) | (go_at_call 28; (with_reducible refine (isoglossref04_Check.calls k t219 t225 t226 _ A21.out).mono ?_); rintro e w24 ⟨rfl, hb⟩; have n0_ := Aside0.mk (Kd.R_below (by (with_reducible repeat (first | apply Kd.R_alloc | apply Kd.R_drewN | apply Kd.R_drew)); exact HO223.out) hb); have n1_ := Aside0.mk (below_step (by repeat (first | (with_reducible first | exact HB.out | apply below_alloc | apply pw_below_drewN | apply below_drew1) | exact HB.out)) hb); clear HO223; clear HB; have HO223 := n0_; have HB := n1_; clear n0_ n1_; (try clear hb); (try clear hb2); (try clear hk); (try clear hi); (try clear A21)))
            go_meet
            case rel => exact ⟨_, (decide (t226 ≥ 0)), (by first | rfl | (simp; done) | (simp [*]; done)), H', ⟨by first | omega | exact Nat.le_refl _⟩, ⟨by (with_reducible repeat (first | apply Kd.R_alloc | apply Kd.R_drewN | apply Kd.R_drew)); exact HO223.out⟩, ⟨by repeat (first | (with_reducible first | exact HB.out | apply below_alloc | apply pw_below_drewN | apply below_drew1) | exact HB.out)⟩⟩
          · rw [if_neg c20] at H
            have c20b0 : (t219.toList == t224.toList) = false := beq_eq_false_iff_ne.mpr c20
            have c20b1 : (t219.toList != t224.toList) = true := bne_iff_ne.mpr c20
            have H' := Aside0.mk H
            clear H
            obtain ⟨Ao25, co25, eo25⟩ := Kd.R_slice HO223.out
            subst eo25
            go_wp2_with (first | (go_at_call 27; (with_reducible refine (isoglossref02_Lower.calls k t219 t224 _ A19.out).mono ?_); rintro e w26 ⟨rfl, hb⟩; have n0_ := Aside0.mk (Kd.R_below (by (with_reducible repeat (first | apply Kd.R_alloc | apply Kd.R_drewN | apply Kd.R_drew)); exact HO223.out) hb); have n1_ := Aside0.mk (below_step (by repeat (first | (with_reducible first | exact HB.out | apply below_alloc | apply pw_below_drewN | apply below_drew1) | exact HB.out)) hb); clear HO223; clear HB; have HO223 := n0_; have HB := n1_; clear n0_ n1_; (try clear hb); (try clear hb2); (try clear hk); (try clear hi); (try clear A19)))
            go_meet
            case rel => exact ⟨_, (true), (by first | rfl | (simp; done) | (simp [*]; done)), H', ⟨by first | omega | exact Nat.le_refl _⟩, ⟨by (with_reducible repeat (first | apply Kd.R_alloc | apply Kd.R_drewN | apply Kd.R_drew)); exact HO223.out⟩, ⟨by repeat (first | (with_reducible first | exact HB.out | apply below_alloc | apply pw_below_drewN | apply below_drew1) | exact HB.out)⟩⟩
      · replace c16 := Bool.eq_false_iff.mpr c16
        subst c16
        have H1 : (isoglosslaw05_GrandTags.j0 k a0 t215 t221 true) = some r := by rw [if_neg (show ¬ (false = true) by decide)] at H; exact H
        clear H
        have H := H1
        clear H1
        have H' := Aside0.mk H
        clear H
        go_wp2
        go_meet
        case rel => exact ⟨_, (true), (by first | rfl | (simp; done) | (simp [*]; done)), H', ⟨by first | omega | exact Nat.le_refl _⟩, ⟨by (with_reducible repeat (first | apply Kd.R_alloc | apply Kd.R_drewN | apply Kd.R_drew)); exact HO223.out⟩, ⟨by repeat (first | (with_reducible first | exact HB.out | apply below_alloc | apply pw_below_drewN | apply below_drew1) | exact HB.out)⟩⟩
    case rest =>
      clear HC11
      try clear c1
      try clear c2
      try clear p2
      try clear c4
      try clear c4b0
      try clear c4b1
      try clear c4b2
      try clear c7
      try clear c14
      try clear c16
      try clear c17
      try clear c17b0
      try clear c17b1
      try clear c20
      try clear c20b0
      try clear c20b1
      try clear c21
      try clear c23
      try clear c26
      obtain ⟨kq, x38_10, rfl, HA, HJ10, HO_6, HB⟩ := hcut
      cases kq with
      | zero => exact absurd HA.out (by simp [isoglosslaw05_GrandTags.j0])
      | succ kj10 =>
        have H := HA.out
        clear HA
        simp only [isoglosslaw05_GrandTags.j0] at H
        by_cases c27 : x38_10 = true
        · subst c27
          have H1 : (some false) = some r := by rw [if_pos rfl] at H; exact H
          clear H
          have H := H1
          clear H1
          obtain rfl := Option.some.inj H
          go_wp2
          go_ret
          exact ⟨by first | rfl | (simp [errW_none, errW_some] <;> rfl) | (simp [*, errW_none, errW_some] <;> rfl), by repeat (first | (with_reducible first | exact HB.out | apply below_alloc | apply pw_below_drewN | apply below_drew1) | exact HB.out)⟩
        · replace c27 := Bool.eq_false_iff.mpr c27
          subst c27
          have H1 : (if 0 < (t221.length : Int) then (if t215 = true then (if ((rdOf ByteArray.empty t221 0).size : Int) = 2 then (some true) else (if ((rdOf ByteArray.empty t221 0).size : Int) = 3 then (some true) else (if ((rdOf ByteArray.empty t221 0).size : Int) = 1 then ((grand_Len.f).bind fun t228 => ((isoglosslaw05_rest.f a0 t228).bind fun t229 => ((grand_Regular.f t229).bind fun t230 => (some (!t230))))) else (some false)))) else (some false)) else (none)) = some r := by rw [if_neg (show ¬ (false = true) by decide)] at H; exact H
          clear H
          have H := H1
          clear H1
          by_cases c28 : 0 < (t221.length : Int)
          · rw [if_pos c28] at H
            have c28b0 : decide (0 < (t221.length : Int)) = true := decide_eq_true c28
            have c28b1 : decide (0 < t221.length) = true := decide_eq_true (by omega)
            clear c28
            by_cases c29 : t215 = true
            · subst c29
              have H1 : (if ((rdOf ByteArray.empty t221 0).size : Int) = 2 then (some true) else (if ((rdOf ByteArray.empty t221 0).size : Int) = 3 then (some true) else (if ((rdOf ByteArray.empty t221 0).size : Int) = 1 then ((grand_Len.f).bind fun t228 => ((isoglosslaw05_rest.f a0 t228).bind fun t229 => ((grand_Regular.f t229).bind fun t230 => (some (!t230))))) else (some false)))) = some r := by rw [if_pos rfl] at H; exact H
              clear H
              have H := H1
              clear H1
              by_cases c30 : ((rdOf ByteArray.empty t221 0).size : Int) = 2
              · rw [if_pos c30] at H
                have c30b0 : (((rdOf ByteArray.empty t221 0).size : Int) == 2) = true := beq_iff_eq.mpr c30
                have c30b1 : (((rdOf ByteArray.empty t221 0).size : Int) != 2) = false := bne_eq_false_iff_eq.mpr c30
                clear c30
                obtain rfl := Option.some.inj H
                obtain ⟨Ao31, co31, eo31⟩ := Kd.R_slice HO_6.out
                subst eo31
                have p227 : 0 ≤ (0 : Int) := (by omega)
                have q227 : 0 < (t221.length : Int) := of_decide_eq_true (by first | (with_reducible assumption) | assumption)
                obtain ⟨ad227, e227, hx227_0⟩ := Kd.at_string (Kd.R_reads' HO_6.out).2.2 0 p227 q227
                cases e227
                have qi227 : (0 < t221.length) = True := eq_true (by omega)
                (try rw [show ((0 : Int)).toNat = 0 from rfl] at hx227_0)
                (try rw [Addr.add_zero'] at hx227_0)
                replace p227 := eq_true p227
                replace q227 := eq_true q227
                go_wp2
                go_ret
                exact ⟨by first | rfl | (simp [errW_none, errW_some] <;> rfl) | (simp [*, errW_none, errW_some] <;> rfl), by repeat (first | (with_reducible first | exact HB.out | apply below_alloc | apply pw_below_drewN | apply below_drew1) | exact HB.out)⟩
              · rw [if_neg c30] at H
                have c30b0 : (((rdOf ByteArray.empty t221 0).size : Int) == 2) = false := beq_eq_false_iff_ne.mpr c30
                have c30b1 : (((rdOf ByteArray.empty t221 0).size : Int) != 2) = true := bne_iff_ne.mpr c30
                by_cases c32 : ((rdOf ByteArray.empty t221 0).size : Int) = 3
                · rw [if_pos c32] at H
                  have c32b0 : (((rdOf ByteArray.empty t221 0).size : Int) == 3) = true := beq_iff_eq.mpr c32
                  have c32b1 : (((rdOf ByteArray.empty t221 0).size : Int) != 3) = false := bne_eq_false_iff_eq.mpr c32
                  clear c32
                  obtain rfl := Option.some.inj H
                  obtain ⟨Ao33, co33, eo33⟩ := Kd.R_slice HO_6.out
                  subst eo33
                  have p227 : 0 ≤ (0 : Int) := (by omega)
                  have q227 : 0 < (t221.length : Int) := of_decide_eq_true (by first | (with_reducible assumption) | assumption)
                  obtain ⟨ad227, e227, hx227_0⟩ := Kd.at_string (Kd.R_reads' HO_6.out).2.2 0 p227 q227
                  cases e227
                  have qi227 : (0 < t221.length) = True := eq_true (by omega)
                  (try rw [show ((0 : Int)).toNat = 0 from rfl] at hx227_0)
                  (try rw [Addr.add_zero'] at hx227_0)
                  replace p227 := eq_true p227
                  replace q227 := eq_true q227
                  go_wp2
                  go_ret
                  exact ⟨by first | rfl | (simp [errW_none, errW_some] <;> rfl) | (simp [*, errW_none, errW_some] <;> rfl), by repeat (first | (with_reducible first | exact HB.out | apply below_alloc | apply pw_below_drewN | apply below_drew1) | exact HB.out)⟩
                · rw [if_neg c32] at H
                  have c32b0 : (((rdOf ByteArray.empty t221 0).size : Int) == 3) = false := beq_eq_false_iff_ne.mpr c32
                  have c32b1 : (((rdOf ByteArray.empty t221 0).size : Int) != 3) = true := bne_iff_ne.mpr c32
                  by_cases c34 : ((rdOf ByteArray.empty t221 0).size : Int) = 1
                  · rw [if_pos c34] at H
                    have c34b0 : (((rdOf ByteArray.empty t221 0).size : Int) == 1) = true := beq_iff_eq.mpr c34
                    have c34b1 : (((rdOf ByteArray.empty t221 0).size : Int) != 1) = false := bne_eq_false_iff_eq.mpr c34
                    clear c34
                    replace H := Option.bind_eq_some_iff.mp H
                    obtain ⟨t228, A350, H⟩ := H
                    replace H : ((isoglosslaw05_rest.f a0 t228).bind fun t229 => ((grand_Regular.f t229).bind fun t230 => (some (!t230)))) = some r := H
                    have A35 := Aside0.mk A350
                    clear A350
                    replace H := Option.bind_eq_some_iff.mp H
                    obtain ⟨t229, A360, H⟩ := H
                    replace H : ((grand_Regular.f t229).bind fun t230 => (some (!t230))) = some r := H
                    have A36 := Aside0.mk A360
                    clear A360
                    replace H := Option.bind_eq_some_iff.mp H
                    obtain ⟨t230, A370, H⟩ := H
                    replace H : (some (!t230)) = some r := H
                    have A37 := Aside0.mk A370
                    clear A370
                    obtain rfl := Option.some.inj H
                    obtain ⟨Ao38, co38, eo38⟩ := Kd.R_slice HO_6.out
                    subst eo38
                    have p227 : 0 ≤ (0 : Int) := (by omega)
                    have q227 : 0 < (t221.length : Int) := of_decide_eq_true (by first | (with_reducible assumption) | assumption)
                    obtain ⟨ad227, e227, hx227_0⟩ := Kd.at_string (Kd.R_reads' HO_6.out).2.2 0 p227 q227
                    cases e227
                    have qi227 : (0 < t221.length) = True := eq_true (by omega)
                    (try rw [show ((0 : Int)).toNat = 0 from rfl] at hx227_0)
                    (try rw [Addr.add_zero'] at hx227_0)
                    replace p227 := eq_true p227
                    replace q227 := eq_true q227
                    go_wp2_with (first | (go_at_call 23; (with_reducible refine (grand_Len.calls  t228 _ A35.out (by repeat (first | exact HG.out | exact GrandW.G.below HG.out HB.out | apply GrandW.G.alloc | apply GrandW.G.drewN | apply GrandW.G.drew))).mono ?_); rintro e w39 ⟨rfl, hb⟩; have n0_ := Aside0.mk (Kd.R_below (by (with_reducible repeat (first | apply Kd.R_alloc | apply Kd.R_drewN | apply Kd.R_drew)); exact HO_6.out) hb); have n1_ := Aside0.mk (below_step (by repeat (first | (with_reducible first | exact HB.out | apply below_alloc | apply pw_below_drewN | apply below_drew1) | exact HB.out)) hb); clear HO_6; clear HB; have HO_6 := n0_; have HB := n1_; clear n0_ n1_; (try clear hb); (try clear hb2); (try clear hk); (try clear hi); (try clear A35)) | (go_at_call 17; (with_reducible refine (isoglosslaw05_rest.calls a0 t228 t229 _ A36.out).mono ?_); rintro e w' ⟨rfl, ⟨nd, rfl⟩⟩; (try clear A36)) | (go_at_call 29; (with_reducible refine (grand_Regular.calls t229 t230 _ A37.out (by repeat (first | exact HG.out | exact GrandW.G.below HG.out HB.out | apply GrandW.G.alloc | apply GrandW.G.drewN | apply GrandW.G.drew))).mono ?_); rintro e w' ⟨rfl, ⟨nd, rfl⟩⟩; (try clear A37)))
                    go_ret
                    exact ⟨by first | rfl | (simp [errW_none, errW_some] <;> rfl) | (simp [*, errW_none, errW_some] <;> rfl), by repeat (first | (with_reducible first | exact HB.out | apply below_alloc | apply pw_below_drewN | apply below_drew1) | exact HB.out)⟩
                  · rw [if_neg c34] at H
                    have c34b0 : (((rdOf ByteArray.empty t221 0).size : Int) == 1) = false := beq_eq_false_iff_ne.mpr c34
                    have c34b1 : (((rdOf ByteArray.empty t221 0).size : Int) != 1) = true := bne_iff_ne.mpr c34
                    obtain rfl := Option.some.inj H
                    obtain ⟨Ao40, co40, eo40⟩ := Kd.R_slice HO_6.out
                    subst eo40
                    have p227 : 0 ≤ (0 : Int) := (by omega)
                    have q227 : 0 < (t221.length : Int) := of_decide_eq_true (by first | (with_reducible assumption) | assumption)
                    obtain ⟨ad227, e227, hx227_0⟩ := Kd.at_string (Kd.R_reads' HO_6.out).2.2 0 p227 q227
                    cases e227
                    have qi227 : (0 < t221.length) = True := eq_true (by omega)
                    (try rw [show ((0 : Int)).toNat = 0 from rfl] at hx227_0)
                    (try rw [Addr.add_zero'] at hx227_0)
                    replace p227 := eq_true p227
                    replace q227 := eq_true q227
                    go_wp2
                    go_ret
                    exact ⟨by first | rfl | (simp [errW_none, errW_some] <;> rfl) | (simp [*, errW_none, errW_some] <;> rfl), by repeat (first | (with_reducible first | exact HB.out | apply below_alloc | apply pw_below_drewN | apply below_drew1) | exact HB.out)⟩
            · replace c29 := Bool.eq_false_iff.mpr c29
              subst c29
              have H1 : (some false) = some r := by rw [if_neg (show ¬ (false = true) by decide)] at H; exact H
              clear H
              have H := H1
              clear H1
              obtain rfl := Option.some.inj H
              obtain ⟨Ao41, co41, eo41⟩ := Kd.R_slice HO_6.out
              subst eo41
              have p227 : 0 ≤ (0 : Int) := (by omega)
              have q227 : 0 < (t221.length : Int) := of_decide_eq_true (by first | (with_reducible assumption) | assumption)
              obtain ⟨ad227, e227, hx227_0⟩ := Kd.at_string (Kd.R_reads' HO_6.out).2.2 0 p227 q227
              cases e227
              have qi227 : (0 < t221.length) = True := eq_true (by omega)
              (try rw [show ((0 : Int)).toNat = 0 from rfl] at hx227_0)
              (try rw [Addr.add_zero'] at hx227_0)
              replace p227 := eq_true p227
              replace q227 := eq_true q227
              go_wp2
              go_ret
              exact ⟨by first | rfl | (simp [errW_none, errW_some] <;> rfl) | (simp [*, errW_none, errW_some] <;> rfl), by repeat (first | (with_reducible first | exact HB.out | apply below_alloc | apply pw_below_drewN | apply below_drew1) | exact HB.out)⟩
          · rw [if_neg c28] at H
            exact absurd H (by simp)

/-- THE ONE PURE STATEMENT of isoglosslaw05_GrandTags: yours. -/
def isoglosslaw05_GrandTags.Pure : Prop := ∀ (a0 : Int), (Lit.int .i64 a0).wf = true → ∃ k, isoglosslaw05_GrandTags.f k a0 = some true
theorem isoglosslaw05_GrandTags.walk (P : isoglosslaw05_GrandTags.Pure) (a0 : Int) (w : World) (w0 : (Lit.int .i64 a0).wf = true) (hG : GrandW.G w) :
    Calls Tryd.prog 7 #[.int .i64 a0] w fun e w' => e = .returned (.bool true) ∧ Below w.heap.size w w' := by
  obtain ⟨k, h⟩ := P a0 w0
  refine (isoglosslaw05_GrandTags.calls k a0 true w h hG).mono ?_
  rintro e w' ⟨rfl, hd⟩
  exact ⟨rfl, hd⟩

-- NOT PRINTED: function 64 (alias_fields)

-- NOT PRINTED: function 90 (ascii_each)

/-! ### ascii_Lower: function 65 -/
def ascii_Lower.f (a0 : ByteArray) : Option (ByteArray) := if a0.size ≤ 140737488351232 then some (strOfNums (Each.eachF Each.lowF a0)) else none
theorem ascii_Lower.calls (a0 : ByteArray) (r : ByteArray) (w : World) (h : ascii_Lower.f a0 = some r) :
    Calls Tryd.prog 65 #[.string a0] w fun e w' => e = .returned (.string r) ∧ Below w.heap.size w w' := by
  unfold ascii_Lower.f at h
  by_cases hs : a0.size ≤ 140737488351232
  · rw [if_pos hs] at h
    obtain rfl := Option.some.inj h
    exact Each.case_low a0 w hs
  · rw [if_neg hs] at h
    cases h

-- NOT PRINTED: function 66 (alias_rule)

-- NOT PRINTED: function 35 (alias_Right)

/-! ### pack_may: function 108 -/
def pack_may.f (a0 : Int) : Option (Bool) := if a0 = 42 then (some true) else (if a0 = 33 then (some true) else (if a0 = 36 then (some true) else (if a0 ≥ 97 then (if a0 ≤ 122 then (some true) else (if a0 ≥ 48 then (some (decide (a0 ≤ 57))) else (some false))) else (if a0 ≥ 48 then (some (decide (a0 ≤ 57))) else (some false)))))
set_option maxHeartbeats 8000000 in
set_option maxRecDepth 100000 in
theorem pack_may.calls (a0 : Int) (r : Bool) (w : World) (h : pack_may.f a0 = some r) :
    Calls Tryd.prog 108 #[.int .u8 a0] w fun e w' => e = .returned (.bool r) ∧ Drawn0 w w' := by
  have H : (if a0 = 42 then (some true) else (if a0 = 33 then (some true) else (if a0 = 36 then (some true) else (if a0 ≥ 97 then (if a0 ≤ 122 then (some true) else (if a0 ≥ 48 then (some (decide (a0 ≤ 57))) else (some false))) else (if a0 ≥ 48 then (some (decide (a0 ≤ 57))) else (some false)))))) = some r := h
  clear h
  by_cases c2 : a0 = 42
  · rw [if_pos c2] at H
    have c2b0 : (a0 == 42) = true := beq_iff_eq.mpr c2
    have c2b1 : (a0 != 42) = false := bne_eq_false_iff_eq.mpr c2
    clear c2
    obtain rfl := Option.some.inj H
    go_enter Tryd.func108, Tryd.ntmps108
    go_wp2
    go_ret
    exact ⟨by first | rfl | (simp; done) | (simp [*]; done), by repeat (first | exact Drawn0.refl _ | apply Drawn0.step)⟩
  · rw [if_neg c2] at H
    have c2b0 : (a0 == 42) = false := beq_eq_false_iff_ne.mpr c2
    have c2b1 : (a0 != 42) = true := bne_iff_ne.mpr c2
    by_cases c3 : a0 = 33
    · rw [if_pos c3] at H
      have c3b0 : (a0 == 33) = true := beq_iff_eq.mpr c3
      have c3b1 : (a0 != 33) = false := bne_eq_false_iff_eq.mpr c3
      clear c3
      obtain rfl := Option.some.inj H
      go_enter Tryd.func108, Tryd.ntmps108
      go_wp2
      go_ret
      exact ⟨by first | rfl | (simp; done) | (simp [*]; done), by repeat (first | exact Drawn0.refl _ | apply Drawn0.step)⟩
    · rw [if_neg c3] at H
      have c3b0 : (a0 == 33) = false := beq_eq_false_iff_ne.mpr c3
      have c3b1 : (a0 != 33) = true := bne_iff_ne.mpr c3
      by_cases c4 : a0 = 36
      · rw [if_pos c4] at H
        have c4b0 : (a0 == 36) = true := beq_iff_eq.mpr c4
        have c4b1 : (a0 != 36) = false := bne_eq_false_iff_eq.mpr c4
        clear c4
        obtain rfl := Option.some.inj H
        go_enter Tryd.func108, Tryd.ntmps108
        go_wp2
        go_ret
        exact ⟨by first | rfl | (simp; done) | (simp [*]; done), by repeat (first | exact Drawn0.refl _ | apply Drawn0.step)⟩
      · rw [if_neg c4] at H
        have c4b0 : (a0 == 36) = false := beq_eq_false_iff_ne.mpr c4
        have c4b1 : (a0 != 36) = true := bne_iff_ne.mpr c4
        by_cases c5 : a0 ≥ 97
        · rw [if_pos c5] at H
          have c5b0 : decide (97 ≤ a0) = true := decide_eq_true c5
          clear c5
          by_cases c6 : a0 ≤ 122
          · rw [if_pos c6] at H
            have c6b0 : decide (a0 ≤ 122) = true := decide_eq_true c6
            clear c6
            obtain rfl := Option.some.inj H
            go_enter Tryd.func108, Tryd.ntmps108
            go_wp2
            go_ret
            exact ⟨by first | rfl | (simp; done) | (simp [*]; done), by repeat (first | exact Drawn0.refl _ | apply Drawn0.step)⟩
          · rw [if_neg c6] at H
            have c6b0 : decide (a0 ≤ 122) = false := decide_eq_false c6
            clear c6
            by_cases c7 : a0 ≥ 48
            · rw [if_pos c7] at H
              have c7b0 : decide (48 ≤ a0) = true := decide_eq_true c7
              clear c7
              obtain rfl := Option.some.inj H
              go_enter Tryd.func108, Tryd.ntmps108
              go_wp2
              go_ret
              exact ⟨by first | rfl | (simp; done) | (simp [*]; done), by repeat (first | exact Drawn0.refl _ | apply Drawn0.step)⟩
            · rw [if_neg c7] at H
              have c7b0 : decide (48 ≤ a0) = false := decide_eq_false c7
              clear c7
              obtain rfl := Option.some.inj H
              go_enter Tryd.func108, Tryd.ntmps108
              go_wp2
              go_ret
              exact ⟨by first | rfl | (simp; done) | (simp [*]; done), by repeat (first | exact Drawn0.refl _ | apply Drawn0.step)⟩
        · rw [if_neg c5] at H
          have c5b0 : decide (97 ≤ a0) = false := decide_eq_false c5
          clear c5
          by_cases c8 : a0 ≥ 48
          · rw [if_pos c8] at H
            have c8b0 : decide (48 ≤ a0) = true := decide_eq_true c8
            clear c8
            obtain rfl := Option.some.inj H
            go_enter Tryd.func108, Tryd.ntmps108
            go_wp2
            go_ret
            exact ⟨by first | rfl | (simp; done) | (simp [*]; done), by repeat (first | exact Drawn0.refl _ | apply Drawn0.step)⟩
          · rw [if_neg c8] at H
            have c8b0 : decide (48 ≤ a0) = false := decide_eq_false c8
            clear c8
            obtain rfl := Option.some.inj H
            go_enter Tryd.func108, Tryd.ntmps108
            go_wp2
            go_ret
            exact ⟨by first | rfl | (simp; done) | (simp [*]; done), by repeat (first | exact Drawn0.refl _ | apply Drawn0.step)⟩

/-! ### pack_Pack: function 67 -/
def pack_Pack.f (a0 : ByteArray) : Option (Int × Bool) := if a0.size ≤ 140737488351232 then some (PackW.packT (strOfNums (Each.eachF Each.lowF a0))) else none
theorem pack_Pack.calls (a0 : ByteArray) (r1 : Int) (r2 : Bool) (w : World) (h : pack_Pack.f a0 = some (r1, r2)) :
    Calls Tryd.prog 67 #[.string a0] w fun e w' => e = .returned (.tuple #[.int .u64 r1, .bool r2]) ∧ Below w.heap.size w w' := by
  unfold pack_Pack.f at h
  by_cases hs : a0.size ≤ 140737488351232
  · rw [if_pos hs] at h
    have e := Option.some.inj h
    exact PackW.pack_any a0 w hs (r1, r2) e.symm
  · rw [if_neg hs] at h
    cases h

/-! ### pack_Put: function 68 -/
def pack_Put.l0 : Nat → Int → Int → List Int → Int → Int → Option (ByteArray)
  | 0, _, _, _, _, _ => none
  | k + 1, x0, x1, x5, x12, x13 => if x13 < x12 then (if 0 ≤ (wrap64 (8 * x13)) then (if 0 ≤ (wrap64 ((wrap64 (x1 - 1)) - x13)) then (if (wrap64 ((wrap64 (x1 - 1)) - x13)) < (x5.length : Int) then (pack_Put.l0 k x0 x1 (x5.set ((wrap64 ((wrap64 (x1 - 1)) - x13)) : Int).toNat ((shr .u64 x0 (wrap64 (8 * x13))) % 256)) x12 (wrap64 (x13 + 1))) else (none)) else (none)) else (none)) else (some (strOfNums x5))
def pack_Put.f (k : Nat) (a0 : Int) (a1 : Int) : Option (ByteArray) := if 0 ≤ (mx 0 (mn a1 8)) then (if (mx 0 (mn a1 8) : Int).toNat ≤ 281474976710656 then (pack_Put.l0 k a0 (mx 0 (mn a1 8)) (List.replicate (mx 0 (mn a1 8) : Int).toNat 0) (mx 0 (mn a1 8)) 0) else (none)) else (none)
theorem pack_Put.mono_l : ∀ k, (∀ y0 y1 y2 y3 y4, LeO (pack_Put.l0 k y0 y1 y2 y3 y4) (pack_Put.l0 (k + 1) y0 y1 y2 y3 y4))
  | 0 => fun _ _ _ _ _ r h => by simp [pack_Put.l0] at h
  | k + 1 => by
    have ih0 := pack_Put.mono_l k
    · intro y0 y1 y2 y3 y4
      unfold pack_Put.l0
      repeat' first
      | (with_reducible exact ih0 _ _ _ _ _)
      | (with_reducible exact LeO.refl _)
      | (with_reducible exact LeO.none _)
      | (with_reducible refine LeO.ite ?_ ?_)
      | (with_reducible refine LeO.bind ?_ (fun _ => ?_))
      | exact ih0 _ _ _ _ _
      | exact LeO.none _
      | refine LeO.ite ?_ ?_
      | refine LeO.bind ?_ (fun _ => ?_)
theorem pack_Put.mono : ∀ a0 a1 k, LeO (pack_Put.f k a0 a1) (pack_Put.f (k + 1) a0 a1) := by
  intro a0 a1 k
  have ih0 := pack_Put.mono_l k
  unfold pack_Put.f
  repeat' first
      | (with_reducible exact ih0 _ _ _ _ _)
      | (with_reducible exact LeO.refl _)
      | (with_reducible exact LeO.none _)
      | (with_reducible refine LeO.ite ?_ ?_)
      | (with_reducible refine LeO.bind ?_ (fun _ => ?_))
      | exact ih0 _ _ _ _ _
      | exact LeO.none _
      | refine LeO.ite ?_ ?_
      | refine LeO.bind ?_ (fun _ => ?_)
set_option maxHeartbeats 8000000 in
set_option maxRecDepth 100000 in
theorem pack_Put.calls (k : Nat) (a0 : Int) (a1 : Int) (r : ByteArray) (w : World) (h : pack_Put.f k a0 a1 = some r) :
    Calls Tryd.prog 68 #[.int .u64 a0, .int .i64 a1] w fun e w' => e = .returned (.string r) ∧ Below w.heap.size w w' := by
  have HB := Aside0.mk (Below.refl w.heap.size w)
  have H : (if 0 ≤ (mx 0 (mn a1 8)) then (if (mx 0 (mn a1 8) : Int).toNat ≤ 281474976710656 then (pack_Put.l0 k a0 (mx 0 (mn a1 8)) (List.replicate (mx 0 (mn a1 8) : Int).toNat 0) (mx 0 (mn a1 8)) 0) else (none)) else (none)) = some r := h
  clear h
  obtain ⟨ji3, hji3⟩ : ∃ j_ : Int, (mn a1 8) = j_ := ⟨_, rfl⟩
  replace H : (if 0 ≤ (mx 0 (ji3)) then (if (mx 0 (ji3) : Int).toNat ≤ 281474976710656 then (pack_Put.l0 k a0 (mx 0 (ji3)) (List.replicate (mx 0 (ji3) : Int).toNat 0) (mx 0 (ji3)) 0) else (none)) else (none)) = some r := by first | (rw [hji3] at H; exact H) | (simp only [hji3] at H ⊢; exact H)
  (try (have hji3h : ji3 ≤ 8 := by (rw [← hji3]; unfold mn; (repeat' split) <;> omega)))
  (try (have hji3g : ji3 ≤ 64 := by omega))
  have hji3_ : (if 8 < a1 then 8 else a1) = ji3 := hji3
  obtain ⟨ji4, hji4⟩ : ∃ j_ : Int, (mx 0 (ji3)) = j_ := ⟨_, rfl⟩
  replace H : (if 0 ≤ (ji4) then (if (ji4 : Int).toNat ≤ 281474976710656 then (pack_Put.l0 k a0 ji4 (List.replicate (ji4 : Int).toNat 0) ji4 0) else (none)) else (none)) = some r := by first | (rw [hji4] at H; exact H) | (simp only [hji4] at H ⊢; exact H)
  have hji4_ : (if 0 < (ji3) then (ji3) else 0) = ji4 := hji4
  by_cases c5 : 0 ≤ (ji4)
  · rw [if_pos c5] at H
    have c5b0 := eq_true c5
    have c5b1 : decide (0 ≤ (ji4)) = true := decide_eq_true c5
    clear c5
    by_cases c6 : (ji4 : Int).toNat ≤ 281474976710656
    · rw [if_pos c6] at H
      have c6b0 := eq_true c6
      have c6b1 : decide ((ji4 : Int).toNat ≤ 281474976710656) = true := decide_eq_true c6
      clear c6
      obtain ⟨y232, hy232⟩ : ∃ y_ : List Int, y_ = (List.replicate (ji4 : Int).toNat 0) := ⟨_, rfl⟩
      replace H : (pack_Put.l0 k a0 ji4 y232 ji4 0) = some r := by first | (rw [hy232]; with_reducible exact H) | (have H2_ := (Option.bind_some _ _).symm.trans H; rw [hy232]; with_reducible exact H2_) | (have H2_ := (Option.bind_some _ _).symm.trans H; with_reducible exact H2_) | with_reducible exact H | (rw [hy232]; exact H) | exact H
      have Ny232 := Aside0.mk hy232
      clear hy232
      have H' := Aside0.mk H
      clear H
      go_enter Tryd.func68, Tryd.ntmps68
      go_wp2_with (first | ((with_reducible refine gate_dst (N := 11) rfl ?_); refine Kd.R_make (Kd.int .u8) _ 5 rfl (N := 11) rfl 28 _ _ rfl ji4 rfl rfl Tryd.underlying28 (.int .u8 0) 1 info5 rfl (by decide) (by omega) 0 (ok := fun _ => True) (okp := fun _ => True) rfl (fun _ hk => hk) trivial (of_decide_eq_true (by first | (with_reducible assumption) | assumption)) (Nat.le_trans (Nat.mul_le_mul_right _ (of_decide_eq_true (by first | (with_reducible assumption) | assumption) : ji4.toNat ≤ 281474976710656)) (by omega)) (Below.refl _ _) (Nat.le_refl _) ?_; intro v233 w7 ho8 hb hg_ hnew_; clear hg_ hnew_; (first | rw [← Ny232.out] at ho8 | (simp only [Int.reduceToNat] at ho8; rw [← Ny232.out] at ho8)); have n0_ := Aside0.mk (Kd.R_lower ho8 (below_size (by repeat (first | (with_reducible first | exact HB.out | apply below_alloc | apply pw_below_drewN | apply below_drew1) | exact HB.out)))); have n1_ := Aside0.mk (below_step (by repeat (first | (with_reducible first | exact HB.out | apply below_alloc | apply pw_below_drewN | apply below_drew1) | exact HB.out)) hb); clear HB; have HO234 := n0_; have HB := n1_; clear n0_ n1_; clear hb ho8))
      go_loopg [13] k (fun kq v13 w' => ∃ (x5_1 : List Int) (x13_1 : Int), v13 = .int .i64 x13_1 ∧ Aside0 (pack_Put.l0 kq a0 ji4 x5_1 ji4 x13_1 = some r) ∧ Aside0 (kq ≤ k) ∧ Aside0 (Kd.R (Kd.int .u8) 5 w' w.heap.size (fun _ => True) v233 x5_1) ∧ Aside0 (Below w.heap.size w w'))
      case atStart => exact ⟨(y232), (0), (by first | rfl | (simp; done) | (simp [*]; done)), H', ⟨Nat.le_refl _⟩, ⟨by (with_reducible repeat (first | apply Kd.R_alloc | apply Kd.R_drewN | apply Kd.R_drew)); exact HO234.out⟩, ⟨by repeat (first | (with_reducible first | exact HB.out | apply below_alloc | apply pw_below_drewN | apply below_drew1) | exact HB.out)⟩⟩
      case round =>
        clear H'
        try clear hji4_
        try clear hji3h
        try clear hji3g
        try clear hji3_
        try clear hji12_
        try clear p2
        try clear c5
        try clear c5b0
        try clear c5b1
        try clear c6
        try clear c6b0
        try clear c6b1
        obtain ⟨x5_1, x13_1, rfl, HA, HK1, HO_5, HB⟩ := hrel
        cases gk with
        | zero => exact absurd HA.out (by simp [pack_Put.l0])
        | succ k1 =>
          have H := HA.out
          clear HA
          simp only [pack_Put.l0] at H
          by_cases c9 : x13_1 < ji4
          · rw [if_pos c9] at H
            have c9b0 : decide (x13_1 < ji4) = true := decide_eq_true c9
            clear c9
            obtain ⟨ji10, hji10⟩ : ∃ j_ : Int, (wrap64 (8 * x13_1)) = j_ := ⟨_, rfl⟩
            replace H : (if 0 ≤ (ji10) then (if 0 ≤ (wrap64 ((wrap64 (ji4 - 1)) - x13_1)) then (if (wrap64 ((wrap64 (ji4 - 1)) - x13_1)) < (x5_1.length : Int) then (pack_Put.l0 k1 a0 ji4 (x5_1.set ((wrap64 ((wrap64 (ji4 - 1)) - x13_1)) : Int).toNat ((shr .u64 a0 (ji10)) % 256)) ji4 (wrap64 (x13_1 + 1))) else (none)) else (none)) else (none)) = some r := by first | (rw [hji10] at H; exact H) | (simp only [hji10] at H ⊢; exact H)
            have hji10w : (IntKind.i64.wrap (8 * x13_1)) = ji10 := (i64_w _).trans hji10
            by_cases c11 : 0 ≤ (ji10)
            · rw [if_pos c11] at H
              have c11b0 := eq_true c11
              have c11b1 : decide (0 ≤ (ji10)) = true := decide_eq_true c11
              clear c11
              obtain ⟨ji12, hji12⟩ : ∃ j_ : Int, (shr .u64 a0 (ji10)) = j_ := ⟨_, rfl⟩
              replace H : (if 0 ≤ (wrap64 ((wrap64 (ji4 - 1)) - x13_1)) then (if (wrap64 ((wrap64 (ji4 - 1)) - x13_1)) < (x5_1.length : Int) then (pack_Put.l0 k1 a0 ji4 (x5_1.set ((wrap64 ((wrap64 (ji4 - 1)) - x13_1)) : Int).toNat ((ji12) % 256)) ji4 (wrap64 (x13_1 + 1))) else (none)) else (none)) = some r := by first | (rw [hji12] at H; exact H) | (simp only [hji12] at H ⊢; exact H)
              have hji12_ : (a0 / 2 ^ min (ji10).toNat 64) = ji12 := hji12
              have hji12z : (ji10) ≤ 64 → (a0 / 2 ^ (ji10).toNat) = ji12 := shr_small hji12
              obtain ⟨ji13, hji13⟩ : ∃ j_ : Int, (wrap64 ((wrap64 (ji4 - 1)) - x13_1)) = j_ := ⟨_, rfl⟩
              replace H : (if 0 ≤ (ji13) then (if (ji13) < (x5_1.length : Int) then (pack_Put.l0 k1 a0 ji4 (x5_1.set ((ji13) : Int).toNat ((ji12) % 256)) ji4 (wrap64 (x13_1 + 1))) else (none)) else (none)) = some r := by first | (rw [hji13] at H; exact H) | (simp only [hji13] at H ⊢; exact H)
              have hji13w : (IntKind.i64.wrap ((wrap64 (ji4 - 1)) - x13_1)) = ji13 := (i64_w _).trans hji13
              by_cases c14 : 0 ≤ (ji13)
              · rw [if_pos c14] at H
                have c14b0 : decide (0 ≤ (ji13)) = true := decide_eq_true c14
                clear c14
                by_cases c15 : (ji13) < (x5_1.length : Int)
                · rw [if_pos c15] at H
                  have c15b0 : decide ((ji13) < (x5_1.length : Int)) = true := decide_eq_true c15
                  clear c15
                  obtain ⟨y235, hy235⟩ : ∃ y_ : List Int, y_ = (x5_1.set ((ji13) : Int).toNat ((ji12) % 256)) := ⟨_, rfl⟩
                  replace H : (pack_Put.l0 k1 a0 ji4 y235 ji4 (wrap64 (x13_1 + 1))) = some r := by first | (rw [hy235]; with_reducible exact H) | (have H2_ := (Option.bind_some _ _).symm.trans H; rw [hy235]; with_reducible exact H2_) | (have H2_ := (Option.bind_some _ _).symm.trans H; with_reducible exact H2_) | with_reducible exact H | (rw [hy235]; exact H) | exact H
                  have Ny235 := Aside0.mk hy235
                  clear hy235
                  have H' := Aside0.mk H
                  clear H
                  have p16 : 0 ≤ ((ji13) : Int) := of_decide_eq_true (by first | (with_reducible assumption) | assumption)
                  have q16 : ((ji13) : Int) < ((x5_1.length : Int) : Int) := of_decide_eq_true (by first | (with_reducible assumption) | assumption)
                  obtain ⟨go16, co16, eo16, gb16, gl16, cl16, HG16⟩ := Kd.R_form HO_5.out (by omega)
                  (first | cases eo16 | (injection eo16 with ea_ en_ ec_; (first | subst ea_ | (injection ea_ with ea_; subst ea_)); subst ec_; clear en_))
                  have GB16 := Aside0.mk gb16
                  have GG16 := Aside0.mk HG16
                  clear gb16 gl16 HG16
                  obtain ⟨hx16_0, hf16_0⟩ := Kd.R_celln 0 HO_5.out ((ji13) : Int) p16 q16
                  replace p16 := eq_true p16
                  replace q16 := eq_true q16
                  have HP17 := Kd.R_putg HO_5.out ((ji13) : Int) ((ji12) % 256)
                  go_wp2_with (first | ((with_reducible refine gate_store (t := 5) (p := 26) rfl ?_); refine store_event (t := 5) (p := 26) (v := ?vo_w18) (w1 := (wr.setCell ⟨go16, ((ji13) : Int).toNat, none⟩ (.int .u8 ((ji12) % 256)))) ?hg ?ho ?hn ?hr ?_; (case ho => rfl); (case hg => rfl); (case hn => rfl); (case hr => first | (go_simp; done) | (go_simp; rfl)); intro w18 hw; have hg : wr.grownBy w18 (some go16) := (by rw [hw]; exact HP17.2); have hp_ : Kd.R (Kd.int .u8) 5 w18 w.heap.size (fun _ => True) (.slice (some ⟨go16, 0, none⟩) x5_1.length co16) y235 := (by rw [hw, Ny235.out]; exact HP17.1); clear HP17; have n0_ := Aside0.mk (hp_); have n1_ := Aside0.mk ((by rw [hw]; exact below_set (HB.out) GB16.out : Below w.heap.size w w18)); clear HO_5; clear HB; have HO_5 := n0_; have HB := n1_; clear n0_ n1_; clear hg hw hp_))
                  go_roundg k1
                  case measure => have := HK1.out; omega
                  case rel => exact ⟨(y235), (wrap64 (x13_1 + 1)), (by first | rfl | (simp; done) | (simp [*]; done)), H', ⟨by have := HK1.out; omega⟩, ⟨by (with_reducible repeat (first | apply Kd.R_alloc | apply Kd.R_drewN | apply Kd.R_drew)); exact HO_5.out⟩, ⟨by repeat (first | (with_reducible first | exact HB.out | apply below_alloc | apply pw_below_drewN | apply below_drew1) | exact HB.out)⟩⟩
                · rw [if_neg c15] at H
                  exact absurd H (by simp)
              · rw [if_neg c14] at H
                exact absurd H (by simp)
            · rw [if_neg c11] at H
              exact absurd H (by simp)
          · rw [if_neg c9] at H
            have c9b0 : decide (x13_1 < ji4) = false := decide_eq_false c9
            clear c9
            obtain rfl := Option.some.inj H
            have hcv19 := own_string (P := Tryd.prog) Tryd.underlying28 Tryd.underlying5 Tryd.underlying9 (Kd.own_of_R HO_5.out)
            go_wp2
            go_ret
            exact ⟨by first | rfl | (simp [errW_none, errW_some] <;> rfl) | (simp only [← hji3, ← hji4]; first | rfl | (simp [errW_none, errW_some] <;> rfl)) | (simp [*, errW_none, errW_some] <;> rfl), by repeat (first | (with_reducible first | exact HB.out | apply below_alloc | apply pw_below_drewN | apply below_drew1) | exact HB.out)⟩
    · rw [if_neg c6] at H
      exact absurd H (by simp)
  · rw [if_neg c5] at H
    exact absurd H (by simp)

-- NOT PRINTED: function 36 (alias_Encode)

-- NOT PRINTED: function 30 (isoglosslaw12_awake)

/-! ### isoglosslaw12_short: function 39 -/
def isoglosslaw12_short.f (a0 : ByteArray) : Option (ByteArray) := if (a0.size : Int) > 10 then (if 0 ≤ 10 then (if 10 ≤ (a0.size : Int) then (some (a0.extract 0 10)) else (none)) else (none)) else (some a0)
set_option maxHeartbeats 8000000 in
set_option maxRecDepth 100000 in
theorem isoglosslaw12_short.calls (a0 : ByteArray) (r : ByteArray) (w : World) (h : isoglosslaw12_short.f a0 = some r) :
    Calls Tryd.prog 39 #[.string a0] w fun e w' => e = .returned (.string r) ∧ Drawn0 w w' := by
  have H : (if (a0.size : Int) > 10 then (if 0 ≤ 10 then (if 10 ≤ (a0.size : Int) then (some (a0.extract 0 10)) else (none)) else (none)) else (some a0)) = some r := h
  clear h
  by_cases c2 : (a0.size : Int) > 10
  · rw [if_pos c2] at H
    have c2b0 : decide (10 < (a0.size : Int)) = true := decide_eq_true c2
    have c2b1 : decide (10 < a0.size) = true := decide_eq_true (by omega)
    clear c2
    by_cases c3 : 0 ≤ 10
    · rw [if_pos c3] at H
      have c3b0 := eq_true c3
      have c3b1 : decide (0 ≤ 10) = true := decide_eq_true c3
      clear c3
      by_cases c4 : 10 ≤ (a0.size : Int)
      · rw [if_pos c4] at H
        have c4b0 := eq_true c4
        have c4b1 : decide (10 ≤ (a0.size : Int)) = true := decide_eq_true c4
        clear c4
        obtain rfl := Option.some.inj H
        go_enter Tryd.func39, Tryd.ntmps39
        go_wp2
        go_ret
        exact ⟨by first | rfl | (simp; done) | (simp [*]; done), by repeat (first | exact Drawn0.refl _ | apply Drawn0.step)⟩
      · rw [if_neg c4] at H
        exact absurd H (by simp)
    · rw [if_neg c3] at H
      exact absurd H (by simp)
  · rw [if_neg c2] at H
    have c2b0 : decide (10 < (a0.size : Int)) = false := decide_eq_false c2
    have c2b1 : decide (10 < a0.size) = false := decide_eq_false (by omega)
    clear c2
    obtain rfl := Option.some.inj H
    go_enter Tryd.func39, Tryd.ntmps39
    go_wp2
    go_ret
    exact ⟨by first | rfl | (simp; done) | (simp [*]; done), by repeat (first | exact Drawn0.refl _ | apply Drawn0.step)⟩

end Go.Proofs.YtmbfnbnlajchmaaDoor.P
