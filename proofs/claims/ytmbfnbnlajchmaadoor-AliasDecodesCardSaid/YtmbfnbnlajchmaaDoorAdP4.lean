/- Made by a program of this seat's own (myprint.py, round the kit's print): what the functions compute, and that they do. -/
import Derived.Test.YtmbfnbnlajchmaaDoorAdP0
import Derived.Test.YtmbfnbnlajchmaaDoorAdP2
import Derived.Test.YtmbfnbnlajchmaaDoorAdP3
import Derived.Test.YtmbfnbnlajchmaaDoorAdTight
namespace Go.Proofs.YtmbfnbnlajchmaaDoor.P
open Go.RowKit Go.Proofs.YtmbfnbnlajchmaaDoorW.PrintWords Go.Proofs.YtmbfnbnlajchmaaDoorW.PrintLast Go.Proofs.YtmbfnbnlajchmaaDoorW.PrintMore
attribute [local go_sem] StrOrd.binOp_gtr StrOrd.binOp_leq max2_int min2_int max_two min_two max_three min_three max_four min_four   -- for this text's walks alone
set_option linter.unusedVariables false
set_option linter.unusedSimpArgs false

def alias_word.f (k : Nat) (a0 : ByteArray) (a1 : Int) (a2 : Int) : Option (Bool) := (ascii_Alnum.f k a0).bind fun t170 => (if t170 = true then (if (a0.size : Int) ≥ a1 then (some (decide ((a0.size : Int) ≤ a2))) else (some false)) else (some false))
set_option maxHeartbeats 8000000 in
set_option maxRecDepth 100000 in
theorem alias_word.calls (k : Nat) (a0 : ByteArray) (a1 : Int) (a2 : Int) (r : Bool) (w : World) (h : alias_word.f k a0 a1 a2 = some r) :
  Calls Tryd.prog 106 #[.string a0, .int .i64 a1, .int .i64 a2] w fun e w' => e = .returned (.bool r) ∧ Drawn0 w w' := by
 have H : ((ascii_Alnum.f k a0).bind fun t170 => (if t170 = true then (if (a0.size : Int) ≥ a1 then (some (decide ((a0.size : Int) ≤ a2))) else (some false)) else (some false))) = some r := h
 clear h
 replace H := Option.bind_eq_some_iff.mp H
 obtain ⟨t170, A40, H⟩ := H
 have A4 := ak A40
 clear A40
 by_cases c5 : t170 = true
 ·
  subst c5
  have H1 : (if (a0.size : Int) ≥ a1 then (some (decide ((a0.size : Int) ≤ a2))) else (some false)) = some r := by rw [if_pos rfl] at H; exact H
  clear H
  have H := H1
  clear H1
  by_cases c6 : (a0.size : Int) ≥ a1
  ·
   rw [if_pos c6] at H
   have c6b0 : decide (a1 ≤ (a0.size : Int)) = true := decide_eq_true c6
   clear c6
   obtain rfl := Option.some.inj H
   go_enter Tryd.func106, Tryd.ntmps106
   go_wp2_with (first | ((with_reducible refine gate_callee (f := 120) rfl ?_); refine goesL_ (some 8) rfl rfl Tryd.func120 (by kernel_rfl) rfl #[.string a0] rfl mq ?_; (with_reducible refine (ascii_Alnum.calls k a0 true _ A4.out).mono ?_); rintro e w' ⟨rfl, ⟨nd, rfl⟩⟩; refine ⟨_, rfl, ?_⟩; (try clear A4)))
   go_ret
   exact ⟨by first | rfl | (simp; done) | (simp [*]; done), by repeat (first | exact Drawn0.refl _ | apply Drawn0.step)⟩
  ·
   rw [if_neg c6] at H
   have c6b0 : decide (a1 ≤ (a0.size : Int)) = false := decide_eq_false c6
   clear c6
   obtain rfl := Option.some.inj H
   go_enter Tryd.func106, Tryd.ntmps106
   go_wp2_with (first | ((with_reducible refine gate_callee (f := 120) rfl ?_); refine goesL_ (some 8) rfl rfl Tryd.func120 (by kernel_rfl) rfl #[.string a0] rfl mq ?_; (with_reducible refine (ascii_Alnum.calls k a0 true _ A4.out).mono ?_); rintro e w' ⟨rfl, ⟨nd, rfl⟩⟩; refine ⟨_, rfl, ?_⟩; (try clear A4)))
   go_ret
   exact ⟨by first | rfl | (simp; done) | (simp [*]; done), by repeat (first | exact Drawn0.refl _ | apply Drawn0.step)⟩
 ·
  replace c5 := Bool.eq_false_iff.mpr c5
  subst c5
  have H1 : (some false) = some r := by rw [if_neg (show ¬ (false = true) by decide)] at H; exact H
  clear H
  have H := H1
  clear H1
  obtain rfl := Option.some.inj H
  go_enter Tryd.func106, Tryd.ntmps106
  go_wp2_with (first | ((with_reducible refine gate_callee (f := 120) rfl ?_); refine goesL_ (some 8) rfl rfl Tryd.func120 (by kernel_rfl) rfl #[.string a0] rfl mq ?_; (with_reducible refine (ascii_Alnum.calls k a0 false _ A4.out).mono ?_); rintro e w' ⟨rfl, ⟨nd, rfl⟩⟩; refine ⟨_, rfl, ?_⟩; (try clear A4)))
  go_ret
  exact ⟨by first | rfl | (simp; done) | (simp [*]; done), by repeat (first | exact Drawn0.refl _ | apply Drawn0.step)⟩

def alias_rule_7.f (k : Nat) (a0_0 : Int) (a0_1 : ByteArray) (a0_2 : ByteArray) (a0_3 : ByteArray) (a0_4 : ByteArray) (a0_5 : ByteArray) : Option (Bool) := (alias_word.f k a0_1 2 2).bind fun t172 => (if t172 = true then ((alias_word.f k a0_2 3 8).bind fun t173 => (if t173 = true then ((alias_word.f k a0_3 3 8).bind fun t174 => (if t174 = true then ((alias_none.f k (([a0_4, a0_5] : List ByteArray))).bind fun t178 => (some t178)) else (some false))) else (some false))) else (some false))
set_option maxHeartbeats 8000000 in
set_option maxRecDepth 100000 in
theorem alias_rule_7.calls (k : Nat) (a0_0 : Int) (a0_1 : ByteArray) (a0_2 : ByteArray) (a0_3 : ByteArray) (a0_4 : ByteArray) (a0_5 : ByteArray) (r : Bool) (w : World) (h : alias_rule_7.f k a0_0 a0_1 a0_2 a0_3 a0_4 a0_5 = some r) :
  Calls Tryd.prog 105 #[.agg #[.int .i64 a0_0, .string a0_1, .string a0_2, .string a0_3, .string a0_4, .string a0_5]] w fun e w' => e = .returned (.bool r) ∧ Below w.heap.size w w' := by
 have hu50 := Tryd.underlying50
 have HB := ak (Below.refl w.heap.size w)
 have H : ((alias_word.f k a0_1 2 2).bind fun t172 => (if t172 = true then ((alias_word.f k a0_2 3 8).bind fun t173 => (if t173 = true then ((alias_word.f k a0_3 3 8).bind fun t174 => (if t174 = true then ((alias_none.f k (([a0_4, a0_5] : List ByteArray))).bind fun t178 => (some t178)) else (some false))) else (some false))) else (some false))) = some r := h
 clear h
 replace H := Option.bind_eq_some_iff.mp H
 obtain ⟨t172, A20, H⟩ := H
 have A2 := ak A20
 clear A20
 by_cases c3 : t172 = true
 ·
  subst c3
  have H1 : ((alias_word.f k a0_2 3 8).bind fun t173 => (if t173 = true then ((alias_word.f k a0_3 3 8).bind fun t174 => (if t174 = true then ((alias_none.f k (([a0_4, a0_5] : List ByteArray))).bind fun t178 => (some t178)) else (some false))) else (some false))) = some r := by rw [if_pos rfl] at H; exact H
  clear H
  have H := H1
  clear H1
  replace H := Option.bind_eq_some_iff.mp H
  obtain ⟨t173, A40, H⟩ := H
  have A4 := ak A40
  clear A40
  by_cases c5 : t173 = true
  ·
   subst c5
   have H1 : ((alias_word.f k a0_3 3 8).bind fun t174 => (if t174 = true then ((alias_none.f k (([a0_4, a0_5] : List ByteArray))).bind fun t178 => (some t178)) else (some false))) = some r := by rw [if_pos rfl] at H; exact H
   clear H
   have H := H1
   clear H1
   replace H := Option.bind_eq_some_iff.mp H
   obtain ⟨t174, A60, H⟩ := H
   have A6 := ak A60
   clear A60
   by_cases c7 : t174 = true
   ·
    subst c7
    have H1 : ((alias_none.f k (([a0_4, a0_5] : List ByteArray))).bind fun t178 => (some t178)) = some r := by rw [if_pos rfl] at H; exact H
    clear H
    have H := H1
    clear H1
    obtain ⟨y175, hy175⟩ : ∃ y_ : List ByteArray, y_ = (([a0_4, a0_5] : List ByteArray)) := ⟨_, rfl⟩
    replace H : ((alias_none.f k y175).bind fun t178 => (some t178)) = some r := by first | (rw [hy175]; with_reducible exact H) | (have H2_ := (Option.bind_some _ _).symm.trans H; rw [hy175]; with_reducible exact H2_) | (have H2_ := (Option.bind_some _ _).symm.trans H; with_reducible exact H2_) | with_reducible exact H | (rw [hy175]; exact H) | exact H
    have Ny175 := ak hy175
    clear hy175
    replace H := Option.bind_eq_some_iff.mp H
    obtain ⟨t178, A80, H⟩ := H
    have A8 := ak A80
    clear A80
    obtain rfl := Option.some.inj H
    go_enter Tryd.func105, Tryd.ntmps105
    go_wp2_with (first | ((with_reducible refine gate_dst (N := 1) rfl ?_); (try (refine gate_guard (by rfl) ?_; dsimp only)); refine box_event ?hg (N := 1) ?hd (cs := #[.int .i64 a0_0, .string a0_1, .string a0_2, .string a0_3, .string a0_4, .string a0_5]) (t := 50) ?hr ?_; (case hd => rfl); (case hg => rfl); (case hr => first | (go_simp; done) | (go_simp; rfl)); intro gb171 hg w9 hbox hb; have n0_ := ak (below_step bq hb); have n1_ := ak (hbox); have n2_ := ak ((by rw [hg]; exact (below_size bq) : w.heap.size ≤ gb171)); have n3_ := ak ((by rw [hg]; exact (below_size bq) : w.heap.size ≤ gb171)); clear HB; have HB := n0_; have BK171 := n1_; have GW171 := n2_; have GE171 := n3_; clear n0_ n1_ n2_ n3_; clear hb hbox hg; obtain ⟨hcz10_0, hcz10_1, hcz10_2, hcz10_3, hcz10_4, hcz10_5⟩ := cz6 BK171.out; obtain ⟨hfz10_0, hfz10_1, hfz10_2, hfz10_3, hfz10_4, hfz10_5⟩ := fz6 BK171.out) | ((with_reducible refine gate_callee (f := 106) rfl ?_); refine goesL_ (some 5) rfl rfl Tryd.func106 (by kernel_rfl) rfl #[.string a0_1, .int .i64 2, .int .i64 2] rfl mq ?_; (with_reducible refine (alias_word.calls k a0_1 2 2 true _ A2.out).mono ?_); rintro e w' ⟨rfl, ⟨nd, rfl⟩⟩; refine ⟨_, rfl, ?_⟩; (try clear A2)) | (go_at_call 106; (with_reducible refine (alias_word.calls k a0_2 3 8 true _ A4.out).mono ?_); rintro e w' ⟨rfl, ⟨nd, rfl⟩⟩; (try clear A4)) | (go_at_call 106; (with_reducible refine (alias_word.calls k a0_3 3 8 true _ A6.out).mono ?_); rintro e w' ⟨rfl, ⟨nd, rfl⟩⟩; (try clear A6)) | ((with_reducible refine gate_dst (N := 21) rfl ?_); (try (refine gate_guard (by rfl) ?_; dsimp only)); refine Kd.R_lit Kd.string _ 9 ?hg (N := 21) ?hd (xs := ([a0_4, a0_5] : List ByteArray)) (inner := [.string a0_4, .string a0_5]) (ok := fun _ => True) (okp := fun _ => True) ?hr ?hp (fun _ hk => hk) trivial (Below.refl _ _) (Nat.le_refl _) (by simp) ?_; (case hd => rfl); (case hg => rfl); (case hr => first | (go_simp; done) | (go_simp; rfl)); (case hp => exact (Reps.one (show Kd.M Kd.string _ _ _ a0_4 [.string a0_4] from rfl) (Reps.one (show Kd.M Kd.string _ _ _ a0_5 [.string a0_5] from rfl) (Reps.none _ _)))); intro v176 w11 ho12 hb hg_ hnew_; clear hg_ hnew_; (first | rw [← Ny175.out] at ho12 | (simp only [Int.reduceToNat] at ho12; rw [← Ny175.out] at ho12)); have n0_ := ak (Kd.R_lower ho12 (below_size bq)); have n1_ := ak (blk_below (g := gb171) (bx BK171.out) hb); have n2_ := ak (below_step bq hb); clear BK171; clear HB; have HO177 := n0_; have BK171 := n1_; have HB := n2_; clear n0_ n1_ n2_; clear hb ho12; obtain ⟨Ao13, co13, eo13⟩ := Kd.R_slice HO177.out; subst eo13) | (go_at_call 94; (with_reducible refine (alias_none.calls k _ _ y175 t178 _ ?side1 ?side2 A8.out).mono ?_); (case side1 => repeat (first | exact (Kd.R_reads' HO177.out).2.2 | (with_reducible refine Kd.C_alloc ?_ _) | (with_reducible refine Kd.C_drewN ?_ _) | (with_reducible refine Kd.C_drew ?_))); (case side2 => exact (Kd.R_reads' HO177.out).2.1); rintro e w' ⟨rfl, ⟨nd, rfl⟩⟩; (try clear A8)))
    go_ret
    exact ⟨by first | rfl | (simp [errW_none, errW_some] <;> rfl) | (simp [*, errW_none, errW_some] <;> rfl), bq⟩
   ·
    replace c7 := Bool.eq_false_iff.mpr c7
    subst c7
    have H1 : (some false) = some r := by rw [if_neg (show ¬ (false = true) by decide)] at H; exact H
    clear H
    have H := H1
    clear H1
    obtain rfl := Option.some.inj H
    go_enter Tryd.func105, Tryd.ntmps105
    go_wp2_with (first | ((with_reducible refine gate_dst (N := 1) rfl ?_); (try (refine gate_guard (by rfl) ?_; dsimp only)); refine box_event ?hg (N := 1) ?hd (cs := #[.int .i64 a0_0, .string a0_1, .string a0_2, .string a0_3, .string a0_4, .string a0_5]) (t := 50) ?hr ?_; (case hd => rfl); (case hg => rfl); (case hr => first | (go_simp; done) | (go_simp; rfl)); intro gb171 hg w14 hbox hb; have n0_ := ak (below_step bq hb); have n1_ := ak (hbox); have n2_ := ak ((by rw [hg]; exact (below_size bq) : w.heap.size ≤ gb171)); have n3_ := ak ((by rw [hg]; exact (below_size bq) : w.heap.size ≤ gb171)); clear HB; have HB := n0_; have BK171 := n1_; have GW171 := n2_; have GE171 := n3_; clear n0_ n1_ n2_ n3_; clear hb hbox hg; obtain ⟨hcz15_0, hcz15_1, hcz15_2, hcz15_3, hcz15_4, hcz15_5⟩ := cz6 BK171.out; obtain ⟨hfz15_0, hfz15_1, hfz15_2, hfz15_3, hfz15_4, hfz15_5⟩ := fz6 BK171.out) | ((with_reducible refine gate_callee (f := 106) rfl ?_); refine goesL_ (some 5) rfl rfl Tryd.func106 (by kernel_rfl) rfl #[.string a0_1, .int .i64 2, .int .i64 2] rfl mq ?_; (with_reducible refine (alias_word.calls k a0_1 2 2 true _ A2.out).mono ?_); rintro e w' ⟨rfl, ⟨nd, rfl⟩⟩; refine ⟨_, rfl, ?_⟩; (try clear A2)) | (go_at_call 106; (with_reducible refine (alias_word.calls k a0_2 3 8 true _ A4.out).mono ?_); rintro e w' ⟨rfl, ⟨nd, rfl⟩⟩; (try clear A4)) | (go_at_call 106; (with_reducible refine (alias_word.calls k a0_3 3 8 false _ A6.out).mono ?_); rintro e w' ⟨rfl, ⟨nd, rfl⟩⟩; (try clear A6)))
    go_ret
    exact ⟨by first | rfl | (simp [errW_none, errW_some] <;> rfl) | (simp [*, errW_none, errW_some] <;> rfl), bq⟩
  ·
   replace c5 := Bool.eq_false_iff.mpr c5
   subst c5
   have H1 : (some false) = some r := by rw [if_neg (show ¬ (false = true) by decide)] at H; exact H
   clear H
   have H := H1
   clear H1
   obtain rfl := Option.some.inj H
   go_enter Tryd.func105, Tryd.ntmps105
   go_wp2_with (first | ((with_reducible refine gate_dst (N := 1) rfl ?_); (try (refine gate_guard (by rfl) ?_; dsimp only)); refine box_event ?hg (N := 1) ?hd (cs := #[.int .i64 a0_0, .string a0_1, .string a0_2, .string a0_3, .string a0_4, .string a0_5]) (t := 50) ?hr ?_; (case hd => rfl); (case hg => rfl); (case hr => first | (go_simp; done) | (go_simp; rfl)); intro gb171 hg w16 hbox hb; have n0_ := ak (below_step bq hb); have n1_ := ak (hbox); have n2_ := ak ((by rw [hg]; exact (below_size bq) : w.heap.size ≤ gb171)); have n3_ := ak ((by rw [hg]; exact (below_size bq) : w.heap.size ≤ gb171)); clear HB; have HB := n0_; have BK171 := n1_; have GW171 := n2_; have GE171 := n3_; clear n0_ n1_ n2_ n3_; clear hb hbox hg; obtain ⟨hcz17_0, hcz17_1, hcz17_2, hcz17_3, hcz17_4, hcz17_5⟩ := cz6 BK171.out; obtain ⟨hfz17_0, hfz17_1, hfz17_2, hfz17_3, hfz17_4, hfz17_5⟩ := fz6 BK171.out) | ((with_reducible refine gate_callee (f := 106) rfl ?_); refine goesL_ (some 5) rfl rfl Tryd.func106 (by kernel_rfl) rfl #[.string a0_1, .int .i64 2, .int .i64 2] rfl mq ?_; (with_reducible refine (alias_word.calls k a0_1 2 2 true _ A2.out).mono ?_); rintro e w' ⟨rfl, ⟨nd, rfl⟩⟩; refine ⟨_, rfl, ?_⟩; (try clear A2)) | (go_at_call 106; (with_reducible refine (alias_word.calls k a0_2 3 8 false _ A4.out).mono ?_); rintro e w' ⟨rfl, ⟨nd, rfl⟩⟩; (try clear A4)))
   go_ret
   exact ⟨by first | rfl | (simp [errW_none, errW_some] <;> rfl) | (simp [*, errW_none, errW_some] <;> rfl), bq⟩
 ·
  replace c3 := Bool.eq_false_iff.mpr c3
  subst c3
  have H1 : (some false) = some r := by rw [if_neg (show ¬ (false = true) by decide)] at H; exact H
  clear H
  have H := H1
  clear H1
  obtain rfl := Option.some.inj H
  go_enter Tryd.func105, Tryd.ntmps105
  go_wp2_with (first | ((with_reducible refine gate_dst (N := 1) rfl ?_); (try (refine gate_guard (by rfl) ?_; dsimp only)); refine box_event ?hg (N := 1) ?hd (cs := #[.int .i64 a0_0, .string a0_1, .string a0_2, .string a0_3, .string a0_4, .string a0_5]) (t := 50) ?hr ?_; (case hd => rfl); (case hg => rfl); (case hr => first | (go_simp; done) | (go_simp; rfl)); intro gb171 hg w18 hbox hb; have n0_ := ak (below_step bq hb); have n1_ := ak (hbox); have n2_ := ak ((by rw [hg]; exact (below_size bq) : w.heap.size ≤ gb171)); have n3_ := ak ((by rw [hg]; exact (below_size bq) : w.heap.size ≤ gb171)); clear HB; have HB := n0_; have BK171 := n1_; have GW171 := n2_; have GE171 := n3_; clear n0_ n1_ n2_ n3_; clear hb hbox hg; obtain ⟨hcz19_0, hcz19_1, hcz19_2, hcz19_3, hcz19_4, hcz19_5⟩ := cz6 BK171.out; obtain ⟨hfz19_0, hfz19_1, hfz19_2, hfz19_3, hfz19_4, hfz19_5⟩ := fz6 BK171.out) | ((with_reducible refine gate_callee (f := 106) rfl ?_); refine goesL_ (some 5) rfl rfl Tryd.func106 (by kernel_rfl) rfl #[.string a0_1, .int .i64 2, .int .i64 2] rfl mq ?_; (with_reducible refine (alias_word.calls k a0_1 2 2 false _ A2.out).mono ?_); rintro e w' ⟨rfl, ⟨nd, rfl⟩⟩; refine ⟨_, rfl, ?_⟩; (try clear A2)))
  go_ret
  exact ⟨by first | rfl | (simp [errW_none, errW_some] <;> rfl) | (simp [*, errW_none, errW_some] <;> rfl), bq⟩

def isoglossref05_List.f  : Option (List ByteArray) := some (([⟨#[97, 114, 116, 45, 108, 111, 106, 98, 97, 110, 42]⟩, ⟨#[99, 101, 108, 45, 103, 97, 117, 108, 105, 115, 104, 42]⟩, ⟨#[101, 110, 45, 103, 98, 45, 111, 101, 100]⟩, ⟨#[105, 45, 97, 109, 105]⟩, ⟨#[105, 45, 98, 110, 110]⟩, ⟨#[105, 45, 100, 101, 102, 97, 117, 108, 116]⟩, ⟨#[105, 45, 101, 110, 111, 99, 104, 105, 97, 110]⟩, ⟨#[105, 45, 104, 97, 107]⟩, ⟨#[105, 45, 107, 108, 105, 110, 103, 111, 110]⟩, ⟨#[105, 45, 108, 117, 120]⟩, ⟨#[105, 45, 109, 105, 110, 103, 111]⟩, ⟨#[105, 45, 110, 97, 118, 97, 106, 111]⟩, ⟨#[105, 45, 112, 119, 110]⟩, ⟨#[105, 45, 116, 97, 111]⟩, ⟨#[105, 45, 116, 97, 121]⟩, ⟨#[105, 45, 116, 115, 117]⟩, ⟨#[110, 111, 45, 98, 111, 107, 42]⟩, ⟨#[110, 111, 45, 110, 121, 110, 42]⟩, ⟨#[115, 103, 110, 45, 98, 101, 45, 102, 114]⟩, ⟨#[115, 103, 110, 45, 98, 101, 45, 110, 108]⟩, ⟨#[115, 103, 110, 45, 99, 104, 45, 100, 101]⟩, ⟨#[122, 104, 45, 103, 117, 111, 121, 117, 42]⟩, ⟨#[122, 104, 45, 104, 97, 107, 107, 97, 42]⟩, ⟨#[122, 104, 45, 109, 105, 110, 42]⟩, ⟨#[122, 104, 45, 109, 105, 110, 45, 110, 97, 110, 42]⟩, ⟨#[122, 104, 45, 120, 105, 97, 110, 103, 42]⟩] : List ByteArray))
set_option maxHeartbeats 8000000 in
set_option maxRecDepth 100000 in
theorem isoglossref05_List.calls  (r : List ByteArray) (w : World) (h : isoglossref05_List.f  = some r) :
  Calls Tryd.prog 15 #[] w fun e w' => ∃ v0_ : Value, e = .returned (v0_) ∧ Kd.R Kd.string 9 w' w.heap.size (fun _ => True) v0_ r ∧ Below w.heap.size w w' := by
 have HB := ak (Below.refl w.heap.size w)
 have H : (some (([⟨#[97, 114, 116, 45, 108, 111, 106, 98, 97, 110, 42]⟩, ⟨#[99, 101, 108, 45, 103, 97, 117, 108, 105, 115, 104, 42]⟩, ⟨#[101, 110, 45, 103, 98, 45, 111, 101, 100]⟩, ⟨#[105, 45, 97, 109, 105]⟩, ⟨#[105, 45, 98, 110, 110]⟩, ⟨#[105, 45, 100, 101, 102, 97, 117, 108, 116]⟩, ⟨#[105, 45, 101, 110, 111, 99, 104, 105, 97, 110]⟩, ⟨#[105, 45, 104, 97, 107]⟩, ⟨#[105, 45, 107, 108, 105, 110, 103, 111, 110]⟩, ⟨#[105, 45, 108, 117, 120]⟩, ⟨#[105, 45, 109, 105, 110, 103, 111]⟩, ⟨#[105, 45, 110, 97, 118, 97, 106, 111]⟩, ⟨#[105, 45, 112, 119, 110]⟩, ⟨#[105, 45, 116, 97, 111]⟩, ⟨#[105, 45, 116, 97, 121]⟩, ⟨#[105, 45, 116, 115, 117]⟩, ⟨#[110, 111, 45, 98, 111, 107, 42]⟩, ⟨#[110, 111, 45, 110, 121, 110, 42]⟩, ⟨#[115, 103, 110, 45, 98, 101, 45, 102, 114]⟩, ⟨#[115, 103, 110, 45, 98, 101, 45, 110, 108]⟩, ⟨#[115, 103, 110, 45, 99, 104, 45, 100, 101]⟩, ⟨#[122, 104, 45, 103, 117, 111, 121, 117, 42]⟩, ⟨#[122, 104, 45, 104, 97, 107, 107, 97, 42]⟩, ⟨#[122, 104, 45, 109, 105, 110, 42]⟩, ⟨#[122, 104, 45, 109, 105, 110, 45, 110, 97, 110, 42]⟩, ⟨#[122, 104, 45, 120, 105, 97, 110, 103, 42]⟩] : List ByteArray))) = some r := h
 clear h
 obtain ⟨y187, hy187⟩ : ∃ y_ : List ByteArray, y_ = (([⟨#[97, 114, 116, 45, 108, 111, 106, 98, 97, 110, 42]⟩, ⟨#[99, 101, 108, 45, 103, 97, 117, 108, 105, 115, 104, 42]⟩, ⟨#[101, 110, 45, 103, 98, 45, 111, 101, 100]⟩, ⟨#[105, 45, 97, 109, 105]⟩, ⟨#[105, 45, 98, 110, 110]⟩, ⟨#[105, 45, 100, 101, 102, 97, 117, 108, 116]⟩, ⟨#[105, 45, 101, 110, 111, 99, 104, 105, 97, 110]⟩, ⟨#[105, 45, 104, 97, 107]⟩, ⟨#[105, 45, 107, 108, 105, 110, 103, 111, 110]⟩, ⟨#[105, 45, 108, 117, 120]⟩, ⟨#[105, 45, 109, 105, 110, 103, 111]⟩, ⟨#[105, 45, 110, 97, 118, 97, 106, 111]⟩, ⟨#[105, 45, 112, 119, 110]⟩, ⟨#[105, 45, 116, 97, 111]⟩, ⟨#[105, 45, 116, 97, 121]⟩, ⟨#[105, 45, 116, 115, 117]⟩, ⟨#[110, 111, 45, 98, 111, 107, 42]⟩, ⟨#[110, 111, 45, 110, 121, 110, 42]⟩, ⟨#[115, 103, 110, 45, 98, 101, 45, 102, 114]⟩, ⟨#[115, 103, 110, 45, 98, 101, 45, 110, 108]⟩, ⟨#[115, 103, 110, 45, 99, 104, 45, 100, 101]⟩, ⟨#[122, 104, 45, 103, 117, 111, 121, 117, 42]⟩, ⟨#[122, 104, 45, 104, 97, 107, 107, 97, 42]⟩, ⟨#[122, 104, 45, 109, 105, 110, 42]⟩, ⟨#[122, 104, 45, 109, 105, 110, 45, 110, 97, 110, 42]⟩, ⟨#[122, 104, 45, 120, 105, 97, 110, 103, 42]⟩] : List ByteArray)) := ⟨_, rfl⟩
 replace H : (some y187) = some r := by first | (rw [hy187]; with_reducible exact H) | (have H2_ := (Option.bind_some _ _).symm.trans H; rw [hy187]; with_reducible exact H2_) | (have H2_ := (Option.bind_some _ _).symm.trans H; with_reducible exact H2_) | with_reducible exact H | (rw [hy187]; exact H) | exact H
 have Ny187 := ak hy187
 clear hy187
 obtain rfl := Option.some.inj H
 go_enter Tryd.func15, Tryd.ntmps15
 go_wp2_with (first | ((with_reducible refine gate_dst (N := 1) rfl ?_); refine Kd.R_lit Kd.string _ 9 ?hg (N := 1) ?hd (xs := ([⟨#[97, 114, 116, 45, 108, 111, 106, 98, 97, 110, 42]⟩, ⟨#[99, 101, 108, 45, 103, 97, 117, 108, 105, 115, 104, 42]⟩, ⟨#[101, 110, 45, 103, 98, 45, 111, 101, 100]⟩, ⟨#[105, 45, 97, 109, 105]⟩, ⟨#[105, 45, 98, 110, 110]⟩, ⟨#[105, 45, 100, 101, 102, 97, 117, 108, 116]⟩, ⟨#[105, 45, 101, 110, 111, 99, 104, 105, 97, 110]⟩, ⟨#[105, 45, 104, 97, 107]⟩, ⟨#[105, 45, 107, 108, 105, 110, 103, 111, 110]⟩, ⟨#[105, 45, 108, 117, 120]⟩, ⟨#[105, 45, 109, 105, 110, 103, 111]⟩, ⟨#[105, 45, 110, 97, 118, 97, 106, 111]⟩, ⟨#[105, 45, 112, 119, 110]⟩, ⟨#[105, 45, 116, 97, 111]⟩, ⟨#[105, 45, 116, 97, 121]⟩, ⟨#[105, 45, 116, 115, 117]⟩, ⟨#[110, 111, 45, 98, 111, 107, 42]⟩, ⟨#[110, 111, 45, 110, 121, 110, 42]⟩, ⟨#[115, 103, 110, 45, 98, 101, 45, 102, 114]⟩, ⟨#[115, 103, 110, 45, 98, 101, 45, 110, 108]⟩, ⟨#[115, 103, 110, 45, 99, 104, 45, 100, 101]⟩, ⟨#[122, 104, 45, 103, 117, 111, 121, 117, 42]⟩, ⟨#[122, 104, 45, 104, 97, 107, 107, 97, 42]⟩, ⟨#[122, 104, 45, 109, 105, 110, 42]⟩, ⟨#[122, 104, 45, 109, 105, 110, 45, 110, 97, 110, 42]⟩, ⟨#[122, 104, 45, 120, 105, 97, 110, 103, 42]⟩] : List ByteArray)) (inner := [.string ⟨#[97, 114, 116, 45, 108, 111, 106, 98, 97, 110, 42]⟩, .string ⟨#[99, 101, 108, 45, 103, 97, 117, 108, 105, 115, 104, 42]⟩, .string ⟨#[101, 110, 45, 103, 98, 45, 111, 101, 100]⟩, .string ⟨#[105, 45, 97, 109, 105]⟩, .string ⟨#[105, 45, 98, 110, 110]⟩, .string ⟨#[105, 45, 100, 101, 102, 97, 117, 108, 116]⟩, .string ⟨#[105, 45, 101, 110, 111, 99, 104, 105, 97, 110]⟩, .string ⟨#[105, 45, 104, 97, 107]⟩, .string ⟨#[105, 45, 107, 108, 105, 110, 103, 111, 110]⟩, .string ⟨#[105, 45, 108, 117, 120]⟩, .string ⟨#[105, 45, 109, 105, 110, 103, 111]⟩, .string ⟨#[105, 45, 110, 97, 118, 97, 106, 111]⟩, .string ⟨#[105, 45, 112, 119, 110]⟩, .string ⟨#[105, 45, 116, 97, 111]⟩, .string ⟨#[105, 45, 116, 97, 121]⟩, .string ⟨#[105, 45, 116, 115, 117]⟩, .string ⟨#[110, 111, 45, 98, 111, 107, 42]⟩, .string ⟨#[110, 111, 45, 110, 121, 110, 42]⟩, .string ⟨#[115, 103, 110, 45, 98, 101, 45, 102, 114]⟩, .string ⟨#[115, 103, 110, 45, 98, 101, 45, 110, 108]⟩, .string ⟨#[115, 103, 110, 45, 99, 104, 45, 100, 101]⟩, .string ⟨#[122, 104, 45, 103, 117, 111, 121, 117, 42]⟩, .string ⟨#[122, 104, 45, 104, 97, 107, 107, 97, 42]⟩, .string ⟨#[122, 104, 45, 109, 105, 110, 42]⟩, .string ⟨#[122, 104, 45, 109, 105, 110, 45, 110, 97, 110, 42]⟩, .string ⟨#[122, 104, 45, 120, 105, 97, 110, 103, 42]⟩]) (ok := fun _ => True) (okp := fun _ => True) ?hr ?hp (fun _ hk => hk) trivial (Below.refl _ _) (Nat.le_refl _) (by simp) ?_; (case hd => rfl); (case hg => rfl); (case hr => first | (go_simp; done) | (go_simp; rfl)); (case hp => exact (Reps.one (show Kd.M Kd.string _ _ _ (⟨#[97, 114, 116, 45, 108, 111, 106, 98, 97, 110, 42]⟩ : ByteArray) [.string ⟨#[97, 114, 116, 45, 108, 111, 106, 98, 97, 110, 42]⟩] from rfl) (Reps.one (show Kd.M Kd.string _ _ _ (⟨#[99, 101, 108, 45, 103, 97, 117, 108, 105, 115, 104, 42]⟩ : ByteArray) [.string ⟨#[99, 101, 108, 45, 103, 97, 117, 108, 105, 115, 104, 42]⟩] from rfl) (Reps.one (show Kd.M Kd.string _ _ _ (⟨#[101, 110, 45, 103, 98, 45, 111, 101, 100]⟩ : ByteArray) [.string ⟨#[101, 110, 45, 103, 98, 45, 111, 101, 100]⟩] from rfl) (Reps.one (show Kd.M Kd.string _ _ _ (⟨#[105, 45, 97, 109, 105]⟩ : ByteArray) [.string ⟨#[105, 45, 97, 109, 105]⟩] from rfl) (Reps.one (show Kd.M Kd.string _ _ _ (⟨#[105, 45, 98, 110, 110]⟩ : ByteArray) [.string ⟨#[105, 45, 98, 110, 110]⟩] from rfl) (Reps.one (show Kd.M Kd.string _ _ _ (⟨#[105, 45, 100, 101, 102, 97, 117, 108, 116]⟩ : ByteArray) [.string ⟨#[105, 45, 100, 101, 102, 97, 117, 108, 116]⟩] from rfl) (Reps.one (show Kd.M Kd.string _ _ _ (⟨#[105, 45, 101, 110, 111, 99, 104, 105, 97, 110]⟩ : ByteArray) [.string ⟨#[105, 45, 101, 110, 111, 99, 104, 105, 97, 110]⟩] from rfl) (Reps.one (show Kd.M Kd.string _ _ _ (⟨#[105, 45, 104, 97, 107]⟩ : ByteArray) [.string ⟨#[105, 45, 104, 97, 107]⟩] from rfl) (Reps.one (show Kd.M Kd.string _ _ _ (⟨#[105, 45, 107, 108, 105, 110, 103, 111, 110]⟩ : ByteArray) [.string ⟨#[105, 45, 107, 108, 105, 110, 103, 111, 110]⟩] from rfl) (Reps.one (show Kd.M Kd.string _ _ _ (⟨#[105, 45, 108, 117, 120]⟩ : ByteArray) [.string ⟨#[105, 45, 108, 117, 120]⟩] from rfl) (Reps.one (show Kd.M Kd.string _ _ _ (⟨#[105, 45, 109, 105, 110, 103, 111]⟩ : ByteArray) [.string ⟨#[105, 45, 109, 105, 110, 103, 111]⟩] from rfl) (Reps.one (show Kd.M Kd.string _ _ _ (⟨#[105, 45, 110, 97, 118, 97, 106, 111]⟩ : ByteArray) [.string ⟨#[105, 45, 110, 97, 118, 97, 106, 111]⟩] from rfl) (Reps.one (show Kd.M Kd.string _ _ _ (⟨#[105, 45, 112, 119, 110]⟩ : ByteArray) [.string ⟨#[105, 45, 112, 119, 110]⟩] from rfl) (Reps.one (show Kd.M Kd.string _ _ _ (⟨#[105, 45, 116, 97, 111]⟩ : ByteArray) [.string ⟨#[105, 45, 116, 97, 111]⟩] from rfl) (Reps.one (show Kd.M Kd.string _ _ _ (⟨#[105, 45, 116, 97, 121]⟩ : ByteArray) [.string ⟨#[105, 45, 116, 97, 121]⟩] from rfl) (Reps.one (show Kd.M Kd.string _ _ _ (⟨#[105, 45, 116, 115, 117]⟩ : ByteArray) [.string ⟨#[105, 45, 116, 115, 117]⟩] from rfl) (Reps.one (show Kd.M Kd.string _ _ _ (⟨#[110, 111, 45, 98, 111, 107, 42]⟩ : ByteArray) [.string ⟨#[110, 111, 45, 98, 111, 107, 42]⟩] from rfl) (Reps.one (show Kd.M Kd.string _ _ _ (⟨#[110, 111, 45, 110, 121, 110, 42]⟩ : ByteArray) [.string ⟨#[110, 111, 45, 110, 121, 110, 42]⟩] from rfl) (Reps.one (show Kd.M Kd.string _ _ _ (⟨#[115, 103, 110, 45, 98, 101, 45, 102, 114]⟩ : ByteArray) [.string ⟨#[115, 103, 110, 45, 98, 101, 45, 102, 114]⟩] from rfl) (Reps.one (show Kd.M Kd.string _ _ _ (⟨#[115, 103, 110, 45, 98, 101, 45, 110, 108]⟩ : ByteArray) [.string ⟨#[115, 103, 110, 45, 98, 101, 45, 110, 108]⟩] from rfl) (Reps.one (show Kd.M Kd.string _ _ _ (⟨#[115, 103, 110, 45, 99, 104, 45, 100, 101]⟩ : ByteArray) [.string ⟨#[115, 103, 110, 45, 99, 104, 45, 100, 101]⟩] from rfl) (Reps.one (show Kd.M Kd.string _ _ _ (⟨#[122, 104, 45, 103, 117, 111, 121, 117, 42]⟩ : ByteArray) [.string ⟨#[122, 104, 45, 103, 117, 111, 121, 117, 42]⟩] from rfl) (Reps.one (show Kd.M Kd.string _ _ _ (⟨#[122, 104, 45, 104, 97, 107, 107, 97, 42]⟩ : ByteArray) [.string ⟨#[122, 104, 45, 104, 97, 107, 107, 97, 42]⟩] from rfl) (Reps.one (show Kd.M Kd.string _ _ _ (⟨#[122, 104, 45, 109, 105, 110, 42]⟩ : ByteArray) [.string ⟨#[122, 104, 45, 109, 105, 110, 42]⟩] from rfl) (Reps.one (show Kd.M Kd.string _ _ _ (⟨#[122, 104, 45, 109, 105, 110, 45, 110, 97, 110, 42]⟩ : ByteArray) [.string ⟨#[122, 104, 45, 109, 105, 110, 45, 110, 97, 110, 42]⟩] from rfl) (Reps.one (show Kd.M Kd.string _ _ _ (⟨#[122, 104, 45, 120, 105, 97, 110, 103, 42]⟩ : ByteArray) [.string ⟨#[122, 104, 45, 120, 105, 97, 110, 103, 42]⟩] from rfl) (Reps.none _ _)))))))))))))))))))))))))))); intro v188 w1 ho2 hb hg_ hnew_; clear hg_ hnew_; (first | rw [← Ny187.out] at ho2 | (simp only [Int.reduceToNat] at ho2; rw [← Ny187.out] at ho2)); have n0_ := ak (Kd.R_lower ho2 (below_size bq)); have n1_ := ak (below_step bq hb); clear HB; have HO189 := n0_; have HB := n1_; clear n0_ n1_; clear hb ho2))
 go_ret
 exact ⟨_, by first | rfl | (simp [errW_none, errW_some] <;> rfl) | (simp [*, errW_none, errW_some] <;> rfl), by (with_reducible repeat (first | apply rA | apply rN | apply rD)); exact HO189.out, bq⟩

def isoglossref02_upper.f (a0 : Int) : Option (Int) := if a0 ≥ 97 then (if a0 ≤ 122 then (some ((((a0 - 97) % 256) + 65) % 256)) else (some a0)) else (some a0)
set_option maxHeartbeats 8000000 in
set_option maxRecDepth 100000 in
theorem isoglossref02_upper.calls (a0 : Int) (r : Int) (w : World) (h : isoglossref02_upper.f a0 = some r) :
  Calls Tryd.prog 45 #[.int .u8 a0] w fun e w' => e = .returned (.int .u8 r) ∧ Drawn0 w w' := by
 have H : (if a0 ≥ 97 then (if a0 ≤ 122 then (some ((((a0 - 97) % 256) + 65) % 256)) else (some a0)) else (some a0)) = some r := h
 clear h
 by_cases c2 : a0 ≥ 97
 ·
  rw [if_pos c2] at H
  have c2b0 : decide (97 ≤ a0) = true := decide_eq_true c2
  clear c2
  by_cases c3 : a0 ≤ 122
  ·
   rw [if_pos c3] at H
   have c3b0 : decide (a0 ≤ 122) = true := decide_eq_true c3
   clear c3
   obtain rfl := Option.some.inj H
   go_enter Tryd.func45, Tryd.ntmps45
   go_wp2
   go_ret
   exact ⟨by first | rfl | (simp; done) | (simp [*]; done), by repeat (first | exact Drawn0.refl _ | apply Drawn0.step)⟩
  ·
   rw [if_neg c3] at H
   have c3b0 : decide (a0 ≤ 122) = false := decide_eq_false c3
   clear c3
   obtain rfl := Option.some.inj H
   go_enter Tryd.func45, Tryd.ntmps45
   go_wp2
   go_ret
   exact ⟨by first | rfl | (simp; done) | (simp [*]; done), by repeat (first | exact Drawn0.refl _ | apply Drawn0.step)⟩
 ·
  rw [if_neg c2] at H
  have c2b0 : decide (97 ≤ a0) = false := decide_eq_false c2
  clear c2
  obtain rfl := Option.some.inj H
  go_enter Tryd.func45, Tryd.ntmps45
  go_wp2
  go_ret
  exact ⟨by first | rfl | (simp; done) | (simp [*]; done), by repeat (first | exact Drawn0.refl _ | apply Drawn0.step)⟩

end Go.Proofs.YtmbfnbnlajchmaaDoor.P
