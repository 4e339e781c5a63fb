/- distance.fits, walked. -/
import Derived.Test.YtdjbanhoejegjaaDqDistIn
import Derived.Deep.RegionWith
namespace Go.Proofs.Ytdjbanhoejegjaa.LikW
open Go.RowKit Go.Proofs.YtdjbanhoejegjaaW.PrintWords Go.Proofs.YtdjbanhoejegjaaW.PrintLast Go.Proofs.Ytdjbanhoejegjaa.P
set_option linter.unusedVariables false
set_option linter.unusedSimpArgs false

def starB : ByteArray := ⟨#[42]⟩
def fitP (ms : List S69) (i : Int) (s r : ByteArray) : Bool :=
  if s = r ∨ s = starB then true else if i = 2 then (if h : 0 < s.size then (if ((s[0]'h).toNat : Int) = 33 then !(inP ms (s.extract 1 s.size) r) else if ((s[0]'h).toNat : Int) = 36 then inP ms (s.extract 1 s.size) r else false) else false) else false
theorem star_iff (s : ByteArray) : (s.toList == [42]) = true ↔ s = starB := by
  rw [beq_iff_eq]
  exact ⟨fun h => toList_inj (h.trans (by rw [ByteArray.toList_eq]; rfl)), fun h => by rw [h, ByteArray.toList_eq]; rfl⟩
theorem empty_size (s : ByteArray) : s.toList.isEmpty = true ↔ ¬ 0 < s.size := by
  rw [List.isEmpty_iff_length_eq_zero, ByteArray.toList_eq, Array.length_toList]
  exact ⟨fun h => by have : s.size = s.data.size := rfl; omega, fun h => by have : s.size = s.data.size := rfl; omega⟩
set_option maxRecDepth 100000 in
set_option maxHeartbeats 4000000 in
theorem fit_calls (A0 : Option Addr) (n0 c0 : Nat) (A1 : Option Addr) (n1 c1 : Nat) (A2 : Option Addr) (n2 c2 : Nat) (A3 : Option Addr) (c3 : Nat) (ms : List S69) (p q : Int) (i : Int) (s r : ByteArray) (w : World) (hC : Kd.C k69 w A3 ms.length ms) :
    Calls Try.prog 53 #[.agg #[.slice A0 n0 c0, .slice A1 n1 c1, .slice A2 n2 c2, .slice A3 ms.length c3, .int .i64 p, .int .i64 q], .int .i64 i, .string s, .string r] w fun e w' => e = .returned (.bool (fitP ms i s r)) ∧ Below w.heap.size w w' := by
  have hu39 := Try.underlying39
  have HC := Aside0.mk hC
  clear hC
  go_enter Try.func53, Try.ntmps53
  go_wp2
  · have g : s.toList = r.toList := by assumption
    go_ret
    exact ⟨by simp [fitP, toList_inj g], by repeat (first | exact hb | exact Below.refl _ _ | apply below_alloc | apply pw_below_drewN | apply below_drew1)⟩
  · have g : ¬ s.toList = r.toList := by assumption
    have g2 : (s.toList == r.toList) = true ∨ (s.toList == [42]) = true := by assumption
    go_ret
    have : s = starB := (star_iff s).1 (g2.resolve_left (fun e => g (eq_of_beq e)))
    exact ⟨by simp [fitP, this], by repeat (first | exact hb | exact Below.refl _ _ | apply below_alloc | apply pw_below_drewN | apply below_drew1)⟩
  · have g : ¬ s.toList = r.toList := by assumption
    have g2 : (s.toList == r.toList) = false ∧ (s.toList == [42]) = false := by assumption
    have ge : s.toList.isEmpty = true := by assumption
    go_ret
    have h1 : ¬ s = r := fun e => g (by rw [e])
    have h2 : ¬ s = starB := fun e => by have := (star_iff s).2 e; rw [g2.2] at this; cases this
    have h3 := (empty_size s).1 ge
    exact ⟨by unfold fitP; rw [if_neg (fun e => e.elim h1 h2), dif_neg h3]; simp, by repeat (first | exact hb | exact Below.refl _ _ | apply below_alloc | apply pw_below_drewN | apply below_drew1)⟩
  · have g : ¬ s.toList = r.toList := by assumption
    have g2 : (s.toList == r.toList) = false ∧ (s.toList == [42]) = false := by assumption
    have gs : 0 < s.size := by assumption
    have gi : i = 2 := by assumption
    subst gi
    have g33 : (((s[0]'gs).toNat : Int) == 33) = true := by assumption
    have h1 : ¬ s = r := fun e => g (by rw [e])
    have h2 : ¬ s = starB := fun e => by have := (star_iff s).2 e; rw [g2.2] at this; cases this
    have hv : fitP ms 2 s r = !(inP ms (s.extract 1 s.size) r) := by unfold fitP; rw [if_neg (fun e => e.elim h1 h2), if_pos rfl, dif_pos gs, if_pos (eq_of_beq g33)]
    have HV := Aside0.mk hv
    clear hv
    go_region_with (go_at_call 60; refine (in_calls A0 n0 c0 A1 n1 c1 A2 n2 c2 A3 c3 ms p q _ r _ (Kd.C_below HC.out (by repeat (first | exact Below.refl _ _ | apply below_alloc | apply pw_below_drewN | apply below_drew1)))).mono ?_; rintro e w9 ⟨rfl, hb⟩; replace hb := Below.trans (show Below w.heap.size w _ by repeat (first | exact Below.refl _ _ | apply below_alloc | apply pw_below_drewN | apply below_drew1)) (hb.mono (by simp)))
    all_goals go_wp2
    all_goals go_ret
    all_goals exact ⟨by rw [HV.out]; rfl, by repeat (first | exact hb | exact Below.refl _ _ | apply below_alloc | apply pw_below_drewN | apply below_drew1)⟩
  · have g : ¬ s.toList = r.toList := by assumption
    have g2 : (s.toList == r.toList) = false ∧ (s.toList == [42]) = false := by assumption
    have gs : 0 < s.size := by assumption
    have gi : i = 2 := by assumption
    subst gi
    have g33 : (((s[0]'gs).toNat : Int) == 33) = false := by assumption
    have g36 : (((s[0]'gs).toNat : Int) == 36) = true := by assumption
    have h1 : ¬ s = r := fun e => g (by rw [e])
    have h2 : ¬ s = starB := fun e => by have := (star_iff s).2 e; rw [g2.2] at this; cases this
    have hv : fitP ms 2 s r = inP ms (s.extract 1 s.size) r := by unfold fitP; rw [if_neg (fun e => e.elim h1 h2), if_pos rfl, dif_pos gs, if_neg (ne_of_beq_false g33), if_pos (eq_of_beq g36)]
    have HV := Aside0.mk hv
    clear hv
    go_region_with (go_at_call 60; refine (in_calls A0 n0 c0 A1 n1 c1 A2 n2 c2 A3 c3 ms p q _ r _ (Kd.C_below HC.out (by repeat (first | exact Below.refl _ _ | apply below_alloc | apply pw_below_drewN | apply below_drew1)))).mono ?_; rintro e w9 ⟨rfl, hb⟩; replace hb := Below.trans (show Below w.heap.size w _ by repeat (first | exact Below.refl _ _ | apply below_alloc | apply pw_below_drewN | apply below_drew1)) (hb.mono (by simp)))
    all_goals go_wp2
    all_goals go_ret
    all_goals exact ⟨by rw [HV.out]; rfl, by repeat (first | exact hb | exact Below.refl _ _ | apply below_alloc | apply pw_below_drewN | apply below_drew1)⟩
  · have g : ¬ s.toList = r.toList := by assumption
    have g2 : (s.toList == r.toList) = false ∧ (s.toList == [42]) = false := by assumption
    have gs : 0 < s.size := by assumption
    have gi : i = 2 := by assumption
    subst gi
    have g33 : (((s[0]'gs).toNat : Int) == 33) = false := by assumption
    have g36 : (((s[0]'gs).toNat : Int) == 36) = false := by assumption
    go_ret
    have h1 : ¬ s = r := fun e => g (by rw [e])
    have h2 : ¬ s = starB := fun e => by have := (star_iff s).2 e; rw [g2.2] at this; cases this
    have hv : fitP ms 2 s r = false := by unfold fitP; rw [if_neg (fun e => e.elim h1 h2), if_pos rfl, dif_pos gs, if_neg (ne_of_beq_false g33), if_neg (ne_of_beq_false g36)]
    exact ⟨by simp [hv], by repeat (first | exact hb | exact Below.refl _ _ | apply below_alloc | apply pw_below_drewN | apply below_drew1)⟩
  · have ge : s.toList.isEmpty = false := by assumption
    have gs : ¬ 0 < s.size := by assumption
    rw [(empty_size s).2 gs] at ge
    cases ge
  · have g : ¬ s.toList = r.toList := by assumption
    have g2 : (s.toList == r.toList) = false ∧ (s.toList == [42]) = false := by assumption
    have gi : ¬ i = 2 := by assumption
    go_ret
    have h1 : ¬ s = r := fun e => g (by rw [e])
    have h2 : ¬ s = starB := fun e => by have := (star_iff s).2 e; rw [g2.2] at this; cases this
    have hv : fitP ms i s r = false := by unfold fitP; rw [if_neg (fun e => e.elim h1 h2), if_neg gi]
    exact ⟨by simp [hv], by repeat (first | exact hb | exact Below.refl _ _ | apply below_alloc | apply pw_below_drewN | apply below_drew1)⟩
end Go.Proofs.Ytdjbanhoejegjaa.LikW
