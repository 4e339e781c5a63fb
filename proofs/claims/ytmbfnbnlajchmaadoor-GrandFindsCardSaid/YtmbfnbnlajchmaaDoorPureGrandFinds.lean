import Derived.Test.YtmbfnbnlajchmaaDoorGrandEv
import Derived.Test.YtmbfnbnlajchmaaDoorP1
import Derived.Test.YtmbfnbnlajchmaaDoorP2
import Derived.Test.YtmbfnbnlajchmaaDoorP3
import Derived.OpenShut
namespace Go.Proofs.YtmbfnbnlajchmaaDoor.Pure
open Go.RowKit Go.Proofs.YtmbfnbnlajchmaaDoor.P Go.Proofs.YtmbfnbnlajchmaaDoorW.PrintWords Go.Proofs.YtmbfnbnlajchmaaDoorW.PrintLast
open Go.Proofs.YtmbfnbnlajchmaaDoor.Each Go.Proofs.YtmbfnbnlajchmaaDoor.Base Go.Proofs.YtmbfnbnlajchmaaDoor.GrandW
set_option linter.unusedVariables false
set_option linter.unusedSimpArgs false

theorem fname_pos : ∀ i < 26, 1 ≤ (nameAt ((i : Nat) : Int)).size := by decide +kernel
theorem fcut_one (s : ByteArray) (i : Nat) (h : i < s.size) : bytesOf (s.extract i (i + 1)) = [bt s (i : Int)] := by
  rw [bytesOf_extract, drop_at s i h, Nat.add_sub_cancel_left]
  rfl
theorem fstr_size (l : List Int) : (strOfNums l).size = l.length := by
  have := congrArg List.length (strOfNums_data l)
  rw [List.length_map] at this
  exact this
theorem fu64_nonneg (e : Int) : 0 ≤ IntKind.u64.wrap e := (bounds_u64 (wf_wrap .u64 e)).1
theorem fextract_le (s : ByteArray) (i j : Nat) : (s.extract i j).size ≤ s.size := by
  rw [ByteArray.size_extract]; omega
theorem finds_end (x0 s : ByteArray) (h0 : x0.size ≤ 140737488351232) (hs : s.size ≤ 20) (hp : 1 ≤ s.size) (q1 q2 : Int) :
    Ev (fun k => (isoglosslaw05_rest.f q1 (s.size : Int)).bind fun t144 => (if true = true then ((isoglosslaw05_finds.f k x0).bind fun t145 => (if t145 = true then ((isoglosslaw05_finds.f k s).bind fun t146 => (if t146 = true then (if 0 ≤ t144 then (if t144 ≤ (s.size : Int) then ((some (([(q2) % 256] : List Int) : List Int)).bind fun y147 => (if (s.extract 0 (t144 : Int).toNat).size + (strOfNums y147).size ≤ 9223372036854775807 then (if 0 ≤ (wrap64 (t144 + 1)) then (if (wrap64 (t144 + 1)) ≤ (s.size : Int) then (if ((s.extract 0 (t144 : Int).toNat) ++ (strOfNums y147)).size + (s.extract ((wrap64 (t144 + 1)) : Int).toNat s.size).size ≤ 9223372036854775807 then ((isoglosslaw05_finds.f k (((s.extract 0 (t144 : Int).toNat) ++ (strOfNums y147)) ++ (s.extract ((wrap64 (t144 + 1)) : Int).toNat s.size))).bind fun t150 => (if t150 = true then ((isoglosslaw05_finds.f k (s.extract 0 (t144 : Int).toNat)).bind fun t151 => (if t151 = true then (if s.size + 1 ≤ 9223372036854775807 then ((isoglosslaw05_finds.f k (s ++ (⟨#[97]⟩ : ByteArray))).bind fun t152 => (some t152)) else (none)) else (some false))) else (some false))) else (none)) else (none)) else (none)) else (none))) else (none)) else (none)) else (some false))) else (some false))) else (some false))) true := by
  obtain ⟨r, hr, r0, r1⟩ := rest_eq q1 (s.size : Int) (by omega) (by omega)
  have e1 := fextract_le s 0 r.toNat
  have w : wrap64 (r + 1) = r + 1 := wrap_next r0 (by omega)
  have e2 := fextract_le s (r + 1).toNat s.size
  have z1 : (strOfNums [(q2) % 256]).size = 1 := fstr_size _
  have z2 : ((s.extract 0 r.toNat) ++ (strOfNums [(q2) % 256])).size = (s.extract 0 r.toNat).size + (strOfNums [(q2) % 256]).size := size_append _ _
  have z3 : (((s.extract 0 r.toNat) ++ (strOfNums [(q2) % 256])) ++ (s.extract (r + 1).toNat s.size)).size = _ := size_append _ _
  have z4 : (s ++ (⟨#[97]⟩ : ByteArray)).size = s.size + 1 := size_append _ _
  refine Ev.bind_c hr ?_
  refine Ev.ite_pos rfl ?_
  refine Ev.bind (finds_ev x0 h0) ?_
  refine Ev.ite_pos rfl ?_
  refine Ev.bind (finds_ev s (by omega)) ?_
  refine Ev.ite_pos rfl ?_
  refine Ev.ite_pos r0 ?_
  refine Ev.ite_pos (by omega) ?_
  refine Ev.name ?_
  refine Ev.ite_pos (by omega) ?_
  rw [w]
  refine Ev.ite_pos (by omega) ?_
  refine Ev.ite_pos (by omega) ?_
  refine Ev.ite_pos (by omega) ?_
  refine Ev.bind (finds_ev _ (by omega)) ?_
  refine Ev.ite_pos rfl ?_
  refine Ev.bind (finds_ev _ (by omega)) ?_
  refine Ev.ite_pos rfl ?_
  refine Ev.ite_pos (by omega) ?_
  refine Ev.bind (finds_ev _ (by omega)) ?_
  exact Ev.now _
theorem finds_loop (x0 : ByteArray) (h0 : x0.size ≤ 140737488351232) (q0 q1 q2 r : Int) (r0 : 0 ≤ r) (r1 : r < 26) : ∀ (d i : Nat) (l : List Int), (nameAt r).size - i = d → i ≤ (nameAt r).size → l.length = i →
    Ev (fun k => isoglosslaw05_GrandFinds.l0 k x0 true (nameAt r) l (i : Int) q0 q1 q2) true
  | 0, i, l, hd, hi, hl => by
    have hz := nameAt_size r
    have hp := fname_pos r.toNat (by omega)
    rw [Int.toNat_of_nonneg r0] at hp
    refine Ev.step (fun k => by unfold isoglosslaw05_GrandFinds.l0; rfl) ?_
    refine Ev.ite_neg (by omega) ?_
    exact finds_end x0 (strOfNums l) h0 (by rw [fstr_size]; omega) (by rw [fstr_size]; omega) q1 q2
  | d + 1, i, l, hd, hi, hl => by
    have hz := nameAt_size r
    have hlt : i < (nameAt r).size := by omega
    have t1 : ((i : Int)).toNat = i := by omega
    have t2 : ((i : Int) + 1).toNat = i + 1 := by omega
    have csz : ((nameAt r).extract i (i + 1)).size = 1 := by rw [size_bytesOf, fcut_one _ i hlt]; rfl
    have next : ∀ x, Ev (fun k => isoglosslaw05_GrandFinds.l0 k x0 true (nameAt r) (l ++ [x]) ((i : Int) + 1) q0 q1 q2) true := fun x =>
      finds_loop x0 h0 q0 q1 q2 r r0 r1 d (i + 1) (l ++ [x]) (by omega) (by omega) (by simp [hl])
    refine Ev.step (fun k => by unfold isoglosslaw05_GrandFinds.l0; rfl) ?_
    refine Ev.ite_pos (by omega) ?_
    refine Ev.ite_pos (by omega) ?_
    rw [wrap_next (by omega) (by omega), t1, t2]
    refine Ev.ite_pos (by omega) ?_
    refine Ev.ite_pos (by omega) ?_
    refine Ev.ite_pos (fu64_nonneg _) ?_
    refine Ev.cases (fun _ => ?_) (fun _ => ?_)
    · refine Ev.bind (rUpper_ev _ (by omega)) ?_
      refine Ev.ite_pos (by rw [upS_size]; omega) ?_
      refine Ev.ite_pos (by omega) ?_
      exact next _
    · refine Ev.ite_pos (by omega) ?_
      refine Ev.ite_pos (by omega) ?_
      exact next _
theorem finds_j (x0 : ByteArray) (h0 : x0.size ≤ 140737488351232) (a1 q0 q1 q2 : Int) : Ev (fun k => isoglosslaw05_GrandFinds.j0 k x0 a1 true q0 q1 q2) true := by
  obtain ⟨r, hr, r0, r1⟩ := rest_eq a1 26 (by decide) (by decide)
  refine Ev.step (fun k => by unfold isoglosslaw05_GrandFinds.j0; rfl) ?_
  refine Ev.bind_c List_eq ?_
  refine Ev.bind_c (show isoglosslaw05_rest.f a1 (starL.length : Int) = some r from hr) ?_
  refine Ev.ite_pos r0 ?_
  refine Ev.ite_pos (by rw [starL_length]; omega) ?_
  refine Ev.bind_c (Name_eq r r0 r1) ?_
  exact finds_loop x0 h0 q0 q1 q2 r r0 r1 _ 0 [] rfl (by omega) rfl
theorem GrandFinds : isoglosslaw05_GrandFinds.Pure := by
  intro a0 a1 q0 q1 q2 h0 h1 _ _ _
  have : Ev (fun k => isoglosslaw05_GrandFinds.f k a0 a1 q0 q1 q2) true := by
    unfold isoglosslaw05_GrandFinds.f
    refine Ev.bind gawake_ev ?_
    refine Ev.cases (fun h => ?_) (fun h => ?_)
    · refine Ev.ite_pos (by decide) ?_
      refine Ev.ite_pos (by omega) ?_
      exact finds_j _ (Nat.le_trans (fextract_le _ _ _) h0) _ _ _ _
    · exact finds_j _ h0 _ _ _ _
  exact this.rounds
end Go.Proofs.YtmbfnbnlajchmaaDoor.Pure
