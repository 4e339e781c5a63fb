/- What the document's Pack, May and Unpack come to. -/
import Derived.Test.YtmbfnbnlajchmaaDoorAdPackEv
import Derived.Test.YtmbfnbnlajchmaaDoorAdP12
import Derived.Test.YtmbfnbnlajchmaaDoorAdP24
namespace Go.Proofs.YtmbfnbnlajchmaaDoor.Pure
open Go.RowKit Go.Proofs.YtmbfnbnlajchmaaDoor.P Go.Proofs.YtmbfnbnlajchmaaDoorW.PrintWords Go.Proofs.YtmbfnbnlajchmaaDoorW.PrintLast Go.Proofs.YtmbfnbnlajchmaaDoorW.PrintMore
open Go.Proofs.YtmbfnbnlajchmaaDoor.Each Go.Proofs.YtmbfnbnlajchmaaDoor.Base Go.Proofs.YtmbfnbnlajchmaaDoor.PackW
set_option linter.unusedVariables false
set_option linter.unusedSimpArgs false

theorem May_loop (s : ByteArray) (hs : s.size ≤ 140737488351232) : ∀ (d i : Nat), s.size - i = d → i ≤ s.size →
    Ev (fun k => isoglossref03_May.l0 k s (i : Int)) (((bytesOf s).drop i).all mayI && decide (s.size ≤ 8))
  | 0, i, hd, hi => by
    obtain rfl : i = s.size := by omega
    refine Ev.step (fun k => by unfold isoglossref03_May.l0; rfl) ?_
    refine Ev.ite_neg (by omega) ?_
    rw [List.drop_of_length_le (by rw [bytesOf_length]; exact Nat.le_refl _), List.all_nil, Bool.true_and]
    refine Ev.res (Ev.now _) ?_
    rw [Bool.eq_iff_iff, decide_eq_true_iff, decide_eq_true_iff]
    omega
  | d + 1, i, hd, hi => by
    have ih := May_loop s hs d (i + 1) (by omega) (by omega)
    refine Ev.step (fun k => by unfold isoglossref03_May.l0; rfl) ?_
    refine Ev.ite_pos (by omega) ?_
    refine Ev.ite_pos (by omega) ?_
    rw [drop_at s i (by omega), List.all_cons, wrap_next (by omega) (by omega)]
    generalize bt s (i : Int) = c
    have yes : (97 ≤ c ∧ c ≤ 122) ∨ (48 ≤ c ∧ c ≤ 57) ∨ c = 42 ∨ c = 33 ∨ c = 36 → Ev (fun k => isoglossref03_May.l0 k s ((i : Int) + 1)) (mayI c && ((bytesOf s).drop (i + 1)).all mayI && decide (s.size ≤ 8)) := by
      intro h
      have e : mayI c = true := by unfold mayI; rw [decide_eq_true_iff]; exact h
      rw [e, Bool.true_and]
      exact ih
    have no : ¬ ((97 ≤ c ∧ c ≤ 122) ∨ (48 ≤ c ∧ c ≤ 57) ∨ c = 42 ∨ c = 33 ∨ c = 36) → Ev (fun _ => some false) (mayI c && ((bytesOf s).drop (i + 1)).all mayI && decide (s.size ≤ 8)) := by
      intro h
      have e : mayI c = false := by unfold mayI; rw [decide_eq_false_iff_not]; exact h
      rw [e, Bool.false_and, Bool.false_and]
      exact Ev.now _
    repeat' (refine Ev.cases (fun _ => ?_) (fun _ => ?_))
    all_goals first | exact yes (by omega) | exact no (by omega)
theorem May_ev (s : ByteArray) (hs : s.size ≤ 140737488351232) : Ev (fun k => isoglossref03_May.f k s) (mayL (bytesOf s)) := by
  have := May_loop s hs _ 0 rfl (by omega)
  rw [List.drop_zero] at this
  unfold mayL
  rw [bytesOf_length]
  exact this
theorem u64_id {x : Int} (h0 : 0 ≤ x) (h1 : x ≤ 18446744073709551615) : IntKind.u64.wrap x = x := by
  rw [IntKind.wrap_u64]
  omega
theorem rPack_loop (t : ByteArray) : ∀ (d i : Nat), 8 - i = d → i ≤ 8 →
    Ev (fun k => isoglossref03_Pack.l0 k t (packN t i) (i : Int)) (packN t 8, true)
  | 0, i, hd, hi => by
    obtain rfl : i = 8 := by omega
    refine Ev.step (fun k => by unfold isoglossref03_Pack.l0; rfl) ?_
    exact Ev.ite_neg (by omega) (Ev.now _)
  | d + 1, i, hd, hi => by
    have ih := rPack_loop t d (i + 1) (by omega) (by omega)
    have h0 := (packN_range t i).1
    have h1 := packN_lim t i (by omega)
    obtain ⟨c0, c1⟩ := bt_byte t (i : Int)
    refine Ev.step (fun k => by unfold isoglossref03_Pack.l0; rfl) ?_
    refine Ev.ite_pos (by omega) ?_
    rw [wrap_next (by omega) (by omega), u64_id (x := packN t i * 256) (by omega) (by omega), u64_id (x := bt t (i : Int)) c0 (by omega), u64_id (by omega) (by omega)]
    by_cases h : (i : Int) < (t.size : Int)
    · exact Ev.ite_pos h (Ev.ite_pos (by omega) ih)
    · refine Ev.ite_neg h ?_
      have e : packN t (i + 1) = packN t i * 256 := by rw [packN, bt_beyond t i (by omega), Int.add_zero]
      rw [e] at ih
      exact ih
theorem rPack_ev (s : ByteArray) (hs : s.size ≤ 140737488351232) : Ev (fun k => isoglossref03_Pack.f k s) (packT (lowS s)) := by
  unfold isoglossref03_Pack.f
  refine Ev.bind (rLower_ev s hs) ?_
  refine Ev.bind (May_ev _ (by rw [lowS_size]; exact hs)) ?_
  have e := packT_eq (lowS s)
  by_cases h : mayL (bytesOf (lowS s)) = true
  · rw [if_pos h, ← packN_eight] at e
    rw [e]
    refine Ev.ite_pos h ?_
    exact rPack_loop (lowS s) _ 0 rfl (by omega)
  · rw [if_neg h] at e
    rw [e]
    exact Ev.ite_neg h (Ev.now _)
theorem rUnpack_j (n : Int) (l : List Int) (hl : l = headN n) : Ev (fun k => isoglossref03_Unpack.j1 k n (strOfNums l)) (unpN n) := by
  subst hl
  have hb := bytesOf_str _ (headN_byte n)
  have hz : (strOfNums (headN n)).size ≤ 140737488351232 := by
    have := headN_length n
    rw [strOfNums_size]; omega
  refine Ev.step (fun k => by unfold isoglossref03_Unpack.j1; rfl) ?_
  refine Ev.bind (rPack_ev _ hz) ?_
  refine Ev.bind (May_ev _ hz) ?_
  rw [hb]
  unfold unpN
  by_cases h : mayL (headN n) = true
  · have h3 : (headN n).map lowI = headN n := by
      conv => rhs; rw [← List.map_id (headN n)]
      exact List.map_congr_left fun x hx => may_low ((mayL_all h).1 x hx)
    have e := packT_eq (lowS (strOfNums (headN n)))
    rw [lowS_bytes, hb, h3, if_pos h] at e
    rw [e]
    refine Ev.ite_pos h (Ev.ite_pos rfl ?_)
    by_cases h2 : padV 8 (headN n) = n
    · exact Ev.ite_pos h2 (Ev.res (Ev.now _) (by rw [if_pos ⟨h, h2⟩]))
    · exact Ev.ite_neg h2 (Ev.res (Ev.now _) (by rw [if_neg (fun z => h2 z.2)]))
  · exact Ev.ite_neg h (Ev.res (Ev.now _) (by rw [if_neg (fun z => h z.1)]))
theorem rUnpack_loop (n : Int) : ∀ (i : Nat) (l : List Int), i ≤ 8 → (∀ x ∈ l, byteI x) → l.length ≤ 8 - i → l ++ ((putL n i).takeWhile fun c => c != 0) = headN n →
    Ev (fun k => isoglossref03_Unpack.l0 k n (strOfNums l) ((i : Int) - 1)) (unpN n)
  | 0, l, _, hb, _, hl => by
    refine Ev.step (fun k => by unfold isoglossref03_Unpack.l0; rfl) ?_
    refine Ev.ite_neg (by omega) ?_
    exact rUnpack_j n l (by simpa [putL] using hl)
  | i + 1, l, hi, hb, hlen, hl => by
    have e0 : ((i + 1 : Nat) : Int) - 1 = (i : Int) := by omega
    rw [e0]
    have w : wrap64 (8 * (i : Int)) = 8 * (i : Int) := by unfold wrap64; omega
    have w1 : wrap64 ((i : Int) - 1) = (i : Int) - 1 := by unfold wrap64; omega
    refine Ev.step (fun k => by unfold isoglossref03_Unpack.l0; rfl) ?_
    rw [w, w1, u64_id (by omega) (by omega), shr_byte n i (by omega)]
    refine Ev.ite_pos (by omega) ?_
    refine Ev.ite_pos (by omega) ?_
    rw [putL, List.takeWhile_cons] at hl
    have hm := mod_byte (n / 256 ^ i)
    generalize n / 256 ^ i % 256 = c at *
    by_cases h : c = 0
    · refine Ev.ite_pos h ?_
      rw [if_neg (by simp [h])] at hl
      exact rUnpack_j n l (by simpa using hl)
    · refine Ev.ite_neg h ?_
      rw [if_pos (by simpa using h)] at hl
      refine Ev.name ?_
      refine Ev.ite_pos (by rw [strOfNums_size, strOfNums_size]; simp; omega) ?_
      have hb1 : ∀ x ∈ [c], byteI x := by intro x hx; simp at hx; rw [hx]; exact hm
      have e : strOfNums l ++ strOfNums [c] = strOfNums (l ++ [c]) := by
        apply bytesOf_inj
        rw [bytesOf_append, bytesOf_str _ hb, bytesOf_str _ hb1, bytesOf_str]
        intro x hx
        rcases List.mem_append.1 hx with hx | hx
        · exact hb x hx
        · exact hb1 x hx
      rw [e]
      refine rUnpack_loop n i (l ++ [c]) (by omega) ?_ (by simp; omega) (by rw [List.append_assoc]; exact hl)
      intro x hx
      rcases List.mem_append.1 hx with hx | hx
      · exact hb x hx
      · exact hb1 x hx
theorem rUnpack_ev (n : Int) : Ev (fun k => isoglossref03_Unpack.f k n) (unpN n) := by
  have := rUnpack_loop n 8 [] (by decide) (by simp) (by simp) (by rw [List.nil_append]; rfl)
  unfold isoglossref03_Unpack.f
  exact this
end Go.Proofs.YtmbfnbnlajchmaaDoor.Pure
