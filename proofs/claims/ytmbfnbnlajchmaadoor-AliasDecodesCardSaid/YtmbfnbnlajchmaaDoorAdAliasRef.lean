/- What the document's Right, Row and Put come to: the same as the program's. -/
import Derived.Test.YtmbfnbnlajchmaaDoorAdAliasEv
import Derived.Test.YtmbfnbnlajchmaaDoorAdP5
import Derived.Test.YtmbfnbnlajchmaaDoorAdP12
import Derived.Test.YtmbfnbnlajchmaaDoorAdP13
import Derived.Test.YtmbfnbnlajchmaaDoorAdP14
import Derived.Test.YtmbfnbnlajchmaaDoorAdP15
import Derived.Test.YtmbfnbnlajchmaaDoorAdGrandEv
namespace Go.Proofs.YtmbfnbnlajchmaaDoor.Pure
open Go.RowKit Go.Proofs.YtmbfnbnlajchmaaDoor.P Go.Proofs.YtmbfnbnlajchmaaDoorW.PrintWords Go.Proofs.YtmbfnbnlajchmaaDoorW.PrintLast Go.Proofs.YtmbfnbnlajchmaaDoorW.PrintMore
open Go.Proofs.YtmbfnbnlajchmaaDoor.Each Go.Proofs.YtmbfnbnlajchmaaDoor.Base Go.Proofs.YtmbfnbnlajchmaaDoor.PackW
set_option linter.unusedVariables false
set_option linter.unusedSimpArgs false

section
variable (s : ByteArray) (hs : s.size ≤ 140737488351232)
include hs
theorem letters_ev (a b : Int) : Ev (fun k => isoglossref06_letters.f k s a b) (clsS s == 1 && longB s a b) := by
  unfold isoglossref06_letters.f
  refine Ev.bind (rClass_ev s hs) ?_
  refine Ev.res (Ev.ifp (Ev.ifp (Ev.now _))) ?_
  rfl
theorem rlang_ev : Ev (fun k => isoglossref06_Language.f k s) (langB s) := by
  unfold isoglossref06_Language.f
  exact Ev.tail (letters_ev s hs 2 8)
theorem rscr_ev : Ev (fun k => isoglossref06_Script.f k s) (scrB s) := by
  unfold isoglossref06_Script.f
  refine Ev.res (Ev.tail (letters_ev s hs 4 4)) ?_
  unfold scrB longB
  congr 1
  rw [Bool.eq_iff_iff]; simp; omega
theorem rreg_ev : Ev (fun k => isoglossref06_Region.f k s) (regB s) := by
  unfold isoglossref06_Region.f
  refine Ev.bind (letters_ev s hs 2 2) ?_
  have e : longB s 2 2 = ((s.size : Int) == 2) := by unfold longB; rw [Bool.eq_iff_iff]; simp; omega
  rw [e]
  unfold regB
  cases h : (clsS s == 1 && ((s.size : Int) == 2)) with
  | true => exact Ev.ite_pos rfl (Ev.now _)
  | false =>
    refine Ev.ite_neg (by decide) ?_
    rw [Bool.false_or]
    by_cases h3 : (s.size : Int) = 3
    · refine Ev.ite_pos h3 ?_
      refine Ev.bind (rClass_ev s hs) (Ev.res (Ev.now _) ?_)
      rw [h3]; simp [clsS]
    · refine Ev.ite_neg h3 (Ev.res (Ev.now _) ?_)
      have e3 : ((s.size : Int) == 3) = false := beq_eq_false_iff_ne.2 h3
      rw [e3, Bool.and_false]
theorem rvar_ev : Ev (fun k => isoglossref06_Variant.f k s) (varB s) := by
  unfold isoglossref06_Variant.f
  refine Ev.bind (rClass_ev s hs) ?_
  unfold varB
  have e0 : clsL (bytesOf s) = clsS s := rfl
  rw [e0]
  by_cases h0 : clsS s = 0
  · refine Ev.ite_pos h0 (Ev.res (Ev.now _) ?_)
    rw [h0]; rfl
  · refine Ev.ite_neg h0 ?_
    have e1 : (clsS s != 0) = true := bne_iff_ne.2 h0
    rw [e1, Bool.true_and]
    refine Ev.const ?_
    unfold longB digB
    by_cases h5 : (s.size : Int) ≥ 5
    · rw [if_pos h5]
      by_cases h8 : (s.size : Int) ≤ 8
      · rw [if_pos h8]; simp [h5, h8]
      · rw [if_neg h8, if_neg (by omega)]
        have : ((s.size : Int) == 4) = false := beq_eq_false_iff_ne.2 (by omega)
        rw [this]; simp [h8]
    · rw [if_neg h5]
      by_cases h4 : (s.size : Int) = 4
      · rw [if_pos h4, if_pos (by omega), h4]
        by_cases g : bt s 0 ≥ 48
        · rw [if_pos g]; simp [g]
        · rw [if_neg g]; simp [g]
      · rw [if_neg h4]
        have : ((s.size : Int) == 4) = false := beq_eq_false_iff_ne.2 h4
        rw [this]; simp [h5]
theorem rword_ev (a b : Int) : Ev (fun k => isoglossref12_word.f k s a b) (wordB s a b) := by
  unfold isoglossref12_word.f
  refine Ev.bind (rClass_ev s hs) ?_
  refine Ev.res (Ev.ifp (Ev.ifp (Ev.now _))) ?_
  unfold wordB longB
  congr 1
  have := cls_four (bytesOf s)
  rw [Bool.eq_iff_iff]; simp [clsS]; omega
end

section
variable (k : Int) (a b l s r : ByteArray) (ha : a.size ≤ 140737488351232) (hb : b.size ≤ 140737488351232) (hl : l.size ≤ 140737488351232) (hs : s.size ≤ 140737488351232) (hr : r.size ≤ 140737488351232)
include hl hs hr in
theorem rtarget_ev : Ev (fun n => isoglossref12_target.f n k a b l s r) (targB l s r) := by
  unfold isoglossref12_target.f
  refine Ev.bind (rlang_ev l hl) ?_
  unfold targB
  refine Ev.res (Ev.empE s (Ev.empE r (Ev.guardB (langB l) (Ev.now true)) (Ev.bind (rreg_ev r hr) (Ev.guardB (langB l) (Ev.now _)))) (Ev.bind (rscr_ev s hs) (Ev.empE r (Ev.guardB (langB l) (Ev.guardB (scrB s) (Ev.now true))) (Ev.bind (rreg_ev r hr) (Ev.guardB (langB l) (Ev.guardB (scrB s) (Ev.now _))))))) ?_
  cases empB s <;> cases empB r <;> simp
include ha hb hl hs hr in
theorem rright_tail (x0 x1 x2 x3 x4 : ByteArray) : Ev (fun n => isoglossref12_Right.l0 n 5 k a b l s r x0 x1 x2 x3 x4) (rightM k a b l s r) := by
  refine Ev.step (fun n => by unfold isoglossref12_Right.l0; rfl) ?_
  refine Ev.ite_neg (by decide) ?_
  refine Ev.bind (rtarget_ev k a b l s r hl hs hr) ?_
  unfold rightM
  by_cases h1 : k = 1
  · rw [if_pos h1]; refine Ev.ite_pos h1 ?_
    refine Ev.bind (rword_ev a ha 2 2) ?_
    have e : (numB a && (empB b && targB l s r)) = (wordB a 2 2 && (decide (clsS a = 2) && (decide (valI a < 26) && (empB b && targB l s r)))) := by
      unfold numB wordB longB
      have := cls_four (bytesOf a)
      rw [Bool.eq_iff_iff]; simp [clsS]
      constructor
      · rintro ⟨⟨h1, h2, h3⟩, h4⟩; refine ⟨⟨by omega, by omega, by omega⟩, decide_eq_true h1, h3, h4⟩
      · rintro ⟨⟨h1, h2, h3⟩, h4, h5, h6⟩; exact ⟨⟨of_decide_eq_true h4, by omega, h5⟩, h6⟩
    rw [e]
    cases hw : wordB a 2 2 with
    | false => exact Ev.ite_neg (by decide) (Ev.now _)
    | true =>
      have h2 : (a.size : Int) = 2 := by
        unfold wordB longB at hw; simp at hw; omega
      refine Ev.ite_pos rfl ?_
      rw [Bool.true_and]
      refine Ev.bind (rClass_ev a ha) ?_
      refine Ev.ifp ?_
      refine Ev.ite_pos (by omega) ?_
      refine Ev.ite_pos (by omega) ?_
      refine Ev.bind_c List_eq ?_
      rw [starL_length]
      exact Ev.ifp (Ev.emp b (Ev.now _))
  rw [if_neg h1]; refine Ev.ite_neg h1 ?_
  by_cases h2 : k = 2
  · rw [if_pos h2]; refine Ev.ite_pos h2 ?_
    refine Ev.bind (rlang_ev a ha) ?_
    refine Ev.bind (rreg_ev b hb) ?_
    exact Ev.guardB _ (Ev.guardB _ (Ev.andB (rlang_ev l hl) (Ev.emp s (Ev.now _))))
  rw [if_neg h2]; refine Ev.ite_neg h2 ?_
  by_cases h3 : k = 3
  · rw [if_pos h3]; refine Ev.ite_pos h3 ?_
    exact Ev.andB (rlang_ev a ha) (Ev.emp b (Ev.now _))
  rw [if_neg h3]; refine Ev.ite_neg h3 ?_
  by_cases h4 : k = 4
  · rw [if_pos h4]; refine Ev.ite_pos h4 ?_
    refine Ev.res (Ev.andB (rscr_ev a ha) (Ev.emp b (Ev.emp l (Ev.andB (rscr_ev s hs) (Ev.now _))))) ?_
    show (scrB a && (empB b && (empB l && (scrB s && empB r)))) = _
    cases scrB s <;> simp
  rw [if_neg h4]; refine Ev.ite_neg h4 ?_
  by_cases h5 : k = 5
  · rw [if_pos h5]; refine Ev.ite_pos h5 ?_
    refine Ev.res (Ev.andB (rreg_ev a ha) (Ev.emp b (Ev.emp l (Ev.emp s (Ev.tail (rreg_ev r hr)))))) ?_
    cases regB r <;> simp
  rw [if_neg h5]; refine Ev.ite_neg h5 ?_
  by_cases h6 : k = 6
  · rw [if_pos h6]; refine Ev.ite_pos h6 ?_
    refine Ev.res (Ev.andB (rvar_ev a ha) (Ev.emp b (Ev.empE l (Ev.emp s (Ev.now _)) (Ev.andB (rvar_ev l hl) (Ev.emp s (Ev.now _)))))) ?_
    show (varB a && (empB b && (if empB l = true then (empB s && empB r) else (varB l && (empB s && empB r))))) = _
    cases empB l <;> cases varB l <;> simp
  rw [if_neg h6]; refine Ev.ite_neg h6 ?_
  by_cases h7 : k = 7
  · rw [if_pos h7]; refine Ev.ite_pos h7 ?_
    refine Ev.bind (rword_ev a ha 2 2) ?_
    refine Ev.bind (rword_ev b hb 3 8) ?_
    refine Ev.bind (rword_ev l hl 3 8) ?_
    exact Ev.guardB _ (Ev.guardB _ (Ev.guardB _ (Ev.emp s (Ev.now _))))
  rw [if_neg h7]; exact Ev.ite_neg h7 (Ev.now _)
theorem low_round {x : ByteArray} (hx : x.size ≤ 140737488351232) {g : Nat → Option Bool} {d : Bool} (h : Ev g d) : Ev (fun n => (isoglossref02_Lower.f n x).bind fun t => if x.toList = t.toList then g n else some false) (lowB x && d) := by
  refine Ev.bind (rLower_ev x hx) ?_
  exact Ev.ifp h
include ha hb hl hs hr in
theorem rRight_ev : Ev (fun n => isoglossref12_Right.f n k a b l s r) (rightB k a b l s r) := by
  have w0 : wrap64 ((0 : Int) + 1) = 1 := by unfold wrap64; omega
  have w1 : wrap64 ((1 : Int) + 1) = 2 := by unfold wrap64; omega
  have w2 : wrap64 ((2 : Int) + 1) = 3 := by unfold wrap64; omega
  have w3 : wrap64 ((3 : Int) + 1) = 4 := by unfold wrap64; omega
  have w4 : wrap64 ((4 : Int) + 1) = 5 := by unfold wrap64; omega
  have r5 := rright_tail k a b l s r ha hb hl hs hr a b l s r
  have r4 : Ev (fun n => isoglossref12_Right.l0 n 4 k a b l s r a b l s r) (lowB r && rightM k a b l s r) := by
    refine Ev.step (fun n => by unfold isoglossref12_Right.l0; rfl) ?_
    rw [w4]
    refine Ev.ite_pos (by decide) (Ev.ite_neg (by decide) (Ev.ite_neg (by decide) (Ev.ite_neg (by decide) (Ev.ite_neg (by decide) (Ev.ite_pos rfl ?_)))))
    exact low_round hr r5
  have r3 : Ev (fun n => isoglossref12_Right.l0 n 3 k a b l s r a b l s r) (lowB s && (lowB r && rightM k a b l s r)) := by
    refine Ev.step (fun n => by unfold isoglossref12_Right.l0; rfl) ?_
    rw [w3]
    refine Ev.ite_pos (by decide) (Ev.ite_neg (by decide) (Ev.ite_neg (by decide) (Ev.ite_neg (by decide) (Ev.ite_pos rfl ?_))))
    exact low_round hs r4
  have r2 : Ev (fun n => isoglossref12_Right.l0 n 2 k a b l s r a b l s r) (lowB l && (lowB s && (lowB r && rightM k a b l s r))) := by
    refine Ev.step (fun n => by unfold isoglossref12_Right.l0; rfl) ?_
    rw [w2]
    refine Ev.ite_pos (by decide) (Ev.ite_neg (by decide) (Ev.ite_neg (by decide) (Ev.ite_pos rfl ?_)))
    exact low_round hl r3
  have r1 : Ev (fun n => isoglossref12_Right.l0 n 1 k a b l s r a b l s r) (lowB b && (lowB l && (lowB s && (lowB r && rightM k a b l s r)))) := by
    refine Ev.step (fun n => by unfold isoglossref12_Right.l0; rfl) ?_
    rw [w1]
    refine Ev.ite_pos (by decide) (Ev.ite_neg (by decide) (Ev.ite_pos rfl ?_))
    exact low_round hb r2
  unfold isoglossref12_Right.f
  refine Ev.bind_c (show isoglossref12_texts.f k a b l s r = some (a, b, l, s, r) from rfl) ?_
  have r0 : Ev (fun n => isoglossref12_Right.l0 n 0 k a b l s r a b l s r) (lowB a && (lowB b && (lowB l && (lowB s && (lowB r && rightM k a b l s r))))) := by
    refine Ev.step (fun n => by unfold isoglossref12_Right.l0; rfl) ?_
    rw [w0]
    refine Ev.ite_pos (by decide) (Ev.ite_pos rfl ?_)
    exact low_round ha r1
  refine Ev.res r0 ?_
  unfold rightB allLow
  simp only [Bool.and_assoc]
end

theorem rPut_loop (n : Int) (hn : 0 ≤ n) (hn2 : n ≤ 18446744073709551615) : ∀ (d i : Nat) (l : List Int), 8 - i = d → i ≤ 8 → (∀ x ∈ l, byteI x) → l.length = i →
    Ev (fun k => isoglossref03_Put.l0 k (n / 256 ^ i) 8 (strOfNums l) (i : Int)) (strOfNums (putL (n / 256 ^ i) d ++ l))
  | 0, i, l, hd, hi, hl, hz => by
    obtain rfl : i = 8 := by omega
    refine Ev.step (fun k => by unfold isoglossref03_Put.l0; rfl) ?_
    exact Ev.ite_neg (by decide) (Ev.now _)
  | d + 1, i, l, hd, hi, hl, hz => by
    have hq : 0 ≤ n / 256 ^ i := Int.ediv_nonneg hn (Int.le_of_lt (pow_pos' i))
    have hq2 : n / 256 ^ i ≤ 18446744073709551615 := Int.le_trans (Int.ediv_le_self _ hn) hn2
    have e1 : n / 256 ^ i / 256 = n / 256 ^ (i + 1) := by rw [Int.ediv_ediv_of_nonneg (Int.le_of_lt (pow_pos' i)), Int.pow_succ]
    have ih := rPut_loop n hn hn2 d (i + 1) ((n / 256 ^ i % 256) :: l) (by omega) (by omega) (by
      intro x hx
      rcases List.mem_cons.1 hx with rfl | hx
      · exact mod_byte _
      · exact hl x hx) (by simp [hz])
    refine Ev.step (fun k => by unfold isoglossref03_Put.l0; rfl) ?_
    refine Ev.ite_pos (by omega) (Ev.ite_pos (by omega) ?_)
    refine Ev.name ?_
    refine Ev.ite_pos (by rw [strOfNums_size, strOfNums_size]; simp; omega) ?_
    have e2 : Int.tdiv (n / 256 ^ i) 256 = n / 256 ^ (i + 1) := by rw [Int.tdiv_eq_ediv_of_nonneg hq, e1]
    rw [e2, u64_id (Int.ediv_nonneg hn (Int.le_of_lt (pow_pos' _))) (Int.le_trans (Int.ediv_le_self _ hn) hn2), wrap_next (by omega) (by omega)]
    have hb1 : ∀ x ∈ [n / 256 ^ i % 256], byteI x := by intro x hx; simp at hx; rw [hx]; exact mod_byte _
    have e3 : strOfNums [n / 256 ^ i % 256] ++ strOfNums l = strOfNums ((n / 256 ^ i % 256) :: l) := by
      apply bytesOf_inj
      rw [bytesOf_append, bytesOf_str _ hb1, bytesOf_str _ hl, bytesOf_str]
      · rfl
      · intro x hx
        rcases List.mem_cons.1 hx with rfl | hx
        · exact mod_byte _
        · exact hl x hx
    rw [e3]
    refine Ev.res ih ?_
    congr 1
    have e4 : ∀ (d : Nat) (q : Int), putL q (d + 1) = putL (q / 256) d ++ [q % 256] := by
      intro d
      induction d with
      | zero => intro q; simp [putL]
      | succ d ihd =>
        intro q
        rw [putL, ihd q, putL]
        have : q / 256 ^ (d + 1) = q / 256 / 256 ^ d := by
          rw [Int.ediv_ediv_of_nonneg (by decide), Int.pow_succ, Int.mul_comm]
        rw [this]
        rfl
    rw [e4, e1, List.append_assoc]
    rfl
theorem rPut_ev (n : Int) (hn : 0 ≤ n) (hn2 : n ≤ 18446744073709551615) : Ev (fun k => isoglossref03_Put.f k n 8) (putS n 8) := by
  have := rPut_loop n hn hn2 8 0 [] rfl (by decide) (by simp) rfl
  unfold isoglossref03_Put.f putS
  rw [List.append_nil] at this
  have e : n / 256 ^ 0 = n := by simp
  rw [e] at this
  exact this
theorem packT_range (t : ByteArray) : 0 ≤ (packT t).1 ∧ (packT t).1 ≤ 18446744073709551615 := by
  rw [packT_eq]
  by_cases h : mayL (bytesOf t) = true
  · rw [if_pos h]
    have := padV_range 8 (bytesOf t) (bytesOf_byte t)
    show 0 ≤ padV 8 (bytesOf t) ∧ padV 8 (bytesOf t) ≤ 18446744073709551615
    omega
  · rw [if_neg h]; exact ⟨by decide, by decide⟩
theorem rBytes8_ev (s : ByteArray) : Ev (fun k => isoglossref03_Put.f k (packT (lowS s)).1 8) (bytes8 s) := rPut_ev _ (packT_range _).1 (packT_range _).2
section
variable (k : Int) (a b l s r : ByteArray) (ha : a.size ≤ 140737488351232) (hb : b.size ≤ 140737488351232) (hl : l.size ≤ 140737488351232) (hs : s.size ≤ 140737488351232) (hr : r.size ≤ 140737488351232)
theorem row_round {x : ByteArray} (hx : x.size ≤ 140737488351232) {o : ByteArray} (ho : o.size ≤ 100) {g : Nat → ByteArray → Option ByteArray} {t : ByteArray} (h : Ev (fun n => g n (o ++ bytes8 x)) t) :
    Ev (fun n => (isoglossref03_Pack.f n x).bind fun bt => ((isoglossref03_Put.f n bt.1 8).bind fun t => (if o.size + t.size ≤ 9223372036854775807 then (g n (o ++ t)) else (none)))) t := by
  refine Ev.bind (rPack_ev x hx) ?_
  refine Ev.bind (rBytes8_ev x) ?_
  exact Ev.ite_pos (by rw [bytes8_size]; omega) h
include ha hb hl hs hr in
theorem rRow_ev : Ev (fun n => isoglossref12_Row.f n k a b l s r) (rowS k a b l s r) := by
  have w0 : wrap64 ((0 : Int) + 1) = 1 := by unfold wrap64; omega
  have w1 : wrap64 ((1 : Int) + 1) = 2 := by unfold wrap64; omega
  have w2 : wrap64 ((2 : Int) + 1) = 3 := by unfold wrap64; omega
  have w3 : wrap64 ((3 : Int) + 1) = 4 := by unfold wrap64; omega
  have w4 : wrap64 ((4 : Int) + 1) = 5 := by unfold wrap64; omega
  have r5 : Ev (fun n => isoglossref12_Row.l0 n (rowS k a b l s r) 5 a b l s r) (rowS k a b l s r) := by
    refine Ev.step (fun n => by unfold isoglossref12_Row.l0; rfl) ?_
    exact Ev.ite_neg (by decide) (Ev.now _)
  have r4 : Ev (fun n => isoglossref12_Row.l0 n ((((strOfNums [k % 256] ++ bytes8 a) ++ bytes8 b) ++ bytes8 l) ++ bytes8 s) 4 a b l s r) (rowS k a b l s r) := by
    refine Ev.step (fun n => by unfold isoglossref12_Row.l0; rfl) ?_
    rw [w4]
    refine Ev.ite_pos (by decide) (Ev.ite_neg (by decide) (Ev.ite_neg (by decide) (Ev.ite_neg (by decide) (Ev.ite_neg (by decide) (Ev.ite_pos rfl ?_)))))
    exact row_round hr (by simp only [ByteArray.size_append, bytes8_size, one_size]; decide) (g := fun n o => isoglossref12_Row.l0 n o 5 a b l s r) r5
  have r3 : Ev (fun n => isoglossref12_Row.l0 n (((strOfNums [k % 256] ++ bytes8 a) ++ bytes8 b) ++ bytes8 l) 3 a b l s r) (rowS k a b l s r) := by
    refine Ev.step (fun n => by unfold isoglossref12_Row.l0; rfl) ?_
    rw [w3]
    refine Ev.ite_pos (by decide) (Ev.ite_neg (by decide) (Ev.ite_neg (by decide) (Ev.ite_neg (by decide) (Ev.ite_pos rfl ?_))))
    exact row_round hs (by simp only [ByteArray.size_append, bytes8_size, one_size]; decide) (g := fun n o => isoglossref12_Row.l0 n o 4 a b l s r) r4
  have r2 : Ev (fun n => isoglossref12_Row.l0 n ((strOfNums [k % 256] ++ bytes8 a) ++ bytes8 b) 2 a b l s r) (rowS k a b l s r) := by
    refine Ev.step (fun n => by unfold isoglossref12_Row.l0; rfl) ?_
    rw [w2]
    refine Ev.ite_pos (by decide) (Ev.ite_neg (by decide) (Ev.ite_neg (by decide) (Ev.ite_pos rfl ?_)))
    exact row_round hl (by simp only [ByteArray.size_append, bytes8_size, one_size]; decide) (g := fun n o => isoglossref12_Row.l0 n o 3 a b l s r) r3
  have r1 : Ev (fun n => isoglossref12_Row.l0 n (strOfNums [k % 256] ++ bytes8 a) 1 a b l s r) (rowS k a b l s r) := by
    refine Ev.step (fun n => by unfold isoglossref12_Row.l0; rfl) ?_
    rw [w1]
    refine Ev.ite_pos (by decide) (Ev.ite_neg (by decide) (Ev.ite_pos rfl ?_))
    exact row_round hb (by simp only [ByteArray.size_append, bytes8_size, one_size]; decide) (g := fun n o => isoglossref12_Row.l0 n o 2 a b l s r) r2
  unfold isoglossref12_Row.f
  refine Ev.bind_c (show isoglossref12_texts.f k a b l s r = some (a, b, l, s, r) from rfl) ?_
  refine Ev.step (fun n => by unfold isoglossref12_Row.l0; rfl) ?_
  rw [w0]
  refine Ev.ite_pos (by decide) (Ev.ite_pos rfl ?_)
  exact row_round ha (by rw [one_size]; decide) (g := fun n o => isoglossref12_Row.l0 n o 1 a b l s r) r1
end
end Go.Proofs.YtmbfnbnlajchmaaDoor.Pure
