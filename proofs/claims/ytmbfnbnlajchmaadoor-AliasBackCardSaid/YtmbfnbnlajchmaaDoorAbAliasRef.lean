/- What the document's Right, Row and Put come to: the same as the program's. -/
import Derived.Test.YtmbfnbnlajchmaaDoorAbAliasEv
import Derived.Test.YtmbfnbnlajchmaaDoorAbP5
import Derived.Test.YtmbfnbnlajchmaaDoorAbP12
import Derived.Test.YtmbfnbnlajchmaaDoorAbP13
import Derived.Test.YtmbfnbnlajchmaaDoorAbP0
import Derived.Test.YtmbfnbnlajchmaaDoorAbP4
import Derived.Test.YtmbfnbnlajchmaaDoorAbP2
import Derived.Test.YtmbfnbnlajchmaaDoorAbTight
import Derived.Test.YtmbfnbnlajchmaaDoorAbAsciiEv
import Derived.Test.YtmbfnbnlajchmaaDoorAbPureFacts
import Derived.Test.YtmbfnbnlajchmaaDoorAbGrandW
namespace Go.Proofs.YtmbfnbnlajchmaaDoor.Pure
open Go.RowKit Go.Proofs.YtmbfnbnlajchmaaDoor.P Go.Proofs.YtmbfnbnlajchmaaDoorW.PrintWords Go.Proofs.YtmbfnbnlajchmaaDoorW.PrintLast Go.Proofs.YtmbfnbnlajchmaaDoorW.PrintMore
open Go.Proofs.YtmbfnbnlajchmaaDoor.Each Go.Proofs.YtmbfnbnlajchmaaDoor.Base Go.Proofs.YtmbfnbnlajchmaaDoor.PackW
set_option linter.unusedVariables false
set_option linter.unusedSimpArgs false

section
variable (s : ByteArray) (hs : s.size ≤ 140737488351232)
include hs
end

section
variable (k : Int) (a b l s r : ByteArray) (ha : a.size ≤ 140737488351232) (hb : b.size ≤ 140737488351232) (hl : l.size ≤ 140737488351232) (hs : s.size ≤ 140737488351232) (hr : r.size ≤ 140737488351232)
end

theorem rPut_loop (n : Int) (hn : 0 ≤ n) (hn2 : n ≤ 18446744073709551615) : ∀ (d i : Nat) (l : List Int), 8 - i = d → i ≤ 8 → (∀ x ∈ l, byteI x) → l.length = i →
    Ev (fun k => isoglossref03_Put.l0 k (n / 256 ^ i) 8 (strOfNums l) (i : Int)) (strOfNums (putL (n / 256 ^ i) d ++ l))
  | 0, i, l, hd, hi, hl, hz => by
    obtain rfl : i = 8 := by omega
    refine Ev.step (fun k => by unfold isoglossref03_Put.l0; rfl) ?_
    exact Ev.ite_neg (by decide) (Ev.now _)
  | d + 1, i, l, hd, hi, hl, hz => by
    have hq : 0 ≤ n / 256 ^ i := Int.ediv_nonneg hn (Int.le_of_lt (pow_pos' i))
    have hq2 : n / 256 ^ i ≤ 18446744073709551615 := Int.le_trans (Int.ediv_le_self _ hn) hn2
    have e1 : n / 256 ^ i / 256 = n / 256 ^ (i + 1) := by rw [Int.ediv_ediv_of_nonneg (Int.le_of_lt (pow_pos' i)), Int.pow_succ]
    have ih := rPut_loop n hn hn2 d (i + 1) ((n / 256 ^ i % 256) :: l) (by omega) (by omega) (by
      intro x hx
      rcases List.mem_cons.1 hx with rfl | hx
      · exact mod_byte _
      · exact hl x hx) (by simp [hz])
    refine Ev.step (fun k => by unfold isoglossref03_Put.l0; rfl) ?_
    refine Ev.ite_pos (by omega) (Ev.ite_pos (by omega) ?_)
    refine Ev.name ?_
    refine Ev.ite_pos (by rw [strOfNums_size, strOfNums_size]; simp; omega) ?_
    have e2 : Int.tdiv (n / 256 ^ i) 256 = n / 256 ^ (i + 1) := by rw [Int.tdiv_eq_ediv_of_nonneg hq, e1]
    rw [e2, u64_id (Int.ediv_nonneg hn (Int.le_of_lt (pow_pos' _))) (Int.le_trans (Int.ediv_le_self _ hn) hn2), wrap_next (by omega) (by omega)]
    have hb1 : ∀ x ∈ [n / 256 ^ i % 256], byteI x := by intro x hx; simp at hx; rw [hx]; exact mod_byte _
    have e3 : strOfNums [n / 256 ^ i % 256] ++ strOfNums l = strOfNums ((n / 256 ^ i % 256) :: l) := by
      apply bytesOf_inj
      rw [bytesOf_append, bytesOf_str _ hb1, bytesOf_str _ hl, bytesOf_str]
      · rfl
      · intro x hx
        rcases List.mem_cons.1 hx with rfl | hx
        · exact mod_byte _
        · exact hl x hx
    rw [e3]
    refine Ev.res ih ?_
    congr 1
    have e4 : ∀ (d : Nat) (q : Int), putL q (d + 1) = putL (q / 256) d ++ [q % 256] := by
      intro d
      induction d with
      | zero => intro q; simp [putL]
      | succ d ihd =>
        intro q
        rw [putL, ihd q, putL]
        have : q / 256 ^ (d + 1) = q / 256 / 256 ^ d := by
          rw [Int.ediv_ediv_of_nonneg (by decide), Int.pow_succ, Int.mul_comm]
        rw [this]
        rfl
    rw [e4, e1, List.append_assoc]
    rfl
theorem rPut_ev (n : Int) (hn : 0 ≤ n) (hn2 : n ≤ 18446744073709551615) : Ev (fun k => isoglossref03_Put.f k n 8) (putS n 8) := by
  have := rPut_loop n hn hn2 8 0 [] rfl (by decide) (by simp) rfl
  unfold isoglossref03_Put.f putS
  rw [List.append_nil] at this
  have e : n / 256 ^ 0 = n := by simp
  rw [e] at this
  exact this
theorem packT_range (t : ByteArray) : 0 ≤ (packT t).1 ∧ (packT t).1 ≤ 18446744073709551615 := by
  rw [packT_eq]
  by_cases h : mayL (bytesOf t) = true
  · rw [if_pos h]
    have := padV_range 8 (bytesOf t) (bytesOf_byte t)
    show 0 ≤ padV 8 (bytesOf t) ∧ padV 8 (bytesOf t) ≤ 18446744073709551615
    omega
  · rw [if_neg h]; exact ⟨by decide, by decide⟩
theorem rBytes8_ev (s : ByteArray) : Ev (fun k => isoglossref03_Put.f k (packT (lowS s)).1 8) (bytes8 s) := rPut_ev _ (packT_range _).1 (packT_range _).2
section
variable (k : Int) (a b l s r : ByteArray) (ha : a.size ≤ 140737488351232) (hb : b.size ≤ 140737488351232) (hl : l.size ≤ 140737488351232) (hs : s.size ≤ 140737488351232) (hr : r.size ≤ 140737488351232)
theorem row_round {x : ByteArray} (hx : x.size ≤ 140737488351232) {o : ByteArray} (ho : o.size ≤ 100) {g : Nat → ByteArray → Option ByteArray} {t : ByteArray} (h : Ev (fun n => g n (o ++ bytes8 x)) t) :
    Ev (fun n => (isoglossref03_Pack.f n x).bind fun bt => ((isoglossref03_Put.f n bt.1 8).bind fun t => (if o.size + t.size ≤ 9223372036854775807 then (g n (o ++ t)) else (none)))) t := by
  refine Ev.bind (rPack_ev x hx) ?_
  refine Ev.bind (rBytes8_ev x) ?_
  exact Ev.ite_pos (by rw [bytes8_size]; omega) h
include ha hb hl hs hr in
theorem rRow_ev : Ev (fun n => isoglossref12_Row.f n k a b l s r) (rowS k a b l s r) := by
  have w0 : wrap64 ((0 : Int) + 1) = 1 := by unfold wrap64; omega
  have w1 : wrap64 ((1 : Int) + 1) = 2 := by unfold wrap64; omega
  have w2 : wrap64 ((2 : Int) + 1) = 3 := by unfold wrap64; omega
  have w3 : wrap64 ((3 : Int) + 1) = 4 := by unfold wrap64; omega
  have w4 : wrap64 ((4 : Int) + 1) = 5 := by unfold wrap64; omega
  have r5 : Ev (fun n => isoglossref12_Row.l0 n (rowS k a b l s r) 5 a b l s r) (rowS k a b l s r) := by
    refine Ev.step (fun n => by unfold isoglossref12_Row.l0; rfl) ?_
    exact Ev.ite_neg (by decide) (Ev.now _)
  have r4 : Ev (fun n => isoglossref12_Row.l0 n ((((strOfNums [k % 256] ++ bytes8 a) ++ bytes8 b) ++ bytes8 l) ++ bytes8 s) 4 a b l s r) (rowS k a b l s r) := by
    refine Ev.step (fun n => by unfold isoglossref12_Row.l0; rfl) ?_
    rw [w4]
    refine Ev.ite_pos (by decide) (Ev.ite_neg (by decide) (Ev.ite_neg (by decide) (Ev.ite_neg (by decide) (Ev.ite_neg (by decide) (Ev.ite_pos rfl ?_)))))
    exact row_round hr (by simp only [ByteArray.size_append, bytes8_size, one_size]; decide) (g := fun n o => isoglossref12_Row.l0 n o 5 a b l s r) r5
  have r3 : Ev (fun n => isoglossref12_Row.l0 n (((strOfNums [k % 256] ++ bytes8 a) ++ bytes8 b) ++ bytes8 l) 3 a b l s r) (rowS k a b l s r) := by
    refine Ev.step (fun n => by unfold isoglossref12_Row.l0; rfl) ?_
    rw [w3]
    refine Ev.ite_pos (by decide) (Ev.ite_neg (by decide) (Ev.ite_neg (by decide) (Ev.ite_neg (by decide) (Ev.ite_pos rfl ?_))))
    exact row_round hs (by simp only [ByteArray.size_append, bytes8_size, one_size]; decide) (g := fun n o => isoglossref12_Row.l0 n o 4 a b l s r) r4
  have r2 : Ev (fun n => isoglossref12_Row.l0 n ((strOfNums [k % 256] ++ bytes8 a) ++ bytes8 b) 2 a b l s r) (rowS k a b l s r) := by
    refine Ev.step (fun n => by unfold isoglossref12_Row.l0; rfl) ?_
    rw [w2]
    refine Ev.ite_pos (by decide) (Ev.ite_neg (by decide) (Ev.ite_neg (by decide) (Ev.ite_pos rfl ?_)))
    exact row_round hl (by simp only [ByteArray.size_append, bytes8_size, one_size]; decide) (g := fun n o => isoglossref12_Row.l0 n o 3 a b l s r) r3
  have r1 : Ev (fun n => isoglossref12_Row.l0 n (strOfNums [k % 256] ++ bytes8 a) 1 a b l s r) (rowS k a b l s r) := by
    refine Ev.step (fun n => by unfold isoglossref12_Row.l0; rfl) ?_
    rw [w1]
    refine Ev.ite_pos (by decide) (Ev.ite_neg (by decide) (Ev.ite_pos rfl ?_))
    exact row_round hb (by simp only [ByteArray.size_append, bytes8_size, one_size]; decide) (g := fun n o => isoglossref12_Row.l0 n o 2 a b l s r) r2
  unfold isoglossref12_Row.f
  refine Ev.bind_c (show isoglossref12_texts.f k a b l s r = some (a, b, l, s, r) from rfl) ?_
  refine Ev.step (fun n => by unfold isoglossref12_Row.l0; rfl) ?_
  rw [w0]
  refine Ev.ite_pos (by decide) (Ev.ite_pos rfl ?_)
  exact row_round ha (by rw [one_size]; decide) (g := fun n o => isoglossref12_Row.l0 n o 1 a b l s r) r1
end
end Go.Proofs.YtmbfnbnlajchmaaDoor.Pure
