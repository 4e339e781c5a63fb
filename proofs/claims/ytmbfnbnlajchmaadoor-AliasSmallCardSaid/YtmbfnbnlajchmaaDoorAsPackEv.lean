/- What the pack package's printed functions, and the document's answers for it, come to: plain functions on numbers and lists of numbers. -/
import Derived.Test.YtmbfnbnlajchmaaDoorAsPureFacts
import Derived.Test.YtmbfnbnlajchmaaDoorAsP11
import Derived.Test.YtmbfnbnlajchmaaDoorAsP0
import Derived.Test.YtmbfnbnlajchmaaDoorAsP10
import Derived.Test.YtmbfnbnlajchmaaDoorAsP5
import Derived.Test.YtmbfnbnlajchmaaDoorAsTight
namespace Go.Proofs.YtmbfnbnlajchmaaDoor.Pure
open Go.RowKit Go.Proofs.YtmbfnbnlajchmaaDoor.P Go.Proofs.YtmbfnbnlajchmaaDoorW.PrintWords Go.Proofs.YtmbfnbnlajchmaaDoorW.PrintLast Go.Proofs.YtmbfnbnlajchmaaDoorW.PrintMore
open Go.Proofs.YtmbfnbnlajchmaaDoor.Each Go.Proofs.YtmbfnbnlajchmaaDoor.Base Go.Proofs.YtmbfnbnlajchmaaDoor.PackW
set_option linter.unusedVariables false
set_option linter.unusedSimpArgs false

def putL (n : Int) : Nat → List Int
  | 0 => []
  | i + 1 => (n / 256 ^ i % 256) :: putL n i
theorem putL_length (n : Int) : ∀ i, (putL n i).length = i
  | 0 => rfl
  | i + 1 => by rw [putL, List.length_cons, putL_length n i]
theorem mod_byte (x : Int) : byteI (x % 256) := by unfold byteI; omega
theorem putL_byte (n : Int) : ∀ i, ∀ x ∈ putL n i, byteI x
  | 0, x, h => by simp [putL] at h
  | i + 1, x, h => by
    rw [putL] at h
    rcases List.mem_cons.1 h with rfl | h
    · exact mod_byte _
    · exact putL_byte n i x h
def putS (n : Int) (m : Nat) : ByteArray := strOfNums (putL n m)
theorem putS_bytes (n : Int) (m : Nat) : bytesOf (putS n m) = putL n m := bytesOf_str _ (putL_byte n m)
theorem putS_size (n : Int) (m : Nat) : (putS n m).size = m := by rw [size_bytesOf, putS_bytes, putL_length]
theorem shr_byte (n : Int) (i : Nat) (hi : i < 8) : shr .u64 n (8 * (i : Int)) = n / 256 ^ i := by
  unfold shr
  have e : min (8 * (i : Int)).toNat IntKind.u64.bits = 8 * i := by
    have : IntKind.u64.bits = 64 := rfl
    rw [this]; omega
  rw [e, Int.pow_mul]
  rfl
theorem set_mid (a : Nat) (b : Int) (l : List Int) : (List.replicate (a + 1) (0 : Int) ++ l).set a b = List.replicate a 0 ++ b :: l := by
  induction a with
  | zero => rfl
  | succ a ih =>
    rw [List.replicate_succ (n := a + 1), List.cons_append, List.set_cons_succ, ih, List.replicate_succ, List.cons_append]
theorem Put_loop (n : Int) (m : Nat) (hm : m ≤ 8) : ∀ (d i : Nat), m - i = d → i ≤ m →
    Ev (fun k => pack_Put.l0 k n (m : Int) (List.replicate (m - i) 0 ++ putL n i) (m : Int) (i : Int)) (putS n m)
  | 0, i, hd, hi => by
    obtain rfl : i = m := by omega
    refine Ev.step (fun k => by unfold pack_Put.l0; rfl) ?_
    refine Ev.ite_neg (by omega) ?_
    rw [Nat.sub_self, List.replicate_zero, List.nil_append]
    exact Ev.now _
  | d + 1, i, hd, hi => by
    have ih := Put_loop n m hm d (i + 1) (by omega) (by omega)
    have w8 : wrap64 (8 * (i : Int)) = 8 * (i : Int) := by unfold wrap64; omega
    have wm : wrap64 ((m : Int) - 1) = (m : Int) - 1 := by unfold wrap64; omega
    have wi : wrap64 ((m : Int) - 1 - i) = ((m - i - 1 : Nat) : Int) := by unfold wrap64; omega
    refine Ev.step (fun k => by unfold pack_Put.l0; rfl) ?_
    rw [w8, wm, wi, wrap_next (by omega) (by omega), shr_byte n i (by omega)]
    refine Ev.ite_pos (by omega) ?_
    refine Ev.ite_pos (by omega) ?_
    refine Ev.ite_pos (by omega) ?_
    refine Ev.ite_pos (by rw [List.length_append, List.length_replicate, putL_length]; omega) ?_
    have e : (List.replicate (m - i) (0 : Int) ++ putL n i).set (((m - i - 1 : Nat) : Int)).toNat (n / 256 ^ i % 256) = List.replicate (m - (i + 1)) 0 ++ putL n (i + 1) := by
      obtain ⟨a, ha⟩ : ∃ a, m - i = a + 1 := ⟨m - i - 1, by omega⟩
      rw [Int.toNat_natCast, show m - i - 1 = a by omega, ha, set_mid, show m - (i + 1) = a by omega, putL]
    rw [e]
    exact ih
theorem Put_ev (n : Int) (m : Nat) (hm : m ≤ 8) : Ev (fun k => pack_Put.f k n (m : Int)) (putS n m) := by
  have e : mx 0 (mn (m : Int) 8) = (m : Int) := by unfold mx mn; split <;> split <;> omega
  unfold pack_Put.f
  rw [e]
  refine Ev.ite_pos (by omega) ?_
  refine Ev.ite_pos (by omega) ?_
  have := Put_loop n m hm _ 0 rfl (by omega)
  rw [putL, List.append_nil] at this
  exact this

def mayL (l : List Int) : Bool := l.all mayI && decide (l.length ≤ 8)
theorem Pack_eq (s : ByteArray) (hs : s.size ≤ 140737488351232) : pack_Pack.f s = some (packT (lowS s)) := by unfold pack_Pack.f; rw [if_pos hs]; rfl
end Go.Proofs.YtmbfnbnlajchmaaDoor.Pure
