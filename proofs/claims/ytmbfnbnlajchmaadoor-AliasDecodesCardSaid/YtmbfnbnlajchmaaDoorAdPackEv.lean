/- What the pack package's printed functions, and the document's answers for it, come to: plain functions on numbers and lists of numbers. -/
import Derived.Test.YtmbfnbnlajchmaaDoorAdPureFacts
import Derived.Test.YtmbfnbnlajchmaaDoorAdP11
import Derived.Test.YtmbfnbnlajchmaaDoorAdP24
namespace Go.Proofs.YtmbfnbnlajchmaaDoor.Pure
open Go.RowKit Go.Proofs.YtmbfnbnlajchmaaDoor.P Go.Proofs.YtmbfnbnlajchmaaDoorW.PrintWords Go.Proofs.YtmbfnbnlajchmaaDoorW.PrintLast Go.Proofs.YtmbfnbnlajchmaaDoorW.PrintMore
open Go.Proofs.YtmbfnbnlajchmaaDoor.Each Go.Proofs.YtmbfnbnlajchmaaDoor.Base Go.Proofs.YtmbfnbnlajchmaaDoor.PackW
set_option linter.unusedVariables false
set_option linter.unusedSimpArgs false

def putL (n : Int) : Nat → List Int
  | 0 => []
  | i + 1 => (n / 256 ^ i % 256) :: putL n i
theorem putL_length (n : Int) : ∀ i, (putL n i).length = i
  | 0 => rfl
  | i + 1 => by rw [putL, List.length_cons, putL_length n i]
theorem mod_byte (x : Int) : byteI (x % 256) := by unfold byteI; omega
theorem putL_byte (n : Int) : ∀ i, ∀ x ∈ putL n i, byteI x
  | 0, x, h => by simp [putL] at h
  | i + 1, x, h => by
    rw [putL] at h
    rcases List.mem_cons.1 h with rfl | h
    · exact mod_byte _
    · exact putL_byte n i x h
def putS (n : Int) (m : Nat) : ByteArray := strOfNums (putL n m)
theorem putS_bytes (n : Int) (m : Nat) : bytesOf (putS n m) = putL n m := bytesOf_str _ (putL_byte n m)
theorem putS_size (n : Int) (m : Nat) : (putS n m).size = m := by rw [size_bytesOf, putS_bytes, putL_length]
theorem shr_byte (n : Int) (i : Nat) (hi : i < 8) : shr .u64 n (8 * (i : Int)) = n / 256 ^ i := by
  unfold shr
  have e : min (8 * (i : Int)).toNat IntKind.u64.bits = 8 * i := by
    have : IntKind.u64.bits = 64 := rfl
    rw [this]; omega
  rw [e, Int.pow_mul]
  rfl
theorem set_mid (a : Nat) (b : Int) (l : List Int) : (List.replicate (a + 1) (0 : Int) ++ l).set a b = List.replicate a 0 ++ b :: l := by
  induction a with
  | zero => rfl
  | succ a ih =>
    rw [List.replicate_succ (n := a + 1), List.cons_append, List.set_cons_succ, ih, List.replicate_succ, List.cons_append]
theorem Put_loop (n : Int) (m : Nat) (hm : m ≤ 8) : ∀ (d i : Nat), m - i = d → i ≤ m →
    Ev (fun k => pack_Put.l0 k n (m : Int) (List.replicate (m - i) 0 ++ putL n i) (m : Int) (i : Int)) (putS n m)
  | 0, i, hd, hi => by
    obtain rfl : i = m := by omega
    refine Ev.step (fun k => by unfold pack_Put.l0; rfl) ?_
    refine Ev.ite_neg (by omega) ?_
    rw [Nat.sub_self, List.replicate_zero, List.nil_append]
    exact Ev.now _
  | d + 1, i, hd, hi => by
    have ih := Put_loop n m hm d (i + 1) (by omega) (by omega)
    have w8 : wrap64 (8 * (i : Int)) = 8 * (i : Int) := by unfold wrap64; omega
    have wm : wrap64 ((m : Int) - 1) = (m : Int) - 1 := by unfold wrap64; omega
    have wi : wrap64 ((m : Int) - 1 - i) = ((m - i - 1 : Nat) : Int) := by unfold wrap64; omega
    refine Ev.step (fun k => by unfold pack_Put.l0; rfl) ?_
    rw [w8, wm, wi, wrap_next (by omega) (by omega), shr_byte n i (by omega)]
    refine Ev.ite_pos (by omega) ?_
    refine Ev.ite_pos (by omega) ?_
    refine Ev.ite_pos (by omega) ?_
    refine Ev.ite_pos (by rw [List.length_append, List.length_replicate, putL_length]; omega) ?_
    have e : (List.replicate (m - i) (0 : Int) ++ putL n i).set (((m - i - 1 : Nat) : Int)).toNat (n / 256 ^ i % 256) = List.replicate (m - (i + 1)) 0 ++ putL n (i + 1) := by
      obtain ⟨a, ha⟩ : ∃ a, m - i = a + 1 := ⟨m - i - 1, by omega⟩
      rw [Int.toNat_natCast, show m - i - 1 = a by omega, ha, set_mid, show m - (i + 1) = a by omega, putL]
    rw [e]
    exact ih
theorem Put_ev (n : Int) (m : Nat) (hm : m ≤ 8) : Ev (fun k => pack_Put.f k n (m : Int)) (putS n m) := by
  have e : mx 0 (mn (m : Int) 8) = (m : Int) := by unfold mx mn; split <;> split <;> omega
  unfold pack_Put.f
  rw [e]
  refine Ev.ite_pos (by omega) ?_
  refine Ev.ite_pos (by omega) ?_
  have := Put_loop n m hm _ 0 rfl (by omega)
  rw [putL, List.append_nil] at this
  exact this

def padV : Nat → List Int → Int
  | 0, _ => 0
  | n + 1, [] => padV n []
  | n + 1, c :: l => c * 256 ^ n + padV n l
theorem pow_pos' (n : Nat) : (0 : Int) < 256 ^ n := Int.pow_pos (by decide)
theorem padV_nil : ∀ n, padV n [] = 0
  | 0 => rfl
  | n + 1 => by rw [padV]; exact padV_nil n
theorem padV_range : ∀ (n : Nat) (l : List Int), (∀ x ∈ l, byteI x) → 0 ≤ padV n l ∧ padV n l < 256 ^ n
  | 0, l, _ => by simp [padV]
  | n + 1, [], _ => by rw [padV_nil]; exact ⟨Int.le_refl _, pow_pos' _⟩
  | n + 1, c :: l, h => by
    obtain ⟨h0, h1⟩ := padV_range n l (fun x hx => h x (List.mem_cons_of_mem _ hx))
    obtain ⟨c0, c1⟩ := h c (List.mem_cons_self ..)
    have p := pow_pos' n
    rw [padV, Int.pow_succ]
    have a1 : 0 ≤ c * 256 ^ n := Int.mul_nonneg c0 (Int.le_of_lt p)
    have a2 : c * 256 ^ n ≤ 255 * 256 ^ n := Int.mul_le_mul_of_nonneg_right c1 (Int.le_of_lt p)
    omega
theorem bt_beyond (t : ByteArray) (k : Nat) (h : t.size ≤ k) : bt t (k : Int) = 0 := by
  unfold bt
  rw [dif_neg (by simpa using h)]
theorem packN_pad (t : ByteArray) : ∀ (n k : Nat), packN t (k + n) = packN t k * 256 ^ n + padV n ((bytesOf t).drop k)
  | 0, k => by simp [padV]
  | n + 1, k => by
    have ih := packN_pad t n (k + 1)
    have e : padV (n + 1) ((bytesOf t).drop k) = bt t (k : Int) * 256 ^ n + padV n ((bytesOf t).drop (k + 1)) := by
      by_cases h : k < t.size
      · rw [drop_at t k h, padV]
      · rw [bt_beyond t k (by omega), List.drop_of_length_le (by rw [bytesOf_length]; omega), List.drop_of_length_le (by rw [bytesOf_length]; omega), padV_nil, padV_nil]; omega
    rw [e, show k + (n + 1) = k + 1 + n by omega, ih, packN, Int.pow_succ, Int.add_mul, Int.mul_assoc, Int.mul_comm 256, Int.add_assoc]
theorem packN_eight (t : ByteArray) : packN t 8 = padV 8 (bytesOf t) := by
  have := packN_pad t 8 0
  rw [Nat.zero_add, packN, Int.zero_mul, Int.zero_add, List.drop_zero] at this
  exact this

def mayL (l : List Int) : Bool := l.all mayI && decide (l.length ≤ 8)
theorem packT_eq (t : ByteArray) : packT t = if mayL (bytesOf t) = true then (padV 8 (bytesOf t), true) else (0, false) := by
  unfold packT mayL
  have h : (t.size ≤ 8 ∧ ∀ j, j < t.size → mayI (bt t (j : Nat)) = true) ↔ ((bytesOf t).all mayI && decide ((bytesOf t).length ≤ 8)) = true := by
    rw [Bool.and_eq_true, decide_eq_true_iff, bytesOf_length, List.all_eq_true]
    constructor
    · rintro ⟨h1, h2⟩
      refine ⟨fun x hx => ?_, h1⟩
      obtain ⟨i, hi, rfl⟩ := List.getElem_of_mem hx
      rw [← bt_get t i _ (List.getElem?_eq_getElem hi)]
      exact h2 i (by rwa [bytesOf_length] at hi)
    · rintro ⟨h1, h2⟩
      refine ⟨h2, fun j hj => ?_⟩
      have hl : j < (bytesOf t).length := by rw [bytesOf_length]; exact hj
      rw [bt_get t j _ (List.getElem?_eq_getElem hl)]
      exact h1 _ (List.getElem_mem hl)
  by_cases h1 : t.size ≤ 8 ∧ ∀ j, j < t.size → mayI (bt t (j : Nat)) = true
  · rw [if_pos h1, if_pos (h.1 h1), packN_eight]
  · rw [if_neg h1, if_neg (fun z => h1 (h.2 z))]
theorem may_range {c : Int} (h : mayI c = true) : 33 ≤ c ∧ c ≤ 122 := by
  unfold mayI at h
  rw [decide_eq_true_iff] at h
  omega
theorem may_low {c : Int} (h : mayI c = true) : lowI c = c := by
  unfold mayI at h
  rw [decide_eq_true_iff] at h
  unfold lowI
  rw [if_neg (by omega)]
theorem Pack_eq (s : ByteArray) (hs : s.size ≤ 140737488351232) : pack_Pack.f s = some (packT (lowS s)) := by unfold pack_Pack.f; rw [if_pos hs]; rfl
theorem mayL_all {l : List Int} (h : mayL l = true) : (∀ x ∈ l, mayI x = true) ∧ l.length ≤ 8 := by
  unfold mayL at h
  rw [Bool.and_eq_true, decide_eq_true_iff, List.all_eq_true] at h
  exact h
theorem mayL_one {l : List Int} (h : mayL l = true) : ∀ x ∈ l, 1 ≤ x ∧ x ≤ 255 := fun x hx => by
  have := may_range ((mayL_all h).1 x hx)
  omega

theorem put_pad : ∀ (n : Nat) (l : List Int) (q : Int), l.length ≤ n → (∀ x ∈ l, byteI x) → putL (q * 256 ^ n + padV n l) n = l ++ List.replicate (n - l.length) 0
  | 0, [], q, _, _ => by simp [putL]
  | 0, _ :: _, _, h, _ => by simp at h
  | n + 1, [], q, _, _ => by
    have p := pow_pos' n
    have ih := put_pad n [] (q * 256) (by simp) (by simp)
    have e : q * 256 ^ (n + 1) + padV (n + 1) [] = q * 256 * 256 ^ n + padV n [] := by rw [padV, Int.pow_succ, Int.mul_assoc, Int.mul_comm 256]
    rw [e, putL, ih, padV_nil, Int.add_zero, Int.mul_ediv_cancel _ (by omega), List.nil_append, List.nil_append, List.length_nil, Nat.sub_zero, Nat.sub_zero, List.replicate_succ]
    congr 1
    omega
  | n + 1, c :: l, q, h, hb => by
    have p := pow_pos' n
    obtain ⟨c0, c1⟩ := hb c (List.mem_cons_self ..)
    have hb' : ∀ x ∈ l, byteI x := fun x hx => hb x (List.mem_cons_of_mem _ hx)
    have ih := put_pad n l (q * 256 + c) (by simpa using h) hb'
    have r := padV_range n l hb'
    have e : q * 256 ^ (n + 1) + padV (n + 1) (c :: l) = (q * 256 + c) * 256 ^ n + padV n l := by
      rw [padV, Int.pow_succ, Int.add_mul, Int.mul_assoc, Int.mul_comm 256, Int.add_assoc]
    rw [e, putL, ih, Int.add_comm, Int.add_mul_ediv_right _ _ (by omega), Int.ediv_eq_zero_of_lt r.1 r.2]
    have e2 : (0 + (q * 256 + c)) % 256 = c := by omega
    rw [e2, List.cons_append, List.length_cons, Nat.add_sub_add_right]
theorem put_of_pad (l : List Int) (h : l.length ≤ 8) (hb : ∀ x ∈ l, byteI x) : putL (padV 8 l) 8 = l ++ List.replicate (8 - l.length) 0 := by
  have := put_pad 8 l 0 h hb
  rwa [Int.zero_mul, Int.zero_add] at this
def headN (n : Int) : List Int := (putL n 8).takeWhile fun c => c != 0
theorem headS_put (n : Int) : headS (putS n 8) = strOfNums (headN n) := by unfold headS headN; rw [putS_bytes]
theorem headN_byte (n : Int) : ∀ x ∈ headN n, byteI x := fun x hx => putL_byte n 8 x ((List.takeWhile_subset _) hx)
theorem headN_length (n : Int) : (headN n).length ≤ 8 := by
  have := (List.takeWhile_sublist (l := putL n 8) (fun c => c != 0)).length_le
  rw [putL_length] at this
  exact this
theorem takeWhile_pad : ∀ (l : List Int) (k : Nat), (∀ x ∈ l, 1 ≤ x ∧ x ≤ 255) → (l ++ List.replicate k 0).takeWhile (fun c => c != 0) = l
  | [], 0, _ => rfl
  | [], k + 1, _ => by simp [List.replicate_succ, List.takeWhile]
  | c :: l, k, h => by
    have hc := (h c (List.mem_cons_self ..)).1
    have e : (c != 0) = true := by rw [bne_iff_ne]; omega
    rw [List.cons_append, List.takeWhile_cons, if_pos e, takeWhile_pad l k (fun x hx => h x (List.mem_cons_of_mem _ hx))]
theorem headN_pad (l : List Int) (h : mayL l = true) : headN (padV 8 l) = l := by
  unfold headN
  rw [put_of_pad l (mayL_all h).2 (fun x hx => ⟨by have := (mayL_one h x hx).1; omega, (mayL_one h x hx).2⟩), takeWhile_pad l _ (mayL_one h)]
def unpN (n : Int) : ByteArray × Bool := if mayL (headN n) = true ∧ padV 8 (headN n) = n then (strOfNums (headN n), true) else (⟨#[]⟩, false)
theorem unpT_eq (n : Int) : unpT n (putS n 8) = unpN n := by
  have hb := bytesOf_str _ (headN_byte n)
  unfold unpT
  have e : packT (strOfNums (eachF lowF (headS (putS n 8)))) = packT (lowS (strOfNums (headN n))) := by rw [headS_put]; rfl
  rw [e, headS_put, packT_eq, lowS_bytes, hb]
  unfold unpN
  by_cases h : mayL ((headN n).map lowI) = true
  · rw [if_pos h]
    by_cases h2 : padV 8 ((headN n).map lowI) = n
    · have h3 : headN n = (headN n).map lowI := by
        have := headN_pad _ h
        rw [h2] at this
        exact this
      rw [if_pos ⟨rfl, h2⟩, if_pos]
      rw [← h3] at h h2
      exact ⟨h, h2⟩
    · rw [if_neg (fun z => h2 z.2), if_neg]
      rintro ⟨z1, z2⟩
      apply h2
      have h3 : (headN n).map lowI = headN n := by
        conv => rhs; rw [← List.map_id (headN n)]
        exact List.map_congr_left fun x hx => may_low ((mayL_all z1).1 x hx)
      rw [h3]
      exact z2
  · rw [if_neg h, if_neg (fun z => by simp at z), if_neg]
    rintro ⟨z1, z2⟩
    apply h
    have h3 : (headN n).map lowI = headN n := by
      conv => rhs; rw [← List.map_id (headN n)]
      exact List.map_congr_left fun x hx => may_low ((mayL_all z1).1 x hx)
    rw [h3]
    exact z1
theorem Unpack_ev (n : Int) : Ev (fun k => pack_Unpack.f k n) (unpN n) := by
  unfold pack_Unpack.f
  refine Ev.bind (Put_ev n 8 (by decide)) ?_
  refine Ev.ite_pos (by rw [putS_size]; decide) ?_
  rw [unpT_eq]
  exact Ev.now _

end Go.Proofs.YtmbfnbnlajchmaaDoor.Pure
