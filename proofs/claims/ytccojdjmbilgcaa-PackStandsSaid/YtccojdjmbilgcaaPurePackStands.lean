/- The law PackStands, in plain words: bytes of 8 that are put stand as the numbers do; the two halves are put one behind the other. -/
import Derived.Test.YtccojdjmbilgcaaPackEv
import Derived.Test.YtccojdjmbilgcaaP2
namespace Go.Proofs.Ytccojdjmbilgcaa.Pure
open Go.RowKit Go.Proofs.Ytccojdjmbilgcaa.P Go.Proofs.YtccojdjmbilgcaaW.PrintWords Go.Proofs.YtccojdjmbilgcaaW.PrintLast Go.Proofs.YtccojdjmbilgcaaW.PrintMore
open Go.Proofs.Ytccojdjmbilgcaa.Each Go.Proofs.Ytccojdjmbilgcaa.Base Go.Proofs.Ytccojdjmbilgcaa.PackW
set_option linter.unusedVariables false
set_option linter.unusedSimpArgs false

/-- How rows of bytes stand, by Go's word on texts. -/
theorem less_bytes : ∀ (x y : List UInt8), x.length = y.length → Op.bytesLess x y = decide (padV x.length (x.map fun b => (b.toNat : Int)) < padV y.length (y.map fun b => (b.toNat : Int)))
  | [], [], _ => by simp [Op.bytesLess, padV]
  | [], _ :: _, h => by simp at h
  | _ :: _, [], h => by simp at h
  | a :: x, b :: y, h => by
    have hl : x.length = y.length := by simpa using h
    have ih := less_bytes x y hl
    have rb : ∀ z : List UInt8, ∀ v ∈ z.map (fun b => (b.toNat : Int)), byteI v := by
      intro z v hv
      obtain ⟨u, _, rfl⟩ := List.mem_map.1 hv
      have := u.toNat_lt
      unfold byteI; omega
    have hx := padV_range x.length _ (rb x)
    have hy := padV_range y.length _ (rb y)
    rw [hl] at hx
    have L := lead (a.toNat : Int) (b.toNat : Int) (256 ^ y.length) (padV x.length (x.map fun b => (b.toNat : Int))) (padV y.length (y.map fun b => (b.toNat : Int))) (by rw [hl]; exact hx.1) (by rw [hl]; exact hx.2) hy.1 hy.2
    simp only [Op.bytesLess, List.length_cons, List.map_cons, padV]
    rw [ih, Bool.eq_iff_iff, Bool.or_eq_true, decide_eq_true_iff, Bool.and_eq_true, beq_iff_eq, decide_eq_true_iff, decide_eq_true_iff, UInt8.lt_iff_toNat_lt, ← UInt8.toNat_inj]
    rw [show (256 : Int) ^ x.length = 256 ^ y.length by rw [hl], L.1]
    omega
theorem padV_put (n : Int) : ∀ i, padV i (putL n i) = n % 256 ^ i
  | 0 => by simp [padV, Int.emod_one]
  | i + 1 => by
    have p := pow_pos' i
    rw [putL, padV, padV_put n i, Int.pow_succ]
    have e1 := Int.mul_ediv_add_emod n (256 ^ i)
    have e2 := Int.mul_ediv_add_emod (n / 256 ^ i) 256
    have r1 := Int.emod_nonneg n (show (256 : Int) ^ i ≠ 0 by omega)
    have r2 := Int.emod_lt_of_pos n p
    have r3 := mod_byte (n / 256 ^ i)
    unfold byteI at r3
    generalize hq : n / 256 ^ i = q at *
    generalize hr : n % 256 ^ i = r at *
    generalize hm : q % 256 = m at *
    generalize hd : q / 256 = d at *
    have e3 : n = d * (256 ^ i * 256) + (m * 256 ^ i + r) := by
      rw [← e1, ← e2, Int.mul_add, Int.mul_comm (256 ^ i) m, Int.add_assoc, ← Int.mul_assoc, Int.mul_comm (256 ^ i * 256) d]
    have a2 : m * 256 ^ i ≤ 255 * 256 ^ i := Int.mul_le_mul_of_nonneg_right r3.2 (Int.le_of_lt p)
    have a1 : 0 ≤ m * 256 ^ i := Int.mul_nonneg r3.1 (Int.le_of_lt p)
    rw [e3, Int.add_comm (d * (256 ^ i * 256)), Int.add_mul_emod_self_right, Int.emod_eq_of_lt (by omega) (by omega)]
theorem u64_wf {a : Int} (h : (Lit.int .u64 a).wf = true) : 0 ≤ a ∧ a < 256 ^ 8 := by
  have h2 : IntKind.u64.min ≤ a ∧ a ≤ IntKind.u64.max := by simpa [Lit.wf] using h
  have e : (256 : Int) ^ 8 = IntKind.u64.max + 1 := by decide
  have e0 : IntKind.u64.min = 0 := rfl
  omega
theorem putL_split (n : Int) (j : Nat) : ∀ i, putL n (i + j) = putL (n / 256 ^ j) i ++ putL n j
  | 0 => by rw [Nat.zero_add]; rfl
  | i + 1 => by
    rw [show i + 1 + j = (i + j) + 1 by omega, putL, putL_split n j i, putL, Int.ediv_ediv_of_nonneg (Int.le_of_lt (pow_pos' j)), ← Int.pow_add, Nat.add_comm j i]
    rfl
theorem PackStands : isoglosslaw03_PackStands.Pure := by
  intro a b ha hb
  have ha := u64_wf ha
  have hb := u64_wf hb
  have pa : padV 8 (putL a 8) = a := by rw [padV_put, Int.emod_eq_of_lt ha.1 ha.2]
  have pb : padV 8 (putL b 8) = b := by rw [padV_put, Int.emod_eq_of_lt hb.1 hb.2]
  have sz : ∀ n m, (putS n m).data.toList.length = m := fun n m => by rw [data_length, putS_size]
  refine Ev.rounds ?_
  unfold isoglosslaw03_PackStands.f
  refine Ev.bind awake3_ev ?_
  refine Ev.bind (Put_ev a 8 (by decide)) ?_
  refine Ev.bind (Put_ev b 8 (by decide)) ?_
  refine Ev.ite_pos rfl ?_
  refine Ev.ite_pos ?_ ?_
  · rw [beq_iff_eq, toList_data, toList_data, less_bytes _ _ (by rw [sz, sz]), sz, sz]
    have e1 : (putS a 8).data.toList.map (fun b => (b.toNat : Int)) = putL a 8 := putS_bytes a 8
    have e2 : (putS b 8).data.toList.map (fun b => (b.toNat : Int)) = putL b 8 := putS_bytes b 8
    rw [e1, e2, pa, pb]
  refine Ev.ite_pos ?_ ?_
  · rw [toList_beq, putS_bytes, putS_bytes, beq_iff_eq, Bool.eq_iff_iff, decide_eq_true_iff, beq_iff_eq]
    constructor
    · intro h; rw [← pa, ← pb, h]
    · intro h; rw [h]
  refine Ev.bind (Put_ev (a / 4294967296) 4 (by decide)) ?_
  refine Ev.bind (Put_ev a 4 (by decide)) ?_
  refine Ev.ite_pos (by rw [putS_size, putS_size]; decide) ?_
  refine Ev.ite_pos ?_ ?_
  · rw [toList_inj]
    apply bytesOf_inj
    rw [bytesOf_append, putS_bytes, putS_bytes, putS_bytes]
    have e : (4294967296 : Int) = 256 ^ 4 := by decide
    rw [e, ← putL_split a 4 4]
  refine Ev.bind (Put_ev a 0 (by decide)) ?_
  exact Ev.res (Ev.now _) (by rw [beq_iff_eq, toList_nil, putS_bytes]; rfl)
end Go.Proofs.Ytccojdjmbilgcaa.Pure
