/- What pack.Pack computes, whatever the text (to 140737488351232 bytes): the number of its small letters' bytes, or 0 and false. -/
import Derived.Test.YtmbfnbnlajchmaaDoorAdEach
import Derived.Defers
import Derived.Recover
import Derived.Laws.Pointers
import Derived.RegionTactic
import Derived.BigRegion
import Derived.Laws.Bits64
import Derived.WalkSpells
namespace Go.Proofs.YtmbfnbnlajchmaaDoor.PackW
open Go.RowKit Go.Proofs.YtmbfnbnlajchmaaDoorW.PrintWords Go.Proofs.YtmbfnbnlajchmaaDoorW.PrintLast
set_option linter.unusedVariables false
set_option linter.unusedSimpArgs false

theorem clear_true (p q : Addr) (w : World) (hc : w.cell? p = some (.bool true)) :
    CallsD Tryd.prog 107 #[.pointer (some p), .pointer (some q)] .returning w fun e u' w' => u' = .returning ∧ (e = .returned (.tuple #[]) ∧ w' = w) := by
  go_enter_d Tryd.func107, Tryd.ntmps107
  go_wp2
  go_end0
  exact ⟨rfl, rfl⟩
theorem clear_false (p q : Addr) (w : World) (n : Int) (hc : w.cell? p = some (.bool false)) (hq : w.cell? q = some (.int .u64 n)) (hz : w.frozen? q = false) :
    CallsD Tryd.prog 107 #[.pointer (some p), .pointer (some q)] .returning w fun e u' w' => u' = .returning ∧ (e = .returned (.tuple #[]) ∧ w' = w.setCell q (.int .u64 0)) := by
  go_enter_d Tryd.func107, Tryd.ntmps107
  go_wp2
  go_end0
  exact ⟨rfl, rfl⟩

def mayI (c : Int) : Bool := decide ((97 ≤ c ∧ c ≤ 122) ∨ (48 ≤ c ∧ c ≤ 57) ∨ c = 42 ∨ c = 33 ∨ c = 36)
def packN (t : ByteArray) : Nat → Int
  | 0 => 0
  | k + 1 => packN t k * 256 + bt t k
def packT (t : ByteArray) : Int × Bool := if t.size ≤ 8 ∧ ∀ j, j < t.size → mayI (bt t (j : Nat)) = true then (packN t 8, true) else (0, false)

theorem packN_range (t : ByteArray) : ∀ k, 0 ≤ packN t k ∧ packN t k < 256 ^ k
  | 0 => ⟨Int.le_refl _, Int.zero_lt_one⟩
  | k + 1 => by
    obtain ⟨h0, h1⟩ := packN_range t k
    obtain ⟨b0, b1⟩ := bt_range t (k : Int)
    simp only [packN]
    have e : (256 : Int) ^ (k + 1) = 256 ^ k * 256 := Int.pow_succ _ _
    rw [e]
    omega
theorem packN_lim (t : ByteArray) (k : Nat) (hk : k < 8) : packN t k ≤ 72057594037927935 := by
  have h := (packN_range t k).2
  have h2 : (256 : Int) ^ k ≤ 72057594037927936 := by
    match k, hk with
    | 0, _ | 1, _ | 2, _ | 3, _ | 4, _ | 5, _ | 6, _ | 7, _ => decide
  omega

structure PackRel (w : World) (n : Int) (b : Bool) (wr : World) : Prop where
  bel : Below w.heap.size w wr
  lt : w.heap.size + 1 < wr.heap.size
  nb : wr.heap[w.heap.size]? = some (.cells #[.int .u64 n] 90 (0, 0))
  okb : wr.heap[w.heap.size + 1]? = some (.cells #[.bool b] 4 (0, 0))

namespace PackRel
variable {w wr : World} {n : Int} {b : Bool}
theorem cell0 (h : PackRel w n b wr) : wr.cell? ⟨w.heap.size, 0, none⟩ = some (.int .u64 n) := by rw [Go.cell_of_row _ _ _ _ _ _ h.nb]; rfl
theorem free0 (h : PackRel w n b wr) : wr.frozen? ⟨w.heap.size, 0, none⟩ = false := by simp [World.frozen?, h.nb]
theorem cell1 (h : PackRel w n b wr) : wr.cell? ⟨w.heap.size + 1, 0, none⟩ = some (.bool b) := by rw [Go.cell_of_row _ _ _ _ _ _ h.okb]; rfl
theorem free1 (h : PackRel w n b wr) : wr.frozen? ⟨w.heap.size + 1, 0, none⟩ = false := by simp [World.frozen?, h.okb]
theorem set0 (h : PackRel w n b wr) (m : Int) : PackRel w m b (wr.setCell ⟨w.heap.size, 0, none⟩ (.int .u64 m)) where
  bel := h.bel.setCell (Nat.le_refl _) _
  lt := by simpa [World.setCell] using h.lt
  nb := by simpa using blk_set h.nb 0 (.int .u64 m)
  okb := blk_far h.okb (by simp) _
theorem set1 (h : PackRel w n b wr) (c : Bool) : PackRel w n c (wr.setCell ⟨w.heap.size + 1, 0, none⟩ (.bool c)) where
  bel := h.bel.setCell (Nat.le_succ _) _
  lt := by simpa [World.setCell] using h.lt
  nb := blk_far h.nb (by simp) _
  okb := by simpa using blk_set h.okb 0 (.bool c)
theorem drew (h : PackRel w n b wr) : PackRel w n b wr.drew := ⟨below_drew h.bel, h.lt, h.nb, h.okb⟩
theorem start (w : World) : PackRel w 0 false ((w.alloc (.cells #[.int .u64 0] 90)).alloc (.cells #[.bool false] 4)) where
  bel := (((Below.refl _ _).alloc (Nat.le_refl _) _).alloc (by simp) _)
  lt := by simp
  nb := ((below_alloc (Below.refl _ _) _).block w.heap.size (by simp)).trans (heap_alloc_new w _)
  okb := by simpa using heap_alloc_new (w.alloc (.cells #[.int .u64 0] 90)) (.cells #[.bool false] 4)
theorem later (h : PackRel w n b wr) {w1 : World} (hb : Below wr.heap.size wr w1) : PackRel w n b w1 where
  bel := below_then h.bel (Nat.le_trans (by omega) (Nat.le_of_lt h.lt)) hb
  lt := Nat.lt_of_lt_of_le h.lt hb.size
  nb := (hb.block _ (by have := h.lt; omega)).trans h.nb
  okb := (hb.block _ h.lt).trans h.okb
end PackRel

theorem may_any (c : Int) (w : World) (h0 : 0 ≤ c) (h1 : c ≤ 255) :
    Calls Tryd.prog 108 #[.int .u8 c] w fun e w' => e = .returned (.bool (mayI c)) ∧ w = w' := by
  have hv : ∀ b : Bool, (b = true ↔ (97 ≤ c ∧ c ≤ 122) ∨ (48 ≤ c ∧ c ≤ 57) ∨ c = 42 ∨ c = 33 ∨ c = 36) → b = mayI c := by
    intro b hb
    unfold mayI
    rw [Bool.eq_iff_iff, hb, decide_eq_true_iff]
  have HV := Aside0.mk hv
  clear hv
  rcases (show c = 42 ∨ c = 33 ∨ c = 36 ∨ (¬ c = 42 ∧ ¬ c = 33 ∧ ¬ c = 36) by omega) with h | h | h | ⟨n1, n2, n3⟩
  · subst h
    go_enter Tryd.func108, Tryd.ntmps108
    go_wp2
    go_ret
    exact ⟨rfl, rfl⟩
  · subst h
    go_enter Tryd.func108, Tryd.ntmps108
    go_wp2
    go_ret
    exact ⟨rfl, rfl⟩
  · subst h
    go_enter Tryd.func108, Tryd.ntmps108
    go_wp2
    go_ret
    exact ⟨rfl, rfl⟩
  · have m1 : (c == 42) = false := by simpa using n1
    have m2 : (c == 33) = false := by simpa using n2
    have m3 : (c == 36) = false := by simpa using n3
    rcases (show c < 48 ∨ (48 ≤ c ∧ c ≤ 57) ∨ (57 < c ∧ c < 97) ∨ (97 ≤ c ∧ c ≤ 122) ∨ 122 < c by omega) with h | ⟨h, h'⟩ | ⟨h, h'⟩ | ⟨h, h'⟩ | h
    all_goals
      go_enter Tryd.func108, Tryd.ntmps108
      go_wp2
      go_ret
      refine ⟨?_, rfl⟩
      first
        | (rw [← HV.out true (by simp; omega)]; first | rfl | (simp; omega))
        | (rw [← HV.out false (by simp; omega)]; first | rfl | (simp; omega))

theorem wraps_u64 (m : Int) (m0 : 0 ≤ m) (m1 : m < 2 ^ 64) : IntKind.u64.wrap m = m := by
  rw [IntKind.wrap_u64]
  exact Int.emod_eq_of_lt m0 m1
theorem or_byte (n c : Int) (h0 : 0 ≤ n) (h1 : n ≤ 72057594037927935) (c0 : 0 ≤ c) (c1 : c ≤ 255) : bits .or .u64 (n * 256) c = n * 256 + c := by
  have e8 : (2 : Int) ^ 8 = 256 := by decide
  have e64 : (2 : Int) ^ 64 = 18446744073709551616 := by decide
  have x0 : 0 ≤ n * 256 := by omega
  have x1 : n * 256 % 2 ^ 8 = 0 := by rw [e8]; omega
  have x2 : n * 256 < 2 ^ 64 := by rw [e64]; omega
  have y1 : c < 2 ^ 8 := by rw [e8]; omega
  have y2 : c < 2 ^ 64 := by rw [e64]; omega
  exact bits_join .u64 64 (Nat.le_refl _) wraps_u64 8 (n * 256) c x0 x1 x2 c0 y1 y2
set_option maxHeartbeats 1600000 in
theorem pack_any (s : ByteArray) (w : World) (hs : s.size ≤ 140737488351232) (r : Int × Bool) (hr : r = packT (strOfNums (Each.eachF Each.lowF s))) :
    Calls Tryd.prog 67 #[.string s] w fun e w' => e = .returned (.tuple #[.int .u64 r.1, .bool r.2]) ∧ Below w.heap.size w w' := by
  have hmf : ∀ (fn : Fn) (first cap : Array Value) (w : World), (Instr.makeFunc fn first cap).run Tryd.prog w = .ok (.func fn first cap) w := fun _ _ _ _ => rfl
  obtain ⟨t, ht⟩ : ∃ t, strOfNums (Each.eachF Each.lowF s) = t := ⟨_, rfl⟩
  have hts : t.size = s.size := by rw [← ht, strOfNums_size]; simp [Each.eachF]
  have HL := Each.case_low s
  rw [ht] at HL hr
  clear ht
  have HR := Aside0.mk hr
  have HT := Aside0.mk hts
  have HS0 := PackRel.start w
  have HS := Aside0.mk HS0
  clear hr hts HS0
  by_cases hl : 8 < s.size
  · go_enter_defers Tryd.func67, Tryd.ntmps67
    go_wp2
    refine leaves_cons (f := 107) (args := #[.pointer (some ⟨w.heap.size + 1, 0, none⟩), .pointer (some ⟨w.heap.size, 0, none⟩)]) (by simp) (by simp [go_sem]) ?_
    refine (clear_false _ _ _ 0 (by simp [go_sem]) (by simp [go_sem]) (by simp [go_sem])).mono ?_
    rintro e u' w'' ⟨rfl, rfl, rfl⟩
    simp [Leaves, settle, results, Tryd.results67, go_sem]
    have e : packT t = (0, false) := by unfold packT; rw [if_neg (fun h => by have := h.1; have := HT.out; omega)]
    rw [HR.out, e]
    exact ⟨⟨rfl, rfl⟩, (((Below.refl _ _).alloc (Nat.le_refl _) _).alloc (by simp) _)⟩
  · have hs8 : s.size ≤ 8 := by omega
    go_enter_defers Tryd.func67, Tryd.ntmps67
    go_wp2_with (go_at_call 65; refine (HL _ hs).mono ?_; rintro e w1 ⟨rfl, hb⟩)
    have HB : Aside0 (PackRel w 0 false w1) := ⟨HS.out.later hb⟩
    clear hb HL HS
    go_loopw [12] (fun i wr => ∃ k : Nat, i = .int .i64 k ∧ k ≤ 8 ∧ Aside0 (∀ j, j < k → j < t.size → mayI (bt t (j : Nat)) = true) ∧ Aside0 (PackRel w (packN t k) false wr)) (fun i _ => 8 - (intOf i).toNat)
    case atStart => exact ⟨0, rfl, Nat.zero_le _, ⟨fun j hj => absurd hj (Nat.not_lt_zero _)⟩, HB⟩
    case round =>
      clear HB
      obtain ⟨k, rfl, hk8, HM, hR⟩ := hrel
      by_cases hk : k < 8
      · have hn0 := (packN_range t k).1
        have hn1 := packN_lim t k hk
        have hn := hR.out.cell0
        have hz := hR.out.free0
        have ho := hR.out.cell1
        have hoz := hR.out.free1
        obtain ⟨n, hnn⟩ : ∃ n, packN t k = n := ⟨_, rfl⟩
        have hNN := Aside0.mk hnn
        rw [hnn] at hn0 hn1 hn hR
        clear hnn
        by_cases hlt : k < t.size
        · have hbt : ((t[k]'hlt).toNat : Int) = bt t k := by simpa using bt_at t (k : Int) (by simpa using hlt)
          obtain ⟨hb0, hb1⟩ := bt_range t (k : Int)
          obtain ⟨c, hc⟩ : ∃ c, bt t (k : Int) = c := ⟨_, rfl⟩
          have hC := Aside0.mk hc
          rw [hc] at hbt hb0 hb1
          clear hc
          by_cases hm : mayI c = true
          · go_wp2_with (go_at_call 108; refine (may_any c _ hb0 hb1).mono ?_; rintro e w' ⟨rfl, rfl⟩)
            go_region
            all_goals
              go_wp2
              go_roundw
              case rel =>
                refine ⟨k + 1, by go_num, by omega, ⟨fun j hj hj2 => ?_⟩, ⟨?_⟩⟩
                · rcases Nat.lt_or_ge j k with hjk | hjk
                  · exact HM.out j hjk hj2
                  · obtain rfl : j = k := by omega
                    rw [hC.out]; exact hm
                · have e : packN t (k + 1) = bits .or .u64 (n * 256) c := by
                    simp only [packN]
                    rw [hNN.out, hC.out]
                    exact (or_byte n c hn0 hn1 hb0 hb1).symm
                  rw [e]
                  first | exact ((hR.out.set0 _).set0 _).drew | exact ((hR.out.set0 _).drew).set0 _
              case measure => simp [intOf]; omega
          · have hm' : mayI c = false := by simpa using hm
            go_wp2_with (go_at_call 108; refine (may_any c _ hb0 hb1).mono ?_; rintro e w' ⟨rfl, rfl⟩)
            refine leaves_cons (f := 107) (args := #[.pointer (some ⟨w.heap.size + 1, 0, none⟩), .pointer (some ⟨w.heap.size, 0, none⟩)]) (by simp) (by simp [go_sem]) ?_
            have hR2 := Aside0.mk (((hR.out.set0 (n * 256)).set0 (n * 256)).set1 false)
            refine (clear_false _ _ _ (n * 256) hR2.out.cell1 hR2.out.cell0 hR2.out.free0).mono ?_
            rintro e u' w'' ⟨rfl, rfl, rfl⟩
            have hR3 := Aside0.mk (hR2.out.set0 0)
            have c0 := hR3.out.cell0
            have c1 := hR3.out.cell1
            simp [Leaves, settle, results, Tryd.results67, go_sem, c0, c1]
            have e : packT t = (0, false) := by
              unfold packT
              rw [if_neg (fun h => ?_)]
              have h1 := h.2 k hlt
              rw [hC.out] at h1
              exact hm h1
            rw [HR.out, e]
            exact ⟨⟨rfl, rfl⟩, hR3.out.bel⟩
        · go_wp2
          go_roundw
          case rel => 
            refine ⟨k + 1, by go_num, by omega, ⟨fun j hj hj2 => HM.out j (by omega) hj2⟩, ⟨?_⟩⟩
            have e : packN t (k + 1) = n * 256 := by
              simp only [packN]
              rw [hNN.out]
              have : bt t (k : Int) = 0 := by unfold bt; rw [dif_neg (by simpa using hlt)]
              rw [this]; omega
            rw [e]
            exact hR.out.set0 _
          case measure => simp [intOf]; omega
      · obtain rfl : k = 8 := by omega
        have hn := hR.out.cell0
        have hz := hR.out.free0
        have ho := hR.out.cell1
        have hoz := hR.out.free1
        go_wp2
        have hR2 := Aside0.mk ((hR.out.set0 (packN t 8)).set1 true)
        refine leaves_cons (f := 107) (args := #[.pointer (some ⟨w.heap.size + 1, 0, none⟩), .pointer (some ⟨w.heap.size, 0, none⟩)]) (by simp) (by simp [go_sem]) ?_
        refine (clear_true _ _ _ hR2.out.cell1).mono ?_
        rintro e u' w'' ⟨rfl, rfl, rfl⟩
        have c0 := hR2.out.cell0
        have c1 := hR2.out.cell1
        simp [Leaves, settle, results, Tryd.results67, go_sem, c0, c1]
        have e : packT t = (packN t 8, true) := by
          unfold packT
          exact if_pos ⟨by have := HT.out; omega, fun j hj => HM.out j (by have := HT.out; omega) hj⟩
        rw [HR.out, e]
        exact ⟨⟨rfl, rfl⟩, hR2.out.bel⟩
end Go.Proofs.YtmbfnbnlajchmaaDoor.PackW
