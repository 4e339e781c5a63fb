/- What ascii.Lower, ascii.Upper and ascii.Title compute, whatever the text (to 140737488351232 bytes): each byte's case, in place. -/
import Derived.Test.YtmbfnbnlajchmaaDoorProg
import Derived.Below
import Derived.OwnWalk
import Derived.Lib.ConvBytes
import Derived.Laws.BytesArg
import Derived.Laws.Slices
import Derived.Laws.Rows
import Derived.WalkKit
import Derived.KernelRfl
import Derived.RowKit3
import Derived.Deep.QuietTactic
import Derived.BigQuiet
import Derived.WideLaws
import Derived.LoopTactic
import Derived.Test.YtmbfnbnlajchmaaDoorAdWMore
import Derived.Test.YtmbfnbnlajchmaaDoorAdWWords
namespace Go.Proofs.YtmbfnbnlajchmaaDoor.Each
open Go.RowKit Go.Proofs.YtmbfnbnlajchmaaDoorW.PrintWords Go.Proofs.YtmbfnbnlajchmaaDoorW.PrintLast
set_option linter.unusedVariables false
set_option linter.unusedSimpArgs false

def lowI (c : Int) : Int := if 65 ≤ c ∧ c ≤ 90 then c + 32 else c
def upI (c : Int) : Int := if 97 ≤ c ∧ c ≤ 122 then c - 32 else c
def lowF (_ : Nat) (c : Int) : Int := lowI c
def upF (_ : Nat) (c : Int) : Int := upI c
def eachF (f : Nat → Int → Int) (s : ByteArray) : List Int := (List.range s.size).map fun j => f j (bt s j)

structure EachRel (f : Nat → Int → Int) (s : ByteArray) (w : World) (k : Nat) (wr : World) : Prop where
  kle : k ≤ s.size
  bel : Below w.heap.size w wr
  lt : w.heap.size < wr.heap.size
  blk : ∃ cs : Array Value, wr.heap[w.heap.size]? = some (.cells cs 5 (cs.size, cs.size + 1)) ∧ s.size ≤ cs.size ∧ ∀ j, j < s.size → cs[j]? = some (.int .u8 (if j < k then f j (bt s j) else bt s j))

theorem bytes_cells (s : ByteArray) (W : World) (j : Nat) (hj : j < s.size) : (Lib.bytesCells W 5 s)[j]? = some (.int .u8 (bt s j)) := by
  have h : bt s (j : Int) = ((s.data.toList.getD j 0).toNat : Int) := by
    unfold bt
    have h1 : ((j : Int)).toNat < s.size := by simpa using hj
    rw [dif_pos h1]
    simp only [Int.toNat_natCast]
    rw [List.getD_eq_getElem?_getD, Array.getElem?_toList, Array.getElem?_eq_getElem (show j < s.data.size from hj)]
    rfl
  rw [h]
  have h2 := Lib.bytesWorld_cell W 5 s j hj
  rwa [Go.cell_of_row _ _ _ _ _ _ (Lib.bytesWorld_at_new W 5 s)] at h2

theorem rel_start (f : Nat → Int → Int) (s : ByteArray) (w : World) : EachRel f s w 0 (Lib.bytesWorld w 5 s) where
  kle := Nat.zero_le _
  bel := bytes_below (Below.refl _ _) (Nat.le_refl _) 5 s
  lt := by rw [Lib.bytesWorld_size]; omega
  blk := ⟨_, Lib.bytesWorld_at_new w 5 s, by
    unfold Lib.bytesCells
    rw [Array.size_append, Array.size_map]
    exact Nat.le_add_right _ _, fun j hj => by simpa using bytes_cells s w j hj⟩

theorem rel_cell {f : Nat → Int → Int} {s : ByteArray} {w : World} {k : Nat} {wr : World} (h : EachRel f s w k wr) (hk : k < s.size) : wr.cell? ⟨w.heap.size, k, none⟩ = some (.int .u8 (bt s k)) := by
  obtain ⟨cs, hb, _, hc⟩ := h.blk
  rw [Go.cell_of_row _ _ _ _ _ _ hb, hc k hk, if_neg (Nat.lt_irrefl _)]

theorem rel_frozen {f : Nat → Int → Int} {s : ByteArray} {w : World} {k : Nat} {wr : World} (h : EachRel f s w k wr) (hk : k < s.size) : wr.frozen? ⟨w.heap.size, k, none⟩ = false := by
  obtain ⟨cs, hb, h2, hc⟩ := h.blk
  simp [World.frozen?, hb]
  omega

theorem rel_step {f : Nat → Int → Int} {s : ByteArray} {w : World} {k : Nat} {wr : World} (h : EachRel f s w k wr) (hk : k < s.size) (x : Int) (hx : x = f k (bt s k)) : EachRel f s w (k + 1) (wr.setCell ⟨w.heap.size, k, none⟩ (.int .u8 x)) := by
  subst hx
  obtain ⟨cs, hb, h2, hc⟩ := h.blk
  refine ⟨by omega, h.bel.setCell (Nat.le_refl _) _, by simpa [World.setCell] using h.lt, cs.setIfInBounds k (.int .u8 (f k (bt s k))), ?_, by simpa using h2, fun j hj => ?_⟩
  · have hlt : w.heap.size < wr.heap.size := h.lt
    rw [Array.getElem?_eq_getElem hlt] at hb
    have hb' := Option.some.inj hb
    simp [World.setCell, Array.getElem?_modify, Array.getElem?_eq_getElem hlt, hb']
  · rw [Array.getElem?_setIfInBounds]
    by_cases e : k = j
    · subst e
      rw [if_pos rfl, if_pos (by omega), if_pos (by omega)]
    · rw [if_neg e, hc j hj]
      by_cases l : j < k
      · rw [if_pos l, if_pos (by omega)]
      · rw [if_neg l, if_neg (by omega)]

theorem rel_end {f : Nat → Int → Int} {s : ByteArray} {w : World} {k : Nat} {wr : World} (h : EachRel f s w k wr) (hk : ¬ k < s.size) (cap : Nat) :
    (convert 28 9 (.slice (some ⟨w.heap.size, 0, none⟩) s.size cap)).run Tryd.prog wr = .ok (.string (strOfNums (eachF f s))) wr := by
  obtain ⟨cs, hb, h2, hc⟩ := h.blk
  refine run_convert_bytes_arg wr 28 5 Tryd.underlying28 Tryd.underlying5 w.heap.size 0 s.size cap (eachF f s) (by simp [eachF]) (fun i hi => ?_) 9 Tryd.underlying9
  rw [Nat.zero_add, Go.cell_of_row _ _ _ _ _ _ hb, hc i hi, if_pos (by omega)]
  simp [eachF, List.getD_eq_getElem?_getD, List.getElem?_map, List.getElem?_range hi]


set_option maxHeartbeats 800000 in
theorem each_low (s : ByteArray) (w : World) (hs : s.size ≤ 140737488351232) :
    Calls Tryd.prog 90 #[.string s, .func (Fn.func 91) #[] #[]] w fun e w' => e = .returned (.string (strOfNums (eachF lowF s))) ∧ Below w.heap.size w w' := by
  have hcv := fun W => print_bytes (P := Tryd.prog) 9 28 5 Tryd.underlying9 Tryd.underlying28 Tryd.underlying5 s W
  go_enter Tryd.func90, Tryd.ntmps90
  go_wp2
  go_loopw [12] (fun i wr => ∃ k : Nat, i = .int .i64 k ∧ EachRel lowF s w k wr) (fun i _ => s.size - (intOf i).toNat)
  case atStart => exact ⟨0, rfl, rel_start _ s w⟩
  case round =>
    clear hcv
    obtain ⟨k, rfl, hr⟩ := hrel
    have hR := Aside0.mk hr
    clear hr
    by_cases hlt : k < s.size
    · have hcell := rel_cell hR.out hlt
      have hfr := rel_frozen hR.out hlt
      obtain ⟨hb0, hb1⟩ := bt_range s (k : Int)
      obtain ⟨c, hc⟩ : ∃ c, bt s (k : Int) = c := ⟨_, rfl⟩
      have hC := Aside0.mk hc
      rw [hc] at hcell hb0 hb1
      clear hc
      rcases (show (¬ 65 ≤ c ∧ c ≤ 90) ∨ (65 ≤ c ∧ c ≤ 90) ∨ (65 ≤ c ∧ ¬ c ≤ 90) by omega) with ⟨h1, h2⟩ | ⟨h1, h2⟩ | ⟨h1, h2⟩
      all_goals
        go_wp2
        go_roundw
        case rel => exact ⟨k + 1, by go_num, rel_step hR.out hlt _ (by rw [hC.out]; unfold lowF; unfold lowI; split <;> omega)⟩
        case measure => simp [intOf]; omega
    · have hend := rel_end hR.out hlt
      go_wp2
      go_ret
      exact ⟨rfl, hR.out.bel⟩

set_option maxHeartbeats 400000 in
theorem case_low (s : ByteArray) (w : World) (hs : s.size ≤ 140737488351232) :
    Calls Tryd.prog 65 #[.string s] w fun e w' => e = .returned (.string (strOfNums (eachF lowF s))) ∧ Below w.heap.size w w' := by
  go_enter Tryd.func65, Tryd.ntmps65
  go_wp2_with (go_at_call 90; refine (each_low s _ hs).mono ?_; rintro e w' ⟨rfl, hb⟩)
  go_ret
  exact ⟨rfl, hb⟩
end Go.Proofs.YtmbfnbnlajchmaaDoor.Each
