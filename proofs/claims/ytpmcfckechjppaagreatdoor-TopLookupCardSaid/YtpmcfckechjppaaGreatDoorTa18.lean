/- Made by a program of this seat's own (shake.py, merge.py): what the claim leans on: Bang, Render, Table, Near, Best, Tool, Tool2, Tool3. -/
import Derived.Test.YtpmcfckechjppaaGreatDoorTa17
import Derived.LoopN
namespace Go.Proofs.YtpmcfckechjppaaGreatDoor.Ps
open Go.RowKit Go.Shelf Go.Proofs.YtpmcfckechjppaaGreatDoorW.PrintWords Go.Proofs.YtpmcfckechjppaaGreatDoorW.PrintLast Go.Proofs.YtpmcfckechjppaaGreatDoorW.PrintMore Go.Proofs.YtpmcfckechjppaaGreatDoor.P Go.Proofs.YtpmcfckechjppaaGreatDoor.LikW
open Go.Proofs.YtpmcfckechjppaaGreatDoor.Each Go.Proofs.YtpmcfckechjppaaGreatDoor.Base Go.Proofs.YtpmcfckechjppaaGreatDoor.Pure
set_option linter.unusedVariables false
set_option linter.unusedSimpArgs false
set_option maxRecDepth 100000
set_option maxHeartbeats 8000000
theorem bt_first (s : ByteArray) (i : Nat) (hi : 0 < i) (hs : i ≤ s.size) : bt (s.extract 0 i) 0 = bt s 0 := by
 have := bt_cut s i 0 hi hs
 simpa using this
theorem trimF_first : ∀ (f : Nat) (s : ByteArray), s.size < f → (trimF f s).size ≠ 0 → bt (trimF f s) 0 = bt s 0
 | 0, s, h, _ => by omega
 | f + 1, s, h, hz => by
  unfold trimF at hz ⊢
  by_cases h1 : Lib.lastIndexByte s 45 < 0
  · rw [if_pos h1] at hz; exact absurd rfl hz
  · rw [if_neg h1] at hz ⊢
    obtain ⟨n, hn⟩ := Int.eq_ofNat_of_zero_le (show 0 ≤ Lib.lastIndexByte s 45 by omega)
    have hlt := last_lt s n hn
    rw [hn, Int.toNat_natCast] at hz ⊢
    have hzz : (s.extract 0 n).size = n := by rw [ByteArray.size_extract]; omega
    by_cases h2 : Lib.lastIndexByte (s.extract 0 n) 45 < 0
    · rw [if_pos h2] at hz ⊢
      exact bt_first s n (by omega) (by omega)
    · rw [if_neg h2] at hz ⊢
      by_cases h3 : n = (Lib.lastIndexByte (s.extract 0 n) 45).toNat + 2
      · rw [if_pos h3] at hz ⊢
        rw [trimF_first f (s.extract 0 n) (by omega) hz]
        exact bt_first s n (by omega) (by omega)
      · rw [if_neg h3] at hz ⊢
        exact bt_first s n (by omega) (by omega)
theorem seqF_first : ∀ (f : Nat) (s : ByteArray), ∀ x ∈ seqF f s, x.size ≠ 0 ∧ bt x 0 = bt s 0
 | 0, s, x, hx => by simp [seqF] at hx
 | f + 1, s, x, hx => by
  unfold seqF at hx
  split at hx
  · simp at hx
  · rename_i h
    rcases List.mem_cons.1 hx with e | h'
    · rw [e]; exact ⟨h, rfl⟩
    · obtain ⟨h1, h2⟩ := seqF_first f (trimP s) x h'
      refine ⟨h1, h2.trans ?_⟩
      refine trimF_first (s.size + 1) s (by omega) ?_
      intro hz
      have hz' : (trimP s).size = 0 := hz
      cases f with
      | zero => simp [seqF] at h'
      | succ f => unfold seqF at h'; rw [if_pos hz'] at h'; simp at h'
theorem basic_first (s : ByteArray) (hb : basicB s = true) (ha : anyB s = false) : letB (bt s 0) = true := by
 unfold basicB at hb
 rw [ha, Bool.false_or] at hb
 have key : ∀ i, (i ≤ s.size) → wordB 0 (s.extract 0 i) = true → letB (bt s 0) = true := fun i hi hw => by
  unfold wordB at hw
  simp only [Bool.and_eq_true, Bool.or_eq_true, decide_eq_true_iff, beq_iff_eq] at hw
  have h1 : clsL (bytesOf (s.extract 0 i)) = 1 := by
   rcases hw.2 with h | ⟨h, _⟩
   · exact h
   · omega
  obtain ⟨h2, h3⟩ := (cls_one _).1 h1
  have hlen : 0 < (s.extract 0 i).size := by
   rw [size_bytesOf]
   exact List.length_pos_iff.2 h2
  have hsz : (s.extract 0 i).size = i := by rw [ByteArray.size_extract]; omega
  have hd := drop_at (s.extract 0 i) 0 hlen
  rw [List.drop_zero] at hd
  rw [hd, List.all_cons, Bool.and_eq_true] at h3
  rw [← bt_first s i (by omega) hi]
  exact h3.1
 unfold eachP eachF at hb
 split at hb
 · simp only [List.all_cons, Bool.and_eq_true] at hb
   exact key s.size (Nat.le_refl _) hb.1
 · rename_i h
   obtain ⟨m, hm⟩ := Int.eq_ofNat_of_zero_le (show 0 ≤ Lib.indexByte (s.extract 0 s.size).data.toList 45 by omega)
   have hlt := index_lt s 0 (by omega) m hm
   rw [List.all_cons, Bool.and_eq_true] at hb
   refine key (0 + (Lib.indexByte (s.extract 0 s.size).data.toList 45).toNat) (by rw [hm, Int.toNat_natCast]; omega) hb.1
def bang : ByteArray := ⟨#[33]⟩
theorem not_bang (s t x : ByteArray) (hb : basicB s = true) (ha : anyB s = false) (hx : x ∈ seqP s) (ht : lowL t = lowL x) : t ≠ bang := by
 intro e
 obtain ⟨h1, h2⟩ := seqF_first _ s x hx
 have h3 := basic_first s hb ha
 have hd := lowL_drop x 0 (by omega)
 rw [List.drop_zero] at hd
 rw [e, hd] at ht
 have h4 : lowL bang = [33] := by decide
 rw [h4] at ht
 have h5 : lowI (bt x 0) = 33 := by
  have := (List.cons.inj ht).1
  simpa using this.symm
 rw [h2] at h5
 have h6 := let_low (bt s 0)
 rw [h5, h3] at h6
 revert h6
 decide
theorem find_low (q : ByteArray) (tags : List ByteArray) : findT (lowS q) (placesT tags) = (tags.findIdx? fun t => decide (lowL t = lowL q)).map Int.ofNat := by
 rw [findT_all]
 congr 1
 congr 1
 funext t
 rw [Bool.eq_iff_iff, ba_beq, decide_eq_true_iff, low_eq]
 exact ⟨fun h => h.symm, fun h => h.symm⟩
end Go.Proofs.YtpmcfckechjppaaGreatDoor.Ps
namespace Go.Proofs.YtpmcfckechjppaaGreatDoor.Ps
open Go.RowKit Go.Shelf Go.Proofs.YtpmcfckechjppaaGreatDoorW.PrintWords Go.Proofs.YtpmcfckechjppaaGreatDoorW.PrintLast Go.Proofs.YtpmcfckechjppaaGreatDoorW.PrintMore Go.Proofs.YtpmcfckechjppaaGreatDoor.P Go.Proofs.YtpmcfckechjppaaGreatDoor.LikW
set_option linter.unusedVariables false
set_option linter.unusedSimpArgs false
set_option maxRecDepth 100000
set_option maxHeartbeats 8000000
theorem lower_c (a b c : ByteArray) (hs : (Lib.join ((full1 [a, b, c]).map (·.data.toList)) [45]).length ≤ 140737488355328) (w : World) : Calls Tryz.prog 43 #[T3 a b c] w fun e w' => e = .returned (.string (joinS (full1 [a, b, c]))) ∧ Below w.heap.size w w' := by
 have hl : (full1 [a, b, c]).length ≤ 1000000 := Nat.le_trans (List.length_filter_le _ _) (by simp)
 have hut := Tryz.underlying33
 unfold T3
 go_enter Tryz.func43, Tryz.ntmps43
 go_wp2_with (first
  | (go_at_call 75; refine (subtags_c a b c _).mono ?_; rintro e w1 ⟨v, rfl, hO, hB⟩; have O_V := Aside0.mk hO; have HB := Aside0.mk hB; clear hO hB)
  | (go_at_call 74; refine (join_c _ v _ _ O_V.out hl hs).mono ?_; rintro e w2 ⟨rfl, hB2⟩))
 go_ret
 exact ⟨rfl, (below_alloc (Below.refl _ _) _).trans ((HB.out.mono (by simp)).trans (hB2.mono (Nat.le_trans (by simp) HB.out.size)))⟩
theorem string_c (a b c : ByteArray) (hs : (Lib.join ((full1 [a, b, c]).map (·.data.toList)) [45]).length ≤ 140737488355328) (hz : (joinS (full1 [a, b, c])).size ≤ 900000) (sg : Bool) (out : List ByteArray) (ht : (eachP (joinS (full1 [a, b, c]))).all caseOk = true) (ho : caseL (eachP (joinS (full1 [a, b, c]))) (false, []) = some (sg, out)) (hj : (Lib.join (out.map (·.data.toList)) [45]).length ≤ 140737488355328) (w : World) : Calls Tryz.prog 44 #[T3 a b c] w fun e w' => e = .returned (.string (joinS out)) ∧ Below w.heap.size w w' := by
 have hut := Tryz.underlying33
 unfold T3
 have HT := Aside0.mk ht
 have HO := Aside0.mk ho
 have HZ := Aside0.mk hz
 clear ht ho hz
 go_enter Tryz.func44, Tryz.ntmps44
 go_wp2_with (first
  | (go_at_call 43; refine (lower_c a b c hs _).mono ?_; rintro e w1 ⟨rfl, hB⟩; have HB := Aside0.mk hB; clear hB)
  | (go_at_call 45; refine (case_c _ HZ.out sg out HT.out HO.out hj _).mono ?_; rintro e w2 ⟨rfl, hB2⟩))
 go_ret
 exact ⟨rfl, (below_alloc (Below.refl _ _) _).trans ((HB.out.mono (by simp)).trans (hB2.mono (Nat.le_trans (by simp) HB.out.size)))⟩
def encT3 (t : K3) : List Value := [.string t.1, .slice none 0 0, .string t.2.1, .string t.2.2, .slice none 0 0, .slice none 0 0, .slice none 0 0, .string ⟨#[]⟩]
def cellsT (l : List K3) : List Value := l.flatMap encT3
def TagsAt (W : World) (b : Nat) (l : List K3) : Prop := ∃ cur, W.heap[b]? = some (.cells cur 33 (0, 0)) ∧ cur.toList.take (8 * l.length) = cellsT l
theorem TagsAt.below {W W1 : World} {b : Nat} {l : List K3} (h : TagsAt W b l) (hb : Below W.heap.size W W1) : TagsAt W1 b l := by
 obtain ⟨cur, h1, h2⟩ := h
 exact ⟨cur, (hb.block _ (lt_blk h1)).trans h1, h2⟩
theorem TagsAt.lt {W : World} {b : Nat} {l : List K3} (h : TagsAt W b l) : b < W.heap.size := by
 obtain ⟨cur, h1, h2⟩ := h
 exact lt_blk h1
theorem cellsT_at : ∀ (l : List K3) (i : Nat) (t : K3), l[i]? = some t → ∀ j, j < 8 → (cellsT l)[i * 8 + j]? = (encT3 t)[j]?
 | [], i, t, h, j, hj => by simp at h
 | y :: l, 0, t, h, j, hj => by
  simp only [List.getElem?_cons_zero, Option.some.injEq] at h
  subst h
  unfold cellsT
  rw [List.flatMap_cons, List.getElem?_append_left (by simpa [encT3] using hj)]
  simp
 | y :: l, i + 1, t, h, j, hj => by
  have h1 := cellsT_at l i t (by simpa using h) j hj
  have h2 : (i + 1) * 8 + j = 8 + (i * 8 + j) := by omega
  unfold cellsT at h1 ⊢
  rw [List.flatMap_cons, h2, List.getElem?_append_right (by simp [encT3])]
  simpa [encT3] using h1
theorem TagsAt.cells {W : World} {b : Nat} {l : List K3} (h : TagsAt W b l) (i : Nat) (t : K3) (hi : l[i]? = some t) (j : Nat) (u : Value) (hj : j < 8) (hu : (encT3 t)[j]? = some u) : W.cell? ⟨b, i * 8 + j, none⟩ = some u := by
 obtain ⟨cur, h1, h2⟩ := h
 have hl := (List.getElem?_eq_some_iff.1 hi).1
 have h3 := cellsT_at l i t hi j hj
 rw [← h2, List.getElem?_take, if_pos (by omega), Array.getElem?_toList, hu] at h3
 exact (blk_cell h1 _).trans h3
theorem mall_c (k : Nat) (B1 B2 B3 B4 : Nat) (b c : Nat) (l : List K3) (hl : l.length ≤ 1000) (hN : ∀ t ∈ l, NoStep k t.1 t.2.1 t.2.2) (w : World) (hT : TagsAt w b l) (hG : GrandW.G w) (hC : Kd.C k59 w (some ⟨B1, 0, none⟩) dAliases.length dAliases) :
 Calls Tryz.prog 340 #[imgV B1 B2 B3 B4, .slice (some ⟨b, 0, none⟩) l.length c] w fun e w' => (∃ v, e = .returned v ∧ w'.ownsRow w.heap.size 33 8 v l.length (cellsT l)) ∧ Below w.heap.size w w' := by
 have hut := Tryz.underlying33
 have hus := Tryz.underlying193
 have hui := Tryz.underlying51
 have HT := Aside0.mk hT
 have HG := Aside0.mk hG
 have HC := Aside0.mk hC
 have HN := Aside0.mk hN
 have HL := Aside0.mk hl
 clear hT hG hC hN
 unfold imgV
 go_enter Tryz.func340, Tryz.ntmps340
 go_wp2
 obtain ⟨N, hNN⟩ : ∃ N, N = w.heap.size := ⟨_, rfl⟩
 obtain ⟨W0, hW0⟩ : ∃ W0, W0 = w.alloc (.cells (imgC B1 B2 B3 B4) 51) := ⟨_, rfl⟩
 have I0 : W0.heap[N]? = some (.cells (imgC B1 B2 B3 B4) 51 (0, 0)) := by rw [hW0]; exact aZ hNN
 have B0 : Below N w W0 := by rw [hW0, hNN]; exact below_alloc (Below.refl _ _) _
 unfold imgC at hW0
 rw [← hW0, ← hNN]
 have HNN := Aside0.mk hNN
 clear hW0 hNN
 go_loopw [10, 5] (fun vi vs wr => ∃ (i : Nat), vi = .int .i64 (i : Int) ∧ i ≤ l.length ∧ Aside0 (wr.heap[N]? = some (.cells (imgC B1 B2 B3 B4) 51 (0, 0))) ∧ Aside0 (wr.ownsRow N 33 8 vs i (cellsT (l.take i))) ∧ Aside0 (Below N w wr)) (fun vi _ _ => l.length - (intOf vi).toNat)
 case atStart => exact ⟨0, rfl, Nat.zero_le _, ⟨I0⟩, ⟨own_nil _ _ _ _⟩, ⟨B0⟩⟩
 case round =>
  obtain ⟨i, rfl, hi, K_I, O_V, BB⟩ := hrel
  clear I0 B0
  obtain ⟨V1, c1, e1⟩ := own_slice O_V.out
  subst e1
  by_cases hlt : i < l.length
  · obtain ⟨t, ht⟩ : ∃ t, l[i]? = some t := ⟨_, List.getElem?_eq_getElem hlt⟩
    have TW : TagsAt wr b l := HT.out.below (by have h := BB.out; rwa [HNN.out] at h)
    have x0 : wr.cell? ⟨b, i * 8, none⟩ = some (.string t.1) := TW.cells i t ht 0 _ (by decide) rfl
    have x1 : wr.cell? ⟨b, i * 8 + 1, none⟩ = some (.slice none 0 0) := TW.cells i t ht 1 _ (by decide) rfl
    have x2 : wr.cell? ⟨b, i * 8 + 2, none⟩ = some (.string t.2.1) := TW.cells i t ht 2 _ (by decide) rfl
    have x3 : wr.cell? ⟨b, i * 8 + 3, none⟩ = some (.string t.2.2) := TW.cells i t ht 3 _ (by decide) rfl
    have x4 : wr.cell? ⟨b, i * 8 + 4, none⟩ = some (.slice none 0 0) := TW.cells i t ht 4 _ (by decide) rfl
    have x5 : wr.cell? ⟨b, i * 8 + 5, none⟩ = some (.slice none 0 0) := TW.cells i t ht 5 _ (by decide) rfl
    have x6 : wr.cell? ⟨b, i * 8 + 6, none⟩ = some (.slice none 0 0) := TW.cells i t ht 6 _ (by decide) rfl
    have x7 : wr.cell? ⟨b, i * 8 + 7, none⟩ = some (.string ⟨#[]⟩) := TW.cells i t ht 7 _ (by decide) rfl
    have HNt := Aside0.mk (HN.out t (List.mem_of_getElem? ht))
    have hsn : l.take (i + 1) = l.take i ++ [t] := by rw [List.take_add_one, ht]; rfl
    have HSN := Aside0.mk hsn
    have d1 : decide ((i : Int) < (l.length : Int)) = true := decide_eq_true (by omega)
    have m0 : (0 : Int) ≤ (i : Int) := by omega
    have m1 : (i : Int) < (l.length : Int) := by omega
    have m2 : i < l.length := hlt
    obtain ⟨V, hV⟩ : ∃ V, V = wr.alloc (.cells (T3c t.1 t.2.1 t.2.2) 33) := ⟨_, rfl⟩
    have U0 : V.heap[wr.heap.size]? = some (.cells (T3c t.1 t.2.1 t.2.2) 33 (0, 0)) := by rw [hV]; exact aZ rfl
    have I1 : V.heap[N]? = some (.cells (imgC B1 B2 B3 B4) 51 (0, 0)) := by rw [hV]; exact aN K_I.out
    have BV : Aside0 (Below N w V) := ⟨by rw [hV]; exact BB.out.alloc (Nat.le_of_lt (lt_blk K_I.out)) _⟩
    have OV : Aside0 (V.ownsRow N 33 8 (.slice V1 i c1) i (cellsT (l.take i))) := ⟨by rw [hV]; exact World.ownsRow.alloc O_V.out _⟩
    have K_1 := Aside0.mk I1
    obtain ⟨i0, i1, i2, i3, i4, i5⟩ := cz6 (show V.heap[N]? = some (.cells #[.slice (some ⟨B1, 0, none⟩) 54 54, .slice (some ⟨B2, 0, none⟩) 32 32, .slice (some ⟨B3, 0, none⟩) 15 15, .slice (some ⟨B4, 0, none⟩) 7 7, .int .i64 40, .int .i64 5] 51 (0, 0)) from I1)
    obtain ⟨z0, z1, z2, z3, z4, z5, z6, z7⟩ := cz8t U0
    unfold T3c at hV
    have HV := Aside0.mk hV.symm
    clear ht hsn TW hV U0 I1
    go_wp2_with (first
     | (rw [HV.out])
     | (go_at_call 97; refine (canonical_none k B1 B2 B3 B4 t.1 t.2.1 t.2.2 HNt.out _ (HG.out.below (by have h := BV.out; rwa [HNN.out] at h)) (Kd.C_below HC.out (by have h := BV.out; rwa [HNN.out] at h))).mono ?_; rintro e w1 ⟨rfl, hB⟩; unfold T3; have O1 : Aside0 (w1.ownsRow N 33 8 (.slice V1 i c1) i (cellsT (l.take i))) := ⟨pw_own_below OV.out hB⟩; have B1' := Aside0.mk (BV.out.trans (hB.mono (Nat.le_of_lt (lt_blk K_1.out)))); have K1 := kb K_1 hB; clear hB)
     | ((with_reducible refine gate_builtin (b := .append) (xs := #[.tmp 14, .tmp 18]) rfl ?_); at_builtin; refine print_append_cells (w0 := w) N rfl (.tmp 14) (.tmp 18) 193 33 (.agg #[.string ⟨#[]⟩, .slice none 0 0, .string ⟨#[]⟩, .string ⟨#[]⟩, .slice none 0 0, .slice none 0 0, .slice none 0 0, .string ⟨#[]⟩]) 8 160 rfl hus (by kernel_rfl) rfl (by decide) (by decide) (.slice V1 i c1) i (cellsT (l.take i)) (encT3 t) rfl ?hx rfl ?h1 O1.out B1'.out (Nat.le_of_lt (lt_blk K1.out)) ?hl ?_; (case hx => rfl); (case h1 => simp [encT3, Value.oneCell']); (case hl => have := HL.out; omega); intro v2 w2 ho hb2 hg hat; obtain ⟨V2, c2, rfl⟩ := own_slice ho; have O_2 := Aside0.mk ho; have B2' := Aside0.mk hb2; have K_2 := Aside0.mk ((hg.block _ (lt_blk K1.out) (own_ne O1.out K1.out (by decide))).trans K1.out); clear ho hb2 hg hat))
    go_roundw
    case rel =>
     exact ⟨i + 1, by congr 1, by omega, K_2, ⟨by rw [HSN.out]; unfold cellsT; rw [List.flatMap_append]; exact O_2.out⟩, B2'⟩
    case measure => simp [intOf]; omega
  · obtain rfl : i = l.length := by omega
    have d1 : decide ((l.length : Int) < (l.length : Int)) = false := decide_eq_false (by omega)
    go_wp2
    go_ret
    have h := O_V.out
    rw [List.take_length] at h
    have h2 := HNN.out
    exact ⟨⟨_, rfl, h2 ▸ h⟩, h2 ▸ BB.out⟩
theorem below_of_grown {a b : World} (h : a.grownBy b none) : Below a.heap.size a b := ⟨h.os, h.tape, h.output, h.size, fun k hk => h.block k hk (by simp)⟩
theorem own_ints {W : World} {base : Nat} {V : Option Addr} {c : Nat} {l : List K3} {f : K3 → Int} (h : W.ownsRow base 3 1 (.slice V l.length c) l.length (l.map fun t => .int .i64 (f t))) (hl : l ≠ []) : ∃ r, V = some ⟨r, 0, none⟩ ∧ r < W.heap.size ∧ ∀ (i : Nat) t, l[i]? = some t → W.cell? ⟨r, i, none⟩ = some (.int .i64 (f t)) := by
 obtain ⟨hk, ⟨e, e0⟩ | ⟨g, cap, cur, e, h1, h2, h3, h4, h5, h6⟩⟩ := h
 · exact absurd (List.eq_nil_of_length_eq_zero e0) hl
 · cases e
   refine ⟨g, rfl, lt_blk h2, fun i t hi => ?_⟩
   have hlt := (List.getElem?_eq_some_iff.1 hi).1
   have q : (l.map fun t => Value.int .i64 (f t))[i]? = some (.int .i64 (f t)) := by rw [List.getElem?_map, hi]; rfl
   rw [← h6, List.getElem?_take, if_pos (by omega), Array.getElem?_toList] at q
   exact (blk_cell h2 _).trans q
theorem cell_drew_new (W : World) (cs : Array Value) (e : TypeId) (v : Value) (h : cs[0]? = some v) : ((W.alloc (.cells cs e)).drew).cell? ⟨W.heap.size, 0, none⟩ = some v := by
 have h1 : ((W.alloc (.cells cs e)).drew).heap[W.heap.size]? = some (.cells cs e (0, 0)) := World.alloc_heap_new W _
 exact (blk_cell h1 0).trans h
def dstP (a b : K3) : Int := sumP dRules dMembers (plP dRows a) (plP dRows b) 3
theorem dist_c (B1 B2 B3 B4 : Nat) (a b : K3) (w : World) (hL : Kd.C k66 w (some ⟨B2, 0, none⟩) dRows.length dRows) (hR : Kd.C k53 w (some ⟨B3, 0, none⟩) dRules.length dRules) (hM : Kd.C k69 w (some ⟨B4, 0, none⟩) dMembers.length dMembers) :
 Calls Tryz.prog 341 #[imgV B1 B2 B3 B4, T3 a.1 a.2.1 a.2.2, T3 b.1 b.2.1 b.2.2] w fun e w' => e = .returned (.int .i64 (dstP a b)) ∧ Below w.heap.size w w' := by
 have h := dist_calls (some ⟨B1, 0, none⟩) 54 54 (some ⟨B2, 0, none⟩) 32 dRows (some ⟨B3, 0, none⟩) 15 dRules (some ⟨B4, 0, none⟩) 7 dMembers 40 5 a.1 a.2.1 a.2.2 ⟨#[]⟩ none 0 0 none 0 0 none 0 0 none 0 0 b.1 b.2.1 b.2.2 ⟨#[]⟩ none 0 0 none 0 0 none 0 0 none 0 0 w hL hR hM
 rw [len_dRows, len_dRules, len_dMembers] at h
 exact h
structure Img (w : World) (B1 B2 B3 B4 : Nat) : Prop where
 g : GrandW.G w
 c1 : Kd.C k59 w (some ⟨B1, 0, none⟩) dAliases.length dAliases
 c2 : Kd.C k66 w (some ⟨B2, 0, none⟩) dRows.length dRows
 c3 : Kd.C k53 w (some ⟨B3, 0, none⟩) dRules.length dRules
 c4 : Kd.C k69 w (some ⟨B4, 0, none⟩) dMembers.length dMembers
theorem Img.below {w w' : World} {B1 B2 B3 B4 : Nat} (h : Img w B1 B2 B3 B4) (hb : Below w.heap.size w w') : Img w' B1 B2 B3 B4 := ⟨h.g.below hb, Kd.C_below h.c1 hb, Kd.C_below h.c2 hb, Kd.C_below h.c3 hb, Kd.C_below h.c4 hb⟩
theorem own_tags {W : World} {base : Nat} {v : Value} {l : List K3} (h : W.ownsRow base 33 8 v l.length (cellsT l)) (hl : l ≠ []) : ∃ b c, v = .slice (some ⟨b, 0, none⟩) l.length c ∧ base ≤ b ∧ TagsAt W b l := by
 obtain ⟨hk, ⟨e, e0⟩ | ⟨g, cap, cur, e, h1, h2, h3, h4, h5, h6⟩⟩ := h
 · exact absurd (List.eq_nil_of_length_eq_zero e0) hl
 · exact ⟨g, cap, e, h1, cur, h2, by rw [Nat.mul_comm]; exact h6⟩
theorem table_c (k : Nat) (B1 B2 B3 B4 : Nat) (b1 c1 b2 c2 : Nat) (a : K3) (l : List K3) (hl : l.length ≤ 1000) (hne : l ≠ []) (ha : NoStep k a.1 a.2.1 a.2.2) (hN : ∀ t ∈ l, NoStep k t.1 t.2.1 t.2.2) (w : World) (hT1 : TagsAt w b1 [a]) (hT2 : TagsAt w b2 l) (hI : Img w B1 B2 B3 B4) :
 Calls Tryz.prog 323 #[imgV B1 B2 B3 B4, .slice (some ⟨b1, 0, none⟩) 1 c1, .slice (some ⟨b2, 0, none⟩) l.length c2] w fun e w' =>
  (∃ g cg r cr, e = .returned (.slice (some ⟨g, 0, none⟩) 1 cg) ∧ w'.cell? ⟨g, 0, none⟩ = some (.slice (some ⟨r, 0, none⟩) l.length cr) ∧ ∀ (i : Nat) t, l[i]? = some t → w'.cell? ⟨r, i, none⟩ = some (.int .i64 (dstP a t))) ∧ Below w.heap.size w w' := by
 have hut := Tryz.underlying33
 have hus := Tryz.underlying193
 have hui := Tryz.underlying51
 have HT1 := Aside0.mk hT1
 have HT2 := Aside0.mk hT2
 have HI := Aside0.mk hI
 have HN := Aside0.mk hN
 have HA := Aside0.mk ha
 have HE := Aside0.mk hne
 clear hT1 hT2 hI hN ha hne
 unfold imgV
 go_enter Tryz.func323, Tryz.ntmps323
 go_wp2
 obtain ⟨N, hNN⟩ : ∃ N, N = w.heap.size := ⟨_, rfl⟩
 obtain ⟨W0, hW0⟩ : ∃ W0, W0 = w.alloc (.cells (imgC B1 B2 B3 B4) 51) := ⟨_, rfl⟩
 have KI : Aside0 (W0.heap[N]? = some (.cells (imgC B1 B2 B3 B4) 51 (0, 0))) := ⟨by rw [hW0]; exact aZ hNN⟩
 have KB : Aside0 (Below N w W0) := ⟨by rw [hW0, hNN]; exact below_alloc (Below.refl _ _) _⟩
 unfold imgC at hW0
 rw [← hW0, ← hNN]
 have HNN := Aside0.mk hNN
 clear hW0 hNN
 refine start_ (n := 8) (S := fun w' => w'.cell? ⟨N, 0, none⟩ = some (.slice (some ⟨B1, 0, none⟩) 54 54) ∧ w'.cell? ⟨N, 1, none⟩ = some (.slice (some ⟨B2, 0, none⟩) 32 32) ∧ w'.cell? ⟨N, 2, none⟩ = some (.slice (some ⟨B3, 0, none⟩) 15 15) ∧ w'.cell? ⟨N, 3, none⟩ = some (.slice (some ⟨B4, 0, none⟩) 7 7) ∧ w'.cell? ⟨N, 4, none⟩ = some (.int .i64 40) ∧ w'.cell? ⟨N, 5, none⟩ = some (.int .i64 5)) (ds := []) (M 8 0) (by kernel_rfl) rfl rfl ⟨(blk_cell (w := W0.drew) KI.out 0).trans rfl, (blk_cell (w := W0.drew) KI.out 1).trans rfl, (blk_cell (w := W0.drew) KI.out 2).trans rfl, (blk_cell (w := W0.drew) KI.out 3).trans rfl, (blk_cell (w := W0.drew) KI.out 4).trans rfl, (blk_cell (w := W0.drew) KI.out 5).trans rfl⟩ (fun hHeld => ?_)
 obtain ⟨V, hV⟩ : ∃ V, V = W0.drew := ⟨_, rfl⟩
 replace KI := dwK KI hV
 replace KB : Aside0 (Below N w V) := by rw [hV]; exact ⟨below_drew1 KB.out⟩
 rw [← hV] at hHeld ⊢
 clear hV
 refine pw 1 16 (M 8 2) ?_
 refine pw 4 19 (M 8 18) ?_
 refine tw 0 15 (M 8 19) hHeld ?_
 refine tw 3 18 (M 8 27) hHeld ?_
 refine ow 2 (some 17) (M 8 31) fun K hK => ?_
 refine gow Tryz.func340 #[.agg #[.slice (some ⟨B1, 0, none⟩) 54 54, .slice (some ⟨B2, 0, none⟩) 32 32, .slice (some ⟨B3, 0, none⟩) 15 15, .slice (some ⟨B4, 0, none⟩) 7 7, .int .i64 40, .int .i64 5], .slice (some ⟨b1, 0, none⟩) 1 c1] ?_
 have hbw : Below w.heap.size w V := by have h := KB.out; rwa [HNN.out] at h
 refine (mall_c k B1 B2 B3 B4 b1 c1 [a] (by simp) (fun t ht => by rw [List.mem_singleton.1 ht]; exact HA.out) _ (HT1.out.below hbw) (HI.out.g.below hbw) (Kd.C_below HI.out.c1 hbw)).mono ?_
 rintro e wd ⟨⟨v, rfl, ho⟩, hb⟩
 obtain ⟨gd, cd, hv, hgd, htd⟩ := own_tags ho (by simp)
 have hv2 : v = .slice (some ⟨gd, 0, none⟩) 1 cd := hv
 subst hv2
 have Td := Aside0.mk htd
 replace KI := kb KI hb
 replace KB : Aside0 (Below N w wd) := ⟨KB.out.trans (hb.mono (by rw [HNN.out]; exact hbw.size))⟩
 clear hb ho hv htd hbw
 refine ⟨_, rfl, ?_⟩
 refine hK.out _ _ ⟨(blk_cell KI.out 0).trans rfl, (blk_cell KI.out 1).trans rfl, (blk_cell KI.out 2).trans rfl, (blk_cell KI.out 3).trans rfl, (blk_cell KI.out 4).trans rfl, (blk_cell KI.out 5).trans rfl⟩ (fun hHeld => ?_)
 clear hK K
 refine norm_ (a' := ?_) ?_ ?_
 rotate_left
 · show Act.put _ (some 17) _ = _
   simp only [Act.put, List.setIfInBounds_toArray, List.set_cons_zero, List.set_cons_succ, i64_w, i32_w]
   rfl
 refine ow 5 (some 20) (M 8 63) fun K hK => ?_
 refine gow Tryz.func340 #[.agg #[.slice (some ⟨B1, 0, none⟩) 54 54, .slice (some ⟨B2, 0, none⟩) 32 32, .slice (some ⟨B3, 0, none⟩) 15 15, .slice (some ⟨B4, 0, none⟩) 7 7, .int .i64 40, .int .i64 5], .slice (some ⟨b2, 0, none⟩) l.length c2] ?_
 have hbw : Below w.heap.size w wd := by have h := KB.out; rwa [HNN.out] at h
 refine (mall_c k B1 B2 B3 B4 b2 c2 l hl HN.out _ (HT2.out.below hbw) (HI.out.g.below hbw) (Kd.C_below HI.out.c1 hbw)).mono ?_
 rintro e ws ⟨⟨v, rfl, ho⟩, hb⟩
 obtain ⟨gs, cs, hv, hgs, hts⟩ := own_tags ho HE.out
 have hv2 : v = .slice (some ⟨gs, 0, none⟩) l.length cs := hv
 subst hv2
 have Ts := Aside0.mk hts
 replace Td := Aside0.mk (Td.out.below hb)
 replace KI := kb KI hb
 replace KB : Aside0 (Below N w ws) := ⟨KB.out.trans (hb.mono (by rw [HNN.out]; exact hbw.size))⟩
 clear hb ho hv hts hbw
 refine ⟨_, rfl, ?_⟩
 refine hK.out _ _ ⟨(blk_cell KI.out 0).trans rfl, (blk_cell KI.out 1).trans rfl, (blk_cell KI.out 2).trans rfl, (blk_cell KI.out 3).trans rfl, (blk_cell KI.out 4).trans rfl, (blk_cell KI.out 5).trans rfl⟩ (fun hHeld => ?_)
 clear hK K
 refine norm_ (a' := ?_) ?_ ?_
 rotate_left
 · show Act.put _ (some 20) _ = _
   simp only [Act.put, List.setIfInBounds_toArray, List.set_cons_zero, List.set_cons_succ, i64_w, i32_w]
   rfl
 refine pw 6 7 (M 8 127) ?_
 refine pw 7 8 (M 8 255) ?_
 refine done_ (by kernel_rfl) ?_
 have hu22 := Tryz.underlying22
 have huu := Tryz.underlying337
 have hinfo : (Tryz.prog.info? 3).map (fun i => (i.zero, i.size, i.bytes)) = some (some (.int .i64 0), 1, 8) := by kernel_rfl
 obtain ⟨i9, hi9, hzz⟩ := Option.map_eq_some_iff.1 hinfo
 simp only [Prod.mk.injEq] at hzz
 obtain ⟨hz0, hz1, hz2⟩ := hzz
 have HL := Aside0.mk hl
 obtain ⟨q, hq⟩ : ∃ q, q = ws.heap.size := ⟨_, rfl⟩
 obtain ⟨V, hV⟩ : ∃ V, V = ws.alloc (.cells (T3c a.1 a.2.1 a.2.2) 33) := ⟨_, rfl⟩
 have KA : Aside0 (V.heap[q]? = some (.cells (T3c a.1 a.2.1 a.2.2) 33 (0, 0))) := ⟨by rw [hV]; exact aZ hq⟩
 have KI2 : Aside0 (V.heap[N]? = some (.cells (imgC B1 B2 B3 B4) 51 (0, 0))) := ⟨by rw [hV]; exact aN KI.out⟩
 have KB2 : Aside0 (Below N w V) := ⟨by rw [hV]; exact KB.out.alloc (Nat.le_of_lt (lt_blk KI.out)) _⟩
 have Ts2 : Aside0 (TagsAt V gs l) := ⟨Ts.out.below (by rw [hV]; exact below_alloc (Below.refl _ _) _)⟩
 obtain ⟨Wm, hmk, hom, hgm⟩ := run_make_own (P := Tryz.prog) V N 22 3 i9 (.int .i64 0) 1 hu22 hi9 hz0 hz1 .i64 .i64 l.length (by rw [hz2]; omega) (by simp [maxLen]; omega) (Nat.le_of_lt (lt_blk KI2.out))
 have hbm : Below V.heap.size V Wm := below_of_grown hgm
 have OM := Aside0.mk hom
 have KA3 := kb KA hbm
 have KI3 := kb KI2 hbm
 have KB3 : Aside0 (Below N w Wm) := ⟨KB2.out.trans (hbm.mono (Nat.le_of_lt (lt_blk KI2.out)))⟩
 have Ts3 : Aside0 (TagsAt Wm gs l) := ⟨Ts2.out.below hbm⟩
 have y0 : ws.cell? ⟨gd, 0, none⟩ = some (.string a.1) := Td.out.cells 0 a rfl 0 _ (by decide) rfl
 have y1 : ws.cell? ⟨gd, 1, none⟩ = some (.slice none 0 0) := Td.out.cells 0 a rfl 1 _ (by decide) rfl
 have y2 : ws.cell? ⟨gd, 2, none⟩ = some (.string a.2.1) := Td.out.cells 0 a rfl 2 _ (by decide) rfl
 have y3 : ws.cell? ⟨gd, 3, none⟩ = some (.string a.2.2) := Td.out.cells 0 a rfl 3 _ (by decide) rfl
 have y4 : ws.cell? ⟨gd, 4, none⟩ = some (.slice none 0 0) := Td.out.cells 0 a rfl 4 _ (by decide) rfl
 have y5 : ws.cell? ⟨gd, 5, none⟩ = some (.slice none 0 0) := Td.out.cells 0 a rfl 5 _ (by decide) rfl
 have y6 : ws.cell? ⟨gd, 6, none⟩ = some (.slice none 0 0) := Td.out.cells 0 a rfl 6 _ (by decide) rfl
 have y7 : ws.cell? ⟨gd, 7, none⟩ = some (.string ⟨#[]⟩) := Td.out.cells 0 a rfl 7 _ (by decide) rfl
 unfold T3c at hV
 rw [hq] at KA3
 have HV := Aside0.mk hV.symm
 have HQ := Aside0.mk hq.symm
 clear hV hom hgm hbm KA KI2 KB2 Ts2 hq KI KB hi9 hz0 hz1 hz2 hinfo
 go_wp2
 refine wp_loop_rounds 2 ?_
 rw [rounds_succ]
 go_wp2_with (first | (rw [HV.out]))
 clear y0 y1 y2 y3 y4 y5 y6 y7 hmk
 rw [HQ.out]
 go_loopw [32, 12] (fun vi vs wr => ∃ (i : Nat), vi = .int .i64 (i : Int) ∧ i ≤ l.length ∧ Aside0 (wr.heap[N]? = some (.cells (imgC B1 B2 B3 B4) 51 (0, 0))) ∧ Aside0 (wr.heap[q]? = some (.cells (T3c a.1 a.2.1 a.2.2) 33 (0, 0))) ∧ Aside0 (wr.ownsRow N 3 1 vs i ((l.take i).map fun t => .int .i64 (dstP a t))) ∧ Aside0 (TagsAt wr gs l) ∧ Aside0 (Below N w wr)) (fun vi _ _ => l.length - (intOf vi).toNat)
 case atStart => exact ⟨0, rfl, Nat.zero_le _, KI3, ⟨HQ.out ▸ KA3.out⟩, OM, Ts3, KB3⟩
 case round =>
  obtain ⟨i, rfl, hi, K_I, K_A, O_V, T_S, BB⟩ := hrel
  clear KI3 KA3 OM Ts3 KB3
  obtain ⟨V1, c1', e1⟩ := own_slice O_V.out
  subst e1
  by_cases hlt : i < l.length
  · obtain ⟨t, ht⟩ : ∃ t, l[i]? = some t := ⟨_, List.getElem?_eq_getElem hlt⟩
    have TW := T_S.out
    have x0 : wr.cell? ⟨gs, i * 8, none⟩ = some (.string t.1) := TW.cells i t ht 0 _ (by decide) rfl
    have x1 : wr.cell? ⟨gs, i * 8 + 1, none⟩ = some (.slice none 0 0) := TW.cells i t ht 1 _ (by decide) rfl
    have x2 : wr.cell? ⟨gs, i * 8 + 2, none⟩ = some (.string t.2.1) := TW.cells i t ht 2 _ (by decide) rfl
    have x3 : wr.cell? ⟨gs, i * 8 + 3, none⟩ = some (.string t.2.2) := TW.cells i t ht 3 _ (by decide) rfl
    have x4 : wr.cell? ⟨gs, i * 8 + 4, none⟩ = some (.slice none 0 0) := TW.cells i t ht 4 _ (by decide) rfl
    have x5 : wr.cell? ⟨gs, i * 8 + 5, none⟩ = some (.slice none 0 0) := TW.cells i t ht 5 _ (by decide) rfl
    have x6 : wr.cell? ⟨gs, i * 8 + 6, none⟩ = some (.slice none 0 0) := TW.cells i t ht 6 _ (by decide) rfl
    have x7 : wr.cell? ⟨gs, i * 8 + 7, none⟩ = some (.string ⟨#[]⟩) := TW.cells i t ht 7 _ (by decide) rfl
    have hsn : l.take (i + 1) = l.take i ++ [t] := by rw [List.take_add_one, ht]; rfl
    have HSN := Aside0.mk hsn
    have d1 : decide ((i : Int) < (l.length : Int)) = true := decide_eq_true (by omega)
    have m0 : (0 : Int) ≤ (i : Int) := by omega
    have m1 : (i : Int) < (l.length : Int) := by omega
    have m2 : i < l.length := hlt
    obtain ⟨V, hV⟩ : ∃ V, V = wr.alloc (.cells (T3c t.1 t.2.1 t.2.2) 33) := ⟨_, rfl⟩
    have U0 : V.heap[wr.heap.size]? = some (.cells (T3c t.1 t.2.1 t.2.2) 33 (0, 0)) := by rw [hV]; exact aZ rfl
    have I1 : V.heap[N]? = some (.cells (imgC B1 B2 B3 B4) 51 (0, 0)) := by rw [hV]; exact aN K_I.out
    have A1 : V.heap[q]? = some (.cells (T3c a.1 a.2.1 a.2.2) 33 (0, 0)) := by rw [hV]; exact aN K_A.out
    have BV : Aside0 (Below N w V) := ⟨by rw [hV]; exact BB.out.alloc (Nat.le_of_lt (lt_blk K_I.out)) _⟩
    have OV : Aside0 (V.ownsRow N 3 1 (.slice V1 i c1') i ((l.take i).map fun t => .int .i64 (dstP a t))) := ⟨by rw [hV]; exact World.ownsRow.alloc O_V.out _⟩
    have TV : Aside0 (TagsAt V gs l) := ⟨T_S.out.below (by rw [hV]; exact below_alloc (Below.refl _ _) _)⟩
    have K_1 := Aside0.mk I1
    have KA1 := Aside0.mk A1
    have IM : Aside0 (Img V B1 B2 B3 B4) := ⟨HI.out.below (by have h := BV.out; rwa [HNN.out] at h)⟩
    obtain ⟨i0, i1, i2, i3, i4, i5⟩ := cz6 (show V.heap[N]? = some (.cells #[.slice (some ⟨B1, 0, none⟩) 54 54, .slice (some ⟨B2, 0, none⟩) 32 32, .slice (some ⟨B3, 0, none⟩) 15 15, .slice (some ⟨B4, 0, none⟩) 7 7, .int .i64 40, .int .i64 5] 51 (0, 0)) from I1)
    obtain ⟨z0, z1, z2, z3, z4, z5, z6, z7⟩ := cz8t U0
    obtain ⟨y0, y1, y2, y3, y4, y5, y6, y7⟩ := cz8t A1
    unfold T3c at hV
    have HV2 := Aside0.mk hV.symm
    clear ht hsn TW hV U0 I1 A1
    go_wp2_with (first
     | (rw [HV2.out])
     | (go_at_call 341; refine (dist_c B1 B2 B3 B4 a t _ IM.out.c2 IM.out.c3 IM.out.c4).mono ?_; rintro e w1 ⟨rfl, hB⟩; have O1 : Aside0 (w1.ownsRow N 3 1 (.slice V1 i c1') i ((l.take i).map fun t => .int .i64 (dstP a t))) := ⟨pw_own_below OV.out hB⟩; have B1' := Aside0.mk (BV.out.trans (hB.mono (Nat.le_of_lt (lt_blk K_1.out)))); have K1 := kb K_1 hB; have A1 := kb KA1 hB; have T1 := Aside0.mk (TV.out.below hB); clear hB)
     | ((with_reducible refine gate_builtin (b := .append) (xs := #[.tmp 36, .tmp 41]) rfl ?_); at_builtin; refine print_append_cells (w0 := w) N rfl (.tmp 36) (.tmp 41) 22 3 (.int .i64 0) 1 8 rfl hu22 (by kernel_rfl) rfl (by decide) (by decide) (.slice V1 i c1') i ((l.take i).map fun t => .int .i64 (dstP a t)) [.int .i64 (dstP a t)] rfl ?hx rfl ?h1 O1.out B1'.out (Nat.le_of_lt (lt_blk K1.out)) ?hl ?_; (case hx => rfl); (case h1 => simp [Value.oneCell']); (case hl => have := HL.out; omega); intro v2 w2 ho hb2 hg hat; obtain ⟨V2, c2', rfl⟩ := own_slice ho; have O_2 := Aside0.mk ho; have B2' := Aside0.mk hb2; have K_2 := Aside0.mk ((hg.block _ (lt_blk K1.out) (own_ne O1.out K1.out (by decide))).trans K1.out); have A_2 := Aside0.mk ((hg.block _ (lt_blk A1.out) (own_ne O1.out A1.out (by decide))).trans A1.out); have T_2 : Aside0 (TagsAt w2 gs l) := ⟨by obtain ⟨cur, h1, h2⟩ := T1.out; exact ⟨cur, (hg.block _ (lt_blk h1) (own_ne O1.out h1 (by decide))).trans h1, h2⟩⟩; clear ho hb2 hg hat))
    go_roundw
    case rel =>
     exact ⟨i + 1, by congr 1, by omega, K_2, A_2, ⟨by rw [HSN.out, List.map_append]; exact O_2.out⟩, T_2, B2'⟩
    case measure => simp [intOf]; omega
  · obtain rfl : i = l.length := by omega
    have d1 : decide ((l.length : Int) < (l.length : Int)) = false := decide_eq_false (by omega)
    have ho := O_V.out
    rw [List.take_length] at ho
    have O_W := Aside0.mk ho
    clear ho O_V
    obtain ⟨r, hr, hrc⟩ := own_ints O_W.out HE.out
    subst hr
    have HR := Aside0.mk hrc
    have HBB := Aside0.mk BB.out
    clear hrc
    go_wp2_with (fail)
    rw [rounds_succ]
    go_wp2
    go_ret
    obtain ⟨Z, hZ⟩ : ∃ Z, Z = ((Question.appendCap 1 0 22).cut (wr.tape wr.drawn (Question.appendCap 1 0 22)) - 1) := ⟨_, rfl⟩
    have hfin : Below wr.heap.size wr (((wr.alloc (.cells #[.slice (some ⟨r, 0, none⟩) l.length c1'] 22)).alloc (.cells (#[.slice (some ⟨r, 0, none⟩) l.length c1'] ++ Builtin.zeroCells #[.slice none 0 0] Z) 22)).drew) := below_drew1 (below_alloc (below_alloc (Below.refl _ _) _) _)
    have hg : (((wr.alloc (.cells #[.slice (some ⟨r, 0, none⟩) l.length c1'] 22)).alloc (.cells (#[.slice (some ⟨r, 0, none⟩) l.length c1'] ++ Builtin.zeroCells #[.slice none 0 0] Z) 22)).drew).cell? ⟨wr.heap.size + 1, 0, none⟩ = some (.slice (some ⟨r, 0, none⟩) l.length c1') := by
     have hsz : wr.heap.size + 1 = (wr.alloc (.cells #[.slice (some ⟨r, 0, none⟩) l.length c1'] 22)).heap.size := by simp
     rw [hsz]
     exact cell_drew_new _ _ _ _ (by rw [Array.getElem?_append_left (by exact Nat.zero_lt_one)]; rfl)
    rw [hZ] at hfin hg
    refine ⟨⟨_, _, r, c1', rfl, hg, fun i t hi => (hfin.cell (p := ⟨r, i, none⟩) ?_).trans (HR.out.2 i t hi)⟩, ?_⟩
    · exact HR.out.1
    · have hn := HNN.out
      have hb := HBB.out
      rw [hn] at hb
      exact hb.trans (hfin.mono hb.size)
end Go.Proofs.YtpmcfckechjppaaGreatDoor.Ps
namespace Go.Proofs.YtpmcfckechjppaaGreatDoor.Ps
open Go.RowKit Go.Shelf Go.Proofs.YtpmcfckechjppaaGreatDoorW.PrintWords Go.Proofs.YtpmcfckechjppaaGreatDoorW.PrintLast Go.Proofs.YtpmcfckechjppaaGreatDoorW.PrintMore Go.Proofs.YtpmcfckechjppaaGreatDoor.P Go.Proofs.YtpmcfckechjppaaGreatDoor.LikW
attribute [local go_sem] Oper.semAt_some
set_option linter.unusedVariables false
set_option linter.unusedSimpArgs false
set_option maxRecDepth 100000
set_option maxHeartbeats 8000000
theorem near_c (k : Nat) (B1 B2 B3 B4 : Nat) (b1 c1 b2 c2 : Nat) (a x y z : K3) (ha : NoStep k a.1 a.2.1 a.2.2) (hN : ∀ t ∈ [x, y, z], NoStep k t.1 t.2.1 t.2.2) (e1 : dstP a x = 84) (e2 : dstP a y = 3) (e3 : dstP a z = 4) (w : World) (hT1 : TagsAt w b1 [a]) (hT2 : TagsAt w b2 [x, y, z]) (hI : Img w B1 B2 B3 B4) :
 Calls Tryz.prog 304 #[imgV B1 B2 B3 B4, .slice (some ⟨b1, 0, none⟩) 1 c1, .slice (some ⟨b2, 0, none⟩) 3 c2] w fun e w' => (∃ p v, e = .returned (.pointer (some ⟨p, 0, none⟩)) ∧ w.heap.size ≤ p ∧ PQ w' w.heap.size p v [(1, 0, 3), (2, 0, 4)]) ∧ Below w.heap.size w w' := by
 have hut := Tryz.underlying33
 have hui := Tryz.underlying51
 have hup := Tryz.underlying336
 have hum := Tryz.underlying247
 have hu22 := Tryz.underlying22
 have huu := Tryz.underlying337
 have HT1 := Aside0.mk hT1
 have HT2 := Aside0.mk hT2
 have HI := Aside0.mk hI
 have HN := Aside0.mk hN
 have HA := Aside0.mk ha
 have E1 := Aside0.mk e1
 have E2 := Aside0.mk e2
 have E3 := Aside0.mk e3
 clear hT1 hT2 hI hN ha e1 e2 e3
 unfold imgV
 go_enter Tryz.func304, Tryz.ntmps304
 go_wp2_with (first | (go_at_call 323; fail))
 obtain ⟨N, hN⟩ : ∃ N, N = w.heap.size := ⟨_, rfl⟩
 obtain ⟨W0, hW0⟩ : ∃ W0, W0 = (((w.alloc (.cells (imgC B1 B2 B3 B4) 51)).alloc (.cells #[] 247)).alloc (.cells #[.slice (some ⟨w.heap.size + 1, 0, none⟩) 0 0] 336)) := ⟨_, rfl⟩
 have KI : Aside0 (W0.heap[N]? = some (.cells (imgC B1 B2 B3 B4) 51 (0, 0))) := ⟨by rw [hW0, hN]; exact aN (aN (aZ rfl))⟩
 have KR : Aside0 (W0.heap[N + 1]? = some (.cells #[] 247 (0, 0))) := ⟨by rw [hW0, hN]; exact aN (aZ (by simp))⟩
 have KP : Aside0 (W0.heap[N + 1 + 1]? = some (.cells #[.slice (some ⟨N + 1, 0, none⟩) 0 0] 336 (0, 0))) := ⟨by rw [hW0, hN]; exact aZ (by simp)⟩
 have KB : Aside0 (Below N w W0) := ⟨by rw [hW0, hN]; exact below_alloc (below_alloc (below_alloc (Below.refl _ _) _) _) _⟩
 have KQ : Aside0 (PQ W0 N (N + 1 + 1) (.slice (some ⟨N + 1, 0, none⟩) 0 0) []) := ⟨KP.out, rfl, .inr ⟨N + 1, 0, #[], rfl, by omega, KR.out, Nat.le_refl _, Nat.zero_le _, rfl, rfl⟩⟩
 unfold imgC at hW0
 rw [← hW0, ← hN]
 have HNN := Aside0.mk hN.symm
 have BW : Aside0 (Below w.heap.size w W0) := ⟨hN ▸ KB.out⟩
 clear hW0 hN
 refine (table_c k B1 B2 B3 B4 b1 c1 b2 c2 a [x, y, z] (by simp) (by simp) HA.out HN.out W0 (HT1.out.below BW.out) (HT2.out.below BW.out) (HI.out.below BW.out)).mono ?_
 rintro e w1 ⟨⟨g, cg, r, cr, rfl, hg, hr⟩, hb1⟩
 have r0 : w1.cell? ⟨r, 0, none⟩ = some (.int .i64 84) := by rw [← E1.out]; exact hr 0 x rfl
 have r1 : w1.cell? ⟨r, 1, none⟩ = some (.int .i64 3) := by rw [← E2.out]; exact hr 1 y rfl
 have r2 : w1.cell? ⟨r, 2, none⟩ = some (.int .i64 4) := by rw [← E3.out]; exact hr 2 z rfl
 have hg3 : w1.cell? ⟨g, 0, none⟩ = some (.slice (some ⟨r, 0, none⟩) 3 cr) := hg
 have KI1 := kb KI hb1
 have KR1 := kb KR hb1
 have KP1 := kb KP hb1
 have KB1 : Aside0 (Below N w w1) := ⟨KB.out.trans (hb1.mono (Nat.le_of_lt (lt_blk KI.out)))⟩
 have KQ1 : Aside0 (PQ w1 N (N + 1 + 1) (.slice (some ⟨N + 1, 0, none⟩) 0 0) []) := ⟨KP1.out, pw_own_below KQ.out.2 hb1⟩
 have R2 := Aside0.mk r2
 have np : Aside0 (r ≠ N + 1 + 1) := ⟨fun e => by rw [e, blk_cell KP1.out 0] at r0; simp at r0⟩
 have nr : Aside0 (r ≠ N + 1) := ⟨fun e => by rw [e, blk_cell KR1.out 0] at r0; simp at r0⟩
 have lr : Aside0 (r < w1.heap.size) := ⟨World.block_lt_of_cell? w1 _ r0⟩
 obtain ⟨i0, i1, i2, i3, i4, i5⟩ := cz6 (show w1.heap[N]? = some (.cells #[.slice (some ⟨B1, 0, none⟩) 54 54, .slice (some ⟨B2, 0, none⟩) 32 32, .slice (some ⟨B3, 0, none⟩) 15 15, .slice (some ⟨B4, 0, none⟩) 7 7, .int .i64 40, .int .i64 5] 51 (0, 0)) from KI1.out)
 clear hg hr hb1 KI KR KP KB KQ
 have hmi : ∀ (u : Value) (W : World), (Instr.makeInterface 312 u).run Tryz.prog W = .ok (.iface 312 u) W := fun u W => by kernel_rfl
 go_wp2
 refine wp_loop_rounds 2 ?_
 rw [rounds_succ]
 go_wp2
 refine wp_loop_rounds 4 ?_
 rw [rounds_succ]
 go_wp2
 rw [rounds_succ]
 go_wp2_with (first
  | (go_at_call 324; refine (push1_c N (N + 1 + 1) _ 1 0 3 w _ KB1.out (by omega) KQ1.out).mono ?_; rintro e w2 ⟨⟨x2, rfl⟩, v2, hq, hb, hk, ho⟩; have KQ2 := Aside0.mk hq; have KB2 := Aside0.mk hb; have q2 : w2.cell? ⟨r, 2, none⟩ = some (.int .i64 4) := (World.cell?_of_block (hk.2 r lr.out np.out (fun e => nr.out (by simpa [Value.ownBlock] using e)))).trans R2.out; have KI2 : Aside0 (w2.heap[N]? = some (.cells (imgC B1 B2 B3 B4) 51 (0, 0))) := ⟨(hk.2 N (lt_blk KI1.out) (by omega) (fun e => by simp [Value.ownBlock] at e)).trans KI1.out⟩; clear hq hb hk ho i0 i1 i2 i3 i4 i5; obtain ⟨i0, i1, i2, i3, i4, i5⟩ := cz6 (show w2.heap[N]? = some (.cells #[.slice (some ⟨B1, 0, none⟩) 54 54, .slice (some ⟨B2, 0, none⟩) 32 32, .slice (some ⟨B3, 0, none⟩) 15 15, .slice (some ⟨B4, 0, none⟩) 7 7, .int .i64 40, .int .i64 5] 51 (0, 0)) from KI2.out)))
 rw [rounds_succ]
 go_wp2_with (first
  | (go_at_call 324; refine (push2_c N (N + 1 + 1) v2 1 0 3 2 0 4 (by decide) w _ KB2.out (by omega) KQ2.out).mono ?_; rintro e w3 ⟨⟨x3, rfl⟩, v3, hq, hb, hk, ho⟩; have KQ3 := Aside0.mk hq; have KB3 := Aside0.mk hb; clear hq hb hk ho))
 rw [rounds_succ]
 go_wp2
 rw [rounds_succ]
 go_wp2
 go_ret
 have hn := HNN.out
 exact ⟨⟨N + 1 + 1, v3, rfl, by omega, hn ▸ KQ3.out⟩, hn ▸ KB3.out⟩
def encM (m : Int × Int × Int) : Array Value := #[.agg #[.int .i64 m.1, .int .i64 m.2.1, .int .i64 m.2.2]]
theorem ranked1_one (n : Nat) (hn : 1 ≤ n) (k : Nat) (B1 B2 B3 B4 : Nat) (b1 c1 b2 c2 : Nat) (a x y z : K3) (ha : NoStep k a.1 a.2.1 a.2.2) (hN : ∀ t ∈ [x, y, z], NoStep k t.1 t.2.1 t.2.2) (e1 : dstP a x = 84) (e2 : dstP a y = 3) (e3 : dstP a z = 4) (w : World) (hT1 : TagsAt w b1 [a]) (hT2 : TagsAt w b2 [x, y, z]) (hI : Img w B1 B2 B3 B4)
 (pi p1 p2 : Nat) (hpi : w.heap[pi]? = some (.cells (imgC B1 B2 B3 B4) 51 (0, 0))) (hp1 : w.heap[p1]? = some (.cells #[.slice (some ⟨b1, 0, none⟩) 1 c1] 193 (0, 0))) (hp2 : w.heap[p2]? = some (.cells #[.slice (some ⟨b2, 0, none⟩) 3 c2] 193 (0, 0))) :
 SeqOne Fence.wide n Tryz.prog 303 #[.pointer (some ⟨pi, 0, none⟩), .pointer (some ⟨p1, 0, none⟩), .pointer (some ⟨p2, 0, none⟩)] encM (1, 0, 3) w := fun l J Jx W hW hJ hJx hY h0 => by
 have hui := Tryz.underlying51
 have hum := Tryz.underlying247
 have hmi : ∀ (u : Value) (W : World), (Instr.makeInterface 312 u).run Tryz.prog W = .ok (.iface 312 u) W := fun u W => by kernel_rfl
 have hta : ∀ (u : Value) (W : World), (Instr.typeAssert (.iface 247 u) 20 247 true).run Tryz.prog W = .ok (.tuple #[u, .bool true]) W := fun u W => by kernel_rfl
 obtain ⟨i0, i1, i2, i3, i4, i5⟩ := cz6 (show W.heap[pi]? = some (.cells #[.slice (some ⟨B1, 0, none⟩) 54 54, .slice (some ⟨B2, 0, none⟩) 32 32, .slice (some ⟨B3, 0, none⟩) 15 15, .slice (some ⟨B4, 0, none⟩) 7 7, .int .i64 40, .int .i64 5] 51 (0, 0)) from (hW.block _ (lt_blk hpi)).trans hpi)
 have d1 := (blk_cell ((hW.block _ (lt_blk hp1)).trans hp1) 0).trans rfl
 have d2 := (blk_cell ((hW.block _ (lt_blk hp2)).trans hp2) 0).trans rfl
 have HT1 := Aside0.mk (hT1.below hW)
 have HT2 := Aside0.mk (hT2.below hW)
 have HI := Aside0.mk (hI.below hW)
 have HN := Aside0.mk hN
 have HA := Aside0.mk ha
 have E1 := Aside0.mk e1
 have E2 := Aside0.mk e2
 have E3 := Aside0.mk e3
 have HY := Aside0.mk hY
 have HJ := Aside0.mk hJ
 have H0 := Aside0.mk h0
 clear hT1 hT2 hI hN ha e1 e2 e3 hpi hp1 hp2 hW hJ hJx hY h0
 refine callsIn_of_wp Tryz.func303 rfl trivial ?_ rfl
 simp only [Tryz.ntmps303, List.size_toArray, List.length_cons, List.length_nil, Nat.reduceAdd, Nat.reduceSub, Array.replicate_succ, Array.replicate_zero, List.push_toArray, List.append_toArray, List.nil_append, List.cons_append]
 gi_wp2_with (first
  | (refine ⟨trivial, callsIn_wide.2 (Calls.mono (near_c k B1 B2 B3 B4 b1 c1 b2 c2 a x y z HA.out HN.out E1.out E2.out E3.out _ HT1.out HT2.out HI.out) ?_)⟩; rintro e w1 ⟨⟨p, v, rfl, hp, hq⟩, hb⟩; have Q1 := Aside0.mk hq; have B1w := Aside0.mk hb; obtain ⟨A1, cc, hv⟩ := own_slice hq.2; subst hv; have z1 := meth_Len p w1 _ ((blk_cell hq.1 0).trans rfl); clear hq hb))
 refine wpIn_loop_rounds 1 ?_
 rw [roundsIn_succ]
 gi_wp2_with (first
  | (refine ⟨trivial, callsIn_wide.2 (Calls.mono (len_c _ _ _ _) ?_)⟩; rintro e w2 ⟨rfl, hw2⟩; rw [hw2]; clear hw2)
  | (refine ⟨trivial, callsIn_wide.2 (Calls.mono (pop2_c W.heap.size p _ 1 0 3 2 0 4 W _ B1w.out hp Q1.out) ?_)⟩; rintro e w3 ⟨rfl, hb3⟩; have B3 := Aside0.mk hb3; obtain ⟨w4, hw4⟩ : ∃ w4, w4 = w3.alloc (.cells #[.int .i64 1, .int .i64 0, .int .i64 3] 247) := ⟨_, rfl⟩; have J4 : J [] w4 := HJ.out _ _ _ none H0.out (grown_of_below (by rw [hw4]; exact below_alloc hb3 _) none) (fun r e => by cases e); obtain ⟨fn, tmps, assign, body, hy, hR⟩ := HY.out w4 J4; have HR := Aside0.mk hR; rw [hw4] at hy HR; simp only [encM] at hy; clear hR hb3 hw4 J4))
 refine HR.out.mono ?_
 rintro e W5 ⟨rfl, hJ5⟩
 have HJ5 := Aside0.mk hJ5
 clear hJ5 hy
 gi_wp2_with (fail)
 refine bodyPost_ret (results_none rfl _ _ _) rfl ?_
 exact ⟨⟨_, rfl⟩, HJ5.out⟩
theorem ranked_c (n : Nat) (B1 B2 B3 B4 : Nat) (b1 c1 b2 c2 : Nat) (w : World) : CallsIn Fence.wide n Tryz.prog 263 #[imgV B1 B2 B3 B4, .slice (some ⟨b1, 0, none⟩) 1 c1, .slice (some ⟨b2, 0, none⟩) 3 c2] w fun e w' =>
 e = .returned (.func (.func 303) #[] #[.pointer (some ⟨w.heap.size, 0, none⟩), .pointer (some ⟨w.heap.size + 1, 0, none⟩), .pointer (some ⟨w.heap.size + 1 + 1, 0, none⟩)]) ∧ w' = ((w.alloc (.cells (imgC B1 B2 B3 B4) 51)).alloc (.cells #[.slice (some ⟨b1, 0, none⟩) 1 c1] 193)).alloc (.cells #[.slice (some ⟨b2, 0, none⟩) 3 c2] 193) := by
 have hmf : ∀ (fn : Fn) (first cap : Array Value) (w : World), (Instr.makeFunc fn first cap).run Tryz.prog w = .ok (.func fn first cap) w := fun _ _ _ _ => rfl
 have hui := Tryz.underlying51
 unfold imgV imgC
 refine callsIn_of_wp Tryz.func263 rfl trivial ?_ rfl
 simp only [Tryz.ntmps263, List.size_toArray, List.length_cons, List.length_nil, Nat.reduceAdd, Nat.reduceSub, Array.replicate_succ, Array.replicate_zero, List.push_toArray, List.append_toArray, List.nil_append, List.cons_append]
 gi_wp2
 go_ret
 exact ⟨rfl, rfl⟩
theorem best_c (k : Nat) (B1 B2 B3 B4 : Nat) (b1 c1 b2 c2 : Nat) (a x y z : K3) (ha : NoStep k a.1 a.2.1 a.2.2) (hN : ∀ t ∈ [x, y, z], NoStep k t.1 t.2.1 t.2.2) (e1 : dstP a x = 84) (e2 : dstP a y = 3) (e3 : dstP a z = 4) (w : World) (hT1 : TagsAt w b1 [a]) (hT2 : TagsAt w b2 [x, y, z]) (hI : Img w B1 B2 B3 B4) :
 Calls Tryz.prog 219 #[imgV B1 B2 B3 B4, .slice (some ⟨b1, 0, none⟩) 1 c1, .slice (some ⟨b2, 0, none⟩) 3 c2] w fun e w' => e = .returned (.tuple #[.agg #[.int .i64 1, .int .i64 0, .int .i64 3], .bool true]) ∧ Below w.heap.size w w' := by
 have hui := Tryz.underlying51
 have hum := Tryz.underlying247
 have HT1 := Aside0.mk hT1
 have HT2 := Aside0.mk hT2
 have HI := Aside0.mk hI
 have HN := Aside0.mk hN
 have HA := Aside0.mk ha
 have E1 := Aside0.mk e1
 have E2 := Aside0.mk e2
 have E3 := Aside0.mk e3
 clear hT1 hT2 hI hN ha e1 e2 e3
 unfold imgV
 refine (callsIn_wide (n := 4)).1 ?_
 refine callsIn_of_wp_marks Tryz.func219 rfl trivial ?_ rfl
 simp only [Tryz.ntmps219, List.size_toArray, List.length_cons, List.length_nil, Nat.reduceAdd, Nat.reduceSub, Array.replicate_succ, Array.replicate_zero, List.push_toArray, List.append_toArray, List.nil_append, List.cons_append]
 gi_wp2_with (first
  | (refine ⟨trivial, ?_⟩; gi_at_call 263; refine (ranked_c _ B1 B2 B3 B4 b1 c1 b2 c2 _).mono ?_; rintro e w2 ⟨rfl, rfl⟩))
 obtain ⟨N, hN⟩ : ∃ N, N = w.heap.size := ⟨_, rfl⟩
 obtain ⟨W0, hW0⟩ : ∃ W0, ((((((w.alloc (.cells (imgC B1 B2 B3 B4) 51)).alloc (.cells #[.int .i64 0, .int .i64 0, .int .i64 0] 247)).alloc (.cells #[.bool false] 4)).alloc (.cells (imgC B1 B2 B3 B4) 51)).alloc (.cells #[.slice (some ⟨b1, 0, none⟩) 1 c1] 193)).alloc (.cells #[.slice (some ⟨b2, 0, none⟩) 3 c2] 193)) = W0 := ⟨_, rfl⟩
 have n1 : W0.heap[N + 1]? = some (.cells #[.int .i64 0, .int .i64 0, .int .i64 0] 247 (0, 0)) := by rw [← hW0, hN]; exact aN (aN (aN (aN (aZ (by simp)))))
 have n2 : W0.heap[N + 1 + 1]? = some (.cells #[.bool false] 4 (0, 0)) := by rw [← hW0, hN]; exact aN (aN (aN (aZ (by simp))))
 have n3 : W0.heap[N + 1 + 1 + 1]? = some (.cells (imgC B1 B2 B3 B4) 51 (0, 0)) := by rw [← hW0, hN]; exact aN (aN (aZ (by simp)))
 have n4 : W0.heap[N + 1 + 1 + 1 + 1]? = some (.cells #[.slice (some ⟨b1, 0, none⟩) 1 c1] 193 (0, 0)) := by rw [← hW0, hN]; exact aN (aZ (by simp))
 have n5 : W0.heap[N + 1 + 1 + 1 + 1 + 1]? = some (.cells #[.slice (some ⟨b2, 0, none⟩) 3 c2] 193 (0, 0)) := by rw [← hW0, hN]; exact aZ (by simp)
 have s0 : W0.heap.size = N + 1 + 1 + 1 + 1 + 1 + 1 := by rw [← hW0, hN]; simp
 have hB0 : Below N w W0 := by rw [← hW0, hN]; exact below_alloc (below_alloc (below_alloc (below_alloc (below_alloc (below_alloc (Below.refl _ _) _) _) _) _) _) _
 have hBw : Below w.heap.size w W0 := hN ▸ hB0
 unfold imgC at hW0 ⊢
 rw [hW0, ← hN]
 have HNN := Aside0.mk hN
 clear hW0 hN
 refine range_one rfl (by omega) (gf := 303) (lb := #[.pointer (some ⟨N + 1 + 1 + 1, 0, none⟩), .pointer (some ⟨N + 1 + 1 + 1 + 1, 0, none⟩), .pointer (some ⟨N + 1 + 1 + 1 + 1 + 1, 0, none⟩)]) rfl trivial (enters_of Tryz.func303 (by kernel_rfl) rfl)
  (ranked1_one _ (by omega) k B1 B2 B3 B4 b1 c1 b2 c2 a x y z HA.out HN.out E1.out E2.out E3.out W0 (HT1.out.below hBw) (HT2.out.below hBw) (HI.out.below hBw) (N + 1 + 1 + 1) (N + 1 + 1 + 1 + 1) (N + 1 + 1 + 1 + 1 + 1) n3 n4 n5) (Below.refl _ _) rfl
  (fun W => W.heap[N + 1]? = some (.cells #[.int .i64 0, .int .i64 0, .int .i64 0] 247 (0, 0)) ∧ W.heap[N + 1 + 1]? = some (.cells #[.bool false] 4 (0, 0)) ∧ Below N w W)
  (fun c W => c = .ret ∧ W.heap[N + 1]? = some (.cells #[.int .i64 1, .int .i64 0, .int .i64 3] 247 (0, 0)) ∧ W.heap[N + 1 + 1]? = some (.cells #[.bool true] 4 (0, 0)) ∧ Below N w W)
  (fun pre A B row ⟨i1, i2, i3⟩ hg hr => ⟨(hg.block _ (lt_blk i1) (fun e => by have := hr _ e.symm; omega)).trans i1, (hg.block _ (lt_blk i2) (fun e => by have := hr _ e.symm; omega)).trans i2, i3.grown hg (by have := lt_blk i1; omega) (fun r e => by have := hr r e; omega)⟩)
  (fun c pre A B row ⟨i0, i1, i2, i3⟩ hg hr => ⟨i0, (hg.block _ (lt_blk i1) (fun e => by have := hr _ e.symm; omega)).trans i1, (hg.block _ (lt_blk i2) (fun e => by have := hr _ e.symm; omega)).trans i2, i3.grown hg (by have := lt_blk i1; omega) (fun r e => by have := hr r e; omega)⟩)
  ⟨n1, n2, hB0⟩ ?round ?stop
 case round =>
  rintro lp W K hlp ⟨i1, i2, i3⟩ hK
  simp only [encM]
  have I1 := Aside0.mk i1
  have I2 := Aside0.mk i2
  have I3 := Aside0.mk i3
  clear i1 i2 i3 n1 n2 n3 n4 n5
  gi_wp2
  have hu0 : (W.alloc (.cells #[.int .i64 1, .int .i64 0, .int .i64 3] 247)).heap[W.heap.size]? = some (.cells #[.int .i64 1, .int .i64 0, .int .i64 3] 247 (0, 0)) := aZ rfl
  have hb0 : Below W.heap.size W (W.alloc (.cells #[.int .i64 1, .int .i64 0, .int .i64 3] 247)) := below_alloc (Below.refl _ _) _
  refine hK _ _ ((ko_below hb0).from _) ?_
  rintro W3 ⟨r, o, hr, hW3, ⟨q, hq, hqc⟩, hoc⟩
  have hrne : ∀ (k : Nat) (o' : Obj), (W.alloc (.cells #[.int .i64 1, .int .i64 0, .int .i64 3] 247)).heap[k]? = some o' → o'.isCells = true → W3.heap[k]? = some o' := fun k o' h1 h2 => by
   rw [hW3]
   refine (World.putObj_heap_other ?_).trans h1
   rintro rfl
   rw [hq] at h1
   cases h1
   rw [hqc] at h2
   cases h2
  have U3 := Aside0.mk (hrne _ _ hu0 rfl)
  have L1 := Aside0.mk (hrne _ _ ((hb0.block _ (lt_blk I1.out)).trans I1.out) rfl)
  have L2 := Aside0.mk (hrne _ _ ((hb0.block _ (lt_blk I2.out)).trans I2.out) rfl)
  have B3' : Aside0 (Below N w W3) := ⟨by rw [hW3]; have h1 := I3.out.size; have h2 := hb0.size; have h3 := HNN.out; have h4 := lt_blk I2.out; exact below_putM (by omega) (by omega) (I3.out.trans (hb0.mono (by omega))) (by omega) _⟩
  clear hu0 hb0 hW3 hq hqc hoc hrne hK I1 I2 I3
  have u0 := (blk_cell U3.out 0).trans rfl
  have u1 := (blk_cell U3.out 1).trans rfl
  have u2 := (blk_cell U3.out 2).trans rfl
  have l0 := (blk_cell L1.out 0).trans rfl
  have l1 := (blk_cell L1.out 1).trans rfl
  have l2 := (blk_cell L1.out 2).trans rfl
  have f0 := blk_frozen L1.out 0
  have f1 := blk_frozen L1.out 1
  have f2 := blk_frozen L1.out 2
  have g0 := (blk_cell L2.out 0).trans rfl
  have h0 := blk_frozen L2.out 0
  refine wpIn_block ?_
  gi_wp2_with (fail)
  have T3 := blk_put (blk_put (blk_put L1.out 0 (.int .i64 1) rfl) 1 (.int .i64 0) rfl) 2 (.int .i64 3) rfl
  have S2 : ((((W3.setCell ⟨N + 1, 0, none⟩ (.int .i64 1)).setCell ⟨N + 1, 1, none⟩ (.int .i64 0)).setCell ⟨N + 1, 2, none⟩ (.int .i64 3))).heap[N + 1 + 1]? = some (.cells #[.bool false] 4 (0, 0)) := blk_far (blk_far (blk_far L2.out (by simp) _) (by simp) _) (by simp) _
  refine ⟨((((KeepsOthers.of_grownBy (grown_setCell _ _ _ _) (fun k o e ho => by cases e; rw [L1.out] at ho; cases ho; rfl)).trans (KeepsOthers.of_grownBy (grown_setCell _ _ _ _) (fun k o e ho => by cases e; rw [blk_put L1.out 0 (.int .i64 1) rfl] at ho; cases ho; rfl))).trans (KeepsOthers.of_grownBy (grown_setCell _ _ _ _) (fun k o e ho => by cases e; rw [blk_put (blk_put L1.out 0 (.int .i64 1) rfl) 1 (.int .i64 0) rfl] at ho; cases ho; rfl))).trans (KeepsOthers.of_grownBy (grown_setCell _ _ _ _) (fun k o e ho => by cases e; rw [S2] at ho; cases ho; rfl))).from _, rfl, blk_far T3 (by simp) _, blk_put S2 0 _ rfl, below_set' (below_set' (below_set' (below_set' B3'.out (by omega)) (by omega)) (by omega)) (by omega)⟩
 case stop =>
  rintro D c W hD ⟨rfl, i1, i2, i3⟩ hK
  refine wpIn_ret ?_
  simp only [Exit.inBlock, Exit.then]
  have h0 := HNN.out
  refine ⟨by simp, .inl ⟨D, _, rfl, run_takeDeferred hK, ?_⟩⟩
  obtain ⟨W8, hW8⟩ : ∃ W8, W8 = W.putObj D (.deferred none) := ⟨_, rfl⟩
  have T8 : W8.heap[N + 1]? = some (.cells #[.int .i64 1, .int .i64 0, .int .i64 3] 247 (0, 0)) := by rw [hW8]; exact (World.putObj_heap_other (by omega)).trans i1
  have S8 : W8.heap[N + 1 + 1]? = some (.cells #[.bool true] 4 (0, 0)) := by rw [hW8]; exact (World.putObj_heap_other (by omega)).trans i2
  have B8 : Below w.heap.size w W8 := by
   rw [hW8, ← h0]
   exact i3.trans (belowK_b (w := w) (by omega) _ D _ _ (by omega) hK rfl rfl)
  have c0 := (blk_cell T8 0).trans rfl
  have c1 := (blk_cell T8 1).trans rfl
  have c2 := (blk_cell T8 2).trans rfl
  have d0 := (blk_cell S8 0).trans rfl
  rw [← hW8]
  show ∃ v, _ ∧ _
  refine ⟨.tuple #[.agg #[.int .i64 1, .int .i64 0, .int .i64 3], .bool true], ?_, rfl, B8⟩
  simp [results, Tryz.results219, asAddr, c0, c1, c2, d0, hum, go_sem]
theorem choose_c (k : Nat) (B1 B2 B3 B4 : Nat) (b1 c1 b2 c2 : Nat) (a x y z : K3) (ha : NoStep k a.1 a.2.1 a.2.2) (hN : ∀ t ∈ [x, y, z], NoStep k t.1 t.2.1 t.2.2) (e1 : dstP a x = 84) (e2 : dstP a y = 3) (e3 : dstP a z = 4) (w : World) (hT1 : TagsAt w b1 [a]) (hT2 : TagsAt w b2 [x, y, z]) (hI : Img w B1 B2 B3 B4) (o : Int) :
 Calls Tryz.prog 171 #[imgV B1 B2 B3 B4, .slice (some ⟨b1, 0, none⟩) 1 c1, .slice (some ⟨b2, 0, none⟩) 3 c2, .int .i64 o] w fun e w' => e = .returned (.int .i64 1) ∧ Below w.heap.size w w' := by
 have hui := Tryz.underlying51
 have hum := Tryz.underlying247
 obtain ⟨V, hV⟩ : ∃ V, V = w.alloc (.cells (imgC B1 B2 B3 B4) 51) := ⟨_, rfl⟩
 have hB : Below w.heap.size w V := by rw [hV]; exact below_alloc (Below.refl _ _) _
 have HT1 := Aside0.mk (hT1.below hB)
 have HT2 := Aside0.mk (hT2.below hB)
 have HI := Aside0.mk (hI.below hB)
 have HB := Aside0.mk hB
 have HN := Aside0.mk hN
 have HA := Aside0.mk ha
 have E1 := Aside0.mk e1
 have E2 := Aside0.mk e2
 have E3 := Aside0.mk e3
 unfold imgC at hV
 have HV := Aside0.mk hV.symm
 obtain ⟨i0, i1, i2, i3, i4, i5⟩ := cz6 (show V.heap[w.heap.size]? = some (.cells #[.slice (some ⟨B1, 0, none⟩) 54 54, .slice (some ⟨B2, 0, none⟩) 32 32, .slice (some ⟨B3, 0, none⟩) 15 15, .slice (some ⟨B4, 0, none⟩) 7 7, .int .i64 40, .int .i64 5] 51 (0, 0)) from by rw [hV]; exact aZ rfl)
 clear hT1 hT2 hI hN ha e1 e2 e3 hB hV
 unfold imgV
 go_enter Tryz.func171, Tryz.ntmps171
 go_wp2_with (first
  | (rw [HV.out])
  | (go_at_call 219; refine (best_c k B1 B2 B3 B4 b1 c1 b2 c2 a x y z HA.out HN.out E1.out E2.out E3.out _ HT1.out HT2.out HI.out).mono ?_; rintro e w2 ⟨rfl, hb⟩))
 go_ret
 refine ⟨rfl, ?_⟩
 have h := HB.out.trans (hb.mono HB.out.size)
 repeat (first | exact h | refine below_alloc ?_ _ | refine below_set' ?_ (by have := h.size; omega))
end Go.Proofs.YtpmcfckechjppaaGreatDoor.Ps
namespace Go.Proofs.YtpmcfckechjppaaGreatDoor.Ps
open Go.RowKit Go.Shelf Go.Proofs.YtpmcfckechjppaaGreatDoorW.PrintWords Go.Proofs.YtpmcfckechjppaaGreatDoorW.PrintLast Go.Proofs.YtpmcfckechjppaaGreatDoorW.PrintMore Go.Proofs.YtpmcfckechjppaaGreatDoor.P Go.Proofs.YtpmcfckechjppaaGreatDoor.LikW
set_option linter.unusedVariables false
set_option linter.unusedSimpArgs false
set_option maxRecDepth 100000
set_option maxHeartbeats 8000000
def TextsAt (W : World) (b : Nat) (l : List ByteArray) : Prop := ∃ cur, W.heap[b]? = some (.cells cur 9 (0, 0)) ∧ ∀ (i : Nat) t, l[i]? = some t → cur[i]? = some (.string t)
theorem TextsAt.below {W W1 : World} {b : Nat} {l : List ByteArray} (h : TextsAt W b l) (hb : Below W.heap.size W W1) : TextsAt W1 b l := by
 obtain ⟨cur, h1, h2⟩ := h
 exact ⟨cur, (hb.block _ (lt_blk h1)).trans h1, h2⟩
theorem TextsAt.cell {W : World} {b : Nat} {l : List ByteArray} (h : TextsAt W b l) (i : Nat) (t : ByteArray) (hi : l[i]? = some t) : W.cell? ⟨b, i, none⟩ = some (.string t) := by
 obtain ⟨cur, h1, h2⟩ := h
 exact (blk_cell h1 i).trans (h2 i t hi)
theorem TextsAt.drop {W : World} {b : Nat} {l : List ByteArray} (h : TextsAt W b l) : b < W.heap.size := by
 obtain ⟨cur, h1, h2⟩ := h
 exact lt_blk h1
def GM (w : World) : Prop := ∃ m t fr, w.heap[2]? = some (.cells #[.int .i64 m] t fr)
theorem GM.below {w w1 : World} (h : GM w) (hb : Below w.heap.size w w1) : GM w1 := by
 obtain ⟨m, t, fr, hg⟩ := h
 exact ⟨m, t, fr, (hb.block 2 (lt_blk hg)).trans hg⟩
theorem GM.cell {w : World} (h : GM w) : ∃ m, w.cell? ⟨2, 0, none⟩ = some (.int .i64 m) := by
 obtain ⟨m, t, fr, hg⟩ := h
 exact ⟨m, by simp [World.cell?, hg]⟩
theorem word1_c (x : ByteArray) (W : World) : Calls Tryz.prog 90 #[.string x] W fun e w' => e = .returned (.bool x.toList.isEmpty) ∧ ∃ q, w' = W.drewN q := by
 cases h : x.toList.isEmpty
 all_goals
  go_enter Tryz.func90, Tryz.ntmps90
  go_wp2
  go_ret
  exact ⟨rfl, 0, rfl⟩
theorem row_put {W : World} {b : Nat} {cur : Array Value} {e : TypeId} (h : W.heap[b]? = some (.cells cur e (0, 0))) (d : Array ByteArray) (q : Nat) : (Sort.putRow Value.string (Sort.ahead W q) b 0 d).heap[b]? = some (.cells (Sort.putCells Value.string 0 d cur) e (0, 0)) := by
 simp [Sort.putRow, Sort.mapBlock, Sort.ahead, Sort.onCells, Array.getElem?_modify, h]
theorem row_far {W : World} {b k : Nat} (hk : k ≠ b) (d : Array ByteArray) (q : Nat) : (Sort.putRow Value.string (Sort.ahead W q) b 0 d).heap[k]? = W.heap[k]? := by
 simp [Sort.putRow, Sort.mapBlock, Sort.ahead, Array.getElem?_modify, Ne.symm hk]
theorem dele_c (l : List ByteArray) (W : World) (b : Nat) (hh : Sort.Holds Value.string W b 0 l.toArray) (hl : l.length ≤ 1000000) :
 Calls Tryz.prog 88 #[.slice (some ⟨b, 0, none⟩) l.length l.length, .func (.func 90) #[] #[]] W fun e w' => e = .returned (.slice (some ⟨b, 0, none⟩) (full1 l).length l.length) ∧ ∃ q, w' = Sort.putRow Value.string (Sort.ahead W q) b 0 ((full1 l) ++ List.replicate (l.toArray.size - (full1 l).length) (⟨#[]⟩ : ByteArray)).toArray := by
 have h := Tryz.slices_DeleteFunc Value.string (fun _ => rfl) (fun x : ByteArray => x.toList.isEmpty) 90 #[] (enters_of Tryz.func90 (by kernel_rfl) rfl) ⟨#[]⟩ (fun w => by kernel_rfl) b 0 l.length l.toArray W (fun W x _ => word1_c x W) (fun _ _ _ x _ => word1_c x _) hh (by simp; omega) (by simp)
 exact h
theorem words_c (s : ByteArray) (l : List ByteArray) (hl : Lib.splitB ⟨#[32]⟩ 0 (Lib.countB s ⟨#[32]⟩) s = l) (hn : Lib.countB s ⟨#[32]⟩ + 1 = l.length) (hne : full1 l = l) (hs : s.size < 4294967281) (hlen : l.length ≤ 1000000) (w : World) (hG : GM w) :
 Calls Tryz.prog 58 #[.string s] w fun e w' => (∃ b, e = .returned (.slice (some ⟨b, 0, none⟩) l.length l.length) ∧ w.heap.size ≤ b ∧ TextsAt w' b l) ∧ Below w.heap.size w w' := by
 obtain ⟨m, hm⟩ := hG.cell
 have HM := Aside0.mk hm
 have HL := Aside0.mk hl
 have HN := Aside0.mk hn
 have HE := Aside0.mk hne
 have HS := Aside0.mk hs
 obtain ⟨W1, hW1⟩ : ∃ W1, W1 = w.alloc (.cells (l.map Value.string).toArray 9) := ⟨_, rfl⟩
 have k1 : W1.heap[w.heap.size]? = some (.cells (l.map Value.string).toArray 9 (0, 0)) := by rw [hW1]; exact aZ rfl
 have b1 : Below w.heap.size w W1 := by rw [hW1]; exact below_alloc (Below.refl _ _) _
 have hh : Sort.Holds Value.string W1 w.heap.size 0 l.toArray := fun j hj => by
  have hj' : j < l.length := by simpa using hj
  refine ⟨?_, blk_frozen k1 _⟩
  rw [Nat.zero_add]
  refine (blk_cell k1 j).trans ?_
  simp [List.getElem?_eq_getElem hj', hj']
 have K1 := Aside0.mk k1
 have B1 := Aside0.mk b1
 have HH := Aside0.mk hh
 have HW := Aside0.mk hW1
 clear hl hn hne hs hm k1 b1 hh hW1 hG
 have eg := enters_of Tryz.func90 (by kernel_rfl) rfl
 unfold Enters at eg
 go_enter Tryz.func58, Tryz.ntmps58
 go_wp2_with (first
  | (go_at_call 89; refine (Tryz.strings_Split s ⟨#[32]⟩ m _ HS.out HM.out (by decide)).mono ?_; rintro e w2 ⟨rfl, hw2⟩; rw [HL.out, ← HW.out] at hw2; rw [hw2, HN.out]; clear hw2)
  | (go_at_call 88; refine Calls.mono (dele_c l W1 w.heap.size HH.out hlen) ?_; rintro e w3 ⟨rfl, q, hq'⟩; have HQ := Aside0.mk hq'; clear hq'))
 go_ret
 rw [HE.out]
 have K := row_put K1.out l.toArray q
 have hq := HQ.out
 rw [HE.out] at hq
 simp only [List.size_toArray, Nat.sub_self, List.replicate_zero, List.append_nil] at hq
 rw [← hq] at K
 refine ⟨⟨_, rfl, Nat.le_refl _, _, K, fun i t hi => ?_⟩, ?_⟩
 · have hlt := (List.getElem?_eq_some_iff.1 hi).1
   simp only [Sort.putCells, Array.getElem?_mapIdx, List.getElem?_toArray, List.getElem?_map, hi, Option.map_some, List.size_toArray]
   rw [if_pos ⟨Nat.zero_le _, by omega⟩]
   simp [hlt, (List.getElem?_eq_some_iff.1 hi).2]
 · rw [hq]
   have h1 := B1.out
   exact ⟨h1.os, h1.tape, h1.output, by simpa [Sort.putRow, Sort.mapBlock, Sort.ahead] using h1.size, fun k hk => (row_far (by omega) _ _).trans (h1.block k hk)⟩
theorem cut2 (t : Nat) : 2 ≤ (Question.appendCap 2 1 9).cut t := by
 show 2 ≤ 2 + t % (2 ^ 63 - 2)
 omega
theorem ok_c (b c : Nat) (s : ByteArray) (hs : s.size ≤ 1000000) (w : World) (hc : w.cell? ⟨b, 0, none⟩ = some (.string s)) :
 Calls Tryz.prog 107 #[.slice (some ⟨b, 0, none⟩) 1 c] w fun e w' => e = .returned (.string ⟨(Lib.join [[111, 107], s.data.toList] [32]).toArray⟩) ∧ Below w.heap.size w w' := by
 have hu := Tryz.underlying26
 have hlt := World.block_lt_of_cell? w _ hc
 have z := fun o => (show (w.alloc o).cell? ⟨b, 0, none⟩ = some (.string s) from (World.cell?_of_block ((below_alloc (Below.refl w.heap.size w) o).block b hlt)).trans hc)
 go_enter Tryz.func107, Tryz.ntmps107
 go_wp2_with (first | (go_at_call 147; fail))
 obtain ⟨C, hC⟩ : ∃ C, C = ((Question.appendCap 2 1 9).cut (w.tape w.drawn (Question.appendCap 2 1 9))) := ⟨_, rfl⟩
 have h2 : 2 ≤ C := by rw [hC]; exact cut2 _
 rw [← hC]
 obtain ⟨W1, hW1⟩ : ∃ W1, W1 = ((w.alloc (.cells #[.string ⟨#[111, 107]⟩] 9)).alloc (.cells (#[.string ⟨#[111, 107]⟩, .string s] ++ Builtin.zeroCells #[.string ⟨#[]⟩] (C - 2)) 9)).drew := ⟨_, rfl⟩
 have k1 : W1.heap[w.heap.size + 1]? = some (.cells (#[.string ⟨#[111, 107]⟩, .string s] ++ Builtin.zeroCells #[.string ⟨#[]⟩] (C - 2)) 9 (0, 0)) := by rw [hW1]; exact aZ (W := w.alloc (.cells #[.string ⟨#[111, 107]⟩] 9)) (by simp)
 have b1 : Below w.heap.size w W1 := by rw [hW1]; exact below_drew1 (below_alloc (below_alloc (Below.refl _ _) _) _)
 rw [← hW1]
 clear hW1 hC z
 have hcells : ∀ (j : Nat) x, ([⟨#[111, 107]⟩, s] : List ByteArray)[j]? = some x → W1.cell? ⟨w.heap.size + 1, 0 + j, none⟩ = some (.string x) := fun j x hx => by
  have hj := (List.getElem?_eq_some_iff.1 hx).1
  rw [Nat.zero_add]
  refine (blk_cell k1 j).trans ?_
  rw [Array.getElem?_append_left (by simpa using hj)]
  match j, hj with
  | 0, _ => cases hx; rfl
  | 1, _ => cases hx; rfl
 refine (Tryz.strings_Join (w.heap.size + 1) 0 C [⟨#[111, 107]⟩, s] ⟨#[32]⟩ W1 hcells (lt_blk k1) (by simp) h2 (by simp [Lib.join]; have : s.data.size = s.size := rfl; omega)).mono ?_
 rintro e w2 ⟨rfl, hb⟩
 go_wp2
 go_ret
 exact ⟨rfl, b1.trans (hb.mono b1.size)⟩
def doesE (N : Nat) : Array MapEntry := #[{ key := .string ⟨#[112, 97, 114, 115, 101]⟩, val := .func (.func 92) #[] #[], born := 0 }, { key := .string ⟨#[99, 97, 110, 111, 110]⟩, val := .func (.func 95) #[] #[.pointer (some ⟨N, 0, none⟩)], born := 1 }, { key := .string ⟨#[109, 97, 120]⟩, val := .func (.func 98) #[] #[.pointer (some ⟨N, 0, none⟩)], born := 2 }, { key := .string ⟨#[109, 105, 110]⟩, val := .func (.func 101) #[] #[.pointer (some ⟨N, 0, none⟩)], born := 3 }, { key := .string ⟨#[102, 105, 108, 116, 101, 114]⟩, val := .func (.func 104) #[] #[], born := 4 }, { key := .string ⟨#[101, 120, 116, 101, 110, 100]⟩, val := .func (.func 108) #[] #[], born := 5 }, { key := .string ⟨#[108, 111, 111, 107, 117, 112]⟩, val := .func (.func 110) #[] #[], born := 6 }, { key := .string ⟨#[109, 97, 116, 99, 104]⟩, val := .func (.func 112) #[] #[.pointer (some ⟨N, 0, none⟩)], born := 7 }]
theorem does_c (B1 B2 B3 B4 : Nat) (w : World) : Calls Tryz.prog 60 #[imgV B1 B2 B3 B4] w fun e w' => (∃ b, e = .returned (.map (some b)) ∧ w'.heap[b]? = some (.map (doesE w.heap.size) 8)) ∧ w'.heap[w.heap.size]? = some (.cells (imgC B1 B2 B3 B4) 51 (0, 0)) ∧ Below w.heap.size w w' := by
 have hmf : ∀ (fn : Fn) (first cap : Array Value) (w : World), (Instr.makeFunc fn first cap).run Tryz.prog w = .ok (.func fn first cap) w := fun _ _ _ _ => rfl
 have hui := Tryz.underlying51
 have hm : ∀ W : World, (Instr.makeMap 80 none).run Tryz.prog W = .ok (.map (some W.heap.size)) (W.alloc (.map #[] 0)) := fun W => run_makeMap_plain W _
 obtain ⟨N, hN⟩ : ∃ N, N = w.heap.size := ⟨_, rfl⟩
 obtain ⟨W0, hW0⟩ : ∃ W0, W0 = w.alloc (.cells (imgC B1 B2 B3 B4) 51) := ⟨_, rfl⟩
 have I0 : W0.heap[N]? = some (.cells (imgC B1 B2 B3 B4) 51 (0, 0)) := by rw [hW0]; exact aZ hN
 have b0 : Below w.heap.size w W0 := by rw [hW0]; exact below_alloc (Below.refl _ _) _
 have h0 : (W0.alloc (.map #[] 0)).heap[W0.heap.size]? = some (.map #[] 0) := World.alloc_heap_new _ _
 have B0 : Below W0.heap.size W0 (W0.alloc (.map #[] 0)) := (Below.refl _ _).alloc (Nat.le_refl _) _
 obtain ⟨V1, u1, h1, B11, -, -⟩ := step_updG (b := W0.heap.size) Tryz.underlying80 Tryz.underlying9 h0 B0 (Nat.le_refl _) (.string ⟨#[112, 97, 114, 115, 101]⟩) (.func (.func 92) #[] #[]) (by simp [MapKept.IsKey]) rfl
 obtain ⟨V2, u2, h2, B12, -, -⟩ := step_updG (b := W0.heap.size) Tryz.underlying80 Tryz.underlying9 h1 B11 (Nat.le_refl _) (.string ⟨#[99, 97, 110, 111, 110]⟩) (.func (.func 95) #[] #[.pointer (some ⟨N, 0, none⟩)]) (by simp [MapKept.IsKey]) rfl
 obtain ⟨V3, u3, h3, B13, -, -⟩ := step_updG (b := W0.heap.size) Tryz.underlying80 Tryz.underlying9 h2 B12 (Nat.le_refl _) (.string ⟨#[109, 97, 120]⟩) (.func (.func 98) #[] #[.pointer (some ⟨N, 0, none⟩)]) (by simp [MapKept.IsKey]) rfl
 obtain ⟨V4, u4, h4, B14, -, -⟩ := step_updG (b := W0.heap.size) Tryz.underlying80 Tryz.underlying9 h3 B13 (Nat.le_refl _) (.string ⟨#[109, 105, 110]⟩) (.func (.func 101) #[] #[.pointer (some ⟨N, 0, none⟩)]) (by simp [MapKept.IsKey]) rfl
 obtain ⟨V5, u5, h5, B15, -, -⟩ := step_updG (b := W0.heap.size) Tryz.underlying80 Tryz.underlying9 h4 B14 (Nat.le_refl _) (.string ⟨#[102, 105, 108, 116, 101, 114]⟩) (.func (.func 104) #[] #[]) (by simp [MapKept.IsKey]) rfl
 obtain ⟨V6, u6, h6, B16, -, -⟩ := step_updG (b := W0.heap.size) Tryz.underlying80 Tryz.underlying9 h5 B15 (Nat.le_refl _) (.string ⟨#[101, 120, 116, 101, 110, 100]⟩) (.func (.func 108) #[] #[]) (by simp [MapKept.IsKey]) rfl
 obtain ⟨V7, u7, h7, B17, -, -⟩ := step_updG (b := W0.heap.size) Tryz.underlying80 Tryz.underlying9 h6 B16 (Nat.le_refl _) (.string ⟨#[108, 111, 111, 107, 117, 112]⟩) (.func (.func 110) #[] #[]) (by simp [MapKept.IsKey]) rfl
 obtain ⟨V8, u8, h8, B18, -, -⟩ := step_updG (b := W0.heap.size) Tryz.underlying80 Tryz.underlying9 h7 B17 (Nat.le_refl _) (.string ⟨#[109, 97, 116, 99, 104]⟩) (.func (.func 112) #[] #[.pointer (some ⟨N, 0, none⟩)]) (by simp [MapKept.IsKey]) rfl
 have hfin : V8.heap[W0.heap.size]? = some (.map (doesE N) 8) := h8
 have HI : V8.heap[N]? = some (.cells (imgC B1 B2 B3 B4) 51 (0, 0)) := (B18.block _ (lt_blk I0)).trans I0
 have HB : Below w.heap.size w V8 := b0.trans (B18.mono b0.size)
 unfold imgC at hW0
 rw [← hN]
 have HF := Aside0.mk hfin
 have HI2 := Aside0.mk HI
 have HB2 := Aside0.mk HB
 have HW := Aside0.mk hW0.symm
 have HNN := Aside0.mk hN.symm
 clear h0 B0 h1 h2 h3 h4 h5 h6 h7 h8 B11 B12 B13 B14 B15 B16 B17 B18 I0 b0 hfin HI HB hW0 hN
 unfold imgV
 go_enter Tryz.func60, Tryz.ntmps60
 go_wp2_with (first | (rw [HW.out, HNN.out]))
 go_ret
 exact ⟨⟨_, rfl, HF.out⟩, HI2.out, HNN.out ▸ HB2.out⟩
def ParsesTo (s : ByteArray) (x y z : ByteArray) : Prop := ∀ w : World, GrandW.G w → Calls Tryz.prog 26 #[.string s] w fun e w' => e = .returned (.tuple #[T3 x y z, .nilIface]) ∧ Below w.heap.size w w'
def ShownAs (x y z s : ByteArray) : Prop := ∀ w : World, Calls Tryz.prog 44 #[T3 x y z] w fun e w' => e = .returned (.string s) ∧ Below w.heap.size w w'
def okT (s : ByteArray) : ByteArray := ⟨(Lib.join [[111, 107], s.data.toList] [32]).toArray⟩
theorem tone_c (b o c : Nat) (s x y z a1 a2 a3 t : ByteArray) (hp : ParsesTo s x y z) (ht : ShownAs a1 a2 a3 t) (htl : t.size ≤ 1000000) (g : Nat) (lb : Array Value) (w : World) (eg : ∀ args W, (callFunc g args).run Tryz.prog W = .ok (.enter g args) W) (hdo : ∀ W, Below w.heap.size w W → Calls Tryz.prog g (#[T3 x y z] ++ lb) W fun e w' => e = .returned (.tuple #[T3 a1 a2 a3, .bool true]) ∧ Below W.heap.size W w') (hG : GrandW.G w) (hc : w.cell? ⟨b, o, none⟩ = some (.string s)) :
 Calls Tryz.prog 93 #[.slice (some ⟨b, o, none⟩) 1 c, .func (.func g) #[] lb] w fun e w' => e = .returned (.string (okT t)) ∧ Below w.heap.size w w' := by
 have hut := Tryz.underlying33
 have hus := Tryz.underlying26
 have hee : ∀ W : World, (binOp BinOp.neq 55 .nilIface .nilIface).run Tryz.prog W = .ok (.bool false) W := fun W => by kernel_rfl
 have HP := Aside0.mk hp
 have HT := Aside0.mk ht
 have HD := Aside0.mk hdo
 have HG := Aside0.mk hG
 clear hp ht hdo hG
 go_enter Tryz.func93, Tryz.ntmps93
 go_wp2_with (first
  | (go_at_call 26; refine (HP.out _ HG.out).mono ?_; rintro e w1 ⟨rfl, hb⟩; unfold T3; have B1 := Aside0.mk hb; clear hb))
 have BT : Aside0 (Below w.heap.size w (w1.alloc (.cells (T3c x y z) 33))) := ⟨below_alloc B1.out _⟩
 have hdo := HD.out _ BT.out
 unfold T3 T3c at hdo
 refine hdo.mono ?_
 rintro e w2 ⟨rfl, hb2⟩
 have B2 : Aside0 (Below w.heap.size w w2) := ⟨by
  have h := BT.out
  unfold T3c at h
  exact h.trans (hb2.mono h.size)⟩
 clear hdo hb2 hc
 obtain ⟨w3, hw3⟩ : ∃ w3, w3 = w2.alloc (.cells (T3c a1 a2 a3) 33) := ⟨_, rfl⟩
 have U3 : w3.heap[w2.heap.size]? = some (.cells (T3c a1 a2 a3) 33 (0, 0)) := by rw [hw3]; exact aZ rfl
 have B3 : Aside0 (Below w.heap.size w w3) := ⟨by rw [hw3]; exact below_alloc B2.out _⟩
 unfold T3c at hw3
 have HW3 := Aside0.mk hw3.symm
 obtain ⟨z0, z1, z2, z3, z4, z5, z6, z7⟩ := cz8t U3
 clear hw3 U3
 have htoken : Aside0 (1 = 1) := ⟨rfl⟩
 go_wp2_with (first
  | (rw [HW3.out])
  | (go_at_call 44; have h9 := HT.out w3; unfold T3 at h9; refine h9.mono ?_; rintro e w4 ⟨rfl, hb4⟩; have B4 := Aside0.mk (B3.out.trans (hb4.mono B3.out.size)); clear hb4 h9)
  | (go_at_call 107; refine (ok_c w4.heap.size 1 t htl _ ((blk_cell (aZ rfl) 0).trans rfl)).mono ?_; rintro e w5 ⟨rfl, hb5⟩))
 go_ret
 refine ⟨rfl, ?_⟩
 have h := below_alloc B4.out (.cells #[.string t] 9)
 exact h.trans (hb5.mono h.size)
def CanonTo (B1 B2 B3 B4 : Nat) (x y z a b c : ByteArray) : Prop := ∀ w : World, Img w B1 B2 B3 B4 → Calls Tryz.prog 97 #[imgV B1 B2 B3 B4, T3 x y z] w fun e w' => e = .returned (T3 a b c) ∧ Below w.heap.size w w'
theorem does21_c (B1 B2 B3 B4 pi : Nat) (x y z a b c : ByteArray) (hcan : CanonTo B1 B2 B3 B4 x y z a b c) (w : World) (hI : Img w B1 B2 B3 B4) (hp : w.heap[pi]? = some (.cells (imgC B1 B2 B3 B4) 51 (0, 0))) :
 Calls Tryz.prog 96 (#[T3 x y z] ++ #[.pointer (some ⟨pi, 0, none⟩)]) w fun e w' => e = .returned (.tuple #[T3 a b c, .bool true]) ∧ Below w.heap.size w w' := by
 have hut := Tryz.underlying33
 have hui := Tryz.underlying51
 obtain ⟨W0, hW0⟩ : ∃ W0, W0 = (w.alloc (.cells (T3c x y z) 33)).alloc (.cells (T3c ⟨#[]⟩ ⟨#[]⟩ ⟨#[]⟩) 33) := ⟨_, rfl⟩
 have b0 : Below w.heap.size w W0 := by rw [hW0]; exact below_alloc (below_alloc (Below.refl _ _) _) _
 have T0 : W0.heap[w.heap.size]? = some (.cells (T3c x y z) 33 (0, 0)) := by rw [hW0]; exact aN (aZ rfl)
 have Z0 : W0.heap[w.heap.size + 1]? = some (.cells (T3c ⟨#[]⟩ ⟨#[]⟩ ⟨#[]⟩) 33 (0, 0)) := by rw [hW0]; exact aZ (by simp)
 have I0 := (b0.block _ (lt_blk hp)).trans hp
 obtain ⟨i0, i1, i2, i3, i4, i5⟩ := cz6 (show W0.heap[pi]? = some (.cells #[.slice (some ⟨B1, 0, none⟩) 54 54, .slice (some ⟨B2, 0, none⟩) 32 32, .slice (some ⟨B3, 0, none⟩) 15 15, .slice (some ⟨B4, 0, none⟩) 7 7, .int .i64 40, .int .i64 5] 51 (0, 0)) from I0)
 obtain ⟨z0, z1, z2, z3, z4, z5, z6, z7⟩ := cz8t T0
 have HZ := Aside0.mk Z0
 have HI := Aside0.mk (hI.below b0)
 have HB := Aside0.mk b0
 have HC := Aside0.mk hcan
 unfold T3c at hW0
 have HW := Aside0.mk hW0.symm
 clear hW0 b0 T0 Z0 I0 hI hcan hp
 unfold T3
 simp only [List.append_toArray, List.cons_append, List.nil_append]
 go_enter Tryz.func96, Tryz.ntmps96
 go_wp2_with (first
  | (rw [HW.out])
  | (go_at_call 97; have h9 := HC.out _ HI.out; unfold imgV T3 at h9; refine h9.mono ?_; rintro e w1 ⟨rfl, hb⟩; have HZ1 := kb HZ hb; have HB1 := Aside0.mk (HB.out.trans (hb.mono HB.out.size)); obtain ⟨y0, y1, y2, y3, y4, y5, y6, y7⟩ := cz8t HZ1.out; obtain ⟨f0, f1, f2, f3, f4, f5, f6, f7⟩ := fz8t HZ1.out; clear hb h9))
 rw [putTag_eq]
 obtain ⟨x0, x1, x2, x3, x4, x5, x6, x7⟩ := cz8t (put_tag HZ1.out a b c)
 refine bodyPost_ret (v := .tuple #[.agg #[.string a, .slice none 0 0, .string b, .string c, .slice none 0 0, .slice none 0 0, .slice none 0 0, .string ⟨#[]⟩], .bool true]) ?_ rfl ⟨rfl, putTag_below HB1.out (by omega) _ _ _⟩
 simp [results, Tryz.results96, asAddr, x0, x1, x2, x3, x4, x5, x6, x7, hut, go_sem]
theorem docanon_c (B1 B2 B3 B4 pi : Nat) (q o cc : Nat) (s x y z a b c t : ByteArray) (hP : ParsesTo s x y z) (hS : ShownAs a b c t) (htl : t.size ≤ 1000000) (hcan : CanonTo B1 B2 B3 B4 x y z a b c) (w : World) (hI : Img w B1 B2 B3 B4) (hp : w.heap[pi]? = some (.cells (imgC B1 B2 B3 B4) 51 (0, 0))) (hc : w.cell? ⟨q, o, none⟩ = some (.string s)) :
 Calls Tryz.prog 95 #[.slice (some ⟨q, o, none⟩) 1 cc, .pointer (some ⟨pi, 0, none⟩)] w fun e w' => e = .returned (.string (okT t)) ∧ Below w.heap.size w w' := by
 have hmf : ∀ (fn : Fn) (first cap : Array Value) (w : World), (Instr.makeFunc fn first cap).run Tryz.prog w = .ok (.func fn first cap) w := fun _ _ _ _ => rfl
 have eg := enters_of Tryz.func96 (by kernel_rfl) rfl
 have HP := Aside0.mk hP
 have HS := Aside0.mk hS
 have HC := Aside0.mk hcan
 have HI := Aside0.mk hI
 have Hp := Aside0.mk hp
 have Hc := Aside0.mk hc
 have EG := Aside0.mk eg
 clear hP hS hcan hI hp hc eg
 go_enter Tryz.func95, Tryz.ntmps95
 go_wp2_with (first
  | (go_at_call 93; refine (tone_c q o cc s x y z a b c t HP.out HS.out htl 96 #[.pointer (some ⟨pi, 0, none⟩)] _ EG.out (fun W hW => does21_c B1 B2 B3 B4 pi x y z a b c HC.out W (HI.out.below hW) ((hW.block _ (lt_blk Hp.out)).trans Hp.out)) HI.out.g Hc.out).mono ?_; rintro e w1 ⟨rfl, hb⟩))
 go_ret
 exact ⟨rfl, hb⟩
theorem does41_c (B1 B2 B3 B4 pi ps : Nat) (x y z a b c : ByteArray) (hcan : CanonTo B1 B2 B3 B4 x y z a b c) (f : K3) (hm : maxP dRows (a, b, c) = (f, true)) (u : K3) (hu : (trialsL f.1 f.2.1 f.2.2).find? (sayB f) = some u) (w : World) (hI : Img w B1 B2 B3 B4) (hp : w.heap[pi]? = some (.cells (imgC B1 B2 B3 B4) 51 (0, 0))) (hs : w.heap[ps]? = some (.cells #[.bool false] 4 (0, 0))) :
 Calls Tryz.prog 102 (#[T3 x y z] ++ #[.pointer (some ⟨pi, 0, none⟩), .pointer (some ⟨ps, 0, none⟩)]) w fun e w' => e = .returned (.tuple #[T3 u.1 u.2.1 u.2.2, .bool true]) ∧ Below w.heap.size w w' := by
 have hut := Tryz.underlying33
 have hui := Tryz.underlying51
 obtain ⟨W0, hW0⟩ : ∃ W0, W0 = (w.alloc (.cells (T3c x y z) 33)).alloc (.cells (T3c ⟨#[]⟩ ⟨#[]⟩ ⟨#[]⟩) 33) := ⟨_, rfl⟩
 have KB : Aside0 (Below w.heap.size w W0) := ⟨by rw [hW0]; exact below_alloc (below_alloc (Below.refl _ _) _) _⟩
 have KT : Aside0 (W0.heap[w.heap.size]? = some (.cells (T3c x y z) 33 (0, 0))) := ⟨by rw [hW0]; exact aN (aZ rfl)⟩
 have KZ : Aside0 (W0.heap[w.heap.size + 1]? = some (.cells (T3c ⟨#[]⟩ ⟨#[]⟩ ⟨#[]⟩) 33 (0, 0))) := ⟨by rw [hW0]; exact aZ (by simp)⟩
 have KI : Aside0 (W0.heap[pi]? = some (.cells (imgC B1 B2 B3 B4) 51 (0, 0))) := ⟨(KB.out.block _ (lt_blk hp)).trans hp⟩
 have KS : Aside0 (W0.heap[ps]? = some (.cells #[.bool false] 4 (0, 0))) := ⟨(KB.out.block _ (lt_blk hs)).trans hs⟩
 have lp := lt_blk hp
 have ls := lt_blk hs
 have HI := Aside0.mk hI
 have HC := Aside0.mk hcan
 have HM := Aside0.mk hm
 have HU := Aside0.mk hu
 unfold T3c at hW0
 have HW := Aside0.mk hW0.symm
 clear hW0 hI hcan hp hs hm hu
 unfold T3
 simp only [List.append_toArray, List.cons_append, List.nil_append]
 go_enter Tryz.func102, Tryz.ntmps102
 go_wp2_with (first | (rw [HW.out]))
 refine start_ (n := 10) (S := fun w' => w'.cell? ⟨pi, 0, none⟩ = some (.slice (some ⟨B1, 0, none⟩) 54 54) ∧ w'.cell? ⟨pi, 1, none⟩ = some (.slice (some ⟨B2, 0, none⟩) 32 32) ∧ w'.cell? ⟨pi, 2, none⟩ = some (.slice (some ⟨B3, 0, none⟩) 15 15) ∧ w'.cell? ⟨pi, 3, none⟩ = some (.slice (some ⟨B4, 0, none⟩) 7 7) ∧ w'.cell? ⟨pi, 4, none⟩ = some (.int .i64 40) ∧ w'.cell? ⟨pi, 5, none⟩ = some (.int .i64 5) ∧ w'.cell? ⟨w.heap.size, 0, none⟩ = some (.string x) ∧ w'.cell? ⟨w.heap.size, 1, none⟩ = some (.slice none 0 0) ∧ w'.cell? ⟨w.heap.size, 2, none⟩ = some (.string y) ∧ w'.cell? ⟨w.heap.size, 3, none⟩ = some (.string z) ∧ w'.cell? ⟨w.heap.size, 4, none⟩ = some (.slice none 0 0) ∧ w'.cell? ⟨w.heap.size, 5, none⟩ = some (.slice none 0 0) ∧ w'.cell? ⟨w.heap.size, 6, none⟩ = some (.slice none 0 0) ∧ w'.cell? ⟨w.heap.size, 7, none⟩ = some (.string ⟨#[]⟩) ∧ w'.cell? ⟨ps, 0, none⟩ = some (.bool false)) (ds := []) (M 10 0) (by kernel_rfl) rfl rfl ⟨(blk_cell (w := W0.drew) KI.out 0).trans rfl, (blk_cell (w := W0.drew) KI.out 1).trans rfl, (blk_cell (w := W0.drew) KI.out 2).trans rfl, (blk_cell (w := W0.drew) KI.out 3).trans rfl, (blk_cell (w := W0.drew) KI.out 4).trans rfl, (blk_cell (w := W0.drew) KI.out 5).trans rfl, (blk_cell (w := W0.drew) KT.out 0).trans rfl, (blk_cell (w := W0.drew) KT.out 1).trans rfl, (blk_cell (w := W0.drew) KT.out 2).trans rfl, (blk_cell (w := W0.drew) KT.out 3).trans rfl, (blk_cell (w := W0.drew) KT.out 4).trans rfl, (blk_cell (w := W0.drew) KT.out 5).trans rfl, (blk_cell (w := W0.drew) KT.out 6).trans rfl, (blk_cell (w := W0.drew) KT.out 7).trans rfl, (blk_cell (w := W0.drew) KS.out 0).trans rfl⟩ (fun hHeld => ?_)
 obtain ⟨V, hV⟩ : ∃ V, V = W0.drew := ⟨_, rfl⟩
 replace KI := dwK KI hV
 replace KT := dwK KT hV
 replace KS := dwK KS hV
 replace KZ := dwK KZ hV
 replace KB : Aside0 (Below w.heap.size w V) := by rw [hV]; exact ⟨below_drew1 KB.out⟩
 rw [← hV] at hHeld ⊢
 clear hV
 refine tw 0 6 (M 10 1) hHeld ?_
 refine tw 1 7 (M 10 3) hHeld ?_
 refine tw 2 8 (M 10 7) hHeld ?_
 refine tw 4 10 (M 10 23) hHeld ?_
 refine ow 3 (some 9) (M 10 31) fun K hK => ?_
 refine gow Tryz.func97 #[.agg #[.slice (some ⟨B1, 0, none⟩) 54 54, .slice (some ⟨B2, 0, none⟩) 32 32, .slice (some ⟨B3, 0, none⟩) 15 15, .slice (some ⟨B4, 0, none⟩) 7 7, .int .i64 40, .int .i64 5], .agg #[.string x, .slice none 0 0, .string y, .string z, .slice none 0 0, .slice none 0 0, .slice none 0 0, .string ⟨#[]⟩]] ?_
 have h9 := HC.out _ (HI.out.below KB.out)
 unfold imgV T3 at h9
 refine h9.mono ?_
 rintro e w1 ⟨rfl, hb⟩
 replace KI := kb KI hb
 replace KT := kb KT hb
 replace KS := kb KS hb
 replace KZ := kb KZ hb
 replace KB : Aside0 (Below w.heap.size w w1) := ⟨KB.out.trans (hb.mono KB.out.size)⟩
 clear hb h9
 refine ⟨_, rfl, ?_⟩
 refine hK.out _ _ ⟨(blk_cell KI.out 0).trans rfl, (blk_cell KI.out 1).trans rfl, (blk_cell KI.out 2).trans rfl, (blk_cell KI.out 3).trans rfl, (blk_cell KI.out 4).trans rfl, (blk_cell KI.out 5).trans rfl, (blk_cell KT.out 0).trans rfl, (blk_cell KT.out 1).trans rfl, (blk_cell KT.out 2).trans rfl, (blk_cell KT.out 3).trans rfl, (blk_cell KT.out 4).trans rfl, (blk_cell KT.out 5).trans rfl, (blk_cell KT.out 6).trans rfl, (blk_cell KT.out 7).trans rfl, (blk_cell KS.out 0).trans rfl⟩ (fun hHeld => ?_)
 clear hK K
 refine norm_ (a' := ?_) ?_ ?_
 rotate_left
 · show Act.put _ (some 9) _ = _
   simp only [Act.put, List.setIfInBounds_toArray, List.set_cons_zero, List.set_cons_succ, i64_w, i32_w]
   rfl
 refine ow 5 (some 11) (M 10 63) fun K hK => ?_
 refine gow Tryz.func103 #[.agg #[.slice (some ⟨B1, 0, none⟩) 54 54, .slice (some ⟨B2, 0, none⟩) 32 32, .slice (some ⟨B3, 0, none⟩) 15 15, .slice (some ⟨B4, 0, none⟩) 7 7, .int .i64 40, .int .i64 5], .agg #[.string a, .slice none 0 0, .string b, .string c, .slice none 0 0, .slice none 0 0, .slice none 0 0, .string ⟨#[]⟩], .bool false] ?_
 have h9 := minimize_c B1 B2 B3 B4 a b c f HM.out u HU.out _ (HI.out.below KB.out).c2
 unfold imgV T3 at h9
 refine h9.mono ?_
 rintro e w1 ⟨rfl, hb⟩
 replace KI := kb KI hb
 replace KT := kb KT hb
 replace KS := kb KS hb
 replace KZ := kb KZ hb
 replace KB : Aside0 (Below w.heap.size w w1) := ⟨KB.out.trans (hb.mono KB.out.size)⟩
 clear hb h9
 refine ⟨_, rfl, ?_⟩
 refine hK.out _ _ ⟨(blk_cell KI.out 0).trans rfl, (blk_cell KI.out 1).trans rfl, (blk_cell KI.out 2).trans rfl, (blk_cell KI.out 3).trans rfl, (blk_cell KI.out 4).trans rfl, (blk_cell KI.out 5).trans rfl, (blk_cell KT.out 0).trans rfl, (blk_cell KT.out 1).trans rfl, (blk_cell KT.out 2).trans rfl, (blk_cell KT.out 3).trans rfl, (blk_cell KT.out 4).trans rfl, (blk_cell KT.out 5).trans rfl, (blk_cell KT.out 6).trans rfl, (blk_cell KT.out 7).trans rfl, (blk_cell KS.out 0).trans rfl⟩ (fun hHeld => ?_)
 clear hK K
 refine norm_ (a' := ?_) ?_ ?_
 rotate_left
 · show Act.put _ (some 11) _ = _
   simp only [Act.put, List.setIfInBounds_toArray, List.set_cons_zero, List.set_cons_succ, i64_w, i32_w]
   rfl
 refine pw 6 12 (M 10 127) ?_
 refine pw 7 13 (M 10 255) ?_
 refine ow 8 (none) (M 10 511) fun K hK => ?_
 refine put_step (g := w.heap.size + 1) (off := 0) (cur := T3c ⟨#[]⟩ ⟨#[]⟩ ⟨#[]⟩) (new := T3c u.1 u.2.1 u.2.2) (seg := [.string u.1, .slice none 0 0, .string u.2.1, .string u.2.2, .slice none 0 0, .slice none 0 0, .slice none 0 0, .string ⟨#[]⟩]) (u := .agg #[.string u.1, .slice none 0 0, .string u.2.1, .string u.2.2, .slice none 0 0, .slice none 0 0, .slice none 0 0, .string ⟨#[]⟩]) rfl rfl rfl rfl rfl rfl (by rfl) (by kernel_rfl) rfl rfl (Nat.le_of_ble_eq_true rfl) KZ.out ?_
 intro V3 hk hp
 replace KI := kp KI hp (by omega)
 replace KT := kp KT hp (by omega)
 replace KS := kp KS hp (by omega)
 replace KB := bp KB hp (by omega)
 replace KZ := Aside0.mk hk
 clear hk hp
 refine hK.out _ _ ⟨(blk_cell KI.out 0).trans rfl, (blk_cell KI.out 1).trans rfl, (blk_cell KI.out 2).trans rfl, (blk_cell KI.out 3).trans rfl, (blk_cell KI.out 4).trans rfl, (blk_cell KI.out 5).trans rfl, (blk_cell KT.out 0).trans rfl, (blk_cell KT.out 1).trans rfl, (blk_cell KT.out 2).trans rfl, (blk_cell KT.out 3).trans rfl, (blk_cell KT.out 4).trans rfl, (blk_cell KT.out 5).trans rfl, (blk_cell KT.out 6).trans rfl, (blk_cell KT.out 7).trans rfl, (blk_cell KS.out 0).trans rfl⟩ (fun hHeld => ?_)
 clear hK K
 refine pw 9 5 (M 10 1023) ?_
 refine done_ (by kernel_rfl) ?_
 obtain ⟨x0, x1, x2, x3, x4, x5, x6, x7⟩ := cz8t KZ.out
 clear hHeld
 go_wp2
 refine bodyPost_ret (v := .tuple #[.agg #[.string u.1, .slice none 0 0, .string u.2.1, .string u.2.2, .slice none 0 0, .slice none 0 0, .slice none 0 0, .string ⟨#[]⟩], .bool true]) ?_ rfl ⟨rfl, KB.out⟩
 simp [results, Tryz.results102, asAddr, x0, x1, x2, x3, x4, x5, x6, x7, hut, go_sem]
theorem domin_c (B1 B2 B3 B4 pi : Nat) (q o cc : Nat) (s x y z a b c t : ByteArray) (hP : ParsesTo s x y z) (hcan : CanonTo B1 B2 B3 B4 x y z a b c) (f : K3) (hm : maxP dRows (a, b, c) = (f, true)) (u : K3) (hu : (trialsL f.1 f.2.1 f.2.2).find? (sayB f) = some u) (hS : ShownAs u.1 u.2.1 u.2.2 t) (htl : t.size ≤ 1000000) (w : World) (hI : Img w B1 B2 B3 B4) (hp : w.heap[pi]? = some (.cells (imgC B1 B2 B3 B4) 51 (0, 0))) (hc : w.cell? ⟨q, o, none⟩ = some (.string s)) :
 Calls Tryz.prog 101 #[.slice (some ⟨q, o, none⟩) 1 cc, .pointer (some ⟨pi, 0, none⟩)] w fun e w' => e = .returned (.string (okT t)) ∧ Below w.heap.size w w' := by
 have hmf : ∀ (fn : Fn) (first cap : Array Value) (w : World), (Instr.makeFunc fn first cap).run Tryz.prog w = .ok (.func fn first cap) w := fun _ _ _ _ => rfl
 have eg := enters_of Tryz.func102 (by kernel_rfl) rfl
 have EG := Aside0.mk eg
 obtain ⟨V, hV⟩ : ∃ V, V = w.alloc (.cells #[.bool false] 4) := ⟨_, rfl⟩
 have hb0 : Below w.heap.size w V := by rw [hV]; exact below_alloc (Below.refl _ _) _
 have hs : V.heap[w.heap.size]? = some (.cells #[.bool false] 4 (0, 0)) := by rw [hV]; exact aZ rfl
 have HP := Aside0.mk hP
 have HS := Aside0.mk hS
 have HC := Aside0.mk hcan
 have HM := Aside0.mk hm
 have HU := Aside0.mk hu
 have HI := Aside0.mk (hI.below hb0)
 have Hp := Aside0.mk ((hb0.block _ (lt_blk hp)).trans hp)
 have Hc := Aside0.mk ((World.cell?_of_block (hb0.block _ (World.block_lt_of_cell? w _ hc))).trans hc)
 have Hs := Aside0.mk hs
 have HB := Aside0.mk hb0
 have HV := Aside0.mk hV.symm
 have s0 := (blk_cell hs 0).trans rfl
 clear hP hS hcan hI hp hc eg hm hu hV hb0 hs
 go_enter Tryz.func101, Tryz.ntmps101
 go_wp2_with (first
  | (go_at_call 93; rw [HV.out]; refine (tone_c q o cc s x y z u.1 u.2.1 u.2.2 t HP.out HS.out htl 102 #[.pointer (some ⟨pi, 0, none⟩), .pointer (some ⟨w.heap.size, 0, none⟩)] _ EG.out (fun W hW => does41_c B1 B2 B3 B4 pi w.heap.size x y z a b c HC.out f HM.out u HU.out W (HI.out.below hW) ((hW.block _ (lt_blk Hp.out)).trans Hp.out) ((hW.block _ (lt_blk Hs.out)).trans Hs.out)) HI.out.g Hc.out).mono ?_; rintro e w1 ⟨rfl, hb⟩))
 go_ret
 exact ⟨rfl, HB.out.trans (hb.mono HB.out.size)⟩
end Go.Proofs.YtpmcfckechjppaaGreatDoor.Ps
