/- What finding a tag comes to, in the program and by the document. -/
import Derived.Test.YtmbfnbnlajchmaaDoorAsciiEv
import Derived.Test.YtmbfnbnlajchmaaDoorP1
import Derived.Test.YtmbfnbnlajchmaaDoorP2
import Derived.Test.YtmbfnbnlajchmaaDoorP4
import Derived.Test.YtmbfnbnlajchmaaDoorPureFacts
import Derived.Test.YtmbfnbnlajchmaaDoorGrandW
namespace Go.Proofs.YtmbfnbnlajchmaaDoor.Pure
open Go.RowKit Go.Proofs.YtmbfnbnlajchmaaDoor.P Go.Proofs.YtmbfnbnlajchmaaDoorW.PrintWords Go.Proofs.YtmbfnbnlajchmaaDoorW.PrintLast Go.Proofs.YtmbfnbnlajchmaaDoorW.PrintMore
open Go.Proofs.YtmbfnbnlajchmaaDoor.Each Go.Proofs.YtmbfnbnlajchmaaDoor.Base Go.Proofs.YtmbfnbnlajchmaaDoor.GrandW
set_option linter.unusedVariables false
set_option linter.unusedSimpArgs false

/-- The tags in small letters, as rows of numbers. -/
def nameL (i : Int) : List Int := lowL (nameAt i)
theorem names_le : ∀ i < 26, ∀ j < 26, i ≤ j → cmpL (nameL (i : Nat)) (nameL (j : Nat)) ≤ 0 := by decide +kernel
theorem names_inj : ∀ i < 26, ∀ j < 26, nameL (i : Nat) = nameL (j : Nat) → i = j := by decide +kernel
theorem nameL_inj {i j : Int} (hi : 0 ≤ i) (hi2 : i < 26) (hj : 0 ≤ j) (hj2 : j < 26) (h : nameL i = nameL j) : i = j := by
  have := names_inj i.toNat (by omega) j.toNat (by omega)
  rw [Int.toNat_of_nonneg hi, Int.toNat_of_nonneg hj] at this
  have := this h
  omega
theorem nameAt_le (i : Int) : (nameAt i).size ≤ 140737488351232 := Nat.le_trans (nameAt_size i) (by decide)

/-! ### the search -/
/-- Where a condition that stays once it holds begins to hold. -/
theorem first_at (p : Nat → Prop) (hp : ∀ i j, i ≤ j → p i → p j) : ∀ n, ∃ r, r ≤ n ∧ (∀ h, h < r → ¬ p h) ∧ (∀ h, r ≤ h → h < n → p h)
  | 0 => ⟨0, Nat.le_refl _, fun _ h => absurd h (by omega), fun _ _ h => absurd h (by omega)⟩
  | n + 1 => by
    obtain ⟨r, hr, h1, h2⟩ := first_at p hp n
    by_cases hn : p n
    · by_cases hrn : r = n
      · exact ⟨r, by omega, h1, fun h a b => by
          have : h = n := by omega
          rw [this]; exact hn⟩
      · exact ⟨r, by omega, h1, fun h a b => by
          by_cases e : h = n
          · rw [e]; exact hn
          · exact h2 h a (by omega)⟩
    · refine ⟨n + 1, by omega, fun h a b => hn (hp h n (by omega) b), fun h a b => absurd b (by omega)⟩

theorem search_ev (s : ByteArray) (hs : s.size ≤ 140737488351232) (r : Nat) (h1 : ∀ h : Nat, h < r → ¬ 0 ≤ cmpL (nameL h) (lowL s)) (h2 : ∀ h : Nat, r ≤ h → h < 26 → 0 ≤ cmpL (nameL h) (lowL s)) (hr : r ≤ 26) :
    ∀ (n i j : Nat), i ≤ r → r ≤ j → j ≤ 26 → j - i < n → Ev (fun k => grand_Find.s k s n (i : Int) (j : Int)) (r : Int)
  | 0, _, _, _, _, _, h => absurd h (by omega)
  | n + 1, i, j, hi, hj, h26, hn => by
    have e : ((i : Int) + (j : Int)) / 2 = (((i + j) / 2 : Nat) : Int) := by omega
    unfold grand_Find.s
    by_cases hij : i < j
    · refine Ev.ite_pos (by omega) ?_
      rw [e]
      refine Ev.bind (Compare_ev _ s (nameAt_le _) hs) ?_
      by_cases hp : 0 ≤ cmpL (lowL (nameAt (((i + j) / 2 : Nat) : Int))) (lowL s)
      · refine Ev.ite_pos hp ?_
        have hm : r ≤ (i + j) / 2 := by
          apply Nat.le_of_not_lt
          intro hlt
          exact h1 _ hlt hp
        exact search_ev s hs r h1 h2 hr n i ((i + j) / 2) hi hm (by omega) (by omega)
      · refine Ev.ite_neg hp ?_
        have hm : (i + j) / 2 < r := by
          apply Nat.lt_of_not_le
          intro hle
          exact hp (h2 _ hle (by omega))
        have ih := search_ev s hs r h1 h2 hr n ((i + j) / 2 + 1) j (by omega) hj h26 (by omega)
        have e2 : ((((i + j) / 2 + 1 : Nat)) : Int) = (((i + j) / 2 : Nat) : Int) + 1 := by omega
        rw [e2] at ih
        exact ih
    · refine Ev.ite_neg (by omega) ?_
      have : i = r := by omega
      rw [this]
      exact Ev.now _

/-- A text is found, or not. -/
theorem Find_ev (s : ByteArray) (hs : s.size ≤ 140737488351232) : ∃ (r : Int) (b : Bool), Ev (fun k => grand_Find.f k s) (r, b) ∧
    ((b = true ∧ 0 ≤ r ∧ r < 26 ∧ nameL r = lowL s) ∨ (b = false ∧ r = 0 ∧ ∀ i : Int, 0 ≤ i → i < 26 → nameL i ≠ lowL s)) := by
  obtain ⟨r, hr, h1, h2⟩ := first_at (fun i => 26 ≤ i ∨ 0 ≤ cmpL (nameL (i : Nat)) (lowL s)) (by
    intro i j hij hpi
    by_cases hj : 26 ≤ j
    · exact .inl hj
    · right
      rcases hpi with hi | hi
      · omega
      · have z := names_le i (by omega) j (by omega) hij
        have y : cmpL (lowL s) (nameL i) ≤ 0 := by rw [cmpL_swap] ; omega
        have x := cmpL_trans _ _ _ y z
        rw [cmpL_swap] at x
        omega) 26
  have h1' : ∀ h : Nat, h < r → ¬ 0 ≤ cmpL (nameL h) (lowL s) := fun h a b => h1 h a (.inr b)
  have h2' : ∀ h : Nat, r ≤ h → h < 26 → 0 ≤ cmpL (nameL h) (lowL s) := fun h a b => by
    rcases h2 h a b with c | c
    · omega
    · exact c
  have hsr := search_ev s hs r h1' h2' hr 27 0 26 (by omega) (by omega) (by omega) (by omega)
  by_cases h26 : r = 26
  · refine ⟨0, false, ?_, .inr ⟨rfl, rfl, ?_⟩⟩
    · unfold grand_Find.f
      refine Ev.bind hsr ?_
      refine Ev.ite_pos (by omega) (Ev.now _)
    · intro i hi hi2 e
      apply h1' i.toNat (by omega)
      rw [Int.toNat_of_nonneg hi, e, (cmpL_zero _ _).2 rfl]
      omega
  · by_cases hc : cmpL (nameL (r : Int)) (lowL s) = 0
    · refine ⟨r, true, ?_, .inl ⟨rfl, by omega, by omega, (cmpL_zero _ _).1 hc⟩⟩
      unfold grand_Find.f
      refine Ev.bind hsr ?_
      refine Ev.ite_neg (by omega) ?_
      refine Ev.bind (Same_ev _ s (nameAt_le _) hs) ?_
      refine Ev.ite_pos ?_ (Ev.now _)
      have hc' : cmpL (lowL (nameAt (r : Int))) (lowL s) = 0 := hc
      rw [hc']; rfl
    · refine ⟨0, false, ?_, .inr ⟨rfl, rfl, ?_⟩⟩
      · unfold grand_Find.f
        refine Ev.bind hsr ?_
        refine Ev.ite_neg (by omega) ?_
        refine Ev.bind (Same_ev _ s (nameAt_le _) hs) ?_
        refine Ev.ite_neg ?_ (Ev.now _)
        intro h
        exact hc (show cmpL (lowL (nameAt (r : Int))) (lowL s) = 0 by simpa using h)
      · intro i hi hi2 e
        by_cases hir : i.toNat < r
        · apply h1' i.toNat hir
          rw [Int.toNat_of_nonneg hi, e, (cmpL_zero _ _).2 rfl]
          omega
        · apply hc
          have z := names_le r (by omega) i.toNat (by omega) (by omega)
          rw [Int.toNat_of_nonneg hi, e] at z
          have y := h2' r (by omega) (by omega)
          omega

/-! ### the document's list -/
theorem starred : ∀ i < 26, ∃ l, isoglossref05_List.f = some l ∧ l.length = 26 ∧ isoglossref05_Name.f (rdOf ByteArray.empty l ((i : Nat) : Int)) = some (nameAt (i : Nat)) := by
  intro i hi
  refine ⟨_, rfl, rfl, ?_⟩
  revert i
  decide +kernel
/-- The document's list. -/
def starL : List ByteArray := (isoglossref05_List.f).getD []
theorem List_eq : isoglossref05_List.f = some starL := rfl
theorem starL_length : starL.length = 26 := rfl
theorem Name_eq (i : Int) (h0 : 0 ≤ i) (h1 : i < 26) : isoglossref05_Name.f (rdOf ByteArray.empty starL i) = some (nameAt i) := by
  obtain ⟨l, hl, _, h⟩ := starred i.toNat (by omega)
  have e : l = starL := by rw [List_eq] at hl; exact (Option.some.inj hl).symm
  rw [e, Int.toNat_of_nonneg h0] at h
  exact h
theorem names_low : ∀ i < 26, (bytesOf (nameAt ((i : Nat) : Int))).map lowI = bytesOf (nameAt ((i : Nat) : Int)) := by decide +kernel
theorem nameL_eq (i : Int) (h0 : 0 ≤ i) (h1 : i < 26) : nameL i = bytesOf (nameAt i) := by
  have h := names_low i.toNat (by omega)
  rw [Int.toNat_of_nonneg h0] at h
  exact h
theorem low_name (i : Int) (h0 : 0 ≤ i) (h1 : i < 26) (s : ByteArray) : (lowS s).toList = (nameAt i).toList ↔ nameL i = lowL s := by
  rw [toList_inj, nameL_eq i h0 h1]
  constructor
  · intro e
    rw [← e, lowS_bytes]; rfl
  · intro e
    apply bytesOf_inj
    rw [e, lowS_bytes]; rfl
theorem rFind_loop (s : ByteArray) (hs : s.size ≤ 140737488351232) : ∀ (d i : Nat), 26 - i = d → i ≤ 26 → (∀ j : Int, 0 ≤ j → j < i → nameL j ≠ lowL s) →
    ∃ r : Int, Ev (fun k => isoglossref05_Find.l0 k s starL (i : Int)) r ∧ ((0 ≤ r ∧ r < 26 ∧ nameL r = lowL s) ∨ (r = -1 ∧ ∀ j : Int, 0 ≤ j → j < 26 → nameL j ≠ lowL s))
  | 0, i, hd, hi, hb => by
    refine ⟨-1, ?_, .inr ⟨rfl, fun j a b => hb j a (by omega)⟩⟩
    refine Ev.step (fun k => by unfold isoglossref05_Find.l0; rfl) ?_
    refine Ev.ite_neg (by rw [starL_length]; omega) (Ev.now _)
  | d + 1, i, hd, hi, hb => by
    by_cases e : nameL (i : Int) = lowL s
    · refine ⟨i, ?_, .inl ⟨by omega, by omega, e⟩⟩
      refine Ev.step (fun k => by unfold isoglossref05_Find.l0; rfl) ?_
      refine Ev.ite_pos (by rw [starL_length]; omega) ?_
      refine Ev.bind (rLower_ev s hs) ?_
      refine Ev.ite_pos (by omega) ?_
      refine Ev.bind_c (Name_eq _ (by omega) (by omega)) ?_
      exact Ev.ite_pos ((low_name _ (by omega) (by omega) s).2 e) (Ev.now _)
    · obtain ⟨r, ih, hr⟩ := rFind_loop s hs d (i + 1) (by omega) (by omega) (fun j a b => by
        by_cases hj : j = i
        · rw [hj]; exact e
        · exact hb j a (by omega))
      refine ⟨r, ?_, hr⟩
      refine Ev.step (fun k => by unfold isoglossref05_Find.l0; rfl) ?_
      refine Ev.ite_pos (by rw [starL_length]; omega) ?_
      refine Ev.bind (rLower_ev s hs) ?_
      refine Ev.ite_pos (by omega) ?_
      refine Ev.bind_c (Name_eq _ (by omega) (by omega)) ?_
      refine Ev.ite_neg (fun h => e ((low_name _ (by omega) (by omega) s).1 h)) ?_
      rw [wrap_next (by omega) (by omega)]
      exact ih
theorem rFind_ev (s : ByteArray) (hs : s.size ≤ 140737488351232) :
    ∃ r : Int, Ev (fun k => isoglossref05_Find.f k s) r ∧ ((0 ≤ r ∧ r < 26 ∧ nameL r = lowL s) ∨ (r = -1 ∧ ∀ j : Int, 0 ≤ j → j < 26 → nameL j ≠ lowL s)) := by
  obtain ⟨r, h, hr⟩ := rFind_loop s hs 26 0 rfl (by omega) (fun j a b => by omega)
  refine ⟨r, ?_, hr⟩
  unfold isoglossref05_Find.f
  exact Ev.bind_c List_eq h

/-! ### the laws' own helpers -/
theorem rest_eq (a n : Int) (h0 : 0 < n) (h1 : n ≤ 1000000) : ∃ r, isoglosslaw05_rest.f a n = some r ∧ 0 ≤ r ∧ r < n := by
  unfold isoglosslaw05_rest.f
  rw [if_neg (by omega)]
  have l := Int.lt_tmod_of_pos a h0
  have u := Int.tmod_lt_of_pos a h0
  have w : wrap64 (Int.tmod a n + n) = Int.tmod a n + n := by unfold wrap64; omega
  rw [w]
  exact ⟨_, rfl, Int.tmod_nonneg _ (by omega), Int.tmod_lt_of_pos _ h0⟩
theorem Len_eq : grand_Len.f = some 26 := rfl
theorem gName_in (i : Int) (h0 : 0 ≤ i) (h1 : i < 26) : grand_Name.f i = some (nameAt i, true) := by unfold grand_Name.f; rw [if_pos ⟨h0, h1⟩]
theorem gName_out (i : Int) (h : ¬ (0 ≤ i ∧ i < 26)) : grand_Name.f i = some (⟨#[]⟩, false) := by unfold grand_Name.f; rw [if_neg h]
theorem gawake_ev : Ev (fun k => isoglosslaw05_awake.f k) true := by
  obtain ⟨r, b, h, hr⟩ := Find_ev ⟨#[73, 45, 75, 76, 73, 78, 71, 79, 78]⟩ (by decide)
  have e8 : nameL 8 = lowL ⟨#[73, 45, 75, 76, 73, 78, 71, 79, 78]⟩ := by decide +kernel
  rcases hr with ⟨rfl, h0, h1, e⟩ | ⟨_, _, no⟩
  · have : r = 8 := nameL_inj h0 h1 (by omega) (by omega) (e.trans e8.symm)
    subst this
    unfold isoglosslaw05_awake.f
    refine Ev.bind h ?_
    refine Ev.ite_pos rfl ?_
    refine Ev.ite_pos rfl ?_
    refine Ev.bind_c Len_eq ?_
    exact Ev.now _
  · exact absurd e8 (no 8 (by omega) (by omega))
theorem gRegular_eq (i : Int) (h0 : 0 ≤ i) (h1 : i < 26) : grand_Regular.f i = some ((rdOf ByteArray.empty starL i).toList != (nameAt i).toList) := by
  have h : ∀ i < 26, grand_Regular.f ((i : Nat) : Int) = some (!(decide (bytesOf (rdOf ByteArray.empty starL ((i : Nat) : Int)) = bytesOf (nameAt ((i : Nat) : Int))))) := by decide +kernel
  have := h i.toNat (by omega)
  rw [Int.toNat_of_nonneg h0] at this
  rw [this]
  congr 1
  rw [bne, toList_beq]
theorem finds_ev (s : ByteArray) (hs : s.size ≤ 140737488351232) : Ev (fun k => isoglosslaw05_finds.f k s) true := by
  obtain ⟨r, b, h, hr⟩ := Find_ev s hs
  obtain ⟨q, g, hq⟩ := rFind_ev s hs
  unfold isoglosslaw05_finds.f
  refine Ev.bind h ?_
  refine Ev.bind g ?_
  rcases hr with ⟨rfl, h0, h1, e⟩ | ⟨rfl, rfl, no⟩
  · rcases hq with ⟨g0, g1, f⟩ | ⟨_, no⟩
    · obtain rfl : r = q := nameL_inj h0 h1 g0 g1 (e.trans f.symm)
      refine Ev.ite_pos (by rw [decide_eq_true (show r ≥ 0 by omega)]; rfl) ?_
      have : (r == mx r 0) = true := by rw [beq_iff_eq]; unfold mx; split <;> omega
      rw [this]
      exact Ev.now _
    · exact absurd e (no r h0 h1)
  · rcases hq with ⟨g0, g1, f⟩ | ⟨rfl, _⟩
    · exact absurd f (no q g0 g1)
    · refine Ev.ite_pos (by decide) ?_
      exact Ev.now _
end Go.Proofs.YtmbfnbnlajchmaaDoor.Pure
