/- What the document's Made comes to: an alias of short texts, a right one where nothing is spoilt. -/
import Derived.Test.YtmbfnbnlajchmaaDoorAdAliasRef
import Derived.Test.YtmbfnbnlajchmaaDoorAdP16
import Derived.Test.YtmbfnbnlajchmaaDoorAdP17
namespace Go.Proofs.YtmbfnbnlajchmaaDoor.Pure
open Go.RowKit Go.Proofs.YtmbfnbnlajchmaaDoor.P Go.Proofs.YtmbfnbnlajchmaaDoorW.PrintWords Go.Proofs.YtmbfnbnlajchmaaDoorW.PrintLast Go.Proofs.YtmbfnbnlajchmaaDoorW.PrintMore
open Go.Proofs.YtmbfnbnlajchmaaDoor.Each Go.Proofs.YtmbfnbnlajchmaaDoor.Base Go.Proofs.YtmbfnbnlajchmaaDoor.PackW
set_option linter.unusedVariables false
set_option linter.unusedSimpArgs false

theorem rTitle_ex (s : ByteArray) (hs : s.size ≤ 140737488351232) : ∃ t, Ev (fun k => isoglossref02_Title.f k s) t ∧ t.size = s.size := by
  unfold isoglossref02_Title.f
  by_cases h : s.toList = []
  · refine ⟨⟨#[]⟩, Ev.ite_pos h (Ev.now _), ?_⟩
    rw [size_bytesOf s, toList_nil.1 h]; rfl
  · have hne : bytesOf s ≠ [] := fun e => h (toList_nil.2 e)
    have hpos : 1 ≤ s.size := by
      rw [size_bytesOf]
      exact List.length_pos_iff.2 hne
    have z1 : (s.extract 0 1).size = 1 := by rw [size_bytesOf, bytesOf_extract]; simp [bytesOf_length]; omega
    have z2 : (s.extract 1 s.size).size = s.size - 1 := by rw [size_bytesOf, bytesOf_extract]; simp [bytesOf_length]
    refine ⟨upS (s.extract 0 1) ++ lowS (s.extract 1 s.size), ?_, by rw [ByteArray.size_append, upS_size, lowS_size]; omega⟩
    refine Ev.ite_neg h ?_
    refine Ev.ite_pos (by decide) ?_
    refine Ev.ite_pos (by omega) ?_
    refine Ev.bind (rUpper_ev _ (by omega)) ?_
    refine Ev.bind (rLower_ev _ (by omega)) ?_
    exact Ev.ite_pos (by rw [upS_size, lowS_size]; omega) (Ev.now _)
theorem pick_mem (l : List ByteArray) (h0 : l ≠ []) (h1 : l.length ≤ 1000) (n : Int) : ∃ x ∈ l, isoglossref06_Pick.f l n = some x := by
  have hp : 0 < l.length := List.length_pos_iff.2 h0
  unfold isoglossref06_Pick.f
  have lo := Int.lt_tmod_of_pos n (show (0 : Int) < l.length by omega)
  have up := Int.tmod_lt_of_pos n (show (0 : Int) < l.length by omega)
  have w : wrap64 (Int.tmod n l.length + l.length) = Int.tmod n l.length + l.length := by unfold wrap64; omega
  rw [w]
  have r0 := Int.tmod_nonneg (l.length : Int) (show 0 ≤ Int.tmod n l.length + l.length by omega)
  have r1 := Int.tmod_lt_of_pos (Int.tmod n l.length + l.length) (show (0 : Int) < l.length by omega)
  rw [if_neg (by omega), if_pos r0, if_pos r1]
  generalize Int.tmod (Int.tmod n l.length + l.length) l.length = r at r0 r1
  refine ⟨rdOf ByteArray.empty l r, ?_, rfl⟩
  have hr : r.toNat < l.length := by omega
  unfold rdOf
  simp only [List.getD_eq_getElem?_getD, List.getElem?_eq_getElem hr, Option.getD_some]
  exact List.getElem_mem hr
def Short (n : Nat) (t : Int × ByteArray × ByteArray × ByteArray × ByteArray × ByteArray) : Prop := t.2.1.size ≤ n ∧ t.2.2.1.size ≤ n ∧ t.2.2.2.1.size ≤ n ∧ t.2.2.2.2.1.size ≤ n ∧ t.2.2.2.2.2.size ≤ n
def RightT (t : Int × ByteArray × ByteArray × ByteArray × ByteArray × ByteArray) : Prop := rightB t.1 t.2.1 t.2.2.1 t.2.2.2.1 t.2.2.2.2.1 t.2.2.2.2.2 = true
theorem langs_ok : ∀ x ∈ (isoglossref12_langs.f).getD [], x.size ≤ 20 ∧ lowB x = true ∧ langB x = true := by decide +kernel
theorem langs_eq : isoglossref12_langs.f = some ((isoglossref12_langs.f).getD []) := rfl
theorem toLangs_ok : ∀ x ∈ (isoglossref12_toLangs.f).getD [], x.size ≤ 20 ∧ lowB x = true ∧ langB x = true := by decide +kernel
theorem toLangs_eq : isoglossref12_toLangs.f = some ((isoglossref12_toLangs.f).getD []) := rfl
theorem scripts_ok : ∀ x ∈ (isoglossref12_scripts.f).getD [], x.size ≤ 20 ∧ lowB x = true ∧ scrB x = true := by decide +kernel
theorem scripts_eq : isoglossref12_scripts.f = some ((isoglossref12_scripts.f).getD []) := rfl
theorem toScripts_ok : ∀ x ∈ (isoglossref12_toScripts.f).getD [], x.size ≤ 20 ∧ lowB x = true ∧ scrB x = true := by decide +kernel
theorem toScripts_eq : isoglossref12_toScripts.f = some ((isoglossref12_toScripts.f).getD []) := rfl
theorem regions_ok : ∀ x ∈ (isoglossref12_regions.f).getD [], x.size ≤ 20 ∧ lowB x = true ∧ regB x = true := by decide +kernel
theorem regions_eq : isoglossref12_regions.f = some ((isoglossref12_regions.f).getD []) := rfl
theorem toRegions_ok : ∀ x ∈ (isoglossref12_toRegions.f).getD [], x.size ≤ 20 ∧ lowB x = true ∧ regB x = true := by decide +kernel
theorem toRegions_eq : isoglossref12_toRegions.f = some ((isoglossref12_toRegions.f).getD []) := rfl
theorem emp_ok : lowB ⟨#[]⟩ = true ∧ empB ⟨#[]⟩ = true := by decide +kernel
theorem digits_ok : ∀ n < 26, lowB (strOfNums [(48 + ((n : Nat) : Int) / 10) % 256, (48 + ((n : Nat) : Int) % 10) % 256]) = true ∧ numB (strOfNums [(48 + ((n : Nat) : Int) / 10) % 256, (48 + ((n : Nat) : Int) % 10) % 256]) = true := by decide +kernel
theorem spoilt_ev (k : Int) (a b l s r : ByteArray) (o : Int) (h : Short 20 (k, a, b, l, s, r)) (g : RightT (k, a, b, l, s, r)) : ∃ t, Ev (fun n => isoglossref12_spoilt.f n k a b l s r o) t ∧ Short 40 t ∧ (o = 0 → RightT t) := by
  obtain ⟨ha, hb, hl, hs, hr⟩ := h
  dsimp only at ha hb hl hs hr
  unfold isoglossref12_spoilt.f
  by_cases h1 : o = 1
  · obtain ⟨t, ht, hz⟩ := rTitle_ex a (by omega)
    refine ⟨(k, t, b, l, s, r), Ev.ite_pos h1 (Ev.bind ht (Ev.now _)), ⟨by dsimp only; omega, by dsimp only; omega, by dsimp only; omega, by dsimp only; omega, by dsimp only; omega⟩, fun z => by omega⟩
  by_cases h2 : o = 2
  · refine ⟨_, Ev.ite_neg h1 (Ev.ite_pos h2 (Ev.ite_pos (by omega) (Ev.now _))), ⟨by dsimp only; omega, by dsimp only; rw [ByteArray.size_append]; show b.size + 1 ≤ 40; omega, by dsimp only; omega, by dsimp only; omega, by dsimp only; omega⟩, fun z => by omega⟩
  by_cases h3 : o = 3
  · refine ⟨_, Ev.ite_neg h1 (Ev.ite_neg h2 (Ev.ite_pos h3 (Ev.now _))), ⟨by dsimp only; omega, by dsimp only; omega, (show (⟨#[]⟩ : ByteArray).size ≤ 40 by decide), (show (⟨#[]⟩ : ByteArray).size ≤ 40 by decide), (show (⟨#[]⟩ : ByteArray).size ≤ 40 by decide)⟩, fun z => by omega⟩
  by_cases h4 : o = 4
  · refine ⟨_, Ev.ite_neg h1 (Ev.ite_neg h2 (Ev.ite_neg h3 (Ev.ite_pos h4 (Ev.now _)))), ⟨by dsimp only; omega, by dsimp only; omega, by dsimp only; omega, by dsimp only; omega, by dsimp only; omega⟩, fun z => by omega⟩
  by_cases h5 : o = 5
  · refine ⟨_, Ev.ite_neg h1 (Ev.ite_neg h2 (Ev.ite_neg h3 (Ev.ite_neg h4 (Ev.ite_pos h5 (Ev.now _))))), ⟨by dsimp only; omega, by dsimp only; omega, (show (⟨#[97, 98, 99, 100, 101, 102, 103, 104, 105]⟩ : ByteArray).size ≤ 40 by decide), by dsimp only; omega, by dsimp only; omega⟩, fun z => by omega⟩
  by_cases h6 : o = 6
  · obtain ⟨x, hx, ex⟩ := pick_mem ((isoglossref12_langs.f).getD []) (by decide) (by decide) (a.size : Int)
    have := (langs_ok x hx).1
    refine ⟨_, Ev.ite_neg h1 (Ev.ite_neg h2 (Ev.ite_neg h3 (Ev.ite_neg h4 (Ev.ite_neg h5 (Ev.ite_pos h6 (Ev.bind_c langs_eq (Ev.bind_c ex (Ev.now _)))))))), ⟨by dsimp only; omega, by dsimp only; omega, by dsimp only; omega, by dsimp only; omega, by dsimp only; omega⟩, fun z => by omega⟩
  · exact ⟨_, Ev.ite_neg h1 (Ev.ite_neg h2 (Ev.ite_neg h3 (Ev.ite_neg h4 (Ev.ite_neg h5 (Ev.ite_neg h6 (Ev.now _)))))), ⟨by dsimp only; omega, by dsimp only; omega, by dsimp only; omega, by dsimp only; omega, by dsimp only; omega⟩, fun _ => g⟩
theorem tail6 {g : Nat → Option (Int × ByteArray × ByteArray × ByteArray × ByteArray × ByteArray)} {t : Int × ByteArray × ByteArray × ByteArray × ByteArray × ByteArray} (h : Ev g t) : Ev (fun n => (g n).bind fun bt => (some (bt.1, bt.2.1, bt.2.2.1, bt.2.2.2.1, bt.2.2.2.2.1, bt.2.2.2.2.2))) t := Ev.bind h (Ev.now _)
theorem mod_range (x m : Int) (h0 : 0 < m) (h1 : m ≤ 1000) : 0 ≤ Int.tmod (wrap64 (Int.tmod x m + m)) m ∧ Int.tmod (wrap64 (Int.tmod x m + m)) m < m := by
  have lo := Int.lt_tmod_of_pos x h0
  have up := Int.tmod_lt_of_pos x h0
  have w : wrap64 (Int.tmod x m + m) = Int.tmod x m + m := by unfold wrap64; omega
  rw [w]
  exact ⟨Int.tmod_nonneg _ (by omega), Int.tmod_lt_of_pos _ h0⟩
theorem right_of (k : Int) (a b l s r : ByteArray) (ha : lowB a = true) (hb : lowB b = true) (hl : lowB l = true) (hs : lowB s = true) (hr : lowB r = true) (h : rightM k a b l s r = true) : RightT (k, a, b, l, s, r) := by
  unfold RightT rightB allLow
  rw [ha, hb, hl, hs, hr, h]; rfl
theorem or_ok {a : ByteArray} {p : ByteArray → Bool} {l : List ByteArray} (h : ∀ x ∈ l, x.size ≤ 20 ∧ lowB x = true ∧ (empB x || p x) = true) (m : a ∈ l) : a.size ≤ 20 ∧ lowB a = true ∧ (empB a || p a) = true := h a m
theorem Made_ev (s0 s1 s2 s3 s4 s5 s6 : Int) : ∃ t, Ev (fun n => isoglossref12_Made.f n s0 s1 s2 s3 s4 s5 s6) t ∧ Short 40 t ∧ (s6 = 0 → RightT t) := by
  have hm := mod_range s0 7 (by decide) (by decide)
  have hw : wrap64 (1 + Int.tmod (wrap64 (Int.tmod s0 7 + 7)) 7) = 1 + Int.tmod (wrap64 (Int.tmod s0 7 + 7)) 7 := by
    generalize Int.tmod (wrap64 (Int.tmod s0 7 + 7)) 7 = x at hm ⊢
    unfold wrap64; omega
  have ho : s6 = 0 → Int.tmod (wrap64 (Int.tmod s6 9 + 9)) 9 = 0 := by rintro rfl; decide +kernel
  have he := emp_ok
  have z0 : (⟨#[]⟩ : ByteArray).size ≤ 20 := by decide
  unfold isoglossref12_Made.f
  rw [hw]
  generalize hk : 1 + Int.tmod (wrap64 (Int.tmod s0 7 + 7)) 7 = k
  have k0 : 1 ≤ k := by omega
  have k7 : k ≤ 7 := by omega
  generalize Int.tmod (wrap64 (Int.tmod s6 9 + 9)) 9 = o at ho
  have fin : ∀ (a b l s r : ByteArray) (g : Nat → Option (Int × ByteArray × ByteArray × ByteArray × ByteArray × ByteArray)), Short 20 (k, a, b, l, s, r) → RightT (k, a, b, l, s, r) → (∀ t, Ev (fun n => isoglossref12_spoilt.f n k a b l s r o) t → Ev g t) → ∃ t, Ev g t ∧ Short 40 t ∧ (s6 = 0 → RightT t) := by
    intro a b l s r g h1 h2 h3
    obtain ⟨t, e1, e2, e3⟩ := spoilt_ev k a b l s r o h1 h2
    exact ⟨t, h3 t e1, e2, fun z => e3 (ho z)⟩
  by_cases h1 : k = 1
  · have hr := mod_range s1 26 (by decide) (by decide)
    generalize Int.tmod (wrap64 (Int.tmod s1 26 + 26)) 26 = q at hr
    obtain ⟨l, ml, el⟩ := pick_mem ((isoglossref12_toLangs.f).getD []) (by decide) (by decide) s3
    obtain ⟨s, ms, es⟩ := pick_mem [⟨#[]⟩, ⟨#[]⟩, ⟨#[108, 97, 116, 110]⟩] (by simp) (by decide) s4
    obtain ⟨r, mr, er⟩ := pick_mem [⟨#[]⟩, ⟨#[]⟩, ⟨#[117, 115]⟩] (by simp) (by decide) s5
    obtain ⟨l1, l2, l3⟩ := toLangs_ok l ml
    obtain ⟨t1, t2, t3⟩ := or_ok (p := scrB) (by decide +kernel) ms
    obtain ⟨u1, u2, u3⟩ := or_ok (p := regB) (by decide +kernel) mr
    have w1 : wrap64 (48 + wrap64 (Int.tdiv q 10)) = 48 + q / 10 := by
      rw [Int.tdiv_eq_ediv_of_nonneg hr.1]
      have : wrap64 (q / 10) = q / 10 := by unfold wrap64; omega
      rw [this]; unfold wrap64; omega
    have w2 : wrap64 (48 + Int.tmod q 10) = 48 + q % 10 := by
      rw [Int.tmod_eq_emod_of_nonneg hr.1]; unfold wrap64; omega
    have hd := digits_ok q.toNat (by omega)
    rw [Int.toNat_of_nonneg hr.1] at hd
    rw [w1, w2]
    refine fin (strOfNums [(48 + q / 10) % 256, (48 + q % 10) % 256]) ⟨#[]⟩ l s r _ ⟨by show (strOfNums _).size ≤ 20; rw [strOfNums_size]; simp, z0, l1, t1, u1⟩ (right_of _ _ _ _ _ _ hd.1 he.1 l2 t2 u2 ?_) (fun t e => ?_)
    · unfold rightM targB; rw [if_pos h1, hd.2, he.2, l3, t3, u3]; rfl
    · exact Ev.ite_pos h1 (Ev.bind_c toLangs_eq (Ev.bind_c el (Ev.bind_c es (Ev.bind_c er (tail6 e)))))
  by_cases h2 : k = 2
  · obtain ⟨a, ma, ea⟩ := pick_mem ((isoglossref12_langs.f).getD []) (by decide) (by decide) s1
    obtain ⟨b, mb, eb⟩ := pick_mem [⟨#[98, 114]⟩, ⟨#[99, 110]⟩, ⟨#[117, 115]⟩, ⟨#[100, 100]⟩] (by simp) (by decide) s2
    obtain ⟨l, ml, el⟩ := pick_mem ((isoglossref12_toLangs.f).getD []) (by decide) (by decide) s3
    obtain ⟨a1, a2, a3⟩ := langs_ok a ma
    obtain ⟨b1, b2, b3⟩ := (show ∀ x ∈ ([⟨#[98, 114]⟩, ⟨#[99, 110]⟩, ⟨#[117, 115]⟩, ⟨#[100, 100]⟩] : List ByteArray), x.size ≤ 20 ∧ lowB x = true ∧ regB x = true by decide +kernel) b mb
    obtain ⟨l1, l2, l3⟩ := toLangs_ok l ml
    refine fin a b l ⟨#[]⟩ ⟨#[]⟩ _ ⟨a1, b1, l1, z0, z0⟩ (right_of _ _ _ _ _ _ a2 b2 l2 he.1 he.1 ?_) (fun t e => ?_)
    · unfold rightM; rw [if_neg h1, if_pos h2, a3, b3, l3, he.2]; rfl
    · exact Ev.ite_neg h1 (Ev.ite_pos h2 (Ev.bind_c langs_eq (Ev.bind_c ea (Ev.bind_c eb (Ev.bind_c toLangs_eq (Ev.bind_c el (tail6 e)))))))
  by_cases h3 : k = 3
  · obtain ⟨a, ma, ea⟩ := pick_mem ((isoglossref12_langs.f).getD []) (by decide) (by decide) s1
    obtain ⟨l, ml, el⟩ := pick_mem ((isoglossref12_toLangs.f).getD []) (by decide) (by decide) s3
    obtain ⟨s, ms, es⟩ := pick_mem [⟨#[]⟩, ⟨#[108, 97, 116, 110]⟩] (by simp) (by decide) s4
    obtain ⟨r, mr, er⟩ := pick_mem [⟨#[]⟩, ⟨#[]⟩, ⟨#[117, 115]⟩] (by simp) (by decide) s5
    obtain ⟨a1, a2, a3⟩ := langs_ok a ma
    obtain ⟨l1, l2, l3⟩ := toLangs_ok l ml
    obtain ⟨t1, t2, t3⟩ := or_ok (p := scrB) (by decide +kernel) ms
    obtain ⟨u1, u2, u3⟩ := or_ok (p := regB) (by decide +kernel) mr
    refine fin a ⟨#[]⟩ l s r _ ⟨a1, z0, l1, t1, u1⟩ (right_of _ _ _ _ _ _ a2 he.1 l2 t2 u2 ?_) (fun t e => ?_)
    · unfold rightM targB; rw [if_neg h1, if_neg h2, if_pos h3, a3, he.2, l3, t3, u3]; rfl
    · exact Ev.ite_neg h1 (Ev.ite_neg h2 (Ev.ite_pos h3 (Ev.bind_c langs_eq (Ev.bind_c ea (Ev.bind_c toLangs_eq (Ev.bind_c el (Ev.bind_c es (Ev.bind_c er (tail6 e)))))))))
  by_cases h4 : k = 4
  · obtain ⟨a, ma, ea⟩ := pick_mem ((isoglossref12_scripts.f).getD []) (by decide) (by decide) s1
    obtain ⟨s, ms, es⟩ := pick_mem ((isoglossref12_toScripts.f).getD []) (by decide) (by decide) s4
    obtain ⟨a1, a2, a3⟩ := scripts_ok a ma
    obtain ⟨t1, t2, t3⟩ := toScripts_ok s ms
    refine fin a ⟨#[]⟩ ⟨#[]⟩ s ⟨#[]⟩ _ ⟨a1, z0, z0, t1, z0⟩ (right_of _ _ _ _ _ _ a2 he.1 he.1 t2 he.1 ?_) (fun t e => ?_)
    · unfold rightM; rw [if_neg h1, if_neg h2, if_neg h3, if_pos h4, a3, he.2, t3]; rfl
    · exact Ev.ite_neg h1 (Ev.ite_neg h2 (Ev.ite_neg h3 (Ev.ite_pos h4 (Ev.bind_c scripts_eq (Ev.bind_c ea (Ev.bind_c toScripts_eq (Ev.bind_c es (tail6 e))))))))
  by_cases h5 : k = 5
  · obtain ⟨a, ma, ea⟩ := pick_mem ((isoglossref12_regions.f).getD []) (by decide) (by decide) s1
    obtain ⟨r, mr, er⟩ := pick_mem ((isoglossref12_toRegions.f).getD []) (by decide) (by decide) s5
    obtain ⟨a1, a2, a3⟩ := regions_ok a ma
    obtain ⟨t1, t2, t3⟩ := toRegions_ok r mr
    refine fin a ⟨#[]⟩ ⟨#[]⟩ ⟨#[]⟩ r _ ⟨a1, z0, z0, z0, t1⟩ (right_of _ _ _ _ _ _ a2 he.1 he.1 he.1 t2 ?_) (fun t e => ?_)
    · unfold rightM; rw [if_neg h1, if_neg h2, if_neg h3, if_neg h4, if_pos h5, a3, he.2, t3]; rfl
    · exact Ev.ite_neg h1 (Ev.ite_neg h2 (Ev.ite_neg h3 (Ev.ite_neg h4 (Ev.ite_pos h5 (Ev.bind_c regions_eq (Ev.bind_c ea (Ev.bind_c toRegions_eq (Ev.bind_c er (tail6 e)))))))))
  by_cases h6 : k = 6
  · obtain ⟨a, ma, ea⟩ := pick_mem [⟨#[104, 101, 112, 108, 111, 99]⟩, ⟨#[97, 114, 101, 118, 101, 108, 97]⟩, ⟨#[49, 97, 50, 98]⟩] (by simp) (by decide) s1
    obtain ⟨l, ml, el⟩ := pick_mem [⟨#[]⟩, ⟨#[97, 108, 97, 108, 99, 57, 55]⟩, ⟨#[49, 57, 57, 52]⟩] (by simp) (by decide) s3
    obtain ⟨a1, a2, a3⟩ := (show ∀ x ∈ ([⟨#[104, 101, 112, 108, 111, 99]⟩, ⟨#[97, 114, 101, 118, 101, 108, 97]⟩, ⟨#[49, 97, 50, 98]⟩] : List ByteArray), x.size ≤ 20 ∧ lowB x = true ∧ varB x = true by decide +kernel) a ma
    obtain ⟨l1, l2, l3⟩ := or_ok (p := varB) (by decide +kernel) ml
    refine fin a ⟨#[]⟩ l ⟨#[]⟩ ⟨#[]⟩ _ ⟨a1, z0, l1, z0, z0⟩ (right_of _ _ _ _ _ _ a2 he.1 l2 he.1 he.1 ?_) (fun t e => ?_)
    · unfold rightM; rw [if_neg h1, if_neg h2, if_neg h3, if_neg h4, if_neg h5, if_pos h6, a3, he.2, l3]; rfl
    · exact Ev.ite_neg h1 (Ev.ite_neg h2 (Ev.ite_neg h3 (Ev.ite_neg h4 (Ev.ite_neg h5 (Ev.ite_pos h6 (Ev.bind_c ea (Ev.bind_c el (tail6 e))))))))
  · have h7 : k = 7 := by omega
    obtain ⟨a, ma, ea⟩ := pick_mem [⟨#[99, 97]⟩, ⟨#[99, 111]⟩] (by simp) (by decide) s1
    obtain ⟨b, mb, eb⟩ := pick_mem [⟨#[105, 115, 108, 97, 109, 105, 99, 99]⟩, ⟨#[97, 98, 49]⟩, ⟨#[112, 104, 111, 110, 101, 98, 107]⟩] (by simp) (by decide) s2
    obtain ⟨l, ml, el⟩ := pick_mem [⟨#[99, 105, 118, 105, 108]⟩, ⟨#[116, 114, 117, 101]⟩, ⟨#[115, 116, 97, 110, 100, 97, 114, 100]⟩] (by simp) (by decide) s3
    obtain ⟨a1, a2, a3⟩ := (show ∀ x ∈ ([⟨#[99, 97]⟩, ⟨#[99, 111]⟩] : List ByteArray), x.size ≤ 20 ∧ lowB x = true ∧ wordB x 2 2 = true by decide +kernel) a ma
    obtain ⟨b1, b2, b3⟩ := (show ∀ x ∈ ([⟨#[105, 115, 108, 97, 109, 105, 99, 99]⟩, ⟨#[97, 98, 49]⟩, ⟨#[112, 104, 111, 110, 101, 98, 107]⟩] : List ByteArray), x.size ≤ 20 ∧ lowB x = true ∧ wordB x 3 8 = true by decide +kernel) b mb
    obtain ⟨l1, l2, l3⟩ := (show ∀ x ∈ ([⟨#[99, 105, 118, 105, 108]⟩, ⟨#[116, 114, 117, 101]⟩, ⟨#[115, 116, 97, 110, 100, 97, 114, 100]⟩] : List ByteArray), x.size ≤ 20 ∧ lowB x = true ∧ wordB x 3 8 = true by decide +kernel) l ml
    refine fin a b l ⟨#[]⟩ ⟨#[]⟩ _ ⟨a1, b1, l1, z0, z0⟩ (right_of _ _ _ _ _ _ a2 b2 l2 he.1 he.1 ?_) (fun t e => ?_)
    · unfold rightM; rw [if_neg h1, if_neg h2, if_neg h3, if_neg h4, if_neg h5, if_neg h6, if_pos h7, a3, b3, l3, he.2]; rfl
    · exact Ev.ite_neg h1 (Ev.ite_neg h2 (Ev.ite_neg h3 (Ev.ite_neg h4 (Ev.ite_neg h5 (Ev.ite_neg h6 (Ev.bind_c ea (Ev.bind_c eb (Ev.bind_c el (tail6 e)))))))))
end Go.Proofs.YtmbfnbnlajchmaaDoor.Pure
