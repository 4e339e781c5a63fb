/- Made by a program of this seat's own (shake.py, merge.py): what the claim leans on: Spl, RefB, RefM, RefX, TrimR, Filt, Which, Lookup. -/
import Derived.Test.YtpmcfckechjppaaGreatDoorTa16
namespace Go.Proofs.YtpmcfckechjppaaGreatDoor.Ps
open Go.RowKit Go.Shelf Go.Proofs.YtpmcfckechjppaaGreatDoorW.PrintWords Go.Proofs.YtpmcfckechjppaaGreatDoorW.PrintLast Go.Proofs.YtpmcfckechjppaaGreatDoorW.PrintMore Go.Proofs.YtpmcfckechjppaaGreatDoor.P Go.Proofs.YtpmcfckechjppaaGreatDoor.LikW
open Go.Proofs.YtpmcfckechjppaaGreatDoor.Each Go.Proofs.YtpmcfckechjppaaGreatDoor.Base Go.Proofs.YtpmcfckechjppaaGreatDoor.Pure
set_option linter.unusedVariables false
set_option linter.unusedSimpArgs false
set_option maxRecDepth 100000
set_option maxHeartbeats 8000000
theorem getx (s : ByteArray) (a k : Nat) (h : a + k < s.size) : (s.extract a s.size).data.toList[k]? = some (s.data[a + k]'h) := by
 rw [ByteArray.data_extract, Array.toList_extract, List.extract_eq_take_drop, List.getElem?_take]
 rw [if_pos (by omega), List.getElem?_drop, Array.getElem?_toList, Array.getElem?_eq_getElem]
theorem bt_at45 (s : ByteArray) (j : Nat) (h : j < s.size) : bt s (j : Int) = 45 ↔ s.data[j]'h = 45 := by
 have e : bt s (j : Int) = ((s[j]'h).toNat : Int) := by unfold bt; rw [dif_pos (by simpa using h)]; rfl
 rw [e]
 constructor
 · intro h1
   have h2 : (s[j]'h).toNat = 45 := by omega
   exact UInt8.toNat_inj.1 h2
 · intro h1
   show (((s.data[j]'h).toNat : Nat) : Int) = 45
   rw [h1]; rfl
theorem idx_end (s : ByteArray) (a : Nat) (hn : ∀ j : Nat, a ≤ j → j < s.size → bt s (j : Int) ≠ 45) : Lib.indexByte (s.extract a s.size).data.toList 45 < 0 := by
 by_cases h : Lib.indexByte (s.extract a s.size).data.toList 45 < 0
 · exact h
 · exfalso
   obtain ⟨m, hm⟩ := Int.eq_ofNat_of_zero_le (show 0 ≤ Lib.indexByte (s.extract a s.size).data.toList 45 by omega)
   have h1 := (Lib.indexByte_some hm).1
   by_cases ha : a ≤ s.size
   · have h2 := index_lt s a ha m hm
     rw [getx s a m h2] at h1
     exact hn (a + m) (by omega) h2 ((bt_at45 s (a + m) h2).2 (Option.some.inj h1))
   · have h3 := (List.getElem?_eq_some_iff.1 h1).1
     rw [Array.length_toList, ByteArray.data_extract, Array.size_extract] at h3
     have : s.data.size = s.size := rfl
     omega
theorem idx_at (s : ByteArray) (a i : Nat) (hai : a ≤ i) (hi : i < s.size) (h45 : bt s (i : Int) = 45) (hn : ∀ j : Nat, a ≤ j → j < i → bt s (j : Int) ≠ 45) : Lib.indexByte (s.extract a s.size).data.toList 45 = ((i - a : Nat) : Int) := by
 have hx : (s.extract a s.size).data.toList[i - a]? = some 45 := by
  rw [getx s a (i - a) (by omega)]
  congr 1
  have := (bt_at45 s i hi).1 h45
  rw [← this]
  congr 1
  omega
 have hge := Lib.indexByte_ge (s.extract a s.size).data.toList 45
 by_cases h : Lib.indexByte (s.extract a s.size).data.toList 45 = -1
 · exact absurd hx (Lib.indexByte_none h _)
 · obtain ⟨m, hm⟩ := Int.eq_ofNat_of_zero_le (show 0 ≤ Lib.indexByte (s.extract a s.size).data.toList 45 by omega)
   obtain ⟨h1, h2⟩ := Lib.indexByte_some hm
   have hlt := index_lt s a (by omega) m hm
   rw [hm]
   by_cases hc : m < i - a
   · exfalso
     rw [getx s a m hlt] at h1
     exact hn (a + m) (by omega) (by omega) ((bt_at45 s (a + m) hlt).2 (Option.some.inj h1))
   · by_cases hc2 : i - a < m
     · exact absurd hx (h2 _ hc2)
     · congr 1; omega
theorem eachF_end (s : ByteArray) (f a : Nat) (hn : ∀ j : Nat, a ≤ j → j < s.size → bt s (j : Int) ≠ 45) : eachF s (f + 1) a = [((a : Int), s.extract a s.size)] := by
 unfold eachF
 rw [if_pos (idx_end s a hn)]
theorem eachF_dash (s : ByteArray) (f a i : Nat) (hai : a ≤ i) (hi : i < s.size) (h45 : bt s (i : Int) = 45) (hn : ∀ j : Nat, a ≤ j → j < i → bt s (j : Int) ≠ 45) : eachF s (f + 1) a = ((a : Int), s.extract a i) :: eachF s f (i + 1) := by
 conv => lhs; unfold eachF
 rw [idx_at s a i hai hi h45 hn, if_neg (by omega)]
 simp only [Int.toNat_natCast]
 rw [show a + (i - a) = i by omega]
theorem each_loop (s : ByteArray) (hs : s.size ≤ 900000) : ∀ (d i a f : Nat) (acc : List S113), s.size - i = d → a ≤ i → i ≤ s.size → s.size < a + f → (∀ j : Nat, a ≤ j → j < i → bt s (j : Int) ≠ 45) → acc.length ≤ i →
 Ev (fun k => isoglossref04_Each.l0 k s acc (a : Int) (i : Int)) (acc ++ (eachF s f a).map fun x => ⟨x.1, x.2⟩) := by
 intro d
 induction d with
 | zero =>
  intro i a f acc hd hai hi hf hn hl
  obtain ⟨f, rfl⟩ : ∃ f', f = f' + 1 := ⟨f - 1, by omega⟩
  obtain rfl : i = s.size := by omega
  have hw : wrap64 ((s.size : Int) + 1) = ((s.size + 1 : Nat) : Int) := by unfold wrap64; omega
  refine Ev.step (fun k => by unfold isoglossref04_Each.l0; rfl) ?_
  refine Ev.ite_pos (by omega) ?_
  refine Ev.ite_pos (by omega) (Ev.ite_pos (by omega) (Ev.ite_pos (by omega) (Ev.ite_pos (by omega) ?_)))
  rw [eachF_end s f a hn, hw]
  refine Ev.step (fun k => by unfold isoglossref04_Each.l0; rfl) ?_
  refine Ev.ite_neg (by omega) ?_
  exact Ev.const (by simp)
 | succ d ih =>
  intro i a f acc hd hai hi hf hn hl
  obtain ⟨f, rfl⟩ : ∃ f', f = f' + 1 := ⟨f - 1, by omega⟩
  have hw : wrap64 ((i : Int) + 1) = ((i + 1 : Nat) : Int) := by unfold wrap64; omega
  refine Ev.step (fun k => by unfold isoglossref04_Each.l0; rfl) ?_
  refine Ev.ite_pos (by omega) ?_
  refine Ev.ite_neg (by omega) (Ev.ite_pos (by omega) (Ev.ite_pos (by omega) ?_))
  by_cases h45 : bt s (i : Int) = 45
  · refine Ev.ite_pos h45 (Ev.ite_pos (by omega) (Ev.ite_pos (by omega) (Ev.ite_pos (by omega) ?_)))
    rw [eachF_dash s f a i hai (by omega) h45 hn, hw]
    refine Ev.res (ih (i + 1) (i + 1) f _ (by omega) (Nat.le_refl _) (by omega) (by omega) (fun j h1 h2 => by omega) (by simp; omega)) ?_
    simp
  · refine Ev.ite_neg h45 ?_
    rw [hw]
    refine ih (i + 1) a (f + 1) acc (by omega) (by omega) (by omega) hf (fun j h1 h2 => ?_) (by omega)
    by_cases hj : j = i
    · rw [hj]; exact h45
    · exact hn j h1 (by omega)
theorem rEach_ev (s : ByteArray) (hs : s.size ≤ 900000) : Ev (fun k => isoglossref04_Each.f k s) ((eachP s).map fun x => ⟨x.1, x.2⟩) :=
 Ev.res (each_loop s hs s.size 0 0 (s.size + 1) [] (by omega) (Nat.le_refl _) (by omega) (by omega) (fun j h1 h2 => by omega) (by simp)) (by simp [eachP])
theorem split_loop (l : List S113) (hl : l.length ≤ 1000000) : ∀ (d i : Nat) (acc : List ByteArray), l.length - i = d → i ≤ l.length → acc.length = i → Ev (fun k => isoglossref04_Split.l0 k acc l (i : Int)) (acc ++ (l.drop i).map (·.f1)) := by
 intro d
 induction d with
 | zero =>
  intro i acc hd hi ha
  refine Ev.step (fun k => by unfold isoglossref04_Split.l0; rfl) ?_
  refine Ev.ite_neg (by omega) (Ev.const ?_)
  rw [List.drop_eq_nil_of_le (by omega)]; simp
 | succ d ih =>
  intro i acc hd hi ha
  have he : i < l.length := by omega
  refine Ev.step (fun k => by unfold isoglossref04_Split.l0; rfl) ?_
  refine Ev.ite_pos (by omega) (Ev.ite_pos (by omega) (Ev.ite_pos (by omega) ?_))
  have hw : wrap64 ((i : Int) + 1) = ((i + 1 : Nat) : Int) := by unfold wrap64; omega
  rw [hw]
  refine Ev.res (ih (i + 1) _ (by omega) (by omega) (by simp; omega)) ?_
  have e : rd_T113 l (i : Int) = l[i] := by simp [rd_T113, List.getD_eq_getElem?_getD, List.getElem?_eq_getElem he]
  rw [List.drop_eq_getElem_cons he, e]
  simp only [List.map_cons, List.append_assoc, List.singleton_append]
def pieceS (s : ByteArray) : List ByteArray := (eachP s).map Prod.snd
theorem rSplit_ev (s : ByteArray) (hs : s.size ≤ 900000) : Ev (fun k => isoglossref04_Split.f k s) (pieceS s) := by
 unfold isoglossref04_Split.f
 refine Ev.bind (rEach_ev s hs) ?_
 have hl : ((eachP s).map fun x => (⟨x.1, x.2⟩ : S113)).length ≤ 1000000 := by have := eachF_len s (s.size + 1) 0; simp [eachP]; omega
 refine Ev.res (split_loop _ hl _ 0 [] rfl (by omega) rfl) ?_
 simp [pieceS]
def wordR (p : ByteArray) (first : Bool) : Bool := decide (p.size ≤ 8) && (clsL (bytesOf p) == 1 || (!first && clsL (bytesOf p) != 0))
theorem rWord_ev (p : ByteArray) (first : Bool) (hp : p.size ≤ 900000) : Ev (fun k => isoglossref20_word.f k p first) (wordR p first) := by
 unfold isoglossref20_word.f wordR
 refine Ev.bind (rClass_ev p (by omega)) ?_
 rcases cls_four (bytesOf p) with h | h | h | h <;> rw [h] <;>
 · by_cases h8 : p.size ≤ 8
   · refine Ev.ite_pos (by omega) (Ev.const ?_)
     cases first <;> simp [h8]
   · refine Ev.ite_neg (by omega) (Ev.const ?_)
     simp [h8]
theorem word_R (i : Int) (p : ByteArray) (hi : 0 ≤ i) : wordB i p = wordR p (decide (i = 0)) := by
 unfold wordB wordR
 by_cases h : i = 0
 · subst h; simp
 · have h1 : 0 < i := by omega
   simp [h, h1]
def allW (g : ByteArray → Bool → Bool) : Bool → List ByteArray → Bool
 | _, [] => true
 | b, p :: l => g p b && allW g false l
theorem all_pieces (g : ByteArray → Bool → Bool) (s : ByteArray) : ∀ f a, (eachF s f a).all (fun x => g x.2 (decide (x.1 = 0))) = allW g (decide (a = 0)) ((eachF s f a).map Prod.snd)
 | 0, a => rfl
 | f + 1, a => by
  have h1 : (decide (((a : Nat) : Int) = 0)) = decide (a = 0) := by simp
  unfold eachF
  split
  · simp [allW]
  · rw [List.all_cons, List.map_cons, allW, all_pieces g s f]
    simp
theorem eachF_nonneg (s : ByteArray) : ∀ f a, ∀ x ∈ eachF s f a, 0 ≤ x.1
 | 0, a, x, hx => by simp [eachF] at hx
 | f + 1, a, x, hx => by
  unfold eachF at hx
  split at hx
  · simp at hx; rw [hx]; simp
  · rcases List.mem_cons.1 hx with h | h
    · rw [h]; simp
    · exact eachF_nonneg s f _ x h
theorem all_congr {α : Type} {f g : α → Bool} (l : List α) (h : ∀ x ∈ l, f x = g x) : l.all f = l.all g := by
 induction l with
 | nil => rfl
 | cons x l ih => rw [List.all_cons, List.all_cons, h x (by simp), ih fun y hy => h y (by simp [hy])]
theorem basic_R (s : ByteArray) : basicB s = (anyB s || allW wordR true (pieceS s)) := by
 unfold basicB pieceS eachP
 have h := all_pieces wordR s (s.size + 1) 0
 rw [← show decide (0 = 0) = true from rfl, ← h]
 congr 1
 exact all_congr _ fun x hx => word_R x.1 x.2 (eachF_nonneg s _ _ x hx)
def extR (p : ByteArray) (first : Bool) : Bool := anyB p || wordR p first
theorem ext_R (s : ByteArray) : extB s = allW extR true (pieceS s) := by
 unfold extB pieceS eachP
 have h := all_pieces extR s (s.size + 1) 0
 rw [← show decide (0 = 0) = true from rfl, ← h]
 exact all_congr _ fun x hx => by unfold extR; rw [word_R x.1 x.2 (eachF_nonneg s _ _ x hx)]
theorem pieceS_len (s : ByteArray) : (pieceS s).length ≤ s.size + 1 := by unfold pieceS eachP; rw [List.length_map]; exact eachF_len s _ _
theorem eachF_size (s : ByteArray) : ∀ f a, ∀ x ∈ eachF s f a, x.2.size ≤ s.size
 | 0, a, x, hx => by simp [eachF] at hx
 | f + 1, a, x, hx => by
  unfold eachF at hx
  split at hx
  · simp at hx; rw [hx]; simp [ByteArray.size_extract]
  · rcases List.mem_cons.1 hx with h | h
    · rw [h]; simp [ByteArray.size_extract]; omega
    · exact eachF_size s f _ x h
theorem pieceS_size (s : ByteArray) : ∀ p ∈ pieceS s, p.size ≤ s.size := fun p hp => by
 obtain ⟨x, hx, rfl⟩ := List.mem_map.1 hp
 exact eachF_size s _ _ x hx
theorem rBasic_loop (l : List ByteArray) (hl : l.length ≤ 1000000) (hs : ∀ p ∈ l, p.size ≤ 900000) : ∀ (d i : Nat), l.length - i = d → i ≤ l.length → Ev (fun k => isoglossref20_Basic.l0 k l (i : Int)) (allW wordR (decide (i = 0)) (l.drop i)) := by
 intro d
 induction d with
 | zero =>
  intro i hd hi
  refine Ev.step (fun k => by unfold isoglossref20_Basic.l0; rfl) ?_
  refine Ev.ite_neg (by omega) (Ev.const ?_)
  rw [List.drop_eq_nil_of_le (by omega)]; rfl
 | succ d ih =>
  intro i hd hi
  have he : i < l.length := by omega
  have e : rdOf ByteArray.empty l (i : Int) = l[i] := by simp [rdOf, List.getD_eq_getElem?_getD, List.getElem?_eq_getElem he]
  have hw : wrap64 ((i : Int) + 1) = ((i + 1 : Nat) : Int) := by unfold wrap64; omega
  refine Ev.step (fun k => by unfold isoglossref20_Basic.l0; rfl) ?_
  refine Ev.ite_pos (by omega) (Ev.ite_pos (by omega) ?_)
  rw [e, hw, List.drop_eq_getElem_cons he, allW]
  have hb : ((i : Int) == 0) = decide (i = 0) := by rw [Bool.eq_iff_iff]; simp
  rw [hb]
  refine Ev.bind (rWord_ev l[i] (decide (i = 0)) (hs _ (List.getElem_mem he))) ?_
  cases hv : wordR l[i] (decide (i = 0)) with
  | true =>
   refine Ev.ite_pos rfl (Ev.res (ih (i + 1) (by omega) (by omega)) ?_)
   simp
  | false => exact Ev.ite_neg (by simp) (Ev.const (by simp))
theorem any_iff (s : ByteArray) : s.toList = ([42] : List UInt8) ↔ anyB s = true := by unfold anyB; simp
theorem rBasic_ev (s : ByteArray) (hs : s.size ≤ 900000) : Ev (fun k => isoglossref20_Basic.f k s) (basicB s) := by
 rw [basic_R]
 unfold isoglossref20_Basic.f
 by_cases h : s.toList = ([42] : List UInt8)
 · refine Ev.ite_pos h (Ev.const ?_)
   rw [(any_iff s).1 h]; rfl
 · refine Ev.ite_neg h (Ev.bind (rSplit_ev s hs) (Ev.res (rBasic_loop _ (by have := pieceS_len s; omega) (fun p hp => by have := pieceS_size s p hp; omega) _ 0 rfl (Nat.zero_le _)) ?_))
   have : anyB s = false := by
    rw [← Bool.not_eq_true]
    exact fun hc => h ((any_iff s).2 hc)
   rw [this]; simp
theorem rExt_loop (l : List ByteArray) (hl : l.length ≤ 1000000) (hs : ∀ p ∈ l, p.size ≤ 900000) : ∀ (d i : Nat), l.length - i = d → i ≤ l.length → Ev (fun k => isoglossref20_Extended.l0 k l (i : Int)) (allW extR (decide (i = 0)) (l.drop i)) := by
 intro d
 induction d with
 | zero =>
  intro i hd hi
  refine Ev.step (fun k => by unfold isoglossref20_Extended.l0; rfl) ?_
  refine Ev.ite_neg (by omega) (Ev.const ?_)
  rw [List.drop_eq_nil_of_le (by omega)]; rfl
 | succ d ih =>
  intro i hd hi
  have he : i < l.length := by omega
  have e : rdOf ByteArray.empty l (i : Int) = l[i] := by simp [rdOf, List.getD_eq_getElem?_getD, List.getElem?_eq_getElem he]
  have hw : wrap64 ((i : Int) + 1) = ((i + 1 : Nat) : Int) := by unfold wrap64; omega
  refine Ev.step (fun k => by unfold isoglossref20_Extended.l0; rfl) ?_
  refine Ev.ite_pos (by omega) (Ev.ite_pos (by omega) ?_)
  rw [e, hw, List.drop_eq_getElem_cons he, allW]
  have hb : ((i : Int) == 0) = decide (i = 0) := by rw [Bool.eq_iff_iff]; simp
  rw [hb]
  have hrec := ih (i + 1) (by omega) (by omega)
  simp only [Nat.add_eq_zero_iff, Nat.one_ne_zero, and_false, decide_false] at hrec
  by_cases h : l[i].toList = ([42] : List UInt8)
  · refine Ev.ite_pos h (Ev.res hrec ?_)
    unfold extR
    rw [(any_iff _).1 h]; simp
  · have hA : anyB l[i] = false := by
     rw [← Bool.not_eq_true]
     exact fun hc => h ((any_iff _).2 hc)
    refine Ev.ite_neg h (Ev.bind (rWord_ev l[i] (decide (i = 0)) (hs _ (List.getElem_mem he))) ?_)
    unfold extR
    rw [hA]
    cases hv : wordR l[i] (decide (i = 0)) with
    | true =>
     refine Ev.ite_pos rfl (Ev.res hrec ?_)
     simp [hv, extR]
     rfl
    | false => exact Ev.ite_neg (by simp) (Ev.const (by simp [hv]))
theorem rExt_ev (s : ByteArray) (hs : s.size ≤ 900000) : Ev (fun k => isoglossref20_Extended.f k s) (extB s) := by
 rw [ext_R]
 unfold isoglossref20_Extended.f
 exact Ev.bind (rSplit_ev s hs) (Ev.res (rExt_loop _ (by have := pieceS_len s; omega) (fun p hp => by have := pieceS_size s p hp; omega) _ 0 rfl (Nat.zero_le _)) (by simp))
def matB (s t : ByteArray) : Bool := basicB s && (anyB s || decide (lowL s = lowL t) || (decide (s.size < t.size) && decide (lowL s = (lowL t).take s.size) && decide (bt t (s.size : Int) = 45)))
theorem same_dec (s t : ByteArray) : (cmpL (lowL s) (lowL t) == 0) = decide (lowL s = lowL t) := by
 rw [Bool.eq_iff_iff]; simp [cmpL_zero]
theorem lowL_take (t : ByteArray) (n : Nat) : lowL (t.extract 0 n) = (lowL t).take n := by
 unfold lowL
 rw [bytesOf_extract, List.map_take]
 simp
theorem basic_any (s : ByteArray) (h : anyB s = true) : basicB s = true := by unfold basicB; rw [h]; rfl
theorem pMatches_ev (s t : ByteArray) (hs : s.size ≤ 900000) (ht : t.size ≤ 900000) : Ev (fun k => filter_Matches.f k s t) (matB s t) := by
 unfold filter_Matches.f filter_Basic.f
 rw [if_pos hs]
 refine Ev.bind_c rfl ?_
 unfold matB
 have ha : (s.toList == ([42] : List UInt8)) = anyB s := rfl
 cases hb : basicB s with
 | false =>
  refine Ev.ite_neg (by simp) ?_
  refine Ev.step (fun k => by unfold filter_Matches.j0; rfl) ?_
  refine Ev.ite_pos rfl (Ev.const ?_)
  rw [ha]
  cases h : anyB s with
  | true => rw [basic_any s h] at hb; cases hb
  | false => rfl
 | true =>
  refine Ev.ite_pos rfl ?_
  refine Ev.step (fun k => by unfold filter_Matches.j0; rfl) ?_
  rw [ha]
  cases h : anyB s with
  | true => exact Ev.ite_pos rfl (Ev.const (by simp [(any_iff s).2 h]))
  | false =>
   refine Ev.ite_neg (by simp) (Ev.bind (Same_ev s t (by omega) (by omega)) ?_)
   rw [same_dec]
   by_cases hst : lowL s = lowL t
   · refine Ev.ite_pos (by simp [hst]) (Ev.const (by simp [hst]))
   · refine Ev.ite_neg (by simp [hst]) ?_
     by_cases hlt : s.size < t.size
     · refine Ev.ite_pos (by omega) (Ev.ite_pos (by omega) (Ev.ite_pos (by omega) (Ev.bind (Same_ev s _ (by omega) (by simp [ByteArray.size_extract]; omega)) ?_)))
       rw [same_dec, Int.toNat_natCast, lowL_take]
       by_cases h2 : lowL s = (lowL t).take s.size
       · refine Ev.ite_pos (by simp [← h2]) (Ev.ite_pos (by omega) (Ev.const ?_))
         simp only [hst, decide_false, hlt, decide_true, ← h2, Bool.true_and, Bool.false_or]
         congr 1
       · refine Ev.ite_neg (by simp [h2]) (Ev.const (by simp [hst, h2]))
     · exact Ev.ite_neg (by omega) (Ev.const (by simp [hst, hlt]))
theorem low_eq (s t : ByteArray) : lowS s = lowS t ↔ lowL s = lowL t := by
 unfold lowL
 rw [← lowS_bytes, ← lowS_bytes]
 exact ⟨fun h => by rw [h], bytesOf_inj⟩
theorem low_dash (x : Int) (h : lowI x = 45) : x = 45 := by unfold lowI at h; split at h <;> omega
theorem bt_low (t : ByteArray) (n : Nat) (h : n < t.size) : (bt (lowS t) (n : Int) == 45) = decide (bt t (n : Int) = 45) := by
 have e : bt (lowS t) (n : Int) = lowI (bt t (n : Int)) := bt_map (lowS_bytes t) n h
 rw [e, Bool.eq_iff_iff]
 simp only [beq_iff_eq, decide_eq_true_iff]
 constructor
 · exact low_dash _
 · intro h; rw [h]; rfl
theorem rMatches_ev (s t : ByteArray) (hs : s.size ≤ 900000) (ht : t.size ≤ 900000) : Ev (fun k => isoglossref20_Matches.f k s t) (matB s t) := by
 unfold isoglossref20_Matches.f
 refine Ev.bind (rBasic_ev s hs) ?_
 unfold matB
 have ha : (s.toList == ([42] : List UInt8)) = anyB s := rfl
 cases hb : basicB s with
 | false =>
  refine Ev.ite_neg (by simp) ?_
  refine Ev.step (fun k => by unfold isoglossref20_Matches.j0; rfl) ?_
  exact Ev.ite_pos rfl (Ev.const (by simp))
 | true =>
  refine Ev.ite_pos rfl ?_
  refine Ev.step (fun k => by unfold isoglossref20_Matches.j0; rfl) ?_
  rw [ha]
  cases h : anyB s with
  | true => exact Ev.ite_pos rfl (Ev.const (by simp))
  | false =>
   refine Ev.ite_neg (by simp) (Ev.bind (rLower_ev s (by omega)) (Ev.bind (rLower_ev t (by omega)) ?_))
   by_cases hst : lowL s = lowL t
   · refine Ev.ite_pos (Base.toList_inj.2 ((low_eq s t).2 hst)) (Ev.const (by simp [hst]))
   · refine Ev.ite_neg (fun hc => hst ((low_eq s t).1 (Base.toList_inj.1 hc))) ?_
     rw [lowS_size, lowS_size]
     by_cases hlt : s.size < t.size
     · refine Ev.ite_pos (by omega) (Ev.ite_pos (by omega) (Ev.ite_pos (by omega) ?_))
       have hx : ((lowS t).extract 0 ((s.size : Nat) : Int).toNat).toList = (lowS s).toList ↔ lowL s = (lowL t).take s.size := by
        rw [Base.toList_inj, Int.toNat_natCast, ← lowL_take]
        constructor
        · intro hc
          have h3 : bytesOf ((lowS t).extract 0 s.size) = bytesOf (lowS s) := by rw [hc]
          rw [bytesOf_extract, lowS_bytes, lowS_bytes] at h3
          unfold lowL
          rw [← h3, bytesOf_extract, List.map_take, List.map_drop]
        · intro hc
          apply bytesOf_inj
          unfold lowL at hc
          rw [bytesOf_extract, lowS_bytes, lowS_bytes, hc, bytesOf_extract, List.map_take, List.map_drop]
       by_cases h2 : lowL s = (lowL t).take s.size
       · refine Ev.ite_pos (hx.2 h2) (Ev.ite_pos (by omega) (Ev.const ?_))
         rw [bt_low t s.size hlt]
         simp [hst, hlt, ← h2]
       · refine Ev.ite_neg (fun hc => h2 (hx.1 hc)) (Ev.const (by simp [hst, h2]))
     · exact Ev.ite_neg (by omega) (Ev.const (by simp [hst, hlt]))
def walkB : List ByteArray → List ByteArray → Bool
 | [], _ => true
 | r :: rs, [] => anyB r && walkB rs []
 | r :: rs, t :: ts => if anyB r = true then walkB rs (t :: ts) else if lowL r = lowL t then walkB rs ts else if t.size = 1 then false else walkB (r :: rs) ts
termination_by r t => r.length + t.length
theorem pWalk_ev : ∀ (n : Nat) (r t : List ByteArray), r.length + t.length = n → n ≤ 2000000 → (∀ p ∈ r, p.size ≤ 900000) → (∀ p ∈ t, p.size ≤ 900000) → Ev (fun k => filter_MatchesExtended.l0 k r t) (walkB r t) := by
 intro n
 induction n using Nat.strongRecOn with
 | _ n ih =>
  intro r t hn hb hr ht
  refine Ev.step (fun k => by unfold filter_MatchesExtended.l0; rfl) ?_
  cases r with
  | nil => rw [walkB]; exact Ev.ite_neg (by simp) (Ev.now _)
  | cons r rs =>
   have e0 : rdOf ByteArray.empty (r :: rs) 0 = r := rfl
   refine Ev.ite_pos (by simp <;> omega) (Ev.ite_pos (by simp <;> omega) ?_)
   rw [e0]
   by_cases h : r.toList = ([42] : List UInt8)
   · refine Ev.ite_pos h (Ev.ite_pos (by simp <;> omega) ?_)
     have hA := (any_iff r).1 h
     refine Ev.res (ih (rs.length + t.length) (by simp at hn; omega) rs t rfl (by simp at hn; omega) (fun p hp => hr p (by simp [hp])) ht) ?_
     cases t with
     | nil => rw [walkB.eq_2, hA]; simp
     | cons t ts => rw [walkB.eq_3, if_pos hA]
   · have hA : ¬ anyB r = true := fun hc => h ((any_iff _).2 hc)
     refine Ev.ite_neg h ?_
     cases t with
     | nil =>
      refine Ev.ite_pos (by simp) (Ev.const ?_)
      rw [walkB.eq_2]; simp [hA]
     | cons t ts =>
      have e1 : rdOf ByteArray.empty (t :: ts) 0 = t := rfl
      have hrs := hr r (by simp)
      have hts := ht t (by simp)
      refine Ev.ite_neg (by simp <;> omega) (Ev.ite_pos (by simp <;> omega) ?_)
      rw [e1, walkB.eq_3, if_neg hA]
      refine Ev.bind (Same_ev r t (by omega) (by omega)) ?_
      rw [same_dec]
      by_cases h2 : lowL r = lowL t
      · refine Ev.ite_pos (by simp [h2]) (Ev.ite_pos (by simp <;> omega) (Ev.ite_pos (by simp <;> omega) ?_))
        rw [if_pos h2]
        exact ih (rs.length + ts.length) (by simp at hn; omega) rs ts rfl (by simp at hn; omega) (fun p hp => hr p (by simp [hp])) (fun p hp => ht p (by simp [hp]))
      · refine Ev.ite_neg (by simp [h2]) ?_
        rw [if_neg h2]
        by_cases h3 : t.size = 1
        · exact Ev.ite_pos (by omega) (Ev.const (by simp [h3]))
        · refine Ev.ite_neg (by omega) (Ev.ite_pos (by simp <;> omega) ?_)
          rw [if_neg h3]
          exact ih ((r :: rs).length + ts.length) (by simp at hn ⊢; omega) (r :: rs) ts rfl (by simp at hn ⊢; omega) hr (fun p hp => ht p (by simp [hp]))
theorem rWalk_ev : ∀ (n : Nat) (r t : List ByteArray), r.length + t.length = n → n ≤ 2000000 → (∀ p ∈ r, p.size ≤ 900000) → (∀ p ∈ t, p.size ≤ 900000) → Ev (fun k => isoglossref20_walk.f k r t) (walkB r t) := by
 intro n
 induction n using Nat.strongRecOn with
 | _ n ih =>
  intro r t hn hb hr ht
  refine Ev.step (fun k => by unfold isoglossref20_walk.f; rfl) ?_
  cases r with
  | nil => rw [walkB]; exact Ev.ite_pos (by simp) (Ev.now _)
  | cons r rs =>
   have e0 : rdOf ByteArray.empty (r :: rs) 0 = r := rfl
   refine Ev.ite_neg (by simp <;> omega) (Ev.ite_pos (by simp <;> omega) ?_)
   rw [e0]
   by_cases h : r.toList = ([42] : List UInt8)
   · refine Ev.ite_pos h (Ev.ite_pos (by simp <;> omega) ?_)
     have hA := (any_iff r).1 h
     refine Ev.bind (Ev.res (ih (rs.length + t.length) (by simp at hn; omega) rs t rfl (by simp at hn; omega) (fun p hp => hr p (by simp [hp])) ht) ?_) (Ev.now _)
     cases t with
     | nil => rw [walkB.eq_2, hA]; simp
     | cons t ts => rw [walkB.eq_3, if_pos hA]
   · have hA : ¬ anyB r = true := fun hc => h ((any_iff _).2 hc)
     refine Ev.ite_neg h ?_
     cases t with
     | nil =>
      refine Ev.ite_pos (by simp) (Ev.const ?_)
      rw [walkB.eq_2]; simp [hA]
     | cons t ts =>
      have e1 : rdOf ByteArray.empty (t :: ts) 0 = t := rfl
      have hrs := hr r (by simp)
      have hts := ht t (by simp)
      refine Ev.ite_neg (by simp <;> omega) (Ev.ite_pos (by simp <;> omega) ?_)
      rw [e1, walkB.eq_3, if_neg hA]
      refine Ev.bind (rCompare_ev r t (by omega) (by omega)) ?_
      by_cases h2 : lowL r = lowL t
      · refine Ev.ite_pos ((cmpL_zero _ _).2 h2) (Ev.ite_pos (by simp <;> omega) (Ev.ite_pos (by simp <;> omega) ?_))
        rw [if_pos h2]
        exact Ev.bind (ih (rs.length + ts.length) (by simp at hn; omega) rs ts rfl (by simp at hn; omega) (fun p hp => hr p (by simp [hp])) (fun p hp => ht p (by simp [hp]))) (Ev.now _)
      · refine Ev.ite_neg (fun hc => h2 ((cmpL_zero _ _).1 hc)) ?_
        rw [if_neg h2]
        by_cases h3 : t.size = 1
        · exact Ev.ite_pos (by omega) (Ev.const (by simp [h3]))
        · refine Ev.ite_neg (by omega) (Ev.ite_pos (by simp <;> omega) ?_)
          rw [if_neg h3]
          exact Ev.bind (ih ((r :: rs).length + ts.length) (by simp at hn ⊢; omega) (r :: rs) ts rfl (by simp at hn ⊢; omega) hr (fun p hp => ht p (by simp [hp]))) (Ev.now _)
def matXL (e : Bool) : List ByteArray → List ByteArray → Bool
 | r :: rs, t :: ts => e && (anyB r || decide (lowL r = lowL t)) && walkB rs ts
 | _, _ => false
def matX (s t : ByteArray) : Bool := matXL (extB s) (pieceS s) (pieceS t)
theorem pieceS_cons (s : ByteArray) : ∃ p l, pieceS s = p :: l := by
 unfold pieceS eachP eachF
 split
 · exact ⟨_, _, rfl⟩
 · exact ⟨_, _, rfl⟩
theorem pExt_ev (s t : ByteArray) (hs : s.size ≤ 900000) (ht : t.size ≤ 900000) : Ev (fun k => filter_MatchesExtended.f k s t) (matX s t) := by
 have hls := pieceS_len s
 have hlt := pieceS_len t
 have hss := pieceS_size s
 have hst := pieceS_size t
 unfold filter_MatchesExtended.f split_Split.f filter_Extended.f matX
 rw [if_pos hs, if_pos ht, if_pos hs]
 refine Ev.bind_c rfl (Ev.bind_c rfl (Ev.bind_c rfl ?_))
 show Ev (fun k => if extB s = true then (if 0 < ((pieceS s).length : Int) then (if (rdOf ByteArray.empty (pieceS s) 0).toList = ([42] : List UInt8) then (filter_MatchesExtended.j0 k (pieceS s) (pieceS t) false) else (if 0 < ((pieceS t).length : Int) then ((ascii_Same.f k (rdOf ByteArray.empty (pieceS s) 0) (rdOf ByteArray.empty (pieceS t) 0)).bind fun t116 => (filter_MatchesExtended.j0 k (pieceS s) (pieceS t) (!t116))) else (none))) else (none)) else (filter_MatchesExtended.j0 k (pieceS s) (pieceS t) true)) _
 obtain ⟨r, rs, er⟩ := pieceS_cons s
 obtain ⟨u, us, eu⟩ := pieceS_cons t
 rw [er] at hls hss
 rw [eu] at hlt hst
 rw [er, eu]
 simp only [matXL]
 have hw : Ev (fun k => filter_MatchesExtended.j0 k (r :: rs) (u :: us) false) (walkB rs us) := by
  refine Ev.step (fun k => by unfold filter_MatchesExtended.j0; rfl) ?_
  refine Ev.ite_neg (by simp) (Ev.ite_pos (by simp <;> omega) (Ev.ite_pos (by simp <;> omega) ?_))
  exact pWalk_ev _ rs us rfl (by simp at hls hlt; omega) (fun p hp => by have := hss p (by simp [hp]); omega) (fun p hp => by have := hst p (by simp [hp]); omega)
 have hf : Ev (fun k => filter_MatchesExtended.j0 k (r :: rs) (u :: us) true) false := by
  refine Ev.step (fun k => by unfold filter_MatchesExtended.j0; rfl) ?_
  exact Ev.ite_pos rfl (Ev.now _)
 cases hb : extB s with
 | false => exact Ev.ite_neg (by simp) (Ev.res hf (by simp))
 | true =>
  refine Ev.ite_pos rfl (Ev.ite_pos (by simp <;> omega) ?_)
  have e0 : rdOf ByteArray.empty (r :: rs) 0 = r := rfl
  have e1 : rdOf ByteArray.empty (u :: us) 0 = u := rfl
  rw [e0, e1]
  by_cases h : r.toList = ([42] : List UInt8)
  · refine Ev.ite_pos h (Ev.res hw ?_)
    rw [(any_iff r).1 h]; simp
  · have hA : anyB r = false := by
     rw [← Bool.not_eq_true]
     exact fun hc => h ((any_iff _).2 hc)
    refine Ev.ite_neg h (Ev.ite_pos (by simp <;> omega) (Ev.bind (Same_ev r u (by have := hss r (by simp); omega) (by have := hst u (by simp); omega)) ?_))
    rw [same_dec, hA]
    by_cases h2 : lowL r = lowL u
    · simp only [h2, decide_true, Bool.not_true]
      exact Ev.res hw (by simp)
    · simp only [h2, decide_false, Bool.not_false]
      exact Ev.res hf (by simp)
theorem rExtM_ev (s t : ByteArray) (hs : s.size ≤ 900000) (ht : t.size ≤ 900000) : Ev (fun k => isoglossref20_MatchesExtended.f k s t) (matX s t) := by
 have hls := pieceS_len s
 have hlt := pieceS_len t
 have hss := pieceS_size s
 have hst := pieceS_size t
 unfold isoglossref20_MatchesExtended.f matX
 refine Ev.bind (rExt_ev s hs) (Ev.bind (rSplit_ev s hs) (Ev.bind (rSplit_ev t ht) ?_))
 obtain ⟨r, rs, er⟩ := pieceS_cons s
 obtain ⟨u, us, eu⟩ := pieceS_cons t
 rw [er] at hls hss
 rw [eu] at hlt hst
 rw [er, eu]
 simp only [matXL]
 have hw : Ev (fun k => isoglossref20_walk.f k rs us) (walkB rs us) := rWalk_ev _ rs us rfl (by simp at hls hlt; omega) (fun p hp => by have := hss p (by simp [hp]); omega) (fun p hp => by have := hst p (by simp [hp]); omega)
 cases hb : extB s with
 | false => exact Ev.ite_neg (by simp) (Ev.const (by simp))
 | true =>
  refine Ev.ite_pos rfl (Ev.ite_pos (by simp <;> omega) ?_)
  have e0 : rdOf ByteArray.empty (r :: rs) 0 = r := rfl
  have e1 : rdOf ByteArray.empty (u :: us) 0 = u := rfl
  rw [e0, e1]
  by_cases h : r.toList = ([42] : List UInt8)
  · refine Ev.ite_pos h (Ev.ite_pos (by simp <;> omega) (Ev.ite_pos (by simp <;> omega) (Ev.bind hw (Ev.const ?_))))
    rw [(any_iff r).1 h]; simp
  · have hA : anyB r = false := by
     rw [← Bool.not_eq_true]
     exact fun hc => h ((any_iff _).2 hc)
    refine Ev.ite_neg h (Ev.ite_pos (by simp <;> omega) (Ev.bind (rCompare_ev r u (by have := hss r (by simp); omega) (by have := hst u (by simp); omega)) ?_))
    rw [hA]
    by_cases h2 : lowL r = lowL u
    · refine Ev.ite_pos ((cmpL_zero _ _).2 h2) (Ev.ite_pos (by simp <;> omega) (Ev.ite_pos (by simp <;> omega) (Ev.bind hw (Ev.const ?_))))
      simp [h2]
    · exact Ev.ite_neg (fun hc => h2 ((cmpL_zero _ _).1 hc)) (Ev.const (by simp [h2]))
theorem bt_cut (s : ByteArray) (n j : Nat) (hj : j < n) (hn : n ≤ s.size) : bt (s.extract 0 n) (j : Int) = bt s (j : Int) := by
 have h1 : (bytesOf s)[j]? = some (bt s (j : Int)) := by
  have := drop_at s j (by omega)
  have h2 := List.getElem?_drop (xs := bytesOf s) (i := j) (j := 0)
  rw [this] at h2
  simpa using h2.symm
 refine bt_get _ j _ ?_
 rw [bytesOf_extract, List.getElem?_take, if_pos (by omega)]
 simpa using h1
theorem cut_cut (s : ByteArray) (a n : Nat) (hn : n ≤ s.size) (m : Nat) (hm : m ≤ n) : (s.extract 0 n).extract a m = s.extract a m := by
 apply bytesOf_inj
 rw [bytesOf_extract, bytesOf_extract, bytesOf_extract]
 simp only [List.drop_zero, Nat.sub_zero]
 rw [List.drop_take, List.take_take, Nat.min_eq_left (by omega)]
theorem last_spec (s : ByteArray) : (Lib.lastIndexByte s 45 = -1 ∧ ∀ j : Nat, j < s.size → bt s (j : Int) ≠ 45) ∨ (∃ n : Nat, n < s.size ∧ Lib.lastIndexByte s 45 = n ∧ bt s (n : Int) = 45 ∧ ∀ j : Nat, n < j → j < s.size → bt s (j : Int) ≠ 45) := by
 have e : ∀ j : Nat, j < s.size → ((s.data[j]!).toNat : Int) = bt s (j : Int) := fun j hj => by
  have hj2 : j < s.data.size := hj
  rw [getElem!_pos s.data j hj2]
  have := bt_at s (j : Int) (by simpa using hj)
  rw [← this]
  rfl
 rcases Lib.lastIndexByte_spec s 45 with ⟨h1, h2⟩ | ⟨i, hi, h1, h2, h3⟩
 · exact .inl ⟨h1, fun j hj => by rw [← e j hj]; exact h2 j hj⟩
 · exact .inr ⟨i, hi, h1, by rw [← e i hi]; exact h2, fun j h4 h5 => by rw [← e j h5]; exact h3 j h4 h5⟩
theorem first_dash (s : ByteArray) (n : Nat) (h45 : bt s (n : Int) = 45) : ∀ d a, n - a = d → a ≤ n → ∃ i, a ≤ i ∧ i ≤ n ∧ bt s (i : Int) = 45 ∧ ∀ j : Nat, a ≤ j → j < i → bt s (j : Int) ≠ 45 := by
 intro d
 induction d with
 | zero => exact fun a hd ha => ⟨n, ha, Nat.le_refl _, h45, fun j h1 h2 => by omega⟩
 | succ d ih =>
  intro a hd ha
  by_cases h : bt s (a : Int) = 45
  · exact ⟨a, Nat.le_refl _, ha, h, fun j h1 h2 => by omega⟩
  · obtain ⟨i, h1, h2, h3, h4⟩ := ih (a + 1) (by omega) (by omega)
    refine ⟨i, by omega, h2, h3, fun j h5 h6 => ?_⟩
    by_cases hj : j = a
    · rw [hj]; exact h
    · exact h4 j (by omega) h6
theorem eachF_last (s : ByteArray) (n : Nat) (hn : n < s.size) (h45 : bt s (n : Int) = 45) (hlast : ∀ j : Nat, n < j → j < s.size → bt s (j : Int) ≠ 45) :
 ∀ d a f g, n - a = d → a ≤ n → s.size < a + f → n < a + g → eachF s f a = eachF (s.extract 0 n) g a ++ [(((n + 1 : Nat) : Int), s.extract (n + 1) s.size)] := by
 have hz : (s.extract 0 n).size = n := by rw [ByteArray.size_extract]; omega
 intro d
 induction d using Nat.strongRecOn with
 | _ d ih =>
  intro a f g hd ha hf hg
  obtain ⟨f, rfl⟩ : ∃ f', f = f' + 1 := ⟨f - 1, by omega⟩
  obtain ⟨g, rfl⟩ : ∃ g', g = g' + 1 := ⟨g - 1, by omega⟩
  obtain ⟨i, h1, h2, h3, h4⟩ := first_dash s n h45 (n - a) a rfl ha
  rw [eachF_dash s f a i h1 (by omega) h3 h4]
  by_cases hi : i = n
  · subst hi
    obtain ⟨f, rfl⟩ : ∃ f', f = f' + 1 := ⟨f - 1, by omega⟩
    rw [eachF_end s f (i + 1) (fun j h5 h6 => hlast j (by omega) h6)]
    rw [eachF_end (s.extract 0 i) g a (fun j h5 h6 => by rw [hz] at h6; rw [bt_cut s i j h6 (by omega)]; exact h4 j h5 h6)]
    rw [hz, cut_cut s a i (by omega) i (Nat.le_refl _)]
    rfl
  · rw [eachF_dash (s.extract 0 n) g a i h1 (by omega) (by rw [bt_cut s n i (by omega) (by omega)]; exact h3) (fun j h5 h6 => by rw [bt_cut s n j (by omega) (by omega)]; exact h4 j h5 h6)]
    rw [cut_cut s a n (by omega) i (by omega), ih (n - (i + 1)) (by omega) (i + 1) f g rfl (by omega) (by omega) (by omega)]
    rfl
theorem piece_none (s : ByteArray) (h : ∀ j : Nat, j < s.size → bt s (j : Int) ≠ 45) : pieceS s = [s] := by
 unfold pieceS eachP
 rw [eachF_end s s.size 0 (fun j _ hj => h j hj)]
 simp
theorem piece_last (s : ByteArray) (n : Nat) (hn : n < s.size) (h45 : bt s (n : Int) = 45) (hlast : ∀ j : Nat, n < j → j < s.size → bt s (j : Int) ≠ 45) : pieceS s = pieceS (s.extract 0 n) ++ [s.extract (n + 1) s.size] := by
 have hz : (s.extract 0 n).size = n := by rw [ByteArray.size_extract]; omega
 unfold pieceS eachP
 rw [eachF_last s n hn h45 hlast n 0 (s.size + 1) ((s.extract 0 n).size + 1) (by omega) (by omega) (by omega) (by omega)]
 simp
theorem pieceS_cons' (s : ByteArray) : ∃ p l, pieceS s = p :: l := by
 unfold pieceS eachP eachF
 split
 · exact ⟨_, _, rfl⟩
 · exact ⟨_, _, rfl⟩
def jn : List ByteArray → ByteArray
 | [] => ⟨#[]⟩
 | x :: l => l.foldl (fun acc y => (acc ++ (⟨#[45]⟩ : ByteArray)) ++ y) x
theorem jn_snoc (x : ByteArray) (l : List ByteArray) (y : ByteArray) : jn (x :: l ++ [y]) = (jn (x :: l) ++ (⟨#[45]⟩ : ByteArray)) ++ y := by
 simp [jn]
theorem dash_join (s : ByteArray) (n : Nat) (hn : n < s.size) (h45 : bt s (n : Int) = 45) : (s.extract 0 n ++ (⟨#[45]⟩ : ByteArray)) ++ s.extract (n + 1) s.size = s := by
 apply bytesOf_inj
 rw [bytesOf_append, bytesOf_append, bytesOf_extract, bytesOf_extract]
 have e : bytesOf (⟨#[45]⟩ : ByteArray) = [45] := by rfl
 have hd := drop_at s n hn
 rw [h45] at hd
 have hl : ((bytesOf s).drop (n + 1)).length ≤ s.size - (n + 1) := by rw [List.length_drop, bytesOf_length]; omega
 rw [e, List.drop_zero, Nat.sub_zero, List.take_of_length_le hl, List.append_assoc, List.singleton_append, ← hd, List.take_append_drop]
theorem jn_pieces : ∀ (d : Nat) (s : ByteArray), s.size = d → jn (pieceS s) = s := by
 intro d
 induction d using Nat.strongRecOn with
 | _ d ih =>
  intro s hs
  rcases last_spec s with ⟨_, h⟩ | ⟨n, hn, _, h45, hlast⟩
  · rw [piece_none s h]; rfl
  · have hz : (s.extract 0 n).size = n := by rw [ByteArray.size_extract]; omega
    rw [piece_last s n hn h45 hlast]
    obtain ⟨x, l, e⟩ := pieceS_cons' (s.extract 0 n)
    have h2 := ih n (by omega) (s.extract 0 n) hz
    rw [e] at h2
    rw [e, jn_snoc, h2, dash_join s n hn h45]
theorem rd_at' (l : List ByteArray) (i : Nat) (h : i < l.length) : rdOf ByteArray.empty l (i : Int) = l[i] := by simp [rdOf, List.getD_eq_getElem?_getD, List.getElem?_eq_getElem h]
def sumS : List ByteArray → Nat
 | [] => 0
 | x :: l => x.size + 1 + sumS l
theorem rJoin_loop (l : List ByteArray) (hl : l.length ≤ 1000000) : ∀ (d i : Nat) (acc : ByteArray), l.length - i = d → 0 < i → i ≤ l.length → acc.size + sumS (l.drop i) ≤ 100000000 → Ev (fun k => isoglossref04_Join.l0 k l acc (i : Int)) ((l.drop i).foldl (fun acc y => (acc ++ (⟨#[45]⟩ : ByteArray)) ++ y) acc) := by
 intro d
 induction d with
 | zero =>
  intro i acc hd h0 hi hs
  refine Ev.step (fun k => by unfold isoglossref04_Join.l0; rfl) ?_
  refine Ev.ite_neg (by omega) (Ev.const ?_)
  rw [List.drop_eq_nil_of_le (by omega)]; rfl
 | succ d ih =>
  intro i acc hd h0 hi hs
  have he : i < l.length := by omega
  have e : rdOf ByteArray.empty l (i : Int) = l[i] := by simp [rdOf, List.getD_eq_getElem?_getD, List.getElem?_eq_getElem he]
  have hw : wrap64 ((i : Int) + 1) = ((i + 1 : Nat) : Int) := by unfold wrap64; omega
  rw [List.drop_eq_getElem_cons he] at hs ⊢
  simp only [sumS] at hs
  have s1 : (acc ++ (⟨#[45]⟩ : ByteArray)).size = acc.size + 1 := size_append _ _
  have s2 : ((acc ++ (⟨#[45]⟩ : ByteArray)) ++ l[i]).size = acc.size + 1 + l[i].size := by rw [size_append, s1]
  refine Ev.step (fun k => by unfold isoglossref04_Join.l0; rfl) ?_
  refine Ev.ite_pos (by omega) (Ev.ite_pos (by omega) (Ev.ite_pos (by omega) (Ev.ite_pos (by omega) ?_)))
  rw [e, hw]
  refine Ev.ite_pos (by rw [s1]; omega) ?_
  exact ih (i + 1) _ (by omega) (by omega) (by omega) (by rw [s2]; omega)
theorem rJoin_ev (l : List ByteArray) (hl : l.length ≤ 1000000) (hs : sumS l ≤ 100000000) : Ev (fun k => isoglossref04_Join.f k l) (jn l) := by
 unfold isoglossref04_Join.f
 refine Ev.step (fun k => by unfold isoglossref04_Join.l0; rfl) ?_
 cases l with
 | nil => exact Ev.ite_neg (by simp) (Ev.now _)
 | cons x l =>
  simp only [sumS] at hs
  have e : rdOf ByteArray.empty (x :: l) 0 = x := rfl
  refine Ev.ite_pos (by simp <;> omega) (Ev.ite_neg (by omega) (Ev.ite_pos (by omega) ?_))
  have z : (⟨#[]⟩ : ByteArray) ++ x = x := by apply bytesOf_inj; rw [bytesOf_append]; rfl
  rw [e, z]
  refine Ev.ite_pos (by show (0 : Nat) + x.size ≤ 9223372036854775807; omega) ?_
  have hw : wrap64 ((0 : Int) + 1) = ((1 : Nat) : Int) := by unfold wrap64; omega
  rw [hw]
  exact rJoin_loop (x :: l) hl _ 1 x rfl (by omega) (by simp) (by simp; omega)
theorem sum_pieces : ∀ (d : Nat) (s : ByteArray), s.size = d → sumS (pieceS s) = s.size + 1 := by
 intro d
 induction d using Nat.strongRecOn with
 | _ d ih =>
  intro s hs
  have app : ∀ (l : List ByteArray) (y : ByteArray), sumS (l ++ [y]) = sumS l + (y.size + 1) := by
   intro l y
   induction l with
   | nil => simp [sumS]
   | cons x l ih2 => simp only [List.cons_append, sumS]; rw [ih2]; omega
  rcases last_spec s with ⟨_, h⟩ | ⟨n, hn, _, h45, hlast⟩
  · rw [piece_none s h]; rfl
  · have hz : (s.extract 0 n).size = n := by rw [ByteArray.size_extract]; omega
    rw [piece_last s n hn h45 hlast, app, ih n (by omega) _ hz, hz, ByteArray.size_extract]
    omega
theorem rTrim_loop : ∀ (d : Nat) (u : ByteArray) (f : Nat), u.size = d → u.size ≤ 900000 → u.size < f → Ev (fun k => isoglossref04_Trim.l0 k (pieceS u)) (if Lib.lastIndexByte u 45 < 0 then u else if u.size = (Lib.lastIndexByte u 45).toNat + 2 then trimF f u else u) := by
 intro d
 induction d using Nat.strongRecOn with
 | _ d ih =>
  intro u f hd hu hf
  obtain ⟨f, rfl⟩ : ∃ f', f = f' + 1 := ⟨f - 1, by omega⟩
  have hj : Ev (fun k => (isoglossref04_Join.f k (pieceS u)).bind fun t => some t) u := Ev.bind (Ev.res (rJoin_ev _ (by have := pieceS_len u; omega) (by rw [sum_pieces _ u rfl]; omega)) (jn_pieces _ u rfl)) (Ev.now _)
  refine Ev.step (fun k => by unfold isoglossref04_Trim.l0; rfl) ?_
  rcases last_spec u with ⟨h1, h⟩ | ⟨n, hn, h1, h45, hlast⟩
  · rw [if_pos (by omega)]
    rw [piece_none u h] at hj ⊢
    exact Ev.ite_neg (by simp) hj
  · have hz : (u.extract 0 n).size = n := by rw [ByteArray.size_extract]; omega
    have hp := piece_last u n hn h45 hlast
    obtain ⟨x, l, e⟩ := pieceS_cons' (u.extract 0 n)
    have hlen : (pieceS u).length = (pieceS (u.extract 0 n)).length + 1 := by rw [hp]; simp
    have hpos : 0 < (pieceS (u.extract 0 n)).length := by rw [e]; simp
    have hL := pieceS_len u
    have hw : wrap64 (((pieceS u).length : Int) - 1) = (((pieceS (u.extract 0 n)).length : Nat) : Int) := by rw [hlen]; unfold wrap64; omega
    have hlastp : rdOf ByteArray.empty (pieceS u) (((pieceS (u.extract 0 n)).length : Nat) : Int) = u.extract (n + 1) u.size := by
     rw [rd_at' (pieceS u) _ (by omega)]
     simp [hp]
    rw [hw, h1, if_neg (by omega)]
    refine Ev.ite_pos (by omega) (Ev.ite_pos (by omega) (Ev.ite_pos (by omega) ?_))
    rw [hlastp, Int.toNat_natCast]
    have hsz : (u.extract (n + 1) u.size).size = u.size - (n + 1) := by rw [ByteArray.size_extract]; omega
    by_cases h2 : u.size = n + 2
    · refine Ev.ite_pos (by rw [hsz]; omega) (Ev.ite_pos (by omega) ?_)
      rw [if_pos (by simpa using h2)]
      have ht : (pieceS u).take (pieceS (u.extract 0 n)).length = pieceS (u.extract 0 n) := by rw [hp]; simp
      rw [ht]
      refine Ev.res (ih n (by omega) (u.extract 0 n) f hz (by omega) (by omega)) ?_
      conv => rhs; unfold trimF
      rw [h1, if_neg (show ¬ ((n : Int) < 0) by omega), Int.toNat_natCast, hz]
    · refine Ev.ite_neg (by rw [hsz]; omega) ?_
      rw [if_neg (by simpa using h2)]
      exact hj
theorem rTrim_ev (s : ByteArray) (hs : s.size ≤ 900000) : Ev (fun k => isoglossref04_Trim.f k s) (trimP s) := by
 unfold isoglossref04_Trim.f
 refine Ev.bind (rSplit_ev s hs) ?_
 have hL := pieceS_len s
 unfold trimP trimF
 rcases last_spec s with ⟨h1, h⟩ | ⟨n, hn, h1, h45, hlast⟩
 · rw [piece_none s h, h1, if_pos (by omega)]
   have hw : wrap64 ((([s] : List ByteArray).length : Int) - 1) = 0 := by simp only [List.length_singleton]; unfold wrap64; omega
   rw [hw]
   refine Ev.ite_pos (by omega) (Ev.ite_pos (by simp) ?_)
   show Ev (fun k => isoglossref04_Trim.l0 k []) _
   refine Ev.step (fun k => by unfold isoglossref04_Trim.l0; rfl) ?_
   exact Ev.ite_neg (by simp) (Ev.bind (rJoin_ev [] (by simp) (by simp [sumS])) (Ev.now _))
 · have hz : (s.extract 0 n).size = n := by rw [ByteArray.size_extract]; omega
   have hp := piece_last s n hn h45 hlast
   have hlen : (pieceS s).length = (pieceS (s.extract 0 n)).length + 1 := by rw [hp]; simp
   have hw : wrap64 (((pieceS s).length : Int) - 1) = (((pieceS (s.extract 0 n)).length : Nat) : Int) := by rw [hlen]; unfold wrap64; omega
   rw [hw]
   refine Ev.ite_pos (by omega) (Ev.ite_pos (by omega) ?_)
   have ht : (pieceS s).take (((pieceS (s.extract 0 n)).length : Nat) : Int).toNat = pieceS (s.extract 0 n) := by rw [Int.toNat_natCast, hp]; simp
   rw [ht, h1, if_neg (by omega), Int.toNat_natCast]
   refine Ev.res (rTrim_loop n (s.extract 0 n) s.size hz (by omega) (by omega)) ?_
   rw [hz]
end Go.Proofs.YtpmcfckechjppaaGreatDoor.Ps
namespace Go.Proofs.YtpmcfckechjppaaGreatDoor.Ps
open Go.RowKit Go.Shelf Go.Proofs.YtpmcfckechjppaaGreatDoorW.PrintWords Go.Proofs.YtpmcfckechjppaaGreatDoorW.PrintLast Go.Proofs.YtpmcfckechjppaaGreatDoorW.PrintMore Go.Proofs.YtpmcfckechjppaaGreatDoor.P Go.Proofs.YtpmcfckechjppaaGreatDoor.LikW
open Go.Proofs.YtpmcfckechjppaaGreatDoor.Each Go.Proofs.YtpmcfckechjppaaGreatDoor.Base Go.Proofs.YtpmcfckechjppaaGreatDoor.Pure
attribute [local go_sem] Oper.semAt_some
set_option linter.unusedVariables false
set_option linter.unusedSimpArgs false
set_option maxRecDepth 100000
set_option maxHeartbeats 8000000
def thr (g : ByteArray → ByteArray → Bool) (ranges tags : List ByteArray) : List ByteArray := tags.filter fun t => ranges.any fun r => g r t
theorem matB_c (s t : ByteArray) (hs : s.size ≤ 900000) (ht : t.size ≤ 900000) (w : World) : Calls Tryz.prog 49 #[.string s, .string t] w fun e w' => e = .returned (.bool (matB s t)) ∧ Below w.heap.size w w' := by
 obtain ⟨k, hk⟩ := pMatches_ev s t hs ht
 exact filter_Matches.calls k s t _ w (hk k (Nat.le_refl _))
theorem matX_c (s t : ByteArray) (hs : s.size ≤ 900000) (ht : t.size ≤ 900000) (w : World) : Calls Tryz.prog 52 #[.string s, .string t] w fun e w' => e = .returned (.bool (matX s t)) ∧ Below w.heap.size w w' := by
 obtain ⟨k, hk⟩ := pExt_ev s t hs ht
 exact filter_MatchesExtended.calls k s t _ w (hk k (Nat.le_refl _))
theorem filter_c (tags ranges : List ByteArray) (A B : Option Addr) (cA cB : Nat) (w : World) (hl : tags.length ≤ 1000000) (hl2 : ranges.length ≤ 1000000) (h1 : ∀ t ∈ tags, t.size ≤ 900000) (h2 : ∀ t ∈ ranges, t.size ≤ 900000) (hA : Kd.C Kd.string w A tags.length tags) (hB : Kd.C Kd.string w B ranges.length ranges) :
 Calls Tryz.prog 20 #[.slice B ranges.length cB, .slice A tags.length cA] w fun e w' => ∃ v, e = .returned v ∧ Kd.R Kd.string 9 w' w.heap.size (fun _ => True) v (thr matB ranges tags) ∧ Below w.heap.size w w' := by
 have hP := through_c tags ranges 49 (enters_of Tryz.func49 (by kernel_rfl) rfl) matB (fun r hr t ht W => matB_c r t (h2 r hr) (h1 t ht) W) A B cA cB w hl hl2 hA hB
 go_enter Tryz.func20, Tryz.ntmps20
 go_wp2_with (first | (with_reducible refine hP.mono ?_; rintro e w1 ⟨v, rfl, ho, hb⟩))
 go_ret
 exact ⟨v, rfl, ho, hb⟩
theorem filterX_c (tags ranges : List ByteArray) (A B : Option Addr) (cA cB : Nat) (w : World) (hl : tags.length ≤ 1000000) (hl2 : ranges.length ≤ 1000000) (h1 : ∀ t ∈ tags, t.size ≤ 900000) (h2 : ∀ t ∈ ranges, t.size ≤ 900000) (hA : Kd.C Kd.string w A tags.length tags) (hB : Kd.C Kd.string w B ranges.length ranges) :
 Calls Tryz.prog 22 #[.slice B ranges.length cB, .slice A tags.length cA] w fun e w' => ∃ v, e = .returned v ∧ Kd.R Kd.string 9 w' w.heap.size (fun _ => True) v (thr matX ranges tags) ∧ Below w.heap.size w w' := by
 have hP := through_c tags ranges 52 (enters_of Tryz.func52 (by kernel_rfl) rfl) matX (fun r hr t ht W => matX_c r t (h2 r hr) (h1 t ht) W) A B cA cB w hl hl2 hA hB
 go_enter Tryz.func22, Tryz.ntmps22
 go_wp2_with (first | (with_reducible refine hP.mono ?_; rintro e w1 ⟨v, rfl, ho, hb⟩))
 go_ret
 exact ⟨v, rfl, ho, hb⟩
def matE (x : Bool) : ByteArray → ByteArray → Bool := if x = true then matX else matB
theorem rd_at (l : List ByteArray) (i : Nat) (h : i < l.length) : rdOf ByteArray.empty l (i : Int) = l[i] := by simp [rdOf, List.getD_eq_getElem?_getD, List.getElem?_eq_getElem h]
theorem rFilter_in (ranges tags : List ByteArray) (x : Bool) (hl : tags.length ≤ 1000000) (hl2 : ranges.length ≤ 1000000) (h1 : ∀ t ∈ tags, t.size ≤ 900000) (h2 : ∀ t ∈ ranges, t.size ≤ 900000) (i : Nat) (hi : i < tags.length) (out res : List ByteArray) (ho : out.length ≤ i)
 (hrest : ∀ o, o = out ++ (if (ranges.any fun r => matE x r tags[i]) = true then [tags[i]] else []) → Ev (fun k => isoglossref20_Filter.l0 k ranges tags x o ((i + 1 : Nat) : Int)) res) :
 ∀ (d j : Nat) (b : Bool), ranges.length - j = d → j ≤ ranges.length → b = ((ranges.take j).any fun r => matE x r tags[i]) → Ev (fun k => isoglossref20_Filter.l1 k ranges tags x out (i : Int) b (j : Int)) res := by
 intro d
 induction d with
 | zero =>
  intro j b hd hj hb
  have hwi : wrap64 ((i : Int) + 1) = ((i + 1 : Nat) : Int) := by unfold wrap64; omega
  rw [List.take_of_length_le (by omega)] at hb
  refine Ev.step (fun k => by unfold isoglossref20_Filter.l1; rfl) ?_
  refine Ev.ite_neg (by omega) ?_
  cases b with
  | true =>
   refine Ev.ite_pos rfl (Ev.ite_pos (by omega) (Ev.ite_pos (by omega) (Ev.ite_pos (by omega) ?_)))
   rw [rd_at tags i hi, hwi]
   exact hrest _ (by rw [← hb]; simp)
  | false =>
   refine Ev.ite_neg (by simp) ?_
   rw [hwi]
   exact hrest _ (by rw [← hb]; simp)
 | succ d ih =>
  intro j b hd hj hb
  have hwj : wrap64 ((j : Int) + 1) = ((j + 1 : Nat) : Int) := by unfold wrap64; omega
  have hjl : j < ranges.length := by omega
  have hs : ((ranges.take (j + 1)).any fun r => matE x r tags[i]) = (b || matE x ranges[j] tags[i]) := by
   rw [any_snoc (fun r => matE x r tags[i]) ranges j ranges[j] (List.getElem?_eq_getElem hjl), hb]
  refine Ev.step (fun k => by unfold isoglossref20_Filter.l1; rfl) ?_
  refine Ev.ite_pos (by omega) ?_
  have m1 := h1 _ (List.getElem_mem hi)
  have m2 := h2 _ (List.getElem_mem hjl)
  cases x with
  | true =>
   refine Ev.ite_pos rfl ?_
   cases b with
   | true =>
    refine Ev.ite_pos rfl ?_
    rw [hwj]
    exact ih (j + 1) true (by omega) (by omega) (by rw [hs]; rfl)
   | false =>
    refine Ev.ite_neg (by simp) (Ev.ite_pos (by omega) (Ev.ite_pos (by omega) (Ev.ite_pos (by omega) ?_)))
    rw [rd_at ranges j hjl, rd_at tags i hi, hwj]
    refine Ev.bind (rExtM_ev _ _ m2 m1) ?_
    exact ih (j + 1) _ (by omega) (by omega) (by rw [hs]; rfl)
  | false =>
   refine Ev.ite_neg (by simp) ?_
   cases b with
   | true =>
    refine Ev.ite_pos rfl ?_
    rw [hwj]
    exact ih (j + 1) true (by omega) (by omega) (by rw [hs]; rfl)
   | false =>
    refine Ev.ite_neg (by simp) (Ev.ite_pos (by omega) (Ev.ite_pos (by omega) (Ev.ite_pos (by omega) ?_)))
    rw [rd_at ranges j hjl, rd_at tags i hi, hwj]
    refine Ev.bind (rMatches_ev _ _ m2 m1) ?_
    exact ih (j + 1) _ (by omega) (by omega) (by rw [hs]; rfl)
theorem rFilter_loop (ranges tags : List ByteArray) (x : Bool) (hl : tags.length ≤ 1000000) (hl2 : ranges.length ≤ 1000000) (h1 : ∀ t ∈ tags, t.size ≤ 900000) (h2 : ∀ t ∈ ranges, t.size ≤ 900000) :
 ∀ (d i : Nat) (out : List ByteArray), tags.length - i = d → i ≤ tags.length → out.length ≤ i → Ev (fun k => isoglossref20_Filter.l0 k ranges tags x out (i : Int)) (out ++ thr (matE x) ranges (tags.drop i)) := by
 intro d
 induction d with
 | zero =>
  intro i out hd hi ho
  refine Ev.step (fun k => by unfold isoglossref20_Filter.l0; rfl) ?_
  refine Ev.ite_neg (by omega) (Ev.const ?_)
  rw [List.drop_eq_nil_of_le (by omega)]
  simp [thr]
 | succ d ih =>
  intro i out hd hi ho
  have hil : i < tags.length := by omega
  refine Ev.step (fun k => by unfold isoglossref20_Filter.l0; rfl) ?_
  refine Ev.ite_pos (by omega) ?_
  refine rFilter_in ranges tags x hl hl2 h1 h2 i hil out _ ho (fun o eo => ?_) _ 0 false rfl (Nat.zero_le _) rfl
  have hlen : o.length ≤ i + 1 := by rw [eo]; split <;> simp <;> omega
  refine Ev.res (ih (i + 1) o (by omega) (by omega) hlen) ?_
  rw [eo, List.drop_eq_getElem_cons hil]
  unfold thr
  rw [List.filter_cons]
  split <;> simp
theorem rFilter_ev (ranges tags : List ByteArray) (x : Bool) (hl : tags.length ≤ 1000000) (hl2 : ranges.length ≤ 1000000) (h1 : ∀ t ∈ tags, t.size ≤ 900000) (h2 : ∀ t ∈ ranges, t.size ≤ 900000) : Ev (fun k => isoglossref20_Filter.f k ranges tags x) (thr (matE x) ranges tags) :=
 Ev.res (rFilter_loop ranges tags x hl hl2 h1 h2 _ 0 [] rfl (Nat.zero_le _) (by simp)) (by simp)
theorem rSame_loop (a b : List ByteArray) (hab : a.length = b.length) (hl : a.length ≤ 1000000) : ∀ (d i : Nat), a.length - i = d → i ≤ a.length → Ev (fun k => isoglossref04_Same.l0 k a b (i : Int)) (decide (a.drop i = b.drop i)) := by
 intro d
 induction d with
 | zero =>
  intro i hd hi
  refine Ev.step (fun k => by unfold isoglossref04_Same.l0; rfl) ?_
  refine Ev.ite_neg (by omega) (Ev.const ?_)
  rw [List.drop_eq_nil_of_le (by omega), List.drop_eq_nil_of_le (by omega)]
  simp
 | succ d ih =>
  intro i hd hi
  have h1 : i < a.length := by omega
  have h2 : i < b.length := by omega
  have hw : wrap64 ((i : Int) + 1) = ((i + 1 : Nat) : Int) := by unfold wrap64; omega
  refine Ev.step (fun k => by unfold isoglossref04_Same.l0; rfl) ?_
  refine Ev.ite_pos (by omega) (Ev.ite_pos (by omega) (Ev.ite_pos (by omega) ?_))
  rw [rd_at a i h1, rd_at b i h2, hw, List.drop_eq_getElem_cons h1, List.drop_eq_getElem_cons h2]
  by_cases h : a[i] = b[i]
  · refine Ev.ite_pos (by rw [h]) (Ev.res (ih (i + 1) (by omega) (by omega)) ?_)
    simp only [List.cons.injEq, h, true_and]
  · exact Ev.ite_neg (fun hc => h (Base.toList_inj.1 hc)) (Ev.const (by simp only [List.cons.injEq, h, false_and, decide_false]))
theorem rSame_ev (a b : List ByteArray) (hl : a.length ≤ 1000000) : Ev (fun k => isoglossref04_Same.f k a b) (decide (a = b)) := by
 unfold isoglossref04_Same.f
 by_cases h : a.length = b.length
 · exact Ev.ite_pos (by omega) (Ev.res (rSame_loop a b h hl _ 0 rfl (Nat.zero_le _)) (by simp))
 · exact Ev.ite_neg (by omega) (Ev.const (by simp; intro hc; exact h (by rw [hc])))
def cut40 (s : ByteArray) : ByteArray := if 40 < s.size then s.extract 0 40 else s
theorem cut40_size (s : ByteArray) : (cut40 s).size ≤ 40 := by
 unfold cut40
 split
 · simp [ByteArray.size_extract]; omega
 · omega
theorem rFew_loop (l : List ByteArray) (most : Nat) (hm : most ≤ 100) : ∀ (d i : Nat) (out : List ByteArray), most - i = d → i ≤ most → i ≤ l.length → out.length = i → Ev (fun k => isoglossref20_Few.l0 k l (most : Int) out (i : Int)) (out ++ ((l.drop i).take (most - i)).map cut40) := by
 intro d
 induction d with
 | zero =>
  intro i out hd hi hil ho
  refine Ev.step (fun k => by unfold isoglossref20_Few.l0; rfl) ?_
  rw [show most - i = 0 by omega]
  have he : Ev (fun k => isoglossref20_Few.j1 k l (most : Int) out (i : Int) false) out := by
   refine Ev.step (fun k => by unfold isoglossref20_Few.j1; rfl) ?_
   exact Ev.ite_neg (by simp) (Ev.now _)
  have hd2 : decide ((i : Int) < (most : Int)) = false := decide_eq_false (by omega)
  rw [hd2]
  refine Ev.cases (fun _ => Ev.res he (by simp)) (fun _ => Ev.res he (by simp))
 | succ d ih =>
  intro i out hd hi hil ho
  have hw : wrap64 ((i : Int) + 1) = ((i + 1 : Nat) : Int) := by unfold wrap64; omega
  refine Ev.step (fun k => by unfold isoglossref20_Few.l0; rfl) ?_
  by_cases he : i < l.length
  · refine Ev.ite_pos (by omega) ?_
    have hd2 : decide ((i : Int) < (most : Int)) = true := decide_eq_true (by omega)
    rw [hd2]
    refine Ev.step (fun k => by unfold isoglossref20_Few.j1; rfl) ?_
    refine Ev.ite_pos rfl (Ev.ite_pos (by omega) (Ev.ite_pos (by omega) ?_))
    rw [rd_at l i he, hw]
    have hx : ((l.drop i).take (most - i)).map cut40 = cut40 l[i] :: ((l.drop (i + 1)).take (most - (i + 1))).map cut40 := by
     rw [List.drop_eq_getElem_cons he, show most - i = (most - (i + 1)) + 1 by omega, List.take_succ_cons, List.map_cons]
    rw [hx]
    have hr := fun o (ho : o.length = i + 1) => ih (i + 1) o (by omega) (by omega) (by omega) ho
    by_cases hc : 40 < (l[i]).size
    · refine Ev.ite_pos (by omega) (Ev.ite_pos (by omega) (Ev.ite_pos (by omega) (Ev.ite_pos (by omega) ?_)))
      refine Ev.res (hr _ (by simp [ho])) ?_
      unfold cut40
      rw [if_pos hc]; simp
    · refine Ev.ite_neg (by omega) (Ev.ite_pos (by omega) ?_)
      refine Ev.res (hr _ (by simp [ho])) ?_
      conv => rhs; unfold cut40
      rw [if_neg hc]; simp
      rfl
  · refine Ev.ite_neg (by omega) ?_
    refine Ev.step (fun k => by unfold isoglossref20_Few.j1; rfl) ?_
    refine Ev.ite_neg (by simp) (Ev.const ?_)
    rw [List.drop_eq_nil_of_le (by omega)]; simp
theorem rFew_ev (l : List ByteArray) (most : Nat) (hm : most ≤ 100) : Ev (fun k => isoglossref20_Few.f k l (most : Int)) ((l.take most).map cut40) :=
 Ev.res (rFew_loop l most hm _ 0 [] rfl (Nat.zero_le _) (Nat.zero_le _) rfl) (by simp)
def mkD (D : Nat) : Deferred := { target := .collected D, args := #[] }
theorem leaves_marks {F : Fence} {n : Nat} {P : Program} {fn : Func} {tmps : Array Value} {R : Ending → World → Prop} (B : Nat) : ∀ (ds : List Nat) (w W : World), B ≤ w.heap.size → Below B w W → ds.Nodup → (∀ D ∈ ds, W.heap[D]? = some (.deferred (some [])) ∧ w.heap.size ≤ D) →
 (∀ W', Below B w W' → (∀ k, k ∉ ds → W'.heap[k]? = W.heap[k]?) → LeavesIn F n P fn tmps R [] .returning W') → LeavesInM F n P fn tmps R (ds.map mkD) .returning W
 | [], w, W, hB, hb, _, _, h => h W hb fun k _ => rfl
 | D :: ds, w, W, hB, hb, hn, hd, h => by
  have h1 := hd D (by simp)
  refine ⟨by simp, .inl ⟨D, _, rfl, run_takeDeferred h1.1, ?_⟩⟩
  have hne : ∀ k, k ≠ D → (W.putObj D (.deferred none)).heap[k]? = W.heap[k]? := fun k hk => World.putObj_heap_other hk
  refine leaves_marks B ds w (W.putObj D (.deferred none)) hB (hb.trans (belowK_b (w := w) hB W D _ _ h1.2 h1.1 rfl rfl)) (List.nodup_cons.1 hn).2 (fun D' h' => ?_) (fun W' hW' hk => h W' hW' fun k hk' => ?_)
  · have h2 := hd D' (by simp [h'])
    exact ⟨(hne D' (fun e => (List.nodup_cons.1 hn).1 (e ▸ h'))).trans h2.1, h2.2⟩
  · rw [hk k (fun h' => hk' (by simp [h']))]
    exact hne k (fun e => hk' (by simp [e]))
theorem wp_only {P : Program} {K : Act → World → Prop} {Q' : Exit → Act → World → Prop} {c : Code} {a : Act} {w : World} (h : c.wp P (Exit.then K (fun _ _ _ => False)) a w) : c.wp P (Exit.then K Q') a w :=
 Code.wp_mono (fun e a w hq => by cases e <;> first | exact hq | exact hq.elim) h
theorem scope_bodyM {n : Nat} {P : Program} {f : Func} {Q : Ending → World → Prop} {c : Code} {a : Act} {w : World} (h : c.wpIn Fence.wide n P (bodyPostM Fence.wide n P f Q) a w) : (Code.scope c).wpIn Fence.wide n P (bodyPostM Fence.wide n P f Q) a w := by
 refine wpIn_wide.2 (wp_scope_straight ((wpIn_wide (n := n)).1 ?_))
 have e : Exit.noGoto (bodyPostM Fence.wide n P f Q) = bodyPostM Fence.wide n P f Q := by
  funext e a w
  cases e <;> rfl
 rw [e]
 exact h
def hitS (ps : List (ByteArray × Int)) (s : ByteArray) : Option Int := (seqP s).findSome? fun x => findT (lowS x) ps
def hitR (ps : List (ByteArray × Int)) (s : ByteArray) : Option Int := if (anyB s || !basicB s) = true then none else hitS ps s
theorem some_snoc {α β : Type} (f : α → Option β) (l : List α) (i : Nat) (x : α) (h : l[i]? = some x) (hn : (l.take i).findSome? f = none) : (l.take (i + 1)).findSome? f = f x := by
 rw [List.take_add_one, h, Option.toList_some, List.findSome?_append, hn]
 simp
structure WS (Mb b : Nat) (ps : List (ByteArray × Int)) (w : World) (r k : Int) (y : Bool) (ds : List Nat) (W : World) : Prop where
 c0 : W.heap[Mb]? = some (.cells #[.map (some b)] 114 (0, 0))
 c1 : W.heap[Mb + 1]? = some (.cells #[.int .i64 r] 3 (0, 0))
 c2 : W.heap[Mb + 1 + 1]? = some (.cells #[.int .i64 k] 3 (0, 0))
 c3 : W.heap[Mb + 1 + 1 + 1]? = some (.cells #[.bool y] 4 (0, 0))
 m : MapT W b ps
 B : Below w.heap.size w W
 hM : w.heap.size ≤ Mb
 nd : ds.Nodup
 hd : ∀ D ∈ ds, W.heap[D]? = some (.deferred (some [])) ∧ w.heap.size ≤ D
theorem WS.below {Mb b : Nat} {ps : List (ByteArray × Int)} {w : World} {r k : Int} {y : Bool} {ds : List Nat} {W W' : World} (h : WS Mb b ps w r k y ds W) (hb : Below W.heap.size W W') : WS Mb b ps w r k y ds W' :=
 ⟨(hb.block _ (lt_blk h.c0)).trans h.c0, (hb.block _ (lt_blk h.c1)).trans h.c1, (hb.block _ (lt_blk h.c2)).trans h.c2, (hb.block _ (lt_blk h.c3)).trans h.c3, h.m.below hb, h.B.trans (hb.mono h.B.size), h.hM, h.nd, fun D hD => ⟨(hb.block _ (lt_blk (h.hd D hD).1)).trans (h.hd D hD).1, (h.hd D hD).2⟩⟩
theorem WS.mark {Mb b : Nat} {ps : List (ByteArray × Int)} {w : World} {r k : Int} {y : Bool} {ds : List Nat} {W : World} (h : WS Mb b ps w r k y ds W) (D : Nat) (hD : W.heap[D]? = some (.deferred (some []))) (hw : w.heap.size ≤ D) (hn : D ∉ ds) : WS Mb b ps w r k y (D :: ds) W :=
 ⟨h.c0, h.c1, h.c2, h.c3, h.m, h.B, h.hM, List.nodup_cons.2 ⟨hn, h.nd⟩, fun D' h' => by rcases List.mem_cons.1 h' with e | h'; exact e ▸ ⟨hD, hw⟩; exact h.hd D' h'⟩
theorem WS.grown {Mb b : Nat} {ps : List (ByteArray × Int)} {w : World} {r k : Int} {y : Bool} {ds : List Nat} {W W' : World} {row : Option Nat} (h : WS Mb b ps w r k y ds W) (hg : W.grownBy W' row) (L : Nat) (hr : ∀ q, row = some q → L ≤ q) (h1 : Mb + 1 + 1 + 1 < L) (h2 : b < L) (h3 : ∀ D ∈ ds, D < L) (h4 : w.heap.size ≤ L) : WS Mb b ps w r k y ds W' := by
 have key : ∀ j, j < L → ∀ o, W.heap[j]? = some o → W'.heap[j]? = some o := fun j hj o ho => (hg.block j (Array.getElem?_eq_some_iff.1 ho).1 (fun e => by have := hr j e.symm; omega)).trans ho
 refine ⟨key _ (by omega) _ h.c0, key _ (by omega) _ h.c1, key _ (by omega) _ h.c2, key _ (by omega) _ h.c3, ?_, h.B.grown hg h.B.size (fun q e => by have := hr q e; omega), h.hM, h.nd, fun D hD => ⟨key _ (h3 D hD) _ (h.hd D hD).1, (h.hd D hD).2⟩⟩
 obtain ⟨es, c, hm, e⟩ := h.m
 exact ⟨es, c, key _ h2 _ hm, e⟩
theorem WS.hit {Mb b : Nat} {ps : List (ByteArray × Int)} {w : World} {ds : List Nat} {W : World} (h : WS Mb b ps w 0 0 false ds W) (r k : Int) : WS Mb b ps w r k true ds (((W.setCell ⟨Mb + 1, 0, none⟩ (.int .i64 r)).setCell ⟨Mb + 1 + 1, 0, none⟩ (.int .i64 k)).setCell ⟨Mb + 1 + 1 + 1, 0, none⟩ (.bool true)) := by
 have far : ∀ j o, W.heap[j]? = some o → j ≠ Mb + 1 → j ≠ Mb + 1 + 1 → j ≠ Mb + 1 + 1 + 1 → (((W.setCell ⟨Mb + 1, 0, none⟩ (.int .i64 r)).setCell ⟨Mb + 1 + 1, 0, none⟩ (.int .i64 k)).setCell ⟨Mb + 1 + 1 + 1, 0, none⟩ (.bool true)).heap[j]? = some o := fun j o ho n1 n2 n3 => (Below.heap_setCell _ _ _ _ n3).trans ((Below.heap_setCell _ _ _ _ n2).trans ((Below.heap_setCell _ _ _ _ n1).trans ho))
 have c1 := blk_put h.c1 0 (.int .i64 r) rfl
 have f2 : (W.setCell ⟨Mb + 1, 0, none⟩ (.int .i64 r)).heap[Mb + 1 + 1]? = some (.cells #[.int .i64 0] 3 (0, 0)) := (Below.heap_setCell _ _ _ _ (by show Mb + 1 + 1 ≠ Mb + 1; omega)).trans h.c2
 have c2 := blk_put f2 0 (.int .i64 k) rfl
 have f3 : ((W.setCell ⟨Mb + 1, 0, none⟩ (.int .i64 r)).setCell ⟨Mb + 1 + 1, 0, none⟩ (.int .i64 k)).heap[Mb + 1 + 1 + 1]? = some (.cells #[.bool false] 4 (0, 0)) := (Below.heap_setCell _ _ _ _ (by show Mb + 1 + 1 + 1 ≠ Mb + 1 + 1; omega)).trans ((Below.heap_setCell _ _ _ _ (by show Mb + 1 + 1 + 1 ≠ Mb + 1; omega)).trans h.c3)
 have c3 := blk_put f3 0 (.bool true) rfl
 have cells : ∀ j o, W.heap[j]? = some o → o.isCells = false → j ≠ Mb + 1 ∧ j ≠ Mb + 1 + 1 ∧ j ≠ Mb + 1 + 1 + 1 := fun j o ho hc => ⟨fun e => (by rw [e, h.c1] at ho; cases ho; cases hc), fun e => (by rw [e, h.c2] at ho; cases ho; cases hc), fun e => (by rw [e, h.c3] at ho; cases ho; cases hc)⟩
 refine ⟨far _ _ h.c0 (by omega) (by omega) (by omega), (Below.heap_setCell _ _ _ _ (by show Mb + 1 ≠ Mb + 1 + 1 + 1; omega)).trans ((Below.heap_setCell _ _ _ _ (by show Mb + 1 ≠ Mb + 1 + 1; omega)).trans c1), (Below.heap_setCell _ _ _ _ (by show Mb + 1 + 1 ≠ Mb + 1 + 1 + 1; omega)).trans c2, c3, ?_, ((h.B.setCell (by have := h.hM; show w.heap.size ≤ Mb + 1; omega) _).setCell (by have := h.hM; show w.heap.size ≤ Mb + 1 + 1; omega) _).setCell (by have := h.hM; show w.heap.size ≤ Mb + 1 + 1 + 1; omega) _, h.hM, h.nd, fun D hD => ⟨?_, (h.hd D hD).2⟩⟩
 · obtain ⟨es, c, hm, e⟩ := h.m
   obtain ⟨n1, n2, n3⟩ := cells b _ hm rfl
   exact ⟨es, c, far _ _ hm n1 n2 n3, e⟩
 · obtain ⟨n1, n2, n3⟩ := cells D _ (h.hd D hD).1 rfl
   exact far _ _ (h.hd D hD).1 n1 n2 n3
theorem seqF_size : ∀ (f : Nat) (s : ByteArray), ∀ x ∈ seqF f s, x.size ≤ s.size
 | 0, s, x, hx => by simp [seqF] at hx
 | f + 1, s, x, hx => by
  unfold seqF at hx
  split at hx
  · simp at hx
  · rename_i h
    rcases List.mem_cons.1 hx with e | h'
    · rw [e]; exact Nat.le_refl _
    · have := seqF_size f (trimP s) x h'
      have := trimP_size s h
      omega
theorem some_none {α β : Type} (f : α → Option β) (l : List α) (h : ∀ x ∈ l, f x = none) : l.findSome? f = none := by
 rw [List.findSome?_eq_none_iff]; exact h
theorem which_c (tags ranges : List ByteArray) (A B : Option Addr) (cA cB : Nat) (w : World) (hl : tags.length ≤ 1000000) (hl2 : ranges.length ≤ 1000000) (h1 : ∀ t ∈ tags, t.size ≤ 900000) (h2 : ∀ t ∈ ranges, t.size ≤ 900000) (hA : Kd.C Kd.string w A tags.length tags) (hB : Kd.C Kd.string w B ranges.length ranges) :
 Calls Tryz.prog 53 #[.slice B ranges.length cB, .slice A tags.length cA] w fun e w' => ∃ (r k : Int) (y : Bool), e = .returned (.tuple #[.int .i64 r, .int .i64 k, .bool y]) ∧ ranges.findSome? (hitR (placesT tags)) = (if y = true then some k else none) ∧ Below w.heap.size w w' := by
 have hP := places_c tags A cA w hl h1 hA
 have hmo : Tryz.prog.follows .mixedOrders = true := by kernel_rfl
 have HRB := Aside0.mk hB
 have HS := Aside0.mk h2
 have HL2 := Aside0.mk hl2
 clear hA hB hl hl2 h1 h2
 refine (callsIn_wide (n := 4)).1 ?_
 refine callsIn_of_wp_marks Tryz.func53 rfl trivial ?_ rfl
 simp only [Tryz.ntmps53, List.size_toArray, List.length_cons, List.length_nil, Nat.reduceAdd, Nat.reduceSub, Array.replicate_succ, Array.replicate_zero, List.push_toArray, List.append_toArray, List.nil_append, List.cons_append]
 gi_wp2
 refine scope_bodyM ?_
 gi_wp2_with (first
  | (refine ⟨trivial, ?_⟩; gi_at_call 86; refine (callsIn_wide.2 hP).mono ?_; rintro e w1 ⟨b, rfl, hbb, hmap, hb⟩))
 refine wpIn_label ?_
 simp only [Exit.then]
 gi_wp2
 obtain ⟨Mb, hM⟩ : ∃ Mb, Mb = w1.heap.size := ⟨_, rfl⟩
 obtain ⟨W0, hW0⟩ : ∃ W0, ((((w1.alloc (.cells #[.map (some b)] 114)).alloc (.cells #[.int .i64 0] 3)).alloc (.cells #[.int .i64 0] 3)).alloc (.cells #[.bool false] 4)) = W0 := ⟨_, rfl⟩
 have ws : WS Mb b (placesT tags) w 0 0 false [] W0 := by
  have hb1 : Below w1.heap.size w1 W0 := by rw [← hW0]; exact below_alloc (below_alloc (below_alloc (below_alloc (Below.refl _ _) _) _) _) _
  refine ⟨?_, ?_, ?_, ?_, hmap.below hb1, hb.trans (hb1.mono hb.size), by rw [hM]; exact hb.size, List.nodup_nil, fun D h => by simp at h⟩
  · rw [← hW0, hM]; exact aN (aN (aN (aZ rfl)))
  · rw [← hW0, hM]; exact aN (aN (aZ (by simp)))
  · rw [← hW0, hM]; exact aN (aZ (by simp))
  · rw [← hW0, hM]; exact aZ (by simp)
 rw [hW0, ← hM]
 have HW0 := Aside0.mk ws
 clear hW0 hM hmap hb ws
 refine wpIn_loop (fun a' w' => ∃ (i : Nat) (ds : List Nat) (u11 u12 u13 u14 u15 u21 u22 u23 u24 u25 u26 u27 u28 u29 u30 u31 u32 u33 u34 u35 u36 u37 u38 u39 u40 u41 u42 u43 u44 u45 : Value), i ≤ ranges.length ∧ a' = { tmps := #[.slice B ranges.length cB, .slice A tags.length cA, undef, undef, .int .i64 0, .int .i64 0, .bool false, .pointer (some ⟨Mb, 0, none⟩), .pointer (some ⟨Mb + 1, 0, none⟩), .pointer (some ⟨Mb + 1 + 1, 0, none⟩), .pointer (some ⟨Mb + 1 + 1 + 1, 0, none⟩), u11, u12, u13, u14, u15, .slice A tags.length cA, .map (some b), .slice B ranges.length cB, .int .i64 (ranges.length : Int), .int .i64 (i : Int), u21, u22, u23, u24, u25, u26, u27, u28, u29, u30, u31, u32, u33, u34, u35, u36, u37, u38, u39, u40, u41, u42, u43, u44, u45, undef, undef, undef], defers := ds.map mkD } ∧ Aside0 (WS Mb b (placesT tags) w 0 0 false ds w') ∧ Aside0 ((ranges.take i).findSome? (hitR (placesT tags)) = none)) (fun a' _ => ranges.length - (intOf (a'.tmps.getD 20 undef)).toNat) ⟨0, [], _, _, _, _, _, _, _, _, _, _, _, _, _, _, _, _, _, _, _, _, _, _, _, _, _, _, _, _, _, _, Nat.zero_le _, rfl, HW0, ⟨rfl⟩⟩ ?_
 rintro a' wr ⟨i, ds, u11, u12, u13, u14, u15, u21, u22, u23, u24, u25, u26, u27, u28, u29, u30, u31, u32, u33, u34, u35, u36, u37, u38, u39, u40, u41, u42, u43, u44, u45, hi, rfl, HW, HN⟩
 clear HW0
 by_cases hlt : i < ranges.length
 · obtain ⟨ad, e, x0⟩ := Kd.at_string HRB.out (i : Int) (by omega) (by omega)
   cases e
   have x1 := (HW.out.B.cell (World.block_lt_of_cell? w _ x0)).trans x0
   obtain ⟨s, hs⟩ : ∃ s, s = rdOf ByteArray.empty ranges (i : Int) := ⟨_, rfl⟩
   rw [← hs] at x0 x1
   simp only [Int.toNat_natCast] at x0 x1
   have hs2 : ranges[i]? = some s := by rw [hs]; simp [rdOf, List.getD_eq_getElem?_getD, List.getElem?_eq_getElem hlt]
   have hss := HS.out s (List.mem_of_getElem? hs2)
   have HSN := Aside0.mk (some_snoc (hitR (placesT tags)) ranges i s hs2 HN.out)
   clear hs hs2 x0
   have d1 : decide ((i : Int) < (ranges.length : Int)) = true := decide_eq_true (by omega)
   have m0 : (0 : Int) ≤ (i : Int) := by omega
   have m1 : (i : Int) < (ranges.length : Int) := by omega
   have m2 : i < ranges.length := hlt
   have wi : wrap64 ((i : Int) + 1) = ((i + 1 : Nat) : Int) := by unfold wrap64; have := HL2.out; omega
   have hbA : Below wr.heap.size wr (wr.alloc (.cells #[.int .i64 (i : Int)] 3)) := below_alloc (Below.refl _ _) _
   have HA := Aside0.mk hbA
   clear hbA
   cases ha : (s.toList == ([42] : List UInt8)) with
   | true =>
    have hh : hitR (placesT tags) s = none := by unfold hitR anyB; rw [ha]; rfl
    rw [hh] at HSN
    clear hh
    gi_wp2
    refine ⟨trivial, ?_⟩
    gi_wp2
    rw [wi]
    refine ⟨⟨i + 1, ds, _, _, _, _, _, _, _, _, _, _, _, _, _, _, _, _, _, _, _, _, _, _, _, _, _, _, _, _, _, _, by omega, rfl, ⟨HW.out.below HA.out⟩, HSN⟩, ?_⟩
    simp [intOf]; omega
   | false =>
    have hc := basic_c s hss (wr.alloc (.cells #[.int .i64 (i : Int)] 3))
    cases hb : basicB s with
    | false =>
     have hh : hitR (placesT tags) s = none := by unfold hitR; rw [hb]; simp
     rw [hh] at HSN
     have HBB := Aside0.mk hb
     clear hh hb
     gi_wp2_with (first
      | (refine ⟨trivial, ?_⟩; gi_at_call 80; refine (callsIn_wide.2 hc).mono ?_; rintro e w2 ⟨rfl, hb2⟩; rw [HBB.out]))
     rw [wi]
     refine ⟨⟨i + 1, ds, _, _, _, _, _, _, _, _, _, _, _, _, _, _, _, _, _, _, _, _, _, _, _, _, _, _, _, _, _, _, by omega, rfl, ⟨(HW.out.below HA.out).below hb2⟩, HSN⟩, ?_⟩
     simp [intOf]; omega
    | true =>
     have hh : hitR (placesT tags) s = hitS (placesT tags) s := by unfold hitR anyB; rw [ha, hb]; rfl
     rw [hh] at HSN
     have HBB := Aside0.mk hb
     clear hh hb
     gi_wp2_with (first
      | (refine ⟨trivial, ?_⟩; gi_at_call 80; refine (callsIn_wide.2 hc).mono ?_; rintro e w2 ⟨rfl, hb2⟩; rw [HBB.out])
      | (refine ⟨trivial, ?_⟩; gi_at_call 87; refine (sequence_in _ s _).mono ?_; rintro e w3 ⟨rfl, rfl⟩))
     have hAB := Aside0.mk ((HW.out.below HA.out).below hb2)
     obtain ⟨N, hN⟩ : ∃ N, N = wr.heap.size := ⟨_, rfl⟩
     obtain ⟨X, hX⟩ : ∃ X, X = w2.heap.size := ⟨_, rfl⟩
     obtain ⟨V, hV⟩ : ∃ V, w2.alloc (.cells #[.string s] 9) = V := ⟨_, rfl⟩
     have hbV : Below w2.heap.size w2 V := by rw [← hV]; exact below_alloc (Below.refl _ _) _
     have HV := Aside0.mk (hAB.out.below hbV)
     have kN : V.heap[N]? = some (.cells #[.int .i64 (i : Int)] 3 (0, 0)) := by
      rw [hN]
      have h0 : (wr.alloc (.cells #[.int .i64 (i : Int)] 3)).heap[wr.heap.size]? = some (.cells #[.int .i64 (i : Int)] 3 (0, 0)) := aZ rfl
      have h1 := (hb2.block _ (lt_blk h0)).trans h0
      exact (hbV.block _ (lt_blk h1)).trans h1
     have kX : V.heap[X]? = some (.cells #[.string s] 9 (0, 0)) := by rw [← hV, hX]; exact aZ rfl
     have hsz : V.heap.size = X + 1 := by rw [← hV, hX]; simp
     have hwV : w.heap.size ≤ V.heap.size := HV.out.B.size
     rw [hV, ← hN, ← hX]
     have HKN := Aside0.mk kN
     have HKX := Aside0.mk kX
     clear hAB hV hbV hN hX HW HA hb2 kN hc
     refine wpIn_rangeFunc_ownG rfl (by omega) (gf := 157) (lb := #[.pointer (some ⟨X, 0, none⟩)]) rfl trivial (enters_of Tryz.func157 (by kernel_rfl) rfl)
      (seq_stops _ (by omega) X s hss V ((blk_cell kX 0).trans rfl)) KB.trans (fun W lw o o' _ h h1 _ => KB.put _ W lw o o' h h1) (Below.refl _ _) (fun _ => rfl)
      (fun (pre : List (SeqOf s)) W => (∀ x ∈ pre.map Subtype.val, findT (lowS x) (placesT tags) = none) ∧ Below V.heap.size V W)
      (fun c (pre : List (SeqOf s)) W => c = .exit 0 ∧ ∃ k, (pre.map Subtype.val).findSome? (fun x => findT (lowS x) (placesT tags)) = some k ∧ WS Mb b (placesT tags) w (i : Int) k true ds W)
      (fun pre A B row ⟨i0, i7⟩ hg hr => ⟨i0, i7.grown hg i7.size (fun r e => (hr r e).1)⟩)
      (fun c pre A B row ⟨i0, k, i1, i7⟩ hg hr => ⟨i0, k, i1, i7.grown hg V.heap.size (fun r e => (hr r e).1) (lt_blk HV.out.c3) HV.out.m.lt (fun D hD => lt_blk (HV.out.hd D hD).1) hwV⟩)
      ⟨fun x hx => by simp at hx, Below.refl _ _⟩
      (fun x' : SeqOf s => let x := x'.1; { tmps := #[.slice (some ad) ranges.length cB, .slice A tags.length cA, undef, undef, .int .i64 0, .int .i64 0, .bool false, .pointer (some ⟨Mb, 0, none⟩), .pointer (some ⟨Mb + 1, 0, none⟩), .pointer (some ⟨Mb + 1 + 1, 0, none⟩), .pointer (some ⟨Mb + 1 + 1 + 1, 0, none⟩), .pointer (some ⟨N, 0, none⟩), .string s, .string x, u14, u15, .slice A tags.length cA, .map (some b), .slice (some ad) ranges.length cB, .int .i64 (ranges.length : Int), .int .i64 (i : Int), .bool true, .int .i64 (i : Int), .pointer (some (ad.add i)), .string s, .string s, .bool false, .bool false, .string s, .bool true, .bool false, .bool false, .string s, .func (.func 157) #[] #[.pointer (some ⟨X, 0, none⟩)], .string x, u35, u36, u37, u38, u39, u40, u41, u42, u43, u44, u45, undef, undef, undef], defers := [] }) ?assign ?body ?done ?stop
     case assign =>
      rintro lp ⟨x, hxm⟩ W K hK
      simp only [encS] at hK ⊢
      gi_wp2
      simpa using hK
     case body =>
      rintro lp pre ⟨x, hxm⟩ W ⟨i0, i7⟩ hlen
      have HWS := Aside0.mk (HV.out.below i7)
      have HI0 := Aside0.mk i0
      have HI7 := Aside0.mk i7
      have hxs : x.size ≤ 900000 := by have := seqF_size (s.size + 1) s x hxm; omega
      obtain ⟨q, hq⟩ : ∃ q, lowS x = q := ⟨_, rfl⟩
      have hlo : ascii_Lower.f x = some q := by rw [← hq]; exact Lower_eq x (by omega)
      have HQ := Aside0.mk hlo
      have HEQ := Aside0.mk hq
      have cX := Aside0.mk kX
      clear i0 i7 hlen hlo hq kX
      refine wpIn_block (wpIn_seq ?_)
      cases hf : findT q (placesT tags) with
      | none =>
       have HF := Aside0.mk hf
       clear hf
       refine start_round (n := 9) (S := fun w' => w'.cell? ⟨Mb, 0, none⟩ = some (.map (some b))) (ds := []) (M 9 0) (fun ⟨_, _, h⟩ => h) hmo (by kernel_rfl) (by kernel_rfl) rfl ((blk_cell (w := W.drew) (HWS.out.below (below_drew (Below.refl _ _))).c0 0).trans rfl) (fun hHeld => ?_)
       obtain ⟨W1, hW1⟩ : ∃ W1, W1 = W.drew := ⟨_, rfl⟩
       rw [← hW1] at hHeld ⊢
       have hbD : Below W.heap.size W W1 := by rw [hW1]; exact below_drew (Below.refl _ _)
       replace HWS := Aside0.mk (HWS.out.below hbD)
       have HBW := Aside0.mk hbD
       clear hW1 hbD
       refine pw 1 37 (M 9 2) ?_
       refine tw 0 36 (M 9 3) hHeld ?_
       refine ow 2 (some 38) (M 9 7) fun K hK => ?_
       refine gow Tryz.func62 #[.string x] ?_
       with_reducible refine (ascii_Lower.calls x q _ HQ.out).mono ?_
       rintro e W2 ⟨rfl, hb⟩
       refine ⟨_, rfl, ?_⟩
       replace HBW := Aside0.mk (HBW.out.trans (hb.mono HBW.out.size))
       replace HWS := Aside0.mk (HWS.out.below hb)
       clear hb
       refine hK.out _ _ ((blk_cell HWS.out.c0 0).trans rfl) (fun hHeld => ?_)
       clear hK K
       refine norm_ (a' := ?_) ?_ ?_
       rotate_left
       · show Act.put _ (some 38) _ = _
         simp only [Act.put, List.setIfInBounds_toArray, List.set_cons_zero, List.set_cons_succ, i64_w, i32_w]
         rfl
       refine ow 3 (some 39) (M 9 15) fun K hK => ?_
       have hlk := lookT HWS.out.m q
       rw [HF.out] at hlk
       refine value_ (w1 := W2) (v := .tuple #[.int .i64 0, .bool false]) (by rfl) rfl (by go_simp) ?_
       clear hlk
       refine hK.out _ _ ((blk_cell HWS.out.c0 0).trans rfl) (fun hHeld => ?_)
       clear hK K
       refine norm_ (a' := ?_) ?_ ?_
       rotate_left
       · show Act.put _ (some 39) _ = _
         simp only [Act.put, List.setIfInBounds_toArray, List.set_cons_zero, List.set_cons_succ, i64_w, i32_w]
         rfl
       refine pw 4 35 (M 9 31) ?_
       refine pw 5 40 (M 9 63) ?_
       refine pw 6 41 (M 9 127) ?_
       refine pw 7 14 (M 9 255) ?_
       refine pw 8 15 (M 9 511) ?_
       refine done_ (by kernel_rfl) ?_
       gi_wp2
       have hXW : X < W.heap.size := by have := HI7.out.size; omega
       refine ⟨(ko_below HBW.out).from _, KB.below hXW HBW.out, fun z hz => ?_, HI7.out.trans (HBW.out.mono HI7.out.size)⟩
       rw [List.map_append, List.mem_append] at hz
       rcases hz with hz | hz
       · exact HI0.out z hz
       · simp at hz
         rw [hz, HEQ.out]
         exact HF.out
      | some k =>
       have HF := Aside0.mk hf
       clear hf
       refine start_round (n := 9) (S := fun w' => w'.cell? ⟨Mb, 0, none⟩ = some (.map (some b))) (ds := []) (M 9 0) (fun ⟨_, _, h⟩ => h) hmo (by kernel_rfl) (by kernel_rfl) rfl ((blk_cell (w := W.drew) (HWS.out.below (below_drew (Below.refl _ _))).c0 0).trans rfl) (fun hHeld => ?_)
       obtain ⟨W1, hW1⟩ : ∃ W1, W1 = W.drew := ⟨_, rfl⟩
       rw [← hW1] at hHeld ⊢
       have hbD : Below W.heap.size W W1 := by rw [hW1]; exact below_drew (Below.refl _ _)
       replace HWS := Aside0.mk (HWS.out.below hbD)
       have HBW := Aside0.mk hbD
       clear hW1 hbD
       refine pw 1 37 (M 9 2) ?_
       refine tw 0 36 (M 9 3) hHeld ?_
       refine ow 2 (some 38) (M 9 7) fun K hK => ?_
       refine gow Tryz.func62 #[.string x] ?_
       with_reducible refine (ascii_Lower.calls x q _ HQ.out).mono ?_
       rintro e W2 ⟨rfl, hb⟩
       refine ⟨_, rfl, ?_⟩
       replace HBW := Aside0.mk (HBW.out.trans (hb.mono HBW.out.size))
       replace HWS := Aside0.mk (HWS.out.below hb)
       clear hb
       refine hK.out _ _ ((blk_cell HWS.out.c0 0).trans rfl) (fun hHeld => ?_)
       clear hK K
       refine norm_ (a' := ?_) ?_ ?_
       rotate_left
       · show Act.put _ (some 38) _ = _
         simp only [Act.put, List.setIfInBounds_toArray, List.set_cons_zero, List.set_cons_succ, i64_w, i32_w]
         rfl
       refine ow 3 (some 39) (M 9 15) fun K hK => ?_
       have hlk := lookT HWS.out.m q
       rw [HF.out] at hlk
       refine value_ (w1 := W2) (v := .tuple #[.int .i64 k, .bool true]) (by rfl) rfl (by go_simp) ?_
       clear hlk
       refine hK.out _ _ ((blk_cell HWS.out.c0 0).trans rfl) (fun hHeld => ?_)
       clear hK K
       refine norm_ (a' := ?_) ?_ ?_
       rotate_left
       · show Act.put _ (some 39) _ = _
         simp only [Act.put, List.setIfInBounds_toArray, List.set_cons_zero, List.set_cons_succ, i64_w, i32_w]
         rfl
       refine pw 4 35 (M 9 31) ?_
       refine pw 5 40 (M 9 63) ?_
       refine pw 6 41 (M 9 127) ?_
       refine pw 7 14 (M 9 255) ?_
       refine pw 8 15 (M 9 511) ?_
       refine done_ (by kernel_rfl) ?_
       have kN2 := (HBW.out.block _ (Nat.lt_of_lt_of_le (lt_blk HKN.out) HI7.out.size)).trans ((HI7.out.block _ (lt_blk HKN.out)).trans HKN.out)
       have cN := (blk_cell kN2 0).trans rfl
       have f1 := blk_frozen HWS.out.c1 0
       have c1 := (blk_cell HWS.out.c1 0).trans rfl
       have k2 : (W2.setCell ⟨Mb + 1, 0, none⟩ (.int .i64 (i : Int))).heap[Mb + 1 + 1]? = some (.cells #[.int .i64 0] 3 (0, 0)) := (Below.heap_setCell _ _ _ _ (by show Mb + 1 + 1 ≠ Mb + 1; omega)).trans HWS.out.c2
       have f2 := blk_frozen k2 0
       have c2 := (blk_cell k2 0).trans rfl
       have k3 : ((W2.setCell ⟨Mb + 1, 0, none⟩ (.int .i64 (i : Int))).setCell ⟨Mb + 1 + 1, 0, none⟩ (.int .i64 k)).heap[Mb + 1 + 1 + 1]? = some (.cells #[.bool false] 4 (0, 0)) := (Below.heap_setCell _ _ _ _ (by show Mb + 1 + 1 + 1 ≠ Mb + 1 + 1; omega)).trans ((Below.heap_setCell _ _ _ _ (by show Mb + 1 + 1 + 1 ≠ Mb + 1; omega)).trans HWS.out.c3)
       have f3 := blk_frozen k3 0
       have c3 := (blk_cell k3 0).trans rfl
       clear kN2 k2 k3
       gi_wp2
       refine ⟨((((ko_below HBW.out).trans (KeepsOthers.setCell _ _ _)).trans (KeepsOthers.setCell _ _ _)).trans (KeepsOthers.setCell _ _ _)).from _, rfl, k, ?_, HWS.out.hit (i : Int) k⟩
       rw [List.map_append, List.findSome?_append, some_none _ _ HI0.out]
       simp [HEQ.out, HF.out]
     case done =>
      rintro D ys W hD hys ⟨i0, i7⟩ hK
      rw [hys] at i0
      have hno : hitS (placesT tags) s = none := some_none _ _ i0
      rw [hno] at HSN
      have hnD : D ∉ ds := fun h => by have := lt_blk (HV.out.hd D h).1; omega
      have HWM := Aside0.mk ((HV.out.below i7).mark D hK (Nat.le_trans hwV hD) hnD)
      clear i0 i7 hK hno
      gi_wp2
      rw [wi]
      refine ⟨⟨i + 1, D :: ds, _, _, _, _, _, _, _, _, _, _, _, _, _, _, _, _, _, _, _, _, _, _, _, _, _, _, _, _, _, _, by omega, rfl, HWM, HSN⟩, ?_⟩
      simp [intOf]; omega
     case stop =>
      rintro D c pre W hD hpre ⟨rfl, k, i1, i7⟩ hK
      have hnD : D ∉ ds := fun h => by have := lt_blk (HV.out.hd D h).1; omega
      have hyes : hitS (placesT tags) s = some k := by
       obtain ⟨rest, hr⟩ := hpre
       unfold hitS
       rw [← hr, List.findSome?_append, i1]
       rfl
      have hfull : ranges.findSome? (hitR (placesT tags)) = some k := by
       have e : ranges = ranges.take (i + 1) ++ ranges.drop (i + 1) := (List.take_append_drop _ _).symm
       rw [e, List.findSome?_append, HSN.out, hyes]
       rfl
      have HFU := Aside0.mk hfull
      have HWM := Aside0.mk (i7.mark D hK (Nat.le_trans hwV hD) hnD)
      clear i1 i7 hK hyes hfull
      gi_wp2
      refine wpIn_wide.2 (wp_only ?_)
      refine start_ (n := 6) (S := fun w' => w'.cell? ⟨Mb + 1, 0, none⟩ = some (.int .i64 (i : Int)) ∧ w'.cell? ⟨Mb + 1 + 1, 0, none⟩ = some (.int .i64 k) ∧ w'.cell? ⟨Mb + 1 + 1 + 1, 0, none⟩ = some (.bool true)) (ds := []) (M 6 0) (by kernel_rfl) rfl rfl ⟨(blk_cell (w := W.drew) (HWM.out.below (below_drew (Below.refl _ _))).c1 0).trans rfl, (blk_cell (w := W.drew) (HWM.out.below (below_drew (Below.refl _ _))).c2 0).trans rfl, (blk_cell (w := W.drew) (HWM.out.below (below_drew (Below.refl _ _))).c3 0).trans rfl⟩ (fun hHeld => ?_)
      refine tw 0 46 (M 6 1) hHeld ?_
      refine pw 3 4 (M 6 9) ?_
      refine tw 1 47 (M 6 11) hHeld ?_
      refine pw 4 5 (M 6 27) ?_
      refine tw 2 48 (M 6 31) hHeld ?_
      refine pw 5 6 (M 6 63) ?_
      refine done_ (by kernel_rfl) ?_
      gi_wp2
      have hDR := below_drew (Below.refl W.heap.size W)
      have HW9 := HWM.out.below hDR
      refine leaves_marks w.heap.size (D :: ds) w W.drew (Nat.le_refl _) HW9.B HW9.nd HW9.hd (fun W' hW' hk => ?_)
      show ∃ v, _ ∧ _
      refine ⟨.tuple #[.int .i64 (i : Int), .int .i64 k, .bool true], ?_, _, k, true, rfl, by rw [HFU.out]; rfl, hW'⟩
      simp [results, Tryz.results53, asAddr, go_sem]
 · obtain rfl : i = ranges.length := by omega
   have d1 : decide ((ranges.length : Int) < (ranges.length : Int)) = false := decide_eq_false (by omega)
   gi_wp2
   refine wpIn_wide.2 (wp_only ?_)
   refine start_ (n := 6) (S := fun w' => w'.cell? ⟨Mb + 1, 0, none⟩ = some (.int .i64 0) ∧ w'.cell? ⟨Mb + 1 + 1, 0, none⟩ = some (.int .i64 0) ∧ w'.cell? ⟨Mb + 1 + 1 + 1, 0, none⟩ = some (.bool false)) (ds := []) (M 6 0) (by kernel_rfl) rfl rfl ⟨(blk_cell (w := wr.drew) (HW.out.below (below_drew (Below.refl _ _))).c1 0).trans rfl, (blk_cell (w := wr.drew) (HW.out.below (below_drew (Below.refl _ _))).c2 0).trans rfl, (blk_cell (w := wr.drew) (HW.out.below (below_drew (Below.refl _ _))).c3 0).trans rfl⟩ (fun hHeld => ?_)
   refine tw 0 46 (M 6 1) hHeld ?_
   refine pw 3 4 (M 6 9) ?_
   refine tw 1 47 (M 6 11) hHeld ?_
   refine pw 4 5 (M 6 27) ?_
   refine tw 2 48 (M 6 31) hHeld ?_
   refine pw 5 6 (M 6 63) ?_
   refine done_ (by kernel_rfl) ?_
   gi_wp2
   have hDR := below_drew (Below.refl wr.heap.size wr)
   have HW9 := HW.out.below hDR
   have hn := HN.out
   rw [List.take_length] at hn
   refine leaves_marks w.heap.size ds w wr.drew (Nat.le_refl _) HW9.B HW9.nd HW9.hd (fun W' hW' hk => ?_)
   show ∃ v, _ ∧ _
   refine ⟨.tuple #[.int .i64 0, .int .i64 0, .bool false], ?_, 0, 0, false, rfl, by rw [hn]; rfl, hW'⟩
   simp [results, Tryz.results53, asAddr, go_sem]
theorem ba_beq (a b : ByteArray) : (a == b) = true ↔ a = b := by
 constructor
 · intro h
   have e : a.data = b.data := by simpa using (show (a.data == b.data) = true from h)
   cases a; cases b; simp at e; rw [e]
 · intro h
   subst h
   show (a.data == a.data) = true
   simp
theorem findT_append (q : ByteArray) (ps qs : List (ByteArray × Int)) : findT q (ps ++ qs) = (findT q ps).or (findT q qs) := by
 unfold findT
 rw [List.find?_append]
 cases ps.find? (fun p => q == p.1) <;> rfl
theorem findT_places (q : ByteArray) (l : List ByteArray) : ∀ i, i ≤ l.length → findT q (placesT (l.take i)) = ((l.take i).findIdx? fun t => q == lowS t).map Int.ofNat
 | 0, _ => rfl
 | i + 1, hi => by
  have ih := findT_places q l i (by omega)
  have hx : l[i]? = some (l[i]'(by omega)) := List.getElem?_eq_getElem _
  obtain ⟨t, ht⟩ : ∃ t, t = l[i]'(by omega) := ⟨_, rfl⟩
  rw [← ht] at hx
  have hlen : (l.take i).length = i := by rw [List.length_take]; omega
  rw [places_snoc l i t hx, List.take_add_one, hx, Option.toList_some, List.findIdx?_append, hlen]
  unfold addP
  cases hs : findT (lowS t) (placesT (l.take i)) with
  | some y =>
   simp only [Option.isSome_some, if_true]
   rw [ih]
   by_cases hq : q = lowS t
   · subst hq
     rw [ih] at hs
     cases hf : (l.take i).findIdx? (fun u => lowS t == lowS u) with
     | none => rw [hf] at hs; cases hs
     | some j => rfl
   · have hb : (q == lowS t) = false := by rw [← Bool.not_eq_true]; exact fun h => hq ((ba_beq _ _).1 h)
     simp [hb]
  | none =>
   simp only [Option.isSome_none, Bool.false_eq_true, if_false]
   rw [findT_append, ih]
   cases hb : q == lowS t with
   | true =>
    cases hf : (l.take i).findIdx? (fun u => q == lowS u) <;> simp [findT, hb]
   | false =>
    cases hf : (l.take i).findIdx? (fun u => q == lowS u) <;> simp [findT, hb]
theorem findT_all (q : ByteArray) (l : List ByteArray) : findT q (placesT l) = (l.findIdx? fun t => q == lowS t).map Int.ofNat := by
 have := findT_places q l l.length (Nat.le_refl _)
 rwa [List.take_length] at this
theorem hit_in (tags ranges : List ByteArray) (k : Int) (h : ranges.findSome? (hitR (placesT tags)) = some k) : 0 ≤ k ∧ k < tags.length := by
 obtain ⟨s, _, hs⟩ := List.exists_of_findSome?_eq_some h
 unfold hitR at hs
 split at hs
 · cases hs
 · unfold hitS at hs
   obtain ⟨x, _, hx⟩ := List.exists_of_findSome?_eq_some hs
   rw [findT_all] at hx
   cases hf : tags.findIdx? (fun t => lowS x == lowS t) with
   | none => rw [hf] at hx; cases hx
   | some j =>
    rw [hf] at hx
    cases hx
    have := (List.findIdx?_eq_some_iff_getElem.1 hf).1
    exact ⟨by simp, by simpa using this⟩
def lookP (ranges tags : List ByteArray) (other : ByteArray) : ByteArray :=
 match ranges.findSome? (hitR (placesT tags)) with
 | some k => rdOf ByteArray.empty tags k
 | none => other
theorem lookup_c (tags ranges : List ByteArray) (other : ByteArray) (A B : Option Addr) (cA cB : Nat) (w : World) (hl : tags.length ≤ 1000000) (hl2 : ranges.length ≤ 1000000) (h1 : ∀ t ∈ tags, t.size ≤ 900000) (h2 : ∀ t ∈ ranges, t.size ≤ 900000) (hA : Kd.C Kd.string w A tags.length tags) (hB : Kd.C Kd.string w B ranges.length ranges) :
 Calls Tryz.prog 23 #[.slice B ranges.length cB, .slice A tags.length cA, .string other] w fun e w' => e = .returned (.string (lookP ranges tags other)) ∧ Below w.heap.size w w' := by
 have hP := which_c tags ranges A B cA cB w hl hl2 h1 h2 hA hB
 have HA := Aside0.mk hA
 clear hA hB
 cases hf : ranges.findSome? (hitR (placesT tags)) with
 | none =>
  have hlk : lookP ranges tags other = other := by unfold lookP; rw [hf]
  rw [hlk]
  rw [hf] at hP
  have HP := Aside0.mk hP
  clear hP hf hlk
  go_enter Tryz.func23, Tryz.ntmps23
  go_wp2_with (first | (with_reducible refine HP.out.mono ?_; rintro e w1 ⟨r, k, y, rfl, hy, hb⟩; obtain rfl : y = false := (by cases y <;> simp at hy ⊢); clear hy))
  go_ret
  exact ⟨rfl, hb⟩
 | some k0 =>
  have hlk : lookP ranges tags other = rdOf ByteArray.empty tags k0 := by unfold lookP; rw [hf]
  rw [hlk]
  obtain ⟨n0, n1⟩ := hit_in tags ranges k0 hf
  rw [hf] at hP
  obtain ⟨ad, e, x0⟩ := Kd.at_string HA.out k0 n0 n1
  cases e
  have HP := Aside0.mk hP
  clear hP hf hlk
  go_enter Tryz.func23, Tryz.ntmps23
  go_wp2_with (first | (with_reducible refine HP.out.mono ?_; rintro e w1 ⟨r, k, y, rfl, hy, hb⟩; obtain ⟨rfl, rfl⟩ : y = true ∧ k = k0 := (by cases y <;> simp at hy ⊢; exact hy.symm); have x1 := (hb.cell (World.block_lt_of_cell? w _ x0)).trans x0; clear hy))
  go_ret
  exact ⟨rfl, hb⟩
end Go.Proofs.YtpmcfckechjppaaGreatDoor.Ps
