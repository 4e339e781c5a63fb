/- Plain facts on texts as lists of numbers; on what the ascii package's loops come to, from some number of rounds on. -/
import Derived.Test.YtmbfnbnlajchmaaDoorAdEach
import Derived.Laws.Strings
import Derived.Test.YtmbfnbnlajchmaaDoorAdWMore
namespace Go.Proofs.YtmbfnbnlajchmaaDoor.Base
open Go.RowKit Go.Proofs.YtmbfnbnlajchmaaDoorW.PrintWords Go.Proofs.YtmbfnbnlajchmaaDoorW.PrintLast Go.Proofs.YtmbfnbnlajchmaaDoorW.PrintMore
open Go.Proofs.YtmbfnbnlajchmaaDoor.Each
set_option linter.unusedVariables false
set_option linter.unusedSimpArgs false

theorem Ev.const {α : Type} {o : Option α} {r : α} (h : o = some r) : Ev (fun _ => o) r := ⟨0, fun _ _ => h⟩
theorem Ev.ite_pos {α : Type} {c : Prop} [Decidable c] {a b : Nat → Option α} {r : α} (h : c) (k : Ev a r) : Ev (fun n => if c then a n else b n) r := by
  obtain ⟨K, k⟩ := k
  exact ⟨K, fun n hn => by simp only [if_pos h]; exact k n hn⟩
theorem Ev.ite_neg {α : Type} {c : Prop} [Decidable c] {a b : Nat → Option α} {r : α} (h : ¬ c) (k : Ev b r) : Ev (fun n => if c then a n else b n) r := by
  obtain ⟨K, k⟩ := k
  exact ⟨K, fun n hn => by simp only [if_neg h]; exact k n hn⟩
theorem Ev.bind_c {α β : Type} {o : Option α} {f : Nat → α → Option β} {a : α} {r : β} (h : o = some a) (k : Ev (fun n => f n a) r) : Ev (fun n => o.bind (f n)) r := Ev.bind (Ev.const h) k
theorem Ev.name {α β : Type} {a : α} {f : Nat → α → Option β} {r : β} (k : Ev (fun n => f n a) r) : Ev (fun n => (some a).bind (f n)) r := Ev.bind_c rfl k

def byteI (x : Int) : Prop := 0 ≤ x ∧ x ≤ 255
theorem bytesOf_byte (s : ByteArray) : ∀ x ∈ bytesOf s, byteI x := by
  intro x hx
  unfold bytesOf at hx
  obtain ⟨b, _, rfl⟩ := List.mem_map.1 hx
  have := b.toNat_lt
  unfold byteI
  omega
theorem bytesOf_str (l : List Int) (h : ∀ x ∈ l, byteI x) : bytesOf (strOfNums l) = l := by
  unfold bytesOf
  rw [strOfNums_data, List.map_map]
  conv => rhs; rw [← List.map_id l]
  apply List.map_congr_left
  intro x hx
  obtain ⟨h0, h1⟩ := h x hx
  simp only [Function.comp, id]
  rw [UInt8.toNat_ofNat']
  omega
theorem bytesOf_inj {s t : ByteArray} (h : bytesOf s = bytesOf t) : s = t := by
  have h2 : s.data.toList = t.data.toList := by
    unfold bytesOf at h
    refine List.map_inj_right (f := fun b : UInt8 => (b.toNat : Int)) (fun a b hab => ?_) |>.1 h
    exact UInt8.toNat_inj.1 (by omega)
  exact ByteArray.ext (Array.toList_inj.1 h2)
theorem toList_data (s : ByteArray) : s.toList = s.data.toList := ByteArray.toList_eq s
theorem toList_inj {s t : ByteArray} : s.toList = t.toList ↔ s = t := by
  rw [toList_data, toList_data]
  exact ⟨fun h => ByteArray.ext (Array.toList_inj.1 h), fun h => by rw [h]⟩
theorem toList_nil {s : ByteArray} : s.toList = [] ↔ bytesOf s = [] := by
  rw [toList_data]
  unfold bytesOf
  exact List.map_eq_nil_iff.symm
theorem bytesOf_append (s t : ByteArray) : bytesOf (s ++ t) = bytesOf s ++ bytesOf t := by
  unfold bytesOf
  rw [ByteArray.data_append, Array.toList_append, List.map_append]
theorem bytesOf_extract (s : ByteArray) (i j : Nat) : bytesOf (s.extract i j) = ((bytesOf s).drop i).take (j - i) := by
  unfold bytesOf
  rw [ByteArray.data_extract, Array.toList_extract, List.extract_eq_take_drop, List.map_take, List.map_drop]
theorem size_bytesOf (s : ByteArray) : s.size = (bytesOf s).length := (bytesOf_length s).symm
theorem bt_get (s : ByteArray) (i : Nat) (x : Int) (h : (bytesOf s)[i]? = some x) : bt s (i : Int) = x := by
  have h2 := rd_bytesOf s (i : Int)
  unfold rd at h2
  rw [← h2]
  simp [List.getD_eq_getElem?_getD, h]
theorem drop_at (s : ByteArray) (i : Nat) (h : i < s.size) : (bytesOf s).drop i = bt s (i : Int) :: (bytesOf s).drop (i + 1) := by
  have hl : i < (bytesOf s).length := by rw [bytesOf_length]; exact h
  rw [List.drop_eq_getElem_cons hl]
  rw [bt_get s i _ (List.getElem?_eq_getElem hl)]
theorem wrap_next {i : Int} (h0 : 0 ≤ i) (h : i ≤ 281474976710656) : wrap64 (i + 1) = i + 1 := by
  unfold wrap64
  omega
theorem map_range_bytes (f : Int → Int) (s : ByteArray) : ((List.range s.size).map fun j => f (bt s (j : Nat))) = (bytesOf s).map f := by
  apply List.ext_getElem?
  intro i
  rw [List.getElem?_map, List.getElem?_map]
  by_cases h : i < s.size
  · have hl : i < (bytesOf s).length := by rw [bytesOf_length]; exact h
    rw [List.getElem?_range h, List.getElem?_eq_getElem hl, Option.map_some, Option.map_some, bt_get s i _ (List.getElem?_eq_getElem hl)]
  · rw [List.getElem?_eq_none (by simpa using h), List.getElem?_eq_none (by rw [bytesOf_length]; omega)]
    rfl
theorem lowI_byte {x : Int} (h : byteI x) : byteI (lowI x) := by unfold byteI lowI at *; split <;> omega
theorem upI_byte {x : Int} (h : byteI x) : byteI (upI x) := by unfold byteI upI at *; split <;> omega
theorem map_byte {f : Int → Int} (hf : ∀ x, byteI x → byteI (f x)) {l : List Int} (h : ∀ x ∈ l, byteI x) : ∀ x ∈ l.map f, byteI x := by
  intro x hx
  obtain ⟨y, hy, rfl⟩ := List.mem_map.1 hx
  exact hf y (h y hy)
theorem each_low (s : ByteArray) : bytesOf (strOfNums (eachF lowF s)) = (bytesOf s).map lowI := by
  have e : eachF lowF s = (bytesOf s).map lowI := map_range_bytes lowI s
  rw [e, bytesOf_str _ (map_byte (fun _ => lowI_byte) (bytesOf_byte s))]
theorem each_up (s : ByteArray) : bytesOf (strOfNums (eachF upF s)) = (bytesOf s).map upI := by
  have e : eachF upF s = (bytesOf s).map upI := map_range_bytes upI s
  rw [e, bytesOf_str _ (map_byte (fun _ => upI_byte) (bytesOf_byte s))]
end Go.Proofs.YtmbfnbnlajchmaaDoor.Base
