/- What pack.Unpack computes, whatever the number: what Put's bytes are, up to the first nought, if that is packed to the number. -/
import Derived.Test.YtmbfnbnlajchmaaDoorAdPackW
import Derived.Laws.DeepStrings4
namespace Go.Proofs.YtmbfnbnlajchmaaDoor.PackW
open Go.RowKit Go.Proofs.YtmbfnbnlajchmaaDoorW.PrintWords Go.Proofs.YtmbfnbnlajchmaaDoorW.PrintLast
set_option linter.unusedVariables false
set_option linter.unusedSimpArgs false

def headS (t : ByteArray) : ByteArray := strOfNums ((bytesOf t).takeWhile fun c => c != 0)
def unpT (n : Int) (t : ByteArray) : ByteArray × Bool :=
  if (packT (strOfNums (Each.eachF Each.lowF (headS t)))).2 = true ∧ (packT (strOfNums (Each.eachF Each.lowF (headS t)))).1 = n then (headS t, true) else (⟨#[]⟩, false)

theorem takeWhile_at {α : Type} (p : α → Bool) : ∀ (l : List α) (k : Nat), k ≤ l.length → (∀ j x, j < k → l[j]? = some x → p x = true) → (∀ x, l[k]? = some x → p x = false) → l.takeWhile p = l.take k
  | [], k, _, _, _ => by simp
  | x :: l, 0, _, _, h2 => by
    have := h2 x (by simp)
    simp [List.takeWhile, this]
  | x :: l, k + 1, hk, h1, h2 => by
    have hx := h1 0 x (by omega) (by simp)
    simp only [List.takeWhile, hx, List.take_succ_cons]
    rw [takeWhile_at p l k (by simpa using hk) (fun j y hj h => h1 (j + 1) y (by omega) (by simpa using h)) (fun y h => h2 y (by simpa using h))]

theorem bytesOf_at (t : ByteArray) (j : Nat) (x : Int) (h : (bytesOf t)[j]? = some x) : x = bt t j := by
  have h2 := rd_bytesOf t (j : Int)
  unfold rd at h2
  rw [← h2]
  simp [List.getD_eq_getElem?_getD, h]
theorem head_at (t : ByteArray) (k : Nat) (hk : k ≤ t.size) (h1 : ∀ j : Nat, j < k → bt t j ≠ 0) (h2 : k < t.size → bt t k = 0) : strOfNums ((bytesOf t).take k) = headS t := by
  unfold headS
  rw [takeWhile_at _ _ k (by rw [bytesOf_length]; exact hk) (fun j x hj h => by rw [bytesOf_at t j x h]; simpa using h1 j hj) (fun x h => by
    have hlt : k < t.size := by
      have := (List.getElem?_eq_some_iff.1 h).1
      rwa [bytesOf_length] at this
    rw [bytesOf_at t k x h, h2 hlt]; rfl)]

set_option maxHeartbeats 1600000 in
theorem unpack_any (n : Int) (w : World) (t : ByteArray) (ht : t.size ≤ 140737488351232)
    (HP : ∀ W, Calls Tryd.prog 68 #[.int .u64 n, .int .i64 8] W fun e w' => e = .returned (.string t) ∧ Below W.heap.size W w') :
    Calls Tryd.prog 78 #[.int .u64 n] w fun e w' => e = .returned (.tuple #[.string (unpT n t).1, .bool (unpT n t).2]) ∧ Below w.heap.size w w' := by
  have hcv := fun W => print_bytes (P := Tryd.prog) 9 28 5 Tryd.underlying9 Tryd.underlying28 Tryd.underlying5 t W
  go_enter Tryd.func78, Tryd.ntmps78
  go_wp2_with (go_at_call 68; refine (HP _).mono ?_; rintro e w1 ⟨rfl, hb⟩)
  clear hcv HP
  have HB : Aside0 (Below w.heap.size w (Lib.bytesWorld w1 5 t)) := ⟨bytes_below hb hb.size 5 t⟩
  have HC : Aside0 (∀ j, j < t.size → (Lib.bytesWorld w1 5 t).cell? ⟨w1.heap.size, j, none⟩ = some (.int .u8 (bt t (j : Nat)))) := ⟨fun j hj => by
    rw [Go.cell_of_row _ _ _ _ _ _ (Lib.bytesWorld_at_new w1 5 t)]
    exact Each.bytes_cells t w1 j hj⟩
  obtain ⟨cap, hcap⟩ : ∃ cap, grownCap w1 t.size 0 5 = cap := ⟨_, rfl⟩
  have hcc : t.size ≤ cap := by
    rw [← hcap]; exact grownCap_ge _ _ _ _
  rw [hcap]
  obtain ⟨W, hW⟩ : ∃ W, Lib.bytesWorld w1 5 t = W := ⟨_, rfl⟩
  rw [hW] at HB HC ⊢
  clear hcap hW
  obtain ⟨g, hg⟩ : ∃ g, w1.heap.size = g := ⟨_, rfl⟩
  rw [hg] at HC ⊢
  clear hg hb
  go_loop [5] (fun i => ∃ k : Nat, i = .int .i64 k ∧ k ≤ t.size ∧ Aside0 (∀ j : Nat, j < k → bt t j ≠ 0)) (fun i => t.size - (intOf i).toNat)
  case atStart => exact ⟨0, rfl, Nat.zero_le _, ⟨fun j hj => absurd hj (Nat.not_lt_zero _)⟩⟩
  case round =>
    obtain ⟨k, rfl, hk, HK⟩ := hrel
    by_cases hlt : k < t.size
    · have hc := HC.out k hlt
      obtain ⟨c, hcc⟩ : ∃ c, bt t (k : Int) = c := ⟨_, rfl⟩
      have hC := Aside0.mk hcc
      rw [hcc] at hc
      clear hcc
      by_cases h0 : c = 0
      · subst h0
        have hh := head_at t k hk HK.out (by intro _; exact hC.out)
        have hsz : (headS t).size = k := by rw [← hh, strOfNums_size, List.length_take, bytesOf_length]; omega
        have hcv2 : ∀ c', (convert 28 9 (.slice (some ⟨g, 0, none⟩) k c')).run Tryd.prog W = .ok (.string (headS t)) W := fun c' => by
          rw [← hh]
          refine run_convert_bytes_arg W 28 5 Tryd.underlying28 Tryd.underlying5 g 0 k c' ((bytesOf t).take k) (by rw [List.length_take, bytesOf_length]; omega) (fun i hi => ?_) 9 Tryd.underlying9
          rw [Nat.zero_add, HC.out i (by omega)]
          have h2 := rd_bytesOf t (i : Int)
          unfold rd at h2
          rw [← h2]
          simp [List.getD_eq_getElem?_getD, List.getElem?_take, hi]
        have HS := Aside0.mk hsz
        have HU : Aside0 (unpT n t = if (packT (strOfNums (Each.eachF Each.lowF (headS t)))).2 = true ∧ (packT (strOfNums (Each.eachF Each.lowF (headS t)))).1 = n then (headS t, true) else (⟨#[]⟩, false)) := ⟨rfl⟩
        have HPK := Aside0.mk (fun W => pack_any (headS t) W (by omega) _ rfl)
        obtain ⟨u, hu⟩ : ∃ u, headS t = u := ⟨_, rfl⟩
        rw [hu] at hcv2 HU HPK
        clear hu hh hsz
        obtain ⟨p, hp⟩ : ∃ p, packT (strOfNums (Each.eachF Each.lowF u)) = p := ⟨_, rfl⟩
        rw [hp] at HU HPK
        clear hp
        obtain ⟨m, ok⟩ := p
        obtain ⟨x, hx⟩ : ∃ x, unpT n t = x := ⟨_, rfl⟩
        rw [hx] at HU
        have HX := Aside0.mk hx
        clear hx
        cases ok with
        | false =>
          go_wp2_with (go_at_call 67; refine (HPK.out _).mono ?_; rintro e w2 ⟨rfl, hb2⟩)
          all_goals
            go_ret2
            rw [HX.out, HU.out, if_neg (by simp)]
            exact ⟨rfl, below_then HB.out HB.out.size hb2⟩
        | true =>
          by_cases hmn : m = n
          · subst hmn
            go_wp2_with (go_at_call 67; refine (HPK.out _).mono ?_; rintro e w2 ⟨rfl, hb2⟩)
            all_goals
              go_ret2
              rw [HX.out, HU.out, if_pos (by simp)]
              exact ⟨rfl, below_then HB.out HB.out.size hb2⟩
          · have hmn1 : (m != n) = true := by simpa using hmn
            go_wp2_with (go_at_call 67; refine (HPK.out _).mono ?_; rintro e w2 ⟨rfl, hb2⟩)
            all_goals
              go_ret2
              rw [HX.out, HU.out, if_neg (by simpa using hmn)]
              exact ⟨rfl, below_then HB.out HB.out.size hb2⟩
      · have h1 : (c != 0) = true := by simpa using h0
        go_wp2
        go_round
        case rel => exact ⟨k + 1, by go_num, by omega, ⟨fun j hj => by
          rcases Nat.lt_or_ge j k with hjk | hjk
          · exact HK.out j hjk
          · obtain rfl : j = k := by omega
            rw [hC.out]; exact h0⟩⟩
        case measure => simp [intOf]; omega
    · obtain rfl : k = t.size := by omega
      have hh := head_at t t.size hk HK.out (by intro h; omega)
      have hsz : (headS t).size = t.size := by rw [← hh, strOfNums_size, List.length_take, bytesOf_length]; omega
      have hcv2 : ∀ c', (convert 28 9 (.slice (some ⟨g, 0, none⟩) t.size c')).run Tryd.prog W = .ok (.string (headS t)) W := fun c' => by
        rw [← hh]
        refine run_convert_bytes_arg W 28 5 Tryd.underlying28 Tryd.underlying5 g 0 t.size c' ((bytesOf t).take t.size) (by rw [List.length_take, bytesOf_length]; omega) (fun i hi => ?_) 9 Tryd.underlying9
        rw [Nat.zero_add, HC.out i (by omega)]
        have h2 := rd_bytesOf t (i : Int)
        unfold rd at h2
        rw [← h2]
        simp [List.getD_eq_getElem?_getD, List.getElem?_take, hi]
      have HS := Aside0.mk hsz
      have HU : Aside0 (unpT n t = if (packT (strOfNums (Each.eachF Each.lowF (headS t)))).2 = true ∧ (packT (strOfNums (Each.eachF Each.lowF (headS t)))).1 = n then (headS t, true) else (⟨#[]⟩, false)) := ⟨rfl⟩
      have HPK := Aside0.mk (fun W => pack_any (headS t) W (by omega) _ rfl)
      obtain ⟨u, hu⟩ : ∃ u, headS t = u := ⟨_, rfl⟩
      rw [hu] at hcv2 HU HPK
      clear hu hh hsz
      obtain ⟨p, hp⟩ : ∃ p, packT (strOfNums (Each.eachF Each.lowF u)) = p := ⟨_, rfl⟩
      rw [hp] at HU HPK
      clear hp
      obtain ⟨m, ok⟩ := p
      obtain ⟨x, hx⟩ : ∃ x, unpT n t = x := ⟨_, rfl⟩
      rw [hx] at HU
      have HX := Aside0.mk hx
      clear hx
      cases ok with
      | false =>
        go_wp2_with (go_at_call 67; refine (HPK.out _).mono ?_; rintro e w2 ⟨rfl, hb2⟩)
        all_goals
          go_ret2
          rw [HX.out, HU.out, if_neg (by simp)]
          exact ⟨rfl, below_then HB.out HB.out.size hb2⟩
      | true =>
        by_cases hmn : m = n
        · subst hmn
          go_wp2_with (go_at_call 67; refine (HPK.out _).mono ?_; rintro e w2 ⟨rfl, hb2⟩)
          all_goals
            go_ret2
            rw [HX.out, HU.out, if_pos (by simp)]
            exact ⟨rfl, below_then HB.out HB.out.size hb2⟩
        · have hmn1 : (m != n) = true := by simpa using hmn
          go_wp2_with (go_at_call 67; refine (HPK.out _).mono ?_; rintro e w2 ⟨rfl, hb2⟩)
          all_goals
            go_ret2
            rw [HX.out, HU.out, if_neg (by simpa using hmn)]
            exact ⟨rfl, below_then HB.out HB.out.size hb2⟩
end Go.Proofs.YtmbfnbnlajchmaaDoor.PackW
