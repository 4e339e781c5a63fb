import Derived.Test.YtmbfnbnlajchmaaDoorGrandEv
import Derived.Test.YtmbfnbnlajchmaaDoorP1
import Derived.Test.YtmbfnbnlajchmaaDoorP4
import Derived.OpenShut
namespace Go.Proofs.YtmbfnbnlajchmaaDoor.Pure
open Go.RowKit Go.Proofs.YtmbfnbnlajchmaaDoor.P Go.Proofs.YtmbfnbnlajchmaaDoorW.PrintWords Go.Proofs.YtmbfnbnlajchmaaDoorW.PrintLast
open Go.Proofs.YtmbfnbnlajchmaaDoor.Each Go.Proofs.YtmbfnbnlajchmaaDoor.Base Go.Proofs.YtmbfnbnlajchmaaDoor.GrandW
set_option linter.unusedVariables false
set_option linter.unusedSimpArgs false

theorem no_blank : ∀ i < 26, (nameL ((i : Nat) : Int)).contains 32 = false := by decide +kernel
theorem no_dash : ∀ i < 26, (nameL ((i : Nat) : Int)).head? ≠ some 45 := by decide +kernel
/-- One letter cut out. -/
theorem cut_one (s : ByteArray) (i : Nat) (h : i < s.size) : bytesOf (s.extract i (i + 1)) = [bt s (i : Int)] := by
  rw [bytesOf_extract, drop_at s i h, Nat.add_sub_cancel_left]
  rfl
theorem lowL_str (l : List Int) (h : ∀ x ∈ l, byteI x) : lowL (strOfNums l) = l.map lowI := by
  unfold lowL
  rw [bytesOf_str l h]
theorem str_size (l : List Int) : (strOfNums l).size = l.length := by
  have := congrArg List.length (strOfNums_data l)
  rw [List.length_map] at this
  exact this
theorem u64_nonneg (e : Int) : 0 ≤ IntKind.u64.wrap e := (bounds_u64 (wf_wrap .u64 e)).1
theorem cases_end (r : Int) (r0 : 0 ≤ r) (r1 : r < 26) (s : ByteArray) (hs : s.size ≤ 20) (e : lowL s = nameL r) :
    Ev (fun k => (grand_Find.f k s).bind fun bt168 => (if s.size + 1 ≤ 9223372036854775807 then ((grand_Find.f k (s ++ (⟨#[32]⟩ : ByteArray))).bind fun bt170 => (if 1 + s.size ≤ 9223372036854775807 then ((grand_Find.f k ((⟨#[45]⟩ : ByteArray) ++ s)).bind fun bt172 => (if true = true then (if bt168.2 = true then (if bt168.1 = r then (if bt170.2 = true then (some false) else (some (!bt172.2))) else (some false)) else (some false)) else (some false))) else (none))) else (none))) true := by
  have z1 : (s ++ (⟨#[32]⟩ : ByteArray)).size = s.size + 1 := size_append _ _
  have z2 : ((⟨#[45]⟩ : ByteArray) ++ s).size = 1 + s.size := size_append _ _
  obtain ⟨q, b, hf, hq⟩ := Find_ev s (by omega)
  obtain ⟨q2, b2, hf2, hq2⟩ := Find_ev (s ++ (⟨#[32]⟩ : ByteArray)) (by omega)
  obtain ⟨q3, b3, hf3, hq3⟩ := Find_ev ((⟨#[45]⟩ : ByteArray) ++ s) (by omega)
  refine Ev.bind hf ?_
  refine Ev.ite_pos (by omega) ?_
  refine Ev.bind hf2 ?_
  refine Ev.ite_pos (by omega) ?_
  refine Ev.bind hf3 ?_
  refine Ev.ite_pos rfl ?_
  have e2 : b2 = false := by
    rcases hq2 with ⟨_, g0, g1, e'⟩ | ⟨h, _⟩
    · exfalso
      have n := no_blank q2.toNat (by omega)
      rw [Int.toNat_of_nonneg g0, e', lowL_append] at n
      have : lowL (⟨#[32]⟩ : ByteArray) = [32] := by decide
      rw [this] at n
      simp at n
    · exact h
  have e3 : b3 = false := by
    rcases hq3 with ⟨_, g0, g1, e'⟩ | ⟨h, _⟩
    · exfalso
      have n := no_dash q3.toNat (by omega)
      rw [Int.toNat_of_nonneg g0, e', lowL_append] at n
      have : lowL (⟨#[45]⟩ : ByteArray) = [45] := by decide
      rw [this] at n
      exact n rfl
    · exact h
  subst e2 e3
  rcases hq with ⟨rfl, g0, g1, e'⟩ | ⟨_, _, no⟩
  · obtain rfl : q = r := nameL_inj g0 g1 r0 r1 (e'.trans e)
    refine Ev.ite_pos rfl ?_
    refine Ev.ite_pos rfl ?_
    refine Ev.ite_neg (fun h => by cases h) ?_
    exact Ev.now _
  · exact absurd e.symm (no r r0 r1)
theorem cases_loop (a1 r : Int) (r0 : 0 ≤ r) (r1 : r < 26) : ∀ (d i : Nat) (l : List Int), (nameAt r).size - i = d → i ≤ (nameAt r).size → l.length = i → (∀ x ∈ l, byteI x) → l.map lowI = (nameL r).take i →
    Ev (fun k => isoglosslaw05_GrandCases.l0 k a1 true r (nameAt r) l (i : Int)) true
  | 0, i, l, hd, hi, hl, hb, hm => by
    have hz := nameAt_size r
    refine Ev.step (fun k => by unfold isoglosslaw05_GrandCases.l0; rfl) ?_
    refine Ev.ite_neg (by omega) ?_
    refine cases_end r r0 r1 (strOfNums l) (by rw [str_size]; omega) ?_
    rw [lowL_str l hb, hm]
    apply List.take_of_length_le
    show (lowL (nameAt r)).length ≤ i
    rw [lowL_length]; omega
  | d + 1, i, l, hd, hi, hl, hb, hm => by
    have hz := nameAt_size r
    have hlt : i < (nameAt r).size := by omega
    have t1 : ((i : Int)).toNat = i := by omega
    have t2 : ((i : Int) + 1).toNat = i + 1 := by omega
    have cut := cut_one (nameAt r) i hlt
    have csz : ((nameAt r).extract i (i + 1)).size = 1 := by rw [size_bytesOf, cut]; rfl
    have take : (nameL r).take (i + 1) = (nameL r).take i ++ [lowI (bt (nameAt r) (i : Int))] := by
      show ((bytesOf (nameAt r)).map lowI).take (i + 1) = ((bytesOf (nameAt r)).map lowI).take i ++ _
      rw [← List.map_take, ← List.map_take, take_at _ i hlt, List.map_append]
      rfl
    have next : ∀ x, byteI x → lowI x = lowI (bt (nameAt r) (i : Int)) → Ev (fun k => isoglosslaw05_GrandCases.l0 k a1 true r (nameAt r) (l ++ [x]) ((i : Int) + 1)) true := by
      intro x hx e
      have := cases_loop a1 r r0 r1 d (i + 1) (l ++ [x]) (by omega) (by omega) (by simp [hl])
        (by intro y hy; rcases List.mem_append.1 hy with h | h
            · exact hb y h
            · rw [List.mem_singleton.1 h]; exact hx)
        (by rw [List.map_append, hm, take, List.map_cons, List.map_nil, e])
      exact this
    refine Ev.step (fun k => by unfold isoglosslaw05_GrandCases.l0; rfl) ?_
    refine Ev.ite_pos (by omega) ?_
    refine Ev.ite_pos (by omega) ?_
    rw [wrap_next (by omega) (by omega), t1, t2]
    refine Ev.ite_pos (by omega) ?_
    refine Ev.ite_pos (by omega) ?_
    refine Ev.ite_pos (u64_nonneg _) ?_
    refine Ev.cases (fun _ => ?_) (fun _ => ?_)
    · refine Ev.bind (rUpper_ev _ (by omega)) ?_
      refine Ev.ite_pos (by rw [upS_size]; omega) ?_
      refine Ev.ite_pos (by omega) ?_
      have e : bt (upS ((nameAt r).extract i (i + 1))) 0 = upI (bt (nameAt r) (i : Int)) := bt_get _ 0 _ (by rw [upS_bytes, cut]; rfl)
      rw [e]
      exact next _ (upI_byte (bt_byte _ _)) (low_up _)
    · refine Ev.ite_pos (by omega) ?_
      refine Ev.ite_pos (by omega) ?_
      have e : bt ((nameAt r).extract i (i + 1)) 0 = bt (nameAt r) (i : Int) := bt_get _ 0 _ (by rw [cut]; rfl)
      rw [e]
      exact next _ (bt_byte _ _) rfl
theorem GrandCases : isoglosslaw05_GrandCases.Pure := by
  intro a0 a1 h0 h1
  have : Ev (fun k => isoglosslaw05_GrandCases.f k a0 a1) true := by
    obtain ⟨r, hr, r0, r1⟩ := rest_eq a0 26 (by decide) (by decide)
    unfold isoglosslaw05_GrandCases.f
    refine Ev.bind gawake_ev ?_
    refine Ev.bind_c Len_eq ?_
    refine Ev.ite_neg (by decide) ?_
    refine Ev.bind_c Len_eq ?_
    refine Ev.bind_c hr ?_
    refine Ev.bind_c (gName_in r r0 r1) ?_
    exact cases_loop a1 r r0 r1 _ 0 [] rfl (by omega) rfl (by simp) rfl
  exact this.rounds
end Go.Proofs.YtmbfnbnlajchmaaDoor.Pure
