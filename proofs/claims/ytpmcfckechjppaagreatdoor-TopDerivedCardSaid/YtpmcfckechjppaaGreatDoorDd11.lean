/- Made by a program of this seat's own (shake.py, merge.py): what the claim leans on: SubR, Render, AsFacts, Kind, Parses, ParseGr. -/
import Derived.Test.YtpmcfckechjppaaGreatDoorDd10
import Derived.Deep.CutRange
import Derived.Deep.CutBlock
import Derived.Stop.Asserts
import Derived.RowKitTokens
set_option linter.unusedVariables false
set_option linter.unusedSimpArgs false
set_option maxRecDepth 100000
set_option maxHeartbeats 8000000
namespace Go.Proofs.YtpmcfckechjppaaGreatDoor.Ps
open Go.RowKit Go.Shelf Go.Proofs.YtpmcfckechjppaaGreatDoorW.PrintWords Go.Proofs.YtpmcfckechjppaaGreatDoorW.PrintLast Go.Proofs.YtpmcfckechjppaaGreatDoorW.PrintMore Go.Proofs.YtpmcfckechjppaaGreatDoor.P Go.Proofs.YtpmcfckechjppaaGreatDoor.LikW
theorem q3f.at9 {W : World} {base n c : Nat} {A : Option Addr} (h : q3f W base TST 1 n isS (.slice A n c)) (i : Nat) (hi : i < n) : ∃ (g : Nat) (s : ByteArray), A = some ⟨g, 0, none⟩ ∧ W.cell? ⟨g, i, none⟩ = some (.string s) ∧ s.size ≤ 9 := by
 obtain ⟨L, rfl, hO, hL⟩ := q3f.texts h
 obtain ⟨A', c', e, hc, hn | ⟨b, rfl, hb, hat⟩⟩ := v3h hO
 · rw [hn] at hi; simp at hi
 · cases e
   have hx := List.getElem?_eq_getElem hi
   have := hat i _ hx
   rw [Nat.zero_add] at this
   exact ⟨b, _, rfl, this, hL _ (List.mem_of_getElem? hx)⟩
theorem k8k (R : Nat) (L Sc Rg G : ByteArray) (A1 A4 A5 A6 : Option Addr) (n1 c1 n4 c4 c5 n6 c6 : Nat) (xs : XL) (w : World) (hz : L.size ≤ 9 ∧ Sc.size ≤ 9 ∧ Rg.size ≤ 9 ∧ n1 ≤ 1 ∧ n4 ≤ 6 ∧ n6 ≤ 5) (hn : xs.length ≤ 6) (h1 : q3f w R TST 1 n1 isS (.slice A1 n1 c1)) (h4 : q3f w R TST 1 n4 isS (.slice A4 n4 c4)) (hX : q8j w R (.slice A5 xs.length c5) xs) (hS : v9j xs) (h6 : q3f w R TST 1 n6 isS (.slice A6 n6 c6)) (hG : G.size = 0) :
 Calls Tryz.prog 33 #[.agg #[.string L, .slice A1 n1 c1, .string Sc, .string Rg, .slice A4 n4 c4, .slice A5 xs.length c5, .slice A6 n6 c6, .string G]] w fun e w' => ∃ (n : Nat) (A : Option Addr) (c : Nat), e = .returned (.slice A n c) ∧ n ≤ 46 ∧ q3f w' w.heap.size TST 1 n isS (.slice A n c) ∧ Below w.heap.size w w' := by
 have hut := Tryz.underlying33
 have hge : G.toList.isEmpty = true := by rw [List.isEmpty_iff_length_eq_zero, ByteArray.toList_eq, Array.length_toList]; exact hG
 have HZ := aq hz
 have HN := aq hn
 have O1 := aq h1
 have O4 := aq h4
 have O6 := aq h6
 have HX := aq hX
 have HS := aq hS
 have B0 := aq (Below.refl w.heap.size w)
 have z1 : n1 ≤ 1 := hz.2.2.2.1
 have z4 : n4 ≤ 6 := hz.2.2.2.2.1
 have z6 : n6 ≤ 5 := hz.2.2.2.2.2
 clear hz hn h1 h4 h6 hX hS hG
 go_enter Tryz.func33, Tryz.ntmps33
 go_upto_if 17 with (first
  | ((with_reducible refine q3l (N := 1) rfl ?_); refine be 1 #[.string L, .slice A1 n1 c1, .string Sc, .string Rg, .slice A4 n4 c4, .slice A5 xs.length c5, .slice A6 n6 c6, .string G] 33 ?_; intro b1 hg v0 hbox hb; have G_b1 := aq (show w.heap.size ≤ b1 by rw [hg]; exact B0.out.size); replace B0 := bb B0 hb; have K_b1 := aq hbox; clear hb hbox hg; obtain ⟨y_b1_0, y_b1_1, y_b1_2, y_b1_3, y_b1_4, y_b1_5, y_b1_6, y_b1_7⟩ := cz8 K_b1.out))
 clear y_b1_0 y_b1_1 y_b1_2 y_b1_3 y_b1_4 y_b1_5 y_b1_6 y_b1_7
 have O_O := aq (q3f.nil v0 w.heap.size TST 1 isS)
 obtain ⟨q17, hq17⟩ : ∃ q, q = L.toList.isEmpty := ⟨_, rfl⟩
 rw [← hq17]
 clear hq17
 go_cut [3] from 18 to 22 (fun s3 wr => ∃ (n : Nat) (A : Option Addr) (c : Nat), n ≤ 1 ∧ s3 = .slice A n c ∧ q0c (q3f wr w.heap.size TST 1 n isS (.slice A n c)) ∧ q0c (Below w.heap.size w wr) ∧ q0c (wr.heap[b1]? = some (.cells #[.string L, .slice A1 n1 c1, .string Sc, .string Rg, .slice A4 n4 c4, .slice A5 xs.length c5, .slice A6 n6 c6, .string G] 33 (0, 0))))
 case first =>
  cases q17 with
  | true =>
   go_wp2; go_meet; exact ⟨0, none, 0, by omega, rfl, O_O, B0, K_b1⟩
  | false =>
   obtain ⟨y_b1_0, y_b1_1, y_b1_2, y_b1_3, y_b1_4, y_b1_5, y_b1_6, y_b1_7⟩ := cz8 K_b1.out
   go_wp2_with (first
    | ((with_reducible refine q1d (b := .append) (xs := #[.tmp 18, .tmp 21]) rfl ?_); at_builtin; refine g1 (w0 := w) 1 (.tmp 18) (.tmp 21) (.slice none 0 0) (0) [.string L] rfl (h1S (HZ.out.1)) O_O.out B0.out B0.out.size ?hl ?_; (case hl => have := trivial; omega); intro A2 c2 v1 ho hb hg hat; clear y_b1_0 y_b1_1 y_b1_2 y_b1_3 y_b1_4 y_b1_5 y_b1_6 y_b1_7; replace K_b1 := kg O_O.out hg K_b1; replace B0 := aq hb; replace O_O := aq ho; clear ho hb hg hat))
   go_meet
   exact ⟨_, _, _, by omega, rfl, O_O, B0, K_b1⟩
 case rest =>
 clear O_O B0 K_b1
 obtain ⟨n, A, c, hn, rfl, O_O, B0, K_b1⟩ := hcut
 generalize wc = wq1 at *
 go_upto_block 0 with fail
 go_cut [3] from 23 to 37 (fun s3 wr => ∃ (n : Nat) (A : Option Addr) (c : Nat), n ≤ 2 ∧ s3 = .slice A n c ∧ q0c (q3f wr w.heap.size TST 1 n isS (.slice A n c)) ∧ q0c (Below w.heap.size w wr) ∧ q0c (wr.heap[b1]? = some (.cells #[.string L, .slice A1 n1 c1, .string Sc, .string Rg, .slice A4 n4 c4, .slice A5 xs.length c5, .slice A6 n6 c6, .string G] 33 (0, 0))))
 case first =>
  go_wp2_with fail
  go_loopw [3, 4] (fun vo vi wr => ∃ (i n : Nat) (A : Option Addr) (c : Nat), vo = .slice A n c ∧ vi = .int .i64 (i : Int) ∧ i ≤ n1 ∧ n ≤ 1 + i ∧ q0c (q3f wr w.heap.size TST 1 n isS (.slice A n c)) ∧ q0c (Below w.heap.size w wr) ∧ q0c (wr.heap[b1]? = some (.cells #[.string L, .slice A1 n1 c1, .string Sc, .string Rg, .slice A4 n4 c4, .slice A5 xs.length c5, .slice A6 n6 c6, .string G] 33 (0, 0)))) (fun _ vi _ => n1 - (intOf vi).toNat)
  case atStart => exact ⟨0, n, A, c, rfl, rfl, by omega, by omega, O_O, B0, K_b1⟩
  case round =>
   clear O_O B0 K_b1 hn
   obtain ⟨i, n, A, c, rfl, rfl, hi, hn, O_O, B0, K_b1⟩ := hrel
   generalize wr = z2 at *
   by_cases hlt : i < n1
   · obtain ⟨g, s, hA, hc, hsz⟩ := q3f.at9 (O1.out.below B0.out) i hlt
     cases hA
     have d1 : decide ((i : Int) < (n1 : Int)) = true := decide_eq_true (by omega)
     have SZ := aq hsz
     have HC := aq hc
     have hl9 : n + 1 ≤ 100 := by omega
     clear hsz
     obtain ⟨y_b1_0, y_b1_1, y_b1_2, y_b1_3, y_b1_4, y_b1_5, y_b1_6, y_b1_7⟩ := cz8 K_b1.out
     go_wp2_with (first
      | ((with_reducible refine q1d (b := .append) (xs := #[.tmp 30, .tmp 36]) rfl ?_); at_builtin; refine g1 (w0 := w) 1 (.tmp 30) (.tmp 36) (.slice A n c) (n) [.string s] rfl (h1S (SZ.out)) O_O.out B0.out B0.out.size ?hl ?_; (case hl => have := hl9; omega); intro A2 c2 v2 ho hb hg hat; clear y_b1_0 y_b1_1 y_b1_2 y_b1_3 y_b1_4 y_b1_5 y_b1_6 y_b1_7 hc; replace K_b1 := kg O_O.out hg K_b1; replace B0 := aq hb; replace O_O := aq ho; clear ho hb hg hat))
     go_roundw
     case rel => exact ⟨i + 1, n + 1, A2, c2, rfl, by simp, by omega, by omega, O_O, B0, K_b1⟩
     case measure => simp [intOf]; omega
   · have d1 : decide ((i : Int) < (n1 : Int)) = false := decide_eq_false (by omega)
     obtain ⟨y_b1_0, y_b1_1, y_b1_2, y_b1_3, y_b1_4, y_b1_5, y_b1_6, y_b1_7⟩ := cz8 K_b1.out
     go_wp2
     go_meet
     exact ⟨n, A, c, by omega, rfl, O_O, B0, K_b1⟩
 case rest =>
 clear O_O B0 K_b1
 obtain ⟨n, A, c, hn, rfl, O_O, B0, K_b1⟩ := hcut
 generalize wc = wq2 at *
 obtain ⟨y_b1_0, y_b1_1, y_b1_2, y_b1_3, y_b1_4, y_b1_5, y_b1_6, y_b1_7⟩ := cz8 K_b1.out
 go_upto_if 40 with fail
 clear y_b1_0 y_b1_1 y_b1_2 y_b1_3 y_b1_4 y_b1_5 y_b1_6 y_b1_7
 obtain ⟨q40, hq40⟩ : ∃ q, q = Sc.toList.isEmpty := ⟨_, rfl⟩
 rw [← hq40]
 clear hq40
 go_cut [3] from 41 to 45 (fun s3 wr => ∃ (n : Nat) (A : Option Addr) (c : Nat), n ≤ 3 ∧ s3 = .slice A n c ∧ q0c (q3f wr w.heap.size TST 1 n isS (.slice A n c)) ∧ q0c (Below w.heap.size w wr) ∧ q0c (wr.heap[b1]? = some (.cells #[.string L, .slice A1 n1 c1, .string Sc, .string Rg, .slice A4 n4 c4, .slice A5 xs.length c5, .slice A6 n6 c6, .string G] 33 (0, 0))))
 case first =>
  cases q40 with
  | true =>
   go_wp2; go_meet; exact ⟨n, A, c, by omega, rfl, O_O, B0, K_b1⟩
  | false =>
   obtain ⟨y_b1_0, y_b1_1, y_b1_2, y_b1_3, y_b1_4, y_b1_5, y_b1_6, y_b1_7⟩ := cz8 K_b1.out
   go_wp2_with (first
    | ((with_reducible refine q1d (b := .append) (xs := #[.tmp 41, .tmp 44]) rfl ?_); at_builtin; refine g1 (w0 := w) 1 (.tmp 41) (.tmp 44) (.slice A n c) (n) [.string Sc] rfl (h1S (HZ.out.2.1)) O_O.out B0.out B0.out.size ?hl ?_; (case hl => have := hn; omega); intro A2 c2 v3 ho hb hg hat; clear y_b1_0 y_b1_1 y_b1_2 y_b1_3 y_b1_4 y_b1_5 y_b1_6 y_b1_7; replace K_b1 := kg O_O.out hg K_b1; replace B0 := aq hb; replace O_O := aq ho; clear ho hb hg hat))
   go_meet
   exact ⟨_, _, _, by omega, rfl, O_O, B0, K_b1⟩
 case rest =>
 clear O_O B0 K_b1
 obtain ⟨n, A, c, hn, rfl, O_O, B0, K_b1⟩ := hcut
 generalize wc = wq3 at *
 obtain ⟨y_b1_0, y_b1_1, y_b1_2, y_b1_3, y_b1_4, y_b1_5, y_b1_6, y_b1_7⟩ := cz8 K_b1.out
 go_upto_if 48 with fail
 clear y_b1_0 y_b1_1 y_b1_2 y_b1_3 y_b1_4 y_b1_5 y_b1_6 y_b1_7
 obtain ⟨q48, hq48⟩ : ∃ q, q = Rg.toList.isEmpty := ⟨_, rfl⟩
 rw [← hq48]
 clear hq48
 go_cut [3] from 49 to 53 (fun s3 wr => ∃ (n : Nat) (A : Option Addr) (c : Nat), n ≤ 4 ∧ s3 = .slice A n c ∧ q0c (q3f wr w.heap.size TST 1 n isS (.slice A n c)) ∧ q0c (Below w.heap.size w wr) ∧ q0c (wr.heap[b1]? = some (.cells #[.string L, .slice A1 n1 c1, .string Sc, .string Rg, .slice A4 n4 c4, .slice A5 xs.length c5, .slice A6 n6 c6, .string G] 33 (0, 0))))
 case first =>
  cases q48 with
  | true =>
   go_wp2; go_meet; exact ⟨n, A, c, by omega, rfl, O_O, B0, K_b1⟩
  | false =>
   obtain ⟨y_b1_0, y_b1_1, y_b1_2, y_b1_3, y_b1_4, y_b1_5, y_b1_6, y_b1_7⟩ := cz8 K_b1.out
   go_wp2_with (first
    | ((with_reducible refine q1d (b := .append) (xs := #[.tmp 49, .tmp 52]) rfl ?_); at_builtin; refine g1 (w0 := w) 1 (.tmp 49) (.tmp 52) (.slice A n c) (n) [.string Rg] rfl (h1S (HZ.out.2.2.1)) O_O.out B0.out B0.out.size ?hl ?_; (case hl => have := hn; omega); intro A2 c2 v4 ho hb hg hat; clear y_b1_0 y_b1_1 y_b1_2 y_b1_3 y_b1_4 y_b1_5 y_b1_6 y_b1_7; replace K_b1 := kg O_O.out hg K_b1; replace B0 := aq hb; replace O_O := aq ho; clear ho hb hg hat))
   go_meet
   exact ⟨_, _, _, by omega, rfl, O_O, B0, K_b1⟩
 case rest =>
 clear O_O B0 K_b1
 obtain ⟨n, A, c, hn, rfl, O_O, B0, K_b1⟩ := hcut
 generalize wc = wq4 at *
 go_upto_block 2 with fail
 go_cut [3] from 54 to 68 (fun s3 wr => ∃ (n : Nat) (A : Option Addr) (c : Nat), n ≤ 10 ∧ s3 = .slice A n c ∧ q0c (q3f wr w.heap.size TST 1 n isS (.slice A n c)) ∧ q0c (Below w.heap.size w wr) ∧ q0c (wr.heap[b1]? = some (.cells #[.string L, .slice A1 n1 c1, .string Sc, .string Rg, .slice A4 n4 c4, .slice A5 xs.length c5, .slice A6 n6 c6, .string G] 33 (0, 0))))
 case first =>
  go_wp2_with fail
  go_loopw [3, 5] (fun vo vi wr => ∃ (i n : Nat) (A : Option Addr) (c : Nat), vo = .slice A n c ∧ vi = .int .i64 (i : Int) ∧ i ≤ n4 ∧ n ≤ 4 + i ∧ q0c (q3f wr w.heap.size TST 1 n isS (.slice A n c)) ∧ q0c (Below w.heap.size w wr) ∧ q0c (wr.heap[b1]? = some (.cells #[.string L, .slice A1 n1 c1, .string Sc, .string Rg, .slice A4 n4 c4, .slice A5 xs.length c5, .slice A6 n6 c6, .string G] 33 (0, 0)))) (fun _ vi _ => n4 - (intOf vi).toNat)
  case atStart => exact ⟨0, n, A, c, rfl, rfl, by omega, by omega, O_O, B0, K_b1⟩
  case round =>
   clear O_O B0 K_b1 hn
   obtain ⟨i, n, A, c, rfl, rfl, hi, hn, O_O, B0, K_b1⟩ := hrel
   generalize wr = z5 at *
   by_cases hlt : i < n4
   · obtain ⟨g, s, hA, hc, hsz⟩ := q3f.at9 (O4.out.below B0.out) i hlt
     cases hA
     have d1 : decide ((i : Int) < (n4 : Int)) = true := decide_eq_true (by omega)
     have SZ := aq hsz
     have HC := aq hc
     have hl9 : n + 1 ≤ 100 := by omega
     clear hsz
     obtain ⟨y_b1_0, y_b1_1, y_b1_2, y_b1_3, y_b1_4, y_b1_5, y_b1_6, y_b1_7⟩ := cz8 K_b1.out
     go_wp2_with (first
      | ((with_reducible refine q1d (b := .append) (xs := #[.tmp 61, .tmp 67]) rfl ?_); at_builtin; refine g1 (w0 := w) 1 (.tmp 61) (.tmp 67) (.slice A n c) (n) [.string s] rfl (h1S (SZ.out)) O_O.out B0.out B0.out.size ?hl ?_; (case hl => have := hl9; omega); intro A2 c2 v5 ho hb hg hat; clear y_b1_0 y_b1_1 y_b1_2 y_b1_3 y_b1_4 y_b1_5 y_b1_6 y_b1_7 hc; replace K_b1 := kg O_O.out hg K_b1; replace B0 := aq hb; replace O_O := aq ho; clear ho hb hg hat))
     go_roundw
     case rel => exact ⟨i + 1, n + 1, A2, c2, rfl, by simp, by omega, by omega, O_O, B0, K_b1⟩
     case measure => simp [intOf]; omega
   · have d1 : decide ((i : Int) < (n4 : Int)) = false := decide_eq_false (by omega)
     obtain ⟨y_b1_0, y_b1_1, y_b1_2, y_b1_3, y_b1_4, y_b1_5, y_b1_6, y_b1_7⟩ := cz8 K_b1.out
     go_wp2
     go_meet
     exact ⟨n, A, c, by omega, rfl, O_O, B0, K_b1⟩
 case rest =>
 clear O_O B0 K_b1
 obtain ⟨n, A, c, hn, rfl, O_O, B0, K_b1⟩ := hcut
 generalize wc = wq5 at *
 go_upto_block 4 with fail
 go_cut [3] from 69 to 107 (fun s3 wr => ∃ (n : Nat) (A : Option Addr) (c : Nat), n ≤ 40 ∧ s3 = .slice A n c ∧ q0c (q3f wr w.heap.size TST 1 n isS (.slice A n c)) ∧ q0c (Below w.heap.size w wr) ∧ q0c (wr.heap[b1]? = some (.cells #[.string L, .slice A1 n1 c1, .string Sc, .string Rg, .slice A4 n4 c4, .slice A5 xs.length c5, .slice A6 n6 c6, .string G] 33 (0, 0))))
 case first =>
  go_wp2_with fail
  go_loopw [3, 6] (fun vo vi wr => ∃ (i n : Nat) (A : Option Addr) (c : Nat), vo = .slice A n c ∧ vi = .int .i64 (i : Int) ∧ i ≤ xs.length ∧ n ≤ 10 + 5 * i ∧ q0c (q3f wr w.heap.size TST 1 n isS (.slice A n c)) ∧ q0c (Below w.heap.size w wr) ∧ q0c (wr.heap[b1]? = some (.cells #[.string L, .slice A1 n1 c1, .string Sc, .string Rg, .slice A4 n4 c4, .slice A5 xs.length c5, .slice A6 n6 c6, .string G] 33 (0, 0)))) (fun _ vi _ => xs.length - (intOf vi).toNat)
  case atStart => exact ⟨0, n, A, c, rfl, rfl, by omega, by omega, O_O, B0, K_b1⟩
  case round =>
   clear O_O B0 K_b1 hn
   obtain ⟨i, n, A, c, rfl, rfl, hi, hn, O_O, B0, K_b1⟩ := hrel
   generalize wr = z6 at *
   by_cases hlt : i < xs.length
   · obtain ⟨x, hx⟩ : ∃ x, xs[i]? = some x := ⟨_, List.getElem?_eq_getElem hlt⟩
     have hxm := List.mem_of_getElem? hx
     obtain ⟨s1, s2, s3⟩ := HS.out x hxm
     have hsub := HX.out.2 x hxm
     have HSB := aq hsub
     have S2 := aq s2
     have S3 := aq s3
     rcases z1i (HX.out.below B0.out).1 with h0 | ⟨gx, hA5, hgx, hcap, hcell⟩
     · rw [h0] at hlt; simp at hlt
     obtain ⟨q1, q2⟩ := hcell i x hx
     cases hA5
     have SZ := aq s1
     have d1 : decide ((i : Int) < (xs.length : Int)) = true := decide_eq_true (by omega)
     have hx6 : i < 6 := by have := HN.out; omega
     have hl9 : n + 1 ≤ 100 := by omega
     obtain ⟨k, v, sl⟩ := x
     simp only at q1 q2 s1 SZ
     rw [Nat.mul_comm] at q1 q2
     obtain ⟨AV, cV, hv⟩ := q0u hsub
     simp only at hv
     subst hv
     have HCELL := aq hcell
     have HX0 := aq hx
     clear s1 s2 s3 hsub hxm hcell hx
     obtain ⟨y_b1_0, y_b1_1, y_b1_2, y_b1_3, y_b1_4, y_b1_5, y_b1_6, y_b1_7⟩ := cz8 K_b1.out
     go_wp2_with (first
      | ((with_reducible refine q1d (b := .append) (xs := #[.tmp 76, .tmp 83]) rfl ?_); at_builtin; refine g1 (w0 := w) 1 (.tmp 76) (.tmp 83) (.slice A n c) (n) [.string k] rfl (h1S (SZ.out)) O_O.out B0.out B0.out.size ?hl ?_; (case hl => have := hl9; omega); intro A2 c2 v6 ho hb hg hat; clear y_b1_0 y_b1_1 y_b1_2 y_b1_3 y_b1_4 y_b1_5 y_b1_6 y_b1_7; replace K_b1 := kg O_O.out hg K_b1; replace B0 := aq hb; replace O_O := aq ho; clear ho hb hg hat))
     clear q1 q2 d1
     go_loopw [3, 7] (fun vo vk wr => ∃ (k n' : Nat) (A : Option Addr) (c : Nat), vo = .slice A n' c ∧ vk = .int .i64 (k : Int) ∧ k ≤ sl.length ∧ n' ≤ n + 1 + k ∧ q0c (q3f wr w.heap.size TST 1 n' isS (.slice A n' c)) ∧ q0c (Below w.heap.size w wr) ∧ q0c (wr.heap[b1]? = some (.cells #[.string L, .slice A1 n1 c1, .string Sc, .string Rg, .slice A4 n4 c4, .slice (some ⟨gx, 0, none⟩) xs.length c5, .slice A6 n6 c6, .string G] 33 (0, 0)))) (fun _ vk _ => sl.length - (intOf vk).toNat)
     case atStart => exact ⟨0, n + 1, A2, c2, rfl, rfl, by omega, by omega, O_O, B0, K_b1⟩
     case round =>
      clear O_O B0 K_b1
      obtain ⟨j, n', A, c, rfl, rfl, hj, hn', O_O, B0, K_b1⟩ := hrel
      generalize wr = z7 at *
      have hX7 := HX.out.below B0.out
      rcases z1i hX7.1 with h0 | ⟨gx', hA5', hgx', hcap', hcell'⟩
      · rw [h0] at hlt; simp at hlt
      cases hA5'
      obtain ⟨q1, q2⟩ := hcell' i _ HX0.out
      simp only at q1 q2
      rw [Nat.mul_comm] at q1 q2
      have d1 : decide ((i : Int) < (xs.length : Int)) = true := decide_eq_true (by omega)
      have l4 : sl.length ≤ 4 := S2.out
      clear hcell' hX7
      by_cases hlj : j < sl.length
      · obtain ⟨_, _, hv2, hcv, hq | ⟨gv, hgv, hgl, hat⟩⟩ := v3h (q1o HSB.out B0.out)
        · (try simp only at hq); rw [hq] at hlj; simp at hlj
        (try simp only at hv2)
        cases hv2
        cases hgv
        obtain ⟨s, hs⟩ : ∃ s, sl[j]? = some s := ⟨_, List.getElem?_eq_getElem hlj⟩
        have hc := hat j s hs
        rw [Nat.zero_add] at hc
        have SZ := aq (S3.out s (List.mem_of_getElem? hs))
        have e1 : decide ((j : Int) < (sl.length : Int)) = true := decide_eq_true (by omega)
        have hl9 : n' + 1 ≤ 100 := by omega
        clear hat hs
        obtain ⟨y_b1_0, y_b1_1, y_b1_2, y_b1_3, y_b1_4, y_b1_5, y_b1_6, y_b1_7⟩ := cz8 K_b1.out
        go_wp2_with (first
         | ((with_reducible refine q1d (b := .append) (xs := #[.tmp 96, .tmp 106]) rfl ?_); at_builtin; refine g1 (w0 := w) 1 (.tmp 96) (.tmp 106) (.slice A n' c) (n') [.string s] rfl (h1S (SZ.out)) O_O.out B0.out B0.out.size ?hl ?_; (case hl => have := hl9; omega); intro A3 c3 v7 ho hb hg hat; clear y_b1_0 y_b1_1 y_b1_2 y_b1_3 y_b1_4 y_b1_5 y_b1_6 y_b1_7; replace K_b1 := kg O_O.out hg K_b1; replace B0 := aq hb; replace O_O := aq ho; clear ho hb hg hat))
        go_roundw
        case rel => exact ⟨j + 1, n' + 1, A3, c3, rfl, by simp, by omega, by omega, O_O, B0, K_b1⟩
        case measure => simp [intOf]; omega
      · have e1 : decide ((j : Int) < (sl.length : Int)) = false := decide_eq_false (by omega)
        obtain ⟨y_b1_0, y_b1_1, y_b1_2, y_b1_3, y_b1_4, y_b1_5, y_b1_6, y_b1_7⟩ := cz8 K_b1.out
        go_wp2
        go_roundw
        case rel => exact ⟨i + 1, n', A, c, rfl, by simp, by omega, by omega, O_O, B0, K_b1⟩
        case measure => simp [intOf]; omega
   · have d1 : decide ((i : Int) < (xs.length : Int)) = false := decide_eq_false (by omega)
     obtain ⟨y_b1_0, y_b1_1, y_b1_2, y_b1_3, y_b1_4, y_b1_5, y_b1_6, y_b1_7⟩ := cz8 K_b1.out
     have hx6 : i ≤ 6 := by have := HN.out; omega
     go_wp2
     go_meet
     exact ⟨n, A, c, by omega, rfl, O_O, B0, K_b1⟩
 case rest =>
 clear O_O B0 K_b1
 obtain ⟨n, A, c, hn, rfl, O_O, B0, K_b1⟩ := hcut
 generalize wc = wq6 at *
 obtain ⟨y_b1_0, y_b1_1, y_b1_2, y_b1_3, y_b1_4, y_b1_5, y_b1_6, y_b1_7⟩ := cz8 K_b1.out
 go_upto_if 111 with fail
 clear y_b1_0 y_b1_1 y_b1_2 y_b1_3 y_b1_4 y_b1_5 y_b1_6 y_b1_7
 generalize decide (0 < n6) = q111
 go_cut [3] from 112 to 114 (fun s3 wr => ∃ (n : Nat) (A : Option Addr) (c : Nat), n ≤ 41 ∧ s3 = .slice A n c ∧ q0c (q3f wr w.heap.size TST 1 n isS (.slice A n c)) ∧ q0c (Below w.heap.size w wr) ∧ q0c (wr.heap[b1]? = some (.cells #[.string L, .slice A1 n1 c1, .string Sc, .string Rg, .slice A4 n4 c4, .slice A5 xs.length c5, .slice A6 n6 c6, .string G] 33 (0, 0))))
 case first =>
  cases q111 with
  | false => go_wp2; go_meet; exact ⟨n, A, c, by omega, rfl, O_O, B0, K_b1⟩
  | true =>
   go_wp2_with (first
    | ((with_reducible refine q1d (b := .append) (xs := #[.tmp 112, .tmp 113]) rfl ?_); at_builtin; refine g1 (w0 := w) 1 (.tmp 112) (.tmp 113) (.slice A n c) (n) [.string ⟨#[120]⟩] rfl (h1S (by decide)) O_O.out B0.out B0.out.size ?hl ?_; (case hl => have := hn; omega); intro A2 c2 v8 ho hb hg hat; replace K_b1 := kg O_O.out hg K_b1; replace B0 := aq hb; replace O_O := aq ho; clear ho hb hg hat))
   go_meet
   exact ⟨_, _, _, by omega, rfl, O_O, B0, K_b1⟩
 case rest =>
 clear O_O B0 K_b1
 obtain ⟨n, A, c, hn, rfl, O_O, B0, K_b1⟩ := hcut
 generalize wc = wq7 at *
 go_upto_block 8 with fail
 go_cut [3] from 115 to 129 (fun s3 wr => ∃ (n : Nat) (A : Option Addr) (c : Nat), n ≤ 46 ∧ s3 = .slice A n c ∧ q0c (q3f wr w.heap.size TST 1 n isS (.slice A n c)) ∧ q0c (Below w.heap.size w wr) ∧ q0c (wr.heap[b1]? = some (.cells #[.string L, .slice A1 n1 c1, .string Sc, .string Rg, .slice A4 n4 c4, .slice A5 xs.length c5, .slice A6 n6 c6, .string G] 33 (0, 0))))
 case first =>
  go_wp2_with fail
  go_loopw [3, 8] (fun vo vi wr => ∃ (i n : Nat) (A : Option Addr) (c : Nat), vo = .slice A n c ∧ vi = .int .i64 (i : Int) ∧ i ≤ n6 ∧ n ≤ 41 + i ∧ q0c (q3f wr w.heap.size TST 1 n isS (.slice A n c)) ∧ q0c (Below w.heap.size w wr) ∧ q0c (wr.heap[b1]? = some (.cells #[.string L, .slice A1 n1 c1, .string Sc, .string Rg, .slice A4 n4 c4, .slice A5 xs.length c5, .slice A6 n6 c6, .string G] 33 (0, 0)))) (fun _ vi _ => n6 - (intOf vi).toNat)
  case atStart => exact ⟨0, n, A, c, rfl, rfl, by omega, by omega, O_O, B0, K_b1⟩
  case round =>
   clear O_O B0 K_b1 hn
   obtain ⟨i, n, A, c, rfl, rfl, hi, hn, O_O, B0, K_b1⟩ := hrel
   generalize wr = z8 at *
   by_cases hlt : i < n6
   · obtain ⟨g, s, hA, hc, hsz⟩ := q3f.at9 (O6.out.below B0.out) i hlt
     cases hA
     have d1 : decide ((i : Int) < (n6 : Int)) = true := decide_eq_true (by omega)
     have SZ := aq hsz
     have HC := aq hc
     have hl9 : n + 1 ≤ 100 := by omega
     clear hsz
     obtain ⟨y_b1_0, y_b1_1, y_b1_2, y_b1_3, y_b1_4, y_b1_5, y_b1_6, y_b1_7⟩ := cz8 K_b1.out
     go_wp2_with (first
      | ((with_reducible refine q1d (b := .append) (xs := #[.tmp 122, .tmp 128]) rfl ?_); at_builtin; refine g1 (w0 := w) 1 (.tmp 122) (.tmp 128) (.slice A n c) (n) [.string s] rfl (h1S (SZ.out)) O_O.out B0.out B0.out.size ?hl ?_; (case hl => have := hl9; omega); intro A2 c2 v9 ho hb hg hat; clear y_b1_0 y_b1_1 y_b1_2 y_b1_3 y_b1_4 y_b1_5 y_b1_6 y_b1_7 hc; replace K_b1 := kg O_O.out hg K_b1; replace B0 := aq hb; replace O_O := aq ho; clear ho hb hg hat))
     go_roundw
     case rel => exact ⟨i + 1, n + 1, A2, c2, rfl, by simp, by omega, by omega, O_O, B0, K_b1⟩
     case measure => simp [intOf]; omega
   · have d1 : decide ((i : Int) < (n6 : Int)) = false := decide_eq_false (by omega)
     obtain ⟨y_b1_0, y_b1_1, y_b1_2, y_b1_3, y_b1_4, y_b1_5, y_b1_6, y_b1_7⟩ := cz8 K_b1.out
     go_wp2
     go_meet
     exact ⟨n, A, c, by omega, rfl, O_O, B0, K_b1⟩
 case rest =>
 clear O_O B0 K_b1
 obtain ⟨n, A, c, hn, rfl, O_O, B0, K_b1⟩ := hcut
 generalize wc = wq8 at *
 obtain ⟨y_b1_0, y_b1_1, y_b1_2, y_b1_3, y_b1_4, y_b1_5, y_b1_6, y_b1_7⟩ := cz8 K_b1.out
 go_wp2
 go_ret
 exact ⟨_, _, _, rfl, hn, O_O.out, B0.out⟩
theorem k7s (a b c : ByteArray) (hs : (Lib.join ((q3i [a, b, c]).map (·.data.toList)) [45]).length ≤ 140737488355328) (w : World) : Calls Tryz.prog 43 #[T3 a b c] w fun e w' => e = .returned (.string (q8d (q3i [a, b, c]))) ∧ Below w.heap.size w w' := by
 have hl : (q3i [a, b, c]).length ≤ 1000000 := Nat.le_trans (List.length_filter_le _ _) (by simp)
 have hut := Tryz.underlying33
 unfold T3
 go_enter Tryz.func43, Tryz.ntmps43
 go_wp2_with (first
  | (go_at_call 75; refine (z0n a b c _).mono ?_; rintro e w1 ⟨v, rfl, hO, hB⟩; have O_V := aq hO; have HB := aq hB; clear hO hB)
  | (go_at_call 74; refine (v7y _ v _ _ O_V.out hl hs).mono ?_; rintro e w2 ⟨rfl, hB2⟩))
 go_ret
 exact ⟨rfl, (q0b (Below.refl _ _) _).trans ((HB.out.mono (by simp)).trans (hB2.mono (Nat.le_trans (by simp) HB.out.size)))⟩
theorem v3p (a b c : ByteArray) (hs : (Lib.join ((q3i [a, b, c]).map (·.data.toList)) [45]).length ≤ 140737488355328) (hz : (q8d (q3i [a, b, c])).size ≤ 900000) (sg : Bool) (out : List ByteArray) (ht : (q3e (q8d (q3i [a, b, c]))).all v2q = true) (ho : z4z (q3e (q8d (q3i [a, b, c]))) (false, []) = some (sg, out)) (hj : (Lib.join (out.map (·.data.toList)) [45]).length ≤ 140737488355328) (w : World) : Calls Tryz.prog 44 #[T3 a b c] w fun e w' => e = .returned (.string (q8d out)) ∧ Below w.heap.size w w' := by
 have hut := Tryz.underlying33
 unfold T3
 have HT := aq ht
 have HO := aq ho
 have HZ := aq hz
 clear ht ho hz
 go_enter Tryz.func44, Tryz.ntmps44
 go_wp2_with (first
  | (go_at_call 43; refine (k7s a b c hs _).mono ?_; rintro e w1 ⟨rfl, hB⟩; have HB := aq hB; clear hB)
  | (go_at_call 45; refine (j0r _ HZ.out sg out HT.out HO.out hj _).mono ?_; rintro e w2 ⟨rfl, hB2⟩))
 go_ret
 exact ⟨rfl, (q0b (Below.refl _ _) _).trans ((HB.out.mono (by simp)).trans (hB2.mono (Nat.le_trans (by simp) HB.out.size)))⟩
end Go.Proofs.YtpmcfckechjppaaGreatDoor.Ps
namespace Go.Proofs.YtpmcfckechjppaaGreatDoor.Ps
open Go.RowKit Go.Extern.Stop Go.Stop Go.Extern
abbrev hdl (t : TypeId) : Value := .pointer (some ⟨8, t, none⟩)
theorem z9o (t : Addr) (w : World) : (ReflectliteValue.unpack (.iface 101 (.pointer (some t)))).run Tryz.prog w
 = .ok (.agg #[.pointer (some ⟨8, 101, none⟩), .pointer (some ⟨w.heap.size, 0, none⟩), .int .u64 150]) (w.alloc (.cells #[.pointer (some t)] 101)) := by kernel_rfl
theorem v8j (a : Addr) (w : World) : (ReflectliteValue.methodAny (ReflectliteValue.valueError "reflectlite.Value.Type" 0) (fun t _ _ _ => ReflectliteType.toType t) #[.agg #[.pointer (some ⟨8, 101, none⟩), .pointer (some a), .int .u64 150]]).run Tryz.prog w
 = .ok (.iface 206 (.agg #[.pointer (some ⟨8, 101, none⟩)])) w := by kernel_rfl
theorem z8d (h : Value) (w : World) : (Go.method 496 206 (.agg #[h]) "Kind").run Tryz.prog w = .ok (370, h) w := by kernel_rfl
theorem v9e (w : World) : ((ReflectliteType.abiMethod fun t => (fun a : Nat => Value.int IntKind.u8 (a : Int)) <$> Rtype.kind t) #[.pointer (some ⟨8, 101, none⟩)]).run Tryz.prog w = .ok (.int .u8 22) w := by kernel_rfl
theorem k2k (w : World) : ((ReflectliteType.abiMethod fun t => (fun a : Nat => Value.int IntKind.u8 (a : Int)) <$> Rtype.kind t) #[.pointer (some ⟨8, 59, none⟩)]).run Tryz.prog w = .ok (.int .u8 2) w := by kernel_rfl
theorem k8v (z : Sem Value) (f : TypeId → Addr → Nat → Nat → Sem Value) (v : Value) :
 ReflectliteValue.method z f #[v] = (do match ← ReflectliteValue.parts v with | none => z | some (t, a, fl) => f t a fl (fl % 32)) := rfl
theorem z5t (a : Addr) (w : World) : (ReflectliteValue.parts (.agg #[.pointer (some ⟨8, 101, none⟩), .pointer (some a), .int .u64 150])).run Tryz.prog w = .ok (some (101, a, 150)) w := by kernel_rfl
theorem v5k (a p : Addr) (W : World) (ha : W.cell? a = some (.pointer (some p))) :
 (ReflectliteValue.method (ReflectliteValue.valueError "reflectlite.Value.IsNil" 0) ReflectliteValue.isNil #[.agg #[.pointer (some ⟨8, 101, none⟩), .pointer (some a), .int .u64 150]]).run Tryz.prog W = .ok (.bool false) W := by
 rw [k8v]
 simp only [Sem.run_bind, z5t, Result.andThen]
 simp [ReflectliteValue.isNil, loadVar, isAgg, underlying, Tryz.underlying101, ha, Result.andThen]
theorem z9s (h : Value) (w : World) : (Go.method 496 206 (.agg #[h]) "Elem").run Tryz.prog w = .ok (384, .agg #[h]) w := by kernel_rfl
theorem z0e (h : Value) (w : World) : (Go.method 496 206 (.agg #[h]) "Implements").run Tryz.prog w = .ok (385, .agg #[h]) w := by kernel_rfl
theorem q6b (h : Value) (w : World) : (Go.method 496 206 (.agg #[h]) "AssignableTo").run Tryz.prog w = .ok (382, .agg #[h]) w := by kernel_rfl
theorem v9y (w : World) : (ReflectliteType.method ReflectliteType.elem #[.agg #[.pointer (some ⟨8, 101, none⟩)]]).run Tryz.prog w = .ok (.iface 206 (.agg #[.pointer (some ⟨8, 59, none⟩)])) w := by kernel_rfl
theorem z4y (w : World) : (ReflectliteType.relation "Implements" ReflectliteType.implements_ #[.agg #[.pointer (some ⟨8, 59, none⟩)], .iface 206 (.agg #[.pointer (some ⟨8, 55, none⟩)])]).run Tryz.prog w = .ok (.bool true) w := by kernel_rfl
theorem z3j (v : Value) (w : World) : (ReflectliteType.typeOf #[.iface 105 v]).run Tryz.prog w = .ok (.iface 206 (.agg #[.pointer (some ⟨8, 105, none⟩)])) w := by kernel_rfl
theorem z5q (v : Value) (w : World) : (ReflectliteType.typeOf #[.iface 59 v]).run Tryz.prog w = .ok (.iface 206 (.agg #[.pointer (some ⟨8, 59, none⟩)])) w := by kernel_rfl
theorem q8q (w : World) : (ReflectliteType.relation "AssignableTo" ReflectliteType.assignableTo #[.agg #[.pointer (some ⟨8, 105, none⟩)], .iface 206 (.agg #[.pointer (some ⟨8, 59, none⟩)])]).run Tryz.prog w = .ok (.bool false) w := by kernel_rfl
theorem q9d (w : World) : (ReflectliteType.relation "AssignableTo" ReflectliteType.assignableTo #[.agg #[.pointer (some ⟨8, 59, none⟩)], .iface 206 (.agg #[.pointer (some ⟨8, 59, none⟩)])]).run Tryz.prog w = .ok (.bool true) w := by kernel_rfl
theorem z3h (k : Int) (w : World) : (ReflectliteValue.unpack (.iface 59 (.int .i64 k))).run Tryz.prog w
 = .ok (.agg #[.pointer (some ⟨8, 59, none⟩), .pointer (some ⟨w.heap.size, 0, none⟩), .int .u64 130]) (w.alloc (.cells #[.int .i64 k] 59)) := by kernel_rfl
theorem v0o (w : World) : (Rtype.elem? 101).run Tryz.prog w = .ok (some 59) w := by kernel_rfl
theorem k9w (p : Addr) (w : World) : (ReflectliteValue.mk 59 p ReflectliteValue.flagAddr).run Tryz.prog w = .ok (.agg #[.pointer (some ⟨8, 59, none⟩), .pointer (some p), .int .u64 386]) w := by kernel_rfl
theorem v5z (a p : Addr) (W : World) (ha : W.cell? a = some (.pointer (some p))) :
 (ReflectliteValue.method (ReflectliteValue.valueError "reflectlite.Value.Elem" 0) ReflectliteValue.elem #[.agg #[.pointer (some ⟨8, 101, none⟩), .pointer (some a), .int .u64 150]]).run Tryz.prog W
  = .ok (.agg #[.pointer (some ⟨8, 59, none⟩), .pointer (some p), .int .u64 386]) W := by
 rw [k8v]
 simp only [Sem.run_bind, z5t, Result.andThen]
 simp [ReflectliteValue.elem, loadVar, isAgg, underlying, Tryz.underlying101, ha, Result.andThen, v0o, k9w]
theorem j1w (v x : Value) : ReflectliteValue.set #[v, x] = (do
 let (some (dst, a, fl), some (src, b, _)) := (← ReflectliteValue.parts v, ← ReflectliteValue.parts x)
  | unsupported (.noEntry "extern/(internal/reflectlite.Value).Set.zeroValue")
 if fl / ReflectliteValue.flagAddr % 2 == 0 then unsupported (.noEntry "extern/(internal/reflectlite.Value).Set.unaddressable")
 let val ← loadVar src b
 if ← Rtype.directlyAssignable dst src then storeVar dst a val
 else if ← Rtype.implements dst src then
  if (← Rtype.kind src) == 20 then
   match val with
   | .nilIface => unsupported (.noEntry "extern/reflectlite: a nil value of one interface type handed on as a value of another")
   | _ => storeVar dst a val
  else storeVar dst a (.iface src val)
 else panicString ("reflectlite.Set: value of type " ++ (← Rtype.spelt src) ++ " is not assignable to type " ++ (← Rtype.spelt dst))
 pure (.tuple #[])) := rfl
theorem v6g (a : Addr) (w : World) : (ReflectliteValue.parts (.agg #[.pointer (some ⟨8, 59, none⟩), .pointer (some a), .int .u64 386])).run Tryz.prog w = .ok (some (59, a, 386)) w := by kernel_rfl
theorem k0n (a : Addr) (w : World) : (ReflectliteValue.parts (.agg #[.pointer (some ⟨8, 59, none⟩), .pointer (some a), .int .u64 130])).run Tryz.prog w = .ok (some (59, a, 130)) w := by kernel_rfl
theorem v5f (w : World) : (Rtype.directlyAssignable 59 59).run Tryz.prog w = .ok true w := by kernel_rfl
theorem k7k (ta b : Addr) (k : Int) (old : Value) (W : World) (hb : W.cell? b = some (.int .i64 k)) (ht : W.cell? ta = some old) (hf : W.frozen? ta = false) :
 (ReflectliteValue.set #[.agg #[.pointer (some ⟨8, 59, none⟩), .pointer (some ta), .int .u64 386], .agg #[.pointer (some ⟨8, 59, none⟩), .pointer (some b), .int .u64 130]]).run Tryz.prog W
  = .ok (.tuple #[]) (W.setCell ta (.int .i64 k)) := by
 rw [j1w]
 simp only [Sem.run_bind, v6g, k0n, Result.andThen]
 simp [ReflectliteValue.flagAddr, loadVar, isAgg, underlying, Tryz.underlying59, hb, Result.andThen, v5f, storeVar, Value.cells, storeCells, Addr.add]
 rw [run_store Tryz.prog W ta _ _ (by rfl)]
 simp [ht, hf]
theorem k4c (v : Value) (w : World) : (Instr.typeAssert (.iface 105 v) 55 211 true).run Tryz.prog w = .ok (.tuple #[.nilIface, .bool false]) w := run_typeAssert_lacksB Tryz.underlying211 (by kernel_rfl) (by kernel_rfl) v _ w
theorem z8w (v : Value) (w : World) : (Instr.typeAssert (.iface 105 v) 55 163 true).run Tryz.prog w = .ok (.tuple #[.iface 105 v, .bool true]) w := run_typeAssert_hasB Tryz.underlying163 (by kernel_rfl) v _ w
theorem q9i (v : Value) (w : World) : (Go.method 496 105 v "Unwrap").run Tryz.prog w = .ok (376, v) w := by kernel_rfl
end Go.Proofs.YtpmcfckechjppaaGreatDoor.Ps
namespace Go.Proofs.YtpmcfckechjppaaGreatDoor.Ps
open Go.RowKit Go.Shelf Go.Proofs.YtpmcfckechjppaaGreatDoorW.PrintWords Go.Proofs.YtpmcfckechjppaaGreatDoorW.PrintLast Go.Proofs.YtpmcfckechjppaaGreatDoorW.PrintMore Go.Proofs.YtpmcfckechjppaaGreatDoor.P Go.Proofs.YtpmcfckechjppaaGreatDoor.LikW Go.Extern.Stop Go.Stop Go.Extern
attribute [local go_sem] Oper.semAt_some
theorem k0v (p : Nat) (x : Int × Int) (w : World) (hF : q4v w p x) : Calls Tryz.prog 376 #[.pointer (some ⟨p, 0, none⟩)] w fun e w' => e = .returned (.iface 59 (.int .i64 x.2)) ∧ w' = w := by
 have huf := Tryz.underlying107
 obtain ⟨what, hF⟩ := hF
 have h2 := (q0a hF 2).trans rfl
 clear hF
 go_enter Tryz.func376, Tryz.ntmps376
 go_wp2_with (fail)
 go_ret
 exact ⟨rfl, rfl⟩
theorem j1z (p t a : Nat) (x : Int × Int) (w : World) (hF : q4v w p x) (ht : w.heap[t]? = some (.cells #[.int .i64 0] 59 (0, 0))) (ha : w.cell? ⟨a, 0, none⟩ = some (.pointer (some ⟨t, 0, none⟩))) :
 Calls Tryz.prog 144 #[.iface 105 (.pointer (some ⟨p, 0, none⟩)), .iface 101 (.pointer (some ⟨t, 0, none⟩)), .agg #[.pointer (some ⟨8, 101, none⟩), .pointer (some ⟨a, 0, none⟩), .int .u64 150], .iface 206 (.agg #[.pointer (some ⟨8, 59, none⟩)])] w fun e w' => e = .returned (.bool true) ∧ Below t w w' ∧ w'.heap[t]? = some (.cells #[.int .i64 x.2] 59 (0, 0)) := by
 have h141 := @run_callFunc_extern Tryz.prog 141 _ (fun args => ReflectliteValue.unpack (args.getD 0 (.tuple #[]))) Tryz.func141 (by kernel_rfl) (by kernel_rfl) (by kernel_rfl) (by kernel_rfl)
 have h190 := @run_callFunc_extern Tryz.prog 190 _ ReflectliteType.typeOf Tryz.func190 (by kernel_rfl) (by kernel_rfl) (by kernel_rfl) (by kernel_rfl)
 have h382 := @run_callFunc_extern Tryz.prog 382 _ (ReflectliteType.relation "AssignableTo" ReflectliteType.assignableTo) Tryz.func382 (by kernel_rfl) (by kernel_rfl) (by kernel_rfl) (by kernel_rfl)
 have h191 := @run_callFunc_extern Tryz.prog 191 _ (ReflectliteValue.method (ReflectliteValue.valueError "reflectlite.Value.Elem" 0) ReflectliteValue.elem) Tryz.func191 (by kernel_rfl) (by kernel_rfl) (by kernel_rfl) (by kernel_rfl)
 have h192 := @run_callFunc_extern Tryz.prog 192 _ ReflectliteValue.set Tryz.func192 (by kernel_rfl) (by kernel_rfl) (by kernel_rfl) (by kernel_rfl)
 have q1 := z3j
 have q2 := z5q
 have q3 := q6b
 have q4 := q8q
 have q5 := q9d
 have q6 := z3h
 have q16 := k4c
 have q17 := z8w
 have q18 := q9i
 have htl := q0g ht
 have hal : a < w.heap.size := by
  rcases Nat.lt_or_ge a w.heap.size with h | h
  · exact h
  · simp [World.cell?, Array.getElem?_eq_none h] at ha
 obtain ⟨V3, hV3⟩ : ∃ V3, V3 = w.alloc (.cells #[.pointer (some ⟨8, 101, none⟩), .pointer (some ⟨a, 0, none⟩), .int .u64 150] 152) := ⟨_, rfl⟩
 have s3 : V3.heap.size = w.heap.size + 1 := by rw [hV3]; simp
 have b3 : Below w.heap.size w V3 := by rw [hV3]; exact q0b (Below.refl _ _) _
 have HF : q0c (q4v V3 p x) := ⟨by obtain ⟨what, h⟩ := hF; exact ⟨what, (b3.block _ (q0g h)).trans h⟩⟩
 have el := v5z ⟨a, 0, none⟩ ⟨t, 0, none⟩ V3 (by rw [hV3, World.cell?_alloc_lt _ _ ⟨a, 0, none⟩ hal]; exact ha)
 have T3 : V3.heap[t]? = some (.cells #[.int .i64 0] 59 (0, 0)) := (b3.block _ htl).trans ht
 obtain ⟨V4, hV4⟩ : ∃ V4, V4 = V3.alloc (.cells #[.int .i64 x.2] 59) := ⟨_, rfl⟩
 have T4 : V4.heap[t]? = some (.cells #[.int .i64 0] 59 (0, 0)) := by rw [hV4]; exact ((q0b (Below.refl _ _) _).block _ (by omega)).trans T3
 have B4 : Below t w V4 := by rw [hV4]; exact (b3.mono (by omega)).trans ((q0b (Below.refl _ _) _).mono (by omega))
 have st := k7k ⟨t, 0, none⟩ ⟨w.heap.size + 1, 0, none⟩ x.2 _ V4
  (by rw [hV4, World.cell?_alloc_at _ _ _ _ (by simp [s3])]; rfl)
  ((q0a T4 0).trans rfl) (q0e T4 0)
 have HT := aq T4
 have HB := aq B4
 have H4 := aq hV4
 have H3 := aq hV3
 rw [hV4, hV3] at st
 rw [hV3] at el
 clear hF htl ht ha hal T3 T4 s3 b3 B4 hV4 hV3
 go_enter Tryz.func144, Tryz.ntmps144
 go_wp2_with (fail)
 refine wp_loop_rounds 2 ?_
 rw [rounds_succ]
 go_wp2_with (first
  | (go_at_call 376; refine (k0v p x _ (H3.out ▸ HF.out)).mono ?_; rintro e w1 ⟨rfl, rfl⟩))
 rw [rounds_succ]
 go_wp2_with (fail)
 go_ret
 have e4 := H4.out
 rw [H3.out] at e4
 rw [← e4]
 exact ⟨rfl, HB.out.setCell (Nat.le_refl t) _, q0l HT.out 0 _ rfl⟩
theorem j2q (p t : Nat) (x : Int × Int) (w : World) (hg : w.cell? ⟨1, 0, none⟩ = some (.iface 206 (.agg #[.pointer (some ⟨8, 55, none⟩)]))) (hF : q4v w p x) (ht : w.heap[t]? = some (.cells #[.int .i64 0] 59 (0, 0))) :
 Calls Tryz.prog 71 #[v3a p, .iface 101 (.pointer (some ⟨t, 0, none⟩))] w fun e w' => e = .returned (.bool true) ∧ Below t w w' ∧ w'.heap[t]? = some (.cells #[.int .i64 x.2] 59 (0, 0)) := by
 unfold v3a
 have h141 := @run_callFunc_extern Tryz.prog 141 _ (fun args => ReflectliteValue.unpack (args.getD 0 (.tuple #[]))) Tryz.func141 (by kernel_rfl) (by kernel_rfl) (by kernel_rfl) (by kernel_rfl)
 have h142 := @run_callFunc_extern Tryz.prog 142 _ (ReflectliteValue.methodAny (ReflectliteValue.valueError "reflectlite.Value.Type" 0) (fun t _ _ _ => ReflectliteType.toType t)) Tryz.func142 (by kernel_rfl) (by kernel_rfl) (by kernel_rfl) (by kernel_rfl)
 have h143 := @run_callFunc_extern Tryz.prog 143 _ (ReflectliteValue.method (ReflectliteValue.valueError "reflectlite.Value.IsNil" 0) ReflectliteValue.isNil) Tryz.func143 (by kernel_rfl) (by kernel_rfl) (by kernel_rfl) (by kernel_rfl)
 have h370 := @run_callFunc_extern Tryz.prog 370 _ (ReflectliteType.abiMethod fun t => do pure (.int .u8 (← Rtype.kind t))) Tryz.func370 (by kernel_rfl) (by kernel_rfl) (by kernel_rfl) (by kernel_rfl)
 have h384 := @run_callFunc_extern Tryz.prog 384 _ (ReflectliteType.method ReflectliteType.elem) Tryz.func384 (by kernel_rfl) (by kernel_rfl) (by kernel_rfl) (by kernel_rfl)
 have h385 := @run_callFunc_extern Tryz.prog 385 _ (ReflectliteType.relation "Implements" ReflectliteType.implements_) Tryz.func385 (by kernel_rfl) (by kernel_rfl) (by kernel_rfl) (by kernel_rfl)
 have h190 := @run_callFunc_extern Tryz.prog 190 _ ReflectliteType.typeOf Tryz.func190 (by kernel_rfl) (by kernel_rfl) (by kernel_rfl) (by kernel_rfl)
 have h382 := @run_callFunc_extern Tryz.prog 382 _ (ReflectliteType.relation "AssignableTo" ReflectliteType.assignableTo) Tryz.func382 (by kernel_rfl) (by kernel_rfl) (by kernel_rfl) (by kernel_rfl)
 have h191 := @run_callFunc_extern Tryz.prog 191 _ (ReflectliteValue.method (ReflectliteValue.valueError "reflectlite.Value.Elem" 0) ReflectliteValue.elem) Tryz.func191 (by kernel_rfl) (by kernel_rfl) (by kernel_rfl) (by kernel_rfl)
 have h192 := @run_callFunc_extern Tryz.prog 192 _ ReflectliteValue.set Tryz.func192 (by kernel_rfl) (by kernel_rfl) (by kernel_rfl) (by kernel_rfl)
 have q1 := z3j
 have q2 := z5q
 have q3 := q6b
 have q4 := q8q
 have q5 := q9d
 have q6 := z3h
 have q7 := z9o
 have q8 := v8j
 have q9 := z8d
 have q10 := z9s
 have q11 := z0e
 have q12 := v9e
 have q13 := k2k
 have q14 := v9y
 have q15 := z4y
 have q16 := k4c
 have q17 := z8w
 have q18 := q9i
 have htl := q0g ht
 have ht0 := (q0a ht 0).trans rfl
 have hf0 := q0e ht 0
 obtain ⟨V2, hV2⟩ : ∃ V2, V2 = ((w.alloc (.cells #[.pointer (some ⟨t, 0, none⟩)] 101)).alloc (.cells #[.pointer (some ⟨8, 101, none⟩), .pointer (some ⟨w.heap.size, 0, none⟩), .int .u64 150] 152)) := ⟨_, rfl⟩
 have s2 : V2.heap.size = w.heap.size + 1 + 1 := by rw [hV2]; simp
 have b2 : Below w.heap.size w V2 := by rw [hV2]; exact q0b (q0b (Below.refl _ _) _) _
 have hlt : 1 < w.heap.size := by
  rcases Nat.lt_or_ge 1 w.heap.size with h | h
  · exact h
  · simp [World.cell?, Array.getElem?_eq_none h] at hg
 have n8 := v5k ⟨w.heap.size, 0, none⟩ ⟨t, 0, none⟩ V2 (by rw [hV2, World.cell?_alloc_lt _ _ ⟨w.heap.size, 0, none⟩ (by simp)]; simp)
 have hg2 : V2.cell? ⟨1, 0, none⟩ = some (.iface 206 (.agg #[.pointer (some ⟨8, 55, none⟩)])) := by
  rw [hV2, World.cell?_alloc_lt _ _ ⟨1, 0, none⟩ (by simp; omega), World.cell?_alloc_lt _ _ ⟨1, 0, none⟩ hlt]; exact hg
 obtain ⟨b3, hF2⟩ : True ∧ q4v V2 p x := ⟨trivial, by obtain ⟨what, h⟩ := hF; exact ⟨what, (b2.block _ (q0g h)).trans h⟩⟩
 have HF := aq hF2
 have HT := aq ((b2.block _ htl).trans ht)
 have HA := aq (show V2.cell? ⟨w.heap.size, 0, none⟩ = some (.pointer (some ⟨t, 0, none⟩)) from by rw [hV2, World.cell?_alloc_lt _ _ ⟨w.heap.size, 0, none⟩ (by simp)]; simp)
 have HB := aq (b2.mono (Nat.le_of_lt htl))
 subst hV2
 clear hF htl ht ht0 hf0 s2 b2 b3 hF2
 go_enter Tryz.func71, Tryz.ntmps71
 go_wp2_with (first
  | (go_at_call 144; refine (j1z p t w.heap.size x _ HF.out HT.out HA.out).mono ?_; rintro e w1 ⟨rfl, hb, hh⟩))
 go_ret
 exact ⟨rfl, HB.out.trans hb, hh⟩
theorem k6z (p : Nat) (x : Int × Int) (w : World) (hg : w.cell? ⟨1, 0, none⟩ = some (.iface 206 (.agg #[.pointer (some ⟨8, 55, none⟩)]))) (hF : q4v w p x) :
 Calls Tryz.prog 31 #[v3a p] w fun e w' => e = .returned (.int .i64 x.2) ∧ Below w.heap.size w w' := by
 have hmi : ∀ (u : Value) (W : World), (Instr.makeInterface 101 u).run Tryz.prog W = .ok (.iface 101 u) W := fun u W => by kernel_rfl
 obtain ⟨V, hV⟩ : ∃ V, V = w.alloc (.cells #[.int .i64 0] 59) := ⟨_, rfl⟩
 have bV : Below w.heap.size w V := by rw [hV]; exact q0b (Below.refl _ _) _
 have HG : q0c (V.cell? ⟨1, 0, none⟩ = some (.iface 206 (.agg #[.pointer (some ⟨8, 55, none⟩)]))) := ⟨by
  have hlt : 1 < w.heap.size := by
   rcases Nat.lt_or_ge 1 w.heap.size with h | h
   · exact h
   · simp [World.cell?, Array.getElem?_eq_none h] at hg
  rw [hV, World.cell?_alloc_lt _ _ ⟨1, 0, none⟩ hlt]; exact hg⟩
 have HF : q0c (q4v V p x) := ⟨by obtain ⟨what, h⟩ := hF; exact ⟨what, (bV.block _ (q0g h)).trans h⟩⟩
 have HT : q0c (V.heap[w.heap.size]? = some (.cells #[.int .i64 0] 59 (0, 0))) := ⟨by rw [hV]; exact World.alloc_heap_new _ _⟩
 have HB := aq bV
 subst hV
 clear hg hF bV
 unfold v3a
 go_enter Tryz.func31, Tryz.ntmps31
 go_wp2_with (first
  | (go_at_call 71; refine (j2q p w.heap.size x _ HG.out HF.out HT.out).mono ?_; rintro e w1 ⟨rfl, hb, hh⟩; have h0 := (q0a hh 0).trans rfl; have HH := aq hb; clear hb hh))
 go_ret
 exact ⟨rfl, HB.out.trans HH.out⟩
end Go.Proofs.YtpmcfckechjppaaGreatDoor.Ps
namespace Go.Proofs.YtpmcfckechjppaaGreatDoor.Ps
open Go.RowKit Go.Shelf Go.Proofs.YtpmcfckechjppaaGreatDoorW.PrintWords Go.Proofs.YtpmcfckechjppaaGreatDoorW.PrintLast Go.Proofs.YtpmcfckechjppaaGreatDoorW.PrintMore Go.Proofs.YtpmcfckechjppaaGreatDoor.P Go.Proofs.YtpmcfckechjppaaGreatDoor.LikW
open Go.Proofs.YtpmcfckechjppaaGreatDoor.Each Go.Proofs.YtpmcfckechjppaaGreatDoor.Base Go.Proofs.YtpmcfckechjppaaGreatDoor.Pure
attribute [local go_sem] Oper.semAt_some
def EHw (w : World) : Prop := w.cell? ⟨1, 0, none⟩ = some (.iface 206 (.agg #[.pointer (some ⟨8, 55, none⟩)]))
theorem EHw.below {w W : World} (h : EHw w) (hb : Below w.heap.size w W) : EHw W := (hb.cell (World.block_lt_of_cell? w _ h)).trans h
theorem q4v.below {w W : World} {p : Nat} {x : Int × Int} (h : q4v w p x) (hb : Below w.heap.size w W) : q4v W p x := by
 obtain ⟨what, h⟩ := h
 exact ⟨what, (hb.block _ (q0g h)).trans h⟩
def Cry (w w1 : World) (p : Nat) (x : Int × Int) : Prop := Below w.heap.size w w1 ∧ EHw w1 ∧ q4v w1 p x
theorem Cry.on {w w1 w2 : World} {p : Nat} {x : Int × Int} (h : Cry w w1 p x) (hb : Below w1.heap.size w1 w2) : Cry w w2 p x := ⟨h.1.trans (hb.mono h.1.size), h.2.1.below hb, h.2.2.below hb⟩
theorem v2u (M : Nat) : ∀ r : List (List UInt8), (∀ x ∈ r, x.length ≤ M) → (Lib.joinTail [45] r).length ≤ r.length * (M + 1)
 | [], _ => by simp [Lib.joinTail]
 | x :: r, h => by
  have ih := v2u M r fun y hy => h y (List.mem_cons_of_mem _ hy)
  have h1 := h x List.mem_cons_self
  have e : Lib.joinTail [45] (x :: r) = ([45] ++ x) ++ Lib.joinTail [45] r := rfl
  rw [e, List.length_append, List.length_append, List.length_cons, List.length_cons, List.length_nil, Nat.add_mul]
  omega
theorem k3a (M : Nat) (l : List (List UInt8)) (h : ∀ x ∈ l, x.length ≤ M) : (Lib.join l [45]).length ≤ l.length * (M + 1) := by
 cases l with
 | nil => simp [Lib.join_nil]
 | cons x r =>
  have h1 := h x List.mem_cons_self
  have h2 := v2u M r fun y hy => h y (List.mem_cons_of_mem _ hy)
  rw [Lib.join_cons, List.length_append, List.length_cons, Nat.add_mul]
  omega
def v2x (s : ByteArray) : Value := .agg #[.string ⟨#[]⟩, .slice none 0 0, .string ⟨#[]⟩, .string ⟨#[]⟩, .slice none 0 0, .slice none 0 0, .slice none 0 0, .string s]
theorem k1d (k : Nat) (s : ByteArray) (hs : s.size ≤ 900000) (w : World) (hG : GrandW.G w) (i : Int) (hf : q0t.f k s = some (i, true)) :
 Calls Tryz.prog 26 #[.string s] w fun e w' => e = .returned (.tuple #[v2x (q5p s), .nilIface]) ∧ Below w.heap.size w w' := by
 have hut := Tryz.underlying33
 have HG := aq hG
 have HF := aq hf
 have HL := aq (v3z s (by omega))
 clear hG hf
 obtain ⟨N, hN⟩ : ∃ N, N = w.heap.size := ⟨_, rfl⟩
 have HN := aq hN
 clear hN
 go_enter Tryz.func26, Tryz.ntmps26
 go_wp2_with (first
  | (go_at_call 61; refine (q0t.calls k s i true _ HF.out (HG.out.below (by repeat (first | exact Below.refl _ _ | apply q0b)))).mono ?_; rintro e w1 ⟨rfl, hb1⟩; have HB1 := aq hb1; have T1 := aq ((hb1.block w.heap.size (by simp; omega)).trans (aN (aZ rfl))); have T2 := aq ((hb1.block (w.heap.size + 1) (by simp)).trans (aZ (by simp))); clear hb1)
  | (go_at_call 62; refine (q2a.calls s (q5p s) _ HL.out).mono ?_; rintro e w2 ⟨rfl, hb2⟩; have t1 := (hb2.block _ (q0g T1.out)).trans T1.out; have t2 := (hb2.block _ (q0g T2.out)).trans T2.out; have K1 := aq t1; have K2 := aq t2; have HB2 := aq (((q0b (q0b (Below.refl _ _) _) _).trans (HB1.out.mono (by simp; omega))).trans (hb2.mono (by have := HB1.out.size; simp at this; omega))); obtain ⟨z0, z1, z2, z3, z4, z5, z6, z7⟩ := cz8 t1; obtain ⟨f0, f1, f2, f3, f4, f5, f6, f7⟩ := fz8 t1; have y0 := (q0a t2 0).trans rfl; have g0 := q0e t2 0; clear t1 t2 hb2))
 obtain ⟨W9, hW9⟩ : ∃ W9, (((((((((w2.setCell ⟨w.heap.size, 0, none⟩ (.string ⟨#[]⟩)).setCell ⟨w.heap.size, 1, none⟩ (.slice none 0 0)).setCell ⟨w.heap.size, 2, none⟩ (.string ⟨#[]⟩)).setCell ⟨w.heap.size, 3, none⟩ (.string ⟨#[]⟩)).setCell ⟨w.heap.size, 4, none⟩ (.slice none 0 0)).setCell ⟨w.heap.size, 5, none⟩ (.slice none 0 0)).setCell ⟨w.heap.size, 6, none⟩ (.slice none 0 0)).setCell ⟨w.heap.size, 7, none⟩ (.string (q5p s))).setCell ⟨w.heap.size + 1, 0, none⟩ .nilIface) = W9 := ⟨_, rfl⟩
 have B9 : Below w.heap.size w W9 := by
  rw [← hW9]
  exact q0r (q0r (q0r (q0r (q0r (q0r (q0r (q0r (q0r HB2.out (Nat.le_refl _)) (Nat.le_refl _)) (Nat.le_refl _)) (Nat.le_refl _)) (Nat.le_refl _)) (Nat.le_refl _)) (Nat.le_refl _)) (Nat.le_refl _)) (Nat.le_succ _)
 have p0 := q0l K1.out 0 (.string ⟨#[]⟩) (by rfl)
 have p1 := q0l p0 1 (.slice none 0 0) (by rfl)
 have p2 := q0l p1 2 (.string ⟨#[]⟩) (by rfl)
 have p3 := q0l p2 3 (.string ⟨#[]⟩) (by rfl)
 have p4 := q0l p3 4 (.slice none 0 0) (by rfl)
 have p5 := q0l p4 5 (.slice none 0 0) (by rfl)
 have p6 := q0l p5 6 (.slice none 0 0) (by rfl)
 have p7 := q0l p6 7 (.string (q5p s)) (by rfl)
 have T9 : W9.heap[w.heap.size]? = some (.cells #[.string ⟨#[]⟩, .slice none 0 0, .string ⟨#[]⟩, .string ⟨#[]⟩, .slice none 0 0, .slice none 0 0, .slice none 0 0, .string (q5p s)] 33 (0, 0)) := by
  rw [← hW9]
  exact q1e p7 (Nat.ne_of_lt (Nat.lt_succ_self _)) _
 have r0 := q1e (p := ⟨w.heap.size, 0, none⟩) K2.out (by simp) (.string ⟨#[]⟩)
 have r1 := q1e (p := ⟨w.heap.size, 1, none⟩) r0 (by simp) (.slice none 0 0)
 have r2 := q1e (p := ⟨w.heap.size, 2, none⟩) r1 (by simp) (.string ⟨#[]⟩)
 have r3 := q1e (p := ⟨w.heap.size, 3, none⟩) r2 (by simp) (.string ⟨#[]⟩)
 have r4 := q1e (p := ⟨w.heap.size, 4, none⟩) r3 (by simp) (.slice none 0 0)
 have r5 := q1e (p := ⟨w.heap.size, 5, none⟩) r4 (by simp) (.slice none 0 0)
 have r6 := q1e (p := ⟨w.heap.size, 6, none⟩) r5 (by simp) (.slice none 0 0)
 have r7 := q1e (p := ⟨w.heap.size, 7, none⟩) r6 (by simp) (.string (q5p s))
 have E9 : W9.heap[w.heap.size + 1]? = some (.cells #[.nilIface] 55 (0, 0)) := by
  rw [← hW9]
  exact q0l r7 0 _ rfl
 rw [hW9]
 clear z0 z1 z2 z3 z4 z5 z6 z7 f0 f1 f2 f3 f4 f5 f6 f7 y0 g0 p7 hW9
 obtain ⟨z0, z1, z2, z3, z4, z5, z6, z7⟩ := cz8 T9
 have y0 := (q0a E9 0).trans rfl
 refine bodyPost_ret (v := .tuple #[v2x (q5p s), .nilIface]) ?_ rfl ⟨rfl, B9⟩
 simp [results, Tryz.results26, asAddr, z0, z1, z2, z3, z4, z5, z6, z7, y0, hut, go_sem, v2x]
end Go.Proofs.YtpmcfckechjppaaGreatDoor.Ps
