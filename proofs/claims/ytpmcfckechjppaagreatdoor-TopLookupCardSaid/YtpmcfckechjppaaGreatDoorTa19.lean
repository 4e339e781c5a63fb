/- Made by a program of this seat's own (shake.py, merge.py): what the claim leans on: Tool4, Do, Facts, Awake, TopL. -/
import Derived.Test.YtpmcfckechjppaaGreatDoorTa18
namespace Go.Proofs.YtpmcfckechjppaaGreatDoor.Ps
open Go.RowKit Go.Shelf Go.Proofs.YtpmcfckechjppaaGreatDoorW.PrintWords Go.Proofs.YtpmcfckechjppaaGreatDoorW.PrintLast Go.Proofs.YtpmcfckechjppaaGreatDoorW.PrintMore Go.Proofs.YtpmcfckechjppaaGreatDoor.P Go.Proofs.YtpmcfckechjppaaGreatDoor.LikW
set_option linter.unusedVariables false
set_option linter.unusedSimpArgs false
set_option maxRecDepth 100000
set_option maxHeartbeats 8000000
theorem tags_c (b o c : Nat) (ts : List (ByteArray × K3)) (hl : ts.length ≤ 1000) (hP : ∀ x ∈ ts, ParsesTo x.1 x.2.1 x.2.2.1 x.2.2.2) (w : World) (hc : ∀ (i : Nat) x, ts[i]? = some x → w.cell? ⟨b, o + i, none⟩ = some (.string x.1)) (hG : GrandW.G w) :
    Calls Tryz.prog 170 #[.slice (some ⟨b, o, none⟩) ts.length c] w fun e w' => (∃ v, e = .returned (.tuple #[v, .nilIface]) ∧ w'.ownsRow w.heap.size 33 8 v ts.length (cellsT (ts.map (·.2)))) ∧ Below w.heap.size w w' := by
  have hut := Tryz.underlying33
  have hus := Tryz.underlying193
  have huz := Tryz.underlying26
  have hee : ∀ W : World, (binOp BinOp.neq 55 .nilIface .nilIface).run Tryz.prog W = .ok (.bool false) W := fun W => by kernel_rfl
  have HP := Aside0.mk hP
  have HC := Aside0.mk hc
  have HG := Aside0.mk hG
  have HL := Aside0.mk hl
  clear hP hc hG
  obtain ⟨N, hNN⟩ : ∃ N, N = w.heap.size := ⟨_, rfl⟩
  rw [← hNN]
  have HNN := Aside0.mk hNN.symm
  have BW : Aside0 (Below N w w) := ⟨Below.refl _ _⟩
  clear hNN
  go_enter Tryz.func170, Tryz.ntmps170
  go_wp2
  go_loopw [11, 4] (fun vi vs wr => ∃ (i : Nat), vi = .int .i64 (i : Int) ∧ i ≤ ts.length ∧ Aside0 (wr.ownsRow N 33 8 vs i (cellsT ((ts.take i).map (·.2)))) ∧ Aside0 (Below N w wr)) (fun vi _ _ => ts.length - (intOf vi).toNat)
  case atStart => exact ⟨0, rfl, Nat.zero_le _, ⟨own_nil _ _ _ _⟩, BW⟩
  case round =>
    obtain ⟨i, rfl, hi, O_V, BB⟩ := hrel
    obtain ⟨V1, c1, e1⟩ := own_slice O_V.out
    subst e1
    by_cases hlt : i < ts.length
    · obtain ⟨⟨s, t1, t2, t3⟩, ht⟩ : ∃ t, ts[i]? = some t := ⟨_, List.getElem?_eq_getElem hlt⟩
      have x0 : wr.cell? ⟨b, o + i, none⟩ = some (.string s) := by
        have h := HC.out i _ ht
        exact (World.cell?_of_block (BB.out.block _ (by rw [← HNN.out]; exact World.block_lt_of_cell? w _ h))).trans h
      have hp := HP.out _ (List.mem_of_getElem? ht)
      have HPt := Aside0.mk hp
      have hsn : (ts.take (i + 1)).map (·.2) = (ts.take i).map (·.2) ++ [(t1, t2, t3)] := by rw [List.take_add_one, ht, List.map_append]; rfl
      have HSN := Aside0.mk hsn
      have HGr := Aside0.mk (HG.out.below (by have h := BB.out; rwa [← HNN.out] at h))
      have d1 : decide ((i : Int) < (ts.length : Int)) = true := decide_eq_true (by omega)
      have m0 : (0 : Int) ≤ (i : Int) := by omega
      have m1 : (i : Int) < (ts.length : Int) := by omega
      have m2 : i < ts.length := hlt
      clear ht hsn hp
      go_wp2_with (first
        | (go_at_call 26; refine (HPt.out _ HGr.out).mono ?_; rintro e w1 ⟨rfl, hB⟩; unfold T3; have hsz : N ≤ wr.heap.size := by have h := BB.out.size; have h2 := HNN.out; omega
           obtain ⟨V, hV⟩ : ∃ V, V = w1.alloc (.cells (T3c t1 t2 t3) 33) := ⟨_, rfl⟩; have O0 : Aside0 (V.ownsRow N 33 8 (.slice V1 i c1) i (cellsT ((ts.take i).map (·.2)))) := ⟨by rw [hV]; exact World.ownsRow.alloc (pw_own_below O_V.out hB) _⟩; have B1' : Aside0 (Below N w V) := ⟨by rw [hV]; exact (BB.out.trans (hB.mono hsz)).alloc (Nat.le_trans hsz hB.size) _⟩; have S1 : Aside0 (N ≤ V.heap.size) := ⟨by rw [hV]; have := hB.size; simp; omega⟩; have U0 : V.heap[w1.heap.size]? = some (.cells (T3c t1 t2 t3) 33 (0, 0)) := by { rw [hV]; exact aZ rfl }; obtain ⟨z0, z1, z2, z3, z4, z5, z6, z7⟩ := cz8t U0; unfold T3c at hV; have HV := Aside0.mk hV.symm; clear hV U0 hB hsz)
        | (rw [HV.out])
        | ((with_reducible refine gate_builtin (b := .append) (xs := #[.tmp 23, .tmp 25]) rfl ?_); at_builtin; refine print_append_cells (w0 := w) N rfl (.tmp 23) (.tmp 25) 193 33 (.agg #[.string ⟨#[]⟩, .slice none 0 0, .string ⟨#[]⟩, .string ⟨#[]⟩, .slice none 0 0, .slice none 0 0, .slice none 0 0, .string ⟨#[]⟩]) 8 160 rfl hus (by kernel_rfl) rfl (by decide) (by decide) (.slice V1 i c1) i (cellsT ((ts.take i).map (·.2))) (encT3 (t1, t2, t3)) rfl ?hx rfl ?h1 O0.out B1'.out S1.out ?hl ?_; (case hx => rfl); (case h1 => simp [encT3, Value.oneCell']); (case hl => have := HL.out; omega); intro v2 w2 ho hb2 hg hat; obtain ⟨V2, c2, rfl⟩ := own_slice ho; have O_2 := Aside0.mk ho; have B2' := Aside0.mk hb2; clear ho hb2 hg hat))
      go_roundw
      case rel =>
        exact ⟨i + 1, by congr 1, by omega, ⟨by rw [HSN.out]; unfold cellsT; rw [List.flatMap_append]; exact O_2.out⟩, B2'⟩
      case measure => simp [intOf]; omega
    · obtain rfl : i = ts.length := by omega
      have d1 : decide ((ts.length : Int) < (ts.length : Int)) = false := decide_eq_false (by omega)
      have h := O_V.out
      rw [List.take_length] at h
      have O_W := Aside0.mk h
      clear h O_V
      go_wp2
      go_ret2
      exact ⟨⟨_, rfl, O_W.out⟩, BB.out⟩
theorem tbest_c (k : Nat) (B1 B2 B3 B4 : Nat) (b oa ca ob cb : Nat) (sa s1 s2 s3 : ByteArray) (a x y z : K3) (ha : NoStep k a.1 a.2.1 a.2.2) (hN : ∀ t ∈ [x, y, z], NoStep k t.1 t.2.1 t.2.2) (e1 : dstP a x = 84) (e2 : dstP a y = 3) (e3 : dstP a z = 4)
    (pa : ParsesTo sa a.1 a.2.1 a.2.2) (p1 : ParsesTo s1 x.1 x.2.1 x.2.2) (p2 : ParsesTo s2 y.1 y.2.1 y.2.2) (p3 : ParsesTo s3 z.1 z.2.1 z.2.2) (hsl : s2.size ≤ 1000000) (w : World) (hI : Img w B1 B2 B3 B4)
    (da : w.cell? ⟨b, oa, none⟩ = some (.string sa)) (d1 : w.cell? ⟨b, ob, none⟩ = some (.string s1)) (d2 : w.cell? ⟨b, ob + 1, none⟩ = some (.string s2)) (d3 : w.cell? ⟨b, ob + 2, none⟩ = some (.string s3)) :
    Calls Tryz.prog 114 #[imgV B1 B2 B3 B4, .slice (some ⟨b, oa, none⟩) 1 ca, .slice (some ⟨b, ob, none⟩) 3 cb] w fun e w' => e = .returned (.string (okT s2)) ∧ Below w.heap.size w w' := by
  have hui := Tryz.underlying51
  have hus := Tryz.underlying26
  have hee : ∀ W : World, (binOp BinOp.neq 55 .nilIface .nilIface).run Tryz.prog W = .ok (.bool false) W := fun W => by kernel_rfl
  obtain ⟨V, hV⟩ : ∃ V, V = w.alloc (.cells (imgC B1 B2 B3 B4) 51) := ⟨_, rfl⟩
  have hb0 : Below w.heap.size w V := by rw [hV]; exact below_alloc (Below.refl _ _) _
  have I0 : V.heap[w.heap.size]? = some (.cells (imgC B1 B2 B3 B4) 51 (0, 0)) := by rw [hV]; exact aZ rfl
  have hl := World.block_lt_of_cell? w _ da
  have HDA := Aside0.mk ((World.cell?_of_block (hb0.block b hl)).trans da)
  have HD1 := Aside0.mk ((World.cell?_of_block (hb0.block b hl)).trans d1)
  have HD2 := Aside0.mk ((World.cell?_of_block (hb0.block b hl)).trans d2)
  have HD3 := Aside0.mk ((World.cell?_of_block (hb0.block b hl)).trans d3)
  have HLT : Aside0 (b < V.heap.size) := ⟨Nat.lt_of_lt_of_le hl hb0.size⟩
  have HI := Aside0.mk (hI.below hb0)
  have HB := Aside0.mk hb0
  have KI := Aside0.mk I0
  have HA := Aside0.mk ha
  have HN := Aside0.mk hN
  have E1 := Aside0.mk e1
  have E2 := Aside0.mk e2
  have E3 := Aside0.mk e3
  have PA := Aside0.mk pa
  have P1 := Aside0.mk p1
  have P2 := Aside0.mk p2
  have P3 := Aside0.mk p3
  unfold imgC at hV
  have HV := Aside0.mk hV.symm
  clear hV hb0 I0 hl da d1 d2 d3 hI ha hN e1 e2 e3 pa p1 p2 p3
  unfold imgV
  go_enter Tryz.func114, Tryz.ntmps114
  go_wp2_with (first | (rw [HV.out]) | (go_at_call 170; fail))
  refine (tags_c b oa ca [(sa, a)] (by simp) (fun q hq => by rw [List.mem_singleton.1 hq]; exact PA.out) V (fun i q hq => by match i, hq with | 0, h => cases h; exact HDA.out) HI.out.g).mono ?_
  rintro e w1 ⟨⟨v1, rfl, ho1⟩, hb1⟩
  obtain ⟨g1, q1, hv1, -, ht1⟩ := own_tags ho1 (by simp)
  have hv1' : v1 = .slice (some ⟨g1, 0, none⟩) 1 q1 := hv1
  subst hv1'
  have T1 := Aside0.mk ht1
  have K1 := kb KI hb1
  have HB1 := Aside0.mk (HB.out.trans (hb1.mono HB.out.size))
  have BV1 := Aside0.mk hb1
  clear hb1 ho1 ht1 hv1
  go_wp2_with (first | (go_at_call 170; fail))
  refine (tags_c b ob cb [(s1, x), (s2, y), (s3, z)] (by simp) (fun q hq => by
    simp only [List.mem_cons, List.not_mem_nil, or_false] at hq
    rcases hq with rfl | rfl | rfl
    · exact P1.out
    · exact P2.out
    · exact P3.out) w1 (fun i q hq => by
    have hm := fun j => World.cell?_of_block (a := ⟨b, j, none⟩) (BV1.out.block b HLT.out)
    match i, hq with
    | 0, h => cases h; exact (hm _).trans HD1.out
    | 1, h => cases h; exact (hm _).trans HD2.out
    | 2, h => cases h; exact (hm _).trans HD3.out) (HI.out.below BV1.out).g).mono ?_
  rintro e w2 ⟨⟨v2, rfl, ho2⟩, hb2⟩
  obtain ⟨g2, q2, hv2, -, ht2⟩ := own_tags ho2 (by simp)
  have hv2' : v2 = .slice (some ⟨g2, 0, none⟩) 3 q2 := hv2
  subst hv2'
  have T2 := Aside0.mk ht2
  have T1b := Aside0.mk (T1.out.below hb2)
  have K2 := kb K1 hb2
  have HB2 := Aside0.mk (HB1.out.trans (hb2.mono HB1.out.size))
  have BV2 := Aside0.mk (BV1.out.trans (hb2.mono BV1.out.size))
  clear hb2 ho2 ht2 hv2
  obtain ⟨i0, i1, i2, i3, i4, i5⟩ := cz6 (show w2.heap[w.heap.size]? = some (.cells #[.slice (some ⟨B1, 0, none⟩) 54 54, .slice (some ⟨B2, 0, none⟩) 32 32, .slice (some ⟨B3, 0, none⟩) 15 15, .slice (some ⟨B4, 0, none⟩) 7 7, .int .i64 40, .int .i64 5] 51 (0, 0)) from K2.out)
  go_wp2_with (first
    | (go_at_call 171; have h9 := choose_c k B1 B2 B3 B4 g1 q1 g2 q2 a x y z HA.out HN.out E1.out E2.out E3.out w2 T1b.out T2.out (HI.out.below BV2.out) (-1); unfold imgV at h9; refine h9.mono ?_; rintro e w3 ⟨rfl, hb3⟩; have BV3 := Aside0.mk (BV2.out.trans (hb3.mono BV2.out.size)); have HB3 := Aside0.mk (HB2.out.trans (hb3.mono HB2.out.size)); have c2 := (World.cell?_of_block (a := ⟨b, ob + 1, none⟩) (BV3.out.block b HLT.out)).trans HD2.out; clear h9 hb3)
    | (go_at_call 107; refine (ok_c w3.heap.size 1 s2 hsl _ ((blk_cell (aZ rfl) 0).trans rfl)).mono ?_; rintro e w5 ⟨rfl, hb5⟩))
  go_ret
  refine ⟨rfl, ?_⟩
  have h := below_alloc HB3.out (.cells #[.string s2] 9)
  exact h.trans (hb5.mono h.size)
theorem two_c (q o cc n i : Nat) (zs : List ByteArray) (hn : zs.length = n) (hi : Lib.idxOfS zs ⟨#[59]⟩ = (i : Int)) (hin : i + 1 < n) (hnc : n ≤ cc) (hnl : n ≤ 1000) (g : Nat) (lb : Array Value) (t : ByteArray) (w : World) (eg : ∀ args W, (callFunc g args).run Tryz.prog W = .ok (.enter g args) W) (hc : ∀ j, j < zs.length → w.cell? ⟨q, o + j, none⟩ = some (.string (zs.getD j ByteArray.empty)))
    (hdo : ∀ W, Below w.heap.size w W → Calls Tryz.prog g (#[.slice (some ⟨q, o, none⟩) i cc, .slice (some ⟨q, o + (i + 1), none⟩) (n - (i + 1)) (cc - (i + 1))] ++ lb) W fun e w' => e = .returned (.string t) ∧ Below W.heap.size W w') :
    Calls Tryz.prog 105 #[.slice (some ⟨q, o, none⟩) n cc, .func (.func g) #[] lb] w fun e w' => e = .returned (.string t) ∧ Below w.heap.size w w' := by
  have hus := Tryz.underlying26
  have HC := Aside0.mk hc
  have HD := Aside0.mk hdo
  have HI := Aside0.mk hi
  clear hc hdo hi
  go_enter Tryz.func105, Tryz.ntmps105
  go_wp2_with (first
    | (go_at_call 169; refine (Tryz.slices_Index_string q o n cc zs ⟨#[59]⟩ _ (by omega) (by omega) HC.out).mono ?_; rintro e w1 ⟨rfl, hw⟩; rw [hw, List.take_of_length_le (by omega), HI.out]; clear hw))
  have m0 : (0 : Int) ≤ (i : Int) := by omega
  have m1 : (i : Int) ≤ (cc : Int) := by omega
  have m2 : (i : Int) + 1 ≤ (n : Int) := by omega
  have m3 : (n : Int) ≤ (cc : Int) := by omega
  have m4 : ((i : Int) + 1).toNat = i + 1 := by omega
  have m5 : (0 : Int) ≤ (i : Int) + 1 := by omega
  have m7 : ¬ cc = i + 1 := by omega
  have m6 : wrap64 ((i : Int) + 1) = (i : Int) + 1 := by simp only [wrap64]; omega
  have d0 : decide ((i : Int) < 0) = false := decide_eq_false (by omega)
  rw [d0]
  clear d0
  refine start_ (n := 10) (S := fun w' => True) (ds := []) (M 10 0) (by kernel_rfl) rfl rfl trivial (fun hHeld => ?_)
  refine pw 0 11 (M 10 1) ?_
  refine pw 1 12 (M 10 3) ?_
  refine pw 2 13 (M 10 7) ?_
  refine pw 3 14 (M 10 15) ?_
  refine pw 4 15 (M 10 31) ?_
  refine pw 5 16 (M 10 63) ?_
  refine pw 6 17 (M 10 127) ?_
  refine pw 7 18 (M 10 255) ?_
  refine ow 8 (some 19) (M 10 511) fun K hK => ?_
  have hbw : Below w.heap.size w w.drew := below_drew (Below.refl _ _)
  refine call_ g (#[.slice (some ⟨q, o, none⟩) i cc, .slice (some ⟨q, o + (i + 1), none⟩) (n - (i + 1)) (cc - (i + 1))] ++ lb) (by rfl) rfl (by go_simp) ?_
  refine (HD.out _ hbw).mono ?_
  rintro e w1 ⟨rfl, hb⟩
  have HB := Aside0.mk (hbw.trans (hb.mono hbw.size))
  clear hb hbw
  refine ⟨_, rfl, ?_⟩
  refine hK.out _ _ trivial (fun hHeld => ?_)
  clear hK K
  refine norm_ (a' := ?_) ?_ ?_
  rotate_left
  · show Act.put _ (some 19) _ = _
    simp only [Act.put, List.setIfInBounds_toArray, List.set_cons_zero, List.set_cons_succ, i64_w, i32_w]
    rfl
  refine pw 9 4 (M 10 1023) ?_
  refine done_ (by kernel_rfl) ?_
  go_wp2
  go_ret
  exact ⟨rfl, HB.out⟩
theorem does81_c (k : Nat) (B1 B2 B3 B4 pi : Nat) (b oa ca ob cb : Nat) (sa s1 s2 s3 : ByteArray) (a x y z : K3) (ha : NoStep k a.1 a.2.1 a.2.2) (hN : ∀ t ∈ [x, y, z], NoStep k t.1 t.2.1 t.2.2) (e1 : dstP a x = 84) (e2 : dstP a y = 3) (e3 : dstP a z = 4)
 (pa : ParsesTo sa a.1 a.2.1 a.2.2) (p1 : ParsesTo s1 x.1 x.2.1 x.2.2) (p2 : ParsesTo s2 y.1 y.2.1 y.2.2) (p3 : ParsesTo s3 z.1 z.2.1 z.2.2) (hsl : s2.size ≤ 1000000) (w : World) (hI : Img w B1 B2 B3 B4) (hp : w.heap[pi]? = some (.cells (imgC B1 B2 B3 B4) 51 (0, 0)))
 (da : w.cell? ⟨b, oa, none⟩ = some (.string sa)) (d1 : w.cell? ⟨b, ob, none⟩ = some (.string s1)) (d2 : w.cell? ⟨b, ob + 1, none⟩ = some (.string s2)) (d3 : w.cell? ⟨b, ob + 2, none⟩ = some (.string s3)) :
 Calls Tryz.prog 113 #[.slice (some ⟨b, oa, none⟩) 1 ca, .slice (some ⟨b, ob, none⟩) 3 cb, .pointer (some ⟨pi, 0, none⟩)] w fun e w' => e = .returned (.string (okT s2)) ∧ Below w.heap.size w w' := by
 have hui := Tryz.underlying51
 obtain ⟨i0, i1, i2, i3, i4, i5⟩ := cz6 (show w.heap[pi]? = some (.cells #[.slice (some ⟨B1, 0, none⟩) 54 54, .slice (some ⟨B2, 0, none⟩) 32 32, .slice (some ⟨B3, 0, none⟩) 15 15, .slice (some ⟨B4, 0, none⟩) 7 7, .int .i64 40, .int .i64 5] 51 (0, 0)) from hp)
 have h9 := Aside0.mk (tbest_c k B1 B2 B3 B4 b oa ca ob cb sa s1 s2 s3 a x y z ha hN e1 e2 e3 pa p1 p2 p3 hsl w hI da d1 d2 d3)
 clear ha hN e1 e2 e3 pa p1 p2 p3 hI hp da d1 d2 d3
 unfold imgV at h9
 go_enter Tryz.func113, Tryz.ntmps113
 go_wp2_with (first | (go_at_call 114; refine h9.out.mono ?_; rintro e w1 ⟨rfl, hb⟩))
 go_ret
 exact ⟨rfl, hb⟩
theorem domatch_c (k : Nat) (B1 B2 B3 B4 pi : Nat) (b c : Nat) (hc5 : 5 ≤ c) (sa s1 s2 s3 : ByteArray) (a x y z : K3) (hne : Lib.idxOfS [sa, ⟨#[59]⟩, s1, s2, s3] ⟨#[59]⟩ = 1) (ha : NoStep k a.1 a.2.1 a.2.2) (hN : ∀ t ∈ [x, y, z], NoStep k t.1 t.2.1 t.2.2) (e1 : dstP a x = 84) (e2 : dstP a y = 3) (e3 : dstP a z = 4)
 (pa : ParsesTo sa a.1 a.2.1 a.2.2) (p1 : ParsesTo s1 x.1 x.2.1 x.2.2) (p2 : ParsesTo s2 y.1 y.2.1 y.2.2) (p3 : ParsesTo s3 z.1 z.2.1 z.2.2) (hsl : s2.size ≤ 1000000) (w : World) (hI : Img w B1 B2 B3 B4) (hp : w.heap[pi]? = some (.cells (imgC B1 B2 B3 B4) 51 (0, 0)))
 (hc : ∀ (j : Nat) t, [sa, ⟨#[59]⟩, s1, s2, s3][j]? = some t → w.cell? ⟨b, 1 + j, none⟩ = some (.string t)) :
 Calls Tryz.prog 112 #[.slice (some ⟨b, 1, none⟩) 5 c, .pointer (some ⟨pi, 0, none⟩)] w fun e w' => e = .returned (.string (okT s2)) ∧ Below w.heap.size w w' := by
 have hmf : ∀ (fn : Fn) (first cap : Array Value) (w : World), (Instr.makeFunc fn first cap).run Tryz.prog w = .ok (.func fn first cap) w := fun _ _ _ _ => rfl
 have eg := enters_of Tryz.func113 (by kernel_rfl) rfl
 have h9 := Aside0.mk (two_c b 1 c 5 1 [sa, ⟨#[59]⟩, s1, s2, s3] rfl hne (by omega) hc5 (by omega) 113 #[.pointer (some ⟨pi, 0, none⟩)] (okT s2) w eg
  (fun j hj => hc j _ (by rw [List.getD_eq_getElem?_getD, List.getElem?_eq_getElem hj]; rfl))
  (fun W hW => by
   have hm := fun j t (h : w.cell? ⟨b, j, none⟩ = some t) => (World.cell?_of_block (a := ⟨b, j, none⟩) (hW.block b (World.block_lt_of_cell? w _ h))).trans h
   exact does81_c k B1 B2 B3 B4 pi b 1 c 3 (c - 2) sa s1 s2 s3 a x y z ha hN e1 e2 e3 pa p1 p2 p3 hsl W (hI.below hW) ((hW.block _ (lt_blk hp)).trans hp) (hm _ _ (hc 0 _ rfl)) (hm _ _ (hc 2 _ rfl)) (hm _ _ (hc 3 _ rfl)) (hm _ _ (hc 4 _ rfl))))
 clear eg hne ha hN e1 e2 e3 pa p1 p2 p3 hI hp hc
 go_enter Tryz.func112, Tryz.ntmps112
 go_wp2_with (first | (go_at_call 105; refine h9.out.mono ?_; rintro e w1 ⟨rfl, hb⟩))
 go_ret
 exact ⟨rfl, hb⟩
theorem do_c (B1 B2 B3 B4 : Nat) (s key : ByteArray) (l : List ByteArray) (g : Nat) (t : ByteArray) (hl : Lib.splitB ⟨#[32]⟩ 0 (Lib.countB s ⟨#[32]⟩) s = key :: l) (hn : Lib.countB s ⟨#[32]⟩ + 1 = (key :: l).length) (hne : full1 (key :: l) = key :: l) (hs : s.size < 4294967281) (hlen : (key :: l).length ≤ 1000000) (hl1 : 1 ≤ l.length)
 (hlook : ∀ N : Nat, ∃ r, Instr.findNow .string (.string key) (doesE N).toList 0 = some r ∧ ansF r = .func (.func g) #[] #[.pointer (some ⟨N, 0, none⟩)])
 (eg : ∀ args W, (callFunc g args).run Tryz.prog W = .ok (.enter g args) W)
 (hdo : ∀ (W : World) (b N : Nat), Img W B1 B2 B3 B4 → W.heap[N]? = some (.cells (imgC B1 B2 B3 B4) 51 (0, 0)) → TextsAt W b (key :: l) → Calls Tryz.prog g #[.slice (some ⟨b, 1, none⟩) l.length l.length, .pointer (some ⟨N, 0, none⟩)] W fun e w' => e = .returned (.string (okT t)) ∧ Below W.heap.size W w')
 (w : World) (hI : Img w B1 B2 B3 B4) (hM : GM w) :
 Calls Tryz.prog 25 #[imgV B1 B2 B3 B4, .string s] w fun e w' => e = .returned (.string (okT t)) ∧ Below w.heap.size w w' := by
 have hui := Tryz.underlying51
 have hus := Tryz.underlying26
 obtain ⟨V, hV⟩ : ∃ V, V = w.alloc (.cells (imgC B1 B2 B3 B4) 51) := ⟨_, rfl⟩
 have hb0 : Below w.heap.size w V := by rw [hV]; exact below_alloc (Below.refl _ _) _
 have I0 : V.heap[w.heap.size]? = some (.cells (imgC B1 B2 B3 B4) 51 (0, 0)) := by rw [hV]; exact aZ rfl
 have hw9 := Aside0.mk (words_c s (key :: l) hl hn hne hs hlen V (hM.below hb0))
 have HI := Aside0.mk (hI.below hb0)
 have KI := Aside0.mk I0
 have KB := Aside0.mk hb0
 have HK := Aside0.mk hlook
 have HD := Aside0.mk hdo
 have HL := Aside0.mk hlen
 unfold imgC at hV
 have HV := Aside0.mk hV.symm
 clear hl hn hne hs hI hM hV hb0 I0 hlook hdo
 unfold imgV
 go_enter Tryz.func25, Tryz.ntmps25
 go_wp2_with (first
  | (rw [HV.out])
  | (go_at_call 58; refine hw9.out.mono ?_; rintro e w1 ⟨⟨b, rfl, hbb, ht⟩, hb⟩; have HT := Aside0.mk ht; have BV := Aside0.mk hb; replace KI := kb KI hb; replace KB : Aside0 (Below w.heap.size w w1) := ⟨KB.out.trans (hb.mono KB.out.size)⟩; clear ht hb))
 refine start_ (n := 7) (S := fun w' => w'.cell? ⟨w.heap.size, 0, none⟩ = some (.slice (some ⟨B1, 0, none⟩) 54 54) ∧ w'.cell? ⟨w.heap.size, 1, none⟩ = some (.slice (some ⟨B2, 0, none⟩) 32 32) ∧ w'.cell? ⟨w.heap.size, 2, none⟩ = some (.slice (some ⟨B3, 0, none⟩) 15 15) ∧ w'.cell? ⟨w.heap.size, 3, none⟩ = some (.slice (some ⟨B4, 0, none⟩) 7 7) ∧ w'.cell? ⟨w.heap.size, 4, none⟩ = some (.int .i64 40) ∧ w'.cell? ⟨w.heap.size, 5, none⟩ = some (.int .i64 5) ∧ w'.cell? ⟨b, 0, none⟩ = some (.string key)) (ds := []) (M 7 0) (by kernel_rfl) rfl rfl ⟨(blk_cell (w := w1.drew) KI.out 0).trans rfl, (blk_cell (w := w1.drew) KI.out 1).trans rfl, (blk_cell (w := w1.drew) KI.out 2).trans rfl, (blk_cell (w := w1.drew) KI.out 3).trans rfl, (blk_cell (w := w1.drew) KI.out 4).trans rfl, (blk_cell (w := w1.drew) KI.out 5).trans rfl, (HT.out.below (below_drew (Below.refl _ _))).cell 0 key rfl⟩ (fun hHeld => ?_)
 obtain ⟨U, hU⟩ : ∃ U, U = w1.drew := ⟨_, rfl⟩
 replace KI := dwK KI hU
 have BU : Below w1.heap.size w1 U := by rw [hU]; exact below_drew (Below.refl _ _)
 replace HT := Aside0.mk (HT.out.below BU)
 replace BV : Aside0 (Below V.heap.size V U) := ⟨BV.out.trans (BU.mono BV.out.size)⟩
 replace KB : Aside0 (Below w.heap.size w U) := ⟨KB.out.trans (BU.mono KB.out.size)⟩
 rw [← hU] at hHeld ⊢
 clear hU BU
 refine pw 2 15 (M 7 4) ?_
 refine pw 3 16 (M 7 12) ?_
 refine tw 0 13 (M 7 13) hHeld ?_
 refine tw 4 17 (M 7 29) hHeld ?_
 refine ow 1 (some 14) (M 7 31) fun K hK => ?_
 refine gow Tryz.func60 #[.agg #[.slice (some ⟨B1, 0, none⟩) 54 54, .slice (some ⟨B2, 0, none⟩) 32 32, .slice (some ⟨B3, 0, none⟩) 15 15, .slice (some ⟨B4, 0, none⟩) 7 7, .int .i64 40, .int .i64 5]] ?_
 have h8 := does_c B1 B2 B3 B4 U
 unfold imgV at h8
 refine h8.mono ?_
 rintro e w2 ⟨⟨mb, rfl, hmap⟩, hN, hb⟩
 have MP := Aside0.mk hmap
 have KN := Aside0.mk hN
 replace KI := kb KI hb
 replace HT := Aside0.mk (HT.out.below hb)
 replace BV : Aside0 (Below V.heap.size V w2) := ⟨BV.out.trans (hb.mono BV.out.size)⟩
 replace KB : Aside0 (Below w.heap.size w w2) := ⟨KB.out.trans (hb.mono KB.out.size)⟩
 clear h8 hmap hN hb
 refine ⟨_, rfl, ?_⟩
 refine hK.out _ _ ⟨(blk_cell KI.out 0).trans rfl, (blk_cell KI.out 1).trans rfl, (blk_cell KI.out 2).trans rfl, (blk_cell KI.out 3).trans rfl, (blk_cell KI.out 4).trans rfl, (blk_cell KI.out 5).trans rfl, HT.out.cell 0 key rfl⟩ (fun hHeld => ?_)
 clear hK K
 refine norm_ (a' := ?_) ?_ ?_
 rotate_left
 · show Act.put _ (some 14) _ = _
   simp only [Act.put, List.setIfInBounds_toArray, List.set_cons_zero, List.set_cons_succ, i64_w, i32_w]
   rfl
 refine ow 5 (some 18) (M 7 63) fun K hK => ?_
 obtain ⟨r, hr1, hr2⟩ := HK.out U.heap.size
 have hlk := run_lookG (E := 61) Tryz.underlying80 Tryz.underlying9 (by simp [MapKept.IsKey]) (by kernel_rfl) MP.out r hr1
 rw [hr2] at hlk
 refine value_ (w1 := w2) (v := .func (.func g) #[] #[.pointer (some ⟨U.heap.size, 0, none⟩)]) (by rfl) rfl (by go_simp) ?_
 clear hlk hr1 hr2
 refine hK.out _ _ ⟨(blk_cell KI.out 0).trans rfl, (blk_cell KI.out 1).trans rfl, (blk_cell KI.out 2).trans rfl, (blk_cell KI.out 3).trans rfl, (blk_cell KI.out 4).trans rfl, (blk_cell KI.out 5).trans rfl, HT.out.cell 0 key rfl⟩ (fun hHeld => ?_)
 clear hK K
 refine norm_ (a' := ?_) ?_ ?_
 rotate_left
 · show Act.put _ (some 18) _ = _
   simp only [Act.put, List.setIfInBounds_toArray, List.set_cons_zero, List.set_cons_succ, i64_w, i32_w]
   rfl
 refine pw 6 6 (M 7 127) ?_
 refine done_ (by kernel_rfl) ?_
 have hef : ∀ (x : Value) (W : World), (binOp BinOp.eql 61 (.func (.func g) #[] #[x]) .nilFunc).run Tryz.prog W = .ok (.bool false) W := fun x W => by kernel_rfl
 have n1 : ¬ l.length + 1 = 1 := by omega
 have n2 : (1 : Int) ≤ (l.length : Int) + 1 := by omega
 have hd9 := HD.out w2 b U.heap.size (HI.out.below BV.out) KN.out HT.out
 have H9 := Aside0.mk hd9
 clear hHeld hd9
 go_wp2
 refine H9.out.mono ?_
 rintro e w3 ⟨rfl, hb⟩
 go_wp2
 go_ret
 exact ⟨rfl, KB.out.trans (hb.mono KB.out.size)⟩
end Go.Proofs.YtpmcfckechjppaaGreatDoor.Ps
namespace Go.Proofs.YtpmcfckechjppaaGreatDoor.Ps
open Go.RowKit Go.Shelf Go.Proofs.YtpmcfckechjppaaGreatDoorW.PrintWords Go.Proofs.YtpmcfckechjppaaGreatDoorW.PrintLast Go.Proofs.YtpmcfckechjppaaGreatDoorW.PrintMore Go.Proofs.YtpmcfckechjppaaGreatDoor.P Go.Proofs.YtpmcfckechjppaaGreatDoor.LikW
set_option linter.unusedVariables false
set_option linter.unusedSimpArgs false
set_option maxRecDepth 100000
set_option maxRecDepth 100000
set_option maxHeartbeats 8000000
theorem pt_sgn_US : ParsesTo ⟨#[115, 103, 110, 45, 85, 83]⟩ ⟨#[115, 103, 110]⟩ ⟨#[]⟩ ⟨#[117, 115]⟩ := fun w hG =>
 parse_c 100 ⟨#[115, 103, 110, 45, 85, 83]⟩ (by decide) w hG 0 (by kernel_rfl) (0, ⟨#[115, 103, 110]⟩) [(4, ⟨#[117, 115]⟩)] [(4, ⟨#[117, 115]⟩)] (by kernel_rfl) ⟨#[115, 103, 110]⟩ (by kernel_rfl) (by decide) (by decide) (by kernel_rfl) (by decide) ⟨#[117, 115]⟩ (by kernel_rfl) (by kernel_rfl) ⟨#[]⟩ ⟨#[117, 115]⟩ (by kernel_rfl) (by kernel_rfl)
theorem pt_en_AU : ParsesTo ⟨#[101, 110, 45, 65, 85]⟩ ⟨#[101, 110]⟩ ⟨#[]⟩ ⟨#[97, 117]⟩ := fun w hG =>
 parse_c 100 ⟨#[101, 110, 45, 65, 85]⟩ (by decide) w hG 0 (by kernel_rfl) (0, ⟨#[101, 110]⟩) [(3, ⟨#[97, 117]⟩)] [(3, ⟨#[97, 117]⟩)] (by kernel_rfl) ⟨#[101, 110]⟩ (by kernel_rfl) (by decide) (by decide) (by kernel_rfl) (by decide) ⟨#[97, 117]⟩ (by kernel_rfl) (by kernel_rfl) ⟨#[]⟩ ⟨#[97, 117]⟩ (by kernel_rfl) (by kernel_rfl)
theorem pt_de : ParsesTo ⟨#[100, 101]⟩ ⟨#[100, 101]⟩ ⟨#[]⟩ ⟨#[]⟩ := fun w hG =>
 parse_c 100 ⟨#[100, 101]⟩ (by decide) w hG 0 (by kernel_rfl) (0, ⟨#[100, 101]⟩) [] [] (by kernel_rfl) ⟨#[100, 101]⟩ (by kernel_rfl) (by decide) (by decide) (by kernel_rfl) (by decide) ⟨#[]⟩ (by kernel_rfl) (by kernel_rfl) ⟨#[]⟩ ⟨#[]⟩ (by kernel_rfl) (by kernel_rfl)
theorem pt_en_GB : ParsesTo ⟨#[101, 110, 45, 71, 66]⟩ ⟨#[101, 110]⟩ ⟨#[]⟩ ⟨#[103, 98]⟩ := fun w hG =>
 parse_c 100 ⟨#[101, 110, 45, 71, 66]⟩ (by decide) w hG 0 (by kernel_rfl) (0, ⟨#[101, 110]⟩) [(3, ⟨#[103, 98]⟩)] [(3, ⟨#[103, 98]⟩)] (by kernel_rfl) ⟨#[101, 110]⟩ (by kernel_rfl) (by decide) (by decide) (by kernel_rfl) (by decide) ⟨#[103, 98]⟩ (by kernel_rfl) (by kernel_rfl) ⟨#[]⟩ ⟨#[103, 98]⟩ (by kernel_rfl) (by kernel_rfl)
theorem pt_en : ParsesTo ⟨#[101, 110]⟩ ⟨#[101, 110]⟩ ⟨#[]⟩ ⟨#[]⟩ := fun w hG =>
 parse_c 100 ⟨#[101, 110]⟩ (by decide) w hG 0 (by kernel_rfl) (0, ⟨#[101, 110]⟩) [] [] (by kernel_rfl) ⟨#[101, 110]⟩ (by kernel_rfl) (by decide) (by decide) (by kernel_rfl) (by decide) ⟨#[]⟩ (by kernel_rfl) (by kernel_rfl) ⟨#[]⟩ ⟨#[]⟩ (by kernel_rfl) (by kernel_rfl)
theorem pt_sr_Latn_RS : ParsesTo ⟨#[115, 114, 45, 76, 97, 116, 110, 45, 82, 83]⟩ ⟨#[115, 114]⟩ ⟨#[108, 97, 116, 110]⟩ ⟨#[114, 115]⟩ := fun w hG =>
 parse_c 100 ⟨#[115, 114, 45, 76, 97, 116, 110, 45, 82, 83]⟩ (by decide) w hG 0 (by kernel_rfl) (0, ⟨#[115, 114]⟩) [(3, ⟨#[108, 97, 116, 110]⟩), (8, ⟨#[114, 115]⟩)] [(8, ⟨#[114, 115]⟩)] (by kernel_rfl) ⟨#[115, 114]⟩ (by kernel_rfl) (by decide) (by decide) (by kernel_rfl) (by decide) ⟨#[108, 97, 116, 110]⟩ (by kernel_rfl) (by kernel_rfl) ⟨#[108, 97, 116, 110]⟩ ⟨#[114, 115]⟩ (by kernel_rfl) (by kernel_rfl)
theorem ns_ase : NoStep 100 ⟨#[97, 115, 101]⟩ ⟨#[]⟩ ⟨#[]⟩ := { len := Nat.le_of_ble_eq_true (by kernel_rfl), grand := ⟨0, by kernel_rfl⟩, whole := ⟨0, by kernel_rfl⟩, pair := by kernel_rfl, lang := by kernel_rfl, script := by kernel_rfl, region := by kernel_rfl }
theorem ns_en_AU : NoStep 100 ⟨#[101, 110]⟩ ⟨#[]⟩ ⟨#[97, 117]⟩ := { len := Nat.le_of_ble_eq_true (by kernel_rfl), grand := ⟨0, by kernel_rfl⟩, whole := ⟨0, by kernel_rfl⟩, pair := by kernel_rfl, lang := by kernel_rfl, script := by kernel_rfl, region := by kernel_rfl }
theorem ns_de : NoStep 100 ⟨#[100, 101]⟩ ⟨#[]⟩ ⟨#[]⟩ := { len := Nat.le_of_ble_eq_true (by kernel_rfl), grand := ⟨0, by kernel_rfl⟩, whole := ⟨0, by kernel_rfl⟩, pair := by kernel_rfl, lang := by kernel_rfl, script := by kernel_rfl, region := by kernel_rfl }
theorem ns_en_GB : NoStep 100 ⟨#[101, 110]⟩ ⟨#[]⟩ ⟨#[103, 98]⟩ := { len := Nat.le_of_ble_eq_true (by kernel_rfl), grand := ⟨0, by kernel_rfl⟩, whole := ⟨0, by kernel_rfl⟩, pair := by kernel_rfl, lang := by kernel_rfl, script := by kernel_rfl, region := by kernel_rfl }
theorem ns_en : NoStep 100 ⟨#[101, 110]⟩ ⟨#[]⟩ ⟨#[]⟩ := { len := Nat.le_of_ble_eq_true (by kernel_rfl), grand := ⟨0, by kernel_rfl⟩, whole := ⟨0, by kernel_rfl⟩, pair := by kernel_rfl, lang := by kernel_rfl, script := by kernel_rfl, region := by kernel_rfl }
theorem ns_sr_Latn_RS : NoStep 100 ⟨#[115, 114]⟩ ⟨#[108, 97, 116, 110]⟩ ⟨#[114, 115]⟩ := { len := Nat.le_of_ble_eq_true (by kernel_rfl), grand := ⟨0, by kernel_rfl⟩, whole := ⟨0, by kernel_rfl⟩, pair := by kernel_rfl, lang := by kernel_rfl, script := by kernel_rfl, region := by kernel_rfl }
theorem sh_ase : ShownAs ⟨#[97, 115, 101]⟩ ⟨#[]⟩ ⟨#[]⟩ ⟨#[97, 115, 101]⟩ := fun w => string_c ⟨#[97, 115, 101]⟩ ⟨#[]⟩ ⟨#[]⟩ (Nat.le_of_ble_eq_true (by kernel_rfl)) (Nat.le_of_ble_eq_true (by kernel_rfl)) false [⟨#[97, 115, 101]⟩] (by kernel_rfl) (by kernel_rfl) (Nat.le_of_ble_eq_true (by kernel_rfl)) w
theorem sh_sr_Latn : ShownAs ⟨#[115, 114]⟩ ⟨#[108, 97, 116, 110]⟩ ⟨#[]⟩ ⟨#[115, 114, 45, 76, 97, 116, 110]⟩ := fun w => string_c ⟨#[115, 114]⟩ ⟨#[108, 97, 116, 110]⟩ ⟨#[]⟩ (Nat.le_of_ble_eq_true (by kernel_rfl)) (Nat.le_of_ble_eq_true (by kernel_rfl)) false [⟨#[115, 114]⟩, ⟨#[76, 97, 116, 110]⟩] (by kernel_rfl) (by kernel_rfl) (Nat.le_of_ble_eq_true (by kernel_rfl)) w
theorem ds_1 : dstP (⟨#[101, 110]⟩, ⟨#[]⟩, ⟨#[97, 117]⟩) (⟨#[100, 101]⟩, ⟨#[]⟩, ⟨#[]⟩) = 84 := by kernel_rfl
theorem ds_2 : dstP (⟨#[101, 110]⟩, ⟨#[]⟩, ⟨#[97, 117]⟩) (⟨#[101, 110]⟩, ⟨#[]⟩, ⟨#[103, 98]⟩) = 3 := by kernel_rfl
theorem ds_3 : dstP (⟨#[101, 110]⟩, ⟨#[]⟩, ⟨#[97, 117]⟩) (⟨#[101, 110]⟩, ⟨#[]⟩, ⟨#[]⟩) = 4 := by kernel_rfl
theorem mx_sr : maxP dRows (⟨#[115, 114]⟩, ⟨#[108, 97, 116, 110]⟩, ⟨#[114, 115]⟩) = ((⟨#[115, 114]⟩, ⟨#[108, 97, 116, 110]⟩, ⟨#[114, 115]⟩), true) := by kernel_rfl
theorem tr_sr : (trialsL ⟨#[115, 114]⟩ ⟨#[108, 97, 116, 110]⟩ ⟨#[114, 115]⟩).find? (sayB (⟨#[115, 114]⟩, ⟨#[108, 97, 116, 110]⟩, ⟨#[114, 115]⟩)) = some (⟨#[115, 114]⟩, ⟨#[108, 97, 116, 110]⟩, ⟨#[]⟩) := by kernel_rfl
theorem al_20 : ∃ r, dAliases[20]? = some r ∧ r.f3 = ⟨#[97, 115, 101]⟩ := ⟨_, rfl, by kernel_rfl⟩
end Go.Proofs.YtpmcfckechjppaaGreatDoor.Ps
namespace Go.Proofs.YtpmcfckechjppaaGreatDoor.Ps
open Go.RowKit Go.Shelf Go.Proofs.YtpmcfckechjppaaGreatDoorW.PrintWords Go.Proofs.YtpmcfckechjppaaGreatDoorW.PrintLast Go.Proofs.YtpmcfckechjppaaGreatDoorW.PrintMore Go.Proofs.YtpmcfckechjppaaGreatDoor.P Go.Proofs.YtpmcfckechjppaaGreatDoor.LikW
set_option linter.unusedVariables false
set_option linter.unusedSimpArgs false
set_option maxRecDepth 100000
set_option maxHeartbeats 8000000
theorem can_sgn (B1 B2 B3 B4 : Nat) : CanonTo B1 B2 B3 B4 ⟨#[115, 103, 110]⟩ ⟨#[]⟩ ⟨#[117, 115]⟩ ⟨#[97, 115, 101]⟩ ⟨#[]⟩ ⟨#[]⟩ := fun w hI => by
 obtain ⟨r, hr, h3⟩ := al_20
 have h := canonical_one 100 B1 B2 B3 B4 ⟨#[115, 103, 110]⟩ ⟨#[]⟩ ⟨#[117, 115]⟩ 0 0 (Nat.le_of_ble_eq_true (by kernel_rfl)) (by kernel_rfl) (by kernel_rfl) 20 r hr (by kernel_rfl) (by rw [h3]; exact ns_ase) w hI.g hI.c1
 rw [h3] at h
 exact h
theorem can_sr (B1 B2 B3 B4 : Nat) : CanonTo B1 B2 B3 B4 ⟨#[115, 114]⟩ ⟨#[108, 97, 116, 110]⟩ ⟨#[114, 115]⟩ ⟨#[115, 114]⟩ ⟨#[108, 97, 116, 110]⟩ ⟨#[114, 115]⟩ := fun w hI => canonical_none 100 B1 B2 B3 B4 _ _ _ ns_sr_Latn_RS w hI.g hI.c1
theorem req_canon (B1 B2 B3 B4 : Nat) (w : World) (hI : Img w B1 B2 B3 B4) (hM : GM w) : Calls Tryz.prog 25 #[imgV B1 B2 B3 B4, .string ⟨#[99, 97, 110, 111, 110, 32, 115, 103, 110, 45, 85, 83]⟩] w fun e w' => e = .returned (.string ⟨#[111, 107, 32, 97, 115, 101]⟩) ∧ Below w.heap.size w w' :=
 do_c B1 B2 B3 B4 ⟨#[99, 97, 110, 111, 110, 32, 115, 103, 110, 45, 85, 83]⟩ ⟨#[99, 97, 110, 111, 110]⟩ [⟨#[115, 103, 110, 45, 85, 83]⟩] 95 ⟨#[97, 115, 101]⟩ (by kernel_rfl) (by kernel_rfl) (by kernel_rfl) (by decide) (by decide) (by decide) (fun N => ⟨_, rfl, rfl⟩) (enters_of Tryz.func95 (by kernel_rfl) rfl)
  (fun W b N hI hN hT => docanon_c B1 B2 B3 B4 N b 1 1 _ _ _ _ _ _ _ _ pt_sgn_US sh_ase (by decide) (can_sgn B1 B2 B3 B4) W hI hN (hT.cell 1 _ rfl)) w hI hM
theorem req_match (B1 B2 B3 B4 : Nat) (w : World) (hI : Img w B1 B2 B3 B4) (hM : GM w) : Calls Tryz.prog 25 #[imgV B1 B2 B3 B4, .string ⟨#[109, 97, 116, 99, 104, 32, 101, 110, 45, 65, 85, 32, 59, 32, 100, 101, 32, 101, 110, 45, 71, 66, 32, 101, 110]⟩] w fun e w' => e = .returned (.string ⟨#[111, 107, 32, 101, 110, 45, 71, 66]⟩) ∧ Below w.heap.size w w' :=
 do_c B1 B2 B3 B4 ⟨#[109, 97, 116, 99, 104, 32, 101, 110, 45, 65, 85, 32, 59, 32, 100, 101, 32, 101, 110, 45, 71, 66, 32, 101, 110]⟩ ⟨#[109, 97, 116, 99, 104]⟩ [⟨#[101, 110, 45, 65, 85]⟩, ⟨#[59]⟩, ⟨#[100, 101]⟩, ⟨#[101, 110, 45, 71, 66]⟩, ⟨#[101, 110]⟩] 112 ⟨#[101, 110, 45, 71, 66]⟩ (by kernel_rfl) (by kernel_rfl) (by kernel_rfl) (by decide) (by decide) (by decide) (fun N => ⟨_, rfl, rfl⟩) (enters_of Tryz.func112 (by kernel_rfl) rfl)
  (fun W b N hI hN hT => domatch_c 100 B1 B2 B3 B4 N b 5 (Nat.le_refl _) _ _ _ _ (⟨#[101, 110]⟩, ⟨#[]⟩, ⟨#[97, 117]⟩) (⟨#[100, 101]⟩, ⟨#[]⟩, ⟨#[]⟩) (⟨#[101, 110]⟩, ⟨#[]⟩, ⟨#[103, 98]⟩) (⟨#[101, 110]⟩, ⟨#[]⟩, ⟨#[]⟩) (by kernel_rfl) ns_en_AU (fun t ht => by
   simp only [List.mem_cons, List.not_mem_nil, or_false] at ht
   rcases ht with rfl | rfl | rfl
   · exact ns_de
   · exact ns_en_GB
   · exact ns_en) ds_1 ds_2 ds_3 pt_en_AU pt_de pt_en_GB pt_en (by decide) W hI hN (fun j t hj => hT.cell (1 + j) t (by rw [Nat.add_comm]; exact hj))) w hI hM
theorem req_min (B1 B2 B3 B4 : Nat) (w : World) (hI : Img w B1 B2 B3 B4) (hM : GM w) : Calls Tryz.prog 25 #[imgV B1 B2 B3 B4, .string ⟨#[109, 105, 110, 32, 115, 114, 45, 76, 97, 116, 110, 45, 82, 83]⟩] w fun e w' => e = .returned (.string ⟨#[111, 107, 32, 115, 114, 45, 76, 97, 116, 110]⟩) ∧ Below w.heap.size w w' :=
 do_c B1 B2 B3 B4 ⟨#[109, 105, 110, 32, 115, 114, 45, 76, 97, 116, 110, 45, 82, 83]⟩ ⟨#[109, 105, 110]⟩ [⟨#[115, 114, 45, 76, 97, 116, 110, 45, 82, 83]⟩] 101 ⟨#[115, 114, 45, 76, 97, 116, 110]⟩ (by kernel_rfl) (by kernel_rfl) (by kernel_rfl) (by decide) (by decide) (by decide) (fun N => ⟨_, rfl, rfl⟩) (enters_of Tryz.func101 (by kernel_rfl) rfl)
  (fun W b N hI hN hT => domin_c B1 B2 B3 B4 N b 1 1 _ _ _ _ _ _ _ _ pt_sr_Latn_RS (can_sr B1 B2 B3 B4) _ mx_sr _ tr_sr sh_sr_Latn (by decide) W hI hN (hT.cell 1 _ rfl)) w hI hM
theorem awake_c (w : World) (hG : GrandW.G w) (hM : GM w) : Calls Tryz.prog 6 #[] w fun e w' => e = .returned (.bool true) ∧ Below w.heap.size w w' := by
 have hui := Tryz.underlying51
 have q0 : ∀ W : World, (binOp BinOp.eql 9 (.string ⟨#[111, 107, 32, 97, 115, 101]⟩) (.string ⟨#[111, 107, 32, 97, 115, 101]⟩)).run Tryz.prog W = .ok (.bool true) W := fun W => by kernel_rfl
 have q1 : ∀ W : World, (binOp BinOp.eql 9 (.string ⟨#[111, 107, 32, 101, 110, 45, 71, 66]⟩) (.string ⟨#[111, 107, 32, 101, 110, 45, 71, 66]⟩)).run Tryz.prog W = .ok (.bool true) W := fun W => by kernel_rfl
 have q2 : ∀ W : World, (binOp BinOp.eql 9 (.string ⟨#[111, 107, 32, 115, 114, 45, 76, 97, 116, 110]⟩) (.string ⟨#[111, 107, 32, 115, 114, 45, 76, 97, 116, 110]⟩)).run Tryz.prog W = .ok (.bool true) W := fun W => by kernel_rfl
 have HG := Aside0.mk hG
 have HM := Aside0.mk hM
 clear hG hM
 go_enter Tryz.func6, Tryz.ntmps6
 go_wp2_with (first
  | (go_at_call 24; refine (image_calls w).mono ?_; rintro e w1 ⟨⟨B1, B2, B3, B4, rfl, c1, c2, c3, c4⟩, hb⟩; obtain ⟨V, hV⟩ : ∃ V, V = w1.alloc (.cells (imgC B1 B2 B3 B4) 51) := ⟨_, rfl⟩; have hb0 : Below w1.heap.size w1 V := by { rw [hV]; exact below_alloc (Below.refl _ _) _ }; have I0 : V.heap[w1.heap.size]? = some (.cells (imgC B1 B2 B3 B4) 51 (0, 0)) := by { rw [hV]; exact aZ rfl }; have hI : Img w1 B1 B2 B3 B4 := ⟨HG.out.below hb, c1, c2, c3, c4⟩; have HI := Aside0.mk (hI.below hb0); have HMV := Aside0.mk ((HM.out.below hb).below hb0); have KI := Aside0.mk I0; have KB : Aside0 (Below w.heap.size w V) := ⟨hb.trans (hb0.mono hb.size)⟩; obtain ⟨i0, i1, i2, i3, i4, i5⟩ := cz6 (show V.heap[w1.heap.size]? = some (.cells #[.slice (some ⟨B1, 0, none⟩) 54 54, .slice (some ⟨B2, 0, none⟩) 32 32, .slice (some ⟨B3, 0, none⟩) 15 15, .slice (some ⟨B4, 0, none⟩) 7 7, .int .i64 40, .int .i64 5] 51 (0, 0)) from I0); unfold imgC at hV; have HV := Aside0.mk hV.symm; clear hb hb0 I0 hI hV c1 c2 c3 c4; unfold imgV)
  | (rw [HV.out])
  | (go_at_call 25; have h9 := req_canon B1 B2 B3 B4 V HI.out HMV.out; unfold imgV at h9; (with_reducible refine h9.mono ?_); rintro e w2 ⟨rfl, hb⟩; have HI2 := Aside0.mk (HI.out.below hb); have HM2 := Aside0.mk (HMV.out.below hb); have K2 := kb KI hb; have B2' := Aside0.mk (KB.out.trans (hb.mono KB.out.size)); clear h9 hb i0 i1 i2 i3 i4 i5; obtain ⟨i0, i1, i2, i3, i4, i5⟩ := cz6 (show w2.heap[w1.heap.size]? = some (.cells #[.slice (some ⟨B1, 0, none⟩) 54 54, .slice (some ⟨B2, 0, none⟩) 32 32, .slice (some ⟨B3, 0, none⟩) 15 15, .slice (some ⟨B4, 0, none⟩) 7 7, .int .i64 40, .int .i64 5] 51 (0, 0)) from K2.out))
  | (go_at_call 25; have h9 := req_match B1 B2 B3 B4 w2 HI2.out HM2.out; unfold imgV at h9; (with_reducible refine h9.mono ?_); rintro e w3 ⟨rfl, hb⟩; have HI3 := Aside0.mk (HI2.out.below hb); have HM3 := Aside0.mk (HM2.out.below hb); have K3' := kb K2 hb; have B3' := Aside0.mk (B2'.out.trans (hb.mono B2'.out.size)); clear h9 hb i0 i1 i2 i3 i4 i5; obtain ⟨i0, i1, i2, i3, i4, i5⟩ := cz6 (show w3.heap[w1.heap.size]? = some (.cells #[.slice (some ⟨B1, 0, none⟩) 54 54, .slice (some ⟨B2, 0, none⟩) 32 32, .slice (some ⟨B3, 0, none⟩) 15 15, .slice (some ⟨B4, 0, none⟩) 7 7, .int .i64 40, .int .i64 5] 51 (0, 0)) from K3'.out))
  | (go_at_call 25; have h9 := req_min B1 B2 B3 B4 w3 HI3.out HM3.out; unfold imgV at h9; (with_reducible refine h9.mono ?_); rintro e w4 ⟨rfl, hb⟩; have B4' := Aside0.mk (B3'.out.trans (hb.mono B3'.out.size)); clear h9 hb))
 go_ret
 exact ⟨rfl, B4'.out⟩
end Go.Proofs.YtpmcfckechjppaaGreatDoor.Ps
namespace Go.Proofs.YtpmcfckechjppaaGreatDoor.Ps
open Go.RowKit Go.Shelf Go.Proofs.YtpmcfckechjppaaGreatDoorW.PrintWords Go.Proofs.YtpmcfckechjppaaGreatDoorW.PrintLast Go.Proofs.YtpmcfckechjppaaGreatDoorW.PrintMore Go.Proofs.YtpmcfckechjppaaGreatDoor.P Go.Proofs.YtpmcfckechjppaaGreatDoor.LikW
open Go.Proofs.YtpmcfckechjppaaGreatDoor.Each Go.Proofs.YtpmcfckechjppaaGreatDoor.Base Go.Proofs.YtpmcfckechjppaaGreatDoor.Pure
attribute [local go_sem] Oper.semAt_some
set_option linter.unusedVariables false
set_option linter.unusedSimpArgs false
set_option maxRecDepth 100000
set_option maxHeartbeats 8000000
theorem few_c (l : List ByteArray) (most : Nat) (hm : most ≤ 100) (A : Option Addr) (c : Nat) (w : World) (hC : Kd.C Kd.string w A l.length l) (hc : l.length ≤ c) :
 Calls Tryz.prog 15 #[.slice A l.length c, .int .i64 (most : Int)] w fun e w' => ∃ (A' : Option Addr) (c' : Nat), e = .returned (.slice A' ((l.take most).map cut40).length c') ∧ Kd.C Kd.string w' A' ((l.take most).map cut40).length ((l.take most).map cut40) ∧ ((l.take most).map cut40).length ≤ c' ∧ Below w.heap.size w w' := by
 obtain ⟨k, hk⟩ := rFew_ev l most hm
 refine (isoglossref20_Few.calls k A c l (most : Int) _ w hC hc (hk k (Nat.le_refl _))).mono ?_
 rintro e w' ⟨v, rfl, ho, hb⟩
 obtain ⟨A', c', rfl, hc, h⟩ := Kd.R_reads ho
 exact ⟨A', c', rfl, h, hc, hb⟩
theorem rbasic_c (s : ByteArray) (hs : s.size ≤ 900000) (w : World) : Calls Tryz.prog 16 #[.string s] w fun e w' => e = .returned (.bool (basicB s)) ∧ Below w.heap.size w w' := by
 obtain ⟨k, hk⟩ := rBasic_ev s hs
 exact isoglossref20_Basic.calls k s _ w (hk k (Nat.le_refl _))
theorem rtrim_c (s : ByteArray) (hs : s.size ≤ 900000) (w : World) : Calls Tryz.prog 17 #[.string s] w fun e w' => e = .returned (.string (trimP s)) ∧ Below w.heap.size w w' := by
 obtain ⟨k, hk⟩ := rTrim_ev s hs
 exact isoglossref04_Trim.calls k s _ w (hk k (Nat.le_refl _))
theorem rcompare_c (s t : ByteArray) (hs : s.size ≤ 900000) (ht : t.size ≤ 900000) (w : World) : Calls Tryz.prog 18 #[.string s, .string t] w fun e w' => e = .returned (.int .i64 (cmpL (lowL s) (lowL t))) ∧ Below w.heap.size w w' := by
 obtain ⟨k, hk⟩ := rCompare_ev s t (by omega) (by omega)
 exact isoglossref02_Compare.calls k s t _ w (hk k (Nat.le_refl _))
theorem rfilter_c (ranges tags : List ByteArray) (x : Bool) (A B : Option Addr) (cA cB : Nat) (w : World) (hl : tags.length ≤ 1000000) (hl2 : ranges.length ≤ 1000000) (h1 : ∀ t ∈ tags, t.size ≤ 900000) (h2 : ∀ t ∈ ranges, t.size ≤ 900000) (hA : Kd.C Kd.string w A tags.length tags) (hB : Kd.C Kd.string w B ranges.length ranges) (hcA : tags.length ≤ cA) (hcB : ranges.length ≤ cB) :
 Calls Tryz.prog 21 #[.slice B ranges.length cB, .slice A tags.length cA, .bool x] w fun e w' => ∃ (A' : Option Addr) (c' : Nat), e = .returned (.slice A' (thr (matE x) ranges tags).length c') ∧ Kd.C Kd.string w' A' (thr (matE x) ranges tags).length (thr (matE x) ranges tags) ∧ (thr (matE x) ranges tags).length ≤ c' ∧ Below w.heap.size w w' := by
 obtain ⟨k, hk⟩ := rFilter_ev ranges tags x hl hl2 h1 h2
 refine (isoglossref20_Filter.calls k B cB ranges A cA tags x _ w hB hcB hA hcA (hk k (Nat.le_refl _))).mono ?_
 rintro e w' ⟨v, rfl, ho, hb⟩
 obtain ⟨A', c', rfl, hc, h⟩ := Kd.R_reads ho
 exact ⟨A', c', rfl, h, hc, hb⟩
theorem rsame_c (a b : List ByteArray) (A B : Option Addr) (cA cB : Nat) (w : World) (hl : a.length ≤ 1000000) (hA : Kd.C Kd.string w A a.length a) (hB : Kd.C Kd.string w B b.length b) (hcA : a.length ≤ cA) (hcB : b.length ≤ cB) :
 Calls Tryz.prog 19 #[.slice A a.length cA, .slice B b.length cB] w fun e w' => e = .returned (.bool (decide (a = b))) ∧ Below w.heap.size w w' := by
 obtain ⟨k, hk⟩ := rSame_ev a b hl
 refine (isoglossref04_Same.calls k A cA a B cB b _ w hA hcA hB hcB (hk k (Nat.le_refl _))).mono ?_
 rintro e w' ⟨he, h⟩
 exact ⟨he.trans (by congr), by first | exact h | exact h.below⟩
theorem find_snoc {α : Type} (p : α → Bool) (l : List α) (i : Nat) (x : α) (h : l[i]? = some x) (hn : (l.take i).findIdx? p = none) : (p x = false → (l.take (i + 1)).findIdx? p = none) ∧ (p x = true → l.findIdx? p = some i) := by
 have hi : i < l.length := (List.getElem?_eq_some_iff.1 h).1
 have hlen : (l.take i).length = i := by rw [List.length_take]; omega
 have e : (l.take (i + 1)).findIdx? p = if p x = true then some i else none := by
  rw [List.take_add_one, h, Option.toList_some, List.findIdx?_append, hn, hlen]
  cases hp : p x <;> simp [hp]
 refine ⟨fun hp => by rw [e, hp]; rfl, fun hp => ?_⟩
 have e2 : l = l.take (i + 1) ++ l.drop (i + 1) := (List.take_append_drop _ _).symm
 rw [e2, List.findIdx?_append, e, hp]
 rfl
def wantsT (t : List ByteArray) (o full : Option Int) (W : ByteArray) : Prop := (W = bang ∧ o = none) ∨ (W ≠ bang ∧ ∃ k, full = some k ∧ W = rdOf ByteArray.empty t k)
theorem bang_list : bang.toList = [33] := by rw [ByteArray.toList_eq]; rfl
theorem bang_eq (W : ByteArray) : (W.toList == ([33] : List UInt8)) = decide (W = bang) := by
 rw [Bool.eq_iff_iff, beq_iff_eq, decide_eq_true_iff]
 constructor
 · intro h
   exact Base.toList_inj.1 (h.trans bang_list.symm)
 · intro h; rw [h]; exact bang_list
theorem topLookup_c (ranges tags : List ByteArray) (A B : Option Addr) (cA cB : Nat) (w : World) (hG : GrandW.G w) (hM : GM w) (hA : Kd.C Kd.string w A ranges.length ranges) (hcA : ranges.length ≤ cA) (hB : Kd.C Kd.string w B tags.length tags) (hcB : tags.length ≤ cB) :
 Calls Tryz.prog 5 #[.slice A ranges.length cA, .slice B tags.length cB] w fun e w' => e = .returned (.bool true) ∧ Below w.heap.size w w' := by
 have haw := awake_c w hG hM
 obtain ⟨r, hr⟩ : ∃ r, r = (ranges.take 4).map cut40 := ⟨_, rfl⟩
 obtain ⟨t, ht⟩ : ∃ t, t = (tags.take 6).map cut40 := ⟨_, rfl⟩
 have hrl : r.length ≤ 4 := by rw [hr, List.length_map, List.length_take]; omega
 have htl : t.length ≤ 6 := by rw [ht, List.length_map, List.length_take]; omega
 have hrs : ∀ x ∈ r, x.size ≤ 40 := fun x hx => by rw [hr] at hx; obtain ⟨y, _, rfl⟩ := List.mem_map.1 hx; exact cut40_size y
 have hts : ∀ x ∈ t, x.size ≤ 40 := fun x hx => by rw [ht] at hx; obtain ⟨y, _, rfl⟩ := List.mem_map.1 hx; exact cut40_size y
 have hf1 := fun W (hC : Kd.C Kd.string W A ranges.length ranges) => few_c ranges 4 (by omega) A cA W hC hcA
 have hf2 := fun W (hC : Kd.C Kd.string W B tags.length tags) => few_c tags 6 (by omega) B cB W hC hcB
 rw [← hr, show (((4 : Nat) : Int)) = 4 from rfl] at hf1
 rw [← ht, show (((6 : Nat) : Int)) = 6 from rfl] at hf2
 have HA := Aside0.mk hA
 have HB := Aside0.mk hB
 have HRS := Aside0.mk hrs
 have HTS := Aside0.mk hts
 have HRL := Aside0.mk hrl
 have HTL := Aside0.mk htl
 clear hr ht hG hM hA hB hcA hcB hrs hts hrl htl
 go_enter Tryz.func5, Tryz.ntmps5
 go_wp2_with (first
  | (with_reducible refine haw.mono ?_; rintro e w1 ⟨rfl, hb1⟩; have HB1 := Aside0.mk hb1; clear hb1)
  | (with_reducible refine (hf1 _ (Kd.C_below HA.out HB1.out)).mono ?_; rintro e w2 ⟨Ar, cr, rfl, hCr, hcr, hb2⟩; have HCR := Aside0.mk hcr; have HC := Aside0.mk hCr; have HB2 := Aside0.mk (HB1.out.trans (hb2.mono HB1.out.size)); clear hCr hb2 hcr)
  | (with_reducible refine (hf2 _ (Kd.C_below HB.out HB2.out)).mono ?_; rintro e w3 ⟨At, ct, rfl, hCt, hct, hb3⟩; have HCT := Aside0.mk hct; have HD := Aside0.mk hCt; have HC3 := Aside0.mk (Kd.C_below HC.out hb3); have HB3 := Aside0.mk (HB2.out.trans (hb3.mono HB2.out.size)); clear hCt hb3 hct))
 obtain ⟨wb, hwb⟩ : ∃ wb, wb = w3 := ⟨_, rfl⟩
 rw [← hwb] at HD HC3 HB3
 have HZ : Aside0 (Below wb.heap.size wb w3) := ⟨by rw [hwb]; exact Below.refl _ _⟩
 obtain ⟨ps, hps⟩ : ∃ ps, ps = placesT t := ⟨_, rfl⟩
 have HPS := Aside0.mk hps
 clear hwb hps HA HB HB1 HB2 HC haw hf1 hf2
 have hb33 : bang.toList = [33] := bang_list
 go_loopw [8, 9] (fun vw vi wr => ∃ (i : Nat) (W : ByteArray), vw = .string W ∧ vi = .int .i64 (i : Int) ∧ i ≤ r.length ∧ Aside0 (wantsT t ((r.take i).findSome? (hitR ps)) (r.findSome? (hitR ps)) W) ∧ Aside0 (Below wb.heap.size wb wr)) (fun _ vi _ => r.length - (intOf vi).toNat)
 case atStart => exact ⟨0, bang, rfl, rfl, Nat.zero_le _, ⟨.inl ⟨rfl, rfl⟩⟩, HZ⟩
 case round =>
  clear HZ
  obtain ⟨i, W, rfl, rfl, hi, HW, HB⟩ := hrel
  have hbq := bang_eq W
  by_cases hlt : i < r.length
  · have d1 : decide ((i : Int) < (r.length : Int)) = true := decide_eq_true (by omega)
    by_cases hWb : W = bang
    · subst hWb
      rw [decide_eq_true rfl] at hbq
      obtain ⟨ad, e, x0⟩ := Kd.at_string HC3.out (i : Int) (by omega) (by omega)
      cases e
      have x1 := (HB.out.cell (World.block_lt_of_cell? wb _ x0)).trans x0
      obtain ⟨s, hs⟩ : ∃ s, s = rdOf ByteArray.empty r (i : Int) := ⟨_, rfl⟩
      rw [← hs] at x0 x1
      simp only [Int.toNat_natCast] at x0 x1
      have hs2 : r[i]? = some s := by rw [hs]; simp [rdOf, List.getD_eq_getElem?_getD, List.getElem?_eq_getElem hlt]
      have hss := HRS.out s (List.mem_of_getElem? hs2)
      have hn0 : (r.take i).findSome? (hitR ps) = none := by
       rcases HW.out with ⟨_, h⟩ | ⟨h, _⟩
       · exact h
       · exact absurd rfl h
      have HSN := Aside0.mk (some_snoc (hitR ps) r i s hs2 hn0)
      have hfull : ∀ k, hitR ps s = some k → r.findSome? (hitR ps) = some k := fun k hk => by
       have e : r = r.take (i + 1) ++ r.drop (i + 1) := (List.take_append_drop _ _).symm
       rw [e, List.findSome?_append, HSN.out, hk]
       rfl
      have HFULL := Aside0.mk hfull
      clear hs hs2 hn0 hfull
      have m0 : (0 : Int) ≤ (i : Int) := by omega
      have m1 : (i : Int) < (r.length : Int) := by omega
      have wi : wrap64 ((i : Int) + 1) = ((i + 1 : Nat) : Int) := by unfold wrap64; have := HRL.out; omega
      cases hbs : basicB s with
      | false =>
       have hh : hitR ps s = none := by unfold hitR; rw [hbs]; simp
       rw [hh] at HSN
       have HBS := Aside0.mk hbs
       clear hh hbs HFULL
       go_wp2_with (first
        | (with_reducible refine (rbasic_c s (by omega) _).mono ?_; rintro e w4 ⟨rfl, hb⟩; rw [HBS.out]; replace HB := Aside0.mk (HB.out.trans (hb.mono HB.out.size)); clear hb x1))
       go_roundw
       case rel => exact ⟨i + 1, bang, rfl, by rw [wi], by omega, ⟨.inl ⟨rfl, HSN.out⟩⟩, HB⟩
       case measure => rw [wi]; simp [intOf]; omega
      | true =>
       have HBS := Aside0.mk hbs
       cases has : (s.toList == ([42] : List UInt8)) with
       | true =>
        have hh : hitR ps s = none := by unfold hitR anyB; rw [has]; rfl
        rw [hh] at HSN
        clear hh hbs HFULL
        go_wp2_with (first
         | (with_reducible refine (rbasic_c s (by omega) _).mono ?_; rintro e w4 ⟨rfl, hb⟩; rw [HBS.out]; have x2 := (hb.cell (World.block_lt_of_cell? _ _ x1)).trans x1; replace HB := Aside0.mk (HB.out.trans (hb.mono HB.out.size)); clear hb x1))
        go_roundw
        case rel => exact ⟨i + 1, bang, rfl, by rw [wi], by omega, ⟨.inl ⟨rfl, HSN.out⟩⟩, HB⟩
        case measure => rw [wi]; simp [intOf]; omega
       | false =>
        have hh : hitR ps s = hitS ps s := by unfold hitR anyB; rw [has, hbs]; rfl
        rw [hh] at HSN HFULL
        have HNB := Aside0.mk (fun (u x : ByteArray) hx hu => not_bang s u x hbs has hx hu)
        clear hh hbs
        go_wp2_with (first
         | (with_reducible refine (rbasic_c s (by omega) _).mono ?_; rintro e w4 ⟨rfl, hb⟩; rw [HBS.out]; have x2 := (hb.cell (World.block_lt_of_cell? _ _ x1)).trans x1; replace HB := Aside0.mk (HB.out.trans (hb.mono HB.out.size)); clear hb x1))
        clear x2 has hbq
        go_loopw [8, 11] (fun vw vs wr' => ∃ (f : Nat) (x W : ByteArray) (pre : List ByteArray), vw = .string W ∧ vs = .string x ∧ x.size ≤ 40 ∧ x.size < f ∧ Aside0 (pre ++ seqF f x = seqP s) ∧ Aside0 (wantsT t (pre.findSome? (fun y => findT (lowS y) ps)) (hitS ps s) W) ∧ Aside0 (Below wb.heap.size wb wr')) (fun _ vs _ => (txtOf vs).size)
        case atStart => exact ⟨s.size + 1, s, bang, [], rfl, rfl, hss, by omega, ⟨rfl⟩, ⟨.inl ⟨rfl, rfl⟩⟩, HB⟩
        case round =>
         clear HB
         obtain ⟨f, x, W, pre, rfl, rfl, hx, hf, HE, HW2, HB⟩ := hrel
         have hbq := bang_eq W
         by_cases hz : x.size = 0
         · have d0 : x.toList.isEmpty = true := by rw [empty_is, decide_eq_true hz]
           have he := HE.out
           have hsf : seqF f x = [] := by
            cases f with
            | zero => rfl
            | succ f => unfold seqF; rw [if_pos hz]
           rw [hsf, List.append_nil] at he
           have hw : wantsT t ((r.take (i + 1)).findSome? (hitR ps)) (r.findSome? (hitR ps)) W := by
            rcases HW2.out with ⟨h1, h2⟩ | ⟨h1, k, h2, h3⟩
            · rw [he] at h2
              exact .inl ⟨h1, by rw [HSN.out]; exact h2⟩
            · exact .inr ⟨h1, k, HFULL.out k h2, h3⟩
           have HW3 := Aside0.mk hw
           clear he hsf hw hbq
           go_wp2
           go_roundw
           case rel => exact ⟨i + 1, W, rfl, by rw [wi], by omega, HW3, HB⟩
           case measure => rw [wi]; simp [intOf]; omega
         · have d0 : x.toList.isEmpty = false := by rw [empty_is, decide_eq_false hz]
           by_cases hWb : W = bang
           · subst hWb
             rw [decide_eq_true rfl] at hbq
             obtain ⟨f, rfl⟩ : ∃ f', f = f' + 1 := ⟨f - 1, by omega⟩
             have he := HE.out
             unfold seqF at he
             rw [if_neg hz] at he
             have hmem : x ∈ seqP s := by rw [← he]; simp
             have hpn : pre.findSome? (fun y => findT (lowS y) ps) = none := by
              rcases HW2.out with ⟨_, h⟩ | ⟨h, _⟩
              · exact h
              · exact absurd rfl h
             have hft : findT (lowS x) ps = (t.findIdx? fun u => decide (lowL u = lowL x)).map Int.ofNat := by rw [HPS.out]; exact find_low x t
             have hnb := fun u hu => HNB.out u x hmem hu
             have hlt2 := trimP_size x hz
             have HE2 : Aside0 ((pre ++ [x]) ++ seqF f (trimP x) = seqP s) := ⟨by rw [← he]; simp⟩
             have HPN := Aside0.mk hpn
             have HFT := Aside0.mk hft
             have HNX := Aside0.mk hnb
             clear he hmem hpn hft hnb HW2 HE
             go_wp2
             go_loopw [8, 12] (fun vw vk wr' => ∃ (k : Nat) (W : ByteArray), vw = .string W ∧ vk = .int .i64 (k : Int) ∧ k ≤ t.length ∧ Aside0 (wantsT t (((t.take k).findIdx? fun u => decide (lowL u = lowL x)).map Int.ofNat) (findT (lowS x) ps) W) ∧ Aside0 (Below wb.heap.size wb wr')) (fun _ vk _ => t.length - (intOf vk).toNat)
             case atStart => exact ⟨0, bang, rfl, rfl, Nat.zero_le _, ⟨.inl ⟨rfl, rfl⟩⟩, HB⟩
             case round =>
              clear HB hbq
              obtain ⟨k, W, rfl, rfl, hk, HW2, HB⟩ := hrel
              have hbq := bang_eq W
              have hin : ∀ j, findT (lowS x) ps = some j → hitS ps s = some j := fun j hj => by
               unfold hitS
               rw [← HE2.out, List.findSome?_append, List.findSome?_append, HPN.out]
               simp [hj]
              by_cases hltk : k < t.length
              · have dk : decide ((k : Int) < (t.length : Int)) = true := decide_eq_true (by omega)
                by_cases hWb : W = bang
                · subst hWb
                  rw [decide_eq_true rfl] at hbq
                  obtain ⟨ad2, e, x0⟩ := Kd.at_string HD.out (k : Int) (by omega) (by omega)
                  cases e
                  have x1 := (HB.out.cell (World.block_lt_of_cell? wb _ x0)).trans x0
                  obtain ⟨u, hu⟩ : ∃ u, u = rdOf ByteArray.empty t (k : Int) := ⟨_, rfl⟩
                  rw [← hu] at x0 x1
                  simp only [Int.toNat_natCast] at x0 x1
                  have hu2 : t[k]? = some u := by rw [hu]; simp [rdOf, List.getD_eq_getElem?_getD, List.getElem?_eq_getElem hltk]
                  have hus := HTS.out u (List.mem_of_getElem? hu2)
                  have hn0 : (t.take k).findIdx? (fun u => decide (lowL u = lowL x)) = none := by
                   rcases HW2.out with ⟨_, h⟩ | ⟨h, _⟩
                   · simpa using h
                   · exact absurd rfl h
                  obtain ⟨g1, g2⟩ := find_snoc (fun u => decide (lowL u = lowL x)) t k u hu2 hn0
                  have hk1 : k + 1 ≤ t.length := hltk
                  have hms : t.length - (k + 1) < t.length - k := Nat.sub_lt_sub_left hltk (Nat.lt_succ_self k)
                  have m3 : (0 : Int) ≤ (k : Int) := by omega
                  have m4 : (k : Int) < (t.length : Int) := by omega
                  have wk : wrap64 ((k : Int) + 1) = ((k + 1 : Nat) : Int) := by unfold wrap64; have := HTL.out; omega
                  have hsd := same_dec u x
                  have hcm := fun W => rcompare_c u x (by omega) (by omega) W
                  obtain ⟨q, hq⟩ : ∃ q, cmpL (lowL u) (lowL x) = q := ⟨_, rfl⟩
                  simp only [hq] at hcm hsd
                  have HCM := Aside0.mk hcm
                  clear hcm hq
                  by_cases hp : lowL u = lowL x
                  · rw [decide_eq_true hp] at hsd
                    have hne := HNX.out u hp
                    have hfk := g2 (decide_eq_true hp)
                    have hw : wantsT t (((t.take (k + 1)).findIdx? fun u => decide (lowL u = lowL x)).map Int.ofNat) (findT (lowS x) ps) u := .inr ⟨hne, (k : Int), by rw [HFT.out, hfk]; rfl, hu⟩
                    have HWM := Aside0.mk hw
                    have HSD := Aside0.mk hsd
                    clear hu hu2 hn0 g1 g2 hp hne hfk hw HW2 hin x0 hsd
                    go_wp2_with (first
                     | (with_reducible refine (HCM.out _).mono ?_; rintro e w5 ⟨rfl, hb⟩; have x2 := (hb.cell (World.block_lt_of_cell? _ _ x1)).trans x1; have hsd := HSD.out; replace HB := Aside0.mk (HB.out.trans (hb.mono HB.out.size)); clear hb x1))
                    go_roundw
                    case rel => exact ⟨k + 1, u, rfl, by rw [wk], hk1, HWM, HB⟩
                    case measure => rw [wk]; exact hms
                  · rw [decide_eq_false hp] at hsd
                    have hfk := g1 (decide_eq_false hp)
                    have hw : wantsT t (((t.take (k + 1)).findIdx? fun u => decide (lowL u = lowL x)).map Int.ofNat) (findT (lowS x) ps) bang := .inl ⟨rfl, by rw [hfk]; rfl⟩
                    have HWM := Aside0.mk hw
                    have HSD := Aside0.mk hsd
                    clear hu hu2 hn0 g1 g2 hp hfk hw HW2 hin x0 hsd
                    go_wp2_with (first
                     | (with_reducible refine (HCM.out _).mono ?_; rintro e w5 ⟨rfl, hb⟩; have hsd := HSD.out; replace HB := Aside0.mk (HB.out.trans (hb.mono HB.out.size)); clear hb x1))
                    go_roundw
                    case rel => exact ⟨k + 1, bang, rfl, by rw [wk], hk1, HWM, HB⟩
                    case measure => rw [wk]; exact hms
                · rw [decide_eq_false hWb] at hbq
                  have hw : wantsT t ((pre ++ [x]).findSome? (fun y => findT (lowS y) ps)) (hitS ps s) W := by
                   rcases HW2.out with ⟨h1, h2⟩ | ⟨h1, j, h2, h3⟩
                   · exact absurd h1 hWb
                   · exact .inr ⟨h1, j, hin j h2, h3⟩
                  clear hin hWb
                  have HWM := Aside0.mk hw
                  clear hw HW2
                  go_wp2_with (first
                   | (with_reducible refine (rtrim_c x (by omega) _).mono ?_; rintro e w5 ⟨rfl, hb⟩; replace HB := Aside0.mk (HB.out.trans (hb.mono HB.out.size)); clear hb))
                  go_roundw
                  case rel => exact ⟨f, trimP x, W, pre ++ [x], rfl, rfl, by omega, by omega, HE2, HWM, HB⟩
                  case measure => simpa [txtOf] using hlt2
              · obtain rfl : k = t.length := by omega
                have dk : decide ((t.length : Int) < (t.length : Int)) = false := decide_eq_false (by omega)
                have hw : wantsT t ((pre ++ [x]).findSome? (fun y => findT (lowS y) ps)) (hitS ps s) W := by
                 rcases HW2.out with ⟨h1, h2⟩ | ⟨h1, j, h2, h3⟩
                 · rw [List.take_length, ← HFT.out] at h2
                   refine .inl ⟨h1, ?_⟩
                   rw [List.findSome?_append, HPN.out]
                   simp [h2]
                 · exact .inr ⟨h1, j, hin j h2, h3⟩
                clear hin
                have HWM := Aside0.mk hw
                clear hw HW2
                go_wp2_with (first
                 | (with_reducible refine (rtrim_c x (by omega) _).mono ?_; rintro e w5 ⟨rfl, hb⟩; replace HB := Aside0.mk (HB.out.trans (hb.mono HB.out.size)); clear hb))
                go_roundw
                case rel => exact ⟨f, trimP x, W, pre ++ [x], rfl, rfl, by omega, by omega, HE2, HWM, HB⟩
                case measure => simpa [txtOf] using hlt2
           · rw [decide_eq_false hWb] at hbq
             have hw : wantsT t ((r.take (i + 1)).findSome? (hitR ps)) (r.findSome? (hitR ps)) W := by
              rcases HW2.out with ⟨h1, h2⟩ | ⟨h1, k, h2, h3⟩
              · exact absurd h1 hWb
              · exact .inr ⟨h1, k, HFULL.out k h2, h3⟩
             have HW3 := Aside0.mk hw
             clear hw hWb
             go_wp2
             go_roundw
             case rel => exact ⟨i + 1, W, rfl, by rw [wi], by omega, HW3, HB⟩
             case measure => rw [wi]; simp [intOf]; omega
    · rw [decide_eq_false hWb] at hbq
      have hlk : lookP r t bang = W := by
       rcases HW.out with ⟨h, _⟩ | ⟨_, k, h1, h2⟩
       · exact absurd h hWb
       · unfold lookP; rw [← HPS.out, h1]; exact h2.symm
      have HLK : Aside0 (lookP r t ⟨#[33]⟩ = W) := ⟨hlk⟩
      have hbq2 := hbq
      clear hlk hWb
      have HT1 : t.length ≤ 1000000 := by have := HTL.out; omega
      have HR1 : r.length ≤ 1000000 := by have := HRL.out; omega
      have HTs : ∀ x ∈ t, x.size ≤ 900000 := fun x hx => by have := HTS.out x hx; omega
      have HRs : ∀ x ∈ r, x.size ≤ 900000 := fun x hx => by have := HRS.out x hx; omega
      have hthr : ∀ g, (thr g r t).length ≤ 1000000 := fun g => by have := List.length_filter_le (fun u => r.any fun v => g v u) t; unfold thr; omega
      have e1 : decide (thr matB r t = thr (matE false) r t) = true := by simp [matE]
      have e2 : decide (thr matX r t = thr (matE true) r t) = true := by simp [matE]
      have hself : (W.toList == W.toList) = true := by simp
      go_wp2_with (first
       | (with_reducible refine (filter_c t r At Ar ct cr _ HT1 HR1 HTs HRs (Kd.C_below HD.out HB.out) (Kd.C_below HC3.out HB.out)).mono ?_; rintro e w4 ⟨v, rfl, ho, hb⟩; obtain ⟨A1, c1, rfl, hc1, hC1⟩ := Kd.R_reads ho; replace HB := Aside0.mk (HB.out.trans (hb.mono HB.out.size)); have X1 := Aside0.mk hC1; have Y1 := Aside0.mk hc1; clear ho hb hC1 hc1)
       | (with_reducible refine (rfilter_c r t false At Ar ct cr _ HT1 HR1 HTs HRs (Kd.C_below HD.out HB.out) (Kd.C_below HC3.out HB.out) HCT.out HCR.out).mono ?_; rintro e w5 ⟨A2, c2, rfl, hC2, hc2, hb⟩; replace HB := Aside0.mk (HB.out.trans (hb.mono HB.out.size)); replace X1 := Aside0.mk (Kd.C_below X1.out hb); have X2 := Aside0.mk hC2; have Y2 := Aside0.mk hc2; clear hb hC2 hc2)
       | (with_reducible refine (rsame_c _ _ A1 A2 c1 c2 _ (hthr matB) X1.out X2.out Y1.out Y2.out).mono ?_; rintro e w6 ⟨rfl, hb⟩; rw [e1]; replace HB := Aside0.mk (HB.out.trans (hb.mono HB.out.size)); clear hb)
       | (with_reducible refine (filterX_c t r At Ar ct cr _ HT1 HR1 HTs HRs (Kd.C_below HD.out HB.out) (Kd.C_below HC3.out HB.out)).mono ?_; rintro e w7 ⟨v, rfl, ho, hb⟩; obtain ⟨A3, c3, rfl, hc3, hC3⟩ := Kd.R_reads ho; replace HB := Aside0.mk (HB.out.trans (hb.mono HB.out.size)); have X3 := Aside0.mk hC3; have Y3 := Aside0.mk hc3; clear ho hb hC3 hc3)
       | (with_reducible refine (rfilter_c r t true At Ar ct cr _ HT1 HR1 HTs HRs (Kd.C_below HD.out HB.out) (Kd.C_below HC3.out HB.out) HCT.out HCR.out).mono ?_; rintro e w8 ⟨A4, c4, rfl, hC4, hc4, hb⟩; replace HB := Aside0.mk (HB.out.trans (hb.mono HB.out.size)); replace X3 := Aside0.mk (Kd.C_below X3.out hb); have X4 := Aside0.mk hC4; have Y4 := Aside0.mk hc4; clear hb hC4 hc4)
       | (with_reducible refine (rsame_c _ _ A3 A4 c3 c4 _ (hthr matX) X3.out X4.out Y3.out Y4.out).mono ?_; rintro e w9 ⟨rfl, hb⟩; rw [e2]; replace HB := Aside0.mk (HB.out.trans (hb.mono HB.out.size)); clear hb)
       | (with_reducible refine (lookup_c t r ⟨#[33]⟩ At Ar ct cr _ HT1 HR1 HTs HRs (Kd.C_below HD.out HB.out) (Kd.C_below HC3.out HB.out)).mono ?_; rintro e w10 ⟨rfl, hb⟩; rw [HLK.out]; replace HB := Aside0.mk (HB.out.trans (hb.mono HB.out.size)); clear hb))
      go_ret
      exact ⟨rfl, HB3.out.trans (HB.out.mono HB3.out.size)⟩
  · obtain rfl : i = r.length := by omega
    have d1 : decide ((r.length : Int) < (r.length : Int)) = false := decide_eq_false (by omega)
    have hlk : lookP r t bang = W := by
     rcases HW.out with ⟨h, h1⟩ | ⟨_, k, h1, h2⟩
     · rw [List.take_length] at h1
       unfold lookP; rw [← HPS.out, h1]; exact h.symm
     · unfold lookP; rw [← HPS.out, h1]; exact h2.symm
    have HLK : Aside0 (lookP r t ⟨#[33]⟩ = W) := ⟨hlk⟩
    clear hlk
    clear hbq
    have HT1 : t.length ≤ 1000000 := by have := HTL.out; omega
    have HR1 : r.length ≤ 1000000 := by have := HRL.out; omega
    have HTs : ∀ x ∈ t, x.size ≤ 900000 := fun x hx => by have := HTS.out x hx; omega
    have HRs : ∀ x ∈ r, x.size ≤ 900000 := fun x hx => by have := HRS.out x hx; omega
    have hthr : ∀ g, (thr g r t).length ≤ 1000000 := fun g => by have := List.length_filter_le (fun u => r.any fun v => g v u) t; unfold thr; omega
    have e1 : decide (thr matB r t = thr (matE false) r t) = true := by simp [matE]
    have e2 : decide (thr matX r t = thr (matE true) r t) = true := by simp [matE]
    have hself : (W.toList == W.toList) = true := by simp
    go_wp2_with (first
     | (with_reducible refine (filter_c t r At Ar ct cr _ HT1 HR1 HTs HRs (Kd.C_below HD.out HB.out) (Kd.C_below HC3.out HB.out)).mono ?_; rintro e w4 ⟨v, rfl, ho, hb⟩; obtain ⟨A1, c1, rfl, hc1, hC1⟩ := Kd.R_reads ho; replace HB := Aside0.mk (HB.out.trans (hb.mono HB.out.size)); have X1 := Aside0.mk hC1; have Y1 := Aside0.mk hc1; clear ho hb hC1 hc1)
     | (with_reducible refine (rfilter_c r t false At Ar ct cr _ HT1 HR1 HTs HRs (Kd.C_below HD.out HB.out) (Kd.C_below HC3.out HB.out) HCT.out HCR.out).mono ?_; rintro e w5 ⟨A2, c2, rfl, hC2, hc2, hb⟩; replace HB := Aside0.mk (HB.out.trans (hb.mono HB.out.size)); replace X1 := Aside0.mk (Kd.C_below X1.out hb); have X2 := Aside0.mk hC2; have Y2 := Aside0.mk hc2; clear hb hC2 hc2)
     | (with_reducible refine (rsame_c _ _ A1 A2 c1 c2 _ (hthr matB) X1.out X2.out Y1.out Y2.out).mono ?_; rintro e w6 ⟨rfl, hb⟩; rw [e1]; replace HB := Aside0.mk (HB.out.trans (hb.mono HB.out.size)); clear hb)
     | (with_reducible refine (filterX_c t r At Ar ct cr _ HT1 HR1 HTs HRs (Kd.C_below HD.out HB.out) (Kd.C_below HC3.out HB.out)).mono ?_; rintro e w7 ⟨v, rfl, ho, hb⟩; obtain ⟨A3, c3, rfl, hc3, hC3⟩ := Kd.R_reads ho; replace HB := Aside0.mk (HB.out.trans (hb.mono HB.out.size)); have X3 := Aside0.mk hC3; have Y3 := Aside0.mk hc3; clear ho hb hC3 hc3)
     | (with_reducible refine (rfilter_c r t true At Ar ct cr _ HT1 HR1 HTs HRs (Kd.C_below HD.out HB.out) (Kd.C_below HC3.out HB.out) HCT.out HCR.out).mono ?_; rintro e w8 ⟨A4, c4, rfl, hC4, hc4, hb⟩; replace HB := Aside0.mk (HB.out.trans (hb.mono HB.out.size)); replace X3 := Aside0.mk (Kd.C_below X3.out hb); have X4 := Aside0.mk hC4; have Y4 := Aside0.mk hc4; clear hb hC4 hc4)
     | (with_reducible refine (rsame_c _ _ A3 A4 c3 c4 _ (hthr matX) X3.out X4.out Y3.out Y4.out).mono ?_; rintro e w9 ⟨rfl, hb⟩; rw [e2]; replace HB := Aside0.mk (HB.out.trans (hb.mono HB.out.size)); clear hb)
     | (with_reducible refine (lookup_c t r ⟨#[33]⟩ At Ar ct cr _ HT1 HR1 HTs HRs (Kd.C_below HD.out HB.out) (Kd.C_below HC3.out HB.out)).mono ?_; rintro e w10 ⟨rfl, hb⟩; rw [HLK.out]; replace HB := Aside0.mk (HB.out.trans (hb.mono HB.out.size)); clear hb))
    go_ret
    exact ⟨rfl, HB3.out.trans (HB.out.mono HB3.out.size)⟩
end Go.Proofs.YtpmcfckechjppaaGreatDoor.Ps
