/- Made by a program of this seat's own (shake.py, merge.py): what the claim leans on: ParseGr, ParsesGr. -/
import Derived.Test.YtpmcfckechjppaaGreatDoorTb10
namespace Go.Proofs.YtpmcfckechjppaaGreatDoor.Ps
open Go.RowKit Go.Shelf Go.Proofs.YtpmcfckechjppaaGreatDoorW.PrintWords Go.Proofs.YtpmcfckechjppaaGreatDoorW.PrintLast Go.Proofs.YtpmcfckechjppaaGreatDoorW.PrintMore Go.Proofs.YtpmcfckechjppaaGreatDoor.P Go.Proofs.YtpmcfckechjppaaGreatDoor.LikW
open Go.Proofs.YtpmcfckechjppaaGreatDoor.Each Go.Proofs.YtpmcfckechjppaaGreatDoor.Base Go.Proofs.YtpmcfckechjppaaGreatDoor.Pure
attribute [local go_sem] Oper.semAt_some
set_option linter.unusedVariables false
set_option linter.unusedSimpArgs false
set_option maxRecDepth 100000
set_option maxHeartbeats 8000000
def grandV (s : ByteArray) : Value := .agg #[.string ⟨#[]⟩, .slice none 0 0, .string ⟨#[]⟩, .string ⟨#[]⟩, .slice none 0 0, .slice none 0 0, .slice none 0 0, .string s]
theorem parse_gr (k : Nat) (s : ByteArray) (hs : s.size ≤ 900000) (w : World) (hG : GrandW.G w) (i : Int) (hf : grand_Find.f k s = some (i, true)) :
 Calls Tryz.prog 26 #[.string s] w fun e w' => e = .returned (.tuple #[grandV (lowS s), .nilIface]) ∧ Below w.heap.size w w' := by
 have hut := Tryz.underlying33
 have HG := Aside0.mk hG
 have HF := Aside0.mk hf
 have HL := Aside0.mk (Lower_eq s (by omega))
 clear hG hf
 obtain ⟨N, hN⟩ : ∃ N, N = w.heap.size := ⟨_, rfl⟩
 have HN := Aside0.mk hN
 clear hN
 go_enter Tryz.func26, Tryz.ntmps26
 go_wp2_with (first
  | (go_at_call 61; refine (grand_Find.calls k s i true _ HF.out (HG.out.below (by repeat (first | exact Below.refl _ _ | apply below_alloc)))).mono ?_; rintro e w1 ⟨rfl, hb1⟩; have HB1 := Aside0.mk hb1; have T1 := Aside0.mk ((hb1.block w.heap.size (by simp; omega)).trans (aN (aZ rfl))); have T2 := Aside0.mk ((hb1.block (w.heap.size + 1) (by simp)).trans (aZ (by simp))); clear hb1)
  | (go_at_call 62; refine (ascii_Lower.calls s (lowS s) _ HL.out).mono ?_; rintro e w2 ⟨rfl, hb2⟩; have t1 := (hb2.block _ (lt_blk T1.out)).trans T1.out; have t2 := (hb2.block _ (lt_blk T2.out)).trans T2.out; have K1 := Aside0.mk t1; have K2 := Aside0.mk t2; have HB2 := Aside0.mk (((below_alloc (below_alloc (Below.refl _ _) _) _).trans (HB1.out.mono (by simp; omega))).trans (hb2.mono (by have := HB1.out.size; simp at this; omega))); obtain ⟨z0, z1, z2, z3, z4, z5, z6, z7⟩ := cz8 t1; obtain ⟨f0, f1, f2, f3, f4, f5, f6, f7⟩ := fz8 t1; have y0 := (blk_cell t2 0).trans rfl; have g0 := blk_frozen t2 0; clear t1 t2 hb2))
 obtain ⟨W9, hW9⟩ : ∃ W9, (((((((((w2.setCell ⟨w.heap.size, 0, none⟩ (.string ⟨#[]⟩)).setCell ⟨w.heap.size, 1, none⟩ (.slice none 0 0)).setCell ⟨w.heap.size, 2, none⟩ (.string ⟨#[]⟩)).setCell ⟨w.heap.size, 3, none⟩ (.string ⟨#[]⟩)).setCell ⟨w.heap.size, 4, none⟩ (.slice none 0 0)).setCell ⟨w.heap.size, 5, none⟩ (.slice none 0 0)).setCell ⟨w.heap.size, 6, none⟩ (.slice none 0 0)).setCell ⟨w.heap.size, 7, none⟩ (.string (lowS s))).setCell ⟨w.heap.size + 1, 0, none⟩ .nilIface) = W9 := ⟨_, rfl⟩
 have B9 : Below w.heap.size w W9 := by
  rw [← hW9]
  exact below_set (below_set (below_set (below_set (below_set (below_set (below_set (below_set (below_set HB2.out (Nat.le_refl _)) (Nat.le_refl _)) (Nat.le_refl _)) (Nat.le_refl _)) (Nat.le_refl _)) (Nat.le_refl _)) (Nat.le_refl _)) (Nat.le_refl _)) (Nat.le_succ _)
 have p0 := blk_put K1.out 0 (.string ⟨#[]⟩) (by rfl)
 have p1 := blk_put p0 1 (.slice none 0 0) (by rfl)
 have p2 := blk_put p1 2 (.string ⟨#[]⟩) (by rfl)
 have p3 := blk_put p2 3 (.string ⟨#[]⟩) (by rfl)
 have p4 := blk_put p3 4 (.slice none 0 0) (by rfl)
 have p5 := blk_put p4 5 (.slice none 0 0) (by rfl)
 have p6 := blk_put p5 6 (.slice none 0 0) (by rfl)
 have p7 := blk_put p6 7 (.string (lowS s)) (by rfl)
 have T9 : W9.heap[w.heap.size]? = some (.cells #[.string ⟨#[]⟩, .slice none 0 0, .string ⟨#[]⟩, .string ⟨#[]⟩, .slice none 0 0, .slice none 0 0, .slice none 0 0, .string (lowS s)] 33 (0, 0)) := by
  rw [← hW9]
  exact blk_far p7 (Nat.ne_of_lt (Nat.lt_succ_self _)) _
 have r0 := blk_far (p := ⟨w.heap.size, 0, none⟩) K2.out (by simp) (.string ⟨#[]⟩)
 have r1 := blk_far (p := ⟨w.heap.size, 1, none⟩) r0 (by simp) (.slice none 0 0)
 have r2 := blk_far (p := ⟨w.heap.size, 2, none⟩) r1 (by simp) (.string ⟨#[]⟩)
 have r3 := blk_far (p := ⟨w.heap.size, 3, none⟩) r2 (by simp) (.string ⟨#[]⟩)
 have r4 := blk_far (p := ⟨w.heap.size, 4, none⟩) r3 (by simp) (.slice none 0 0)
 have r5 := blk_far (p := ⟨w.heap.size, 5, none⟩) r4 (by simp) (.slice none 0 0)
 have r6 := blk_far (p := ⟨w.heap.size, 6, none⟩) r5 (by simp) (.slice none 0 0)
 have r7 := blk_far (p := ⟨w.heap.size, 7, none⟩) r6 (by simp) (.string (lowS s))
 have E9 : W9.heap[w.heap.size + 1]? = some (.cells #[.nilIface] 55 (0, 0)) := by
  rw [← hW9]
  exact blk_put r7 0 _ rfl
 rw [hW9]
 clear z0 z1 z2 z3 z4 z5 z6 z7 f0 f1 f2 f3 f4 f5 f6 f7 y0 g0 p7 hW9
 obtain ⟨z0, z1, z2, z3, z4, z5, z6, z7⟩ := cz8 T9
 have y0 := (blk_cell E9 0).trans rfl
 refine bodyPost_ret (v := .tuple #[grandV (lowS s), .nilIface]) ?_ rfl ⟨rfl, B9⟩
 simp [results, Tryz.results26, asAddr, z0, z1, z2, z3, z4, z5, z6, z7, y0, hut, go_sem, grandV]
theorem join_pieces (g : ByteArray) : joinS ((eachP g).map Prod.snd) = g := by
 rw [joinS_jn]
 exact jn_pieces _ g rfl
theorem pieces_len (g : ByteArray) : ((eachP g).map Prod.snd).length ≤ g.size + 1 := by
 rw [List.length_map]
 exact eachF_len g (g.size + 1) 0
theorem subs_gr (g : ByteArray) (hg : g.size ≤ 900000) (h0 : g.size ≠ 0) (w : World) : Calls Tryz.prog 75 #[grandV g] w fun e w' => ∃ v, e = .returned v ∧ Own w' w.heap.size v ((eachP g).map Prod.snd) ∧ Below w.heap.size w w' := by
 have hut := Tryz.underlying33
 have d : g.toList.isEmpty = false := by rw [empty_size]; exact decide_eq_false h0
 have HC := Aside0.mk (fun W => split_c g hg W)
 unfold grandV
 go_enter Tryz.func75, Tryz.ntmps75
 go_wp2_with (first
  | (go_at_call 84; refine (HC.out _).mono ?_; rintro e w1 ⟨v, rfl, hO, hB⟩; have HO := Aside0.mk hO; have HB := Aside0.mk hB; clear hO hB))
 go_ret
 exact ⟨v, rfl, own_low HO.out (by simp), (below_alloc (Below.refl _ _) _).trans (HB.out.mono (by simp))⟩
theorem lower_gr (g : ByteArray) (hg : g.size ≤ 900000) (h0 : g.size ≠ 0) (w : World) : Calls Tryz.prog 43 #[grandV g] w fun e w' => e = .returned (.string g) ∧ Below w.heap.size w w' := by
 have hut := Tryz.underlying33
 have hj := join_pieces g
 have hl : ((eachP g).map Prod.snd).length ≤ 1000000 := Nat.le_trans (pieces_len g) (by omega)
 have hs : (Lib.join (((eachP g).map Prod.snd).map (·.data.toList)) [45]).length ≤ 140737488355328 := by
  have h2 : (joinS ((eachP g).map Prod.snd)).size = (Lib.join (((eachP g).map Prod.snd).map (·.data.toList)) [45]).length := by unfold joinS; exact List.size_toArray
  rw [hj] at h2
  omega
 have HC := Aside0.mk (fun W => subs_gr g hg h0 W)
 generalize (eachP g).map Prod.snd = L at *
 subst hj
 unfold grandV at HC ⊢
 go_enter Tryz.func43, Tryz.ntmps43
 go_wp2_with (first
  | (go_at_call 75; refine (HC.out _).mono ?_; rintro e w1 ⟨v, rfl, hO, hB⟩; have O_V := Aside0.mk hO; have HB := Aside0.mk hB; clear hO hB)
  | (go_at_call 74; refine (join_c _ v _ _ O_V.out hl hs).mono ?_; rintro e w2 ⟨rfl, hB2⟩))
 go_ret
 exact ⟨rfl, (below_alloc (Below.refl _ _) _).trans ((HB.out.mono (by simp)).trans (hB2.mono (Nat.le_trans (by simp) HB.out.size)))⟩
theorem string_gr (g : ByteArray) (hg : g.size ≤ 900000) (h0 : g.size ≠ 0) (w : World) (sg : Bool) (out : List ByteArray) (ht : (eachP g).all caseOk = true) (ho : caseL (eachP g) (false, []) = some (sg, out)) (hj : (Lib.join (out.map (·.data.toList)) [45]).length ≤ 140737488355328) : Calls Tryz.prog 44 #[grandV g] w fun e w' => e = .returned (.string (joinS out)) ∧ Below w.heap.size w w' := by
 have hut := Tryz.underlying33
 have HT := Aside0.mk ht
 have HO := Aside0.mk ho
 have HC := Aside0.mk (fun W => lower_gr g hg h0 W)
 clear ht ho
 unfold grandV at HC ⊢
 go_enter Tryz.func44, Tryz.ntmps44
 go_wp2_with (first
  | (go_at_call 43; refine (HC.out _).mono ?_; rintro e w1 ⟨rfl, hB⟩; have HB := Aside0.mk hB; clear hB)
  | (go_at_call 45; refine (case_c _ hg sg out HT.out HO.out hj _).mono ?_; rintro e w2 ⟨rfl, hB2⟩))
 go_ret
 exact ⟨rfl, (below_alloc (Below.refl _ _) _).trans ((HB.out.mono (by simp)).trans (hB2.mono (Nat.le_trans (by simp) HB.out.size)))⟩
theorem parses_gr (k : Nat) (s : ByteArray) (hs : s.size ≤ 800) (w : World) (hG : GrandW.G w) (i : Int) (hf : grand_Find.f k s = some (i, true)) (h0 : s.size ≠ 0) (kl : Nat) (hlow : isoglossref02_Lower.f kl s = some (lowS s)) :
 Calls Tryz.prog 14 #[.string s] w fun e w' => e = .returned (.bool true) ∧ Below w.heap.size w w' := by
 have hut := Tryz.underlying33
 have HPC := Aside0.mk (parse_gr k s (Nat.le_trans hs (by decide)) w hG i hf)
 obtain ⟨sg, out, hc, hjo⟩ := case_all s hs
 have hs9 : s.size ≤ 900000 := Nat.le_trans hs (by decide)
 have hl9 : (lowS s).size ≤ 900000 := by rw [lowS_size]; exact hs9
 have hl0 : (lowS s).size ≠ 0 := by rw [lowS_size]; exact h0
 have hcl := case_low s hs9 (false, [])
 have HL := Aside0.mk (fun W => lower_gr (lowS s) hl9 hl0 W)
 have HS := Aside0.mk (fun W => string_gr (lowS s) hl9 hl0 W sg out (caseOk_all _ hl9) (by rw [hcl]; exact hc) hjo)
 have HCC := Aside0.mk (fun W => case_c s hs9 sg out (caseOk_all s hs9) hc hjo W)
 have HR := Aside0.mk (fun W => isoglossref02_Lower.calls kl s (lowS s) W hlow)
 clear hf hG hc hjo hcl hlow h0 hl0 hl9
 unfold grandV at HPC HL HS
 go_enter Tryz.func14, Tryz.ntmps14
 go_wp2_with (first
  | (go_at_call 26; refine HPC.out.mono ?_; rintro e w1 ⟨rfl, hb⟩; have HB := Aside0.mk hb; clear hb; simp only)
  | (go_at_call 43; refine (HL.out _).mono ?_; rintro e w2 ⟨rfl, hb2⟩; have K2 := Aside0.mk ((hb2.block w1.heap.size (by simp)).trans (aZ rfl)); have HB2 := Aside0.mk ((HB.out.trans ((below_alloc (Below.refl _ _) _).mono HB.out.size)).trans (hb2.mono (by have := HB.out.size; simp; omega))); clear hb2)
  | (go_at_call 29; refine (HR.out _).mono ?_; rintro e w3 ⟨rfl, hb3⟩; have k3 := (hb3.block _ (lt_blk K2.out)).trans K2.out; have HB3 := Aside0.mk (HB2.out.trans (hb3.mono HB2.out.size)); obtain ⟨z0, z1, z2, z3, z4, z5, z6, z7⟩ := cz8 k3; clear hb3 k3)
  | (go_at_call 44; refine (HS.out _).mono ?_; rintro e w4 ⟨rfl, hb4⟩; have HB4 := Aside0.mk (HB3.out.trans (hb4.mono HB3.out.size)); clear hb4)
  | (go_at_call 45; refine (HCC.out _).mono ?_; rintro e w5 ⟨rfl, hb5⟩; have HB5 := Aside0.mk (HB4.out.trans (hb5.mono HB4.out.size)); clear hb5))
 go_ret
 exact ⟨rfl, HB5.out⟩
theorem names_some : ∀ i < 26, (nameL ((i : Nat) : Int)).length ≠ 0 := by decide +kernel
theorem parses_c (s : ByteArray) (hs : s.size ≤ 800) (w : World) (hG : GrandW.G w) (hE : EHw w) :
 Calls Tryz.prog 14 #[.string s] w fun e w' => e = .returned (.bool true) ∧ Below w.heap.size w w' := by
 obtain ⟨r, b, ⟨k, hk⟩, hb⟩ := Find_ev s (by omega)
 rcases hb with ⟨rfl, h0, h26, hn⟩ | ⟨rfl, rfl, _⟩
 · obtain ⟨kl, hl⟩ := rLower_ev s (by omega)
   refine parses_gr k s hs w hG r (hk k (Nat.le_refl _)) ?_ kl (hl kl (Nat.le_refl _))
   intro hz
   have h1 := names_some r.toNat (by omega)
   rw [Int.toNat_of_nonneg h0, hn] at h1
   apply h1
   unfold lowL
   rw [List.length_map, bytesOf_length, hz]
 · exact parses_free k s hs w hG hE 0 (hk k (Nat.le_refl _))
end Go.Proofs.YtpmcfckechjppaaGreatDoor.Ps
