/- Made by a program of this seat's own (shake.py, merge.py): what the claim leans on: Canonical, Min, Minimize, Word, Places, Ext. -/
import Derived.Test.YtpmcfckechjppaaGreatDoorTa14
import Derived.LoopN
import Derived.LoopNIn
import Derived.Laws.EntriesVeiled
namespace Go.Proofs.YtpmcfckechjppaaGreatDoor.Ps
open Go.RowKit Go.Shelf Go.Proofs.YtpmcfckechjppaaGreatDoorW.PrintWords Go.Proofs.YtpmcfckechjppaaGreatDoorW.PrintLast Go.Proofs.YtpmcfckechjppaaGreatDoorW.PrintMore Go.Proofs.YtpmcfckechjppaaGreatDoor.P Go.Proofs.YtpmcfckechjppaaGreatDoor.LikW
attribute [local go_sem] Oper.semAt_some
set_option linter.unusedVariables false
set_option linter.unusedSimpArgs false
set_option maxRecDepth 100000
set_option maxHeartbeats 8000000
def lastT (t : K3) (l : List (Int × K3)) : K3 := match l.getLast? with | some x => x.2 | none => t
theorem lastT_snoc (t : K3) (l : List (Int × K3)) (x : Int × K3) : lastT t (l ++ [x]) = x.2 := by simp [lastT]
theorem trace_c (n : Nat) (B1 B2 B3 B4 : Nat) (x y z : ByteArray) (w : World) : CallsIn Fence.wide n Tryz.prog 162 #[imgV B1 B2 B3 B4, T3 x y z] w fun e w' =>
 e = .returned (.func (.func 201) #[] #[.pointer (some ⟨w.heap.size + 1, 0, none⟩), .pointer (some ⟨w.heap.size, 0, none⟩)]) ∧ w' = (w.alloc (.cells (imgC B1 B2 B3 B4) 51)).alloc (.cells (T3c x y z) 33) := by
 have hmf : ∀ (fn : Fn) (first cap : Array Value) (w : World), (Instr.makeFunc fn first cap).run Tryz.prog w = .ok (.func fn first cap) w := fun _ _ _ _ => rfl
 have hut := Tryz.underlying33
 have hui := Tryz.underlying51
 unfold imgV T3 imgC T3c
 refine callsIn_of_wp Tryz.func162 rfl trivial ?_ rfl
 simp only [Tryz.ntmps162, List.size_toArray, List.length_cons, List.length_nil, Nat.reduceAdd, Nat.reduceSub, Array.replicate_succ, Array.replicate_zero, List.push_toArray, List.append_toArray, List.nil_append, List.cons_append]
 gi_wp2
 go_ret
 exact ⟨rfl, rfl⟩
theorem canonical_of (k : Nat) (B1 B2 B3 B4 : Nat) (x y z : ByteArray) (l : List (Int × K3)) (w : World) (hG : GrandW.G w) (hC : Kd.C k59 w (some ⟨B1, 0, none⟩) dAliases.length dAliases)
 (hseq : ∀ (w0 : World) (pt pi L : Nat), L ≠ 0 → B1 ≠ L → pi ≠ L → L < w0.heap.size → GrandW.G w0 → Kd.C k59 w0 (some ⟨B1, 0, none⟩) dAliases.length dAliases → w0.heap[pt]? = some (.cells (T3c x y z) 33 (0, 0)) → w0.heap[pi]? = some (.cells (imgC B1 B2 B3 B4) 51 (0, 0)) →
  SeqAll Fence.wide 3 Tryz.prog 201 #[.pointer (some ⟨pt, 0, none⟩), .pointer (some ⟨pi, 0, none⟩)] encT (KC L) l w0) :
 Calls Tryz.prog 97 #[imgV B1 B2 B3 B4, T3 x y z] w fun e w' => e = .returned (T3 (lastT (x, y, z) l).1 (lastT (x, y, z) l).2.1 (lastT (x, y, z) l).2.2) ∧ Below w.heap.size w w' := by
 have hut := Tryz.underlying33
 have hui := Tryz.underlying51
 have HG := Aside0.mk hG
 have HC := Aside0.mk hC
 have HS := Aside0.mk hseq
 clear hG hC hseq
 unfold imgV T3
 refine (callsIn_wide (n := 4)).1 ?_
 refine callsIn_of_wp_marks Tryz.func97 rfl trivial ?_ rfl
 simp only [Tryz.ntmps97, List.size_toArray, List.length_cons, List.length_nil, Nat.reduceAdd, Nat.reduceSub, Array.replicate_succ, Array.replicate_zero, List.push_toArray, List.append_toArray, List.nil_append, List.cons_append]
 gi_wp2_with (first
  | (refine ⟨trivial, ?_⟩; gi_at_call 162; refine (trace_c _ B1 B2 B3 B4 x y z _).mono ?_; rintro e w2 ⟨rfl, rfl⟩))
 obtain ⟨N, hN⟩ : ∃ N, N = w.heap.size := ⟨_, rfl⟩
 obtain ⟨W0, hW0⟩ : ∃ W0, ((((((w.alloc (.cells (imgC B1 B2 B3 B4) 51)).alloc (.cells (T3c x y z) 33)).alloc (.cells (T3c ⟨#[]⟩ ⟨#[]⟩ ⟨#[]⟩) 33)).alloc (.cells (T3c x y z) 33)).alloc (.cells (imgC B1 B2 B3 B4) 51)).alloc (.cells (T3c x y z) 33)) = W0 := ⟨_, rfl⟩
 have b2 : W0.heap[N + 1 + 1]? = some (.cells (T3c ⟨#[]⟩ ⟨#[]⟩ ⟨#[]⟩) 33 (0, 0)) := by rw [← hW0, hN]; exact aN (aN (aN (aZ (by simp))))
 have b3 : W0.heap[N + 1 + 1 + 1]? = some (.cells (T3c x y z) 33 (0, 0)) := by rw [← hW0, hN]; exact aN (aN (aZ (by simp)))
 have b4 : W0.heap[N + 1 + 1 + 1 + 1]? = some (.cells (imgC B1 B2 B3 B4) 51 (0, 0)) := by rw [← hW0, hN]; exact aN (aZ (by simp))
 have b5 : W0.heap[N + 1 + 1 + 1 + 1 + 1]? = some (.cells (T3c x y z) 33 (0, 0)) := by rw [← hW0, hN]; exact aZ (by simp)
 have B0 : Below N w W0 := by rw [← hW0, hN]; exact below_alloc (below_alloc (below_alloc (below_alloc (below_alloc (below_alloc (Below.refl _ _) _) _) _) _) _) _
 have s0 : W0.heap.size = N + 1 + 1 + 1 + 1 + 1 + 1 := by rw [← hW0, hN]; simp
 unfold imgC T3c at hW0 ⊢
 rw [hW0, ← hN]
 have HN := Aside0.mk hN
 have HB0 := Aside0.mk B0
 have hB1 : B1 < N := by rw [hN]; exact C_lt HC.out
 have hlt : 0 < N := by omega
 clear hW0 hN
 refine range_all rfl (by omega) (gf := 201) (lb := #[.pointer (some ⟨N + 1 + 1 + 1 + 1 + 1, 0, none⟩), .pointer (some ⟨N + 1 + 1 + 1 + 1, 0, none⟩)]) rfl trivial (enters_of Tryz.func201 (by kernel_rfl) rfl)
  (HS.out W0 (N + 1 + 1 + 1 + 1 + 1) (N + 1 + 1 + 1 + 1) (N + 1 + 1 + 1) (by omega) (by omega) (by omega) (by omega) (HG.out.below (by rw [← HN.out]; exact B0)) (Kd.C_below HC.out (by rw [← HN.out]; exact B0)) b5 b4)
  KC.trans (fun W lw o o' _ h h1 _ => KC.put _ W lw o o' h h1) (Below.refl _ _) (fun _ => rfl)
  (fun (pre : List (Int × K3)) W => W.heap[N + 1 + 1 + 1]? = some (.cells (T3c (lastT (x, y, z) pre).1 (lastT (x, y, z) pre).2.1 (lastT (x, y, z) pre).2.2) 33 (0, 0)) ∧ W.heap[N + 1 + 1]? = some (.cells (T3c ⟨#[]⟩ ⟨#[]⟩ ⟨#[]⟩) 33 (0, 0)) ∧ Below N w W)
  (fun _ _ _ => False)
  (fun pre A B row ⟨i1, i2, i3⟩ hg hr => ⟨(hg.block _ (lt_blk i1) (fun e => by have := hr _ e.symm; omega)).trans i1, (hg.block _ (lt_blk i2) (fun e => by have := hr _ e.symm; omega)).trans i2, i3.grown hg (by have := lt_blk i1; omega) (fun r e => by have := hr r e; omega)⟩)
  (fun _ _ _ _ _ hs _ _ => hs) ⟨b3, b2, B0⟩ ?round ?done ?stop
 case round =>
  rintro lp pre ⟨ui, u1, u2, u3⟩ W K hlp ⟨i1, i2, i3⟩ hpre hK
  simp only [encT]
  unfold T3
  have I1 := Aside0.mk i1
  have I2 := Aside0.mk i2
  have I3 := Aside0.mk i3
  clear i1 i2 i3
  gi_wp2
  have hu0 : (W.alloc (.cells (T3c u1 u2 u3) 33)).heap[W.heap.size]? = some (.cells (T3c u1 u2 u3) 33 (0, 0)) := aZ rfl
  have hb0 : Below W.heap.size W (W.alloc (.cells (T3c u1 u2 u3) 33)) := below_alloc (Below.refl _ _) _
  unfold T3c at hu0 hb0
  refine hK _ _ ((ko_below hb0).from _) (KC.below hb0) ?_
  rintro W2 ⟨r, o, hr, hW2, ⟨q, hq, hqc⟩, hoc⟩
  have hrne : ∀ (k : Nat) (o' : Obj), (W.alloc (.cells #[.string u1, .slice none 0 0, .string u2, .string u3, .slice none 0 0, .slice none 0 0, .slice none 0 0, .string ⟨#[]⟩] 33)).heap[k]? = some o' → o'.isCells = true → W2.heap[k]? = some o' := fun k o' h1 h2 => by
   rw [hW2]
   refine (World.putObj_heap_other ?_).trans h1
   rintro rfl
   rw [hq] at h1
   cases h1
   rw [hqc] at h2
   cases h2
  have U2 := Aside0.mk (hrne _ _ hu0 rfl)
  have L2 := Aside0.mk (hrne _ _ ((hb0.block _ (lt_blk I1.out)).trans I1.out) rfl)
  have Z2 := Aside0.mk (hrne _ _ ((hb0.block _ (lt_blk I2.out)).trans I2.out) rfl)
  have B2 : Aside0 (Below N w W2) := ⟨by rw [hW2]; have h1 := I3.out.size; have h2 := hb0.size; have h3 := HN.out; exact below_putM (by omega) (by omega) (I3.out.trans (hb0.mono (by omega))) (by omega) _⟩
  clear hu0 hb0 hW2 hq hqc hoc hrne hK I1 I2 I3
  obtain ⟨z0, z1, z2, z3, z4, z5, z6, z7⟩ := cz8t U2.out
  obtain ⟨y0, y1, y2, y3, y4, y5, y6, y7⟩ := cz8t L2.out
  obtain ⟨f0, f1, f2, f3, f4, f5, f6, f7⟩ := fz8t L2.out
  refine wpIn_block ?_
  gi_wp2
  rw [putTag_eq]
  exact ⟨(KeepsOthers.of_grownBy (putTag_grown W2 _ u1 u2 u3) (fun k o e ho => by cases e; rw [L2.out] at ho; cases ho; rfl)).from _, ⟨by rw [putTag_size]; exact Nat.le_refl _, fun k o hk ho _ => (putTag_far _ _ _ hk).trans ho⟩,
   by rw [lastT_snoc]; exact put_tag L2.out u1 u2 u3, (putTag_far _ _ _ (by omega)).trans Z2.out, putTag_below B2.out (by omega) _ _ _⟩
 case done =>
  rintro D W hD ⟨i1, i2, i3⟩ hK
  have I1 := Aside0.mk i1
  have I2 := Aside0.mk i2
  have I3 := Aside0.mk i3
  have K_D := Aside0.mk hK
  clear i1 i2 i3 hK
  obtain ⟨⟨l1, l2, l3⟩, hl⟩ : ∃ u, lastT (x, y, z) l = u := ⟨_, rfl⟩
  rw [hl] at I1
  have HL := Aside0.mk hl
  clear hl
  obtain ⟨z0, z1, z2, z3, z4, z5, z6, z7⟩ := cz8t I1.out
  gi_wp2_with (first
   | (refine ⟨trivial, callsIn_wide.2 (Calls.mono (order_c l1 l2 l3 _) ?_)⟩; rintro e w5 ⟨rfl, hb5⟩; unfold T3; have J2 := kb I2 hb5; obtain ⟨y0, y1, y2, y3, y4, y5, y6, y7⟩ := cz8t J2.out; obtain ⟨f0, f1, f2, f3, f4, f5, f6, f7⟩ := fz8t J2.out))
  rw [putTag_eq]
  have T6 := put_tag J2.out l1 l2 l3
  have D5 := (hb5.block _ (lt_blk K_D.out)).trans K_D.out
  have D6 := (putTag_far (W := w5) l1 l2 l3 (show D ≠ N + 1 + 1 by omega)).trans D5
  have h0 := HN.out
  have h1 := I3.out.size
  have B6 := putTag_below (I3.out.trans (hb5.mono (by omega))) (show N ≤ N + 1 + 1 by omega) l1 l2 l3
  refine ⟨by simp, .inl ⟨D, _, rfl, run_takeDeferred D6, ?_⟩⟩
  obtain ⟨W8, hW8⟩ : ∃ W8, W8 = (putTag w5 (N + 1 + 1) l1 l2 l3).putObj D (.deferred none) := ⟨_, rfl⟩
  have T8 : W8.heap[N + 1 + 1]? = some (.cells (T3c l1 l2 l3) 33 (0, 0)) := by rw [hW8]; exact (World.putObj_heap_other (by omega)).trans T6
  have B8 : Below w.heap.size w W8 := by
   rw [hW8, ← h0]
   exact B6.trans (belowK_b (w := w) (by omega) _ D _ _ (by omega) D6 rfl rfl)
  obtain ⟨c0, c1, c2, c3, c4, c5, c6, c7⟩ := cz8t T8
  rw [← hW8]
  show ∃ v, _ ∧ _
  refine ⟨.agg #[.string l1, .slice none 0 0, .string l2, .string l3, .slice none 0 0, .slice none 0 0, .slice none 0 0, .string ⟨#[]⟩], ?_, by rw [HL.out], B8⟩
  simp [results, Tryz.results97, asAddr, c0, c1, c2, c3, c4, c5, c6, c7, hut, go_sem]
 case stop =>
  rintro D c pre W _ _ h _
  exact h.elim
theorem canonical_none (k : Nat) (B1 B2 B3 B4 : Nat) (x y z : ByteArray) (hN : NoStep k x y z) (w : World) (hG : GrandW.G w) (hC : Kd.C k59 w (some ⟨B1, 0, none⟩) dAliases.length dAliases) :
 Calls Tryz.prog 97 #[imgV B1 B2 B3 B4, T3 x y z] w fun e w' => e = .returned (T3 x y z) ∧ Below w.heap.size w w' :=
 canonical_of k B1 B2 B3 B4 x y z [] w hG hC fun w0 pt pi L _ _ _ _ g c h1 h2 => trace_none 3 k B1 B2 B3 B4 pt pi L x y z hN w0 g c h1 h2
theorem canonical_one (k : Nat) (B1 B2 B3 B4 : Nat) (x y z : ByteArray) (i1 i2 : Int) (hl : (Lib.join ((full1 [x, y, z]).map (·.data.toList)) [45]).length ≤ 140737488355328) (hi1 : grand_Find.f k (joinS (full1 [x, y, z])) = some (i1, false)) (hi2 : grand_Find.f k ⟨#[]⟩ = some (i2, false)) (i : Nat) (r : S59) (hi : dAliases[i]? = some r) (hf : foundP 2 x z = ((i : Int), true))
 (hN : NoStep k r.f3 y ⟨#[]⟩) (w : World) (hG : GrandW.G w) (hC : Kd.C k59 w (some ⟨B1, 0, none⟩) dAliases.length dAliases) :
 Calls Tryz.prog 97 #[imgV B1 B2 B3 B4, T3 x y z] w fun e w' => e = .returned (T3 r.f3 y ⟨#[]⟩) ∧ Below w.heap.size w w' :=
 canonical_of k B1 B2 B3 B4 x y z [((i : Int), r.f3, y, ⟨#[]⟩)] w hG hC fun w0 pt pi L h0 hB hp hL g c h1 h2 => trace_one 3 (by decide) k B1 B2 B3 B4 pt pi L h0 hB hp x y z i1 i2 hl hi1 hi2 i r hi hf hN w0 hL g c h1 h2
theorem without3_c (x y z : ByteArray) (w : World) : Calls Tryz.prog 218 #[T3 x y z, .int .i64 3] w fun e w' => e = .returned (T3 x ⟨#[]⟩ ⟨#[]⟩) ∧ Below w.heap.size w w' := by
 have hut := Tryz.underlying33
 obtain ⟨W1, hW1⟩ : ∃ W1, W1 = (w.alloc (.cells (T3c x y z) 33)).alloc (.cells (T3c ⟨#[]⟩ ⟨#[]⟩ ⟨#[]⟩) 33) := ⟨_, rfl⟩
 have T1 : Aside0 (W1.heap[w.heap.size]? = some (.cells (T3c x y z) 33 (0, 0))) := ⟨by rw [hW1]; exact aN (aZ rfl)⟩
 have Z1 : Aside0 (W1.heap[w.heap.size + 1]? = some (.cells (T3c ⟨#[]⟩ ⟨#[]⟩ ⟨#[]⟩) 33 (0, 0))) := ⟨by rw [hW1]; exact aZ (by simp)⟩
 have B1 : Aside0 (Below w.heap.size w W1) := ⟨by rw [hW1]; exact below_alloc (below_alloc (Below.refl _ _) _) _⟩
 unfold T3c at hW1
 have HW := Aside0.mk hW1.symm
 clear hW1
 obtain ⟨W2, hW2⟩ : ∃ W2, W2 = (W1.setCell ⟨w.heap.size, 3, none⟩ (.string ⟨#[]⟩)).setCell ⟨w.heap.size, 2, none⟩ (.string ⟨#[]⟩) := ⟨_, rfl⟩
 have T2 : Aside0 (W2.heap[w.heap.size]? = some (.cells (T3c x ⟨#[]⟩ ⟨#[]⟩) 33 (0, 0))) := ⟨by rw [hW2]; exact blk_put (blk_put T1.out 3 (.string ⟨#[]⟩) rfl) 2 (.string ⟨#[]⟩) rfl⟩
 have Z2 : Aside0 (W2.heap[w.heap.size + 1]? = some (.cells (T3c ⟨#[]⟩ ⟨#[]⟩ ⟨#[]⟩) 33 (0, 0))) := ⟨by rw [hW2]; repeat (first | exact Z1.out | refine blk_far ?_ (by simp) _)⟩
 have B2 : Aside0 (Below w.heap.size w W2) := ⟨by rw [hW2]; repeat (first | exact B1.out | refine below_set' ?_ (Nat.le_refl _))⟩
 have HW2 := Aside0.mk hW2.symm
 clear hW2
 obtain ⟨y0, y1, y2, y3, y4, y5, y6, y7⟩ := cz8t T1.out
 obtain ⟨g0, g1, g2, g3, g4, g5, g6, g7⟩ := fz8t T1.out
 obtain ⟨z0, z1, z2, z3, z4, z5, z6, z7⟩ := cz8t T2.out
 obtain ⟨v0, v1, v2, v3, v4, v5, v6, v7⟩ := cz8t Z2.out
 obtain ⟨f0, f1, f2, f3, f4, f5, f6, f7⟩ := fz8t Z2.out
 unfold T3
 go_enter Tryz.func218, Tryz.ntmps218
 go_wp2_with (first | (rw [HW.out]) | (rw [HW2.out]))
 rw [putTag_eq]
 obtain ⟨x0, x1, x2, x3, x4, x5, x6, x7⟩ := cz8t (put_tag Z2.out x ⟨#[]⟩ ⟨#[]⟩)
 refine bodyPost_ret (v := .agg #[.string x, .slice none 0 0, .string ⟨#[]⟩, .string ⟨#[]⟩, .slice none 0 0, .slice none 0 0, .slice none 0 0, .string ⟨#[]⟩]) ?_ rfl ⟨rfl, putTag_below B2.out (by omega) _ _ _⟩
 simp [results, Tryz.results218, asAddr, x0, x1, x2, x3, x4, x5, x6, x7, hut, go_sem]
theorem without1_c (x y z : ByteArray) (w : World) : Calls Tryz.prog 218 #[T3 x y z, .int .i64 1] w fun e w' => e = .returned (T3 x ⟨#[]⟩ z) ∧ Below w.heap.size w w' := by
 have hut := Tryz.underlying33
 obtain ⟨W1, hW1⟩ : ∃ W1, W1 = (w.alloc (.cells (T3c x y z) 33)).alloc (.cells (T3c ⟨#[]⟩ ⟨#[]⟩ ⟨#[]⟩) 33) := ⟨_, rfl⟩
 have T1 : Aside0 (W1.heap[w.heap.size]? = some (.cells (T3c x y z) 33 (0, 0))) := ⟨by rw [hW1]; exact aN (aZ rfl)⟩
 have Z1 : Aside0 (W1.heap[w.heap.size + 1]? = some (.cells (T3c ⟨#[]⟩ ⟨#[]⟩ ⟨#[]⟩) 33 (0, 0))) := ⟨by rw [hW1]; exact aZ (by simp)⟩
 have B1 : Aside0 (Below w.heap.size w W1) := ⟨by rw [hW1]; exact below_alloc (below_alloc (Below.refl _ _) _) _⟩
 unfold T3c at hW1
 have HW := Aside0.mk hW1.symm
 clear hW1
 obtain ⟨W2, hW2⟩ : ∃ W2, W2 = W1.setCell ⟨w.heap.size, 2, none⟩ (.string ⟨#[]⟩) := ⟨_, rfl⟩
 have T2 : Aside0 (W2.heap[w.heap.size]? = some (.cells (T3c x ⟨#[]⟩ z) 33 (0, 0))) := ⟨by rw [hW2]; exact blk_put T1.out 2 (.string ⟨#[]⟩) rfl⟩
 have Z2 : Aside0 (W2.heap[w.heap.size + 1]? = some (.cells (T3c ⟨#[]⟩ ⟨#[]⟩ ⟨#[]⟩) 33 (0, 0))) := ⟨by rw [hW2]; repeat (first | exact Z1.out | refine blk_far ?_ (by simp) _)⟩
 have B2 : Aside0 (Below w.heap.size w W2) := ⟨by rw [hW2]; repeat (first | exact B1.out | refine below_set' ?_ (Nat.le_refl _))⟩
 have HW2 := Aside0.mk hW2.symm
 clear hW2
 obtain ⟨y0, y1, y2, y3, y4, y5, y6, y7⟩ := cz8t T1.out
 obtain ⟨g0, g1, g2, g3, g4, g5, g6, g7⟩ := fz8t T1.out
 obtain ⟨z0, z1, z2, z3, z4, z5, z6, z7⟩ := cz8t T2.out
 obtain ⟨v0, v1, v2, v3, v4, v5, v6, v7⟩ := cz8t Z2.out
 obtain ⟨f0, f1, f2, f3, f4, f5, f6, f7⟩ := fz8t Z2.out
 unfold T3
 go_enter Tryz.func218, Tryz.ntmps218
 go_wp2_with (first | (rw [HW.out]) | (rw [HW2.out]))
 rw [putTag_eq]
 obtain ⟨x0, x1, x2, x3, x4, x5, x6, x7⟩ := cz8t (put_tag Z2.out x ⟨#[]⟩ z)
 refine bodyPost_ret (v := .agg #[.string x, .slice none 0 0, .string ⟨#[]⟩, .string z, .slice none 0 0, .slice none 0 0, .slice none 0 0, .string ⟨#[]⟩]) ?_ rfl ⟨rfl, putTag_below B2.out (by omega) _ _ _⟩
 simp [results, Tryz.results218, asAddr, x0, x1, x2, x3, x4, x5, x6, x7, hut, go_sem]
theorem without2_c (x y z : ByteArray) (w : World) : Calls Tryz.prog 218 #[T3 x y z, .int .i64 2] w fun e w' => e = .returned (T3 x y ⟨#[]⟩) ∧ Below w.heap.size w w' := by
 have hut := Tryz.underlying33
 obtain ⟨W1, hW1⟩ : ∃ W1, W1 = (w.alloc (.cells (T3c x y z) 33)).alloc (.cells (T3c ⟨#[]⟩ ⟨#[]⟩ ⟨#[]⟩) 33) := ⟨_, rfl⟩
 have T1 : Aside0 (W1.heap[w.heap.size]? = some (.cells (T3c x y z) 33 (0, 0))) := ⟨by rw [hW1]; exact aN (aZ rfl)⟩
 have Z1 : Aside0 (W1.heap[w.heap.size + 1]? = some (.cells (T3c ⟨#[]⟩ ⟨#[]⟩ ⟨#[]⟩) 33 (0, 0))) := ⟨by rw [hW1]; exact aZ (by simp)⟩
 have B1 : Aside0 (Below w.heap.size w W1) := ⟨by rw [hW1]; exact below_alloc (below_alloc (Below.refl _ _) _) _⟩
 unfold T3c at hW1
 have HW := Aside0.mk hW1.symm
 clear hW1
 obtain ⟨W2, hW2⟩ : ∃ W2, W2 = W1.setCell ⟨w.heap.size, 3, none⟩ (.string ⟨#[]⟩) := ⟨_, rfl⟩
 have T2 : Aside0 (W2.heap[w.heap.size]? = some (.cells (T3c x y ⟨#[]⟩) 33 (0, 0))) := ⟨by rw [hW2]; exact blk_put T1.out 3 (.string ⟨#[]⟩) rfl⟩
 have Z2 : Aside0 (W2.heap[w.heap.size + 1]? = some (.cells (T3c ⟨#[]⟩ ⟨#[]⟩ ⟨#[]⟩) 33 (0, 0))) := ⟨by rw [hW2]; repeat (first | exact Z1.out | refine blk_far ?_ (by simp) _)⟩
 have B2 : Aside0 (Below w.heap.size w W2) := ⟨by rw [hW2]; repeat (first | exact B1.out | refine below_set' ?_ (Nat.le_refl _))⟩
 have HW2 := Aside0.mk hW2.symm
 clear hW2
 obtain ⟨y0, y1, y2, y3, y4, y5, y6, y7⟩ := cz8t T1.out
 obtain ⟨g0, g1, g2, g3, g4, g5, g6, g7⟩ := fz8t T1.out
 obtain ⟨z0, z1, z2, z3, z4, z5, z6, z7⟩ := cz8t T2.out
 obtain ⟨v0, v1, v2, v3, v4, v5, v6, v7⟩ := cz8t Z2.out
 obtain ⟨f0, f1, f2, f3, f4, f5, f6, f7⟩ := fz8t Z2.out
 unfold T3
 go_enter Tryz.func218, Tryz.ntmps218
 go_wp2_with (first | (rw [HW.out]) | (rw [HW2.out]))
 rw [putTag_eq]
 obtain ⟨x0, x1, x2, x3, x4, x5, x6, x7⟩ := cz8t (put_tag Z2.out x y ⟨#[]⟩)
 refine bodyPost_ret (v := .agg #[.string x, .slice none 0 0, .string y, .string ⟨#[]⟩, .slice none 0 0, .slice none 0 0, .slice none 0 0, .string ⟨#[]⟩]) ?_ rfl ⟨rfl, putTag_below B2.out (by omega) _ _ _⟩
 simp [results, Tryz.results218, asAddr, x0, x1, x2, x3, x4, x5, x6, x7, hut, go_sem]
theorem without0_c (x y z : ByteArray) (w : World) : Calls Tryz.prog 218 #[T3 x y z, .int .i64 0] w fun e w' => e = .returned (T3 x y z) ∧ Below w.heap.size w w' := by
 have hut := Tryz.underlying33
 obtain ⟨W1, hW1⟩ : ∃ W1, W1 = (w.alloc (.cells (T3c x y z) 33)).alloc (.cells (T3c ⟨#[]⟩ ⟨#[]⟩ ⟨#[]⟩) 33) := ⟨_, rfl⟩
 have T1 : Aside0 (W1.heap[w.heap.size]? = some (.cells (T3c x y z) 33 (0, 0))) := ⟨by rw [hW1]; exact aN (aZ rfl)⟩
 have Z1 : Aside0 (W1.heap[w.heap.size + 1]? = some (.cells (T3c ⟨#[]⟩ ⟨#[]⟩ ⟨#[]⟩) 33 (0, 0))) := ⟨by rw [hW1]; exact aZ (by simp)⟩
 have B1 : Aside0 (Below w.heap.size w W1) := ⟨by rw [hW1]; exact below_alloc (below_alloc (Below.refl _ _) _) _⟩
 unfold T3c at hW1
 have HW := Aside0.mk hW1.symm
 clear hW1
 obtain ⟨z0, z1, z2, z3, z4, z5, z6, z7⟩ := cz8t T1.out
 obtain ⟨y0, y1, y2, y3, y4, y5, y6, y7⟩ := cz8t Z1.out
 obtain ⟨f0, f1, f2, f3, f4, f5, f6, f7⟩ := fz8t Z1.out
 unfold T3
 go_enter Tryz.func218, Tryz.ntmps218
 go_wp2_with (first | (rw [HW.out]))
 rw [putTag_eq]
 obtain ⟨x0, x1, x2, x3, x4, x5, x6, x7⟩ := cz8t (put_tag Z1.out x y z)
 refine bodyPost_ret (v := .agg #[.string x, .slice none 0 0, .string y, .string z, .slice none 0 0, .slice none 0 0, .slice none 0 0, .string ⟨#[]⟩]) ?_ rfl ⟨rfl, putTag_below B1.out (by omega) _ _ _⟩
 simp [results, Tryz.results218, asAddr, x0, x1, x2, x3, x4, x5, x6, x7, hut, go_sem]
theorem max_c (B1 B2 B3 B4 : Nat) (x y z a b c : ByteArray) (ok : Bool) (hm : maxP dRows (x, y, z) = ((a, b, c), ok)) (w : World) (hC : Kd.C k66 w (some ⟨B2, 0, none⟩) dRows.length dRows) :
 Calls Tryz.prog 100 #[imgV B1 B2 B3 B4, T3 x y z] w fun e w' => e = .returned (.tuple #[T3 a b c, .bool ok]) ∧ Below w.heap.size w w' := by
 have h := max_calls (some ⟨B1, 0, none⟩) 54 54 (some ⟨B2, 0, none⟩) 32 dRows (some ⟨B3, 0, none⟩) 15 15 (some ⟨B4, 0, none⟩) 7 7 40 5 x y z ⟨#[]⟩ none 0 0 none 0 0 none 0 0 none 0 0 w hC
 rw [len_dRows, hm] at h
 exact h
theorem says_c (B1 B2 B3 B4 : Nat) (x y z a b c fl fs fr : ByteArray) (ok : Bool) (hm : maxP dRows (x, y, z) = ((a, b, c), ok)) (w : World) (hC : Kd.C k66 w (some ⟨B2, 0, none⟩) dRows.length dRows) :
 Calls Tryz.prog 167 #[imgV B1 B2 B3 B4, T3 x y z, T3 fl fs fr] w fun e w' => e = .returned (.bool (ok && (a.toList == fl.toList && (b.toList == fs.toList && c.toList == fr.toList)))) ∧ Below w.heap.size w w' := by
 have hut := Tryz.underlying33
 have hui := Tryz.underlying51
 obtain ⟨W0, hW0⟩ : ∃ W0, W0 = (((w.alloc (.cells (imgC B1 B2 B3 B4) 51)).alloc (.cells (T3c x y z) 33)).alloc (.cells (T3c fl fs fr) 33)) := ⟨_, rfl⟩
 have F0 : Aside0 (W0.heap[w.heap.size + 1 + 1]? = some (.cells (T3c fl fs fr) 33 (0, 0))) := ⟨by rw [hW0]; exact aZ (by simp)⟩
 have L0 : Aside0 (W0.heap[w.heap.size + 1]? = some (.cells (T3c x y z) 33 (0, 0))) := ⟨by rw [hW0]; exact aN (aZ (by simp))⟩
 have I0 : Aside0 (W0.heap[w.heap.size]? = some (.cells (imgC B1 B2 B3 B4) 51 (0, 0))) := ⟨by rw [hW0]; exact aN (aN (aZ (by simp)))⟩
 have B0 : Aside0 (Below w.heap.size w W0) := ⟨by rw [hW0]; exact below_alloc (below_alloc (below_alloc (Below.refl _ _) _) _) _⟩
 obtain ⟨i0, i1, i2, i3, i4, i5⟩ := cz6 (show W0.heap[w.heap.size]? = some (.cells #[.slice (some ⟨B1, 0, none⟩) 54 54, .slice (some ⟨B2, 0, none⟩) 32 32, .slice (some ⟨B3, 0, none⟩) 15 15, .slice (some ⟨B4, 0, none⟩) 7 7, .int .i64 40, .int .i64 5] 51 (0, 0)) from I0.out)
 obtain ⟨z0, z1, z2, z3, z4, z5, z6, z7⟩ := cz8t L0.out
 unfold imgC T3c at hW0
 have HW := Aside0.mk hW0.symm
 have HM := Aside0.mk hm
 have HC := Aside0.mk hC
 clear hW0 hm hC
 unfold imgV T3
 cases ok with
 | false =>
  go_enter Tryz.func167, Tryz.ntmps167
  go_wp2_with (first
   | (rw [HW.out])
   | (go_at_call 100; refine (max_c B1 B2 B3 B4 x y z a b c _ HM.out _ (Kd.C_below HC.out B0.out)).mono ?_; rintro e w1 ⟨rfl, hB⟩; unfold T3; have F1 := kb F0 hB; have y0 : ∀ o, (w1.alloc o).cell? ⟨w.heap.size + 1 + 1, 0, none⟩ = some (.string fl) := fun o => (blk_cell (aN F1.out) 0).trans rfl; have y2 : ∀ o, (w1.alloc o).cell? ⟨w.heap.size + 1 + 1, 2, none⟩ = some (.string fs) := fun o => (blk_cell (aN F1.out) 2).trans rfl; have y3 : ∀ o, (w1.alloc o).cell? ⟨w.heap.size + 1 + 1, 3, none⟩ = some (.string fr) := fun o => (blk_cell (aN F1.out) 3).trans rfl))
  go_ret
  refine ⟨rfl, ?_⟩
  have h := B0.out.trans (hB.mono B0.out.size)
  repeat (first | exact h | refine below_alloc ?_ _ | refine below_set' ?_ (by have := h.size; omega))
 | true =>
  cases h1 : (a.toList == fl.toList)
  case' true => cases h2 : (b.toList == fs.toList)
  case' true.true => cases h3 : (c.toList == fr.toList)
  all_goals
   go_enter Tryz.func167, Tryz.ntmps167
   go_wp2_with (first
    | (rw [HW.out])
    | (go_at_call 100; refine (max_c B1 B2 B3 B4 x y z a b c _ HM.out _ (Kd.C_below HC.out B0.out)).mono ?_; rintro e w1 ⟨rfl, hB⟩; unfold T3; have F1 := kb F0 hB; have y0 : ∀ o, (w1.alloc o).cell? ⟨w.heap.size + 1 + 1, 0, none⟩ = some (.string fl) := fun o => (blk_cell (aN F1.out) 0).trans rfl; have y2 : ∀ o, (w1.alloc o).cell? ⟨w.heap.size + 1 + 1, 2, none⟩ = some (.string fs) := fun o => (blk_cell (aN F1.out) 2).trans rfl; have y3 : ∀ o, (w1.alloc o).cell? ⟨w.heap.size + 1 + 1, 3, none⟩ = some (.string fr) := fun o => (blk_cell (aN F1.out) 3).trans rfl))
   go_ret
   refine ⟨rfl, ?_⟩
   have h := B0.out.trans (hB.mono B0.out.size)
   repeat (first | exact h | refine below_alloc ?_ _ | refine below_set' ?_ (by have := h.size; omega))
def encK (u : K3) : Array Value := #[T3 u.1 u.2.1 u.2.2]
def trialsL (x y z : ByteArray) : List K3 := [(x, ⟨#[]⟩, ⟨#[]⟩), (x, ⟨#[]⟩, z), (x, y, ⟨#[]⟩), (x, y, z)]
theorem trials_seq (n : Nat) (hn : 1 ≤ n) (x y z : ByteArray) (pf ps L : Nat) (w0 : World) (hL : L < w0.heap.size) (hf : pf ≠ L) (h : w0.heap[pf]? = some (.cells (T3c x y z) 33 (0, 0))) (hs : w0.heap[ps]? = some (.cells #[.bool false] 4 (0, 0))) :
 SeqAll Fence.wide n Tryz.prog 217 #[.pointer (some ⟨ps, 0, none⟩), .pointer (some ⟨pf, 0, none⟩)] encK (KC L) (trialsL x y z) w0 := fun l J Jx W hW hJ hJx hY h0 => by
 have hut := Tryz.underlying33
 have hua := Tryz.underlying245
 have x0 : ∀ W : World, (Instr.index 245 (.agg #[.int .i64 3, .int .i64 1, .int .i64 2, .int .i64 0]) (.int .i64 0)).run Tryz.prog W = .ok (.int .i64 3) W := fun W => by kernel_rfl
 have x1 : ∀ W : World, (Instr.index 245 (.agg #[.int .i64 3, .int .i64 1, .int .i64 2, .int .i64 0]) (.int .i64 1)).run Tryz.prog W = .ok (.int .i64 1) W := fun W => by kernel_rfl
 have x2 : ∀ W : World, (Instr.index 245 (.agg #[.int .i64 3, .int .i64 1, .int .i64 2, .int .i64 0]) (.int .i64 2)).run Tryz.prog W = .ok (.int .i64 2) W := fun W => by kernel_rfl
 have x3 : ∀ W : World, (Instr.index 245 (.agg #[.int .i64 3, .int .i64 1, .int .i64 2, .int .i64 0]) (.int .i64 3)).run Tryz.prog W = .ok (.int .i64 0) W := fun W => by kernel_rfl
 have HF := Aside0.mk ((hW.block _ (lt_blk h)).trans h)
 have s0 : ∀ o, (W.alloc o).cell? ⟨ps, 0, none⟩ = some (.bool false) := fun o => (blk_cell (aN ((hW.block _ (lt_blk hs)).trans hs)) 0).trans rfl
 have HY := Aside0.mk hY
 have HJ := Aside0.mk hJ
 have HLW := Aside0.mk (Nat.lt_of_lt_of_le hL hW.size)
 have Hf := Aside0.mk hf
 have J0 := Aside0.mk (hJ.alloc (.cells #[.int .i64 3, .int .i64 1, .int .i64 2, .int .i64 0] 245) h0)
 have F0 : Aside0 ((W.alloc (.cells #[.int .i64 3, .int .i64 1, .int .i64 2, .int .i64 0] 245)).heap[pf]? = some (.cells (T3c x y z) 33 (0, 0))) := ⟨aN HF.out⟩
 have b0 : W.heap.size ≤ (W.alloc (.cells #[.int .i64 3, .int .i64 1, .int .i64 2, .int .i64 0] 245)).heap.size := by simp
 clear hY hJ hJx h hs hL hf h0 hW
 refine callsIn_of_wp Tryz.func217 rfl trivial ?_ rfl
 simp only [Tryz.ntmps217, List.size_toArray, List.length_cons, List.length_nil, Nat.reduceAdd, Nat.reduceSub, Array.replicate_succ, Array.replicate_zero, List.push_toArray, List.append_toArray, List.nil_append, List.cons_append]
 gi_wp2_with (fail)
 obtain ⟨W0, hW0⟩ : ∃ W0, W.alloc (.cells #[.int .i64 3, .int .i64 1, .int .i64 2, .int .i64 0] 245) = W0 := ⟨_, rfl⟩
 rw [hW0] at J0 F0 b0 ⊢
 have b_0 := Aside0.mk b0
 clear hW0 b0 s0
 refine wpIn_loop_rounds 5 ?_
 rw [roundsIn_succ]
 obtain ⟨z0, z1, z2, z3, z4, z5, z6, z7⟩ := cz8t F0.out
 gi_wp2_with (first
  | (refine ⟨trivial, callsIn_wide.2 (Calls.mono (without3_c x y z _) ?_)⟩; rintro e v0 ⟨rfl, hB⟩; have B0 := Aside0.mk hB; obtain ⟨fn, tmps, assign, body, hy, hR⟩ := HY.out [] (x, ⟨#[]⟩, ⟨#[]⟩) v0 (HJ.out.below J0.out hB) (by unfold trialsL; simp); simp only [encK] at hy; have HR := Aside0.mk hR; clear hR hB))
 refine HR.out.mono ?_
 have hb0 := Nat.le_trans b_0.out B0.out.size
 have hk0 := (B0.out.block _ (lt_blk F0.out)).trans F0.out
 clear hy HR z0 z1 z2 z3 z4 z5 z6 z7
 rintro e W1 (⟨rfl, hJ, hk⟩ | ⟨rfl, hJ⟩)
 case inr =>
  have HJx := Aside0.mk hJ
  clear hJ hb0 hk0
  gi_wp2_with (fail)
  refine bodyPost_ret (results_none rfl _ _ _) rfl ?_
  exact ⟨⟨_, rfl⟩, .inr ⟨_, by unfold trialsL; simp, HJx.out⟩⟩
 have J1 := Aside0.mk hJ
 have F1 := Aside0.mk (hk.same _ _ Hf.out hk0 rfl)
 have b_1 := Aside0.mk (Nat.le_trans hb0 hk.size)
 clear hJ hk hb0 hk0 F0 J0 b_0 B0
 gi_wp2_with (fail)
 rw [roundsIn_succ]
 obtain ⟨z0, z1, z2, z3, z4, z5, z6, z7⟩ := cz8t F1.out
 gi_wp2_with (first
  | (refine ⟨trivial, callsIn_wide.2 (Calls.mono (without1_c x y z _) ?_)⟩; rintro e v1 ⟨rfl, hB⟩; have B1 := Aside0.mk hB; obtain ⟨fn, tmps, assign, body, hy, hR⟩ := HY.out [(x, ⟨#[]⟩, ⟨#[]⟩)] (x, ⟨#[]⟩, z) v1 (HJ.out.below J1.out hB) (by unfold trialsL; simp); simp only [encK] at hy; have HR := Aside0.mk hR; clear hR hB))
 refine HR.out.mono ?_
 have hb1 := Nat.le_trans b_1.out B1.out.size
 have hk1 := (B1.out.block _ (lt_blk F1.out)).trans F1.out
 clear hy HR z0 z1 z2 z3 z4 z5 z6 z7
 rintro e W2 (⟨rfl, hJ, hk⟩ | ⟨rfl, hJ⟩)
 case inr =>
  have HJx := Aside0.mk hJ
  clear hJ hb1 hk1
  gi_wp2_with (fail)
  refine bodyPost_ret (results_none rfl _ _ _) rfl ?_
  exact ⟨⟨_, rfl⟩, .inr ⟨_, by unfold trialsL; simp, HJx.out⟩⟩
 have J2 := Aside0.mk hJ
 have F2 := Aside0.mk (hk.same _ _ Hf.out hk1 rfl)
 have b_2 := Aside0.mk (Nat.le_trans hb1 hk.size)
 clear hJ hk hb1 hk1 F1 J1 b_1 B1
 gi_wp2_with (fail)
 rw [roundsIn_succ]
 obtain ⟨z0, z1, z2, z3, z4, z5, z6, z7⟩ := cz8t F2.out
 gi_wp2_with (first
  | (refine ⟨trivial, callsIn_wide.2 (Calls.mono (without2_c x y z _) ?_)⟩; rintro e v2 ⟨rfl, hB⟩; have B2 := Aside0.mk hB; obtain ⟨fn, tmps, assign, body, hy, hR⟩ := HY.out [(x, ⟨#[]⟩, ⟨#[]⟩), (x, ⟨#[]⟩, z)] (x, y, ⟨#[]⟩) v2 (HJ.out.below J2.out hB) (by unfold trialsL; simp); simp only [encK] at hy; have HR := Aside0.mk hR; clear hR hB))
 refine HR.out.mono ?_
 have hb2 := Nat.le_trans b_2.out B2.out.size
 have hk2 := (B2.out.block _ (lt_blk F2.out)).trans F2.out
 clear hy HR z0 z1 z2 z3 z4 z5 z6 z7
 rintro e W3 (⟨rfl, hJ, hk⟩ | ⟨rfl, hJ⟩)
 case inr =>
  have HJx := Aside0.mk hJ
  clear hJ hb2 hk2
  gi_wp2_with (fail)
  refine bodyPost_ret (results_none rfl _ _ _) rfl ?_
  exact ⟨⟨_, rfl⟩, .inr ⟨_, by unfold trialsL; simp, HJx.out⟩⟩
 have J3 := Aside0.mk hJ
 have F3 := Aside0.mk (hk.same _ _ Hf.out hk2 rfl)
 have b_3 := Aside0.mk (Nat.le_trans hb2 hk.size)
 clear hJ hk hb2 hk2 F2 J2 b_2 B2
 gi_wp2_with (fail)
 rw [roundsIn_succ]
 obtain ⟨z0, z1, z2, z3, z4, z5, z6, z7⟩ := cz8t F3.out
 gi_wp2_with (first
  | (refine ⟨trivial, callsIn_wide.2 (Calls.mono (without0_c x y z _) ?_)⟩; rintro e v3 ⟨rfl, hB⟩; have B3 := Aside0.mk hB; obtain ⟨fn, tmps, assign, body, hy, hR⟩ := HY.out [(x, ⟨#[]⟩, ⟨#[]⟩), (x, ⟨#[]⟩, z), (x, y, ⟨#[]⟩)] (x, y, z) v3 (HJ.out.below J3.out hB) (by unfold trialsL; simp); simp only [encK] at hy; have HR := Aside0.mk hR; clear hR hB))
 refine HR.out.mono ?_
 have hb3 := Nat.le_trans b_3.out B3.out.size
 have hk3 := (B3.out.block _ (lt_blk F3.out)).trans F3.out
 clear hy HR z0 z1 z2 z3 z4 z5 z6 z7
 rintro e W4 (⟨rfl, hJ, hk⟩ | ⟨rfl, hJ⟩)
 case inr =>
  have HJx := Aside0.mk hJ
  clear hJ hb3 hk3
  gi_wp2_with (fail)
  refine bodyPost_ret (results_none rfl _ _ _) rfl ?_
  exact ⟨⟨_, rfl⟩, .inr ⟨_, by unfold trialsL; simp, HJx.out⟩⟩
 have J4 := Aside0.mk hJ
 have F4 := Aside0.mk (hk.same _ _ Hf.out hk3 rfl)
 have b_4 := Aside0.mk (Nat.le_trans hb3 hk.size)
 clear hJ hk hb3 hk3 F3 J3 b_3 B3
 gi_wp2_with (fail)
 rw [roundsIn_succ]
 gi_wp2_with (fail)
 go_end0
 exact ⟨⟨_, rfl⟩, .inl J4.out⟩
theorem trials_c (n : Nat) (x y z : ByteArray) (b : Bool) (w : World) : CallsIn Fence.wide n Tryz.prog 168 #[T3 x y z, .bool b] w fun e w' =>
 e = .returned (.func (.func 217) #[] #[.pointer (some ⟨w.heap.size + 1, 0, none⟩), .pointer (some ⟨w.heap.size, 0, none⟩)]) ∧ w' = (w.alloc (.cells (T3c x y z) 33)).alloc (.cells #[.bool b] 4) := by
 have hmf : ∀ (fn : Fn) (first cap : Array Value) (w : World), (Instr.makeFunc fn first cap).run Tryz.prog w = .ok (.func fn first cap) w := fun _ _ _ _ => rfl
 have hut := Tryz.underlying33
 unfold T3 T3c
 refine callsIn_of_wp Tryz.func168 rfl trivial ?_ rfl
 simp only [Tryz.ntmps168, List.size_toArray, List.length_cons, List.length_nil, Nat.reduceAdd, Nat.reduceSub, Array.replicate_succ, Array.replicate_zero, List.push_toArray, List.append_toArray, List.nil_append, List.cons_append]
 gi_wp2
 go_ret
 exact ⟨rfl, rfl⟩
theorem find_prefix {α : Type} {p : α → Bool} {pre L : List α} {u : α} (h : pre ++ [u] <+: L) (hp : ∀ v ∈ pre, p v = false) (hu : p u = true) : L.find? p = some u := by
 obtain ⟨t, rfl⟩ := h
 have h0 : pre.find? p = none := List.find?_eq_none.2 fun v hv => by rw [hp v hv]; decide
 simp [List.find?_append, h0, hu]
def sayB (f u : K3) : Bool := (maxP dRows u).2 && ((maxP dRows u).1.1.toList == f.1.toList && ((maxP dRows u).1.2.1.toList == f.2.1.toList && (maxP dRows u).1.2.2.toList == f.2.2.toList))
theorem says1_c (n : Nat) (B1 B2 B3 B4 : Nat) (f u : K3) (pi pf : Nat) (w : World) (hC : Kd.C k66 w (some ⟨B2, 0, none⟩) dRows.length dRows) (hi : w.heap[pi]? = some (.cells (imgC B1 B2 B3 B4) 51 (0, 0))) (hf : w.heap[pf]? = some (.cells (T3c f.1 f.2.1 f.2.2) 33 (0, 0))) :
 Calls Tryz.prog 166 #[T3 u.1 u.2.1 u.2.2, .pointer (some ⟨pi, 0, none⟩), .pointer (some ⟨pf, 0, none⟩)] w fun e w' => e = .returned (.bool (sayB f u)) ∧ Below w.heap.size w w' := by
 have hut := Tryz.underlying33
 have hui := Tryz.underlying51
 obtain ⟨W0, hW0⟩ : ∃ W0, W0 = w.alloc (.cells (T3c u.1 u.2.1 u.2.2) 33) := ⟨_, rfl⟩
 have b0 : Below w.heap.size w W0 := by rw [hW0]; exact below_alloc (Below.refl _ _) _
 have U0 : W0.heap[w.heap.size]? = some (.cells (T3c u.1 u.2.1 u.2.2) 33 (0, 0)) := by rw [hW0]; exact aZ rfl
 have F0 : W0.heap[pf]? = some (.cells (T3c f.1 f.2.1 f.2.2) 33 (0, 0)) := by rw [hW0]; exact aN hf
 have I0 : W0.heap[pi]? = some (.cells (imgC B1 B2 B3 B4) 51 (0, 0)) := by rw [hW0]; exact aN hi
 have HC := Aside0.mk (Kd.C_below hC b0)
 have HB := Aside0.mk b0
 obtain ⟨i0, i1, i2, i3, i4, i5⟩ := cz6 (show W0.heap[pi]? = some (.cells #[.slice (some ⟨B1, 0, none⟩) 54 54, .slice (some ⟨B2, 0, none⟩) 32 32, .slice (some ⟨B3, 0, none⟩) 15 15, .slice (some ⟨B4, 0, none⟩) 7 7, .int .i64 40, .int .i64 5] 51 (0, 0)) from I0)
 obtain ⟨z0, z1, z2, z3, z4, z5, z6, z7⟩ := cz8t U0
 obtain ⟨y0, y1, y2, y3, y4, y5, y6, y7⟩ := cz8t F0
 unfold T3c at hW0
 have HW := Aside0.mk hW0.symm
 clear hW0 b0 U0 F0 I0 hC hi hf
 unfold T3
 go_enter Tryz.func166, Tryz.ntmps166
 go_wp2_with (first
  | (rw [HW.out])
  | (go_at_call 167; refine (says_c B1 B2 B3 B4 u.1 u.2.1 u.2.2 (maxP dRows u).1.1 (maxP dRows u).1.2.1 (maxP dRows u).1.2.2 f.1 f.2.1 f.2.2 (maxP dRows u).2 rfl _ HC.out).mono ?_; rintro e w1 ⟨rfl, hB⟩))
 go_ret
 exact ⟨rfl, HB.out.trans (hB.mono HB.out.size)⟩
theorem minimize_c (B1 B2 B3 B4 : Nat) (x y z : ByteArray) (f : K3) (hm : maxP dRows (x, y, z) = (f, true)) (u : K3) (hu : (trialsL f.1 f.2.1 f.2.2).find? (sayB f) = some u) (w : World) (hC : Kd.C k66 w (some ⟨B2, 0, none⟩) dRows.length dRows) :
 Calls Tryz.prog 103 #[imgV B1 B2 B3 B4, T3 x y z, .bool false] w fun e w' => e = .returned (.tuple #[T3 u.1 u.2.1 u.2.2, .bool true]) ∧ Below w.heap.size w w' := by
 have hmf : ∀ (fn : Fn) (first cap : Array Value) (w : World), (Instr.makeFunc fn first cap).run Tryz.prog w = .ok (.func fn first cap) w := fun _ _ _ _ => rfl
 have hut := Tryz.underlying33
 have hui := Tryz.underlying51
 have HM := Aside0.mk hm
 have HU := Aside0.mk hu
 have HC := Aside0.mk hC
 clear hm hu hC
 obtain ⟨f1, f2, f3⟩ := f
 obtain ⟨N, hN⟩ : ∃ N, N = w.heap.size := ⟨_, rfl⟩
 obtain ⟨W0, hW0⟩ : ∃ W0, W0 = ((((w.alloc (.cells (imgC B1 B2 B3 B4) 51)).alloc (.cells (T3c x y z) 33)).alloc (.cells (T3c ⟨#[]⟩ ⟨#[]⟩ ⟨#[]⟩) 33)).alloc (.cells #[.bool false] 4)) := ⟨_, rfl⟩
 have I0 : Aside0 (W0.heap[N]? = some (.cells (imgC B1 B2 B3 B4) 51 (0, 0))) := ⟨by rw [hW0, hN]; exact aN (aN (aN (aZ rfl)))⟩
 have T0 : Aside0 (W0.heap[N + 1]? = some (.cells (T3c x y z) 33 (0, 0))) := ⟨by rw [hW0, hN]; exact aN (aN (aZ (by simp)))⟩
 have R0 : Aside0 (W0.heap[N + 1 + 1]? = some (.cells (T3c ⟨#[]⟩ ⟨#[]⟩ ⟨#[]⟩) 33 (0, 0))) := ⟨by rw [hW0, hN]; exact aN (aZ (by simp))⟩
 have S0 : Aside0 (W0.heap[N + 1 + 1 + 1]? = some (.cells #[.bool false] 4 (0, 0))) := ⟨by rw [hW0, hN]; exact aZ (by simp)⟩
 have B0 : Aside0 (Below N w W0) := ⟨by rw [hW0, hN]; exact below_alloc (below_alloc (below_alloc (below_alloc (Below.refl _ _) _) _) _) _⟩
 obtain ⟨i0, i1, i2, i3, i4, i5⟩ := cz6 (show W0.heap[N]? = some (.cells #[.slice (some ⟨B1, 0, none⟩) 54 54, .slice (some ⟨B2, 0, none⟩) 32 32, .slice (some ⟨B3, 0, none⟩) 15 15, .slice (some ⟨B4, 0, none⟩) 7 7, .int .i64 40, .int .i64 5] 51 (0, 0)) from I0.out)
 obtain ⟨z0, z1, z2, z3, z4, z5, z6, z7⟩ := cz8t T0.out
 unfold imgC T3c at hW0
 have HW := Aside0.mk hW0.symm
 have HN := Aside0.mk hN.symm
 clear hW0 hN
 unfold imgV T3
 refine (callsIn_wide (n := 4)).1 ?_
 refine callsIn_of_wp_marks Tryz.func103 rfl trivial ?_ rfl
 simp only [Tryz.ntmps103, List.size_toArray, List.length_cons, List.length_nil, Nat.reduceAdd, Nat.reduceSub, Array.replicate_succ, Array.replicate_zero, List.push_toArray, List.append_toArray, List.nil_append, List.cons_append]
 gi_wp2_with (first
  | (rw [HW.out, HN.out])
  | (refine ⟨trivial, callsIn_wide.2 (Calls.mono (max_c B1 B2 B3 B4 x y z f1 f2 f3 _ HM.out _ (Kd.C_below HC.out (by rw [HN.out]; exact B0.out))) ?_)⟩; rintro e w1 ⟨rfl, hB⟩; unfold T3; have HB1 := Aside0.mk hB; clear hB)
  | (refine ⟨trivial, ?_⟩; gi_at_call 168; refine (trials_c _ f1 f2 f3 false _).mono ?_; rintro e w2 ⟨rfl, rfl⟩))
 obtain ⟨M, hM⟩ : ∃ M, M = w1.heap.size := ⟨_, rfl⟩
 obtain ⟨W2, hW2⟩ : ∃ W2, ((((w1.alloc (.cells (T3c f1 f2 f3) 33)).alloc (.cells #[.func (.func 166) #[] #[.pointer (some ⟨N, 0, none⟩), .pointer (some ⟨M, 0, none⟩)]] 188)).alloc (.cells (T3c f1 f2 f3) 33)).alloc (.cells #[.bool false] 4)) = W2 := ⟨_, rfl⟩
 have b0 : W2.heap[M]? = some (.cells (T3c f1 f2 f3) 33 (0, 0)) := by rw [← hW2, hM]; exact aN (aN (aN (aZ rfl)))
 have b1 : W2.heap[M + 1]? = some (.cells #[.func (.func 166) #[] #[.pointer (some ⟨N, 0, none⟩), .pointer (some ⟨M, 0, none⟩)]] 188 (0, 0)) := by rw [← hW2, hM]; exact aN (aN (aZ (by simp)))
 have b2 : W2.heap[M + 1 + 1]? = some (.cells (T3c f1 f2 f3) 33 (0, 0)) := by rw [← hW2, hM]; exact aN (aZ (by simp))
 have b3 : W2.heap[M + 1 + 1 + 1]? = some (.cells #[.bool false] 4 (0, 0)) := by rw [← hW2, hM]; exact aZ (by simp)
 have s2 : W2.heap.size = M + 1 + 1 + 1 + 1 := by rw [← hW2, hM]; simp
 have hb12 : Below w1.heap.size w1 W2 := by rw [← hW2]; exact below_alloc (below_alloc (below_alloc (below_alloc (Below.refl _ _) _) _) _) _
 have hb02 : Below W0.heap.size W0 W2 := HB1.out.trans (hb12.mono HB1.out.size)
 have n0 : W2.heap[N]? = _ := (hb02.block _ (lt_blk I0.out)).trans I0.out
 have n2 : W2.heap[N + 1 + 1]? = _ := (hb02.block _ (lt_blk R0.out)).trans R0.out
 have n3 : W2.heap[N + 1 + 1 + 1]? = _ := (hb02.block _ (lt_blk S0.out)).trans S0.out
 have hbN : Below N w W2 := B0.out.trans (hb02.mono (by have := lt_blk I0.out; omega))
 have hNM : N + 1 + 1 + 1 < M := by have h1 := lt_blk S0.out; have h2 := HB1.out.size; omega
 unfold T3c at hW2 ⊢
 rw [← hM, hW2]
 have HM1 := Aside0.mk hM.symm
 clear hW2 hM hb12 hb02
 refine range_all rfl (by omega) (gf := 217) (lb := #[.pointer (some ⟨M + 1 + 1 + 1, 0, none⟩), .pointer (some ⟨M + 1 + 1, 0, none⟩)]) rfl trivial (enters_of Tryz.func217 (by kernel_rfl) rfl)
  (trials_seq _ (by omega) f1 f2 f3 (M + 1 + 1) (M + 1 + 1 + 1) (N + 1 + 1) W2 (by omega) (by omega) b2 b3)
  KC.trans (fun W lw o o' _ h h1 _ => KC.put _ W lw o o' h h1) (Below.refl _ _) (fun _ => rfl)
  (fun (pre : List K3) W => (∀ v ∈ pre, sayB (f1, f2, f3) v = false) ∧ W.heap[N]? = some (.cells (imgC B1 B2 B3 B4) 51 (0, 0)) ∧ W.heap[N + 1 + 1]? = some (.cells (T3c ⟨#[]⟩ ⟨#[]⟩ ⟨#[]⟩) 33 (0, 0)) ∧ W.heap[N + 1 + 1 + 1]? = some (.cells #[.bool false] 4 (0, 0)) ∧ W.heap[M]? = some (.cells (T3c f1 f2 f3) 33 (0, 0)) ∧ W.heap[M + 1]? = some (.cells #[.func (.func 166) #[] #[.pointer (some ⟨N, 0, none⟩), .pointer (some ⟨M, 0, none⟩)]] 188 (0, 0)) ∧ Below N w W)
  (fun c pre W => c = .ret ∧ W.heap[N + 1 + 1]? = some (.cells (T3c u.1 u.2.1 u.2.2) 33 (0, 0)) ∧ W.heap[N + 1 + 1 + 1]? = some (.cells #[.bool true] 4 (0, 0)) ∧ Below N w W)
  (fun pre A B row ⟨i0, i1, i2, i3, i4, i5, i6⟩ hg hr => ⟨i0, (hg.block _ (lt_blk i1) (fun e => by have := hr _ e.symm; omega)).trans i1, (hg.block _ (lt_blk i2) (fun e => by have := hr _ e.symm; omega)).trans i2, (hg.block _ (lt_blk i3) (fun e => by have := hr _ e.symm; omega)).trans i3, (hg.block _ (lt_blk i4) (fun e => by have := hr _ e.symm; omega)).trans i4, (hg.block _ (lt_blk i5) (fun e => by have := hr _ e.symm; omega)).trans i5, i6.grown hg (by have := lt_blk i1; omega) (fun r e => by have := hr r e; omega)⟩)
  (fun c pre A B row ⟨i0, i2, i3, i6⟩ hg hr => ⟨i0, (hg.block _ (lt_blk i2) (fun e => by have := hr _ e.symm; omega)).trans i2, (hg.block _ (lt_blk i3) (fun e => by have := hr _ e.symm; omega)).trans i3, i6.grown hg (by have := lt_blk i3; omega) (fun r e => by have := hr r e; omega)⟩)
  ⟨fun v hv => by simp at hv, n0, n2, n3, b0, b1, hbN⟩ ?round ?done ?stop
 case round =>
  rintro lp pre ⟨u1, u2, u3⟩ W K hlp ⟨i0, i1, i2, i3, i4, i5, i6⟩ hpre hK
  have eg := enters_of Tryz.func166 (by kernel_rfl) rfl
  unfold Enters at eg
  simp only [encK]
  unfold T3
  have J1 := Aside0.mk i1
  have J2 := Aside0.mk i2
  have J3 := Aside0.mk i3
  have J4 := Aside0.mk i4
  have J5 := Aside0.mk i5
  have J6 := Aside0.mk i6
  have J0 := Aside0.mk i0
  have Hp := Aside0.mk hpre
  have SZ := Aside0.mk s2
  clear i0 i1 i2 i3 i4 i5 i6 hpre s2 b0 b1 b2 b3 n0 n2 n3 hbN
  gi_wp2
  have hu0 : (W.alloc (.cells (T3c u1 u2 u3) 33)).heap[W.heap.size]? = some (.cells (T3c u1 u2 u3) 33 (0, 0)) := aZ rfl
  have hb0 : Below W.heap.size W (W.alloc (.cells (T3c u1 u2 u3) 33)) := below_alloc (Below.refl _ _) _
  unfold T3c at hu0 hb0
  refine hK _ _ ((ko_below hb0).from _) (KC.below hb0) ?_
  rintro W3 ⟨r, o, hr, hW3, ⟨q, hq, hqc⟩, hoc⟩
  have hrne : ∀ (k : Nat) (o' : Obj), (W.alloc (.cells #[.string u1, .slice none 0 0, .string u2, .string u3, .slice none 0 0, .slice none 0 0, .slice none 0 0, .string ⟨#[]⟩] 33)).heap[k]? = some o' → o'.isCells = true → W3.heap[k]? = some o' := fun k o' h1 h2 => by
   rw [hW3]
   refine (World.putObj_heap_other ?_).trans h1
   rintro rfl
   rw [hq] at h1
   cases h1
   rw [hqc] at h2
   cases h2
  have U3 := Aside0.mk (hrne _ _ hu0 rfl)
  have L1 := Aside0.mk (hrne _ _ ((hb0.block _ (lt_blk J1.out)).trans J1.out) rfl)
  have L2 := Aside0.mk (hrne _ _ ((hb0.block _ (lt_blk J2.out)).trans J2.out) rfl)
  have L3 := Aside0.mk (hrne _ _ ((hb0.block _ (lt_blk J3.out)).trans J3.out) rfl)
  have L4 := Aside0.mk (hrne _ _ ((hb0.block _ (lt_blk J4.out)).trans J4.out) rfl)
  have L5 := Aside0.mk (hrne _ _ ((hb0.block _ (lt_blk J5.out)).trans J5.out) rfl)
  have hs := SZ.out
  have B3' : Aside0 (Below N w W3) := ⟨by rw [hW3]; have h1 := J6.out.size; have h2 := hb0.size; have h3 := HN.out; have h4 := lt_blk J4.out; exact below_putM (by omega) (by omega) (J6.out.trans (hb0.mono (by omega))) (by omega) _⟩
  clear hu0 hb0 hW3 hq hqc hoc hrne hK J1 J2 J3 J4 J5 J6 hs
  obtain ⟨z0, z1, z2, z3, z4, z5, z6, z7⟩ := cz8t U3.out
  have l5 := (blk_cell L5.out 0).trans rfl
  refine wpIn_block ?_
  gi_wp2_with (fail)
  refine ⟨trivial, CallsIn.inRound lp (callsIn_wide.2 (Calls.mono (says1_c 0 B1 B2 B3 B4 (f1, f2, f3) (u1, u2, u3) N M _ (Kd.C_below HC.out (by rw [HN.out]; exact B3'.out)) L1.out L4.out) ?_))⟩
  rintro e w5 ⟨rfl, hb5⟩
  have B5 := Aside0.mk hb5
  clear hb5
  cases hsay : sayB (f1, f2, f3) (u1, u2, u3) with
  | false =>
   have HS := Aside0.mk hsay
   clear hsay
   gi_wp2_with (fail)
   have hb5 := B5.out
   have hbN := B3'.out.trans (hb5.mono (by have h1 := lt_blk L4.out; omega))
   exact ⟨(ko_below hb5).from _, KC.below hb5, fun v hv => by
    rcases List.mem_append.1 hv with h | h
    · exact J0.out v h
    · rw [List.mem_singleton.1 h]; exact HS.out, (hb5.block _ (lt_blk L1.out)).trans L1.out, (hb5.block _ (lt_blk L2.out)).trans L2.out, (hb5.block _ (lt_blk L3.out)).trans L3.out, (hb5.block _ (lt_blk L4.out)).trans L4.out, (hb5.block _ (lt_blk L5.out)).trans L5.out, hbN⟩
  | true =>
   have he : u = (u1, u2, u3) := by
    have h1 := HU.out.symm.trans (find_prefix Hp.out J0.out hsay)
    cases h1
    rfl
   have HE := Aside0.mk he
   clear he hsay
   have hb5 := B5.out
   have U5 := Aside0.mk ((hb5.block _ (lt_blk U3.out)).trans U3.out)
   have R5 := Aside0.mk ((hb5.block _ (lt_blk L2.out)).trans L2.out)
   have S5 := Aside0.mk ((hb5.block _ (lt_blk L3.out)).trans L3.out)
   have BN := Aside0.mk (B3'.out.trans (hb5.mono (by have h1 := lt_blk L4.out; omega)))
   clear hb5 z0 z1 z2 z3 z4 z5 z6 z7 l5
   obtain ⟨z0, z1, z2, z3, z4, z5, z6, z7⟩ := cz8t U5.out
   obtain ⟨y0, y1, y2, y3, y4, y5, y6, y7⟩ := cz8t R5.out
   obtain ⟨g0, g1, g2, g3, g4, g5, g6, g7⟩ := fz8t R5.out
   have c5 := (blk_cell S5.out 0).trans rfl
   have d5 := blk_frozen S5.out 0
   gi_wp2_with (fail)
   rw [putTag_eq]
   have hS6 := (putTag_far (W := w5) u1 u2 u3 (show N + 1 + 1 + 1 ≠ N + 1 + 1 by omega)).trans S5.out
   have hT6 := put_tag R5.out u1 u2 u3
   refine ⟨(((ko_below B5.out).trans (KeepsOthers.of_grownBy (putTag_grown w5 _ u1 u2 u3) (fun k o e ho => by cases e; rw [R5.out] at ho; cases ho; rfl))).trans (KeepsOthers.of_grownBy (grown_setCell _ _ _ _) (fun k o e ho => by cases e; rw [hS6] at ho; cases ho; rfl))).from _, rfl, ?_, blk_put hS6 0 _ rfl, below_set' (putTag_below BN.out (by omega) _ _ _) (by omega)⟩
   rw [HE.out]
   exact blk_far hT6 (by simp) _
 case done =>
  rintro D W hD ⟨i0, -⟩ hK
  have h1 := List.find?_some HU.out
  have h2 := i0 u (List.mem_of_find?_eq_some HU.out)
  rw [h1] at h2
  cases h2
 case stop =>
  rintro D c pre W hD _ ⟨rfl, i2, i3, i6⟩ hK
  refine wpIn_ret ?_
  simp only [Exit.inBlock, Exit.then]
  have h0 := HN.out
  have h1 := lt_blk b0
  refine ⟨by simp, .inl ⟨D, _, rfl, run_takeDeferred hK, ?_⟩⟩
  obtain ⟨W8, hW8⟩ : ∃ W8, W8 = W.putObj D (.deferred none) := ⟨_, rfl⟩
  have T8 : W8.heap[N + 1 + 1]? = some (.cells (T3c u.1 u.2.1 u.2.2) 33 (0, 0)) := by rw [hW8]; exact (World.putObj_heap_other (by omega)).trans i2
  have S8 : W8.heap[N + 1 + 1 + 1]? = some (.cells #[.bool true] 4 (0, 0)) := by rw [hW8]; exact (World.putObj_heap_other (by omega)).trans i3
  have B8 : Below w.heap.size w W8 := by
   rw [hW8, h0]
   exact i6.trans (belowK_b (w := w) (by omega) _ D _ _ (by omega) hK rfl rfl)
  obtain ⟨c0, c1, c2, c3, c4, c5, c6, c7⟩ := cz8t T8
  have d0 := (blk_cell S8 0).trans rfl
  rw [← hW8]
  show ∃ v, _ ∧ _
  refine ⟨.tuple #[T3 u.1 u.2.1 u.2.2, .bool true], ?_, rfl, B8⟩
  unfold T3
  simp [results, Tryz.results103, asAddr, c0, c1, c2, c3, c4, c5, c6, c7, d0, hut, go_sem]
end Go.Proofs.YtpmcfckechjppaaGreatDoor.Ps
namespace Go.Proofs.YtpmcfckechjppaaGreatDoor.Ps
open Go.RowKit Go.Shelf Go.Proofs.YtpmcfckechjppaaGreatDoorW.PrintWords Go.Proofs.YtpmcfckechjppaaGreatDoorW.PrintLast Go.Proofs.YtpmcfckechjppaaGreatDoorW.PrintMore Go.Proofs.YtpmcfckechjppaaGreatDoor.P Go.Proofs.YtpmcfckechjppaaGreatDoor.LikW
open Go.Proofs.YtpmcfckechjppaaGreatDoor.Each Go.Proofs.YtpmcfckechjppaaGreatDoor.Base Go.Proofs.YtpmcfckechjppaaGreatDoor.Pure
attribute [local go_sem] Oper.semAt_some
set_option linter.unusedVariables false
set_option linter.unusedSimpArgs false
set_option maxRecDepth 100000
set_option maxHeartbeats 8000000
def wordB (i : Int) (p : ByteArray) : Bool := decide (p.size ≤ 8) && (clsL (bytesOf p) == 1 || (decide (0 < i) && clsL (bytesOf p) != 0))
def anyB (p : ByteArray) : Bool := p.toList == ([42] : List UInt8)
def basicB (s : ByteArray) : Bool := anyB s || (eachP s).all fun x => wordB x.1 x.2
def extB (s : ByteArray) : Bool := (eachP s).all fun x => anyB x.2 || wordB x.1 x.2
theorem word_ev (i : Int) (p : ByteArray) : Ev (fun k => filter_word.f k i p) (wordB i p) := by
 unfold filter_word.f wordB
 by_cases h : p.size ≤ 8
 · refine Ev.ite_pos (by omega) ?_
   refine Ev.bind (Alpha_ev p (by omega)) ?_
   by_cases h1 : clsL (bytesOf p) = 1
   · simp only [h1, h]
     exact Ev.const (by simp)
   · have e1 : (clsL (bytesOf p) == 1) = false := by simpa using h1
     simp only [e1]
     refine Ev.ite_neg (by simp) ?_
     by_cases h2 : i > 0
     · refine Ev.ite_pos h2 (Ev.bind (Alnum_ev p (by omega)) (Ev.const ?_))
       simp [h, h2]
     · refine Ev.ite_neg h2 (Ev.const ?_)
       simp [h2]
 · refine Ev.ite_neg (by omega) (Ev.const ?_)
   simp [h]
theorem word_c (i : Int) (p : ByteArray) (w : World) : Calls Tryz.prog 155 #[.int .i64 i, .string p] w fun e w' => e = .returned (.bool (wordB i p)) ∧ Below w.heap.size w w' := by
 obtain ⟨k, hk⟩ := word_ev i p
 refine (filter_word.calls k i p _ w (hk k (Nat.le_refl _))).mono ?_
 rintro e w' ⟨rfl, h⟩
 exact ⟨rfl, h.below⟩
theorem lit_c (i : Int) (p : ByteArray) (w : World) : Calls Tryz.prog 156 #[.int .i64 i, .string p] w fun e w' => e = .returned (.bool (anyB p || wordB i p)) ∧ Below w.heap.size w w' := by
 go_enter Tryz.func156, Tryz.ntmps156
 cases h : (p.toList == ([42] : List UInt8)) with
 | true =>
  go_wp2
  go_ret
  exact ⟨by simp [anyB, h], Below.refl _ _⟩
 | false =>
  go_wp2_with (first | (with_reducible refine (word_c i p _).mono ?_; rintro e w1 ⟨rfl, hb⟩))
  go_ret
  exact ⟨by simp [anyB, h], hb⟩
theorem basic_c (s : ByteArray) (hs : s.size ≤ 900000) (w : World) : Calls Tryz.prog 80 #[.string s] w fun e w' => e = .returned (.bool (basicB s)) ∧ Below w.heap.size w w' := by
 have hP : ∀ W, Calls Tryz.prog 154 #[.string s, .func (.func 155) #[] #[]] W fun e w' => e = .returned (.bool ((eachP s).all (fun x => wordB x.1 x.2))) ∧ Below W.heap.size W w' :=
  fun W => pieces_c s hs 155 (enters_of Tryz.func155 (by kernel_rfl) rfl) (fun x => wordB x.1 x.2) (fun x _ W => word_c x.1 x.2 W) W
 go_enter Tryz.func80, Tryz.ntmps80
 cases h : (s.toList == ([42] : List UInt8)) with
 | true =>
  go_wp2
  go_ret
  exact ⟨by simp [basicB, anyB, h], Below.refl _ _⟩
 | false =>
  go_wp2_with (first | (with_reducible refine (hP _).mono ?_; rintro e w1 ⟨rfl, hb⟩))
  go_ret
  exact ⟨by simp [basicB, anyB, h], hb⟩
theorem extended_c (s : ByteArray) (hs : s.size ≤ 900000) (w : World) : Calls Tryz.prog 85 #[.string s] w fun e w' => e = .returned (.bool (extB s)) ∧ Below w.heap.size w w' := by
 have hP : ∀ W, Calls Tryz.prog 154 #[.string s, .func (.func 156) #[] #[]] W fun e w' => e = .returned (.bool ((eachP s).all (fun x => anyB x.2 || wordB x.1 x.2))) ∧ Below W.heap.size W w' :=
  fun W => pieces_c s hs 156 (enters_of Tryz.func156 (by kernel_rfl) rfl) (fun x => anyB x.2 || wordB x.1 x.2) (fun x _ W => lit_c x.1 x.2 W) W
 go_enter Tryz.func85, Tryz.ntmps85
 go_wp2_with (first | (with_reducible refine (hP _).mono ?_; rintro e w1 ⟨rfl, hb⟩))
 go_ret
 exact ⟨rfl, hb⟩
def MapT (W : World) (b : Nat) (ps : List (ByteArray × Int)) : Prop := ∃ (es : Array MapEntry) (c : Nat), W.heap[b]? = some (.map es c) ∧ es.toList.map (fun e => (e.key, e.val)) = ps.map fun p => (Value.string p.1, Value.int .i64 p.2)
def findT (k : ByteArray) (ps : List (ByteArray × Int)) : Option Int := (ps.find? fun p => k == p.1).map (·.2)
theorem find_now (k : ByteArray) : ∀ (l : List MapEntry) (ps : List (ByteArray × Int)) (i : Nat), l.map (fun e => (e.key, e.val)) = ps.map (fun p => (Value.string p.1, Value.int .i64 p.2)) → ∃ r, Instr.findNow .string (.string k) l i = some r ∧ r.map (·.2) = (findT k ps).map (Value.int .i64)
 | [], ps, i, h => by
  cases ps with
  | nil => exact ⟨none, rfl, rfl⟩
  | cons p ps => cases h
 | e :: l, ps, i, h => by
  cases ps with
  | nil => cases h
  | cons p ps =>
   simp only [List.map_cons, List.cons.injEq, Prod.mk.injEq] at h
   obtain ⟨⟨h1, h2⟩, h3⟩ := h
   unfold Instr.findNow findT
   rw [h1, List.find?_cons]
   cases hb : k == p.1 with
   | true => exact ⟨some (i, e.val), by simp [Instr.sameNow, hb], by simp [h2]⟩
   | false =>
    obtain ⟨r, hr, he⟩ := find_now k l ps (i + 1) h3
    exact ⟨r, by simp [Instr.sameNow, hb, hr], he⟩
theorem lookT {W : World} {b : Nat} {ps : List (ByteArray × Int)} (h : MapT W b ps) (k : ByteArray) :
 (Instr.lookup 114 (.map (some b)) (.string k) true).run Tryz.prog W = .ok (.tuple #[.int .i64 ((findT k ps).getD 0), .bool (findT k ps).isSome]) W := by
 obtain ⟨es, c, h, hm⟩ := h
 obtain ⟨r, hr, he⟩ := find_now k es.toList ps 0 hm
 have hT := Tryz.underlying114
 have hK := Tryz.underlying9
 have hc : (Instr.checkKey es.isEmpty 10000 9 (.string k)).run Tryz.prog W = .ok () W := MapKept.run_checkKey (k := .string k) hK (by simp [MapKept.IsKey]) _ 9999
 have hz : (zeroValue 3).run Tryz.prog W = .ok (.int .i64 0) W := by kernel_rfl
 cases r with
 | none =>
  have hn : findT k ps = none := by cases hf : findT k ps with | none => rfl | some x => rw [hf] at he; cases he
  rw [hn]
  simp [Instr.lookup, run_underlying hT, MapKept.run_getObj_map h, hc, MapKept.run_findKey hK hr, Result.andThen, hz]
 | some x =>
  obtain ⟨y, hy, hv⟩ : ∃ y, findT k ps = some y ∧ x.2 = .int .i64 y := by
   cases hf : findT k ps with
   | none => rw [hf] at he; cases he
   | some y => rw [hf] at he; exact ⟨y, rfl, Option.some.inj he⟩
  rw [hy]
  simp [Instr.lookup, run_underlying hT, MapKept.run_getObj_map h, hc, MapKept.run_findKey hK hr, Result.andThen, hv]
theorem updT {W : World} {b : Nat} {ps : List (ByteArray × Int)} (h : MapT W b ps) (k : ByteArray) (v : Int) (hn : findT k ps = none) :
 ∃ W', (Instr.mapUpdate 114 (.map (some b)) (.string k) (.int .i64 v)).run Tryz.prog W = .ok () W' ∧ MapT W' b (ps ++ [(k, v)]) ∧ ∃ o, W' = W.putObj b o := by
 obtain ⟨es, c, h, hm⟩ := h
 obtain ⟨r, hr, he⟩ := find_now k es.toList ps 0 hm
 rw [hn] at he
 have hr0 : r = none := by cases r with | none => rfl | some x => cases he
 subst hr0
 refine ⟨_, run_updG Tryz.underlying114 Tryz.underlying9 (by simp [MapKept.IsKey]) h (.int .i64 v) hr, ⟨_, _, put_heapM h _, ?_⟩, _, rfl⟩
 simp [hm]
theorem MapT.below {W W' : World} {b : Nat} {ps : List (ByteArray × Int)} (h : MapT W b ps) (hb : Below W.heap.size W W') : MapT W' b ps := by
 obtain ⟨es, c, h, e⟩ := h
 exact ⟨es, c, (hb.block _ (lt_blk h)).trans h, e⟩
theorem MapT.lt {W : World} {b : Nat} {ps : List (ByteArray × Int)} (h : MapT W b ps) : b < W.heap.size := by
 obtain ⟨es, c, h, e⟩ := h
 exact lt_blk h
def addP (ps : List (ByteArray × Int)) (t : ByteArray) (i : Nat) : List (ByteArray × Int) := if (findT (lowS t) ps).isSome = true then ps else ps ++ [(lowS t, (i : Int))]
def placesT (l : List ByteArray) : List (ByteArray × Int) := l.zipIdx.foldl (fun ps x => addP ps x.1 x.2) []
theorem places_snoc (l : List ByteArray) (i : Nat) (t : ByteArray) (h : l[i]? = some t) : placesT (l.take (i + 1)) = addP (placesT (l.take i)) t i := by
 have hi : i < l.length := (List.getElem?_eq_some_iff.1 h).1
 unfold placesT
 rw [List.take_add_one, h, Option.toList_some, List.zipIdx_append, List.foldl_append, List.length_take, Nat.min_eq_left (by omega)]
 simp
theorem places_c (tags : List ByteArray) (A : Option Addr) (cA : Nat) (w : World) (hl : tags.length ≤ 1000000) (hs : ∀ t ∈ tags, t.size ≤ 900000) (hA : Kd.C Kd.string w A tags.length tags) :
 Calls Tryz.prog 86 #[.slice A tags.length cA] w fun e w' => ∃ b, e = .returned (.map (some b)) ∧ w.heap.size ≤ b ∧ MapT w' b (placesT tags) ∧ Below w.heap.size w w' := by
 have HA := Aside0.mk hA
 have HS := Aside0.mk hs
 have HL := Aside0.mk hl
 have hm : ∀ W : World, (Instr.makeMap 114 none).run Tryz.prog W = .ok (.map (some W.heap.size)) (W.alloc (.map #[] 0)) := fun W => run_makeMap_plain W _
 have h0 : MapT (w.alloc (.map #[] 0)) w.heap.size [] := ⟨#[], 0, World.alloc_heap_new w _, rfl⟩
 have B0 : Below w.heap.size w (w.alloc (.map #[] 0)) := (Below.refl _ w).alloc (Nat.le_refl _) _
 have H0 := Aside0.mk h0
 have HB0 := Aside0.mk B0
 clear hA hs hl h0 B0
 go_enter Tryz.func86, Tryz.ntmps86
 go_wp2
 clear hm
 go_loopw [12] (fun vi wr => ∃ (i : Nat), vi = .int .i64 (i : Int) ∧ i ≤ tags.length ∧ Aside0 (MapT wr w.heap.size (placesT (tags.take i))) ∧ Aside0 (Below w.heap.size w wr)) (fun vi _ => tags.length - (intOf vi).toNat)
 case atStart => exact ⟨0, rfl, Nat.zero_le _, H0, HB0⟩
 case round =>
  clear H0 HB0
  obtain ⟨i, rfl, hi, HM, HB⟩ := hrel
  by_cases hlt : i < tags.length
  · obtain ⟨ad, e, x0⟩ := Kd.at_string HA.out (i : Int) (by omega) (by omega)
    cases e
    have x1 := (HB.out.cell (World.block_lt_of_cell? w _ x0)).trans x0
    obtain ⟨t, ht⟩ : ∃ t, t = rdOf ByteArray.empty tags (i : Int) := ⟨_, rfl⟩
    rw [← ht] at x0 x1
    simp only [Int.toNat_natCast] at x0 x1
    have ht2 : tags[i]? = some t := by rw [ht]; simp [rdOf, List.getD_eq_getElem?_getD, List.getElem?_eq_getElem hlt]
    have hts := HS.out t (List.mem_of_getElem? ht2)
    have HSN := Aside0.mk (places_snoc tags i t ht2)
    have hlo : ascii_Lower.f t = some (lowS t) := Lower_eq t (by omega)
    have HLO := Aside0.mk hlo
    clear ht ht2 x0 hlo
    have d1 : decide ((i : Int) < (tags.length : Int)) = true := decide_eq_true (by omega)
    have m0 : (0 : Int) ≤ (i : Int) := by omega
    have m1 : (i : Int) < (tags.length : Int) := by omega
    have m2 : i < tags.length := hlt
    have wi : wrap64 ((i : Int) + 1) = (i : Int) + 1 := by unfold wrap64; have := HL.out; omega
    obtain ⟨q, hq⟩ : ∃ q, lowS t = q := ⟨_, rfl⟩
    rw [hq] at HLO
    obtain ⟨ps, hps⟩ : ∃ ps, placesT (tags.take i) = ps := ⟨_, rfl⟩
    rw [hps] at HM HSN
    unfold addP at HSN
    rw [hq] at HSN
    clear hq hps
    cases hf : findT q ps with
    | some y =>
     rw [hf] at HSN
     have HF := Aside0.mk hf
     clear hf
     go_wp2_with (first
      | (with_reducible refine (ascii_Lower.calls t q _ HLO.out).mono ?_; rintro e w1 ⟨rfl, hb⟩; have HM1 := Aside0.mk (HM.out.below hb); have HB1 := Aside0.mk (HB.out.trans (hb.mono HB.out.size)); have hlk := lookT HM1.out q; rw [HF.out] at hlk; clear HM HB hb))
     go_roundw
     case rel => exact ⟨i + 1, by rw [wi]; simp, by omega, ⟨by rw [HSN.out]; exact HM1.out⟩, HB1⟩
     case measure => rw [wi]; simp [intOf]; omega
    | none =>
     rw [hf] at HSN
     have HF := Aside0.mk hf
     clear hf
     go_wp2_with (first
      | (with_reducible refine (ascii_Lower.calls t q _ HLO.out).mono ?_; rintro e w1 ⟨rfl, hb⟩; have HM1 := Aside0.mk (HM.out.below hb); have HB1 := Aside0.mk (HB.out.trans (hb.mono HB.out.size)); have hlk := lookT HM1.out q; rw [HF.out] at hlk; obtain ⟨W2, hup, hm2, o, ho⟩ := updT HM1.out q (i : Int) HF.out; have HM2 := Aside0.mk hm2; have HO := Aside0.mk ho; clear HM HB hb hm2 ho))
     go_roundw
     case rel => exact ⟨i + 1, by rw [wi]; simp, by omega, ⟨by rw [HSN.out]; exact HM2.out⟩, ⟨by rw [HO.out]; exact below_putM (Nat.le_refl _) (Nat.le_refl _) HB1.out HB1.out.size _⟩⟩
     case measure => rw [wi]; simp [intOf]; omega
  · obtain rfl : i = tags.length := by omega
    have d1 : decide ((tags.length : Int) < (tags.length : Int)) = false := decide_eq_false (by omega)
    have ho := HM.out
    rw [List.take_length] at ho
    have HM2 := Aside0.mk ho
    clear ho
    go_wp2
    go_ret
    exact ⟨_, rfl, Nat.le_refl _, HM2.out, HB.out⟩
end Go.Proofs.YtpmcfckechjppaaGreatDoor.Ps
namespace Go.Proofs.YtpmcfckechjppaaGreatDoor.P
open Go.RowKit Go.Shelf Go.Proofs.YtpmcfckechjppaaGreatDoorW.PrintWords Go.Proofs.YtpmcfckechjppaaGreatDoorW.PrintLast Go.Proofs.YtpmcfckechjppaaGreatDoorW.PrintMore
set_option linter.unusedVariables false
set_option maxRecDepth 100000
set_option maxHeartbeats 8000000
theorem scope_body {P : Program} {f : Func} {Q : Ending → World → Prop} {c : Code} {a : Act} {w : World} (h : c.wp P (bodyPost P f Q) a w) : (Code.scope c).wp P (bodyPost P f Q) a w := by
 refine wp_scope_straight ?_
 have e : Exit.noGoto (bodyPost P f Q) = bodyPost P f Q := by
  funext e a w
  cases e <;> rfl
 rw [e]
 exact h
open Go.Proofs.YtpmcfckechjppaaGreatDoor.Ps in
def split_Split.f (a0 : ByteArray) : Option (List ByteArray) := if a0.size ≤ 900000 then some ((eachP a0).map Prod.snd) else none
theorem split_Split.calls (a0 : ByteArray) (r : List ByteArray) (w : World) (h : split_Split.f a0 = some r) :
 Calls Tryz.prog 84 #[.string a0] w fun e w' => ∃ v0_ : Value, e = .returned (v0_) ∧ Kd.R Kd.string 9 w' w.heap.size (fun _ => True) v0_ r ∧ Below w.heap.size w w' := by
 unfold split_Split.f at h
 split at h
 · rename_i hs
   cases h
   refine (Ps.split_c a0 hs w).mono ?_
   rintro e w' ⟨v, rfl, ho, hb⟩
   exact ⟨v, rfl, Kd.R_of_own ho (fun _ _ => trivial), hb⟩
 · cases h
def filter_Basic.f (a0 : ByteArray) : Option (Bool) := if a0.size ≤ 900000 then some (Ps.basicB a0) else none
theorem filter_Basic.calls (a0 : ByteArray) (r : Bool) (w : World) (h : filter_Basic.f a0 = some r) :
 Calls Tryz.prog 80 #[.string a0] w fun e w' => e = .returned (.bool r) ∧ Below w.heap.size w w' := by
 unfold filter_Basic.f at h
 split at h
 · rename_i hs
   cases h
   exact Ps.basic_c a0 hs w
 · cases h
def filter_Extended.f (a0 : ByteArray) : Option (Bool) := if a0.size ≤ 900000 then some (Ps.extB a0) else none
theorem filter_Extended.calls (a0 : ByteArray) (r : Bool) (w : World) (h : filter_Extended.f a0 = some r) :
 Calls Tryz.prog 85 #[.string a0] w fun e w' => e = .returned (.bool r) ∧ Below w.heap.size w w' := by
 unfold filter_Extended.f at h
 split at h
 · rename_i hs
   cases h
   exact Ps.extended_c a0 hs w
 · cases h
end Go.Proofs.YtpmcfckechjppaaGreatDoor.P
