/- Made by a program of this seat's own (shake.py, merge.py): what the claim leans on: ParseG, Same0, LowT, CaseLow, SubG, Place, LowerG. -/
import Derived.Test.YtpmcfckechjppaaGreatDoorTb08
namespace Go.Proofs.YtpmcfckechjppaaGreatDoor.Ps
open Go.RowKit Go.Shelf Go.Proofs.YtpmcfckechjppaaGreatDoorW.PrintWords Go.Proofs.YtpmcfckechjppaaGreatDoorW.PrintLast Go.Proofs.YtpmcfckechjppaaGreatDoor.P Go.Proofs.YtpmcfckechjppaaGreatDoor.LikW
attribute [local go_sem] Oper.semAt_some
set_option linter.unusedVariables false
set_option linter.unusedSimpArgs false
set_option maxRecDepth 100000
set_option maxHeartbeats 8000000
theorem own_lo {W : World} {base base' n size : Nat} {e : TypeId} {v : Value} {xs : List Value} (h : W.ownsRow base e size v n xs) (hb : base' ≤ base) : W.ownsRow base' e size v n xs := by
 obtain ⟨hk, h | ⟨g, cap, cur, e1, h1, h⟩⟩ := h
 · exact ⟨hk, .inl h⟩
 · exact ⟨hk, .inr ⟨g, cap, cur, e1, Nat.le_trans hb h1, h⟩⟩
theorem own_mv {W W1 : World} {base n size : Nat} {e : TypeId} {v : Value} {xs : List Value} (h : W.ownsRow base e size v n xs) (hm : ∀ (k : Nat) cs ty, base ≤ k → W.heap[k]? = some (.cells cs ty (0, 0)) → W1.heap[k]? = W.heap[k]?) : W1.ownsRow base e size v n xs :=
 own_move h fun k hv => by
  obtain ⟨cur, hc⟩ := own_blk h k hv
  exact hm k _ _ (own_base h k hv) hc
theorem TagG.lo {W : World} {base base' : Nat} {s : RS} {t : TagL} (h : TagG W base s t) (hb : base' ≤ base) : TagG W base' s t := by
 obtain ⟨h1, h2, h3, h4, h5, ⟨xs, h6, h7⟩, h8⟩ := h
 exact ⟨h1, h2, h3, own_lo h4 hb, own_lo h5 hb, ⟨xs, h6, own_lo h7.1 hb, fun x hx => own_lo (h7.2 x hx) hb⟩, own_lo h8 hb⟩
theorem TagG.mv {W W1 : World} {base : Nat} {s : RS} {t : TagL} (h : TagG W base s t) (hm : ∀ (k : Nat) cs ty, base ≤ k → W.heap[k]? = some (.cells cs ty (0, 0)) → W1.heap[k]? = W.heap[k]?) : TagG W1 base s t := by
 obtain ⟨h1, h2, h3, h4, h5, ⟨xs, h6, h7⟩, h8⟩ := h
 exact ⟨h1, h2, h3, own_mv h4 hm, own_mv h5 hm, ⟨xs, h6, own_mv h7.1 hm, fun x hx => own_mv (h7.2 x hx) hm⟩, own_mv h8 hm⟩
def tagV (s : RS) : Value := .agg #[.string s.lang, s.vE, .string s.scr, .string s.reg, s.vV, s.vX, s.vR, .string ⟨#[]⟩]
def tag0 : Value := .agg #[.string ⟨#[]⟩, .slice none 0 0, .string ⟨#[]⟩, .string ⟨#[]⟩, .slice none 0 0, .slice none 0 0, .slice none 0 0, .string ⟨#[]⟩]
def ParsePost (w : World) (r : Except (Int × Int) TagL) (e : Ending) (w' : World) : Prop := Below w.heap.size w w' ∧
 ((∃ t s, r = .ok t ∧ e = .returned (.tuple #[tagV s, .nilIface]) ∧ TagG w' w.heap.size s t) ∨ (∃ x p, r = .error x ∧ e = .returned (.tuple #[tag0, .iface 105 (.pointer (some ⟨p, 0, none⟩))]) ∧ FaultAt w' p x ∧ w.heap.size ≤ p))
theorem pg_own {W : World} {R : Nat} {A : Option Addr} {c : Nat} {m : List Pc} (h : W.ownsRow R 92 2 (.slice A m.length c) m.length (cellsP m)) : PG W A m ∧ m.length ≤ c := by
 obtain ⟨hl, ⟨e, e0⟩ | ⟨g, cap, cur, e, h1, h2, h3, h4, h5, h6⟩⟩ := h
 · have : m = [] := List.eq_nil_of_length_eq_zero e0
   subst this
   exact ⟨PG.nil _ _, Nat.zero_le _⟩
 · cases e
   refine ⟨fun i x hx => ?_, h3⟩
   obtain ⟨q1, q2⟩ := cellsP_at m i x hx
   have hi := (List.getElem?_eq_some_iff.1 hx).1
   rw [← h6, List.getElem?_take, if_pos (by omega), Array.getElem?_toList] at q1 q2
   exact ⟨g, 0, cur, rfl, h2, by rw [Nat.zero_add]; exact q1, by rw [Nat.zero_add]; exact q2⟩
theorem parse_g (k : Nat) (s : ByteArray) (hs : s.size ≤ 900000) (w : World) (hG : GrandW.G w) (i : Int) (hf : grand_Find.f k s = some (i, false)) (L : List Pc) (hl : lowP (eachP s) = some L) :
 Calls Tryz.prog 26 #[.string s] w fun e w' => ParsePost w (allP s.size L) e w' := by
 have hmf : ∀ (fn : Fn) (first cap : Array Value) (w : World), (Instr.makeFunc fn first cap).run Tryz.prog w = .ok (.func fn first cap) w := fun _ _ _ _ => rfl
 have hmo : Tryz.prog.follows .mixedOrders = true := by kernel_rfl
 have HG := Aside0.mk hG
 have HF := Aside0.mk hf
 refine (callsIn_wide (n := 4)).1 ?_
 refine callsIn_of_wp_marks Tryz.func26 rfl trivial ?_ rfl
 simp only [Tryz.ntmps26, List.size_toArray, List.length_cons, List.length_nil, Nat.reduceAdd, Nat.reduceSub, Array.replicate_succ, Array.replicate_zero, List.push_toArray, List.append_toArray, List.nil_append, List.cons_append]
 gi_wp2_with (first
  | (refine ⟨trivial, ?_⟩; gi_at_call 61; refine (callsIn_wide.2 (grand_Find.calls k s i false _ HF.out (HG.out.below (by repeat (first | exact Below.refl _ _ | apply below_alloc))))).mono ?_; rintro e w1 ⟨rfl, hb1⟩)
  | (refine ⟨trivial, ?_⟩; gi_at_call 63; refine (each_in _ s _).mono ?_; rintro e w2 ⟨rfl, rfl⟩))
 have s1 := hb1.size
 have t1 : w1.heap[w.heap.size]? = some (.cells #[.string ⟨#[]⟩, .slice none 0 0, .string ⟨#[]⟩, .string ⟨#[]⟩, .slice none 0 0, .slice none 0 0, .slice none 0 0, .string ⟨#[]⟩] 33 (0, 0)) :=
  (hb1.block _ (by simp; omega)).trans (((below_alloc (Below.refl _ _) _).block _ (by simp)).trans (World.alloc_heap_new w _))
 have t2 : w1.heap[w.heap.size + 1]? = some (.cells #[.nilIface] 55 (0, 0)) := by
  refine (hb1.block _ (by simp)).trans ?_
  have := World.alloc_heap_new (w.alloc (.cells #[.string ⟨#[]⟩, .slice none 0 0, .string ⟨#[]⟩, .string ⟨#[]⟩, .slice none 0 0, .slice none 0 0, .slice none 0 0, .string ⟨#[]⟩] 33)) (.cells #[.nilIface] 55)
  simpa using this
 have B1 : Below w.heap.size w w1 := (below_alloc (below_alloc (Below.refl _ _) _) _).trans (hb1.mono (by simp; omega))
 obtain ⟨R, hR⟩ : ∃ R, R = w1.heap.size := ⟨_, rfl⟩
 obtain ⟨W0, hW0⟩ : ∃ W0, (((w1.alloc (.cells #[.slice none 0 0, .int .i64 (s.size : Int), .string ⟨#[]⟩, .slice none 0 0, .string ⟨#[]⟩, .string ⟨#[]⟩, .slice none 0 0, .slice none 0 0, .slice none 0 0, .string ⟨#[]⟩] 87)).alloc (.cells #[.pointer (some ⟨w1.heap.size, 0, none⟩)] 84)).alloc (.cells #[.string s] 9)) = W0 := ⟨_, rfl⟩
 have s0 : W0.heap.size = R + 3 := by rw [← hW0, hR]; simp
 have bR : W0.heap[R]? = some (.cells (rdv (.slice none 0 0) s.size) 87 (0, 0)) := by
  rw [← hW0, hR]
  exact ((below_alloc (below_alloc (Below.refl _ _) _) _).block _ (by simp)).trans (World.alloc_heap_new w1 _)
 have bQ : W0.heap[R + 1]? = some (.cells #[.pointer (some ⟨R, 0, none⟩)] 84 (0, 0)) := by
  rw [← hW0, hR]
  have := World.alloc_heap_new (w1.alloc (.cells #[.slice none 0 0, .int .i64 (s.size : Int), .string ⟨#[]⟩, .slice none 0 0, .string ⟨#[]⟩, .string ⟨#[]⟩, .slice none 0 0, .slice none 0 0, .slice none 0 0, .string ⟨#[]⟩] 87)) (.cells #[.pointer (some ⟨w1.heap.size, 0, none⟩)] 84)
  rw [World.size_alloc] at this
  exact ((below_alloc (Below.refl _ _) _).block _ (by simp)).trans this
 have bS : W0.heap[R + 2]? = some (.cells #[.string s] 9 (0, 0)) := by
  rw [← hW0, hR]
  have := World.alloc_heap_new ((w1.alloc (.cells #[.slice none 0 0, .int .i64 (s.size : Int), .string ⟨#[]⟩, .slice none 0 0, .string ⟨#[]⟩, .string ⟨#[]⟩, .slice none 0 0, .slice none 0 0, .slice none 0 0, .string ⟨#[]⟩] 87)).alloc (.cells #[.pointer (some ⟨w1.heap.size, 0, none⟩)] 84)) (.cells #[.string s] 9)
  rw [World.size_alloc, World.size_alloc] at this
  exact this
 have B0 : Below R w1 W0 := by rw [← hW0, hR]; exact below_alloc (below_alloc (below_alloc (Below.refl _ _) _) _) _
 rw [hW0, ← hR]
 have HRR := Aside0.mk hR
 clear hW0 hR
 have HL := Aside0.mk hl
 have T1 := Aside0.mk t1
 have T2 := Aside0.mk t2
 have HB1 := Aside0.mk B1
 have HB0 := Aside0.mk B0
 clear t1 t2 hb1 hl
 refine wpIn_rangeFunc_ownG rfl (by omega) (gf := 121) (lb := #[.pointer (some ⟨R + 1 + 1, 0, none⟩)]) rfl trivial (enters_of Tryz.func121 (by kernel_rfl) rfl)
  (each_stops _ (by omega) (R + 1 + 1) s (by omega) W0 ((blk_cell bS 0).trans rfl)) KB.trans (fun W lw o o' _ h h1 _ => KB.put _ W lw o o' h h1) (Below.refl _ _) (fun _ => rfl)
  (fun (pre : List (PieceOf s)) W => ∃ v m, lowP (pre.map Subtype.val) = some m ∧ W.heap[R]? = some (.cells (rdv v s.size) 87 (0, 0)) ∧ W.ownsRow R 92 2 v m.length (cellsP m) ∧ W.heap[R + 1]? = some (.cells #[.pointer (some ⟨R, 0, none⟩)] 84 (0, 0)) ∧ W.heap[R + 2]? = some (.cells #[.string s] 9 (0, 0)) ∧ Below R W0 W)
  (fun _ _ _ => False)
  (fun pre A B row ⟨v, m, i1, i2, i3, i4, i5, i6⟩ hg hr => ⟨v, m, i1, blkG i2 rfl hg (fun r e => (hr r e).2), ownG i3 hg (fun r e => (hr r e).2), blkG i4 rfl hg (fun r e => (hr r e).2), blkG i5 rfl hg (fun r e => (hr r e).2), i6.grown hg (by have := (Array.getElem?_eq_some_iff.1 i2).1; omega) (fun r e => by have := (hr r e).1; omega)⟩)
  (fun _ _ _ _ _ hs _ _ => hs)
  ⟨_, [], rfl, bR, own_nil _ _ _ _, bQ, bS, Below.refl _ _⟩
  (fun x' : PieceOf s => let x := x'.1; { tmps := #[.string s, undef, .pointer (some ⟨w.heap.size, 0, none⟩), .pointer (some ⟨w.heap.size + 1, 0, none⟩), .int .i64 i, .bool false, .pointer (some ⟨R + 1, 0, none⟩), .int .i64 x.1, .string x.2, .tuple #[.int .i64 i, .bool false], .string s, .tuple #[.int .i64 i, .bool false], .int .i64 i, .bool false, .bool false, undef, undef, undef, .string s, .int .i64 (s.size : Int), .agg #[.slice none 0 0, .int .i64 (s.size : Int), .string ⟨#[]⟩, .slice none 0 0, .string ⟨#[]⟩, .string ⟨#[]⟩, .slice none 0 0, .slice none 0 0, .slice none 0 0, .string ⟨#[]⟩], .pointer (some ⟨R, 0, none⟩), .string s, .func (.func 121) #[] #[.pointer (some ⟨R + 1 + 1, 0, none⟩)], .int .i64 x.1, .string x.2, undef, undef, undef, undef, undef, undef, undef, undef, undef, undef, undef, undef, undef, undef, undef, undef, undef, undef, undef, undef], defers := [] }) ?assign ?body ?done ?stop
 case assign =>
  rintro lp ⟨x, hxm⟩ W K hK
  simp only [encP] at hK ⊢
  gi_wp2
  simpa using hK
 case body =>
  rintro lp pre ⟨x, hxm⟩ W ⟨v, m, i1, i2, i3, i4, i5, i6⟩ hlen
  obtain ⟨A, c, rfl⟩ := own_slice i3
  have hpc := Tryz.underlying85
  obtain ⟨q, hq⟩ := lowP_mem _ _ HL.out x hxm
  have hm : m.length < s.size + 2 := by
   have h1 := lowP_len _ _ i1
   rw [List.length_map] at h1
   have h2 := eachF_len s (s.size + 1) 0
   unfold eachP at hlen
   omega
  have KS0 := Aside0.mk i5
  have HQ := Aside0.mk hq
  have K_R := Aside0.mk i2
  have O_V := Aside0.mk i3
  have K_Q := Aside0.mk i4
  have K_S := Aside0.mk i5
  have B6 := Aside0.mk i6
  have HM := Aside0.mk i1
  have HLE := Aside0.mk hm
  clear i1 i2 i3 i4 i5 i6 hq hm hlen
  refine wpIn_block ?_
  refine start_round (n := 14) (S := fun w' => w'.cell? ⟨R + 1, 0, none⟩ = some (.pointer (some ⟨R, 0, none⟩)) ∧ w'.cell? ⟨R, 0, none⟩ = some (.slice A m.length c)) (ds := [13]) (M 14 0) (fun ⟨_, _, h⟩ => h) hmo (by kernel_rfl) (by kernel_rfl) rfl ⟨(blk_cell (w := W.drew) K_Q.out 0).trans rfl, (blk_cell (w := W.drew) K_R.out 0).trans rfl⟩ (fun hHeld => ?_)
  obtain ⟨W1, hW1⟩ : ∃ W1, W1 = W.drew := ⟨_, rfl⟩
  rw [← hW1] at hHeld ⊢
  refine pw 5 31 (M 14 32) ?_
  refine pw 6 32 (M 14 96) ?_
  refine tw 0 26 (M 14 97) hHeld ?_
  refine tw 1 27 (M 14 99) hHeld ?_
  refine pw 2 28 (M 14 103) ?_
  refine pw 3 29 (M 14 111) ?_
  refine tw 4 30 (M 14 127) hHeld ?_
  clear hHeld
  replace K_R := dwK K_R hW1
  replace K_Q := dwK K_Q hW1
  replace K_S := dwK K_S hW1
  replace O_V := dwO O_V hW1
  replace B6 : Aside0 (Below R W0 W1) := by rw [hW1]; exact ⟨below_drew1 B6.out⟩
  have KO : Aside0 (KeepsOthers W W1) := by rw [hW1]; exact ⟨KeepsOthers.drew W⟩
  clear hW1
  refine ow 7 (some 33) (M 14 255) fun K hK => ?_
  refine gow Tryz.func62 #[.string x.2] ?_
  with_reducible refine (ascii_Lower.calls x.2 q _ HQ.out).mono ?_
  rintro e W2 ⟨rfl, hb⟩
  refine ⟨_, rfl, ?_⟩
  replace B6 := lb B6 hb K_R.out (Nat.le_refl _)
  replace KO := Aside0.mk (KO.out.trans (ko_below hb))
  replace K_R := kb K_R hb
  replace K_Q := kb K_Q hb
  replace K_S := kb K_S hb
  replace O_V := Aside0.mk (pw_own_below O_V.out hb)
  clear hb
  refine hK.out _ _ ⟨(blk_cell K_Q.out 0).trans rfl, (blk_cell K_R.out 0).trans rfl⟩ (fun hHeld => ?_)
  clear hK K
  refine nw 33 ?_
  refine pw 8 34 (M 14 511) ?_
  refine ow 9 (some 35) (M 14 1023) fun K hK => ?_
  refine value_ (w1 := ?_) (v := ?_) (by rfl) rfl ?_ ?_
  rotate_left 2
  · go_simp
    constructor
    · rfl
    · rfl
  refine hK.out _ _ ⟨(blk_cell (((below_alloc (Below.refl W2.heap.size W2) _).block _ (lt_blk K_Q.out)).trans K_Q.out) 0).trans rfl, (blk_cell (((below_alloc (Below.refl W2.heap.size W2) _).block _ (lt_blk K_R.out)).trans K_R.out) 0).trans rfl⟩ (fun hHeld => ?_)
  clear hK K
  refine nw 35 ?_
  refine ow 10 (some 36) (M 14 2047) fun K hK => ?_
  refine step_append_cells (w0 := W0) R (by rfl) (.tmp 30) (.tmp 35) 85 92 (.agg #[.int .i64 0, .string ⟨#[]⟩]) 2 24 rfl hpc (by kernel_rfl) rfl (by decide) (by decide) (.slice A m.length c) m.length (cellsP m) [.int .i64 x.1, .string q] rfl ?hx rfl ?h1 O_V.out B6.out (Nat.le_of_lt (lt_blk K_R.out)) ?hl ?_
  (case hx => rfl)
  (case h1 => simp [Value.oneCell'])
  (case hl => have := HLE.out; omega)
  intro v1 W3 ho hb hg hat
  have N_R := Aside0.mk (own_ne O_V.out K_R.out (by decide))
  replace KO := Aside0.mk (KO.out.trans ((KeepsOthers.of_grownBy hg (fun k o e ho2 => by obtain ⟨cur, hc⟩ := own_blk O_V.out k e; rw [hc] at ho2; cases ho2; rfl))))
  replace K_Q := Aside0.mk ((hg.block _ (lt_blk K_Q.out) (own_ne O_V.out K_Q.out (by decide))).trans K_Q.out)
  replace K_S := Aside0.mk ((hg.block _ (lt_blk K_S.out) (own_ne O_V.out K_S.out (by decide))).trans K_S.out)
  replace K_R := Aside0.mk ((hg.block _ (lt_blk K_R.out) N_R.out).trans K_R.out)
  replace B6 := Aside0.mk hb
  obtain ⟨A1, c1, rfl⟩ := own_slice ho
  replace O_V := Aside0.mk ho
  clear ho hb hg hat N_R
  refine hK.out _ _ ⟨(blk_cell K_Q.out 0).trans rfl, (blk_cell K_R.out 0).trans rfl⟩ (fun hHeld => ?_)
  clear hK K
  refine nw 36 ?_
  refine pw 11 37 (M 14 4095) ?_
  refine pw 12 38 (M 14 8191) ?_
  refine last_ (i := 13) (N := none) (M 14 16383) rfl rfl (by kernel_rfl) (by decide) (fun K hK => ?_)
  refine put_step (g := R) (off := 0) (cur := rdv (.slice A m.length c) s.size) (new := rdv (.slice A1 (m.length + 1) c1) s.size) (seg := [.slice A1 (m.length + 1) c1]) (u := .slice A1 (m.length + 1) c1) rfl rfl rfl rfl rfl rfl (by rfl) (by kernel_rfl) rfl rfl (Nat.le_of_ble_eq_true rfl) K_R.out ?_
  intro W4 hk hp
  replace KO := Aside0.mk (KO.out.trans (ko_put hp K_R.out))
  replace O_V := Aside0.mk (own_move O_V.out fun k hv => hp.far k (fun e => own_ne O_V.out K_R.out (by decide) (by rw [hv, e])))
  replace K_Q := kp K_Q hp (by omega)
  replace K_S := kp K_S hp (by omega)
  replace B6 := bp B6 hp (Nat.le_refl _)
  replace K_R := Aside0.mk hk
  clear hk hp
  refine hK.out _ _ ?_
  refine done_ (by kernel_rfl) ?_
  exact ⟨KO.out.from _, fun v hv => by
   have h1 : W.cell? ⟨R + 1 + 1, 0, none⟩ = some (.string s) := (blk_cell KS0.out 0).trans rfl
   have h2 : W4.cell? ⟨R + 1 + 1, 0, none⟩ = some (.string s) := (blk_cell K_S.out 0).trans rfl
   rw [h1] at hv
   rw [h2, hv], _, m ++ [(x.1, q)], by rw [List.map_append]; exact lowP_snoc _ _ x q HM.out HQ.out, K_R.out, by rw [List.length_append, cellsP_snoc]; exact O_V.out, K_Q.out, K_S.out, B6.out⟩
 case done =>
  rintro D ys W hD hys ⟨v, m, i1, i2, i3, i4, i5, i6⟩ hK
  have i1' := i1
  rw [hys, HL.out] at i1'
  cases i1'
  obtain ⟨A, c, rfl⟩ := own_slice i3
  obtain ⟨hPG, hc⟩ := pg_own i3
  have hlen : L.length ≤ 1000000 := by
   have h1 := lowP_len _ _ HL.out
   have h2 := eachF_len s (s.size + 1) 0
   unfold eachP at h1
   omega
  have B2 : Below w1.heap.size w1 W := by rw [← HRR.out]; exact HB0.out.trans i6
  have K_D := Aside0.mk hK
  have q0 := (blk_cell i4 0).trans rfl
  have K_Q := Aside0.mk i4
  have K_S3 := Aside0.mk (Array.getElem?_eq_some_iff.1 i5).1
  have K_R := Aside0.mk i2
  have hgR : w1.heap.size ≤ R := by rw [HRR.out]; exact Nat.le_refl _
  have HALL := Aside0.mk (all_g R A c s.size L w1 W B2 hgR hc (by exact i2) hPG hlen)
  clear i1 i2 i3 i4 i5 i6 hPG hc hK B2
  simp at s1
  have HS1 := Aside0.mk s1
  have HGR := Aside0.mk hgR
  cases hres : allP s.size L with
  | ok t =>
   gi_wp2_with (first | (refine ⟨trivial, ?_⟩; gi_at_call 65; refine (callsIn_wide.2 HALL.out).mono ?_; rintro e W5 hpost; rw [hres] at hpost; obtain ⟨t', ht', rfl, s', hTG, ⟨A5, c5, hc5, hR5, hP5⟩, g4, g5⟩ := hpost.resolve_left (by rintro ⟨x, hx, -⟩; cases hx); cases ht'; obtain ⟨lang, vE, sc, rg, vV, vX, vR⟩ := s'; obtain ⟨h1, h2, h3, h4, h5, ⟨xs, h6, h7⟩, h8⟩ := hTG; obtain ⟨AE, cE, eE⟩ := own_slice h4; obtain ⟨AV, cV, eV⟩ := own_slice h5; obtain ⟨AX, cX, eX⟩ := own_slice h7.1; obtain ⟨AR, cR, eR⟩ := own_slice h8; change vE = _ at eE; change vV = _ at eV; change vX = _ at eX; change vR = _ at eR; subst eE; subst eV; subst eX; subst eR; have hTG : TagG W5 w1.heap.size ⟨lang, _, sc, rg, _, _, _⟩ t := ⟨h1, h2, h3, h4, h5, ⟨xs, h6, h7⟩, h8⟩; clear h1 h2 h3 h4 h5 h6 h7 h8; obtain ⟨z0, z1, z2, z3, z4, z5, z6, z7, z8, z9⟩ := cz10 hR5; have q1 := (blk_cell ((g5.2 (R + 1) (Array.getElem?_eq_some_iff.1 K_Q.out).1 (by omega) (by simp)).trans K_Q.out) 0).trans rfl; have T5 := Aside0.mk ((g4.block w.heap.size (by omega)).trans T1.out); have E5 := Aside0.mk ((g4.block (w.heap.size + 1) (by omega)).trans T2.out); obtain ⟨a0, a1, a2, a3, a4, a5, a6, a7⟩ := cz8 T5.out; obtain ⟨b0, b1, b2, b3, b4, b5, b6, b7⟩ := fz8 T5.out; have e0 := (blk_cell E5.out 0).trans rfl; have e1 := blk_frozen E5.out 0; have G4 := Aside0.mk g4; have HTG := Aside0.mk hTG; have K_D5 := Aside0.mk (g5.2 D (Array.getElem?_eq_some_iff.1 K_D.out).1 (fun e => by have := K_D.out; rw [e, K_R.out] at this; cases this) (by simp)); clear g4 g5 hTG hR5 hP5 hc5 hpost))
   obtain ⟨W6, hW6⟩ : ∃ W6, ((((((((W5.setCell ⟨w.heap.size, 0, none⟩ (.string lang)).setCell ⟨w.heap.size, 1, none⟩ (.slice AE t.extl.length cE)).setCell ⟨w.heap.size, 2, none⟩ (.string sc)).setCell ⟨w.heap.size, 3, none⟩ (.string rg)).setCell ⟨w.heap.size, 4, none⟩ (.slice AV t.vars.length cV)).setCell ⟨w.heap.size, 5, none⟩ (.slice AX xs.length cX)).setCell ⟨w.heap.size, 6, none⟩ (.slice AR t.priv.length cR)).setCell ⟨w.heap.size, 7, none⟩ (.string ⟨#[]⟩)).setCell ⟨w.heap.size + 1, 0, none⟩ .nilIface = W6 := ⟨_, rfl⟩
   have T6 : W6.heap[w.heap.size]? = some (.cells #[.string lang, .slice AE t.extl.length cE, .string sc, .string rg, .slice AV t.vars.length cV, .slice AX xs.length cX, .slice AR t.priv.length cR, .string ⟨#[]⟩] 33 (0, 0)) := by
    rw [← hW6]
    exact blk_far (blk_put (blk_put (blk_put (blk_put (blk_put (blk_put (blk_put (blk_put T5.out 0 _ rfl) 1 _ rfl) 2 _ rfl) 3 _ rfl) 4 _ rfl) 5 _ rfl) 6 _ rfl) 7 _ rfl) (by simp) _
   have E6 : W6.heap[w.heap.size + 1]? = some (.cells #[.nilIface] 55 (0, 0)) := by
    rw [← hW6]
    exact blk_put (blk_far (blk_far (blk_far (blk_far (blk_far (blk_far (blk_far (blk_far E5.out (by simp) _) (by simp) _) (by simp) _) (by simp) _) (by simp) _) (by simp) _) (by simp) _) (by simp) _) 0 _ rfl
   have hB5 : Below w.heap.size w W5 := HB1.out.trans (G4.out.mono HB1.out.size)
   have B6' : Below w.heap.size w W6 := by
    rw [← hW6]
    exact below_set (below_set (below_set (below_set (below_set (below_set (below_set (below_set (below_set hB5 (Nat.le_refl _)) (Nat.le_refl _)) (Nat.le_refl _)) (Nat.le_refl _)) (Nat.le_refl _)) (Nat.le_refl _)) (Nat.le_refl _)) (Nat.le_refl _)) (by omega)
   have hfar : ∀ k : Nat, k ≠ w.heap.size → k ≠ w.heap.size + 1 → W6.heap[k]? = W5.heap[k]? := fun k n1 n2 => by
    rw [← hW6]
    exact (Below.heap_setCell _ _ _ _ n2).trans ((Below.heap_setCell _ _ _ _ n1).trans ((Below.heap_setCell _ _ _ _ n1).trans ((Below.heap_setCell _ _ _ _ n1).trans ((Below.heap_setCell _ _ _ _ n1).trans ((Below.heap_setCell _ _ _ _ n1).trans ((Below.heap_setCell _ _ _ _ n1).trans ((Below.heap_setCell _ _ _ _ n1).trans (Below.heap_setCell _ _ _ _ n1))))))))
   have D6 : W6.heap[D]? = some (.deferred (some [])) := (hfar D (by omega) (by omega)).trans (K_D5.out.trans K_D.out)
   rw [hW6]
   clear hW6 a0 a1 a2 a3 a4 a5 a6 a7 b0 b1 b2 b3 b4 b5 b6 b7 z0 z1 z2 z3 z4 z5 z6 z7 z8 z9 e0 e1 q1
   refine ⟨by simp, .inr ⟨fun e => by simp [Fence.wide] at e, _, _, 64, #[.pointer (some ⟨w.heap.size, 0, none⟩), .pointer (some ⟨w.heap.size + 1, 0, none⟩)], rfl, by simp [go_sem], fun _ _ => trivial, ?_⟩⟩
   refine (parse1_idle _ _ _ _).mono ?_
   rintro e u' w'' ⟨rfl, rfl, rfl⟩
   have a7 := below_alloc (Below.refl W6.heap.size W6) (.cells #[.nilIface] 94)
   have D7 := (a7.block _ (Array.getElem?_eq_some_iff.1 D6).1).trans D6
   have T7 := (a7.block _ (Array.getElem?_eq_some_iff.1 T6).1).trans T6
   have E7 := (a7.block _ (Array.getElem?_eq_some_iff.1 E6).1).trans E6
   have B7 := B6'.trans (a7.mono B6'.size)
   refine ⟨by simp [settle], .inl ⟨D, _, rfl, run_takeDeferred D7, ?_⟩⟩
   obtain ⟨W8, hW8⟩ : ∃ W8, W8 = (W6.alloc (.cells #[.nilIface] 94)).putObj D (.deferred none) := ⟨_, rfl⟩
   have T8 : W8.heap[w.heap.size]? = some (.cells #[.string lang, .slice AE t.extl.length cE, .string sc, .string rg, .slice AV t.vars.length cV, .slice AX xs.length cX, .slice AR t.priv.length cR, .string ⟨#[]⟩] 33 (0, 0)) := by rw [hW8]; exact (World.putObj_heap_other (by omega)).trans T7
   have E8 : W8.heap[w.heap.size + 1]? = some (.cells #[.nilIface] 55 (0, 0)) := by rw [hW8]; exact (World.putObj_heap_other (by omega)).trans E7
   have hmv : ∀ (k : Nat) cs ty, w1.heap.size ≤ k → W5.heap[k]? = some (.cells cs ty (0, 0)) → W8.heap[k]? = W5.heap[k]? := fun k cs ty hk hc => by
    have h6 := (hfar k (by omega) (by omega)).trans hc
    have hd : k ≠ D := fun x => by subst x; rw [D6] at h6; cases h6
    rw [hW8, hc]
    exact (World.putObj_heap_other hd).trans (aN h6)
   obtain ⟨c0, c1, c2, c3, c4, c5, c6, c7⟩ := cz8 T8
   have e8 : W8.cell? ⟨w.heap.size + 1, 0, none⟩ = some .nilIface := (blk_cell E8 0).trans rfl
   have B8 : Below w.heap.size w W8 := by rw [hW8]; exact B7.trans (belowK_b (w := w) (Nat.le_refl _) _ D _ _ (by omega) D7 rfl rfl)
   rw [← hW8]
   show ∃ v, _ ∧ _
   refine ⟨.tuple #[.agg #[.string lang, .slice AE t.extl.length cE, .string sc, .string rg, .slice AV t.vars.length cV, .slice AX xs.length cX, .slice AR t.priv.length cR, .string ⟨#[]⟩], .nilIface], ?_, B8, .inl ⟨t, ⟨lang, _, sc, rg, _, _, _⟩, hres, rfl, (HTG.out.mv hmv).lo HB1.out.size⟩⟩
   simp [results, Tryz.results26, asAddr, c0, c1, c2, c3, c4, c5, c6, c7, e8, go_sem]
  | error x =>
   gi_wp2_with (first | (refine ⟨trivial, ?_⟩; gi_at_call 65; refine (callsIn_wide.2 HALL.out).mono ?_; rintro e W5 hpost; rw [hres] at hpost; obtain ⟨x', hx', p, rfl, hF, hp, g4, g5⟩ := hpost.resolve_right (by rintro ⟨x, hx, -⟩; cases hx); cases hx'; have T5 := Aside0.mk ((g4.block w.heap.size (by omega)).trans T1.out); have E5 := Aside0.mk ((g4.block (w.heap.size + 1) (by omega)).trans T2.out); have G4 := Aside0.mk g4; have HFA := Aside0.mk hF; have K_D5 := Aside0.mk (g5.2 D (Array.getElem?_eq_some_iff.1 K_D.out).1 (fun e => by have := K_D.out; rw [e, K_R.out] at this; cases this) (by simp)); have HPW := Aside0.mk hp; have HWW := Aside0.mk g5.1; clear g4 g5 hF hpost hp))
   refine ⟨by simp, .inr ⟨fun e => by simp [Fence.wide] at e, _, _, 64, #[.pointer (some ⟨w.heap.size, 0, none⟩), .pointer (some ⟨w.heap.size + 1, 0, none⟩)], rfl, by simp [go_sem], fun _ _ => trivial, ?_⟩⟩
   have hB5 : Below w.heap.size w W5 := HB1.out.trans (G4.out.mono HB1.out.size)
   have hD5 : W5.heap[D]? = some (.deferred (some [])) := K_D5.out.trans K_D.out
   refine (parse1_caught _ _ _ p W5 T5.out E5.out).mono ?_
   rintro e u' w'' ⟨rfl, rfl, hT, hE, hO, hBB⟩
   have D7 : w''.heap[D]? = some (.deferred (some [])) := (hO D (Array.getElem?_eq_some_iff.1 hD5).1 (by omega) (by omega)).trans hD5
   refine ⟨by simp [settle], .inl ⟨D, _, rfl, run_takeDeferred D7, ?_⟩⟩
   obtain ⟨W8, hW8⟩ : ∃ W8, W8 = w''.putObj D (.deferred none) := ⟨_, rfl⟩
   have T8 : W8.heap[w.heap.size]? = some (.cells #[.string ⟨#[]⟩, .slice none 0 0, .string ⟨#[]⟩, .string ⟨#[]⟩, .slice none 0 0, .slice none 0 0, .slice none 0 0, .string ⟨#[]⟩] 33 (0, 0)) := by rw [hW8]; exact (World.putObj_heap_other (by omega)).trans hT
   have E8 : W8.heap[w.heap.size + 1]? = some (.cells #[.iface 105 (.pointer (some ⟨p, 0, none⟩))] 55 (0, 0)) := by rw [hW8]; exact (World.putObj_heap_other (by omega)).trans hE
   have hWR : R + 3 ≤ W.heap.size := by have := (Array.getElem?_eq_some_iff.1 K_Q.out).1; have := K_S3.out; omega
   have hpp : w.heap.size + 1 < p := by have := HPW.out; have := HRR.out; omega
   have hFA : FaultAt W8 p x := by
    obtain ⟨what, hf⟩ := HFA.out
    refine ⟨what, ?_⟩
    have hd : p ≠ D := fun z => by subst z; rw [hD5] at hf; cases hf
    rw [hW8]
    exact (World.putObj_heap_other hd).trans ((hO p (Array.getElem?_eq_some_iff.1 hf).1 (by omega) (by omega)).trans hf)
   obtain ⟨c0, c1, c2, c3, c4, c5, c6, c7⟩ := cz8 T8
   have e8 : W8.cell? ⟨w.heap.size + 1, 0, none⟩ = some (.iface 105 (.pointer (some ⟨p, 0, none⟩))) := (blk_cell E8 0).trans rfl
   have B8 : Below w.heap.size w W8 := by rw [hW8]; exact (hBB _ _ (Nat.le_refl _) (by omega) hB5.size hB5).trans (belowK_b (w := w) (Nat.le_refl _) _ D _ _ (by omega) D7 rfl rfl)
   rw [← hW8]
   show ∃ v, _ ∧ _
   refine ⟨.tuple #[tag0, .iface 105 (.pointer (some ⟨p, 0, none⟩))], ?_, B8, .inr ⟨x, p, hres, rfl, hFA, by omega⟩⟩
   simp [tag0, results, Tryz.results26, asAddr, c0, c1, c2, c3, c4, c5, c6, c7, e8, go_sem]
 case stop =>
  rintro D c pre W _ _ h _
  exact h.elim
theorem rsame_nil (w : World) : Calls Tryz.prog 19 #[.slice none 0 0, .slice none 0 0] w fun e w' => e = .returned (.bool true) ∧ w' = w := by
 go_enter Tryz.func19, Tryz.ntmps19
 go_wp2_with (fail)
 refine wp_loop_rounds 1 ?_
 rw [rounds_succ]
 go_wp2_with (fail)
 go_ret
 exact ⟨rfl, rfl⟩
theorem same0_c (w : World) : Calls Tryz.prog 41 #[tag0, tag0] w fun e w' => e = .returned (.bool true) ∧ Below w.heap.size w w' := by
 have hut := Tryz.underlying33
 unfold tag0
 obtain ⟨V, hV⟩ : ∃ V, V = (w.alloc (.cells #[.string ⟨#[]⟩, .slice none 0 0, .string ⟨#[]⟩, .string ⟨#[]⟩, .slice none 0 0, .slice none 0 0, .slice none 0 0, .string ⟨#[]⟩] 33)).alloc (.cells #[.string ⟨#[]⟩, .slice none 0 0, .string ⟨#[]⟩, .string ⟨#[]⟩, .slice none 0 0, .slice none 0 0, .slice none 0 0, .string ⟨#[]⟩] 33) := ⟨_, rfl⟩
 have b1 : V.heap[w.heap.size]? = some (.cells #[.string ⟨#[]⟩, .slice none 0 0, .string ⟨#[]⟩, .string ⟨#[]⟩, .slice none 0 0, .slice none 0 0, .slice none 0 0, .string ⟨#[]⟩] 33 (0, 0)) := by
  rw [hV]
  exact ((below_alloc (Below.refl _ _) _).block _ (by simp)).trans (World.alloc_heap_new w _)
 have b2 : V.heap[w.heap.size + 1]? = some (.cells #[.string ⟨#[]⟩, .slice none 0 0, .string ⟨#[]⟩, .string ⟨#[]⟩, .slice none 0 0, .slice none 0 0, .slice none 0 0, .string ⟨#[]⟩] 33 (0, 0)) := by
  rw [hV]
  have := World.alloc_heap_new (w.alloc (.cells #[.string ⟨#[]⟩, .slice none 0 0, .string ⟨#[]⟩, .string ⟨#[]⟩, .slice none 0 0, .slice none 0 0, .slice none 0 0, .string ⟨#[]⟩] 33)) (.cells #[.string ⟨#[]⟩, .slice none 0 0, .string ⟨#[]⟩, .string ⟨#[]⟩, .slice none 0 0, .slice none 0 0, .slice none 0 0, .string ⟨#[]⟩] 33)
  rw [World.size_alloc] at this
  exact this
 have bV : Below w.heap.size w V := by rw [hV]; exact below_alloc (below_alloc (Below.refl _ _) _) _
 obtain ⟨x0, x1, x2, x3, x4, x5, x6, x7⟩ : V.cell? ⟨w.heap.size, 0, none⟩ = some (.string ⟨#[]⟩) ∧ V.cell? ⟨w.heap.size, 1, none⟩ = some (.slice none 0 0) ∧ V.cell? ⟨w.heap.size, 2, none⟩ = some (.string ⟨#[]⟩) ∧ V.cell? ⟨w.heap.size, 3, none⟩ = some (.string ⟨#[]⟩) ∧ V.cell? ⟨w.heap.size, 4, none⟩ = some (.slice none 0 0) ∧ V.cell? ⟨w.heap.size, 5, none⟩ = some (.slice none 0 0) ∧ V.cell? ⟨w.heap.size, 6, none⟩ = some (.slice none 0 0) ∧ V.cell? ⟨w.heap.size, 7, none⟩ = some (.string ⟨#[]⟩) :=
  ⟨(blk_cell b1 0).trans rfl, (blk_cell b1 1).trans rfl, (blk_cell b1 2).trans rfl, (blk_cell b1 3).trans rfl, (blk_cell b1 4).trans rfl, (blk_cell b1 5).trans rfl, (blk_cell b1 6).trans rfl, (blk_cell b1 7).trans rfl⟩
 obtain ⟨y0, y1, y2, y3, y4, y5, y6, y7⟩ : V.cell? ⟨w.heap.size + 1, 0, none⟩ = some (.string ⟨#[]⟩) ∧ V.cell? ⟨w.heap.size + 1, 1, none⟩ = some (.slice none 0 0) ∧ V.cell? ⟨w.heap.size + 1, 2, none⟩ = some (.string ⟨#[]⟩) ∧ V.cell? ⟨w.heap.size + 1, 3, none⟩ = some (.string ⟨#[]⟩) ∧ V.cell? ⟨w.heap.size + 1, 4, none⟩ = some (.slice none 0 0) ∧ V.cell? ⟨w.heap.size + 1, 5, none⟩ = some (.slice none 0 0) ∧ V.cell? ⟨w.heap.size + 1, 6, none⟩ = some (.slice none 0 0) ∧ V.cell? ⟨w.heap.size + 1, 7, none⟩ = some (.string ⟨#[]⟩) :=
  ⟨(blk_cell b2 0).trans rfl, (blk_cell b2 1).trans rfl, (blk_cell b2 2).trans rfl, (blk_cell b2 3).trans rfl, (blk_cell b2 4).trans rfl, (blk_cell b2 5).trans rfl, (blk_cell b2 6).trans rfl, (blk_cell b2 7).trans rfl⟩
 have HV := Aside0.mk hV
 have HB := Aside0.mk bV
 clear b1 b2 bV hV
 go_enter Tryz.func41, Tryz.ntmps41
 go_wp2_with (first
  | (rw [← HV.out])
  | (go_at_call 19; refine (rsame_nil _).mono ?_; rintro e w1 ⟨rfl, rfl⟩))
 refine wp_loop_rounds 1 ?_
 rw [rounds_succ]
 go_wp2_with (fail)
 go_ret
 exact ⟨rfl, HB.out⟩
end Go.Proofs.YtpmcfckechjppaaGreatDoor.Ps
namespace Go.Proofs.YtpmcfckechjppaaGreatDoor.Ps
open Go.RowKit Go.Shelf Go.Proofs.YtpmcfckechjppaaGreatDoorW.PrintWords Go.Proofs.YtpmcfckechjppaaGreatDoorW.PrintLast Go.Proofs.YtpmcfckechjppaaGreatDoor.P Go.Proofs.YtpmcfckechjppaaGreatDoor.LikW
open Go.Proofs.YtpmcfckechjppaaGreatDoor.Each Go.Proofs.YtpmcfckechjppaaGreatDoor.Base Go.Proofs.YtpmcfckechjppaaGreatDoor.Pure
set_option linter.unusedVariables false
set_option linter.unusedSimpArgs false
set_option maxRecDepth 100000
set_option maxHeartbeats 8000000
def lowPc (x : Pc) : Pc := (x.1, lowS x.2)
theorem lowP_eq : ∀ l : List Pc, (∀ x ∈ l, x.2.size ≤ 900000) → lowP l = some (l.map lowPc)
 | [], _ => rfl
 | x :: l, h => by
  rw [lowP, Lower_eq x.2 (Nat.le_trans (h x List.mem_cons_self) (by decide)), Option.bind_some, lowP_eq l fun y hy => h y (List.mem_cons_of_mem _ hy)]
  rfl
theorem each_lowP (s : ByteArray) (hs : s.size ≤ 900000) : lowP (eachP s) = some ((eachP s).map lowPc) :=
 lowP_eq _ fun x hx => Nat.le_trans (eachF_size s _ _ x hx) hs
theorem bytes_jn : ∀ (l : List ByteArray) (x : ByteArray), bytesOf (l.foldl (fun acc y => (acc ++ (⟨#[45]⟩ : ByteArray)) ++ y) x) = bytesOf x ++ (l.map fun y => (45 : Int) :: bytesOf y).flatten
 | [], x => by simp
 | y :: l, x => by
  rw [List.foldl_cons, bytes_jn l, bytesOf_append, bytesOf_append]
  have e : bytesOf (⟨#[45]⟩ : ByteArray) = [45] := by rfl
  rw [e]
  simp
theorem low45 : lowI 45 = 45 := by decide
theorem jn_low (l : List ByteArray) : jn (l.map lowS) = lowS (jn l) := by
 apply bytesOf_inj
 rw [lowS_bytes]
 cases l with
 | nil => rfl
 | cons x l =>
  rw [List.map_cons]
  show bytesOf ((l.map lowS).foldl _ (lowS x)) = (bytesOf (l.foldl _ x)).map lowI
  rw [bytes_jn, bytes_jn, lowS_bytes, List.map_append]
  congr 1
  rw [List.map_map, List.map_flatten, List.map_map]
  congr 1
  apply List.map_congr_left
  intro y _
  simp only [Function.comp, List.map_cons, lowS_bytes, low45]
theorem joinS_jn : ∀ l : List ByteArray, joinS l = jn l
 | [] => rfl
 | x :: l => by
  have key : ∀ (l : List ByteArray) (x : ByteArray), (l.foldl (fun acc y => (acc ++ (⟨#[45]⟩ : ByteArray)) ++ y) x).data.toList = x.data.toList ++ Lib.joinTail [45] (l.map (·.data.toList)) := by
   intro l
   induction l with
   | nil => intro x; simp [Lib.joinTail]
   | cons y l ih =>
    intro x
    rw [List.foldl_cons, ih]
    simp [Lib.joinTail]
  unfold joinS
  rw [List.map_cons, Lib.join_cons, ← key l x]
  rfl
theorem subs_low (s : ByteArray) (t : TagL) (h : allP s.size ((eachP s).map lowPc) = .ok t) : joinS t.subs = lowS s := by
 rw [all_flat _ _ _ h, joinS_jn, List.map_map]
 have e : (Prod.snd ∘ lowPc) = (lowS ∘ Prod.snd (α := Int)) := rfl
 rw [e, ← List.map_map, jn_low]
 exact congrArg lowS (jn_pieces s.size s rfl)
theorem subs_len (s : ByteArray) (t : TagL) (h : allP s.size ((eachP s).map lowPc) = .ok t) : t.subs.length ≤ s.size + 1 := by
 rw [all_flat _ _ _ h, List.length_map, List.length_map]
 exact eachF_len s (s.size + 1) 0
theorem eachF_at (s : ByteArray) : ∀ f a, a ≤ s.size → ∀ x ∈ Ps.eachF s f a, 0 ≤ x.1 ∧ x.1 ≤ (s.size : Int)
 | 0, a, ha, x, hx => by simp [Ps.eachF] at hx
 | f + 1, a, ha, x, hx => by
  unfold Ps.eachF at hx
  split at hx
  · simp at hx; rw [hx]; simp; omega
  · rename_i h0
    rcases List.mem_cons.1 hx with h | h
    · rw [h]; simp; omega
    · refine eachF_at s f _ ?_ x h
      have := index_lt s a ha (Lib.indexByte (s.extract a s.size).data.toList 45).toNat (by omega)
      omega
theorem all_err (s : ByteArray) (x : Int × Int) (h : allP s.size ((eachP s).map lowPc) = .error x) : 0 ≤ x.1 ∧ x.1 ≤ s.size ∧ (x.2 = 10 ∨ x.2 = 11) := by
 refine all_ok (by omega) ?_ x h
 intro y hy
 obtain ⟨x, hx, rfl⟩ := List.mem_map.1 hy
 exact eachF_at s _ 0 (Nat.zero_le _) x hx
theorem low_extract (s : ByteArray) (a b : Nat) : (lowS s).extract a b = lowS (s.extract a b) := by
 apply bytesOf_inj
 rw [lowS_bytes, bytesOf_extract, bytesOf_extract, lowS_bytes, List.map_take, List.map_drop]
theorem low_is45 (c : Int) : lowI c = 45 ↔ c = 45 := by
 unfold lowI
 split <;> omega
theorem dash_or_not (s : ByteArray) (a : Nat) : (∀ j : Nat, a ≤ j → j < s.size → bt s (j : Int) ≠ 45) ∨ ∃ i, a ≤ i ∧ i < s.size ∧ bt s (i : Int) = 45 ∧ ∀ j : Nat, a ≤ j → j < i → bt s (j : Int) ≠ 45 := by
 by_cases h : ∃ i, a ≤ i ∧ i < s.size ∧ bt s (i : Int) = 45
 · right
   have key : ∀ n i : Nat, i - a = n → a ≤ i → i < s.size → bt s (i : Int) = 45 → ∃ i, a ≤ i ∧ i < s.size ∧ bt s (i : Int) = 45 ∧ ∀ j : Nat, a ≤ j → j < i → bt s (j : Int) ≠ 45 := by
    intro n
    induction n using Nat.strongRecOn with
    | _ n ih =>
     intro i hn h1 h2 h3
     by_cases hj : ∃ j, a ≤ j ∧ j < i ∧ bt s (j : Int) = 45
     · obtain ⟨j, j1, j2, j3⟩ := hj
       exact ih (j - a) (by omega) j rfl j1 (by omega) j3
     · exact ⟨i, h1, h2, h3, fun j j1 j2 j3 => hj ⟨j, j1, j2, j3⟩⟩
   obtain ⟨i, h1, h2, h3⟩ := h
   exact key _ i rfl h1 h2 h3
 · exact .inl fun j j1 j2 j3 => h ⟨j, j1, j2, j3⟩
theorem idx_low (s : ByteArray) (a : Nat) : (Lib.indexByte ((lowS s).extract a (lowS s).size).data.toList 45 < 0 ∧ Lib.indexByte (s.extract a s.size).data.toList 45 < 0) ∨ Lib.indexByte ((lowS s).extract a (lowS s).size).data.toList 45 = Lib.indexByte (s.extract a s.size).data.toList 45 := by
 have hb : ∀ j : Nat, j < s.size → (bt (lowS s) (j : Int) = 45 ↔ bt s (j : Int) = 45) := fun j hj => by rw [bt_map (lowS_bytes s) j hj, low_is45]
 have hz := lowS_size s
 rcases dash_or_not s a with h | ⟨i, h1, h2, h3, h4⟩
 · refine .inl ⟨idx_end _ _ fun j j1 j2 => ?_, idx_end _ _ h⟩
   rw [hz] at j2
   exact fun e => h j j1 j2 ((hb j j2).1 e)
 · right
   rw [idx_at s a i h1 h2 h3 h4, idx_at (lowS s) a i h1 (by omega) ((hb i h2).2 h3) fun j j1 j2 e => h4 j j1 j2 ((hb j (by omega)).1 e)]
theorem eachF_low (s : ByteArray) : ∀ f a, Ps.eachF (lowS s) f a = (Ps.eachF s f a).map lowPc
 | 0, a => rfl
 | f + 1, a => by
  unfold Ps.eachF
  have hz := lowS_size s
  rcases idx_low s a with ⟨h1, h2⟩ | h
  · rw [if_pos h1, if_pos h2, hz]
    simp [lowPc, low_extract]
  · rw [h, hz]
    split
    · simp [lowPc, low_extract]
    · rw [List.map_cons, eachF_low s f]
      simp [lowPc, low_extract]
theorem eachP_low (s : ByteArray) : eachP (lowS s) = (eachP s).map lowPc := by
 unfold eachP
 rw [lowS_size]
 exact eachF_low s _ _
theorem lowI_low (c : Int) : lowI (lowI c) = lowI c := by unfold lowI; (repeat' split) <;> omega
theorem lowS_low (s : ByteArray) : lowS (lowS s) = lowS s := by
 apply bytesOf_inj
 rw [lowS_bytes, lowS_bytes, List.map_map]
 exact List.map_congr_left fun c _ => lowI_low c
theorem case_low (s : ByteArray) (hs : s.size ≤ 900000) (st : Bool × List ByteArray) : caseL (eachP (lowS s)) st = caseL (eachP s) st := by
 rw [eachP_low]
 have key : ∀ (l : List Pc), (∀ x ∈ l, x.2.size ≤ 900000) → ∀ st, caseL (l.map lowPc) st = caseL l st := by
  intro l
  induction l with
  | nil => intro _ st; rfl
  | cons x l ih =>
   intro hl st
   have e : caseStep st (lowPc x) = caseStep st x := by
    have h1 := hl x List.mem_cons_self
    unfold caseStep
    rw [show (lowPc x).2 = lowS x.2 from rfl, show (lowPc x).1 = x.1 from rfl, Lower_eq x.2 (by omega), Lower_eq (lowS x.2) (by rw [lowS_size]; omega), lowS_low, lowS_size]
   rw [List.map_cons, caseL, caseL, e]
   cases caseStep st x with
   | none => rfl
   | some q => exact ih (fun y hy => hl y (List.mem_cons_of_mem _ hy)) q
 exact key _ (fun x hx => Nat.le_trans (eachF_size s _ _ x hx) hs) st
theorem caseOk_all (s : ByteArray) (hs : s.size ≤ 900000) : (eachP s).all caseOk = true := by
 rw [List.all_eq_true]
 intro x hx
 have h1 : x.2.size ≤ 900000 := Nat.le_trans (eachF_size s _ _ x hx) hs
 unfold caseOk
 rw [Lower_eq x.2 (by omega)]
 simp only
 rw [Upper_eq _ (by rw [lowS_size]; omega), Title_eq _ (by rw [lowS_size]; omega)]
 rfl
end Go.Proofs.YtpmcfckechjppaaGreatDoor.Ps
namespace Go.Proofs.YtpmcfckechjppaaGreatDoor.Ps
open Go.RowKit Go.Shelf Go.Proofs.YtpmcfckechjppaaGreatDoorW.PrintWords Go.Proofs.YtpmcfckechjppaaGreatDoorW.PrintLast Go.Proofs.YtpmcfckechjppaaGreatDoorW.PrintMore Go.Proofs.YtpmcfckechjppaaGreatDoor.P Go.Proofs.YtpmcfckechjppaaGreatDoor.LikW
attribute [local go_sem] Oper.semAt_some
set_option linter.unusedVariables false
set_option linter.unusedSimpArgs false
set_option maxRecDepth 100000
set_option maxHeartbeats 8000000
theorem run_app_r {w0 W : World} (base b2 : Nat) (ty : TypeId) (v u : Value) (L m : List ByteArray) (HO : Own W base v L) (HU : Own W b2 u m) (HB : Below base w0 W) (hbase : base ≤ W.heap.size) (hl : L.length + m.length ≤ 1000000) :
 ∃ v1 w1, (Builtin.append_ #[26, 26] ty #[v, u]).run Tryz.prog W = .ok v1 w1 ∧ Own w1 base v1 (L ++ m) ∧ Below base w0 w1 ∧ W.grownBy w1 v.ownBlock ∧ (v1.ownBlock = v.ownBlock ∨ ∃ b, v1.ownBlock = some b ∧ W.heap.size ≤ b) := by
 obtain ⟨AU, cU, hu⟩ := own_slice HU
 obtain ⟨_, hk⟩ := HU
 rcases hk with ⟨e1, e2⟩ | ⟨g, cap, cur, e1, h1, h2, h3, h4, h5, h6⟩
 · have hm : m = [] := List.eq_nil_of_length_eq_zero e2
   subst hm
   obtain ⟨AV, cV, hv⟩ := own_slice HO
   subst hv e1
   exact ⟨_, W, run_app_nil ty AV L.length cV (own_cap HO) W, by rw [List.append_nil]; exact HO, HB, ⟨rfl, rfl, rfl, Nat.le_refl _, fun _ _ _ => rfl⟩, .inl rfl⟩
 · have hinfo : (Tryz.prog.info? 9).map (fun i => (i.zero, i.size, i.bytes)) = some (some (.string ⟨#[]⟩), 1, 16) := by kernel_rfl
   obtain ⟨i0, hi, hzz⟩ := Option.map_eq_some_iff.1 hinfo
   simp only [Prod.mk.injEq] at hzz
   obtain ⟨hz0, hz1, hz2⟩ := hzz
   subst e1
   obtain ⟨v1, w1, hr, hown, hg, _, hat⟩ := run_append_own_at (P := Tryz.prog) W base 26 ty 9 i0 (.string ⟨#[]⟩) 1 16 Tryz.underlying26 hi hz0 hz1 hz2 rfl (by decide) v L.length (L.map Value.string) HO ⟨g, 0, none⟩ m.length cap (m.map Value.string) (by simp)
    (fun j u' hu' => by
     refine World.news_of_block h2 j u' ?_
     rw [← h6, List.getElem?_take] at hu'
     split at hu'
     · exact hu'
     · cases hu')
    (fun u' hu' => by
     obtain ⟨b, _, rfl⟩ := List.mem_map.1 hu'
     rfl) (by simp only [maxLen]; omega) (by omega) hbase
   refine ⟨v1, w1, hr, by unfold Own; rw [List.length_append, List.map_append]; exact hown, HB.grown hg hbase (own_base HO), hg, ?_⟩
   rcases hat with q | q
   · exact .inl q
   · exact .inr ⟨_, q, Nat.le_refl _⟩
section
variable {ops : Array Oper} {rest : List Oper} {o : Oper} {a : Act} {Q : Exit → Act → World → Prop} {K : Act → World → Prop}
theorem app_r {w0 W : World} (base b2 : Nat) (hgd : o.guard = none) (s x : Operand) (ho : o.op = .call { callee := .builtin .append, args := #[s, x], argTypes := #[26, 26] }) (v u : Value) (L m : List ByteArray) (hs : a.eval s = v) (hx : a.eval x = u) (HO : Own W base v L) (HU : Own W b2 u m) (HB : Below base w0 W) (hbase : base ≤ W.heap.size) (hl : L.length + m.length ≤ 1000000)
 (h : ∀ v1 w1, Own w1 base v1 (L ++ m) → Below base w0 w1 → W.grownBy w1 v.ownBlock → (v1.ownBlock = v.ownBlock ∨ ∃ b, v1.ownBlock = some b ∧ W.heap.size ≤ b) → wpList Tryz.prog ops Q rest (a.put o.dst v1) w1) :
 wpList Tryz.prog ops Q (o :: rest) a W := by
 obtain ⟨v1, w1, hr, h1, h2, h3, h4⟩ := run_app_r (w0 := w0) base b2 o.type v u L m HO HU HB hbase hl
 refine wpList_plain hgd fun K hK => ?_
 unfold Oper.wp execOp
 simp only [ho, resolve, invoke, builtin, Sem.run_bind, Sem.run_pure, Result.andThen_ok, List.map_toArray, List.map_cons, List.map_nil, hs, hx, hr]
 exact hK _ _ (h v1 w1 h1 h2 h3 h4)
theorem step_r {w0 W : World} (base b2 : Nat) (hw : Region.wanted o (yielded ops a.tmps) = true) (s x : Operand) (ho : o.op = .call { callee := .builtin .append, args := #[s, x], argTypes := #[26, 26] }) (v u : Value) (L m : List ByteArray) (hs : a.eval s = v) (hx : a.eval x = u) (HO : Own W base v L) (HU : Own W b2 u m) (HB : Below base w0 W) (hbase : base ≤ W.heap.size) (hl : L.length + m.length ≤ 1000000)
 (h : ∀ v1 w1, Own w1 base v1 (L ++ m) → Below base w0 w1 → W.grownBy w1 v.ownBlock → (v1.ownBlock = v.ownBlock ∨ ∃ b, v1.ownBlock = some b ∧ W.heap.size ≤ b) → K (a.put o.dst v1) w1) :
 if Region.wanted o (yielded ops a.tmps) = true then Oper.wp Tryz.prog o a W K Q else K (a.put o.dst undef) W := by
 obtain ⟨v1, w1, hr, h1, h2, h3, h4⟩ := run_app_r (w0 := w0) base b2 o.type v u L m HO HU HB hbase hl
 rw [if_pos hw]
 unfold Oper.wp execOp
 simp only [ho, resolve, invoke, builtin, Sem.run_bind, Sem.run_pure, Result.andThen_ok, List.map_toArray, List.map_cons, List.map_nil, hs, hx, hr]
 exact h v1 w1 h1 h2 h3 h4
end
def StG (w W : World) (box : Array Value) (v : Value) (acc : List ByteArray) : Prop := Below w.heap.size w W ∧ W.heap[w.heap.size]? = some (.cells box 33 (0, 0)) ∧ W.heap[w.heap.size + 1]? = some (.cells #[v] 26 (0, 0)) ∧ Own W w.heap.size v acc
theorem StG.store {w W w1 : World} {box : Array Value} {v v1 : Value} {acc acc1 : List ByteArray} (h : StG w W box v acc) (ho : Own w1 w.heap.size v1 acc1) (hb : Below w.heap.size w w1) (hg : W.grownBy w1 v.ownBlock) : StG w (w1.setCell ⟨w.heap.size + 1, 0, none⟩ v1) box v1 acc1 := by
 obtain ⟨h1, h2, h3, h4⟩ := h
 have k2 := (hg.block _ (lt_blk h2) (own_ne h4 h2 (by decide))).trans h2
 have k3 := (hg.block _ (lt_blk h3) (own_ne h4 h3 (by decide))).trans h3
 exact ⟨below_set hb (by omega), blk_far k2 (by simp) _, blk_put k3 0 _ rfl, own_move ho fun k hv => Below.heap_setCell _ _ _ _ (fun e => own_ne ho k3 (by decide) (by rw [hv, e]))⟩
theorem StG.grown {w W w1 : World} {box : Array Value} {v : Value} {acc : List ByteArray} (h : StG w W box v acc) (hg : W.grownBy w1 v.ownBlock) : w1.heap[w.heap.size]? = some (.cells box 33 (0, 0)) ∧ w1.heap[w.heap.size + 1]? = some (.cells #[v] 26 (0, 0)) :=
 ⟨(hg.block _ (lt_blk h.2.1) (own_ne h.2.2.2 h.2.1 (by decide))).trans h.2.1, (hg.block _ (lt_blk h.2.2.1) (own_ne h.2.2.2 h.2.2.1 (by decide))).trans h.2.2.1⟩
theorem StG.alloc_drew {w W : World} {box : Array Value} {v : Value} {acc : List ByteArray} (h : StG w W box v acc) (o : Obj) : StG w (W.alloc o).drew box v acc := by
 have hb := below_alloc h.1 o
 exact ⟨⟨hb.os, hb.tape, hb.output, hb.size, hb.block⟩, aN h.2.1, aN h.2.2.1, World.ownsRow.alloc h.2.2.2 o⟩
theorem StG.drew_ {w W : World} {box : Array Value} {v : Value} {acc : List ByteArray} (h : StG w W box v acc) : StG w W.drew box v acc := by
 have hb := h.1
 exact ⟨⟨hb.os, hb.tape, hb.output, hb.size, hb.block⟩, h.2.1, h.2.2.1, h.2.2.2⟩
theorem StG.fin {w W W1 : World} {box : Array Value} {v v1 : Value} {acc1 : List ByteArray} (h1 : Own W w.heap.size v1 acc1) (hb : Below w.heap.size w W) (k2 : W.heap[w.heap.size]? = some (.cells box 33 (0, 0))) (k3 : W.heap[w.heap.size + 1]? = some (.cells #[v] 26 (0, 0))) (hk : W1.heap[w.heap.size + 1]? = some (.cells #[v1] 26 (0, 0))) (hp : Put (w.heap.size + 1) W W1) : StG w W1 box v1 acc1 :=
 ⟨hp.below hb (by omega), (hp.far _ (by omega)).trans k2, hk, own_move h1 fun k hv => hp.far k (fun e => own_ne h1 k3 (by decide) (by rw [hv, e]))⟩
theorem subs_snoc (xs : List (ByteArray × Value × List ByteArray)) (i : Nat) (x : ByteArray × Value × List ByteArray) (h : xs[i]? = some x) : extSubs (plainX (xs.take (i + 1))) = extSubs (plainX (xs.take i)) ++ (x.1 :: x.2.2) := by
 rw [List.take_add_one, h]
 simp [extSubs, plainX]
theorem subs_take (xs : List (ByteArray × Value × List ByteArray)) (i : Nat) : (extSubs (plainX (xs.take i))).length ≤ (extSubs (plainX xs)).length := by
 have e : extSubs (plainX xs) = extSubs (plainX (xs.take i)) ++ extSubs (plainX (xs.drop i)) := by
  conv => lhs; rw [← List.take_append_drop i xs]
  unfold plainX extSubs
  rw [List.map_append, List.flatMap_append]
 rw [e, List.length_append]
 omega
theorem subtags_g (R : Nat) (lang scr reg : ByteArray) (extl vars priv : List ByteArray) (xs : List (ByteArray × Value × List ByteArray)) (AE AV AX AR : Option Addr) (cE cV cX cR : Nat) (w : World) (hE : Own w R (.slice AE extl.length cE) extl) (hV : Own w R (.slice AV vars.length cV) vars) (hX : ExtsG w R (.slice AX xs.length cX) xs) (hR : Own w R (.slice AR priv.length cR) priv) (hn : extl.length + vars.length + (extSubs (plainX xs)).length + priv.length ≤ 900) :
 Calls Tryz.prog 75 #[.agg #[.string lang, .slice AE extl.length cE, .string scr, .string reg, .slice AV vars.length cV, .slice AX xs.length cX, .slice AR priv.length cR, .string ⟨#[]⟩]] w fun e w' => ∃ v, e = .returned v ∧ Own w' w.heap.size v (full1 [lang] ++ extl ++ full1 [scr, reg] ++ vars ++ extSubs (plainX xs) ++ (if priv = [] then [] else xB :: priv)) ∧ Below w.heap.size w w' := by
 have hut := Tryz.underlying33
 have hmf : ∀ (fn : Fn) (first cap : Array Value) (w : World), (Instr.makeFunc fn first cap).run Tryz.prog w = .ok (.func fn first cap) w := fun _ _ _ _ => rfl
 have eg := enters_of Tryz.func148 (by kernel_rfl) rfl
 unfold Enters at eg
 obtain ⟨BX, hBX⟩ : ∃ BX : Array Value, BX = #[.string lang, .slice AE extl.length cE, .string scr, .string reg, .slice AV vars.length cV, .slice AX xs.length cX, .slice AR priv.length cR, .string ⟨#[]⟩] := ⟨_, rfl⟩
 obtain ⟨FIN, hFIN⟩ : ∃ L, L = full1 [lang] ++ extl ++ full1 [scr, reg] ++ vars ++ extSubs (plainX xs) ++ (if priv = [] then [] else xB :: priv) := ⟨_, rfl⟩
 rw [← hFIN]
 have HFIN := Aside0.mk hFIN
 clear hFIN
 have HE := Aside0.mk hE
 have HV := Aside0.mk hV
 have HX := Aside0.mk hX
 have HR := Aside0.mk hR
 have HN := Aside0.mk hn
 clear hE hV hX hR hn
 go_enter Tryz.func75, Tryz.ntmps75
 go_wp2_with (first | (go_at_call 148; fail))
 rw [← hBX]
 have HBX := Aside0.mk hBX
 clear hBX
 obtain ⟨W3, hW3⟩ : ∃ W3, W3 = (((w.alloc (.cells BX 33)).alloc (.cells #[.slice none 0 0] 26)).alloc (.cells #[.string lang] 9)) := ⟨_, rfl⟩
 have B3 : Below w.heap.size w W3 := by rw [hW3]; exact below_alloc (below_alloc (below_alloc (Below.refl _ _) _) _) _
 have s3 : W3.heap.size = w.heap.size + 3 := by rw [hW3]; simp
 have t3 : W3.heap[w.heap.size]? = some (.cells BX 33 (0, 0)) := by rw [hW3]; exact aN (aN (aZ rfl))
 have b3 : W3.heap[w.heap.size + 1]? = some (.cells #[.slice none 0 0] 26 (0, 0)) := by rw [hW3]; exact aN (aZ (by simp))
 have a3 : W3.heap[w.heap.size + 2]? = some (.cells #[.string lang] 9 (0, 0)) := by rw [hW3]; exact aZ (by simp)
 rw [← hW3]
 clear hW3
 refine (add_c w.heap.size (w.heap.size + 1) (w.heap.size + 2) [lang] (by simp) [] (by simp) (.slice none 0 0) w W3 B3 a3 (by omega) (by simp [Value.ownBlock]) b3 (own_nil _ _ _ _) (by omega)).mono ?_
 rintro e W4 ⟨rfl, v4, b4, o4, B4, k4, h4⟩
 obtain ⟨V4, c4, rfl⟩ := own_slice o4
 have t4 := (k4.2 w.heap.size (by omega) (by omega) (by simp [Value.ownBlock])).trans t3
 obtain ⟨L4, hL4⟩ : ∃ L, L = [] ++ full1 [lang] := ⟨_, rfl⟩
 rw [← hL4] at o4 b4 h4
 have st4 : StG w W4 BX (.slice V4 L4.length c4) L4 := ⟨B4, t4, b4, o4⟩
 have S4 := Aside0.mk st4
 have HL4 := Aside0.mk hL4
 have y4 := (blk_cell b4 0).trans rfl
 have f4 := blk_frozen b4 0
 obtain ⟨z0, z1, z2, z3, z4, z5, z6, z7⟩ := cz8 (HBX.out ▸ t4)
 clear b3 a3 t3 B3 b4 o4 B4 k4 h4 t4 hL4 st4 s3
 go_wp2_with (first
  | (go_at_call 148; fail)
  | ((with_reducible refine gate_builtin (b := .append) (xs := #[.tmp 19, .tmp 21]) rfl ?_); at_builtin; refine app_r (w0 := w) w.heap.size R rfl (.tmp 19) (.tmp 21) rfl _ _ L4 extl rfl rfl S4.out.2.2.2 (pw_own_below HE.out S4.out.1) S4.out.1 S4.out.1.size (by have h1 := HN.out; have h2 : (full1 [lang]).length ≤ 1 := List.length_filter_le _ _; rw [HL4.out, List.nil_append]; omega) ?_; intro v5 w5 ho5 hb5 hg5 _; obtain ⟨V5, c5, e5⟩ := own_slice ho5; subst e5; have HO5 := Aside0.mk ho5; have HB5 := Aside0.mk hb5; have HG5 := Aside0.mk hg5; obtain ⟨k2, k3⟩ := S4.out.grown hg5; clear y4 f4 z0 z1 z2 z3 z4 z5 z6 z7 ho5 hb5 hg5; have y5 := (blk_cell k3 0).trans rfl; have f5 := blk_frozen k3 0; obtain ⟨z0, z1, z2, z3, z4, z5, z6, z7⟩ := cz8 (HBX.out ▸ k2); clear k2 k3))
 have S5 := S4.out.store HO5.out HB5.out HG5.out
 have hl45 : L4.length + extl.length = (L4 ++ extl).length := (List.length_append).symm
 rw [hl45]
 obtain ⟨L5, hL5⟩ : ∃ L, L = L4 ++ extl := ⟨_, rfl⟩
 rw [← hL5] at S5 ⊢
 have n5 : L5.length ≤ 901 := by
  rw [hL5, List.length_append, HL4.out, List.nil_append]
  have h1 := HN.out
  have h2 : (full1 [lang]).length ≤ 1 := List.length_filter_le _ _
  omega
 have HL5 := Aside0.mk hL5
 have HN5 := Aside0.mk n5
 obtain ⟨W6, hW6⟩ : ∃ W6, W6 = w5.setCell ⟨w.heap.size + 1, 0, none⟩ (.slice V5 L5.length c5) := ⟨_, rfl⟩
 rw [← hW6] at S5 ⊢
 have s6 : w5.heap.size = W6.heap.size := by rw [hW6]; simp [World.setCell]
 rw [s6]
 clear hL5 n5 hl45 y5 f5 z0 z1 z2 z3 z4 z5 z6 z7 HO5 HB5 HG5 hW6 s6
 have z6 := lt_blk S5.2.2.1
 have HS5 := Aside0.mk S5
 refine (add_c w.heap.size (w.heap.size + 1) W6.heap.size [scr, reg] (by simp) L5 (by have := HN5.out; omega) (.slice V5 L5.length c5) w (W6.alloc (.cells #[.string scr, .string reg] 9)) (below_alloc S5.1 _) (aZ rfl) (by omega) (fun e => by have := own_lt S5.2.2.2 _ e.symm; omega) (aN S5.2.2.1) (World.ownsRow.alloc S5.2.2.2 _) (by omega)).mono ?_
 rintro e W8 ⟨rfl, v8, b8, o8, B8, k8, h8⟩
 obtain ⟨V8, c8, rfl⟩ := own_slice o8
 have t8 := (k8.2 w.heap.size (lt_blk (aN S5.2.1)) (by omega) (fun e => own_ne S5.2.2.2 S5.2.1 (by decide) e)).trans (aN S5.2.1)
 obtain ⟨L8, hL8⟩ : ∃ L, L = L5 ++ full1 [scr, reg] := ⟨_, rfl⟩
 rw [← hL8] at o8 b8 h8
 have S8 : Aside0 (StG w W8 BX (.slice V8 L8.length c8) L8) := ⟨B8, t8, b8, o8⟩
 have HL8 := Aside0.mk hL8
 have HN8 : Aside0 (L8.length + vars.length + (extSubs (plainX xs)).length + priv.length ≤ 903) := ⟨by
  rw [hL8, List.length_append, HL5.out, List.length_append, HL4.out, List.nil_append]
  have h1 := HN.out
  have h2 : (full1 [lang]).length ≤ 1 := List.length_filter_le _ _
  have h3 : (full1 [scr, reg]).length ≤ 2 := List.length_filter_le _ _
  omega⟩
 have y8 := (blk_cell b8 0).trans rfl
 have f8 := blk_frozen b8 0
 clear z6
 obtain ⟨z0, z1, z2, z3, z4, z5, z6, z7⟩ := cz8 (HBX.out ▸ t8)
 clear b8 o8 B8 k8 h8 t8 hL8 S5
 go_wp2_with (first
  | ((with_reducible refine gate_builtin (b := .append) (xs := #[.tmp 30, .tmp 32]) rfl ?_); at_builtin; refine app_r (w0 := w) w.heap.size R rfl (.tmp 30) (.tmp 32) rfl _ _ L8 vars rfl rfl S8.out.2.2.2 (pw_own_below HV.out S8.out.1) S8.out.1 S8.out.1.size (by have h1 := HN8.out; omega) ?_; intro v9 w9 ho9 hb9 hg9 _; obtain ⟨V9, c9, e9⟩ := own_slice ho9; subst e9; have HO9 := Aside0.mk ho9; have HB9 := Aside0.mk hb9; have HG9 := Aside0.mk hg9; obtain ⟨k2, k3⟩ := S8.out.grown hg9; clear y8 f8 z0 z1 z2 z3 z4 z5 z6 z7 ho9 hb9 hg9; have y9 := (blk_cell k3 0).trans rfl; have f9 := blk_frozen k3 0; obtain ⟨z0, z1, z2, z3, z4, z5, z6, z7⟩ := cz8 (HBX.out ▸ k2); clear k2 k3))
 have S9 := S8.out.store HO9.out HB9.out HG9.out
 rw [show L8.length + vars.length = (L8 ++ vars).length from (List.length_append).symm]
 obtain ⟨L9, hL9⟩ : ∃ L, L = L8 ++ vars := ⟨_, rfl⟩
 rw [← hL9] at S9 ⊢
 have HL9 := Aside0.mk hL9
 have HN9 : Aside0 (L9.length + (extSubs (plainX xs)).length + priv.length ≤ 903) := ⟨by
  rw [hL9, List.length_append]
  have h1 := HN8.out
  omega⟩
 obtain ⟨W9, hW9⟩ : ∃ W9, W9 = w9.setCell ⟨w.heap.size + 1, 0, none⟩ (.slice V9 L9.length c9) := ⟨_, rfl⟩
 rw [← hW9] at S9 ⊢
 have HS9 := Aside0.mk S9
 clear hL9 hW9 y9 f9 z0 z1 z2 z3 z4 z5 z6 z7 HO9 HB9 HG9 S9
 go_loopw [37] (fun vi wr => ∃ (i : Nat) (acc : List ByteArray) (V : Option Addr) (c : Nat), vi = .int .i64 (i : Int) ∧ i ≤ xs.length ∧ Aside0 (StG w wr BX (.slice V acc.length c) acc) ∧ Aside0 (acc = L9 ++ extSubs (plainX (xs.take i)))) (fun vi _ => xs.length - (intOf vi).toNat)
 case atStart => exact ⟨0, L9, V9, c9, rfl, Nat.zero_le _, HS9, ⟨by simp [plainX, extSubs]⟩⟩
 case round =>
  obtain ⟨i, acc, V, c, rfl, hi, HS, HA⟩ := hrel
  have HC := Aside0.mk (extsX_cell HX.out.1)
  by_cases hlt : i < xs.length
  · have d1 : decide ((i : Int) < (xs.length : Int)) = true := decide_eq_true (by omega)
    have m0 : (0 : Int) ≤ (i : Int) := by omega
    have m1 : (i : Int) < (xs.length : Int) := by omega
    obtain ⟨x, hx⟩ : ∃ x, xs[i]? = some x := ⟨_, List.getElem?_eq_getElem hlt⟩
    obtain ⟨bk, hbke, hbk, hdc, hcc⟩ := HC.out.resolve_left (fun h => by rw [h] at hlt; simp at hlt)
    subst hbke
    obtain ⟨q1, q2⟩ := hcc i x hx
    have r1 := (HS.out.1.cell (World.block_lt_of_cell? w _ q1)).trans q1
    have r2 := (HS.out.1.cell (World.block_lt_of_cell? w _ q2)).trans q2
    rw [show 2 * i = i * 2 by omega] at r1 r2
    have y := (blk_cell HS.out.2.2.1 0).trans rfl
    have hxl : xs.length ≤ 1000000 := by
     have h1 := own_cap HX.out.1
     have h2 := subs_take xs xs.length
     have h3 : xs.length ≤ (extSubs (plainX xs)).length := by
      have : ∀ l : List (ByteArray × Value × List ByteArray), l.length ≤ (extSubs (plainX l)).length := by
       intro l
       induction l with
       | nil => exact Nat.le_refl _
       | cons y l ih =>
        show l.length + 1 ≤ ((y.1 :: y.2.2) ++ extSubs (plainX l)).length
        rw [List.length_append, List.length_cons]
        omega
      exact this xs
     have h4 := HN9.out
     omega
    have wi : wrap64 ((i : Int) + 1) = ((i + 1 : Nat) : Int) := by unfold wrap64; omega
    have hsn := subs_snoc xs i x hx
    have hla : acc.length + (1 + x.2.2.length) ≤ 903 := by
     have h1 := subs_take xs (i + 1)
     rw [hsn, List.length_append, List.length_cons] at h1
     have h2 := HN9.out
     rw [HA.out, List.length_append]
     omega
    have HLA := Aside0.mk hla
    have HSN := Aside0.mk hsn
    have HXX := Aside0.mk hx
    have HOX := Aside0.mk (HX.out.2 x (List.mem_of_getElem? hx))
    obtain ⟨AX2, cX2, eX2⟩ := own_slice (HX.out.2 x (List.mem_of_getElem? hx))
    rw [eX2] at r2
    clear hcc q1 q2 hx hla hsn hxl
    go_wp2_with (fail)
    refine start_ (n := 9) (S := fun w' => w'.cell? ⟨w.heap.size + 1, 0, none⟩ = some (.slice V acc.length c) ∧ w'.cell? ⟨wr.heap.size, 0, none⟩ = some (.string x.1) ∧ w'.cell? ⟨wr.heap.size, 1, none⟩ = some (.slice AX2 x.2.2.length cX2)) (ds := [8]) (M 9 0) (by kernel_rfl) rfl rfl ⟨(blk_cell (aN HS.out.2.2.1) 0).trans rfl, (blk_cell (aZ rfl) 0).trans rfl, (blk_cell (aZ rfl) 1).trans rfl⟩ (fun hHeld => ?_)
    obtain ⟨W1, hW1⟩ : ∃ W1, W1 = (wr.alloc (.cells #[.string x.1, .slice AX2 x.2.2.length cX2] 65)).drew := ⟨_, rfl⟩
    rw [← hW1] at hHeld ⊢
    have HS1 := Aside0.mk (show StG w W1 BX (.slice V acc.length c) acc from by rw [hW1]; exact HS.out.alloc_drew _)
    have HB1 : Aside0 (W1.heap[wr.heap.size]? = some (.cells #[.string x.1, .slice AX2 x.2.2.length cX2] 65 (0, 0))) := ⟨by rw [hW1]; exact aZ rfl⟩
    clear hW1
    refine pw 1 42 (M 9 2) ?_
    refine pw 5 46 (M 9 34) ?_
    refine tw 0 41 (M 9 35) hHeld ?_
    refine tw 2 43 (M 9 39) hHeld ?_
    refine tw 6 47 (M 9 103) hHeld ?_
    refine ow 3 (some 44) (M 9 111) fun K hK => ?_
    refine value_ (w1 := ?_) (v := ?_) (by rfl) rfl ?_ ?_
    rotate_left 2
    · go_simp
      constructor
      · rfl
      · rfl
    refine hK.out _ _ ⟨(blk_cell (aN HS1.out.2.2.1) 0).trans rfl, (blk_cell (aN HB1.out) 0).trans rfl, (blk_cell (aN HB1.out) 1).trans rfl⟩ (fun hHeld => ?_)
    clear hK K
    refine nw 44 ?_
    refine ow 4 (some 45) (M 9 127) fun K hK => ?_
    refine step_append_cells (w0 := w) w.heap.size (by rfl) (.tmp 41) (.tmp 44) 26 9 (.string ⟨#[]⟩) 1 16 rfl Tryz.underlying26 (by kernel_rfl) rfl (by decide) (by decide) (.slice V acc.length c) acc.length (acc.map Value.string) [.string x.1] rfl ?hx rfl ?h1 HS1.out.2.2.2 HS1.out.1 HS1.out.1.size ?hl ?_
    (case hx => rfl)
    (case h1 => simp [Value.oneCell'])
    (case hl => have := HLA.out; omega)
    intro v6 W6 hO6 hB6 hG6 hat
    obtain ⟨V6, d6, e6⟩ := own_slice hO6
    subst e6
    have HO6 : Aside0 (Own W6 w.heap.size (.slice V6 (acc.length + 1) d6) (acc ++ [x.1])) := ⟨by unfold Own; rw [List.length_append, List.map_append]; exact hO6⟩
    have HB6 := Aside0.mk hB6
    have HG6 := Aside0.mk hG6
    obtain ⟨k2, k3⟩ := HS1.out.grown hG6
    have K3 := Aside0.mk k3
    have K2 := Aside0.mk k2
    have KB : Aside0 (W6.heap[wr.heap.size]? = some (.cells #[.string x.1, .slice AX2 x.2.2.length cX2] 65 (0, 0))) := ⟨(hG6.block _ (lt_blk HB1.out) (own_ne HS1.out.2.2.2 HB1.out (by decide))).trans HB1.out⟩
    clear hO6 hB6 hG6 hat k2 k3
    refine hK.out _ _ ⟨(blk_cell K3.out 0).trans rfl, (blk_cell KB.out 0).trans rfl, (blk_cell KB.out 1).trans rfl⟩ (fun hHeld => ?_)
    clear hK K
    refine nw 45 ?_
    refine ow 7 (some 48) (M 9 255) fun K hK => ?_
    refine step_r (w0 := w) w.heap.size R (by rfl) (.tmp 45) (.tmp 47) rfl (.slice V6 (acc.length + 1) d6) (.slice AX2 x.2.2.length cX2) (acc ++ [x.1]) x.2.2 rfl rfl HO6.out (pw_own_below (eX2 ▸ HOX.out) HB6.out) HB6.out HB6.out.size ?hl ?_
    (case hl => have := HLA.out; simp only [List.length_append, List.length_cons, List.length_nil]; omega)
    intro v7 W7 hO7 hB7 hG7 hat7
    obtain ⟨V7, d7, e7⟩ := own_slice hO7
    subst e7
    have HO7 := Aside0.mk hO7
    have HB7 := Aside0.mk hB7
    have HG7 := Aside0.mk hG7
    have K27 := Aside0.mk ((hG7.block _ (lt_blk K2.out) (own_ne HO6.out K2.out (by decide))).trans K2.out)
    have K37 := Aside0.mk ((hG7.block _ (lt_blk K3.out) (own_ne HO6.out K3.out (by decide))).trans K3.out)
    have KB7 := Aside0.mk ((hG7.block _ (lt_blk KB.out) (own_ne HO6.out KB.out (by decide))).trans KB.out)
    clear hO7 hB7 hG7 hat7
    refine hK.out _ _ ⟨(blk_cell K37.out 0).trans rfl, (blk_cell KB7.out 0).trans rfl, (blk_cell KB7.out 1).trans rfl⟩ (fun hHeld => ?_)
    clear hK K
    refine nw 48 ?_
    refine last_ (i := 8) (N := none) (M 9 511) rfl rfl (by kernel_rfl) (by decide) (fun K hK => ?_)
    refine put_step (g := w.heap.size + 1) (off := 0) (cur := #[.slice V acc.length c]) (new := #[.slice V7 (acc ++ [x.1] ++ x.2.2).length d7]) (seg := [.slice V7 (acc ++ [x.1] ++ x.2.2).length d7]) (u := .slice V7 (acc ++ [x.1] ++ x.2.2).length d7) rfl rfl rfl rfl rfl rfl (by rfl) (by kernel_rfl) rfl rfl (Nat.le_of_ble_eq_true rfl) K37.out ?_
    intro W8 hk hp
    refine hK.out _ _ ?_
    clear hK K
    refine done_ (by kernel_rfl) ?_
    have HEND := Aside0.mk (StG.fin (box := BX) HO7.out HB7.out K27.out K37.out hk hp)
    have HI := Aside0.mk hi
    clear hk hp
    go_wp2_with (fail)
    go_roundw
    case rel => exact ⟨i + 1, acc ++ [x.1] ++ x.2.2, V7, d7, by rw [wi], by omega, HEND, ⟨by rw [HSN.out, HA.out]; simp⟩⟩
    case measure => rw [wi]; simp [intOf]; omega
  · obtain rfl : i = xs.length := by omega
    have d1 : decide ((xs.length : Int) < (xs.length : Int)) = false := decide_eq_false (by omega)
    have y := (blk_cell HS.out.2.2.1 0).trans rfl
    obtain ⟨z0, z1, z2, z3, z4, z5, z6, z7⟩ := cz8 (HBX.out ▸ HS.out.2.1)
    have HQ : Aside0 (acc = full1 [lang] ++ extl ++ full1 [scr, reg] ++ vars ++ extSubs (plainX xs)) := ⟨by
     rw [HA.out, List.take_length, HL9.out, HL8.out, HL5.out, HL4.out, List.nil_append]⟩
    by_cases hp0 : priv = []
    · have HF2 : Aside0 (FIN = acc) := ⟨by rw [HFIN.out, if_pos hp0, List.append_nil, ← HQ.out]⟩
      clear HFIN
      subst hp0
      go_wp2_with (fail)
      go_ret
      exact ⟨_, rfl, by rw [HF2.out]; exact HS.out.2.2.2, HS.out.1⟩
    · have hpl : 0 < priv.length := List.length_pos_iff.2 hp0
      have d2 : decide ((priv.length : Int) > 0) = true := decide_eq_true (by omega)
      have d3 : decide ((0 : Int) < (priv.length : Int)) = true := decide_eq_true (by omega)
      have hla : acc.length + (1 + priv.length) ≤ 905 := by
       have h2 := HN9.out
       rw [HA.out, List.take_length, List.length_append]
       omega
      have HLA := Aside0.mk hla
      have HP0 := Aside0.mk hp0
      have HPL := Aside0.mk hpl
      clear hla hp0 hpl
      go_wp2_with (fail)
      refine start_ (n := 7) (S := fun w' => w'.cell? ⟨w.heap.size + 1, 0, none⟩ = some (.slice V acc.length c) ∧ w'.cell? ⟨w.heap.size, 6, none⟩ = some (.slice AR priv.length cR)) (ds := [6]) (M 7 0) (by kernel_rfl) rfl rfl ⟨y, z6⟩ (fun hHeld => ?_)
      obtain ⟨W1, hW1⟩ : ∃ W1, W1 = wr.drew := ⟨_, rfl⟩
      rw [← hW1] at hHeld ⊢
      have HS1 := Aside0.mk (show StG w W1 BX (.slice V acc.length c) acc from by rw [hW1]; exact HS.out.drew_)
      clear hW1
      refine pw 3 57 (M 7 8) ?_
      refine tw 0 54 (M 7 9) hHeld ?_
      refine tw 4 58 (M 7 25) hHeld ?_
      refine ow 1 (some 55) (M 7 27) fun K hK => ?_
      refine value_ (w1 := ?_) (v := ?_) (by rfl) rfl ?_ ?_
      rotate_left 2
      · go_simp
        constructor
        · rfl
        · rfl
      refine hK.out _ _ ⟨(blk_cell (aN HS1.out.2.2.1) 0).trans rfl, (cz8 (HBX.out ▸ (aN HS1.out.2.1))).2.2.2.2.2.2.1⟩ (fun hHeld => ?_)
      clear hK K
      refine nw 55 ?_
      refine ow 2 (some 56) (M 7 31) fun K hK => ?_
      refine step_append_cells (w0 := w) w.heap.size (by rfl) (.tmp 54) (.tmp 55) 26 9 (.string ⟨#[]⟩) 1 16 rfl Tryz.underlying26 (by kernel_rfl) rfl (by decide) (by decide) (.slice V acc.length c) acc.length (acc.map Value.string) [.string xB] rfl ?hx rfl ?h1 HS1.out.2.2.2 HS1.out.1 HS1.out.1.size ?hl ?_
      (case hx => rfl)
      (case h1 => simp [Value.oneCell'])
      (case hl => have := HLA.out; omega)
      intro v6 W6 hO6 hB6 hG6 hat
      obtain ⟨V6, d6, e6⟩ := own_slice hO6
      subst e6
      have HO6 : Aside0 (Own W6 w.heap.size (.slice V6 (acc.length + 1) d6) (acc ++ [xB])) := ⟨by unfold Own; rw [List.length_append, List.map_append]; exact hO6⟩
      have HB6 := Aside0.mk hB6
      obtain ⟨k2, k3⟩ := HS1.out.grown hG6
      have K3 := Aside0.mk k3
      have K2 := Aside0.mk k2
      clear hO6 hB6 hG6 hat k2 k3
      refine hK.out _ _ ⟨(blk_cell K3.out 0).trans rfl, (cz8 (HBX.out ▸ K2.out)).2.2.2.2.2.2.1⟩ (fun hHeld => ?_)
      clear hK K
      refine nw 56 ?_
      refine ow 5 (some 59) (M 7 63) fun K hK => ?_
      refine step_r (w0 := w) w.heap.size R (by rfl) (.tmp 56) (.tmp 58) rfl (.slice V6 (acc.length + 1) d6) (.slice AR priv.length cR) (acc ++ [xB]) priv rfl rfl HO6.out (pw_own_below HR.out HB6.out) HB6.out HB6.out.size ?hl ?_
      (case hl => have := HLA.out; simp only [List.length_append, List.length_cons, List.length_nil]; omega)
      intro v7 W7 hO7 hB7 hG7 hat7
      obtain ⟨V7, d7, e7⟩ := own_slice hO7
      subst e7
      have HO7 := Aside0.mk hO7
      have HB7 := Aside0.mk hB7
      have K27 := Aside0.mk ((hG7.block _ (lt_blk K2.out) (own_ne HO6.out K2.out (by decide))).trans K2.out)
      have K37 := Aside0.mk ((hG7.block _ (lt_blk K3.out) (own_ne HO6.out K3.out (by decide))).trans K3.out)
      clear hO7 hB7 hG7 hat7
      refine hK.out _ _ ⟨(blk_cell K37.out 0).trans rfl, (cz8 (HBX.out ▸ K27.out)).2.2.2.2.2.2.1⟩ (fun hHeld => ?_)
      clear hK K
      refine nw 59 ?_
      refine last_ (i := 6) (N := none) (M 7 127) rfl rfl (by kernel_rfl) (by decide) (fun K hK => ?_)
      refine put_step (g := w.heap.size + 1) (off := 0) (cur := #[.slice V acc.length c]) (new := #[.slice V7 (acc ++ [xB] ++ priv).length d7]) (seg := [.slice V7 (acc ++ [xB] ++ priv).length d7]) (u := .slice V7 (acc ++ [xB] ++ priv).length d7) rfl rfl rfl rfl rfl rfl (by rfl) (by kernel_rfl) rfl rfl (Nat.le_of_ble_eq_true rfl) K37.out ?_
      intro W8 hk hp
      refine hK.out _ _ ?_
      clear hK K
      refine done_ (by kernel_rfl) ?_
      have HEND := Aside0.mk (StG.fin (box := BX) HO7.out HB7.out K27.out K37.out hk hp)
      clear hk hp y z0 z1 z2 z3 z4 z5 z6 z7
      have y := (blk_cell HEND.out.2.2.1 0).trans rfl
      go_wp2_with (fail)
      go_ret
      refine ⟨_, rfl, ?_, HEND.out.1⟩
      rw [HFIN.out, if_neg HP0.out, ← HQ.out, show xB :: priv = [xB] ++ priv from rfl, ← List.append_assoc]
      have e : (acc ++ [xB] ++ priv).length = acc.length + (priv.length + 1) := by simp
      have h := HEND.out.2.2.2
      rw [e] at h
      exact h
      rename_i hneg
      exact absurd HPL.out hneg
theorem below_putP {n b : Nat} {w W : World} (hn : n ≤ w.heap.size) (hb : n ≤ b) (h : Below n w W) (hs : n ≤ W.heap.size) (o : Obj) : Below n w (W.putObj b o) :=
 pw_below_grown h (some b) hs (grownBy_putObj' W b o) (fun k e => by cases e; exact hb)
theorem grown_setP (W : World) (b i : Nat) (v : Value) : W.grownBy (W.setCell ⟨b, i, none⟩ v) (some b) :=
 ⟨rfl, rfl, rfl, (KeepsWalks.setCell W _ v).size, fun k _ hk => Below.heap_setCell _ _ _ k (fun e => hk (by rw [e]))⟩
def faultV (p : Nat) : Value := .iface 105 (.pointer (some ⟨p, 0, none⟩))
def encPt (p : Nat) : Array Value := #[.pointer (some ⟨p, 0, none⟩)]
theorem faults1_one (n : Nat) (hn : 1 ≤ n) (p pe : Nat) (w : World) (he : w.heap[pe]? = some (.cells #[faultV p] 55 (0, 0))) :
 SeqOne Fence.wide n Tryz.prog 146 #[.pointer (some ⟨pe, 0, none⟩)] encPt p w := fun l J Jx W hW hJ hJx hY h0 => by
 have hta : ∀ (u : Value) (W : World), (Instr.typeAssert (.iface 105 u) 55 105 true).run Tryz.prog W = .ok (.tuple #[u, .bool true]) W := fun u W => by kernel_rfl
 have d1 := (blk_cell ((hW.block _ (lt_blk he)).trans he) 0).trans rfl
 obtain ⟨fn, tmps, assign, body, hy, hR⟩ := hY W h0
 have HR := Aside0.mk hR
 have HJ := Aside0.mk hJ
 simp only [encPt] at hy
 simp only [faultV] at d1
 clear he hW hJ hJx hY h0 hR
 refine callsIn_of_wp Tryz.func146 rfl trivial ?_ rfl
 simp only [Tryz.ntmps146, List.size_toArray, List.length_cons, List.length_nil, Nat.reduceAdd, Nat.reduceSub, Array.replicate_succ, Array.replicate_zero, List.push_toArray, List.append_toArray, List.nil_append, List.cons_append]
 gi_wp2_with (fail)
 refine wpIn_loop_rounds 1 ?_
 rw [roundsIn_succ]
 gi_wp2_with (fail)
 refine HR.out.mono ?_
 rintro e W5 ⟨rfl, hJ5⟩
 have HJ5 := Aside0.mk hJ5
 clear hJ5 hy
 gi_wp2_with (fail)
 refine bodyPost_ret (results_none rfl _ _ _) rfl ?_
 exact ⟨⟨_, rfl⟩, HJ5.out⟩
theorem faults_c (n : Nat) (p : Nat) (w : World) : CallsIn Fence.wide n Tryz.prog 73 #[faultV p] w fun e w' =>
 e = .returned (.func (.func 146) #[] #[.pointer (some ⟨w.heap.size, 0, none⟩)]) ∧ w' = w.alloc (.cells #[faultV p] 55) := by
 have hmf : ∀ (fn : Fn) (first cap : Array Value) (w : World), (Instr.makeFunc fn first cap).run Tryz.prog w = .ok (.func fn first cap) w := fun _ _ _ _ => rfl
 have hui := Tryz.underlying55
 refine callsIn_of_wp Tryz.func73 rfl trivial ?_ rfl
 simp only [Tryz.ntmps73, List.size_toArray, List.length_cons, List.length_nil, Nat.reduceAdd, Nat.reduceSub, Array.replicate_succ, Array.replicate_zero, List.push_toArray, List.append_toArray, List.nil_append, List.cons_append]
 gi_wp2
 go_ret
 exact ⟨rfl, rfl⟩
theorem place_c (p : Nat) (x : Int × Int) (w : World) (hF : FaultAt w p x) : Calls Tryz.prog 42 #[faultV p] w fun e w' => e = .returned (.int .i64 x.1) ∧ Below w.heap.size w w' := by
 have huf := Tryz.underlying107
 obtain ⟨what, hF⟩ := hF
 have hpl := lt_blk hF
 refine (callsIn_wide (n := 4)).1 ?_
 refine callsIn_of_wp_marks Tryz.func42 rfl trivial ?_ rfl
 simp only [Tryz.ntmps42, List.size_toArray, List.length_cons, List.length_nil, Nat.reduceAdd, Nat.reduceSub, Array.replicate_succ, Array.replicate_zero, List.push_toArray, List.append_toArray, List.nil_append, List.cons_append]
 have HF := Aside0.mk hF
 clear hF
 gi_wp2_with (first
  | (refine ⟨trivial, ?_⟩; gi_at_call 73; refine (faults_c _ p _).mono ?_; rintro e w2 ⟨rfl, rfl⟩))
 obtain ⟨N, hN⟩ : ∃ N, N = w.heap.size := ⟨_, rfl⟩
 obtain ⟨W0, hW0⟩ : ∃ W0, ((w.alloc (.cells #[.int .i64 0] 3)).alloc (.cells #[faultV p] 55)) = W0 := ⟨_, rfl⟩
 have n0 : W0.heap[N]? = some (.cells #[.int .i64 0] 3 (0, 0)) := by rw [← hW0, hN]; exact aN (aZ (by simp))
 have n1 : W0.heap[N + 1]? = some (.cells #[faultV p] 55 (0, 0)) := by rw [← hW0, hN]; exact aZ (by simp)
 have s0 : W0.heap.size = N + 1 + 1 := by rw [← hW0, hN]; simp
 have hB0 : Below N w W0 := by rw [← hW0, hN]; exact below_alloc (below_alloc (Below.refl _ _) _) _
 have HNN := Aside0.mk hN
 have HPL := Aside0.mk hpl
 have hBw : Below w.heap.size w W0 := hN ▸ hB0
 rw [hW0, ← hN]
 have HF0 := Aside0.mk ((hBw.block _ hpl).trans HF.out)
 clear hW0 hN HF
 refine range_one rfl (by omega) (gf := 146) (lb := #[.pointer (some ⟨N + 1, 0, none⟩)]) rfl trivial (enters_of Tryz.func146 (by kernel_rfl) rfl)
  (faults1_one _ (by omega) p (N + 1) W0 n1) (Below.refl _ _) rfl
  (fun W => W.heap[N]? = some (.cells #[.int .i64 0] 3 (0, 0)) ∧ Below N w W ∧ W.heap[p]? = some (.cells #[.int .i64 x.1, .string what, .iface 59 (.int .i64 x.2)] 107 (0, 0)))
  (fun c W => c = .ret ∧ W.heap[N]? = some (.cells #[.int .i64 x.1] 3 (0, 0)) ∧ Below N w W)
  (fun pre A B row ⟨i1, i2, i3⟩ hg hr => ⟨(hg.block _ (lt_blk i1) (fun e => by have := hr _ e.symm; omega)).trans i1, i2.grown hg (by have := lt_blk i1; omega) (fun r e => by have := hr r e; omega), (hg.block _ (lt_blk i3) (fun e => by have := hr _ e.symm; have := HPL.out; have := HNN.out; omega)).trans i3⟩)
  (fun c pre A B row ⟨i0, i1, i2⟩ hg hr => ⟨i0, (hg.block _ (lt_blk i1) (fun e => by have := hr _ e.symm; omega)).trans i1, i2.grown hg (by have := lt_blk i1; omega) (fun r e => by have := hr r e; omega)⟩)
  ⟨n0, hB0, HF0.out⟩ ?round ?stop
 case round =>
  rintro lp W K hlp ⟨i1, i2, i3⟩ hK
  simp only [encPt]
  have I1 := Aside0.mk i1
  have I2 := Aside0.mk i2
  have I3 := Aside0.mk i3
  clear i1 i2 i3 n0 n1
  gi_wp2
  refine hK _ _ (KeepsFrom.refl _ _) ?_
  rintro W3 ⟨r, o, hr, hW3, ⟨q, hq, hqc⟩, hoc⟩
  have hrne : ∀ (k : Nat) (o' : Obj), W.heap[k]? = some o' → o'.isCells = true → W3.heap[k]? = some o' := fun k o' h1 h2 => by
   rw [hW3]
   refine (World.putObj_heap_other ?_).trans h1
   rintro rfl
   rw [hq] at h1
   cases h1
   rw [hqc] at h2
   cases h2
  have L1 := Aside0.mk (hrne _ _ I1.out rfl)
  have L3 := Aside0.mk (hrne _ _ I3.out rfl)
  have B3' : Aside0 (Below N w W3) := ⟨by rw [hW3]; have h1 := I2.out.size; have h3 := HNN.out; have h4 := lt_blk I1.out; exact below_putP (by omega) (by omega) I2.out (by omega) _⟩
  clear hW3 hq hqc hoc hrne hK I1 I2 I3
  have u0 := (blk_cell L3.out 0).trans rfl
  have g0 := (blk_cell L1.out 0).trans rfl
  have h0 := blk_frozen L1.out 0
  refine wpIn_block ?_
  gi_wp2_with (fail)
  refine ⟨(KeepsOthers.of_grownBy (grown_setP _ _ _ _) (fun k o e ho => by cases e; rw [L1.out] at ho; cases ho; rfl)).from _, rfl, blk_put L1.out 0 (.int .i64 x.1) rfl, B3'.out.setCell (Nat.le_refl N) _⟩
 case stop =>
  rintro D c W hD ⟨rfl, i1, i2⟩ hK
  refine wpIn_ret ?_
  simp only [Exit.inBlock, Exit.then]
  have h0 := HNN.out
  refine ⟨by simp, .inl ⟨D, _, rfl, run_takeDeferred hK, ?_⟩⟩
  obtain ⟨W8, hW8⟩ : ∃ W8, W8 = W.putObj D (.deferred none) := ⟨_, rfl⟩
  have T8 : W8.heap[N]? = some (.cells #[.int .i64 x.1] 3 (0, 0)) := by rw [hW8]; exact (World.putObj_heap_other (by omega)).trans i1
  have B8 : Below w.heap.size w W8 := by
   rw [hW8, ← h0]
   exact i2.trans (belowK_b (w := w) (by omega) _ D _ _ (by omega) hK rfl rfl)
  have c0 := (blk_cell T8 0).trans rfl
  rw [← hW8]
  show ∃ v, _ ∧ _
  refine ⟨.int .i64 x.1, ?_, rfl, B8⟩
  simp [results, Tryz.results42, asAddr, c0, go_sem]
end Go.Proofs.YtpmcfckechjppaaGreatDoor.Ps
namespace Go.Proofs.YtpmcfckechjppaaGreatDoor.Ps
open Go.RowKit Go.Shelf Go.Proofs.YtpmcfckechjppaaGreatDoorW.PrintWords Go.Proofs.YtpmcfckechjppaaGreatDoorW.PrintLast Go.Proofs.YtpmcfckechjppaaGreatDoorW.PrintMore Go.Proofs.YtpmcfckechjppaaGreatDoor.P Go.Proofs.YtpmcfckechjppaaGreatDoor.LikW
set_option linter.unusedVariables false
set_option linter.unusedSimpArgs false
set_option maxRecDepth 100000
set_option maxHeartbeats 8000000
theorem empty_size (a : ByteArray) : a.toList.isEmpty = decide (a.size = 0) := by
 rw [Bool.eq_iff_iff, decide_eq_true_iff, List.isEmpty_iff_length_eq_zero, ByteArray.toList_eq, Array.length_toList]
 exact Iff.rfl
theorem full_one (a : ByteArray) : full1 [a] = opt1 a := by
 unfold full1 opt1
 rw [List.filter_cons, empty_size]
 by_cases h : a.size = 0 <;> simp [h]
theorem full_two (a b : ByteArray) : full1 [a, b] = opt1 a ++ opt1 b := by
 rw [show [a, b] = [a] ++ [b] from rfl, full1, List.filter_append, ← full_one, ← full_one]
 rfl
theorem subs_g (s : RS) (t : TagL) (R : Nat) (w : World) (hT : TagG w R s t) (hn : t.subs.length ≤ 900) :
 Calls Tryz.prog 75 #[tagV s] w fun e w' => ∃ v, e = .returned v ∧ Own w' w.heap.size v t.subs ∧ Below w.heap.size w w' := by
 obtain ⟨e1, e2, e3, hE, hV, ⟨xs, ex, hX⟩, hR⟩ := hT
 obtain ⟨AE, cE, hE'⟩ := own_slice hE
 obtain ⟨AV, cV, hV'⟩ := own_slice hV
 obtain ⟨AX, cX, hX'⟩ := own_slice hX.1
 obtain ⟨AR, cR, hR'⟩ := own_slice hR
 unfold tagV
 rw [hE', hV', hX', hR', e1, e2, e3]
 rw [hE'] at hE
 rw [hV'] at hV
 rw [hX'] at hX
 rw [hR'] at hR
 have hsub : t.subs = full1 [t.lang] ++ t.extl ++ full1 [t.scr, t.reg] ++ t.vars ++ extSubs (plainX xs) ++ (if t.priv = [] then [] else xB :: t.priv) := by
  rw [full_one, full_two, ex]
  unfold TagL.subs
  simp only [List.append_assoc]
 rw [hsub] at hn ⊢
 refine subtags_g R t.lang t.scr t.reg t.extl t.vars t.priv xs AE AV AX AR cE cV cX cR w hE hV hX hR ?_
 simp only [List.length_append] at hn
 have : t.priv.length ≤ (if t.priv = [] then [] else xB :: t.priv).length := by split <;> simp_all
 omega
theorem lower_g (s : RS) (t : TagL) (R : Nat) (w : World) (hT : TagG w R s t) (hn : t.subs.length ≤ 900) (hs : (Lib.join (t.subs.map (·.data.toList)) [45]).length ≤ 140737488355328) :
 Calls Tryz.prog 43 #[tagV s] w fun e w' => e = .returned (.string (joinS t.subs)) ∧ Below w.heap.size w w' := by
 have hl : t.subs.length ≤ 1000000 := Nat.le_trans hn (by decide)
 have hut := Tryz.underlying33
 have HT := Aside0.mk hT
 have hcall := fun W (hb : Below w.heap.size w W) => subs_g s t R W (HT.out.below hb) hn
 have HC := Aside0.mk hcall
 clear hT hcall
 unfold tagV at HC ⊢
 go_enter Tryz.func43, Tryz.ntmps43
 go_wp2_with (first
  | (go_at_call 75; refine (HC.out _ (below_alloc (Below.refl _ _) _)).mono ?_; rintro e w1 ⟨v, rfl, hO, hB⟩; have O_V := Aside0.mk hO; have HB := Aside0.mk hB; clear hO hB)
  | (go_at_call 74; refine (join_c _ v _ _ O_V.out hl hs).mono ?_; rintro e w2 ⟨rfl, hB2⟩))
 go_ret
 exact ⟨rfl, (below_alloc (Below.refl _ _) _).trans ((HB.out.mono (by simp)).trans (hB2.mono (Nat.le_trans (by simp) HB.out.size)))⟩
theorem string_g (s : RS) (t : TagL) (R : Nat) (w : World) (hT : TagG w R s t) (hn : t.subs.length ≤ 900) (hs : (Lib.join (t.subs.map (·.data.toList)) [45]).length ≤ 140737488355328) (hz : (joinS t.subs).size ≤ 900000) (sg : Bool) (out : List ByteArray) (ht : (eachP (joinS t.subs)).all caseOk = true) (ho : caseL (eachP (joinS t.subs)) (false, []) = some (sg, out)) (hj : (Lib.join (out.map (·.data.toList)) [45]).length ≤ 140737488355328) :
 Calls Tryz.prog 44 #[tagV s] w fun e w' => e = .returned (.string (joinS out)) ∧ Below w.heap.size w w' := by
 have hut := Tryz.underlying33
 have HT := Aside0.mk ht
 have HO := Aside0.mk ho
 have HZ := Aside0.mk hz
 have HG := Aside0.mk hT
 have hcall := fun W (hb : Below w.heap.size w W) => lower_g s t R W (HG.out.below hb) hn hs
 have HC := Aside0.mk hcall
 clear ht ho hz hT hcall
 unfold tagV at HC ⊢
 go_enter Tryz.func44, Tryz.ntmps44
 go_wp2_with (first
  | (go_at_call 43; refine (HC.out _ (below_alloc (Below.refl _ _) _)).mono ?_; rintro e w1 ⟨rfl, hB⟩; have HB := Aside0.mk hB; clear hB)
  | (go_at_call 45; refine (case_c _ HZ.out sg out HT.out HO.out hj _).mono ?_; rintro e w2 ⟨rfl, hB2⟩))
 go_ret
 exact ⟨rfl, (below_alloc (Below.refl _ _) _).trans ((HB.out.mono (by simp)).trans (hB2.mono (Nat.le_trans (by simp) HB.out.size)))⟩
end Go.Proofs.YtpmcfckechjppaaGreatDoor.Ps
