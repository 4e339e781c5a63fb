/- The law AliasBack, in plain words: a right alias is decoded of its row; what is decoded has that row. -/
import Derived.Test.YtmbfnbnlajchmaaDoorAbAliasDec
import Derived.Test.YtmbfnbnlajchmaaDoorAbP28
namespace Go.Proofs.YtmbfnbnlajchmaaDoor.Pure
open Go.RowKit Go.Proofs.YtmbfnbnlajchmaaDoor.P Go.Proofs.YtmbfnbnlajchmaaDoorW.PrintWords Go.Proofs.YtmbfnbnlajchmaaDoorW.PrintLast Go.Proofs.YtmbfnbnlajchmaaDoorW.PrintMore
open Go.Proofs.YtmbfnbnlajchmaaDoor.Each Go.Proofs.YtmbfnbnlajchmaaDoor.Base Go.Proofs.YtmbfnbnlajchmaaDoor.PackW
set_option linter.unusedVariables false
set_option linter.unusedSimpArgs false

theorem unp_back {n : Int} (h : (unpN n).2 = true) (hl : lowS (unpN n).1 = (unpN n).1) : bytes8 (unpN n).1 = putS n 8 := by
  unfold bytes8
  unfold unpN at h hl ⊢
  by_cases c : mayL (headN n) = true ∧ padV 8 (headN n) = n
  · rw [if_pos c] at hl ⊢
    have hb := bytesOf_str _ (headN_byte n)
    have e : packT (lowS (strOfNums (headN n))) = (n, true) := by
      have hl' : lowS (strOfNums (headN n)) = strOfNums (headN n) := hl
      rw [hl', packT_eq, hb, if_pos c.1, c.2]
    show putS (packT (lowS (strOfNums (headN n)))).1 8 = _
    rw [e]
  · rw [if_neg c] at h; cases h
theorem row_parts (x : ByteArray) (hz : x.size = 41) (t : Nat → ByteArray) (ht : ∀ i, i < 5 → bytesOf (bytes8 (t i)) = ((bytesOf x).drop (1 + 8 * i)).take 8) : rowS (bt x 0) (t 0) (t 1) (t 2) (t 3) (t 4) = x := by
  apply bytesOf_inj
  have hb1 : ∀ y ∈ [bt x 0 % 256], byteI y := by intro y hy; simp at hy; rw [hy]; exact mod_byte _
  unfold rowS
  simp only [bytesOf_append, bytesOf_str _ hb1]
  rw [ht 0 (by decide), ht 1 (by decide), ht 2 (by decide), ht 3 (by decide), ht 4 (by decide)]
  obtain ⟨c0, c1⟩ := bt_byte x 0
  have e0 : bt x 0 % 256 = bt x 0 := by omega
  have hl : (bytesOf x).length = 41 := by rw [bytesOf_length, hz]
  have f0 : bytesOf x = bt x 0 :: (bytesOf x).drop 1 := by
    have := drop_at x 0 (by omega)
    rw [List.drop_zero] at this
    exact this
  have st : ∀ k, k + 8 ≤ 41 → (bytesOf x).drop k = ((bytesOf x).drop k).take 8 ++ (bytesOf x).drop (k + 8) := by
    intro k hk
    rw [← List.drop_drop, List.take_append_drop]
  rw [e0]
  conv => rhs; rw [f0, st 1 (by decide), st 9 (by decide), st 17 (by decide), st 25 (by decide), st 33 (by decide), List.drop_of_length_le (show (bytesOf x).length ≤ 33 + 8 by omega)]
  simp only [List.append_assoc, List.cons_append, List.nil_append, List.append_nil]
theorem row_dec (x : ByteArray) : decS x = ZT ∨ ∃ k a b l s r, decS x = (k, a, b, l, s, r, true) ∧ rightB k a b l s r = true ∧ rowS k a b l s r = x ∧ a.size ≤ 8 ∧ b.size ≤ 8 ∧ l.size ≤ 8 ∧ s.size ≤ 8 ∧ r.size ≤ 8 := by
  unfold decS
  by_cases hz : x.size = 41
  · rw [if_pos hz]
    by_cases c0 : (decT x 0).2 = true
    · by_cases c1 : (decT x 1).2 = true
      · by_cases c2 : (decT x 2).2 = true
        · by_cases c3 : (decT x 3).2 = true
          · by_cases c4 : (decT x 4).2 = true
            · rw [if_pos c0, if_pos c1, if_pos c2, if_pos c3, if_pos c4]
              unfold lastS
              by_cases R : rightB (bt x 0) (decT x 0).1 (decT x 1).1 (decT x 2).1 (decT x 3).1 (decT x 4).1 = true
              · rw [if_pos R]
                refine .inr ⟨_, _, _, _, _, _, rfl, R, ?_, decT_size x 0, decT_size x 1, decT_size x 2, decT_size x 3, decT_size x 4⟩
                have F := right_fine R
                have g : ∀ i, i < 5 → (decT x i).2 = true → lowS (decT x i).1 = (decT x i).1 → bytesOf (bytes8 (decT x i).1) = ((bytesOf x).drop (1 + 8 * i)).take 8 := by
                  intro i hi h1 h2
                  have e : bytes8 (decT x i).1 = putS (gN x (1 + 8 * i) 8) 8 := unp_back h1 h2
                  rw [e, putS_bytes, put_get x (1 + 8 * i) 8 (by omega)]
                refine row_parts x hz (fun i => (decT x i).1) (fun i hi => ?_)
                match i, hi with
                | 0, _ => exact g 0 (by decide) c0 F.la
                | 1, _ => exact g 1 (by decide) c1 F.lb
                | 2, _ => exact g 2 (by decide) c2 F.ll
                | 3, _ => exact g 3 (by decide) c3 F.ls
                | 4, _ => exact g 4 (by decide) c4 F.lr
                | i + 5, h => omega
              · rw [if_neg R]; exact .inl rfl
            · rw [if_pos c0, if_pos c1, if_pos c2, if_pos c3, if_neg c4]; exact .inl rfl
          · rw [if_pos c0, if_pos c1, if_pos c2, if_neg c3]; exact .inl rfl
        · rw [if_pos c0, if_pos c1, if_neg c2]; exact .inl rfl
      · rw [if_pos c0, if_neg c1]; exact .inl rfl
    · rw [if_neg c0]; exact .inl rfl
  · rw [if_neg hz]; exact .inl rfl
theorem unpN_low {s : ByteArray} (hl : lowS s = s) (h : packB s = true) : unpN (packT (lowS s)).1 = (s, true) := by
  rw [packT_yes h]
  have e : (bytesOf s).map lowI = bytesOf s := by rw [← lowS_bytes, hl]
  unfold packB at h
  rw [e] at h ⊢
  show unpN (padV 8 (bytesOf s)) = (s, true)
  unfold unpN
  rw [headN_pad _ h, if_pos ⟨h, rfl⟩, str_bytesOf]
theorem cut_mid {l x y z : List Int} {n m : Nat} (h : l = x ++ (y ++ z)) (hx : x.length = n) (hy : y.length = m) : (l.drop n).take m = y := by
  subst h hx hy
  rw [List.drop_left, List.take_left]
theorem dec_row {k : Int} {a b l s r : ByteArray} (h : rightB k a b l s r = true) : decS (rowS k a b l s r) = (k, a, b, l, s, r, true) := by
  have F := right_fine h
  have hz := rowS_size k a b l s r
  have hb1 : ∀ y ∈ [k % 256], byteI y := by intro y hy; simp at hy; rw [hy]; exact mod_byte _
  have hB : bytesOf (rowS k a b l s r) = [k % 256] ++ (bytesOf (bytes8 a) ++ (bytesOf (bytes8 b) ++ (bytesOf (bytes8 l) ++ (bytesOf (bytes8 s) ++ bytesOf (bytes8 r))))) := by
    unfold rowS
    simp only [bytesOf_append, bytesOf_str _ hb1, List.append_assoc]
  have len : ∀ x, (bytesOf (bytes8 x)).length = 8 := fun x => by rw [bytesOf_length, bytes8_size]
  have k0 : bt (rowS k a b l s r) 0 = k := by
    have : bt (rowS k a b l s r) ((0 : Nat) : Int) = k % 256 := bt_get _ 0 _ (by rw [hB]; rfl)
    have h1 := F.k1
    have h7 := F.k7
    rw [show ((0 : Nat) : Int) = 0 from rfl] at this
    omega
  have g : ∀ (x : ByteArray) (i : Nat), i < 5 → ((bytesOf (rowS k a b l s r)).drop (1 + 8 * i)).take 8 = bytesOf (bytes8 x) → lowS x = x → packB x = true → decT (rowS k a b l s r) i = (x, true) := by
    intro x i hi e hl hp
    have e2 := put_get (rowS k a b l s r) (1 + 8 * i) 8 (by omega)
    have e3 : putL (gN (rowS k a b l s r) (1 + 8 * i) 8) 8 = putL (packT (lowS x)).1 8 := by
      rw [e2, e, bytes8, putS_bytes]
    have r0 := gN_range (rowS k a b l s r) (1 + 8 * i) 8
    have r1 := packT_range (lowS x)
    have p8 : (256 : Int) ^ 8 = 18446744073709551616 := by decide
    have e4 := putL_inj 8 _ _ r0.1 r0.2 r1.1 (by omega) e3
    unfold decT
    rw [e4]
    exact unpN_low hl hp
  have d0 := g a 0 (by decide) (cut_mid (n := 1) (m := 8) hB rfl (len a)) F.la F.pa
  have d1 := g b 1 (by decide) (cut_mid (n := 9) (m := 8) (x := [k % 256] ++ bytesOf (bytes8 a)) (z := bytesOf (bytes8 l) ++ (bytesOf (bytes8 s) ++ bytesOf (bytes8 r))) (by rw [hB]; simp only [List.append_assoc]) (by simp [len]) (len b)) F.lb F.pb
  have d2 := g l 2 (by decide) (cut_mid (n := 17) (m := 8) (x := [k % 256] ++ (bytesOf (bytes8 a) ++ bytesOf (bytes8 b))) (z := bytesOf (bytes8 s) ++ bytesOf (bytes8 r)) (by rw [hB]; simp only [List.append_assoc]) (by simp [len]) (len l)) F.ll F.pl
  have d3 := g s 3 (by decide) (cut_mid (n := 25) (m := 8) (x := [k % 256] ++ (bytesOf (bytes8 a) ++ (bytesOf (bytes8 b) ++ bytesOf (bytes8 l)))) (z := bytesOf (bytes8 r)) (by rw [hB]; simp only [List.append_assoc]) (by simp [len]) (len s)) F.ls F.ps
  have d4 := g r 4 (by decide) (cut_mid (n := 33) (m := 8) (x := [k % 256] ++ (bytesOf (bytes8 a) ++ (bytesOf (bytes8 b) ++ (bytesOf (bytes8 l) ++ bytesOf (bytes8 s))))) (z := []) (by rw [hB]; simp only [List.append_assoc, List.append_nil]) (by simp [len]) (len r)) F.lr F.pr
  unfold decS lastS
  rw [if_pos hz, d0, d1, d2, d3, d4, k0]
  rw [if_pos rfl, if_pos rfl, if_pos rfl, if_pos rfl, if_pos rfl, if_pos h]
theorem zero_wrong : rightB 0 ⟨#[]⟩ ⟨#[]⟩ ⟨#[]⟩ ⟨#[]⟩ ⟨#[]⟩ = false := by decide +kernel
theorem dec_empty : decS ⟨#[]⟩ = ZT := by
  unfold decS
  rw [if_neg (by decide)]
theorem back_size (s : ByteArray) (i j : Nat) : (s.extract i j).size ≤ s.size := by
  rw [size_bytesOf, bytesOf_extract, List.length_take, List.length_drop, bytesOf_length]; omega
theorem AliasBack : isoglosslaw12_AliasBack.Pure := by
  intro s0 s1 s2 s3 s4 s5 s6 q0 q1 _ _ _ _ _ _ _ _ _
  have : Ev (fun n => isoglosslaw12_AliasBack.f n s0 s1 s2 s3 s4 s5 s6 q0 q1) true := by
    obtain ⟨⟨k, a, b, l, s, r⟩, em, ⟨ya, yb, yl, ys, yr⟩, _⟩ := Made_ev s0 s1 s2 s3 s4 s5 s6
    dsimp only at ya yb yl ys yr
    have j : Ev (fun n => isoglosslaw12_AliasBack.j0 n true false q0 q1 k a b l s r) true := by
      have hz := rowS_size k a b l s r
      have er := rRow_ev k a b l s r (by omega) (by omega) (by omega) (by omega) (by omega)
      generalize rowS k a b l s r = x at hz er
      obtain ⟨i, ei, i0, i1⟩ := rest12_eq q0 (x.size : Int) (by omega) (by omega)
      have w : wrap64 (i + 1) = i + 1 := by unfold wrap64; omega
      have c1 := back_size x 0 i.toNat
      have c2 := back_size x (i + 1).toNat x.size
      have o := one_size q1
      refine Ev.step (fun n => by unfold isoglosslaw12_AliasBack.j0; rfl) ?_
      refine Ev.ite_neg (by decide) ?_
      refine Ev.bind er ?_
      refine Ev.bind_c ei ?_
      refine Ev.ite_pos i0 (Ev.ite_pos (by omega) (Ev.name ?_))
      rw [w]
      refine Ev.ite_pos (by rw [o]; omega) (Ev.ite_pos (by omega) (Ev.ite_pos (by omega) (Ev.ite_pos (by rw [ByteArray.size_append, o]; omega) ?_)))
      generalize (x.extract 0 i.toNat ++ strOfNums [q1 % 256]) ++ x.extract (i + 1).toNat x.size = y
      refine Ev.bind (Decode_ev y) ?_
      rcases row_dec y with e | ⟨k', a', b', l', s', r', e, R, hy, z1, z2, z3, z4, z5⟩
      · rw [e]
        refine Ev.bind (Encode_ev 0 ⟨#[]⟩ ⟨#[]⟩ ⟨#[]⟩ ⟨#[]⟩ ⟨#[]⟩ (by decide) (by decide) (by decide) (by decide) (by decide)) ?_
        rw [zero_wrong, if_neg (by decide)]
        exact Ev.ite_pos rfl (Ev.ite_pos rfl (Ev.ite_neg (by decide) (Ev.now _)))
      · rw [e]
        refine Ev.bind (Encode_ev k' a' b' l' s' r' (by omega) (by omega) (by omega) (by omega) (by omega)) ?_
        rw [R, if_pos rfl, hy]
        refine Ev.ite_pos rfl (Ev.ite_pos rfl (Ev.ite_pos rfl (Ev.ite_pos rfl ?_)))
        have E := Right_ev k' a' b' l' s' r' (by omega) (by omega) (by omega) (by omega) (by omega)
        rw [R] at E
        exact Ev.tail E
    unfold isoglosslaw12_AliasBack.f
    refine Ev.bind awake12_ev ?_
    refine Ev.bind em ?_
    refine Ev.bind (Encode_ev k a b l s r (by omega) (by omega) (by omega) (by omega) (by omega)) ?_
    cases hR : rightB k a b l s r with
    | false =>
      rw [if_neg (by decide)]
      refine Ev.bind (Decode_ev _) ?_
      rw [dec_empty]
      exact Ev.ite_neg (by decide) (Ev.ite_neg (by decide) j)
    | true =>
      rw [if_pos rfl]
      refine Ev.bind (Decode_ev _) ?_
      dsimp only
      rw [dec_row hR]
      refine Ev.ite_neg (by simp) (Ev.ite_pos rfl ?_)
      simp only [beq_self_eq_true, Bool.not_true, Bool.or_false]
      exact j
  exact this.rounds
end Go.Proofs.YtmbfnbnlajchmaaDoor.Pure
