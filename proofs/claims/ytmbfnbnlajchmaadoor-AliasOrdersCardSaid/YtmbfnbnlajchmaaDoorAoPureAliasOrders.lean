/- The law AliasOrders, in plain words: of right aliases the keys stand as Compare tells; Compare is the document's; the other way round it is the other way round. -/
import Derived.Test.YtmbfnbnlajchmaaDoorAoAliasHelp
import Derived.Test.YtmbfnbnlajchmaaDoorAoP11
import Derived.Test.YtmbfnbnlajchmaaDoorAoP22
import Derived.Test.YtmbfnbnlajchmaaDoorAoP23
namespace Go.Proofs.YtmbfnbnlajchmaaDoor.Pure
open Go.RowKit Go.Proofs.YtmbfnbnlajchmaaDoor.P Go.Proofs.YtmbfnbnlajchmaaDoorW.PrintWords Go.Proofs.YtmbfnbnlajchmaaDoorW.PrintLast Go.Proofs.YtmbfnbnlajchmaaDoorW.PrintMore
open Go.Proofs.YtmbfnbnlajchmaaDoor.Each Go.Proofs.YtmbfnbnlajchmaaDoor.Base Go.Proofs.YtmbfnbnlajchmaaDoor.PackW
set_option linter.unusedVariables false
set_option linter.unusedSimpArgs false

theorem less_cmp : ∀ x y : List UInt8, Op.bytesLess x y = decide (cmpL (x.map fun c => (c.toNat : Int)) (y.map fun c => (c.toNat : Int)) = -1)
  | [], [] => by simp [Op.bytesLess, cmpL]
  | [], _ :: _ => by simp [Op.bytesLess, cmpL]
  | _ :: _, [] => by simp [Op.bytesLess, cmpL]
  | a :: x, b :: y => by
    have ih := less_cmp x y
    simp only [Op.bytesLess, List.map_cons, cmpL]
    by_cases h : a = b
    · subst h
      have h0 : ¬ a < a := UInt8.lt_irrefl a
      simp [h0, ih]
    · have hn : a.toNat ≠ b.toNat := fun e => h (UInt8.toNat_inj.1 e)
      have h1 : (a == b) = false := by simpa using h
      by_cases l : a < b
      · have l2 : a.toNat < b.toNat := UInt8.lt_iff_toNat_lt.1 l
        rw [if_pos (by omega)]
        simp [l]
      · have l2 : ¬ a.toNat < b.toNat := fun e => l (UInt8.lt_iff_toNat_lt.2 e)
        rw [if_neg (by omega), if_pos (by omega)]
        simp [l, h1]
theorem less_bytes (s t : ByteArray) : Op.bytesLess s.toList t.toList = decide (cmpL (bytesOf s) (bytesOf t) = -1) := by
  rw [toList_data, toList_data]
  exact less_cmp _ _
def ordI (a b : Int) : Int := if a < b then -1 else if a > b then 1 else 0
def ordS (a b : ByteArray) : Int := cmpL (bytesOf a) (bytesOf b)
theorem ordS_eq (a b : ByteArray) : (if (Op.bytesLess a.toList b.toList) = true then (some (-1)) else (if (Op.bytesLess b.toList a.toList) = true then (some 1) else (some 0)) : Option Int) = some (ordS a b) := by
  rw [less_bytes, less_bytes, cmpL_swap (bytesOf a) (bytesOf b)]
  unfold ordS
  rcases cmpL_three (bytesOf a) (bytesOf b) with h | h | h <;> rw [h] <;> decide
def cmpA (k : Int) (a b : ByteArray) (k' : Int) (a' b' : ByteArray) : Int := if ordI k k' = 0 then (if ordS a a' = 0 then ordS b b' else ordS a a') else ordI k k'
theorem ordI_three (a b : Int) : ordI a b = -1 ∨ ordI a b = 0 ∨ ordI a b = 1 := by unfold ordI; (repeat' split) <;> omega
theorem ordI_swap (a b : Int) : ordI b a = - ordI a b := by unfold ordI; (repeat' split) <;> omega
theorem ordS_three (a b : ByteArray) : ordS a b = -1 ∨ ordS a b = 0 ∨ ordS a b = 1 := cmpL_three _ _
theorem ordS_swap (a b : ByteArray) : ordS b a = - ordS a b := cmpL_swap _ _
theorem cmpA_three (k : Int) (a b : ByteArray) (k' : Int) (a' b' : ByteArray) : cmpA k a b k' a' b' = -1 ∨ cmpA k a b k' a' b' = 0 ∨ cmpA k a b k' a' b' = 1 := by
  unfold cmpA
  split
  · split
    · exact ordS_three _ _
    · exact ordS_three _ _
  · exact ordI_three _ _
theorem cmpA_swap (k : Int) (a b : ByteArray) (k' : Int) (a' b' : ByteArray) : cmpA k' a' b' k a b = - cmpA k a b k' a' b' := by
  unfold cmpA
  rw [ordI_swap k k', ordS_swap a a', ordS_swap b b']
  (repeat' split) <;> omega
theorem cmpA_self (k : Int) (a b : ByteArray) : cmpA k a b k a b = 0 := by
  have := cmpA_swap k a b k a b
  omega
theorem int_eq (a b : Int) : cmp_Compare_int.f a b = some (ordI a b) := by
  have n : ∀ x, cmp_isNaN_int.f x = some false := fun x => by unfold cmp_isNaN_int.f; rw [bne_self_eq_false]
  unfold cmp_Compare_int.f ordI
  rw [n, n]
  simp only [Option.bind_some, Bool.false_eq_true, if_false]
  (repeat' split) <;> rfl
theorem str_eq (a b : ByteArray) : cmp_Compare_string.f a b = some (ordS a b) := by
  have n : ∀ x, cmp_isNaN_string.f x = some false := fun x => by unfold cmp_isNaN_string.f; rw [bne_self_eq_false]
  unfold cmp_Compare_string.f
  rw [n, n]
  simp only [Option.bind_some, Bool.false_eq_true, if_false]
  exact ordS_eq a b
theorem order_eq (a b : ByteArray) : isoglossref12_order.f a b = some (ordS a b) := ordS_eq a b
theorem Or_ev (x y z : Int) : Ev (fun n => cmp_Or_int.f n [x, y, z]) (if x = 0 then (if y = 0 then z else y) else x) := by
  have w0 : wrap64 ((0 : Int) + 1) = 1 := by unfold wrap64; omega
  have w1 : wrap64 ((1 : Int) + 1) = 2 := by unfold wrap64; omega
  have w2 : wrap64 ((2 : Int) + 1) = 3 := by unfold wrap64; omega
  have e3 : Ev (fun n => cmp_Or_int.l0 n 0 [x, y, z] 3 3) 0 := by
    refine Ev.step (fun n => by unfold cmp_Or_int.l0; rfl) ?_
    exact Ev.ite_neg (by decide) (Ev.now _)
  have e2 : Ev (fun n => cmp_Or_int.l0 n 0 [x, y, z] 3 2) z := by
    refine Ev.step (fun n => by unfold cmp_Or_int.l0; rfl) ?_
    refine Ev.ite_pos (by decide) (Ev.ite_pos (by decide) (Ev.ite_pos (by decide : (2 : Int) < 3) ?_))
    show Ev (fun n => if z = 0 then cmp_Or_int.l0 n 0 [x, y, z] 3 (wrap64 (2 + 1)) else some z) z
    rw [w2]
    by_cases h : z = 0
    · refine Ev.ite_pos h ?_
      rw [h] at e3 ⊢
      exact e3
    · exact Ev.ite_neg h (Ev.now _)
  have e1 : Ev (fun n => cmp_Or_int.l0 n 0 [x, y, z] 3 1) (if y = 0 then z else y) := by
    refine Ev.step (fun n => by unfold cmp_Or_int.l0; rfl) ?_
    refine Ev.ite_pos (by decide) (Ev.ite_pos (by decide) (Ev.ite_pos (by decide : (1 : Int) < 3) ?_))
    show Ev (fun n => if y = 0 then cmp_Or_int.l0 n 0 [x, y, z] 3 (wrap64 (1 + 1)) else some y) _
    rw [w1]
    by_cases h : y = 0
    · rw [if_pos h]; exact Ev.ite_pos h e2
    · rw [if_neg h]; exact Ev.ite_neg h (Ev.now _)
  unfold cmp_Or_int.f
  refine Ev.step (fun n => by unfold cmp_Or_int.l0; rfl) ?_
  refine Ev.ite_pos (by decide : (0 : Int) < 3) (Ev.ite_pos (by decide) (Ev.ite_pos (by decide : (0 : Int) < 3) ?_))
  show Ev (fun n => if x = 0 then cmp_Or_int.l0 n 0 [x, y, z] 3 (wrap64 (0 + 1)) else some x) _
  rw [w0]
  by_cases h : x = 0
  · rw [if_pos h]; exact Ev.ite_pos h e1
  · rw [if_neg h]; exact Ev.ite_neg h (Ev.now _)
theorem Compare12_ev (k : Int) (a b l s r : ByteArray) (k' : Int) (a' b' l' s' r' : ByteArray) : Ev (fun n => alias_Compare.f n k a b l s r k' a' b' l' s' r') (cmpA k a b k' a' b') := by
  unfold alias_Compare.f
  refine Ev.bind_c (int_eq _ _) (Ev.bind_c (str_eq _ _) (Ev.bind_c (str_eq _ _) ?_))
  exact Ev.bind (Or_ev _ _ _) (Ev.now _)
theorem rCompare12_eq (k : Int) (a b l s r : ByteArray) (k' : Int) (a' b' l' s' r' : ByteArray) : isoglossref12_Compare.f k a b l s r k' a' b' l' s' r' = some (cmpA k a b k' a' b') := by
  unfold isoglossref12_Compare.f cmpA ordI
  rw [order_eq, order_eq]
  simp only [Option.bind_some]
  by_cases h1 : k < k'
  · rw [if_pos h1, if_pos h1, if_neg (by decide)]
  · rw [if_neg h1, if_neg h1]
    by_cases h2 : k > k'
    · rw [if_pos h2, if_pos h2, if_neg (by decide)]
    · rw [if_neg h2, if_neg h2, if_pos rfl]
      split <;> rfl

theorem cmpL_pre : ∀ (p v w : List Int), cmpL (p ++ v) (p ++ w) = cmpL v w
  | [], _, _ => rfl
  | c :: p, v, w => by
    rw [List.cons_append, List.cons_append, cmpL, if_neg (by omega), if_neg (by omega)]
    exact cmpL_pre p v w
theorem pad_cmp : ∀ (n : Nat) (l m v w : List Int) (r : Int), cmpL l m = r → l.length ≤ n → m.length ≤ n → (∀ x ∈ l, 1 ≤ x) → (∀ x ∈ m, 1 ≤ x) →
    cmpL (l ++ (List.replicate (n - l.length) 0 ++ v)) (m ++ (List.replicate (n - m.length) 0 ++ w)) = if r = 0 then cmpL v w else r
  | n, [], [], v, w, r, hr, _, _, _, _ => by
    obtain rfl : r = 0 := by rw [← hr]; rfl
    simp only [List.nil_append, List.length_nil, Nat.sub_zero]
    rw [cmpL_pre]; simp
  | 0, [], _ :: _, _, _, _, _, _, h, _, _ => by simp at h
  | n + 1, [], b :: m, v, w, r, hr, _, _, _, hm => by
    have := hm b (List.mem_cons_self ..)
    obtain rfl : r = -1 := by rw [← hr]; rfl
    simp only [List.nil_append, List.length_nil, Nat.sub_zero, List.replicate_succ, List.cons_append, cmpL]
    rw [if_pos (show (0 : Int) < b by omega), if_neg (by decide)]
  | 0, _ :: _, _, _, _, _, _, h, _, _, _ => by simp at h
  | n + 1, a :: l, [], v, w, r, hr, _, _, hl, _ => by
    have := hl a (List.mem_cons_self ..)
    obtain rfl : r = 1 := by rw [← hr]; rfl
    simp only [List.nil_append, List.length_nil, Nat.sub_zero, List.replicate_succ, List.cons_append, cmpL]
    rw [if_neg (show ¬ a < 0 by omega), if_pos (show (0 : Int) < a by omega), if_neg (by decide)]
  | n + 1, a :: l, b :: m, v, w, r, hr, h1, h2, hl, hm => by
    simp only [List.cons_append, List.length_cons, Nat.add_sub_add_right, cmpL] at hr ⊢
    by_cases c1 : a < b
    · rw [if_pos c1] at hr ⊢; subst hr; rw [if_neg (by decide)]
    · rw [if_neg c1] at hr ⊢
      by_cases c2 : b < a
      · rw [if_pos c2] at hr ⊢; subst hr; rw [if_neg (by decide)]
      · rw [if_neg c2] at hr ⊢
        exact pad_cmp n l m v w r hr (by simpa using h1) (by simpa using h2) (fun x hx => hl x (List.mem_cons_of_mem _ hx)) (fun x hx => hm x (List.mem_cons_of_mem _ hx))
theorem bytes8_pad {s : ByteArray} (hl : lowS s = s) (h : packB s = true) : bytesOf (bytes8 s) = bytesOf s ++ (List.replicate (8 - (bytesOf s).length) 0) ∧ (bytesOf s).length ≤ 8 ∧ ∀ x ∈ bytesOf s, 1 ≤ x := by
  have e : (bytesOf s).map lowI = bytesOf s := by rw [← lowS_bytes, hl]
  have h' := h
  unfold packB at h'
  rw [e] at h'
  refine ⟨?_, (mayL_all h').2, fun x hx => (mayL_one h' x hx).1⟩
  unfold bytes8
  rw [putS_bytes, packT_yes h, e]
  exact put_of_pad _ (mayL_all h').2 (bytesOf_byte s)
theorem key_cmp {k : Int} {a b l s r : ByteArray} {k' : Int} {a' b' l' s' r' : ByteArray} (F : Fine k a b l s r) (G : Fine k' a' b' l' s' r') :
    cmpL (bytesOf ((rowS k a b l s r).extract 0 17)) (bytesOf ((rowS k' a' b' l' s' r').extract 0 17)) = cmpA k a b k' a' b' := by
  have cut : ∀ (k : Int) (a b l s r : ByteArray), 1 ≤ k → k ≤ 7 → bytesOf ((rowS k a b l s r).extract 0 17) = k :: (bytesOf (bytes8 a) ++ bytesOf (bytes8 b)) := by
    intro k a b l s r h1 h7
    have hb1 : ∀ y ∈ [k % 256], byteI y := by intro y hy; simp at hy; rw [hy]; exact mod_byte _
    have e0 : k % 256 = k := by omega
    have hB : bytesOf (rowS k a b l s r) = (k :: (bytesOf (bytes8 a) ++ bytesOf (bytes8 b))) ++ (bytesOf (bytes8 l) ++ (bytesOf (bytes8 s) ++ bytesOf (bytes8 r))) := by
      unfold rowS
      simp only [bytesOf_append, bytesOf_str _ hb1, List.append_assoc]
      rw [e0]; rfl
    rw [bytesOf_extract, hB, List.drop_zero]
    have z : (k :: (bytesOf (bytes8 a) ++ bytesOf (bytes8 b))).length = 17 - 0 := by simp [bytesOf_length, bytes8_size]
    rw [← z, List.take_left]
  rw [cut k a b l s r F.k1 F.k7, cut k' a' b' l' s' r' G.k1 G.k7]
  obtain ⟨pa, la, ga⟩ := bytes8_pad F.la F.pa
  obtain ⟨pb, lb, gb⟩ := bytes8_pad F.lb F.pb
  obtain ⟨pa', la', ga'⟩ := bytes8_pad G.la G.pa
  obtain ⟨pb', lb', gb'⟩ := bytes8_pad G.lb G.pb
  have e1 : cmpL (bytesOf (bytes8 a) ++ bytesOf (bytes8 b)) (bytesOf (bytes8 a') ++ bytesOf (bytes8 b')) = if ordS a a' = 0 then ordS b b' else ordS a a' := by
    rw [pa, pa', List.append_assoc, List.append_assoc, pad_cmp 8 _ _ _ _ (ordS a a') rfl la la' ga ga']
    have e2 := pad_cmp 8 (bytesOf b) (bytesOf b') [] [] (ordS b b') rfl lb lb' gb gb'
    rw [List.append_nil, List.append_nil, ← pb, ← pb'] at e2
    rw [e2]
    have e3 : (if ordS b b' = 0 then cmpL [] [] else ordS b b') = ordS b b' := by
      split
      · rename_i h; rw [h]; rfl
      · rfl
    rw [e3]
  simp only [cmpL, e1]
  unfold cmpA ordI
  by_cases h1 : k < k'
  · rw [if_pos h1, if_pos h1, if_neg (by decide)]
  · rw [if_neg h1, if_neg h1]
    by_cases h2 : k > k'
    · rw [if_pos h2, if_pos h2, if_neg (by decide)]
    · rw [if_neg h2, if_neg h2, if_pos rfl]
theorem few_ex (k : Int) (a b l s r : ByteArray) : ∃ a' b' l' s' r', isoglosslaw12_few.f k a b l s r = some (k, a', b', l', s', r') := by
  obtain ⟨a', ea, _⟩ := short12_ex a
  obtain ⟨b', eb, _⟩ := short12_ex b
  obtain ⟨l', el, _⟩ := short12_ex l
  obtain ⟨s', es, _⟩ := short12_ex s
  obtain ⟨r', er, _⟩ := short12_ex r
  refine ⟨a', b', l', s', r', ?_⟩
  unfold isoglosslaw12_few.f
  rw [ea, eb, el, es, er]; rfl
theorem AliasOrders : isoglosslaw12_AliasOrders.Pure := by
  intro s0 s1 s2 s3 s4 s5 s6 t0 t1 t2 t3 t4 t5 t6 c0 c1 c2 c3 c4 c5 d0 d1 d2 d3 d4 d5
  intros
  have : Ev (fun n => isoglosslaw12_AliasOrders.f n s0 s1 s2 s3 s4 s5 s6 t0 t1 t2 t3 t4 t5 t6 c0 c1 c2 c3 c4 c5 d0 d1 d2 d3 d4 d5) true := by
    obtain ⟨⟨k, a, b, l, s, r⟩, em, ⟨ya, yb, yl, ys, yr⟩, _⟩ := Made_ev s0 s1 s2 s3 s4 s5 s6
    obtain ⟨⟨k', a', b', l', s', r'⟩, em', ⟨ya', yb', yl', ys', yr'⟩, _⟩ := Made_ev t0 t1 t2 t3 t4 t5 t6
    dsimp only at ya yb yl ys yr ya' yb' yl' ys' yr'
    obtain ⟨f1, f2, f3, f4, f5, ef⟩ := few_ex c0 c1 c2 c3 c4 c5
    obtain ⟨g1, g2, g3, g4, g5, eg⟩ := few_ex d0 d1 d2 d3 d4 d5
    have w : wrap64 (- cmpA k a b k' a' b') = - cmpA k a b k' a' b' := by
      have := cmpA_three k a b k' a' b'
      unfold wrap64; omega
    have j : Ev (fun n => isoglosslaw12_AliasOrders.j0 n true (cmpA k a b k' a' b') false c0 c1 c2 c3 c4 c5 d0 d1 d2 d3 d4 d5 k a b l s r k' a' b' l' s' r') true := by
      refine Ev.step (fun n => by unfold isoglosslaw12_AliasOrders.j0; rfl) ?_
      refine Ev.ite_neg (by decide) (Ev.bind_c ef (Ev.bind_c eg (Ev.ite_pos rfl ?_)))
      refine Ev.bind_c (rCompare12_eq _ _ _ _ _ _ _ _ _ _ _ _) (Ev.ite_pos rfl ?_)
      refine Ev.bind (Compare12_ev _ _ _ _ _ _ _ _ _ _ _ _) (Ev.ite_pos ((cmpA_swap k a b k' a' b').trans w.symm) ?_)
      refine Ev.bind (Compare12_ev _ _ _ _ _ _ _ _ _ _ _ _) (Ev.bind_c (rCompare12_eq _ _ _ _ _ _ _ _ _ _ _ _) (Ev.ite_pos rfl ?_))
      refine Ev.bind (Compare12_ev _ _ _ _ _ _ _ _ _ _ _ _) (Ev.res (Ev.now _) ?_)
      show (cmpA c0 f1 f2 c0 f1 f2 == 0) = true
      rw [cmpA_self]; rfl
    have fin : ∀ x : Bool, x = false → Ev (fun n => isoglosslaw12_AliasOrders.j0 n true (cmpA k a b k' a' b') x c0 c1 c2 c3 c4 c5 d0 d1 d2 d3 d4 d5 k a b l s r k' a' b' l' s' r') true := by
      rintro x rfl; exact j
    unfold isoglosslaw12_AliasOrders.f
    refine Ev.bind awake12_ev (Ev.bind em (Ev.bind em' ?_))
    refine Ev.bind (Compare12_ev _ _ _ _ _ _ _ _ _ _ _ _) ?_
    refine Ev.bind (Encode_ev k a b l s r (by omega) (by omega) (by omega) (by omega) (by omega)) ?_
    refine Ev.bind (Encode_ev k' a' b' l' s' r' (by omega) (by omega) (by omega) (by omega) (by omega)) ?_
    dsimp only
    cases hR : rightB k a b l s r with
    | false =>
      rw [if_neg (by decide)]
      exact Ev.ite_neg (by decide) j
    | true =>
      rw [if_pos rfl]
      cases hR' : rightB k' a' b' l' s' r' with
      | false =>
        rw [if_neg (by decide)]
        exact Ev.ite_pos rfl (Ev.ite_neg (by decide) j)
      | true =>
        rw [if_pos rfl]
        have F := right_fine hR
        have G := right_fine hR'
        have e := key_cmp F G
        refine Ev.ite_pos rfl (Ev.ite_pos rfl (Ev.ite_pos (by decide) (Ev.ite_pos (by rw [rowS_size]; decide) (Ev.ite_pos (by rw [rowS_size]; decide) ?_))))
        rw [less_bytes, e]
        have e2 : (((rowS k a b l s r).extract 0 17).toList == ((rowS k' a' b' l' s' r').extract 0 17).toList) = (cmpA k a b k' a' b' == 0) := by
          rw [toList_beq, ← e, Bool.eq_iff_iff, decide_eq_true_iff, beq_iff_eq, cmpL_zero]
        rw [e2]
        have h3 := cmpA_three k a b k' a' b'
        refine Ev.ite_neg ?_ (fin _ (by rw [bne_self_eq_false]))
        have e4 : decide (cmpA k a b k' a' b' < 0) = decide (cmpA k a b k' a' b' = -1) := by
          rw [Bool.eq_iff_iff, decide_eq_true_iff, decide_eq_true_iff]; omega
        rw [e4, bne_self_eq_false]; decide
  exact this.rounds
end Go.Proofs.YtmbfnbnlajchmaaDoor.Pure
