/- The law AliasKeys, in plain words: keys are told alike in the program and by the document; a right alias's row begins with its key. -/
import Derived.Test.YtmbfnbnlajchmaaDoorAkAliasHelp
import Derived.Test.YtmbfnbnlajchmaaDoorAkP10
import Derived.Test.YtmbfnbnlajchmaaDoorAkP19
import Derived.Test.YtmbfnbnlajchmaaDoorAkP20
import Derived.Test.YtmbfnbnlajchmaaDoorAkP21
namespace Go.Proofs.YtmbfnbnlajchmaaDoor.Pure
open Go.RowKit Go.Proofs.YtmbfnbnlajchmaaDoor.P Go.Proofs.YtmbfnbnlajchmaaDoorW.PrintWords Go.Proofs.YtmbfnbnlajchmaaDoorW.PrintLast Go.Proofs.YtmbfnbnlajchmaaDoorW.PrintMore
open Go.Proofs.YtmbfnbnlajchmaaDoor.Each Go.Proofs.YtmbfnbnlajchmaaDoor.Base Go.Proofs.YtmbfnbnlajchmaaDoor.PackW
set_option linter.unusedVariables false
set_option linter.unusedSimpArgs false

def keyS (k : Int) (a b : ByteArray) : ByteArray := (strOfNums [k % 256] ++ bytes8 a) ++ bytes8 b
theorem keyS_size (k : Int) (a b : ByteArray) : (keyS k a b).size = 17 := by
  unfold keyS
  simp only [ByteArray.size_append, bytes8_size, one_size]
def keyB (k : Int) (a b : ByteArray) : Bool := decide (1 ≤ k ∧ k ≤ 7) && (packB a && packB b)
theorem row_key (k : Int) (a b l s r : ByteArray) : (rowS k a b l s r).extract 0 17 = keyS k a b := by
  apply bytesOf_inj
  rw [bytesOf_extract]
  have e : bytesOf (rowS k a b l s r) = bytesOf (keyS k a b) ++ (bytesOf (bytes8 l) ++ (bytesOf (bytes8 s) ++ bytesOf (bytes8 r))) := by
    unfold rowS keyS
    simp only [bytesOf_append, List.append_assoc]
  rw [e, List.drop_zero]
  have z : (bytesOf (keyS k a b)).length = 17 - 0 := by rw [bytesOf_length, keyS_size]
  rw [← z, List.take_left]
section
variable (k : Int) (a b : ByteArray) (ha : a.size ≤ 140737488351232) (hb : b.size ≤ 140737488351232)
include ha hb
theorem Key_ev : Ev (fun n => alias_Key.f n k a b) (if keyB k a b = true then (keyS k a b, true) else (⟨#[]⟩, false)) := by
  have j : ∀ x : Bool, Ev (fun n => alias_Key.j0 n k (packT (lowS a)).1 (packT (lowS b)).1 x) (if x = true then (⟨#[]⟩, false) else (keyS k a b, true)) := by
    intro x
    refine Ev.step (fun n => by unfold alias_Key.j0; rfl) ?_
    cases x with
    | true => exact Ev.ite_pos rfl (Ev.now _)
    | false =>
      refine Ev.ite_neg (by decide) (Ev.name ?_)
      refine Ev.bind (Put_ev _ 8 (by decide)) ?_
      refine Ev.ite_pos (by rw [putS_size, one_size]; decide) ?_
      refine Ev.bind (Put_ev _ 8 (by decide)) ?_
      exact Ev.ite_pos (by rw [ByteArray.size_append, putS_size, putS_size, one_size]; decide) (Ev.now _)
  have fin : ∀ x : Bool, (!x) = keyB k a b → Ev (fun n => alias_Key.j0 n k (packT (lowS a)).1 (packT (lowS b)).1 x) (if keyB k a b = true then (keyS k a b, true) else (⟨#[]⟩, false)) := by
    intro x hx
    refine Ev.res (j x) ?_
    rw [← hx]
    cases x <;> rfl
  unfold alias_Key.f
  refine Ev.bind_c (Pack_eq a ha) ?_
  refine Ev.bind_c (Pack_eq b hb) ?_
  refine Ev.bind_c (show alias_rule.f k = some k from rfl) ?_
  rw [packB_snd a, packB_snd b]
  have hk : AliasW.isNil k = !(decide (1 ≤ k ∧ k ≤ 7)) := rfl
  rw [hk]
  unfold keyB at fin ⊢
  cases h1 : decide (1 ≤ k ∧ k ≤ 7) with
  | false => rw [h1] at fin; exact Ev.ite_pos rfl (fin true rfl)
  | true =>
    rw [h1] at fin
    refine Ev.ite_neg (by decide) ?_
    cases h2 : packB a with
    | false => rw [h2] at fin; exact Ev.ite_neg (by decide) (fin true rfl)
    | true => rw [h2] at fin; exact Ev.ite_pos rfl (fin (!packB b) (by cases packB b <;> rfl))
omit ha hb in
theorem keys_j (p : ByteArray × Bool) (hp : p = if keyB k a b = true then (keyS k a b, true) else (⟨#[]⟩, false)) (x1 x2 : Bool) : Ev (fun n => isoglosslaw12_keys.j0 n k p.1 p.2 (keyB k a b) (packT (lowS a)).1 x1 (packT (lowS b)).1 x2) true := by
  refine Ev.step (fun n => by unfold isoglosslaw12_keys.j0; rfl) ?_
  subst hp
  cases keyB k a b with
  | false =>
    rw [if_neg (by decide)]
    refine Ev.ite_neg (by decide) (Ev.ite_neg (by decide) (Ev.res (Ev.now _) ?_))
    rw [toList_data]; rfl
  | true =>
    rw [if_pos rfl]
    refine Ev.ite_pos rfl (Ev.ite_pos rfl (Ev.name ?_))
    refine Ev.bind (rBytes8_ev a) ?_
    refine Ev.ite_pos (by rw [bytes8_size, one_size]; decide) ?_
    refine Ev.bind (rBytes8_ev b) ?_
    refine Ev.ite_pos (by rw [ByteArray.size_append, bytes8_size, bytes8_size, one_size]; decide) (Ev.res (Ev.now _) ?_)
    exact beq_self_eq_true _
theorem keys_ev : Ev (fun n => isoglosslaw12_keys.f n k a b) true := by
  unfold isoglosslaw12_keys.f
  refine Ev.bind (Key_ev k a b ha hb) ?_
  refine Ev.bind (rPack_ev a ha) ?_
  refine Ev.bind (rPack_ev b hb) ?_
  have J := keys_j k a b _ rfl (packT (lowS a)).2 (packT (lowS b)).2
  have fin : ∀ x : Bool, x = keyB k a b → Ev (fun n => isoglosslaw12_keys.j0 n k (if keyB k a b = true then (keyS k a b, true) else ((⟨#[]⟩ : ByteArray), false)).1 (if keyB k a b = true then (keyS k a b, true) else ((⟨#[]⟩ : ByteArray), false)).2 x (packT (lowS a)).1 (packT (lowS a)).2 (packT (lowS b)).1 (packT (lowS b)).2) true := by
    rintro x rfl
    exact J
  by_cases h1 : k ≥ 1
  · refine Ev.ite_pos h1 ?_
    by_cases h7 : k ≤ 7
    · refine Ev.ite_pos h7 ?_
      have hd : decide (1 ≤ k ∧ k ≤ 7) = true := decide_eq_true ⟨h1, h7⟩
      by_cases hp : (packT (lowS a)).2 = true
      · refine Ev.ite_pos hp (fin _ ?_)
        rw [packB_snd] at hp
        unfold keyB
        rw [hd, hp, packB_snd]; rfl
      · refine Ev.ite_neg hp (fin _ ?_)
        rw [packB_snd, Bool.not_eq_true] at hp
        unfold keyB
        rw [hp]; simp
    · refine Ev.ite_neg h7 (fin _ ?_)
      have hd : decide (1 ≤ k ∧ k ≤ 7) = false := decide_eq_false (by omega)
      unfold keyB
      rw [hd]; rfl
  · refine Ev.ite_neg h1 (fin _ ?_)
    have hd : decide (1 ≤ k ∧ k ≤ 7) = false := decide_eq_false (by omega)
    unfold keyB
    rw [hd]; rfl
end
theorem AliasKeys : isoglosslaw12_AliasKeys.Pure := by
  intro kd q0 q1 s0 s1 s2 s3 s4 s5 s6 _ _ _ _ _ _ _ _ _ _
  have : Ev (fun n => isoglosslaw12_AliasKeys.f n kd q0 q1 s0 s1 s2 s3 s4 s5 s6) true := by
    obtain ⟨⟨k, a, b, l, s, r⟩, em, ⟨ya, yb, yl, ys, yr⟩, _⟩ := Made_ev s0 s1 s2 s3 s4 s5 s6
    dsimp only at ya yb yl ys yr
    obtain ⟨c, ec, _, _⟩ := rest12_eq kd 9 (by decide) (by decide)
    obtain ⟨t0, e0, z0⟩ := short12_ex q0
    obtain ⟨t1, e1, z1⟩ := short12_ex q1
    have j : Ev (fun n => isoglosslaw12_AliasKeys.j0 n kd true false q0 q1 k a b l s r) true := by
      refine Ev.step (fun n => by unfold isoglosslaw12_AliasKeys.j0; rfl) ?_
      refine Ev.ite_neg (by decide) (Ev.ite_pos rfl ?_)
      refine Ev.bind_c e0 (Ev.bind_c e1 ?_)
      refine Ev.bind (keys_ev kd t0 t1 (by omega) (by omega)) ?_
      refine Ev.ite_pos rfl ?_
      refine Ev.bind_c ec (Ev.bind_c e0 (Ev.bind_c e1 ?_))
      refine Ev.bind (keys_ev c t0 t1 (by omega) (by omega)) ?_
      refine Ev.ite_pos rfl ?_
      refine Ev.bind_c ec ?_
      exact Ev.tail (keys_ev c a b (by omega) (by omega))
    unfold isoglosslaw12_AliasKeys.f
    refine Ev.bind awake12_ev ?_
    refine Ev.bind em ?_
    refine Ev.bind (Encode_ev k a b l s r (by omega) (by omega) (by omega) (by omega) (by omega)) ?_
    refine Ev.bind (Key_ev k a b (by omega) (by omega)) ?_
    cases hr : rightB k a b l s r with
    | false =>
      rw [if_neg (by decide)]
      exact Ev.ite_neg (by decide) j
    | true =>
      have F := right_fine hr
      have hK : keyB k a b = true := by
        unfold keyB
        rw [F.pa, F.pb, decide_eq_true ⟨F.k1, F.k7⟩]; rfl
      rw [if_pos rfl, if_pos hK]
      refine Ev.ite_pos rfl (Ev.ite_pos rfl ?_)
      refine Ev.ite_pos (by rw [keyS_size]; rfl) ?_
      refine Ev.ite_pos (by decide) ?_
      refine Ev.ite_pos (by rw [rowS_size]; decide) ?_
      have e : ((rowS k a b l s r).extract 0 17).toList = (keyS k a b).toList := by rw [row_key]
      show Ev (fun n => isoglosslaw12_AliasKeys.j0 n kd true (((rowS k a b l s r).extract 0 17).toList != (keyS k a b).toList) q0 q1 k a b l s r) true
      rw [e, bne_self_eq_false]
      exact j
  exact this.rounds
end Go.Proofs.YtmbfnbnlajchmaaDoor.Pure
