/- Made by a program of this seat's own (shake.py, merge.py): what the claim leans on: Rd5, Rd6, Rd7, Caught. -/
import Derived.Test.YtpmcfckechjppaaGreatDoorTb07
import Derived.Deep.CutRange
import Derived.Deep.CutBlock
import Derived.Deep.DeepCutAuto
namespace Go.Proofs.YtpmcfckechjppaaGreatDoor.Ps
open Go.RowKit Go.Shelf Go.Proofs.YtpmcfckechjppaaGreatDoorW.PrintWords Go.Proofs.YtpmcfckechjppaaGreatDoorW.PrintLast Go.Proofs.YtpmcfckechjppaaGreatDoorW.PrintMore Go.Proofs.YtpmcfckechjppaaGreatDoor.P Go.Proofs.YtpmcfckechjppaaGreatDoor.LikW
attribute [local go_sem] Oper.semAt_some
set_option linter.unusedVariables false
set_option linter.unusedSimpArgs false
set_option maxRecDepth 100000
set_option maxHeartbeats 8000000
theorem one_cases (f : ByteArray → Bool) (l : List Pc) : ((oneP f l).1 = ⟨#[]⟩ ∧ (oneP f l).2 = l) ∨ (subB (oneP f l).1 = true ∧ f (oneP f l).1 = true ∧ (oneP f l).2.length + 1 = l.length) := by
 cases l with
 | nil => exact .inl ⟨rfl, rfl⟩
 | cons x m =>
  by_cases h : (subB x.2 && f x.2) = true
  · rw [one_pos h]
    rw [Bool.and_eq_true] at h
    exact .inr ⟨h.1, h.2, rfl⟩
  · rw [one_neg h]
    exact .inl ⟨rfl, rfl⟩
theorem extlP_stop {n : Nat} {x : Pc} {m : List Pc} (h : ¬ (subB x.2 && extlB x.2) = true) : extlP n (x :: m) = ([], x :: m) := by
 cases n with
 | zero => rfl
 | succ n =>
  conv => lhs; unfold extlP
  exact if_neg h
theorem extlP_nil (n : Nat) : extlP n [] = ([], []) := by cases n <;> rfl
theorem extlP_on {n : Nat} {x : Pc} {m : List Pc} (h : (subB x.2 && extlB x.2) = true) : extlP (n + 1) (x :: m) = (x.2 :: (extlP n m).1, (extlP n m).2) := by
 conv => lhs; unfold extlP
 exact if_pos h
theorem tellsExtl0 (W : World) : Calls Tryz.prog 177 #[.string ⟨#[]⟩] W fun e w' => e = .returned (.bool false) ∧ Drawn0 W w' := tellsExtl.2 ⟨#[]⟩ W (by decide)
theorem langg_no (g : Nat) (A : Option Addr) (c : Nat) (e : Int) (s : RS) (l : List Pc) (w0 w : World) (hB : Below w0.heap.size w0 w) (hg : w0.heap.size ≤ g) (hc : l.length ≤ c) (hR : w.heap[g]? = some (RB s A l.length c e)) (hP : PG w A l) (hl : l.length ≤ 1000000) (ha : (oneP langB l).1.size = 0) :
 Calls Tryz.prog 124 #[.pointer (some ⟨g, 0, none⟩)] w fun e' w' => BadG w0 w w' g (stopAt e l, 10) e' := by
 obtain ⟨h1, h2⟩ : (oneP langB l).1 = ⟨#[]⟩ ∧ (oneP langB l).2 = l := by
  rcases one_cases langB l with h | ⟨h, _, _⟩
  · exact h
  · exact absurd ha (sub_size h).2
 have HC := one_g _ _ tellsLang g A c e s l w0 w hB hg hc hR hP
 rw [h1, h2] at HC
 replace HC := Aside0.mk HC
 clear hB hc hR hP h1 h2 ha
 go_enter Tryz.func124, Tryz.ntmps124
 go_wp2_with (first
  | (go_at_call 125; refine (by exact HC.out : Calls _ _ _ _ _).mono ?_; rintro e1 w1 ⟨rfl, ⟨A1, c1, hc1, hR1, hP1⟩, hB1, hK1⟩; obtain ⟨y0, y1, y2, y3, y4, y5, y6, y7, y8, y9⟩ := cz10 hR1; obtain ⟨f0, f1, f2, -⟩ := fz10 hR1; have HR := Aside0.mk (show (w1.setCell ⟨g, 2, none⟩ (.string ⟨#[]⟩)).heap[g]? = some (RB { s with lang := ⟨#[]⟩ } A1 l.length c1 e) from blk_put hR1 2 _ rfl); have HP := Aside0.mk (hP1.keep hR1 ((KeepBut.refl w1 g none).set_ 2 (.string ⟨#[]⟩))); have HB := Aside0.mk (below_set (j := 2) (v := .string ⟨#[]⟩) hB1 hg); have HK := Aside0.mk (hK1.trans ((KeepBut.refl w1 g none).set_ 2 (.string ⟨#[]⟩)) (.inl rfl)); clear hR1 hP1 hB1 hK1)
  | (go_at_call 133; refine (stop_g g A1 c1 e { s with lang := ⟨#[]⟩ } l w0 _ HB.out HR.out HP.out).mono ?_; rintro e2 w2 hbad; have HBad := Aside0.mk (hbad.after HK.out); clear hbad; obtain ⟨p, he, -⟩ := HBad.out; subst he))
 exact ⟨rfl, HBad.out⟩
theorem langg_yes (g : Nat) (A : Option Addr) (c : Nat) (e : Int) (s : RS) (l : List Pc) (w0 w : World) (hB : Below w0.heap.size w0 w) (hg : w0.heap.size ≤ g) (hc : l.length ≤ c) (hR : w.heap[g]? = some (RB s A l.length c e)) (hP : PG w A l) (hl : l.length ≤ 1000000) (hE0 : s.vE = .slice none 0 0) (ha : (oneP langB l).1.size ≠ 0) :
 Calls Tryz.prog 124 #[.pointer (some ⟨g, 0, none⟩)] w fun e' w' => e' = .returned (.tuple #[]) ∧ ∃ vE, Own w' w0.heap.size vE (exl (oneP langB l).1 (oneP langB l).2).1 ∧ FreshV w vE ∧ LeftG w0 w w' g e { s with lang := (oneP langB l).1, vE := vE } (exl (oneP langB l).1 (oneP langB l).2).2 := by
 have HC := one_g _ _ tellsLang g A c e s l w0 w hB hg hc hR hP
 have hlen : (oneP langB l).2.length ≤ l.length := by
  rcases one_cases langB l with ⟨_, h⟩ | ⟨_, _, h⟩
  · rw [h]; exact Nat.le_refl _
  · omega
 obtain ⟨a, ha1⟩ : ∃ a, a = (oneP langB l).1 := ⟨_, rfl⟩
 obtain ⟨m0, hm0⟩ : ∃ m0, m0 = (oneP langB l).2 := ⟨_, rfl⟩
 rw [← ha1, ← hm0] at HC ⊢
 rw [← ha1] at ha
 rw [← hm0] at hlen
 have q0 : a.toList.isEmpty = false := full fun h => ha (by rw [h]; rfl)
 replace HC := Aside0.mk HC
 obtain ⟨L, hLL⟩ : ∃ L, L = exl a m0 := ⟨_, rfl⟩
 rw [← hLL]
 have HLL := Aside0.mk hLL
 have HL0 := Aside0.mk hlen
 clear hB hc hR hP ha ha1 hm0 hLL hlen
 by_cases hz : a.size = 2 ∨ a.size = 3
 · have hz2 : (((a.size : Int) == 2) = true) ∨ (((a.size : Int) == 2) = false ∧ ((a.size : Int) == 3) = true) := by
    rcases hz with h | h
    · exact .inl (by rw [h]; rfl)
    · exact .inr (by rw [h]; exact ⟨rfl, rfl⟩)
   have hL3 : extlP 3 m0 = L := by rw [HLL.out]; unfold exl; rw [if_pos hz]
   have HL3 := Aside0.mk hL3
   clear HLL hL3 hz
   rcases hz2 with hz | ⟨hz, hz3⟩
   all_goals
    go_enter Tryz.func124, Tryz.ntmps124
    go_wp2_with (first
     | (go_at_call 125; refine (by exact HC.out : Calls _ _ _ _ _).mono ?_; rintro e1 w1 ⟨rfl, ⟨A1, c1, hc1, hR1, hP1⟩, hB1, hK1⟩; obtain ⟨y0, y1, y2, y3, y4, y5, y6, y7, y8, y9⟩ := cz10 hR1; obtain ⟨f0, f1, f2, -⟩ := fz10 hR1; have HS := Aside0.mk (show LeftG w0 w (w1.setCell ⟨g, 2, none⟩ (.string a)) g e { s with lang := a, vE := .slice none 0 0 } m0 from ⟨⟨A1, c1, hc1, by rw [← hE0]; exact blk_put hR1 2 _ rfl, hP1.keep hR1 ((KeepBut.refl w1 g none).set_ 2 (.string a))⟩, below_set (j := 2) (v := .string a) hB1 hg, hK1.trans ((KeepBut.refl w1 g none).set_ 2 (.string a)) (.inl rfl)⟩); clear hR1 hP1 hB1 hK1))
    clear HC
    go_loopw [] (fun wr => ∃ (acc : List ByteArray) (m : List Pc) (vE : Value), Aside0 (Own wr w0.heap.size vE acc) ∧ Aside0 (FreshV w vE) ∧ Aside0 (LeftG w0 w wr g e { s with lang := a, vE := vE } m) ∧ Aside0 (acc ++ (extlP (3 - acc.length) m).1 = L.1 ∧ (extlP (3 - acc.length) m).2 = L.2) ∧ acc.length ≤ 3 ∧ m.length ≤ l.length) (fun wr => leftN wr g)
    case atStart => exact ⟨[], m0, _, ⟨own_nil _ _ _ _⟩, ⟨fresh_nil w⟩, HS, ⟨by rw [← HL3.out]; exact ⟨rfl, rfl⟩⟩, by simp, HL0.out⟩
    case round =>
     clear HS HL3 HL0
     obtain ⟨acc, m, vE, HO, HV, HL, HE, h3, hn⟩ := hrel
     obtain ⟨V1, d1, e1⟩ := own_slice HO.out
     subst e1
     obtain ⟨⟨A1, c1, hc1, hR1, hP1⟩, hB1, hK1⟩ := HL.out
     have HR := Aside0.mk hR1
     have HP := Aside0.mk hP1
     have HB := Aside0.mk hB1
     have HK := Aside0.mk hK1
     obtain ⟨y0, y1, y2, y3, y4, y5, y6, y7, y8, y9⟩ := cz10 hR1
     clear hR1 hP1 hB1 hK1 y0 y1 y2 y4 y5 y6 y7 y8 y9
     by_cases h33 : acc.length < 3
     · have d3 : decide ((acc.length : Int) < 3) = true := decide_eq_true (by omega)
       cases m with
       | nil =>
        have HD := Aside0.mk (show acc = L.1 ∧ [] = L.2 by have he := HE.out; rw [extlP_nil] at he; simpa using he)
        go_wp2_with (first
         | (go_at_call 123; refine (here_g g _ c1 e _ [] _ (by exact HR.out) (by exact HP.out)).mono ?_; rintro e w' ⟨rfl, ⟨nd, rfl⟩⟩; rw [show hereP [] = ⟨#[]⟩ from rfl])
         | (with_reducible refine (tellsExtl0 _).mono ?_; rintro e w' ⟨rfl, ⟨nd, rfl⟩⟩))
        go_end0
        exact ⟨rfl, _, by rw [← HD.out.1]; exact HO.out, HV.out, by rw [← HD.out.2]; exact ⟨⟨A1, c1, hc1, HR.out, PG.nil _ _⟩, pw_below_drewN HB.out _, keep_drewN HK.out _⟩⟩
       | cons x m =>
        have done : ¬ (subB x.2 && extlB x.2) = true → acc = L.1 ∧ x :: m = L.2 := fun h => by have he := HE.out; rw [extlP_stop h] at he; simpa using he
        cases hs : subB x.2 with
        | false =>
         have he := hereP_none (l := m) hs
         have HD := Aside0.mk (done (by rw [hs]; simp))
         clear hs done
         go_wp2_with (first
          | (go_at_call 123; refine (here_g g _ c1 e _ (x :: m) _ (by exact HR.out) (by exact HP.out)).mono ?_; rintro e w' ⟨rfl, ⟨nd, rfl⟩⟩; rw [he])
          | (with_reducible refine (tellsExtl0 _).mono ?_; rintro e w' ⟨rfl, ⟨nd, rfl⟩⟩))
         go_end0
         exact ⟨rfl, _, by rw [← HD.out.1]; exact HO.out, HV.out, by rw [← HD.out.2]; exact ⟨⟨A1, c1, hc1, HR.out, HP.out.keep HR.out (keep_drewN (KeepBut.refl wr g none) _)⟩, pw_below_drewN HB.out _, keep_drewN HK.out _⟩⟩
        | true =>
         have he := hereP_some (l := m) hs
         have h8 := (sub_size hs).1
         have hF := fun W => tellsExtl.2 x.2 W h8
         cases hf : extlB x.2 with
         | false =>
          rw [hf] at hF
          have HD := Aside0.mk (done (by rw [hf]; simp))
          clear hs done h8 hf
          go_wp2_with (first
           | (go_at_call 123; refine (here_g g _ c1 e _ (x :: m) _ (by exact HR.out) (by exact HP.out)).mono ?_; rintro e w' ⟨rfl, ⟨nd, rfl⟩⟩; rw [he])
           | (with_reducible refine (hF _).mono ?_; rintro e w' ⟨rfl, ⟨nd, rfl⟩⟩))
          go_end0
          exact ⟨rfl, _, by rw [← HD.out.1]; exact HO.out, HV.out, by rw [← HD.out.2]; exact ⟨⟨A1, c1, hc1, HR.out, HP.out.keep HR.out (keep_drewN (KeepBut.refl wr g none) _)⟩, pw_below_drewN HB.out _, keep_drewN HK.out _⟩⟩
         | true =>
          rw [hf] at hF
          have he2 : (acc ++ [x.2]) ++ (extlP (3 - (acc ++ [x.2]).length) m).1 = L.1 ∧ (extlP (3 - (acc ++ [x.2]).length) m).2 = L.2 := by
           have h1 := HE.out
           rw [show 3 - acc.length = (3 - (acc ++ [x.2]).length) + 1 by simp; omega, extlP_on (by rw [hs, hf]; rfl)] at h1
           simpa using h1
          have HE2 := Aside0.mk he2
          have HLE := Aside0.mk (show acc.length ≤ 1000000 by omega)
          have HLN := Aside0.mk (left_n HR.out)
          clear hs done h8 hf he2
          go_wp2_with (first
           | (go_at_call 123; refine (here_g g _ c1 e _ (x :: m) wr (by exact HR.out) (by exact HP.out)).mono ?_; rintro e w' ⟨rfl, ⟨nd, rfl⟩⟩; rw [he])
           | (with_reducible refine (hF _).mono ?_; rintro e w' ⟨rfl, ⟨nd2, rfl⟩⟩))
          refine start_ (n := 14) (S := fun w' => w'.cell? ⟨g, 3, none⟩ = some (.slice V1 acc.length d1)) (ds := [13]) (M 14 0) (by kernel_rfl) rfl rfl ((blk_cell HR.out 3).trans rfl) (fun hHeld => ?_)
          obtain ⟨W1, hW1⟩ : ∃ W1, W1 = (wr.drewN (nd + nd2)).drew := ⟨_, rfl⟩
          rw [← hW1] at hHeld ⊢
          replace HR : Aside0 (W1.heap[g]? = some (RB { s with lang := a, vE := .slice V1 acc.length d1 } A1 (x :: m).length c1 e)) := by rw [hW1]; exact HR
          replace HP : Aside0 (PG W1 A1 (x :: m)) := by rw [hW1]; exact HP
          replace HB : Aside0 (Below w0.heap.size w0 W1) := by rw [hW1]; exact ⟨below_drew1 (pw_below_drewN HB.out _)⟩
          replace HK : Aside0 (KeepBut w W1 g none) := by rw [hW1]; exact ⟨keep_drewN (keep_drewN HK.out _) 1⟩
          replace HO : Aside0 (Own W1 w0.heap.size (.slice V1 acc.length d1) acc) := by rw [hW1]; exact HO
          clear hW1
          refine pw 0 38 (M 14 1) ?_
          refine pw 1 39 (M 14 3) ?_
          refine pw 2 40 (M 14 7) ?_
          refine pw 3 41 (M 14 15) ?_
          refine pw 4 42 (M 14 31) ?_
          refine pw 6 44 (M 14 95) ?_
          refine tw 5 43 (M 14 127) hHeld ?_
          refine ow 7 (some 45) (M 14 255) fun K hK => ?_
          refine gow Tryz.func130 #[.pointer (some ⟨g, 0, none⟩)] ?_
          refine (take_g g _ c1 e { s with lang := a, vE := .slice V1 acc.length d1 } x m w0 _ HB.out hg hc1 HR.out HP.out).mono ?_
          rintro e3 W2 ⟨rfl, ⟨A2, c2, hc2, hR2, hP2⟩, hB2, hK2⟩
          rw [he]
          have HR2 := Aside0.mk hR2
          have HP2 := Aside0.mk hP2
          have HB2 := Aside0.mk hB2
          have HK2 := Aside0.mk hK2
          have HO2 := Aside0.mk (show Own W2 w0.heap.size (.slice V1 acc.length d1) acc from ownK HO.out HR.out (by decide) HK2.out)
          clear hR2 hP2 hB2 hK2
          refine ⟨_, rfl, ?_⟩
          refine hK.out _ _ ((blk_cell HR2.out 3).trans rfl) (fun hHeld => ?_)
          clear hK K
          refine nw 45 ?_
          refine ow 8 (some 46) (M 14 511) fun K hK => ?_
          refine value_ (w1 := ?_) (v := ?_) (by rfl) rfl ?_ ?_
          rotate_left 2
          · go_simp
            constructor
            · rfl
            · rfl
          refine hK.out _ _ ((blk_cell (aN HR2.out) 3).trans rfl) (fun hHeld => ?_)
          clear hK K
          refine nw 46 ?_
          refine ow 9 (some 47) (M 14 1023) fun K hK => ?_
          refine app_s (w0 := w0) w0.heap.size (by rfl) (.tmp 43) (.tmp 46) rfl (.slice V1 acc.length d1) acc x.2 rfl rfl HO2.out HB2.out HB2.out.size HLE.out ?_
          intro v3 W3 hO3 hB3 hG3 hat
          obtain ⟨V3, d3, e3⟩ := own_slice hO3
          subst e3
          have HO3 := Aside0.mk hO3
          have HB3 := Aside0.mk hB3
          have HG3 := Aside0.mk hG3
          have HAT := Aside0.mk hat
          have HR3 := Aside0.mk ((hG3.block g (Array.getElem?_eq_some_iff.1 HR2.out).1 (own_ne HO2.out HR2.out (by decide))).trans HR2.out)
          have HP3 := Aside0.mk (HP2.out.grown HO2.out (by decide) hG3)
          clear hO3 hB3 hG3 hat
          refine hK.out _ _ ((blk_cell HR3.out 3).trans rfl) (fun hHeld => ?_)
          clear hK K
          refine nw 47 ?_
          refine pw 10 48 (M 14 2047) ?_
          refine pw 11 49 (M 14 4095) ?_
          refine pw 12 50 (M 14 8191) ?_
          refine last_ (i := 13) (N := none) (M 14 16383) rfl rfl (by kernel_rfl) (by decide) (fun K hK => ?_)
          refine put_step (g := g) (off := 3) (cur := { s with lang := a, vE := .slice V1 acc.length d1 }.cells A2 m.length c2 e) (new := { s with lang := a, vE := .slice V3 (acc ++ [x.2]).length d3 }.cells A2 m.length c2 e) (seg := [.slice V3 (acc ++ [x.2]).length d3]) (u := .slice V3 (acc ++ [x.2]).length d3) rfl rfl rfl rfl rfl rfl (by rfl) (by kernel_rfl) rfl rfl (Nat.le_of_ble_eq_true rfl) HR3.out ?_
          intro W4 hk hp
          refine hK.out _ _ ?_
          clear hK K
          refine done_ (by kernel_rfl) ?_
          have hend := left_app hg HK.out HK2.out HV.out HO2.out HR2.out hc2 HG3.out HP3.out HB3.out HO3.out HR3.out HAT.out hp hk
          have HEND := Aside0.mk hend
          go_roundw
          case rel => exact ⟨_, _, _, _, _, _, _, _, _, _, _, _, _, _, _, _, _, _, _, _, _, _, _, _, _, ⟨acc ++ [x.2], m, _, ⟨HEND.out.1⟩, ⟨HEND.out.2.1⟩, ⟨HEND.out.2.2⟩, HE2, by simp only [List.length_append, List.length_cons, List.length_nil]; omega, by simp only [List.length_cons] at hn; omega⟩, rfl⟩
          case measure => rw [left_n hk, HLN.out]; simp
     · have d3 : decide ((acc.length : Int) < 3) = false := decide_eq_false (by omega)
       have HD := Aside0.mk (show acc = L.1 ∧ m = L.2 by have he := HE.out; rw [show 3 - acc.length = 0 by omega] at he; simpa [extlP] using he)
       go_wp2
       go_end0
       exact ⟨rfl, _, by rw [← HD.out.1]; exact HO.out, HV.out, by rw [← HD.out.2]; exact ⟨⟨A1, c1, hc1, HR.out, HP.out⟩, HB.out, HK.out⟩⟩
 · have hz2 : ((a.size : Int) == 2) = false := beq_eq_false_iff_ne.2 fun h => hz (.inl (by omega))
   have hz3 : ((a.size : Int) == 3) = false := beq_eq_false_iff_ne.2 fun h => hz (.inr (by omega))
   have HD := Aside0.mk (show ([], m0) = L by rw [HLL.out]; unfold exl; rw [if_neg hz])
   clear HLL hz
   go_enter Tryz.func124, Tryz.ntmps124
   go_wp2_with (first
    | (go_at_call 125; refine (by exact HC.out : Calls _ _ _ _ _).mono ?_; rintro e1 w1 ⟨rfl, ⟨A1, c1, hc1, hR1, hP1⟩, hB1, hK1⟩; obtain ⟨y0, y1, y2, y3, y4, y5, y6, y7, y8, y9⟩ := cz10 hR1; obtain ⟨f0, f1, f2, -⟩ := fz10 hR1; have HS := Aside0.mk (show LeftG w0 w (w1.setCell ⟨g, 2, none⟩ (.string a)) g e { s with lang := a, vE := .slice none 0 0 } m0 from ⟨⟨A1, c1, hc1, by rw [← hE0]; exact blk_put hR1 2 _ rfl, hP1.keep hR1 ((KeepBut.refl w1 g none).set_ 2 (.string a))⟩, below_set (j := 2) (v := .string a) hB1 hg, hK1.trans ((KeepBut.refl w1 g none).set_ 2 (.string a)) (.inl rfl)⟩); clear hR1 hP1 hB1 hK1))
   go_end0
   rw [← HD.out]
   exact ⟨rfl, _, own_nil _ _ _ _, fresh_nil w, HS.out⟩
def cellsX (xs : List (ByteArray × Value × List ByteArray)) : List Value := xs.flatMap fun x => [.string x.1, x.2.1]
def ExtsG (W : World) (base : Nat) (v : Value) (xs : List (ByteArray × Value × List ByteArray)) : Prop := W.ownsRow base 65 2 v xs.length (cellsX xs) ∧ ∀ x ∈ xs, Own W base x.2.1 x.2.2
theorem ExtsG.below {W W1 : World} {base : Nat} {v : Value} {xs : List (ByteArray × Value × List ByteArray)} (h : ExtsG W base v xs) (hb : Below W.heap.size W W1) : ExtsG W1 base v xs := ⟨pw_own_below h.1 hb, fun x hx => pw_own_below (h.2 x hx) hb⟩
theorem ExtsG.keep {W W1 : World} {base g : Nat} {v : Value} {xs : List (ByteArray × Value × List ByteArray)} {cs : Array Value} (h : ExtsG W base v xs) (hR : W.heap[g]? = some (.cells cs TR (0, 0))) (hk : KeepBut W W1 g none) : ExtsG W1 base v xs := ⟨ownK h.1 hR (by decide) hk, fun x hx => ownK (h.2 x hx) hR (by decide) hk⟩
theorem cellsX_at : ∀ (m : List (ByteArray × Value × List ByteArray)) (i : Nat) (x : ByteArray × Value × List ByteArray), m[i]? = some x → (cellsX m)[2 * i]? = some (.string x.1) ∧ (cellsX m)[2 * i + 1]? = some x.2.1
 | [], i, x, h => by simp at h
 | y :: m, 0, x, h => by
  simp only [List.getElem?_cons_zero, Option.some.injEq] at h
  subst h
  exact ⟨rfl, rfl⟩
 | y :: m, i + 1, x, h => by
  obtain ⟨h1, h2⟩ := cellsX_at m i x h
  exact ⟨h1, h2⟩
theorem extsX_cell {W : World} {base : Nat} {A : Option Addr} {c : Nat} {xs : List (ByteArray × Value × List ByteArray)} (h : W.ownsRow base 65 2 (.slice A xs.length c) xs.length (cellsX xs)) : xs = [] ∨ ∃ b, A = some ⟨b, 0, none⟩ ∧ b < W.heap.size ∧ xs.length ≤ c ∧ ∀ i x, xs[i]? = some x → W.cell? ⟨b, 2 * i, none⟩ = some (.string x.1) ∧ W.cell? ⟨b, 2 * i + 1, none⟩ = some x.2.1 := by
 obtain ⟨hl, ⟨e, e0⟩ | ⟨g, cap, cur, e, h1, h2, h3, h4, h5, h6⟩⟩ := h
 · exact .inl (List.eq_nil_of_length_eq_zero e0)
 · cases e
   refine .inr ⟨g, rfl, (Array.getElem?_eq_some_iff.1 h2).1, h3, fun i x hx => ?_⟩
   obtain ⟨q1, q2⟩ := cellsX_at xs i x hx
   have hi := (List.getElem?_eq_some_iff.1 hx).1
   rw [← h6, List.getElem?_take, if_pos (by omega), Array.getElem?_toList] at q1 q2
   exact ⟨(blk_cell h2 _).trans q1, (blk_cell h2 _).trans q2⟩
theorem text_eq (a b : ByteArray) : (a.toList == b.toList) = decide (a = b) := by
 rw [Bool.eq_iff_iff, beq_iff_eq, decide_eq_true_iff]
 exact ⟨fun h => toList_inj h, fun h => by rw [h]⟩
theorem ext1_c (bx g : Nat) (A : Option Addr) (c : Nat) (e : Int) (s : RS) (l : List Pc) (k : ByteArray) (v : Value) (w : World) (hx : w.heap[bx]? = some (.cells #[.pointer (some ⟨g, 0, none⟩)] 84 (0, 0))) (hR : w.heap[g]? = some (RB s A l.length c e)) (hP : PG w A l) :
 Calls Tryz.prog 185 #[.agg #[.string k, v], .pointer (some ⟨bx, 0, none⟩)] w fun e' w' => e' = .returned (.bool (decide (k = hereP l))) ∧ Below w.heap.size w w' := by
 have KE : Aside0 ((w.alloc (.cells #[.string k, v] 65)).heap[w.heap.size]? = some (.cells #[.string k, v] 65 (0, 0))) := ⟨aZ rfl⟩
 have KX : Aside0 ((w.alloc (.cells #[.string k, v] 65)).heap[bx]? = some (.cells #[.pointer (some ⟨g, 0, none⟩)] 84 (0, 0))) := ⟨aN hx⟩
 have HR : Aside0 ((w.alloc (.cells #[.string k, v] 65)).heap[g]? = some (RB s A l.length c e)) := ⟨aN hR⟩
 have HP : Aside0 (PG (w.alloc (.cells #[.string k, v] 65)) A l) := ⟨hP.move fun b cs hb => (aN hb).trans hb.symm⟩
 have HB : Aside0 (Below w.heap.size w (w.alloc (.cells #[.string k, v] 65))) := ⟨below_alloc (Below.refl _ _) _⟩
 have hk := text_eq k (hereP l)
 have HKK := Aside0.mk hk
 clear hx hR hP hk
 go_enter Tryz.func185, Tryz.ntmps185
 go_wp2
 refine start_ (n := 6) (S := fun w' => w'.cell? ⟨w.heap.size, 0, none⟩ = some (.string k) ∧ w'.cell? ⟨bx, 0, none⟩ = some (.pointer (some ⟨g, 0, none⟩))) (ds := []) (M 6 0) (by kernel_rfl) rfl rfl ⟨(blk_cell KE.out 0).trans rfl, (blk_cell KX.out 0).trans rfl⟩ (fun hHeld => ?_)
 obtain ⟨W1, hW1⟩ : ∃ W1, W1 = (w.alloc (.cells #[.string k, v] 65)).drew := ⟨_, rfl⟩
 rw [← hW1] at hHeld ⊢
 replace KE : Aside0 (W1.heap[w.heap.size]? = some (.cells #[.string k, v] 65 (0, 0))) := by rw [hW1]; exact KE
 replace KX : Aside0 (W1.heap[bx]? = some (.cells #[.pointer (some ⟨g, 0, none⟩)] 84 (0, 0))) := by rw [hW1]; exact KX
 replace HR : Aside0 (W1.heap[g]? = some (RB s A l.length c e)) := by rw [hW1]; exact HR
 replace HP : Aside0 (PG W1 A l) := by rw [hW1]; exact HP
 replace HB : Aside0 (Below w.heap.size w W1) := by rw [hW1]; exact ⟨below_drew1 HB.out⟩
 clear hW1
 refine pw 0 4 (M 6 1) ?_
 refine tw 1 5 (M 6 3) hHeld ?_
 refine tw 2 6 (M 6 7) hHeld ?_
 refine ow 3 (some 7) (M 6 15) fun K hK => ?_
 refine gow Tryz.func123 #[.pointer (some ⟨g, 0, none⟩)] ?_
 refine (here_g g _ c e s l _ HR.out HP.out).mono ?_
 rintro e3 W2 ⟨rfl, ⟨nd, rfl⟩⟩
 refine ⟨_, rfl, ?_⟩
 refine hK.out _ _ ⟨(blk_cell KE.out 0).trans rfl, (blk_cell KX.out 0).trans rfl⟩ (fun hHeld => ?_)
 clear hK K
 refine nw 7 ?_
 refine pw 4 8 (M 6 31) ?_
 refine pw 5 3 (M 6 63) ?_
 refine done_ (by kernel_rfl) ?_
 go_wp2
 go_ret
 exact ⟨by rw [← HKK.out]; rfl, pw_below_drewN HB.out _⟩
theorem findX_at (p : ByteArray → Bool) (xs : List (ByteArray × Value × List ByteArray)) (i : Nat) (x : ByteArray × Value × List ByteArray) (h : xs[i]? = some x) (hn : (xs.take i).any (fun y => p y.1) = false) : (p x.1 = false → (xs.take (i + 1)).any (fun y => p y.1) = false) ∧ (p x.1 = true → xs.any (fun y => p y.1) = true) := by
 constructor
 · intro hp
   rw [List.take_add_one, h, Option.toList_some, List.any_append, hn]
   simp [hp]
 · intro hp
   rw [List.any_eq_true]
   exact ⟨x, List.mem_of_getElem? h, hp⟩
theorem indexX_c (bx g : Nat) (A : Option Addr) (c : Nat) (e : Int) (s : RS) (l : List Pc) (xs : List (ByteArray × Value × List ByteArray)) (V : Option Addr) (d base : Nat) (w : World) (hx : w.heap[bx]? = some (.cells #[.pointer (some ⟨g, 0, none⟩)] 84 (0, 0))) (hR : w.heap[g]? = some (RB s A l.length c e)) (hP : PG w A l) (hO : w.ownsRow base 65 2 (.slice V xs.length d) xs.length (cellsX xs)) (hl : xs.length ≤ 1000000) :
 Calls Tryz.prog 226 #[.slice V xs.length d, .func (.func 185) #[] #[.pointer (some ⟨bx, 0, none⟩)]] w fun e' w' => (∃ i : Int, e' = .returned (.int .i64 i) ∧ decide (0 ≤ i) = xs.any (fun y => decide (y.1 = hereP l))) ∧ Below w.heap.size w w' := by
 have hut := Tryz.underlying65
 have eF : ∀ args W, (callFunc 185 args).run Tryz.prog W = .ok (.enter 185 args) W := enters_of Tryz.func185 (by kernel_rfl) rfl
 have HX := Aside0.mk hx
 have HR := Aside0.mk hR
 have HP := Aside0.mk hP
 have hcell := extsX_cell hO
 have HC := Aside0.mk hcell
 have HL := Aside0.mk hl
 clear hx hR hP hO hcell hl
 go_enter Tryz.func226, Tryz.ntmps226
 go_wp2
 go_loopw [8] (fun vi wr => ∃ (i : Nat), vi = .int .i64 (i : Int) ∧ i ≤ xs.length ∧ Aside0 (Below w.heap.size w wr) ∧ Aside0 ((xs.take i).any (fun y => decide (y.1 = hereP l)) = false)) (fun vi _ => xs.length - (intOf vi).toNat)
 case atStart => exact ⟨0, rfl, Nat.zero_le _, ⟨Below.refl _ _⟩, ⟨rfl⟩⟩
 case round =>
  obtain ⟨i, rfl, hi, HB, HN⟩ := hrel
  by_cases hlt : i < xs.length
  · have d1 : decide ((i : Int) < (xs.length : Int)) = true := decide_eq_true (by omega)
    have m0 : (0 : Int) ≤ (i : Int) := by omega
    have m1 : (i : Int) < (xs.length : Int) := by omega
    have wi : wrap64 ((i : Int) + 1) = ((i + 1 : Nat) : Int) := by unfold wrap64; have := HL.out; omega
    obtain ⟨x, hx⟩ : ∃ x, xs[i]? = some x := ⟨_, List.getElem?_eq_getElem hlt⟩
    obtain ⟨bk, rfl, hbk, hdc, hcc⟩ := HC.out.resolve_left (fun h => by rw [h] at hlt; simp at hlt)
    obtain ⟨q1, q2⟩ := hcc i x hx
    have r1 := (HB.out.cell (World.block_lt_of_cell? w _ q1)).trans q1
    have r2 := (HB.out.cell (World.block_lt_of_cell? w _ q2)).trans q2
    rw [show 2 * i = i * 2 by omega] at r1 r2
    obtain ⟨f1, f2⟩ := findX_at (fun y => decide (y = hereP l)) xs i x hx HN.out
    have hc1 := fun W hb => ext1_c bx g A c e s l x.1 x.2.1 W (hx := hb)
    have HC1 := Aside0.mk hc1
    have HRr := kb HR HB.out
    have HXr := kb HX HB.out
    have HPr := Aside0.mk (HP.out.move fun b cs hb => HB.out.block b (Array.getElem?_eq_some_iff.1 hb).1)
    clear hx hcc q1 q2 hc1 HN
    cases hd : decide (x.1 = hereP l) with
    | false =>
     have HN2 := Aside0.mk (f1 hd)
     clear f1 f2
     go_wp2_with (first
      | (refine (HC1.out _ HXr.out HRr.out HPr.out).mono ?_; rintro e3 w3 ⟨rfl, hb⟩; rw [hd]; replace HB := bb HB hb; clear hb r1 r2))
     go_roundw
     case rel => exact ⟨i + 1, by rw [wi], by omega, HB, HN2⟩
     case measure => rw [wi]; simp [intOf]; omega
    | true =>
     have HN2 := Aside0.mk (f2 hd)
     clear f1 f2
     go_wp2_with (first
      | (refine (HC1.out _ HXr.out HRr.out HPr.out).mono ?_; rintro e3 w3 ⟨rfl, hb⟩; rw [hd]; replace HB := bb HB hb; clear hb r1 r2))
     go_ret
     exact ⟨⟨(i : Int), rfl, by rw [HN2.out]; exact decide_eq_true m0⟩, HB.out⟩
  · obtain rfl : i = xs.length := by omega
    have d1 : decide ((xs.length : Int) < (xs.length : Int)) = false := decide_eq_false (by omega)
    have hn := HN.out
    rw [List.take_length] at hn
    have HN2 := Aside0.mk hn
    clear hn HN
    go_wp2
    go_ret
    exact ⟨⟨-1, rfl, by rw [HN2.out]; rfl⟩, HB.out⟩
theorem containsX_c (bx g : Nat) (A : Option Addr) (c : Nat) (e : Int) (s : RS) (l : List Pc) (xs : List (ByteArray × Value × List ByteArray)) (V : Option Addr) (d base : Nat) (w : World) (hx : w.heap[bx]? = some (.cells #[.pointer (some ⟨g, 0, none⟩)] 84 (0, 0))) (hR : w.heap[g]? = some (RB s A l.length c e)) (hP : PG w A l) (hO : w.ownsRow base 65 2 (.slice V xs.length d) xs.length (cellsX xs)) (hl : xs.length ≤ 1000000) :
 Calls Tryz.prog 184 #[.slice V xs.length d, .func (.func 185) #[] #[.pointer (some ⟨bx, 0, none⟩)]] w fun e' w' => e' = .returned (.bool (xs.any (fun y => decide (y.1 = hereP l)))) ∧ Below w.heap.size w w' := by
 have HC := Aside0.mk (indexX_c bx g A c e s l xs V d base w hx hR hP hO hl)
 clear hx hR hP hO hl
 go_enter Tryz.func184, Tryz.ntmps184
 go_wp2_with (first
  | (go_at_call 226; refine (by exact HC.out : Calls _ _ _ _ _).mono ?_; rintro e3 w3 ⟨⟨i, rfl, hi⟩, hb⟩))
 go_ret
 exact ⟨by rw [← hi]; rfl, hb⟩
theorem cellsX_snoc (m : List (ByteArray × Value × List ByteArray)) (x : ByteArray × Value × List ByteArray) : cellsX (m ++ [x]) = cellsX m ++ [.string x.1, x.2.1] := by unfold cellsX; rw [List.flatMap_append]; rfl
def plainX (xs : List (ByteArray × Value × List ByteArray)) : List (ByteArray × List ByteArray) := xs.map fun x => (x.1, x.2.2)
theorem plainX_any (p : ByteArray → Bool) (xs : List (ByteArray × Value × List ByteArray)) : (plainX xs).any (fun y => p y.1) = xs.any (fun y => p y.1) := by unfold plainX; rw [List.any_map]; rfl
def ExtsPost (w0 w : World) (g : Nat) (e : Int) (s : RS) (r : Except (Int × Int) (List (ByteArray × List ByteArray) × List Pc)) (e' : Ending) (w' : World) : Prop :=
 (∃ x, r = .error x ∧ BadG w0 w w' g x e') ∨ (∃ v, r = .ok v ∧ e' = .returned (.tuple #[]) ∧ ∃ vX xs, plainX xs = v.1 ∧ ExtsG w' w0.heap.size vX xs ∧ LeftG w0 w w' g e { s with vX := vX } v.2)
theorem extsP_stop {e : Int} {n : Nat} {acc : List (ByteArray × List ByteArray)} {x : Pc} {m : List Pc} (h : ¬ (subB x.2 && singB x.2) = true) : extsP e (n + 1) acc (x :: m) = .ok (acc, x :: m) := by
 conv => lhs; unfold extsP
 exact if_neg h
theorem extsP_dup {e : Int} {n : Nat} {acc : List (ByteArray × List ByteArray)} {x : Pc} {m : List Pc} (h : (subB x.2 && singB x.2) = true) (hd : acc.any (fun y => decide (y.1 = x.2)) = true) : extsP e (n + 1) acc (x :: m) = .error (x.1, 11) := by
 conv => lhs; unfold extsP
 rw [if_pos h, if_pos hd]
theorem extsP_none {e : Int} {n : Nat} {acc : List (ByteArray × List ByteArray)} {x : Pc} {m : List Pc} (h : (subB x.2 && singB x.2) = true) (hd : acc.any (fun y => decide (y.1 = x.2)) = false) (hr : (rowP longB m).1 = []) : extsP e (n + 1) acc (x :: m) = .error (stopAt e (rowP longB m).2, 10) := by
 conv => lhs; unfold extsP
 rw [if_pos h, if_neg (by rw [hd]; decide), if_pos hr]
theorem extsP_on {e : Int} {n : Nat} {acc : List (ByteArray × List ByteArray)} {x : Pc} {m : List Pc} (h : (subB x.2 && singB x.2) = true) (hd : acc.any (fun y => decide (y.1 = x.2)) = false) (hr : (rowP longB m).1 ≠ []) : extsP e (n + 1) acc (x :: m) = extsP e n (acc ++ [(x.2, (rowP longB m).1)]) (rowP longB m).2 := by
 conv => lhs; unfold extsP
 rw [if_pos h, if_neg (by rw [hd]; decide), if_neg hr]
theorem exts_app {w0 w W5 W6 W7 : World} {g b1 : Nat} {e : Int} {s1 s2 : RS} {A5 : Option Addr} {c5 : Nat} {m : List Pc} {v v5 v6 : Value} {xs : List (ByteArray × Value × List ByteArray)} {k : ByteArray} {L : List ByteArray} (hg : w0.heap.size ≤ g) (hK5 : KeepBut w W5 g none) (hV : FreshV w v) (hO5 : ExtsG W5 w0.heap.size v xs) (hS5 : Own W5 w0.heap.size v5 L) (hR5 : W5.heap[g]? = some (RB s1 A5 m.length c5 e)) (hc5 : m.length ≤ c5)
 (hG6 : W5.grownBy W6 v.ownBlock) (hP6 : PG W6 A5 m) (hB6 : Below w0.heap.size w0 W6) (hO6 : W6.ownsRow w0.heap.size 65 2 v6 (xs.length + 1) (cellsX xs ++ [.string k, v5])) (hR6 : W6.heap[g]? = some (RB s1 A5 m.length c5 e)) (hX6 : W6.heap[b1]? = some (.cells #[.pointer (some ⟨g, 0, none⟩)] 84 (0, 0))) (hne : b1 ≠ g) (hat : v6.ownBlock = v.ownBlock ∨ ∃ b, v6.ownBlock = some b ∧ W5.heap.size ≤ b) (hp : Put g W6 W7) (hk : W7.heap[g]? = some (RB s2 A5 m.length c5 e)) :
 ExtsG W7 w0.heap.size v6 (xs ++ [(k, v5, L)]) ∧ FreshV w v6 ∧ LeftG w0 w W7 g e s2 m ∧ W7.heap[b1]? = some (.cells #[.pointer (some ⟨g, 0, none⟩)] 84 (0, 0)) := by
 have k6 : KeepBut w W6 g none := hK5.trans (KeepBut.of_grown hG6 g) hV.row
 have mv : ∀ {u : Value} {l : List ByteArray}, Own W5 w0.heap.size u l → Own W6 w0.heap.size u l := fun {u l} h => own_move h fun j hj => hG6.block j (own_lt h j hj) (fun x => ne_types h hO5.1 (by decide) j hj x.symm)
 refine ⟨⟨?_, fun x hx => ?_⟩, hV.app hK5.1 hat, ⟨⟨A5, c5, hc5, hk, hP6.keep hR6 (keep_put hp)⟩, Put.below hp hB6 hg, k6.trans (keep_put hp) (.inl rfl)⟩, (hp.far b1 hne).trans hX6⟩
 · rw [List.length_append, cellsX_snoc]
   exact ownK hO6 hR6 (by decide) (keep_put hp)
 · rcases List.mem_append.1 hx with h | h
   · exact ownK (mv (hO5.2 x h)) hR6 (by decide) (keep_put hp)
   · rw [List.mem_singleton] at h
     subst h
     exact ownK (mv hS5) hR6 (by decide) (keep_put hp)
theorem extensions_g (g : Nat) (A : Option Addr) (c : Nat) (e : Int) (s : RS) (l : List Pc) (w0 w : World) (hB : Below w0.heap.size w0 w) (hg : w0.heap.size ≤ g) (hc : l.length ≤ c) (hR : w.heap[g]? = some (RB s A l.length c e)) (hP : PG w A l) (hl : l.length ≤ 1000000) (hX0 : s.vX = .slice none 0 0) :
 Calls Tryz.prog 129 #[.pointer (some ⟨g, 0, none⟩)] w fun e' w' => ExtsPost w0 w g e s (extsP e (l.length + 1) [] l) e' w' := by
 obtain ⟨b1, hb1⟩ : ∃ b1, b1 = w.heap.size := ⟨_, rfl⟩
 obtain ⟨wz, hwz⟩ : ∃ wz, wz = w.alloc (.cells #[.pointer (some ⟨g, 0, none⟩)] 84) := ⟨_, rfl⟩
 have hbz : Below w.heap.size w wz := by rw [hwz]; exact below_alloc (Below.refl _ _) _
 have hL : LeftG w0 w wz g e { s with vX := .slice none 0 0 } l := ⟨⟨A, c, hc, by rw [← hX0]; exact (hbz.block g (Array.getElem?_eq_some_iff.1 hR).1).trans hR, hP.move fun b cs hb => hbz.block b (Array.getElem?_eq_some_iff.1 hb).1⟩, hB.trans (hbz.mono hB.size), KeepBut.of_below hbz g none⟩
 have HL0 := Aside0.mk hL
 have KX0 : Aside0 (wz.heap[b1]? = some (.cells #[.pointer (some ⟨g, 0, none⟩)] 84 (0, 0))) := ⟨by rw [hwz]; exact aZ hb1⟩
 have HNE : Aside0 (b1 ≠ g) := ⟨by rw [hb1]; exact fun x => by have := (Array.getElem?_eq_some_iff.1 hR).1; omega⟩
 have HWS : Aside0 (w.heap.size ≤ b1) := ⟨by omega⟩
 obtain ⟨r, hr⟩ : ∃ r, r = extsP e (l.length + 1) [] l := ⟨_, rfl⟩
 rw [← hr]
 have HRR := Aside0.mk hr
 have HWZ := Aside0.mk hwz.symm
 have HBZ := Aside0.mk hb1
 clear hB hc hR hP hL hr hX0 hbz hwz hb1
 go_enter Tryz.func129, Tryz.ntmps129
 go_wp2
 rw [HWZ.out, ← HBZ.out]
 clear HWZ HBZ
 go_loopw [] (fun wr => ∃ (n : Nat) (xs : List (ByteArray × Value × List ByteArray)) (m : List Pc) (vX : Value), Aside0 (ExtsG wr w0.heap.size vX xs) ∧ Aside0 (FreshV w vX) ∧ Aside0 (LeftG w0 w wr g e { s with vX := vX } m) ∧ Aside0 (wr.heap[b1]? = some (.cells #[.pointer (some ⟨g, 0, none⟩)] 84 (0, 0))) ∧ Aside0 (extsP e n (plainX xs) m = r) ∧ m.length < n ∧ xs.length + m.length ≤ l.length) (fun wr => leftN wr g)
 case atStart => exact ⟨l.length + 1, [], l, _, ⟨⟨own_nil _ _ _ _, fun _ h => by simp at h⟩⟩, ⟨fresh_nil w⟩, HL0, KX0, ⟨HRR.out.symm⟩, by omega, by simp⟩
 case round =>
  clear HL0 HRR KX0
  obtain ⟨n, xs, m, vX, HO, HV, HL, KX, HE, hmn, hn⟩ := hrel
  obtain ⟨V1, d1, e1⟩ := own_slice HO.out.1
  subst e1
  obtain ⟨n, rfl⟩ : ∃ n', n = n' + 1 := ⟨n - 1, by omega⟩
  obtain ⟨⟨A1, c1, hc1, hR1, hP1⟩, hB1, hK1⟩ := HL.out
  have HR := Aside0.mk hR1
  have HP := Aside0.mk hP1
  have HB := Aside0.mk hB1
  have HK := Aside0.mk hK1
  have k0 := (blk_cell KX.out 0).trans rfl
  clear hR1 hP1 hB1 hK1
  cases m with
  | nil =>
   go_wp2_with (first
    | (go_at_call 123; refine (here_g g _ c1 e _ [] _ (by exact HR.out) (by exact HP.out)).mono ?_; rintro e w' ⟨rfl, ⟨nd, rfl⟩⟩; rw [show hereP [] = ⟨#[]⟩ from rfl]))
   go_end0
   exact .inr ⟨(plainX xs, []), HE.out.symm, rfl, _, xs, rfl, HO.out, ⟨A1, c1, hc1, HR.out, PG.nil _ _⟩, pw_below_drewN HB.out _, keep_drewN HK.out _⟩
  | cons x m =>
   have done : ¬ (subB x.2 && singB x.2) = true → r = .ok (plainX xs, x :: m) := fun h => HE.out.symm.trans (extsP_stop h)
   cases hs : subB x.2 with
   | false =>
    have he := hereP_none (l := m) hs
    have HD := Aside0.mk (done (by rw [hs]; simp))
    clear hs done
    go_wp2_with (first
     | (go_at_call 123; refine (here_g g _ c1 e _ (x :: m) _ (by exact HR.out) (by exact HP.out)).mono ?_; rintro e w' ⟨rfl, ⟨nd, rfl⟩⟩; rw [he]))
    go_end0
    exact .inr ⟨_, HD.out, rfl, _, xs, rfl, HO.out, ⟨A1, c1, hc1, HR.out, HP.out.keep HR.out (keep_drewN (KeepBut.refl wr g none) _)⟩, pw_below_drewN HB.out _, keep_drewN HK.out _⟩
   | true =>
    have he := hereP_some (l := m) hs
    have q0 := sub_full hs
    have h8 := (sub_size hs).1
    have hF := fun W => tellsSing.2 x.2 W h8
    cases hf : singB x.2 with
    | false =>
     rw [hf] at hF
     have HD := Aside0.mk (done (by rw [hf]; simp))
     clear hs done h8 hf
     go_wp2_with (first
      | (go_at_call 123; refine (here_g g _ c1 e _ (x :: m) _ (by exact HR.out) (by exact HP.out)).mono ?_; rintro e w' ⟨rfl, ⟨nd, rfl⟩⟩; rw [he])
      | (with_reducible refine (hF _).mono ?_; rintro e w' ⟨rfl, ⟨nd, rfl⟩⟩))
     go_end0
     exact .inr ⟨_, HD.out, rfl, _, xs, rfl, HO.out, ⟨A1, c1, hc1, HR.out, HP.out.keep HR.out (keep_drewN (KeepBut.refl wr g none) _)⟩, pw_below_drewN HB.out _, keep_drewN HK.out _⟩
    | true =>
     rw [hf] at hF
     have hsv : (subB x.2 && singB x.2) = true := by rw [hs, hf]; rfl
     have HLE := Aside0.mk (show xs.length ≤ 1000000 by omega)
     have HLN := Aside0.mk (left_n HR.out)
     have HLM := Aside0.mk (show m.length ≤ 1000000 by simp only [List.length_cons] at hn; omega)
     clear hs done h8 hf
     go_wp2_with (first
      | (go_at_call 123; refine (here_g g _ c1 e _ (x :: m) wr (by exact HR.out) (by exact HP.out)).mono ?_; rintro e w' ⟨rfl, ⟨nd, rfl⟩⟩; rw [he])
      | (go_at_call 123; refine (here_g g _ c1 e _ (x :: m) (wr.drewN nd) (by exact HR.out) (by exact HP.out)).mono ?_; rintro e w' ⟨rfl, ⟨nd1, rfl⟩⟩; rw [he])
      | (with_reducible refine (hF _).mono ?_; rintro e w' ⟨rfl, ⟨nd2, rfl⟩⟩))
     clear k0
     cases hdup : xs.any (fun y => decide (y.1 = x.2)) with
     | true =>
      have HD := Aside0.mk (HE.out.symm.trans (extsP_dup hsv (by rw [plainX_any (fun z => decide (z = x.2))]; exact hdup)))
      clear hsv
      refine start_ (n := 9) (S := fun w' => w'.cell? ⟨g, 7, none⟩ = some (.slice V1 xs.length d1) ∧ w'.cell? ⟨b1, 0, none⟩ = some (.pointer (some ⟨g, 0, none⟩))) (ds := [8]) (M 9 0) (by kernel_rfl) rfl rfl ⟨(blk_cell HR.out 7).trans rfl, (blk_cell KX.out 0).trans rfl⟩ (fun hHeld => ?_)
      obtain ⟨W1, hW1⟩ : ∃ W1, W1 = (wr.drewN (nd + nd1 + nd2)).drew := ⟨_, rfl⟩
      rw [← hW1] at hHeld ⊢
      replace HR : Aside0 (W1.heap[g]? = some (RB { s with vX := .slice V1 xs.length d1 } A1 (x :: m).length c1 e)) := by rw [hW1]; exact HR
      replace HP : Aside0 (PG W1 A1 (x :: m)) := by rw [hW1]; exact HP
      replace HB : Aside0 (Below w0.heap.size w0 W1) := by rw [hW1]; exact ⟨below_drew1 (pw_below_drewN HB.out _)⟩
      replace HK : Aside0 (KeepBut w W1 g none) := by rw [hW1]; exact ⟨keep_drewN (keep_drewN HK.out _) 1⟩
      replace HO : Aside0 (ExtsG W1 w0.heap.size (.slice V1 xs.length d1) xs) := by rw [hW1]; exact HO
      replace KX : Aside0 (W1.heap[b1]? = some (.cells #[.pointer (some ⟨g, 0, none⟩)] 84 (0, 0))) := by rw [hW1]; exact KX
      clear hW1
      refine pw 6 17 (M 9 64) ?_
      refine tw 0 11 (M 9 65) hHeld ?_
      refine tw 1 12 (M 9 67) hHeld ?_
      refine pw 2 13 (M 9 71) ?_
      refine pw 3 14 (M 9 79) ?_
      refine pw 4 15 (M 9 95) ?_
      refine tw 5 16 (M 9 127) hHeld ?_
      refine ow 7 (some 18) (M 9 255) fun K hK => ?_
      refine gow Tryz.func184 #[.slice V1 xs.length d1, .func (.func 185) #[] #[.pointer (some ⟨b1, 0, none⟩)]] ?_
      refine (containsX_c b1 g A1 c1 e { s with vX := .slice V1 xs.length d1 } (x :: m) xs V1 d1 w0.heap.size _ KX.out HR.out HP.out HO.out.1 HLE.out).mono ?_
      rintro e3 W2 ⟨rfl, hb2⟩
      rw [he, hdup]
      replace HO := Aside0.mk (HO.out.below hb2)
      replace HP := Aside0.mk (HP.out.move fun b cs hb => hb2.block b (Array.getElem?_eq_some_iff.1 hb).1)
      replace HK := Aside0.mk (HK.out.trans (KeepBut.of_below hb2 g none) (.inl rfl))
      replace HB := bb HB hb2
      replace HR := kb HR hb2
      replace KX := kb KX hb2
      clear hb2
      refine ⟨_, rfl, ?_⟩
      refine hK.out _ _ ⟨(blk_cell HR.out 7).trans rfl, (blk_cell KX.out 0).trans rfl⟩ (fun hHeld => ?_)
      clear hK K
      refine nw 18 ?_
      refine last_ (i := 8) (N := some 19) (M 9 511) rfl rfl (by kernel_rfl) (by decide) (fun K hK => ?_)
      refine goesP Tryz.func181 #[.pointer (some ⟨g, 0, none⟩), .bool true, .string ⟨#[115, 105, 110, 103, 108, 101, 116, 111, 110]⟩] ?_
      refine (twice_yes g _ c1 e { s with vX := .slice V1 xs.length d1 } _ x m w0 _ HB.out HR.out HP.out).mono ?_
      rintro e3 W4 hbad
      obtain ⟨p, he4, hr4⟩ := hbad
      refine ⟨_, he4, ?_⟩
      exact ⟨rfl, .inl ⟨_, HD.out, BadG.after ⟨p, rfl, hr4⟩ HK.out⟩⟩
     | false =>
      have hd2 : (plainX xs).any (fun y => decide (y.1 = x.2)) = false := by rw [plainX_any (fun z => decide (z = x.2))]; exact hdup
      refine start_ (n := 9) (S := fun w' => w'.cell? ⟨g, 7, none⟩ = some (.slice V1 xs.length d1) ∧ w'.cell? ⟨b1, 0, none⟩ = some (.pointer (some ⟨g, 0, none⟩))) (ds := []) (M 9 0) (by kernel_rfl) rfl rfl ⟨(blk_cell HR.out 7).trans rfl, (blk_cell KX.out 0).trans rfl⟩ (fun hHeld => ?_)
      obtain ⟨W1, hW1⟩ : ∃ W1, W1 = (wr.drewN (nd + nd1 + nd2)).drew := ⟨_, rfl⟩
      rw [← hW1] at hHeld ⊢
      replace HR : Aside0 (W1.heap[g]? = some (RB { s with vX := .slice V1 xs.length d1 } A1 (x :: m).length c1 e)) := by rw [hW1]; exact HR
      replace HP : Aside0 (PG W1 A1 (x :: m)) := by rw [hW1]; exact HP
      replace HB : Aside0 (Below w0.heap.size w0 W1) := by rw [hW1]; exact ⟨below_drew1 (pw_below_drewN HB.out _)⟩
      replace HK : Aside0 (KeepBut w W1 g none) := by rw [hW1]; exact ⟨keep_drewN (keep_drewN HK.out _) 1⟩
      replace HO : Aside0 (ExtsG W1 w0.heap.size (.slice V1 xs.length d1) xs) := by rw [hW1]; exact HO
      replace KX : Aside0 (W1.heap[b1]? = some (.cells #[.pointer (some ⟨g, 0, none⟩)] 84 (0, 0))) := by rw [hW1]; exact KX
      clear hW1
      refine pw 6 17 (M 9 64) ?_
      refine tw 0 11 (M 9 65) hHeld ?_
      refine tw 1 12 (M 9 67) hHeld ?_
      refine pw 2 13 (M 9 71) ?_
      refine pw 3 14 (M 9 79) ?_
      refine pw 4 15 (M 9 95) ?_
      refine tw 5 16 (M 9 127) hHeld ?_
      refine ow 7 (some 18) (M 9 255) fun K hK => ?_
      refine gow Tryz.func184 #[.slice V1 xs.length d1, .func (.func 185) #[] #[.pointer (some ⟨b1, 0, none⟩)]] ?_
      refine (containsX_c b1 g A1 c1 e { s with vX := .slice V1 xs.length d1 } (x :: m) xs V1 d1 w0.heap.size _ KX.out HR.out HP.out HO.out.1 HLE.out).mono ?_
      rintro e3 W2 ⟨rfl, hb2⟩
      rw [he, hdup]
      replace HO := Aside0.mk (HO.out.below hb2)
      replace HP := Aside0.mk (HP.out.move fun b cs hb => hb2.block b (Array.getElem?_eq_some_iff.1 hb).1)
      replace HK := Aside0.mk (HK.out.trans (KeepBut.of_below hb2 g none) (.inl rfl))
      replace HB := bb HB hb2
      replace HR := kb HR hb2
      replace KX := kb KX hb2
      clear hb2
      refine ⟨_, rfl, ?_⟩
      refine hK.out _ _ ⟨(blk_cell HR.out 7).trans rfl, (blk_cell KX.out 0).trans rfl⟩ (fun hHeld => ?_)
      clear hK K
      refine nw 18 ?_
      refine ow 8 (some 19) (M 9 511) fun K hK => ?_
      refine gow Tryz.func181 #[.pointer (some ⟨g, 0, none⟩), .bool false, .string ⟨#[115, 105, 110, 103, 108, 101, 116, 111, 110]⟩] ?_
      refine (twice_no g _ _).mono ?_
      rintro e3 W4 ⟨rfl, hW4⟩
      rw [hW4]
      clear hW4
      refine ⟨_, rfl, ?_⟩
      refine hK.out _ _ ⟨(blk_cell HR.out 7).trans rfl, (blk_cell KX.out 0).trans rfl⟩ (fun hHeld => ?_)
      clear hK K
      refine nw 19 ?_
      refine done_ (by kernel_rfl) ?_
      have k0 := (blk_cell KX.out 0).trans rfl
      go_wp2_with (first
       | (go_at_call 130; refine (take_g g _ c1 e _ x m w0 W2 HB.out hg hc1 HR.out HP.out).mono ?_; rintro e3 W3 ⟨rfl, ⟨A2, c2, hc2, hR2, hP2⟩, hB2, hK2⟩; rw [he]; have HR3 := Aside0.mk hR2; have HP3 := Aside0.mk hP2; have HB3 := Aside0.mk hB2; have HK3 := Aside0.mk (HK.out.trans hK2 (.inl rfl)); have HO3 := Aside0.mk (HO.out.keep HR.out hK2); have KX3 := Aside0.mk ((hK2.2 b1 (lt_blk KX.out) HNE.out (by simp)).trans KX.out); clear hR2 hP2 hB2 hK2 k0))
      by_cases hrow : (rowP longB m).1 = []
      · have HD := Aside0.mk (HE.out.symm.trans (extsP_none hsv hd2 hrow))
        clear hsv hd2
        refine start_ (n := 16) (S := fun w' => w'.cell? ⟨g, 7, none⟩ = some (.slice V1 xs.length d1) ∧ w'.cell? ⟨b1, 0, none⟩ = some (.pointer (some ⟨g, 0, none⟩))) (ds := [15]) (M 16 0) (by kernel_rfl) rfl rfl ⟨(blk_cell HR3.out 7).trans rfl, (blk_cell KX3.out 0).trans rfl⟩ (fun hHeld => ?_)
        obtain ⟨W1, hW1⟩ : ∃ W1, W1 = W3.drew := ⟨_, rfl⟩
        rw [← hW1] at hHeld ⊢
        replace HR3 : Aside0 (W1.heap[g]? = some (RB { s with vX := .slice V1 xs.length d1 } A2 m.length c2 e)) := by rw [hW1]; exact HR3
        replace HP3 : Aside0 (PG W1 A2 m) := by rw [hW1]; exact HP3
        replace HB3 : Aside0 (Below w0.heap.size w0 W1) := by rw [hW1]; exact ⟨below_drew1 HB3.out⟩
        replace HK3 : Aside0 (KeepBut w W1 g none) := by rw [hW1]; exact ⟨keep_drewN HK3.out 1⟩
        replace HO3 : Aside0 (ExtsG W1 w0.heap.size (.slice V1 xs.length d1) xs) := by rw [hW1]; exact HO3
        replace KX3 : Aside0 (W1.heap[b1]? = some (.cells #[.pointer (some ⟨g, 0, none⟩)] 84 (0, 0))) := by rw [hW1]; exact KX3
        clear hW1
        refine pw 6 28 (M 16 64) ?_
        refine tw 0 22 (M 16 65) hHeld ?_
        refine tw 1 23 (M 16 67) hHeld ?_
        refine pw 2 24 (M 16 71) ?_
        refine pw 3 25 (M 16 79) ?_
        refine pw 4 26 (M 16 95) ?_
        refine tw 5 27 (M 16 127) hHeld ?_
        refine tw 7 29 (M 16 255) hHeld ?_
        refine ow 8 (some 30) (M 16 511) fun K hK => ?_
        refine goesP Tryz.func131 #[.pointer (some ⟨g, 0, none⟩), .func (.func 186) #[] #[]] ?_
        refine (some_no _ longB tellsLong g A2 c2 e { s with vX := .slice V1 xs.length d1 } m w0 _ HB3.out hg hc2 HR3.out HP3.out HLM.out hrow).mono ?_
        rintro e3 W4 hbad
        obtain ⟨p, he4, hr4⟩ := hbad
        refine ⟨_, he4, ?_⟩
        exact ⟨rfl, .inl ⟨_, HD.out, BadG.after ⟨p, rfl, hr4⟩ HK3.out⟩⟩
      · have HE2 := Aside0.mk ((extsP_on hsv hd2 hrow).symm.trans HE.out)
        clear hsv hd2
        have HRL := Aside0.mk (row_len longB m)
        refine start_ (n := 16) (S := fun w' => w'.cell? ⟨g, 7, none⟩ = some (.slice V1 xs.length d1) ∧ w'.cell? ⟨b1, 0, none⟩ = some (.pointer (some ⟨g, 0, none⟩))) (ds := [15]) (M 16 0) (by kernel_rfl) rfl rfl ⟨(blk_cell HR3.out 7).trans rfl, (blk_cell KX3.out 0).trans rfl⟩ (fun hHeld => ?_)
        obtain ⟨W1, hW1⟩ : ∃ W1, W1 = W3.drew := ⟨_, rfl⟩
        rw [← hW1] at hHeld ⊢
        replace HR3 : Aside0 (W1.heap[g]? = some (RB { s with vX := .slice V1 xs.length d1 } A2 m.length c2 e)) := by rw [hW1]; exact HR3
        replace HP3 : Aside0 (PG W1 A2 m) := by rw [hW1]; exact HP3
        replace HB3 : Aside0 (Below w0.heap.size w0 W1) := by rw [hW1]; exact ⟨below_drew1 HB3.out⟩
        replace HK3 : Aside0 (KeepBut w W1 g none) := by rw [hW1]; exact ⟨keep_drewN HK3.out 1⟩
        replace HO3 : Aside0 (ExtsG W1 w0.heap.size (.slice V1 xs.length d1) xs) := by rw [hW1]; exact HO3
        replace KX3 : Aside0 (W1.heap[b1]? = some (.cells #[.pointer (some ⟨g, 0, none⟩)] 84 (0, 0))) := by rw [hW1]; exact KX3
        clear hW1
        refine pw 6 28 (M 16 64) ?_
        refine tw 0 22 (M 16 65) hHeld ?_
        refine tw 1 23 (M 16 67) hHeld ?_
        refine pw 2 24 (M 16 71) ?_
        refine pw 3 25 (M 16 79) ?_
        refine pw 4 26 (M 16 95) ?_
        refine tw 5 27 (M 16 127) hHeld ?_
        refine tw 7 29 (M 16 255) hHeld ?_
        refine ow 8 (some 30) (M 16 511) fun K hK => ?_
        refine gow Tryz.func131 #[.pointer (some ⟨g, 0, none⟩), .func (.func 186) #[] #[]] ?_
        refine (some_yes _ longB tellsLong g A2 c2 e { s with vX := .slice V1 xs.length d1 } m w0 _ HB3.out hg hc2 HR3.out HP3.out HLM.out hrow).mono ?_
        rintro e3 W5 ⟨v5, rfl, hO5, hV5, ⟨A5, c5, hc5, hR5, hP5⟩, hB5, hK5⟩
        obtain ⟨V5, d5, e5⟩ := own_slice hO5
        subst e5
        have HS5 := Aside0.mk hO5
        have HR5 := Aside0.mk hR5
        have HP5 := Aside0.mk hP5
        have HB5 := Aside0.mk hB5
        have HK5 := Aside0.mk (HK3.out.trans hK5 (.inl rfl))
        have HO5 := Aside0.mk (HO3.out.keep HR3.out hK5)
        have KX5 := Aside0.mk ((hK5.2 b1 (lt_blk KX3.out) HNE.out (by simp)).trans KX3.out)
        clear hO5 hV5 hR5 hP5 hB5 hK5
        refine ⟨_, rfl, ?_⟩
        refine hK.out _ _ ⟨(blk_cell HR5.out 7).trans rfl, (blk_cell KX5.out 0).trans rfl⟩ (fun hHeld => ?_)
        clear hK K
        refine nw 30 ?_
        refine pw 9 31 (M 16 1023) ?_
        refine ow 10 (some 32) (M 16 2047) fun K hK => ?_
        refine value_ (w1 := ?_) (v := ?_) (by rfl) rfl ?_ ?_
        rotate_left 2
        · go_simp
          constructor
          · rfl
          · rfl
        refine hK.out _ _ ⟨(blk_cell (aN HR5.out) 7).trans rfl, (blk_cell (aN KX5.out) 0).trans rfl⟩ (fun hHeld => ?_)
        clear hK K
        refine nw 32 ?_
        refine ow 11 (some 33) (M 16 4095) fun K hK => ?_
        refine step_append_cells (w0 := w0) w0.heap.size (by rfl) (.tmp 27) (.tmp 32) 31 65 (.agg #[.string ⟨#[]⟩, .slice none 0 0]) 2 40 rfl Tryz.underlying31 (by kernel_rfl) rfl (by decide) (by decide) (.slice V1 xs.length d1) xs.length (cellsX xs) [.string x.2, .slice V5 (rowP longB m).1.length d5] rfl ?hx rfl ?h1 HO5.out.1 HB5.out HB5.out.size ?hl ?_
        (case hx => rfl)
        (case h1 => simp [Value.oneCell'])
        (case hl => have := HLE.out; omega)
        intro v6 W6 hO6 hB6 hG6 hat
        obtain ⟨V6, d6, e6⟩ := own_slice hO6
        subst e6
        have HO6 := Aside0.mk hO6
        have HB6 := Aside0.mk hB6
        have HG6 := Aside0.mk hG6
        have HAT := Aside0.mk hat
        have HR6 := Aside0.mk ((hG6.block g (Array.getElem?_eq_some_iff.1 HR5.out).1 (own_ne HO5.out.1 HR5.out (by decide))).trans HR5.out)
        have KX6 := Aside0.mk ((hG6.block b1 (lt_blk KX5.out) (own_ne HO5.out.1 KX5.out (by decide))).trans KX5.out)
        have HP6 := Aside0.mk (HP5.out.grown HO5.out.1 (by decide) hG6)
        clear hO6 hB6 hG6 hat
        refine hK.out _ _ ⟨(blk_cell HR6.out 7).trans rfl, (blk_cell KX6.out 0).trans rfl⟩ (fun hHeld => ?_)
        clear hK K
        refine nw 33 ?_
        refine pw 12 34 (M 16 8191) ?_
        refine pw 13 35 (M 16 16383) ?_
        refine pw 14 36 (M 16 32767) ?_
        refine last_ (i := 15) (N := none) (M 16 65535) rfl rfl (by kernel_rfl) (by decide) (fun K hK => ?_)
        refine put_step (g := g) (off := 7) (cur := { s with vX := .slice V1 xs.length d1 }.cells A5 (rowP longB m).2.length c5 e) (new := { s with vX := .slice V6 (xs.length + 1) d6 }.cells A5 (rowP longB m).2.length c5 e) (seg := [.slice V6 (xs.length + 1) d6]) (u := .slice V6 (xs.length + 1) d6) rfl rfl rfl rfl rfl rfl (by rfl) (by kernel_rfl) rfl rfl (Nat.le_of_ble_eq_true rfl) HR6.out ?_
        intro W7 hk hp
        refine hK.out _ _ ?_
        clear hK K
        refine done_ (by kernel_rfl) ?_
        have HEND := Aside0.mk (exts_app hg HK5.out HV.out HO5.out HS5.out HR5.out hc5 HG6.out HP6.out HB6.out HO6.out HR6.out KX6.out HNE.out HAT.out hp hk)
        go_roundw
        case rel => exact ⟨_, _, _, _, _, _, _, _, _, _, _, _, _, _, _, _, _, _, _, _, _, _, _, _, _, _, _, _, _, _, _, _, _, _, _, ⟨n, xs ++ [(x.2, _, (rowP longB m).1)], (rowP longB m).2, _, ⟨HEND.out.1⟩, ⟨HEND.out.2.1⟩, ⟨HEND.out.2.2.1⟩, ⟨HEND.out.2.2.2⟩, ⟨by have h := HE2.out; simpa [plainX] using h⟩, by have := HRL.out; simp only [List.length_cons] at hmn; omega, by have := HRL.out; simp only [List.length_append, List.length_cons, List.length_nil] at hn ⊢; have h1 : (rowP longB m).1.length ≠ 0 := fun z => hrow (List.eq_nil_of_length_eq_zero z); omega⟩, rfl⟩
        case measure => rw [left_n hk, HLN.out]; have := HRL.out; simp only [List.length_cons]; omega
def TagG (W : World) (base : Nat) (s : RS) (t : TagL) : Prop := s.lang = t.lang ∧ s.scr = t.scr ∧ s.reg = t.reg ∧ Own W base s.vE t.extl ∧ Own W base s.vV t.vars ∧ (∃ xs, plainX xs = t.exts ∧ ExtsG W base s.vX xs) ∧ Own W base s.vR t.priv
theorem TagG.keep {W W1 : World} {base g : Nat} {s : RS} {t : TagL} {cs : Array Value} (h : TagG W base s t) (hR : W.heap[g]? = some (.cells cs TR (0, 0))) (hk : KeepBut W W1 g none) : TagG W1 base s t := by
 obtain ⟨h1, h2, h3, h4, h5, ⟨xs, h6, h7⟩, h8⟩ := h
 exact ⟨h1, h2, h3, ownK h4 hR (by decide) hk, ownK h5 hR (by decide) hk, ⟨xs, h6, h7.keep hR hk⟩, ownK h8 hR (by decide) hk⟩
theorem TagG.below {W W1 : World} {base : Nat} {s : RS} {t : TagL} (h : TagG W base s t) (hb : Below W.heap.size W W1) : TagG W1 base s t := by
 obtain ⟨h1, h2, h3, h4, h5, ⟨xs, h6, h7⟩, h8⟩ := h
 exact ⟨h1, h2, h3, pw_own_below h4 hb, pw_own_below h5 hb, ⟨xs, h6, h7.below hb⟩, pw_own_below h8 hb⟩
def AllPost (w0 w : World) (g : Nat) (e : Int) (r : Except (Int × Int) TagL) (e' : Ending) (w' : World) : Prop :=
 (∃ x, r = .error x ∧ BadG w0 w w' g x e') ∨ (∃ t, r = .ok t ∧ e' = .returned (.tuple #[]) ∧ ∃ s, TagG w' w0.heap.size s t ∧ LeftG w0 w w' g e s [])
def rs0 : RS := ⟨⟨#[]⟩, .slice none 0 0, ⟨#[]⟩, ⟨#[]⟩, .slice none 0 0, .slice none 0 0, .slice none 0 0⟩
theorem x_bool (y : ByteArray) : (y.toList == ([120] : List UInt8)) = decide (y = xB) := by
 rw [← show xB.toList = ([120] : List UInt8) from by rw [ByteArray.toList_eq]; rfl]
 exact text_eq y xB
def endP (e : Int) (t : TagL) (m : List Pc) : Except (Int × Int) TagL := match privP e m with
 | .error x => .error x
 | .ok p => .ok { t with priv := p }
theorem all_x {e : Int} {l : List Pc} (h : hereP l = xB) : allP e l = endP e {} l := by
 unfold allP endP
 rw [if_pos h]
 cases privP e l <;> rfl
theorem all_no {e : Int} {l : List Pc} (h : hereP l ≠ xB) (ha : (oneP langB l).1.size = 0) : allP e l = .error (stopAt e l, 10) := by
 unfold allP
 rw [if_neg h, if_pos ha]
theorem all_on {e : Int} {l : List Pc} (h : hereP l ≠ xB) (ha : (oneP langB l).1.size ≠ 0) {x1 x2' : List ByteArray × List Pc} {x2 x3 : ByteArray × List Pc} (h1 : exl (oneP langB l).1 (oneP langB l).2 = x1) (h2 : oneP scrB x1.2 = x2) (h3 : oneP regB x2.2 = x3) : allP e l = tailP e { lang := (oneP langB l).1, extl := x1.1, scr := x2.1, reg := x3.1 } x3.2 := by
 subst h3
 subst h2
 subst h1
 unfold allP
 rw [if_neg h, if_neg ha]
theorem tail_var {e : Int} {t : TagL} {l : List Pc} {x : Int × Int} (h : varsP [] l = .error x) : tailP e t l = .error x := by unfold tailP; rw [h]
theorem tail_ext {e : Int} {t : TagL} {l : List Pc} {v : List ByteArray × List Pc} {x : Int × Int} (h : varsP [] l = .ok v) (hz : extsP e (v.2.length + 1) [] v.2 = .error x) : tailP e t l = .error x := by
 unfold tailP
 rw [h]
 show (match extsP e (v.2.length + 1) [] v.2 with | .error x => _ | .ok z => _) = _
 rw [hz]
theorem tail_ok' {e : Int} {t : TagL} {l : List Pc} {v : List ByteArray × List Pc} {z : List (ByteArray × List ByteArray) × List Pc} (h : varsP [] l = .ok v) (hz : extsP e (v.2.length + 1) [] v.2 = .ok z) : tailP e t l = endP e { t with vars := v.1, exts := z.1 } z.2 := by
 unfold tailP endP
 rw [h]
 show (match extsP e (v.2.length + 1) [] v.2 with | .error x => _ | .ok z => _) = _
 rw [hz]
 dsimp only
 cases privP e z.2 <;> rfl
theorem end_no {e : Int} {t : TagL} {x : Pc} {m : List Pc} (hx : hereP (x :: m) = xB) (hr : (rowP trueB m).1 = []) : endP e t (x :: m) = .error (stopAt e (rowP trueB m).2, 10) := by
 have h : privP e (x :: m) = .error (stopAt e (rowP trueB m).2, 10) := by
  unfold privP
  rw [if_pos hx]
  exact if_pos hr
 unfold endP
 rw [h]
theorem end_stop {e : Int} {t : TagL} {x : Pc} {m : List Pc} (hx : hereP (x :: m) = xB) (hr : (rowP trueB m).1 ≠ []) (h2 : (rowP trueB m).2 ≠ []) : endP e t (x :: m) = .error (stopAt e (rowP trueB m).2, 10) := by
 have h : privP e (x :: m) = .error (stopAt e (rowP trueB m).2, 10) := by
  unfold privP
  rw [if_pos hx]
  exact (if_neg hr).trans (if_neg h2)
 unfold endP
 rw [h]
theorem end_yes {e : Int} {t : TagL} {x : Pc} {m : List Pc} (hx : hereP (x :: m) = xB) (hr : (rowP trueB m).1 ≠ []) (h2 : (rowP trueB m).2 = []) : endP e t (x :: m) = .ok { t with priv := (rowP trueB m).1 } := by
 have h : privP e (x :: m) = .ok (rowP trueB m).1 := by
  unfold privP
  rw [if_pos hx]
  exact (if_neg hr).trans (if_pos h2)
 unfold endP
 rw [h]
theorem end_none {e : Int} {t : TagL} {m : List Pc} (hx : hereP m ≠ xB) (hm : m = []) : endP e t m = .ok { t with priv := [] } := by
 unfold endP privP
 rw [if_neg hx, if_pos hm]
theorem end_left {e : Int} {t : TagL} {m : List Pc} (hx : hereP m ≠ xB) (hm : m ≠ []) : endP e t m = .error (stopAt e m, 10) := by
 unfold endP privP
 rw [if_neg hx, if_neg hm]
theorem one_len (f : ByteArray → Bool) (l : List Pc) : (oneP f l).2.length ≤ l.length := by
 rcases one_cases f l with ⟨_, h⟩ | ⟨_, _, h⟩
 · rw [h]; exact Nat.le_refl _
 · omega
theorem extlP_len : ∀ (n : Nat) (l : List Pc), (extlP n l).2.length ≤ l.length
 | 0, l => Nat.le_refl _
 | n + 1, [] => Nat.le_refl _
 | n + 1, x :: l => by
  unfold extlP
  split
  · have := extlP_len n l; simp only [List.length_cons]; omega
  · exact Nat.le_refl _
theorem exl_len (a : ByteArray) (l : List Pc) : (exl a l).2.length ≤ l.length := by
 unfold exl
 split
 · exact extlP_len 3 l
 · exact Nat.le_refl _
theorem varsP_len : ∀ (l : List Pc) (acc : List ByteArray) (v : List ByteArray × List Pc), varsP acc l = .ok v → v.2.length ≤ l.length
 | [], acc, v, h => by cases h; exact Nat.le_refl _
 | x :: l, acc, v, h => by
  unfold varsP at h
  split at h
  · split at h
    · cases h
    · have := varsP_len l _ v h; simp only [List.length_cons]; omega
  · cases h; exact Nat.le_refl _
theorem extsP_len (e : Int) : ∀ (n : Nat) (l : List Pc) (acc : List (ByteArray × List ByteArray)) (v : List (ByteArray × List ByteArray) × List Pc), extsP e n acc l = .ok v → v.2.length ≤ l.length
 | 0, l, acc, v, h => by cases h; exact Nat.le_refl _
 | n + 1, [], acc, v, h => by cases h; exact Nat.le_refl _
 | n + 1, x :: l, acc, v, h => by
  unfold extsP at h
  split at h
  · split at h
    · cases h
    · split at h
      · cases h
      · have h1 := extsP_len e n _ _ v h
        have h2 := row_len longB l
        simp only [List.length_cons]
        omega
  · cases h; exact Nat.le_refl _
theorem all_g (g : Nat) (A0 : Option Addr) (c0 : Nat) (e : Int) (l : List Pc) (w0 w : World) (hB : Below w0.heap.size w0 w) (hg : w0.heap.size ≤ g) (hc0 : l.length ≤ c0) (hR : w.heap[g]? = some (RB rs0 A0 l.length c0 e)) (hP : PG w A0 l) (hl : l.length ≤ 1000000) :
 Calls Tryz.prog 65 #[.pointer (some ⟨g, 0, none⟩)] w fun e' w' => AllPost w0 w g e (allP e l) e' w' := by
 have HR0 := Aside0.mk hR
 have HP0 := Aside0.mk hP
 have HB0 := Aside0.mk hB
 obtain ⟨r, hr⟩ : ∃ r, allP e l = r := ⟨_, rfl⟩
 obtain ⟨y, hy⟩ : ∃ y, y = hereP l := ⟨_, rfl⟩
 have HY := Aside0.mk hy
 rw [hr]
 have HR_ := Aside0.mk hr
 clear hR hP hB hy hr
 go_enter Tryz.func65, Tryz.ntmps65
 go_upto_if 4 with (first
  | (go_at_call 123; refine (here_g g A0 c0 e rs0 l w (by exact HR0.out) (by exact HP0.out)).mono ?_; rintro e3 w3 ⟨rfl, ⟨nd0, rfl⟩⟩; rw [← HY.out]))
 go_cut [] (fun wr => ∃ (s : RS) (m5 : List Pc) (t0 : TagL) (A5 : Option Addr) (c5 : Nat), s.vR = .slice none 0 0 ∧ t0.priv = [] ∧ r = endP e t0 m5 ∧ m5.length ≤ c5 ∧ m5.length ≤ 1000000 ∧ Aside0 (TagG wr w0.heap.size s t0) ∧ Aside0 (wr.heap[g]? = some (RB s A5 m5.length c5 e)) ∧ Aside0 (PG wr A5 m5) ∧ Aside0 (Below w0.heap.size w0 wr) ∧ Aside0 (KeepBut w wr g none))
 case first =>
  have hyx := x_bool y
  by_cases hx : y = xB
  · rw [decide_eq_true hx] at hyx
    rw [hyx]
    have hr2 := HR_.out.symm.trans (all_x (by rw [← HY.out]; exact hx))
    clear hx
    have HR2 := Aside0.mk hr2
    clear hr2
    go_wp2
    go_meet
    exact ⟨rs0, l, {}, A0, c0, rfl, rfl, HR2.out, hc0, hl, ⟨rfl, rfl, rfl, own_nil _ _ _ _, own_nil _ _ _ _, ⟨[], rfl, own_nil _ _ _ _, fun _ h => by simp at h⟩, own_nil _ _ _ _⟩, HR0, HP0, ⟨pw_below_drewN HB0.out _⟩, ⟨keep_drewN (KeepBut.refl w g none) _⟩⟩
  · rw [decide_eq_false hx] at hyx
    rw [hyx]
    have hx' : hereP l ≠ xB := by rw [← HY.out]; exact hx
    clear hx
    by_cases ha : (oneP langB l).1.size = 0
    · have HRR := Aside0.mk (HR_.out.symm.trans (all_no hx' ha))
      clear hx'
      go_wp2_with (first
       | (go_at_call 124; refine (langg_no g A0 c0 e rs0 l w0 _ (by exact pw_below_drewN HB0.out _) hg hc0 (by exact HR0.out) (by exact HP0.out) hl ha).mono ?_; rintro e3 W1 hbad; have HBad := Aside0.mk (hbad.after (keep_drewN (KeepBut.refl w g none) _)); clear hbad; obtain ⟨p, he3, -⟩ := HBad.out; subst he3))
      exact ⟨rfl, .inl ⟨_, HRR.out, HBad.out⟩⟩
    · obtain ⟨x1, hx1⟩ : ∃ x1, exl (oneP langB l).1 (oneP langB l).2 = x1 := ⟨_, rfl⟩
      obtain ⟨x2, hx2⟩ : ∃ x2, oneP scrB x1.2 = x2 := ⟨_, rfl⟩
      obtain ⟨x3, hx3⟩ : ∃ x3, oneP regB x2.2 = x3 := ⟨_, rfl⟩
      have hr3 := HR_.out.symm.trans (all_on (x2' := x1) hx' ha hx1 hx2 hx3)
      obtain ⟨a, ha1⟩ : ∃ a, (oneP langB l).1 = a := ⟨_, rfl⟩
      rw [ha1] at hr3
      have hl1 : x1.2.length ≤ 1000000 := by rw [← hx1]; exact Nat.le_trans (exl_len _ _) (Nat.le_trans (one_len _ _) hl)
      have hl2 : x2.2.length ≤ 1000000 := by rw [← hx2]; exact Nat.le_trans (one_len _ _) hl1
      have hl3 : x3.2.length ≤ 1000000 := by rw [← hx3]; exact Nat.le_trans (one_len _ _) hl2
      have HX1 := Aside0.mk hx1
      have HX2 := Aside0.mk hx2
      have HX3 := Aside0.mk hx3
      have HA := Aside0.mk ha1
      clear hx1 hx2 hx3 ha1 hx'
      cases hv : varsP [] x3.2 with
      | error xx =>
       have HRR := Aside0.mk (hr3.trans (tail_var hv))
       have HV := Aside0.mk hv
       clear hr3 hv
       go_wp2_with (first
        | (go_at_call 124; refine (langg_yes g A0 c0 e rs0 l w0 _ (by exact pw_below_drewN HB0.out _) hg hc0 (by exact HR0.out) (by exact HP0.out) hl rfl ha).mono ?_; rintro e3 V1 ⟨rfl, vE, hOE, hVE, ⟨⟨A1, c1, hc1, hR_, hP_⟩, hB_, hK_⟩⟩; rw [HX1.out] at hOE hc1 hR_ hP_; rw [HA.out] at hR_; have HOE := Aside0.mk hOE; have HR1 := Aside0.mk hR_; have HP1 := Aside0.mk hP_; have HB1 := Aside0.mk hB_; have HK1 := Aside0.mk ((keep_drewN (KeepBut.refl w g none) _).trans hK_ (.inl rfl)); clear hOE hVE; clear hR_ hP_ hB_ hK_)
        | (go_at_call 125; clear y0 y1 y2 y3 y4 y5 y6 y7 y8 y9 f0 f1 f2 f3 f4 f5 f6 f7 f8 f9; refine (one_g _ _ tellsReg g A2 c2 e { rs0 with lang := a, vE := vE, scr := x2.1 } x2.2 w0 _ HB2.out hg hc2 HR2.out HP2.out).mono ?_; rintro e3 V3 ⟨he3, ⟨⟨A3, c3, hc3, hR_, hP_⟩, hB_, hK_⟩⟩; rw [HX3.out] at he3 hc3 hR_ hP_; subst he3; obtain ⟨y0, y1, y2, y3, y4, y5, y6, y7, y8, y9⟩ := cz10 hR_; obtain ⟨f0, f1, f2, f3, f4, f5, f6, f7, f8, f9⟩ := fz10 hR_; have HR3 := Aside0.mk (show (V3.setCell ⟨g, 5, none⟩ (.string x3.1)).heap[g]? = some (RB { rs0 with lang := a, vE := vE, scr := x2.1, reg := x3.1 } A3 x3.2.length c3 e) from blk_put hR_ 5 _ rfl); have HP3 := Aside0.mk (hP_.keep hR_ ((KeepBut.refl V3 g none).set_ 5 (.string x3.1))); have HB3 := Aside0.mk (below_set (j := 5) (v := (.string x3.1)) hB_ hg); have hkk := hK_.set_ 5 (.string x3.1); have HK3 := Aside0.mk (HK2.out.trans hkk (.inl rfl)); have HOE := Aside0.mk (ownK HOE.out HR2.out (by decide) hkk); clear hkk; clear hR_ hP_ hB_ hK_)
        | (go_at_call 125; refine (one_g _ _ tellsScr g A1 c1 e { rs0 with lang := a, vE := vE } x1.2 w0 V1 HB1.out hg hc1 HR1.out HP1.out).mono ?_; rintro e3 V2 ⟨he3, ⟨⟨A2, c2, hc2, hR_, hP_⟩, hB_, hK_⟩⟩; rw [HX2.out] at he3 hc2 hR_ hP_; subst he3; obtain ⟨y0, y1, y2, y3, y4, y5, y6, y7, y8, y9⟩ := cz10 hR_; obtain ⟨f0, f1, f2, f3, f4, f5, f6, f7, f8, f9⟩ := fz10 hR_; have HR2 := Aside0.mk (show (V2.setCell ⟨g, 4, none⟩ (.string x2.1)).heap[g]? = some (RB { rs0 with lang := a, vE := vE, scr := x2.1 } A2 x2.2.length c2 e) from blk_put hR_ 4 _ rfl); have HP2 := Aside0.mk (hP_.keep hR_ ((KeepBut.refl V2 g none).set_ 4 (.string x2.1))); have HB2 := Aside0.mk (below_set (j := 4) (v := (.string x2.1)) hB_ hg); have hkk := hK_.set_ 4 (.string x2.1); have HK2 := Aside0.mk (HK1.out.trans hkk (.inl rfl)); have HOE := Aside0.mk (ownK HOE.out HR1.out (by decide) hkk); clear hkk; clear hR_ hP_ hB_ hK_)
        | (go_at_call 128; clear y0 y1 y2 y3 y4 y5 y6 y7 y8 y9 f0 f1 f2 f3 f4 f5 f6 f7 f8 f9; refine (variants_g g A3 c3 e { rs0 with lang := a, vE := vE, scr := x2.1, reg := x3.1 } x3.2 w0 _ HB3.out hg hc3 HR3.out HP3.out hl3 rfl).mono ?_; rintro e3 V4 hpost; rw [HV.out] at hpost; obtain ⟨xx, hx, hbad⟩ := hpost.resolve_right (by rintro ⟨v, hx, -⟩; cases hx); cases hx; have HBad := Aside0.mk (hbad.after HK3.out); clear hpost; clear hbad; obtain ⟨p, he3, -⟩ := HBad.out; subst he3))
       exact ⟨rfl, .inl ⟨_, HRR.out, HBad.out⟩⟩
      | ok v4 =>
       have hl4 : v4.2.length ≤ 1000000 := Nat.le_trans (varsP_len _ _ _ hv) hl3
       have HV := Aside0.mk hv
       cases hz : extsP e (v4.2.length + 1) [] v4.2 with
       | error xx =>
        have HRR := Aside0.mk (hr3.trans (tail_ext hv hz))
        have HZ := Aside0.mk hz
        clear hr3 hv hz
        go_wp2_with (first
         | (go_at_call 124; refine (langg_yes g A0 c0 e rs0 l w0 _ (by exact pw_below_drewN HB0.out _) hg hc0 (by exact HR0.out) (by exact HP0.out) hl rfl ha).mono ?_; rintro e3 V1 ⟨rfl, vE, hOE, hVE, ⟨⟨A1, c1, hc1, hR_, hP_⟩, hB_, hK_⟩⟩; rw [HX1.out] at hOE hc1 hR_ hP_; rw [HA.out] at hR_; have HOE := Aside0.mk hOE; have HR1 := Aside0.mk hR_; have HP1 := Aside0.mk hP_; have HB1 := Aside0.mk hB_; have HK1 := Aside0.mk ((keep_drewN (KeepBut.refl w g none) _).trans hK_ (.inl rfl)); clear hOE hVE; clear hR_ hP_ hB_ hK_)
         | (go_at_call 125; clear y0 y1 y2 y3 y4 y5 y6 y7 y8 y9 f0 f1 f2 f3 f4 f5 f6 f7 f8 f9; refine (one_g _ _ tellsReg g A2 c2 e { rs0 with lang := a, vE := vE, scr := x2.1 } x2.2 w0 _ HB2.out hg hc2 HR2.out HP2.out).mono ?_; rintro e3 V3 ⟨he3, ⟨⟨A3, c3, hc3, hR_, hP_⟩, hB_, hK_⟩⟩; rw [HX3.out] at he3 hc3 hR_ hP_; subst he3; obtain ⟨y0, y1, y2, y3, y4, y5, y6, y7, y8, y9⟩ := cz10 hR_; obtain ⟨f0, f1, f2, f3, f4, f5, f6, f7, f8, f9⟩ := fz10 hR_; have HR3 := Aside0.mk (show (V3.setCell ⟨g, 5, none⟩ (.string x3.1)).heap[g]? = some (RB { rs0 with lang := a, vE := vE, scr := x2.1, reg := x3.1 } A3 x3.2.length c3 e) from blk_put hR_ 5 _ rfl); have HP3 := Aside0.mk (hP_.keep hR_ ((KeepBut.refl V3 g none).set_ 5 (.string x3.1))); have HB3 := Aside0.mk (below_set (j := 5) (v := (.string x3.1)) hB_ hg); have hkk := hK_.set_ 5 (.string x3.1); have HK3 := Aside0.mk (HK2.out.trans hkk (.inl rfl)); have HOE := Aside0.mk (ownK HOE.out HR2.out (by decide) hkk); clear hkk; clear hR_ hP_ hB_ hK_)
         | (go_at_call 125; refine (one_g _ _ tellsScr g A1 c1 e { rs0 with lang := a, vE := vE } x1.2 w0 V1 HB1.out hg hc1 HR1.out HP1.out).mono ?_; rintro e3 V2 ⟨he3, ⟨⟨A2, c2, hc2, hR_, hP_⟩, hB_, hK_⟩⟩; rw [HX2.out] at he3 hc2 hR_ hP_; subst he3; obtain ⟨y0, y1, y2, y3, y4, y5, y6, y7, y8, y9⟩ := cz10 hR_; obtain ⟨f0, f1, f2, f3, f4, f5, f6, f7, f8, f9⟩ := fz10 hR_; have HR2 := Aside0.mk (show (V2.setCell ⟨g, 4, none⟩ (.string x2.1)).heap[g]? = some (RB { rs0 with lang := a, vE := vE, scr := x2.1 } A2 x2.2.length c2 e) from blk_put hR_ 4 _ rfl); have HP2 := Aside0.mk (hP_.keep hR_ ((KeepBut.refl V2 g none).set_ 4 (.string x2.1))); have HB2 := Aside0.mk (below_set (j := 4) (v := (.string x2.1)) hB_ hg); have hkk := hK_.set_ 4 (.string x2.1); have HK2 := Aside0.mk (HK1.out.trans hkk (.inl rfl)); have HOE := Aside0.mk (ownK HOE.out HR1.out (by decide) hkk); clear hkk; clear hR_ hP_ hB_ hK_)
         | (go_at_call 128; clear y0 y1 y2 y3 y4 y5 y6 y7 y8 y9 f0 f1 f2 f3 f4 f5 f6 f7 f8 f9; refine (variants_g g A3 c3 e { rs0 with lang := a, vE := vE, scr := x2.1, reg := x3.1 } x3.2 w0 _ HB3.out hg hc3 HR3.out HP3.out hl3 rfl).mono ?_; rintro e3 V4 hpost; rw [HV.out] at hpost; obtain ⟨v, hx, rfl, vV, hOV, hVV, ⟨⟨A4, c4, hc4, hR_, hP_⟩, hB_, hK_⟩⟩ := hpost.resolve_left (by rintro ⟨x, hx, -⟩; cases hx); cases hx; have HOE := Aside0.mk (ownK HOE.out HR3.out (by decide) hK_); have HOV := Aside0.mk hOV; have HR4 := Aside0.mk hR_; have HP4 := Aside0.mk hP_; have HB4 := Aside0.mk hB_; have HK4 := Aside0.mk (HK3.out.trans hK_ (.inl rfl)); clear hOV hVV hpost; clear hR_ hP_ hB_ hK_)
         | (go_at_call 129; refine (extensions_g g A4 c4 e { rs0 with lang := a, vE := vE, scr := x2.1, reg := x3.1, vV := vV } v4.2 w0 V4 HB4.out hg hc4 HR4.out HP4.out hl4 rfl).mono ?_; rintro e3 V5 hpost; rw [HZ.out] at hpost; obtain ⟨xx, hx, hbad⟩ := hpost.resolve_right (by rintro ⟨v, hx, -⟩; cases hx); cases hx; have HBad := Aside0.mk (hbad.after HK4.out); clear hpost; clear hbad; obtain ⟨p, he3, -⟩ := HBad.out; subst he3))
        exact ⟨rfl, .inl ⟨_, HRR.out, HBad.out⟩⟩
       | ok z5 =>
        have hl5 : z5.2.length ≤ 1000000 := Nat.le_trans (extsP_len _ _ _ _ _ hz) hl4
        have HR9 := Aside0.mk (hr3.trans (tail_ok' hv hz))
        have HZ := Aside0.mk hz
        clear hr3 hv hz
        go_wp2_with (first
         | (go_at_call 124; refine (langg_yes g A0 c0 e rs0 l w0 _ (by exact pw_below_drewN HB0.out _) hg hc0 (by exact HR0.out) (by exact HP0.out) hl rfl ha).mono ?_; rintro e3 V1 ⟨rfl, vE, hOE, hVE, ⟨⟨A1, c1, hc1, hR_, hP_⟩, hB_, hK_⟩⟩; rw [HX1.out] at hOE hc1 hR_ hP_; rw [HA.out] at hR_; have HOE := Aside0.mk hOE; have HR1 := Aside0.mk hR_; have HP1 := Aside0.mk hP_; have HB1 := Aside0.mk hB_; have HK1 := Aside0.mk ((keep_drewN (KeepBut.refl w g none) _).trans hK_ (.inl rfl)); clear hOE hVE; clear hR_ hP_ hB_ hK_)
         | (go_at_call 125; clear y0 y1 y2 y3 y4 y5 y6 y7 y8 y9 f0 f1 f2 f3 f4 f5 f6 f7 f8 f9; refine (one_g _ _ tellsReg g A2 c2 e { rs0 with lang := a, vE := vE, scr := x2.1 } x2.2 w0 _ HB2.out hg hc2 HR2.out HP2.out).mono ?_; rintro e3 V3 ⟨he3, ⟨⟨A3, c3, hc3, hR_, hP_⟩, hB_, hK_⟩⟩; rw [HX3.out] at he3 hc3 hR_ hP_; subst he3; obtain ⟨y0, y1, y2, y3, y4, y5, y6, y7, y8, y9⟩ := cz10 hR_; obtain ⟨f0, f1, f2, f3, f4, f5, f6, f7, f8, f9⟩ := fz10 hR_; have HR3 := Aside0.mk (show (V3.setCell ⟨g, 5, none⟩ (.string x3.1)).heap[g]? = some (RB { rs0 with lang := a, vE := vE, scr := x2.1, reg := x3.1 } A3 x3.2.length c3 e) from blk_put hR_ 5 _ rfl); have HP3 := Aside0.mk (hP_.keep hR_ ((KeepBut.refl V3 g none).set_ 5 (.string x3.1))); have HB3 := Aside0.mk (below_set (j := 5) (v := (.string x3.1)) hB_ hg); have hkk := hK_.set_ 5 (.string x3.1); have HK3 := Aside0.mk (HK2.out.trans hkk (.inl rfl)); have HOE := Aside0.mk (ownK HOE.out HR2.out (by decide) hkk); clear hkk; clear hR_ hP_ hB_ hK_)
         | (go_at_call 125; refine (one_g _ _ tellsScr g A1 c1 e { rs0 with lang := a, vE := vE } x1.2 w0 V1 HB1.out hg hc1 HR1.out HP1.out).mono ?_; rintro e3 V2 ⟨he3, ⟨⟨A2, c2, hc2, hR_, hP_⟩, hB_, hK_⟩⟩; rw [HX2.out] at he3 hc2 hR_ hP_; subst he3; obtain ⟨y0, y1, y2, y3, y4, y5, y6, y7, y8, y9⟩ := cz10 hR_; obtain ⟨f0, f1, f2, f3, f4, f5, f6, f7, f8, f9⟩ := fz10 hR_; have HR2 := Aside0.mk (show (V2.setCell ⟨g, 4, none⟩ (.string x2.1)).heap[g]? = some (RB { rs0 with lang := a, vE := vE, scr := x2.1 } A2 x2.2.length c2 e) from blk_put hR_ 4 _ rfl); have HP2 := Aside0.mk (hP_.keep hR_ ((KeepBut.refl V2 g none).set_ 4 (.string x2.1))); have HB2 := Aside0.mk (below_set (j := 4) (v := (.string x2.1)) hB_ hg); have hkk := hK_.set_ 4 (.string x2.1); have HK2 := Aside0.mk (HK1.out.trans hkk (.inl rfl)); have HOE := Aside0.mk (ownK HOE.out HR1.out (by decide) hkk); clear hkk; clear hR_ hP_ hB_ hK_)
         | (go_at_call 128; clear y0 y1 y2 y3 y4 y5 y6 y7 y8 y9 f0 f1 f2 f3 f4 f5 f6 f7 f8 f9; refine (variants_g g A3 c3 e { rs0 with lang := a, vE := vE, scr := x2.1, reg := x3.1 } x3.2 w0 _ HB3.out hg hc3 HR3.out HP3.out hl3 rfl).mono ?_; rintro e3 V4 hpost; rw [HV.out] at hpost; obtain ⟨v, hx, rfl, vV, hOV, hVV, ⟨⟨A4, c4, hc4, hR_, hP_⟩, hB_, hK_⟩⟩ := hpost.resolve_left (by rintro ⟨x, hx, -⟩; cases hx); cases hx; have HOE := Aside0.mk (ownK HOE.out HR3.out (by decide) hK_); have HOV := Aside0.mk hOV; have HR4 := Aside0.mk hR_; have HP4 := Aside0.mk hP_; have HB4 := Aside0.mk hB_; have HK4 := Aside0.mk (HK3.out.trans hK_ (.inl rfl)); clear hOV hVV hpost; clear hR_ hP_ hB_ hK_)
         | (go_at_call 129; refine (extensions_g g A4 c4 e { rs0 with lang := a, vE := vE, scr := x2.1, reg := x3.1, vV := vV } v4.2 w0 V4 HB4.out hg hc4 HR4.out HP4.out hl4 rfl).mono ?_; rintro e3 V5 hpost; rw [HZ.out] at hpost; obtain ⟨v, hx, rfl, vX, xs, hxs, hOX, ⟨⟨A5, c5, hc5, hR_, hP_⟩, hB_, hK_⟩⟩ := hpost.resolve_left (by rintro ⟨x, hx, -⟩; cases hx); cases hx; have HOE := Aside0.mk (ownK HOE.out HR4.out (by decide) hK_); have HOV := Aside0.mk (ownK HOV.out HR4.out (by decide) hK_); have HOX := Aside0.mk hOX; have HR5 := Aside0.mk hR_; have HP5 := Aside0.mk hP_; have HB5 := Aside0.mk hB_; have HK5 := Aside0.mk (HK4.out.trans hK_ (.inl rfl)); clear hOX hpost; clear hR_ hP_ hB_ hK_))
        go_meet
        exact ⟨{ rs0 with lang := a, vE := vE, scr := x2.1, reg := x3.1, vV := vV, vX := vX }, z5.2, { lang := a, extl := x1.1, scr := x2.1, reg := x3.1, vars := v4.1, exts := z5.1 }, A5, c5, rfl, rfl, HR9.out, hc5, hl5, ⟨rfl, rfl, rfl, HOE.out, HOV.out, ⟨xs, hxs, HOX.out⟩, own_nil _ _ _ _⟩, HR5, HP5, HB5, HK5⟩
 case rest =>
  clear HR0 HP0 HB0 HR_ HY
  obtain ⟨s, m5, t0, A5, c5, hs, ht, hr, hc5, hl5, HTG, HR5, HP5, HB5, HK5⟩ := hcut
  obtain ⟨y, hy⟩ : ∃ y, y = hereP m5 := ⟨_, rfl⟩
  have HY := Aside0.mk hy
  have hyx := x_bool y
  obtain ⟨z0, -⟩ := cz10 HR5.out
  clear hy
  by_cases hx : y = xB
  · rw [decide_eq_true hx] at hyx
    obtain ⟨x, m, rfl, -, -⟩ := here_cons (HY.out.symm.trans hx) (by decide)
    have hx' : hereP (x :: m) = xB := HY.out.symm.trans hx
    clear hx
    have hlm : m.length ≤ 1000000 := by simp only [List.length_cons] at hl5; omega
    by_cases hrow : (rowP trueB m).1 = []
    · have HRR := Aside0.mk (hr.trans (end_no hx' hrow))
      clear hr hx' z0
      go_wp2_with (first
       | (go_at_call 123; refine (here_g g A5 c5 e s (x :: m) _ (by exact HR5.out) (by exact HP5.out)).mono ?_; rintro e3 w3 ⟨rfl, ⟨nd5, rfl⟩⟩; rw [← HY.out])
       | (go_at_call 130; refine (take_g g A5 c5 e s x m w0 _ (by exact pw_below_drewN HB5.out _) hg hc5 (by exact HR5.out) (by exact HP5.out)).mono ?_; rintro e3 V6 ⟨rfl, ⟨⟨A6, c6, hc6, hR_, hP_⟩, hB_, hK_⟩⟩; have HTG := Aside0.mk (TagG.keep HTG.out HR5.out ((keep_drewN (KeepBut.refl wc g none) _).trans hK_ (.inl rfl))); have HR6 := Aside0.mk hR_; have HP6 := Aside0.mk hP_; have HB6 := Aside0.mk hB_; have HK6 := Aside0.mk (HK5.out.trans ((keep_drewN (KeepBut.refl wc g none) _).trans hK_ (.inl rfl)) (.inl rfl)); clear hR_ hP_ hB_ hK_)
       | (go_at_call 131; refine (some_no _ trueB tellsTrue g A6 c6 e s m w0 V6 HB6.out hg hc6 HR6.out HP6.out hlm hrow).mono ?_; rintro e3 V7 hbad; have HBad := Aside0.mk (hbad.after HK6.out); clear hbad; obtain ⟨p, he3, -⟩ := HBad.out; subst he3))
      exact ⟨rfl, .inl ⟨_, HRR.out, HBad.out⟩⟩
    · by_cases h2 : (rowP trueB m).2 = []
      · have HRR := Aside0.mk (hr.trans (end_yes hx' hrow h2))
        have hz : (rowP trueB m).2.length = 0 := by rw [h2]; rfl
        have d0 : decide ((0 : Int) < ((rowP trueB m).2.length : Int)) = false := decide_eq_false (by omega)
        have d0n : decide (0 < (rowP trueB m).2.length) = false := decide_eq_false (by omega)
        clear hr hx' z0 hz
        go_wp2_with (first
         | (go_at_call 123; refine (here_g g A5 c5 e s (x :: m) _ (by exact HR5.out) (by exact HP5.out)).mono ?_; rintro e3 w3 ⟨rfl, ⟨nd5, rfl⟩⟩; rw [← HY.out])
         | (go_at_call 130; refine (take_g g A5 c5 e s x m w0 _ (by exact pw_below_drewN HB5.out _) hg hc5 (by exact HR5.out) (by exact HP5.out)).mono ?_; rintro e3 V6 ⟨rfl, ⟨⟨A6, c6, hc6, hR_, hP_⟩, hB_, hK_⟩⟩; have HTG := Aside0.mk (TagG.keep HTG.out HR5.out ((keep_drewN (KeepBut.refl wc g none) _).trans hK_ (.inl rfl))); have HR6 := Aside0.mk hR_; have HP6 := Aside0.mk hP_; have HB6 := Aside0.mk hB_; have HK6 := Aside0.mk (HK5.out.trans ((keep_drewN (KeepBut.refl wc g none) _).trans hK_ (.inl rfl)) (.inl rfl)); clear hR_ hP_ hB_ hK_)
         | (go_at_call 131; refine (some_yes _ trueB tellsTrue g A6 c6 e s m w0 V6 HB6.out hg hc6 HR6.out HP6.out hlm hrow).mono ?_; rintro e3 V7 ⟨vR, rfl, hOR, hVR, ⟨⟨A7, c7, hc7, hR_, hP_⟩, hB_, hK_⟩⟩; obtain ⟨VR, dR, eR⟩ := own_slice hOR; subst eR; obtain ⟨y0, y1, y2, y3, y4, y5, y6, y7, y8, y9⟩ := cz10 hR_; obtain ⟨f0, f1, f2, f3, f4, f5, f6, f7, f8, f9⟩ := fz10 hR_; have HR7 := Aside0.mk (show (V7.setCell ⟨g, 8, none⟩ (.slice VR (rowP trueB m).1.length dR)).heap[g]? = some (RB { s with vR := (.slice VR (rowP trueB m).1.length dR) } A7 (rowP trueB m).2.length c7 e) from blk_put hR_ 8 _ rfl); have HP7 := Aside0.mk (hP_.keep hR_ ((KeepBut.refl V7 g none).set_ 8 (.slice VR (rowP trueB m).1.length dR))); have HB7 := Aside0.mk (below_set (j := 8) (v := (.slice VR (rowP trueB m).1.length dR)) hB_ hg); have hkk := hK_.set_ 8 (.slice VR (rowP trueB m).1.length dR); have HK7 := Aside0.mk (HK6.out.trans hkk (.inl rfl)); have HTG := Aside0.mk (TagG.keep HTG.out HR6.out hkk); have HOR := Aside0.mk (ownK hOR hR_ (by decide) ((KeepBut.refl V7 g none).set_ 8 (.slice VR (rowP trueB m).1.length dR))); clear hkk hOR hVR; clear hR_ hP_ hB_ hK_))
        go_end0
        refine .inr ⟨_, HRR.out, rfl, { s with vR := .slice VR (rowP trueB m).1.length dR }, ?_, ?_⟩
        · obtain ⟨g1, g2, g3, g4, g5, g6, g7⟩ := HTG.out
          exact ⟨g1, g2, g3, g4, g5, g6, HOR.out⟩
        · exact ⟨⟨A7, c7, Nat.zero_le _, by have h := HR7.out; rw [h2] at h; exact h, PG.nil _ _⟩, HB7.out, HK7.out⟩
      · have HRR := Aside0.mk (hr.trans (end_stop hx' hrow h2))
        have d0 : decide ((0 : Int) < ((rowP trueB m).2.length : Int)) = true := decide_eq_true (by have : (rowP trueB m).2.length ≠ 0 := fun z => h2 (List.eq_nil_of_length_eq_zero z); omega)
        have d0n : decide (0 < (rowP trueB m).2.length) = true := decide_eq_true (by have : (rowP trueB m).2.length ≠ 0 := fun z => h2 (List.eq_nil_of_length_eq_zero z); omega)
        clear hr hx' z0
        go_wp2_with (first
         | (go_at_call 123; refine (here_g g A5 c5 e s (x :: m) _ (by exact HR5.out) (by exact HP5.out)).mono ?_; rintro e3 w3 ⟨rfl, ⟨nd5, rfl⟩⟩; rw [← HY.out])
         | (go_at_call 130; refine (take_g g A5 c5 e s x m w0 _ (by exact pw_below_drewN HB5.out _) hg hc5 (by exact HR5.out) (by exact HP5.out)).mono ?_; rintro e3 V6 ⟨rfl, ⟨⟨A6, c6, hc6, hR_, hP_⟩, hB_, hK_⟩⟩; have HTG := Aside0.mk (TagG.keep HTG.out HR5.out ((keep_drewN (KeepBut.refl wc g none) _).trans hK_ (.inl rfl))); have HR6 := Aside0.mk hR_; have HP6 := Aside0.mk hP_; have HB6 := Aside0.mk hB_; have HK6 := Aside0.mk (HK5.out.trans ((keep_drewN (KeepBut.refl wc g none) _).trans hK_ (.inl rfl)) (.inl rfl)); clear hR_ hP_ hB_ hK_)
         | (go_at_call 131; refine (some_yes _ trueB tellsTrue g A6 c6 e s m w0 V6 HB6.out hg hc6 HR6.out HP6.out hlm hrow).mono ?_; rintro e3 V7 ⟨vR, rfl, hOR, hVR, ⟨⟨A7, c7, hc7, hR_, hP_⟩, hB_, hK_⟩⟩; obtain ⟨VR, dR, eR⟩ := own_slice hOR; subst eR; obtain ⟨y0, y1, y2, y3, y4, y5, y6, y7, y8, y9⟩ := cz10 hR_; obtain ⟨f0, f1, f2, f3, f4, f5, f6, f7, f8, f9⟩ := fz10 hR_; have HR7 := Aside0.mk (show (V7.setCell ⟨g, 8, none⟩ (.slice VR (rowP trueB m).1.length dR)).heap[g]? = some (RB { s with vR := (.slice VR (rowP trueB m).1.length dR) } A7 (rowP trueB m).2.length c7 e) from blk_put hR_ 8 _ rfl); have HP7 := Aside0.mk (hP_.keep hR_ ((KeepBut.refl V7 g none).set_ 8 (.slice VR (rowP trueB m).1.length dR))); have HB7 := Aside0.mk (below_set (j := 8) (v := (.slice VR (rowP trueB m).1.length dR)) hB_ hg); have hkk := hK_.set_ 8 (.slice VR (rowP trueB m).1.length dR); have HK7 := Aside0.mk (HK6.out.trans hkk (.inl rfl)); have HTG := Aside0.mk (TagG.keep HTG.out HR6.out hkk); have HOR := Aside0.mk (ownK hOR hR_ (by decide) ((KeepBut.refl V7 g none).set_ 8 (.slice VR (rowP trueB m).1.length dR))); clear hkk hOR hVR; clear hR_ hP_ hB_ hK_)
         | (go_at_call 133; refine (stop_g g A7 c7 e { s with vR := (.slice VR (rowP trueB m).1.length dR) } (rowP trueB m).2 w0 _ (by exact HB7.out) (by exact HR7.out) (by exact HP7.out)).mono ?_; rintro e3 V8 hbad; have HBad := Aside0.mk (hbad.after HK7.out); clear hbad; obtain ⟨p, he3, -⟩ := HBad.out; subst he3))
        exact ⟨rfl, .inl ⟨_, HRR.out, HBad.out⟩⟩
  · rw [decide_eq_false hx] at hyx
    have hx' : hereP m5 ≠ xB := fun h => hx (HY.out.trans h)
    clear hx
    by_cases hm : m5 = []
    · have HRR := Aside0.mk (hr.trans (end_none hx' hm))
      have d0 : decide ((0 : Int) < (m5.length : Int)) = false := decide_eq_false (by rw [hm]; simp)
      have d0n : decide (0 < m5.length) = false := decide_eq_false (by rw [hm]; simp)
      clear hr hx'
      go_wp2_with (first
       | (go_at_call 123; refine (here_g g A5 c5 e s m5 _ (by exact HR5.out) (by exact HP5.out)).mono ?_; rintro e3 w3 ⟨rfl, ⟨nd5, rfl⟩⟩; rw [← HY.out]))
      go_end0
      refine .inr ⟨_, HRR.out, rfl, s, ?_, ⟨A5, c5, Nat.zero_le _, by have h := HR5.out; rw [hm] at h; exact h, PG.nil _ _⟩, pw_below_drewN HB5.out _, keep_drewN HK5.out _⟩
      obtain ⟨g1, g2, g3, g4, g5, g6, g7⟩ := HTG.out
      exact ⟨g1, g2, g3, g4, g5, g6, by rw [hs]; exact own_nil _ _ _ _⟩
    · have HRR := Aside0.mk (hr.trans (end_left hx' hm))
      have d0 : decide ((0 : Int) < (m5.length : Int)) = true := decide_eq_true (by have : m5.length ≠ 0 := fun z => hm (List.eq_nil_of_length_eq_zero z); omega)
      have d0n : decide (0 < m5.length) = true := decide_eq_true (by have : m5.length ≠ 0 := fun z => hm (List.eq_nil_of_length_eq_zero z); omega)
      clear hr hx'
      go_wp2_with (first
       | (go_at_call 123; refine (here_g g A5 c5 e s m5 _ (by exact HR5.out) (by exact HP5.out)).mono ?_; rintro e3 w3 ⟨rfl, ⟨nd5, rfl⟩⟩; rw [← HY.out])
       | (go_at_call 133; refine (stop_g g A5 c5 e s m5 w0 _ (by exact pw_below_drewN HB5.out _) (by exact HR5.out) (by exact HP5.out)).mono ?_; rintro e3 V8 hbad; have HBad := Aside0.mk (hbad.after (keep_drewN HK5.out _)); clear hbad; obtain ⟨p, he3, -⟩ := HBad.out; subst he3))
      exact ⟨rfl, .inl ⟨_, HRR.out, HBad.out⟩⟩
end Go.Proofs.YtpmcfckechjppaaGreatDoor.Ps
namespace Go.Proofs.YtpmcfckechjppaaGreatDoor.Ps
open Go.RowKit Go.Shelf Go.Proofs.YtpmcfckechjppaaGreatDoorW.PrintWords Go.Proofs.YtpmcfckechjppaaGreatDoorW.PrintLast Go.Proofs.YtpmcfckechjppaaGreatDoor.P Go.Proofs.YtpmcfckechjppaaGreatDoor.LikW
attribute [local go_sem] Oper.semAt_some
set_option linter.unusedVariables false
set_option linter.unusedSimpArgs false
set_option maxRecDepth 100000
set_option maxHeartbeats 8000000
theorem parse1_caught (n : Nat) (bt be pf : Nat) (w : World) (hT : w.heap[bt]? = some (.cells #[.string ⟨#[]⟩, .slice none 0 0, .string ⟨#[]⟩, .string ⟨#[]⟩, .slice none 0 0, .slice none 0 0, .slice none 0 0, .string ⟨#[]⟩] 33 (0, 0))) (hE : w.heap[be]? = some (.cells #[.nilIface] 55 (0, 0))) :
 CallsDIn Fence.wide n Tryz.prog 64 #[.pointer (some ⟨bt, 0, none⟩), .pointer (some ⟨be, 0, none⟩)] (.panicking [{ v := wrongV pf, recovered := false }]) w fun e u' w' => e = .returned (.tuple #[]) ∧ u' = .panicking [{ v := wrongV pf, recovered := true }] ∧
  w'.heap[bt]? = some (.cells #[.string ⟨#[]⟩, .slice none 0 0, .string ⟨#[]⟩, .string ⟨#[]⟩, .slice none 0 0, .slice none 0 0, .slice none 0 0, .string ⟨#[]⟩] 33 (0, 0)) ∧ w'.heap[be]? = some (.cells #[.iface 105 (.pointer (some ⟨pf, 0, none⟩))] 55 (0, 0)) ∧ (∀ k, k < w.heap.size → k ≠ bt → k ≠ be → w'.heap[k]? = w.heap[k]?) ∧ (∀ b w0, b ≤ bt → b ≤ be → b ≤ w.heap.size → Below b w0 w → Below b w0 w') := by
 have hta : ∀ W : World, (Instr.typeAssert (wrongV pf) 20 94 true).run Tryz.prog W = .ok (.tuple #[.agg #[.iface 105 (.pointer (some ⟨pf, 0, none⟩))], .bool true]) W := fun W => by kernel_rfl
 have hne : bt ≠ be := fun e => by subst e; rw [hT] at hE; cases hE
 have hbt := (Array.getElem?_eq_some_iff.1 hT).1
 have hbe := (Array.getElem?_eq_some_iff.1 hE).1
 have hlf : Aside0 (w.heap[bt]? = some (.cells #[.string ⟨#[]⟩, .slice none 0 0, .string ⟨#[]⟩, .string ⟨#[]⟩, .slice none 0 0, .slice none 0 0, .slice none 0 0, .string ⟨#[]⟩] 33 (0, 0))) := ⟨hT⟩
 have hlg : Aside0 (w.heap[be]? = some (.cells #[.nilIface] 55 (0, 0))) := ⟨hE⟩
 clear hT hE
 refine callsDIn_of_wpSIn Tryz.func64 rfl trivial fun c₀ cs hu => ?_
 apply wpSIn_seq
 apply wpSIn_region
 simp [wpOpsSIn, go_sem, recoverD, hu, hta, Tryz.ntmps64, Exit.thenS]
 apply wpSIn_seq
 refine wpSIn_of_wpIn rfl ?_
 simp only [Array.replicate_succ, Array.replicate_zero, List.push_toArray, List.nil_append, List.cons_append, List.setIfInBounds_toArray, List.set_cons_succ, List.set_cons_zero, List.append_toArray]
 gi_wp2
 simp only [Exit.thenS]
 refine wpSIn_cond (t := true) (by simp [Act.eval]) ?_
 simp only [if_true]
 obtain ⟨W0, hW0⟩ : ∃ W0, W0 = w.alloc (.cells #[.iface 105 (.pointer (some ⟨pf, 0, none⟩))] 94) := ⟨_, rfl⟩
 have KT : Aside0 (W0.heap[bt]? = some (.cells #[.string ⟨#[]⟩, .slice none 0 0, .string ⟨#[]⟩, .string ⟨#[]⟩, .slice none 0 0, .slice none 0 0, .slice none 0 0, .string ⟨#[]⟩] 33 (0, 0))) := ⟨by rw [hW0]; exact aN hlf.out⟩
 have KE : Aside0 (W0.heap[be]? = some (.cells #[.nilIface] 55 (0, 0))) := ⟨by rw [hW0]; exact aN hlg.out⟩
 have KW : Aside0 (W0.heap[w.heap.size]? = some (.cells #[.iface 105 (.pointer (some ⟨pf, 0, none⟩))] 94 (0, 0))) := ⟨by rw [hW0]; exact aZ rfl⟩
 have HO : Aside0 (∀ k, k < w.heap.size → W0.heap[k]? = w.heap[k]?) := ⟨fun k hk => by rw [hW0]; exact (below_alloc (Below.refl w.heap.size w) _).block k hk⟩
 have HB : Aside0 (∀ b w0, b ≤ w.heap.size → Below b w0 w → Below b w0 W0) := ⟨fun b w0 hb h => by rw [hW0]; exact h.alloc hb _⟩
 rw [← hW0]
 have HWS : Aside0 (w.heap.size < W0.heap.size) := ⟨by rw [hW0]; simp⟩
 clear hW0
 refine wpSIn_of_wpIn rfl (wpIn_wide.2 ?_)
 refine start_ (n := 5) (S := fun w' => w'.cell? ⟨w.heap.size, 0, none⟩ = some (.iface 105 (.pointer (some ⟨pf, 0, none⟩)))) (ds := [4]) (M 5 0) (by kernel_rfl) rfl rfl ((blk_cell (w := W0.drew) KW.out 0).trans rfl) (fun hHeld => ?_)
 obtain ⟨W1, hW1⟩ : ∃ W1, W1 = W0.drew := ⟨_, rfl⟩
 rw [← hW1] at hHeld ⊢
 replace KT : Aside0 (W1.heap[bt]? = some (.cells #[.string ⟨#[]⟩, .slice none 0 0, .string ⟨#[]⟩, .string ⟨#[]⟩, .slice none 0 0, .slice none 0 0, .slice none 0 0, .string ⟨#[]⟩] 33 (0, 0))) := by rw [hW1]; exact KT
 replace KE : Aside0 (W1.heap[be]? = some (.cells #[.nilIface] 55 (0, 0))) := by rw [hW1]; exact KE
 replace KW : Aside0 (W1.heap[w.heap.size]? = some (.cells #[.iface 105 (.pointer (some ⟨pf, 0, none⟩))] 94 (0, 0))) := by rw [hW1]; exact KW
 replace HO : Aside0 (∀ k, k < w.heap.size → W1.heap[k]? = w.heap[k]?) := by rw [hW1]; exact HO
 replace HB : Aside0 (∀ b w0, b ≤ w.heap.size → Below b w0 w → Below b w0 W1) := ⟨fun b w0 hb h => by rw [hW1]; exact below_drew1 (HB.out b w0 hb h)⟩
 clear hW1
 refine pw 0 10 (M 5 1) ?_
 refine pw 1 11 (M 5 3) ?_
 refine tw 2 12 (M 5 7) hHeld ?_
 refine ow 3 (none) (M 5 15) fun K hK => ?_
 refine put_step (g := bt) (off := 0) (cur := #[.string ⟨#[]⟩, .slice none 0 0, .string ⟨#[]⟩, .string ⟨#[]⟩, .slice none 0 0, .slice none 0 0, .slice none 0 0, .string ⟨#[]⟩]) (new := #[.string ⟨#[]⟩, .slice none 0 0, .string ⟨#[]⟩, .string ⟨#[]⟩, .slice none 0 0, .slice none 0 0, .slice none 0 0, .string ⟨#[]⟩]) (seg := [.string ⟨#[]⟩, .slice none 0 0, .string ⟨#[]⟩, .string ⟨#[]⟩, .slice none 0 0, .slice none 0 0, .slice none 0 0, .string ⟨#[]⟩]) (u := .agg #[.string ⟨#[]⟩, .slice none 0 0, .string ⟨#[]⟩, .string ⟨#[]⟩, .slice none 0 0, .slice none 0 0, .slice none 0 0, .string ⟨#[]⟩]) rfl rfl rfl rfl rfl rfl (by rfl) (by kernel_rfl) rfl rfl (Nat.le_of_ble_eq_true rfl) KT.out ?_
 intro W4 hk1 hp1
 have KT2 := Aside0.mk hk1
 have KE2 := kp KE hp1 (Ne.symm hne)
 have KW2 := kp KW hp1 (by omega)
 have HP1 := Aside0.mk hp1
 clear hk1 hp1
 refine hK.out _ _ ((blk_cell KW2.out 0).trans rfl) (fun hHeld => ?_)
 clear hK K
 refine last_ (i := 4) (N := none) (M 5 31) rfl rfl (by kernel_rfl) (by decide) (fun K hK => ?_)
 refine put_step (g := be) (off := 0) (cur := #[.nilIface]) (new := #[.iface 105 (.pointer (some ⟨pf, 0, none⟩))]) (seg := [.iface 105 (.pointer (some ⟨pf, 0, none⟩))]) (u := .iface 105 (.pointer (some ⟨pf, 0, none⟩))) rfl rfl rfl rfl rfl rfl (by rfl) (by kernel_rfl) rfl rfl (Nat.le_of_ble_eq_true rfl) KE2.out ?_
 intro W5 hk2 hp2
 refine hK.out _ _ ?_
 clear hK K
 refine done_ (by kernel_rfl) ?_
 have hend : W5.heap[bt]? = some (.cells #[.string ⟨#[]⟩, .slice none 0 0, .string ⟨#[]⟩, .string ⟨#[]⟩, .slice none 0 0, .slice none 0 0, .slice none 0 0, .string ⟨#[]⟩] 33 (0, 0)) := (hp2.far bt hne).trans KT2.out
 refine ⟨by rfl, _, rfl, .tuple #[], by simp [results, Tryz.results64], rfl, rfl, hend, hk2, fun k hk h1 h2 => ?_, fun b w0 h1 h2 h3 hb => ?_⟩
 · exact (hp2.far k h2).trans ((HP1.out.far k h1).trans (HO.out k hk))
 · exact Put.below hp2 (Put.below HP1.out (HB.out b w0 h3 hb) h1) h2
end Go.Proofs.YtpmcfckechjppaaGreatDoor.Ps
