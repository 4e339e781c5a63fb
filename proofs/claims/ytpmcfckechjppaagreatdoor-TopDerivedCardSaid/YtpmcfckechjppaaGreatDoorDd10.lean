/- Made by a program of this seat's own (shake.py, merge.py): what the claim leans on: Derv, Caught, ParseG, LowT, CaseLow, SubG, Place, LowerG, RowS, Spoilt06. -/
import Derived.Test.YtpmcfckechjppaaGreatDoorDd09
import Derived.Deep.CutRange
import Derived.Deep.CutBlock
set_option linter.unusedVariables false
set_option linter.unusedSimpArgs false
set_option maxRecDepth 100000
set_option maxHeartbeats 8000000
namespace Go.Proofs.YtpmcfckechjppaaGreatDoor.Ps
open Go.RowKit Go.Shelf Go.Proofs.YtpmcfckechjppaaGreatDoorW.PrintWords Go.Proofs.YtpmcfckechjppaaGreatDoorW.PrintLast Go.Proofs.YtpmcfckechjppaaGreatDoorW.PrintMore Go.Proofs.YtpmcfckechjppaaGreatDoor.P Go.Proofs.YtpmcfckechjppaaGreatDoor.LikW
open Go.Proofs.YtpmcfckechjppaaGreatDoor.Each Go.Proofs.YtpmcfckechjppaaGreatDoor.Base Go.Proofs.YtpmcfckechjppaaGreatDoor.Pure
theorem z2u (s : ByteArray) (hs : s.size ≤ 900000) (w : World) : Calls Tryz.prog 27 #[.string s] w fun e w' => e = .returned (.int .i64 (bN (z5m (q5r (q5p s))))) ∧ Below w.heap.size w w' := by
 have hls : (q5p s).size ≤ 900000 := by rw [q8i]; exact hs
 obtain ⟨kl, hl⟩ := z0j s (by omega)
 obtain ⟨ks, hk⟩ := z2t (q5p s) hls
 have hlen := z1c (q5p s)
 have hsz := q9o (q5p s)
 obtain ⟨p, l, hpl⟩ := q8k (q5p s)
 have HL := aq (fun W => q0o.calls kl s (q5p s) W (hl kl (Nat.le_refl _)))
 have HK := aq (fun W => q0v.calls ks (q5p s) _ W (hk ks (Nat.le_refl _)))
 generalize q5r (q5p s) = L at *
 have hdr : L.drop (1 : Int).toNat = l := by rw [hpl]; rfl
 clear hl hk
 have ix := j0z p
 have hp0 : L[0]? = some p := by rw [hpl]; rfl
 have hps : p.size ≤ 900000 := Nat.le_trans (hsz p (by rw [hpl]; exact List.mem_cons_self)) hls
 have hsl := aq (fun y (hy : y ∈ l) => Nat.le_trans (hsz y (by rw [hpl]; exact List.mem_cons_of_mem _ hy)) hls)
 have hll : 0 + l.length ≤ 1000000 := by rw [hpl] at hlen; simp only [List.length_cons] at hlen; omega
 have hpos : (0 < (L.length : Int)) = True := eq_true (by rw [hpl]; simp only [List.length_cons]; omega)
 have hpos2 : (0 < L.length) = True := eq_true (by rw [hpl]; simp)
 clear hlen hsz
 by_cases hx : p = xB
 · have hv : z5m L = q2q l 7 0 0 := by rw [hpl, z5m, if_pos hx]
   have HV := aq hv
   rw [decide_eq_true hx] at ix
   clear hv hx hpl
   go_enter Tryz.func27, Tryz.ntmps27
   go_wp2_with (first
    | (go_at_call 29; refine (HL.out _).mono ?_; rintro e w1 ⟨rfl, hb⟩; have B0 := aq hb; clear hb)
    | (go_at_call 46; refine (HK.out _).mono ?_; rintro e w2 ⟨v, rfl, ho, hb⟩; obtain ⟨A, c, rfl, hc, hC⟩ := Kd.q6o ho; obtain ⟨ad, e, _⟩ := Kd.q2o hC (0 : Int) (by omega) (of_eq_true hpos); subst e; have hx0 := q8e hC rfl hp0; rw [show ad.add 0 = ad from by unfold Addr.add; simp] at hx0; obtain ⟨i9, hi9, _, hsz9, _⟩ := info_parts v5m; obtain ⟨A', hcut, hA', hC'⟩ := q6i (P := Tryz.prog) Value.string ⟨#[]⟩ 26 9 .i64 Tryz.underlying26 hi9 hsz9 (some ad) c L 1 (by omega) (by have := of_eq_true hpos; omega) hc; rw [hdr] at hcut hA' hC'; have HT : q0c (Kd.C Kd.string w2 A' l.length l) := ⟨Kd.q8w (h1 := fun _ => rfl) (hA' _ (Kd.q6l hC))⟩; have HTc : q0c (l.length ≤ c - 1) := ⟨hC'⟩; have hcut2 : ∀ W : World, (Instr.slice 26 (.slice (some ad) L.length c) (some (.int .i64 1)) none none).run Tryz.prog W = .ok (.slice A' l.length (c - 1)) W := hcut; have HW := aq (fun (last long : Nat) (h8 : last ≤ 8) W (hW : Below w2.heap.size w2 W) => v2t l A' (c - 1) last 0 long W h8 (by omega) hsl.out (Kd.q0h HT.out hW) HTc.out); replace B0 := bb B0 hb; clear hb ho hc hC hcut hA' hC' hi9 hsz9)
    | (go_at_call 66; refine (HW.out 7 0 (by decide) _ (Below.refl _ _)).mono ?_; rintro e w3 ⟨rfl, hb⟩; replace B0 := bb B0 hb; clear hb))
   go_ret
   exact ⟨by rw [HV.out]; rfl, B0.out⟩
 · rw [decide_eq_false hx] at ix
   have HM := aq (fun W => k8x p hps 0 (by decide) W)
   by_cases hlg : q2t p = true
   · have hv : z5m L = q2q l 0 0 p.size := by rw [hpl, z5m, if_neg hx, if_pos hlg]
     have HV := aq hv
     have hm : k2o p 0 = true := hlg
     rw [hm] at HM
     clear hv hx hlg hm hpl
     go_enter Tryz.func27, Tryz.ntmps27
     go_wp2_with (first
      | (go_at_call 29; refine (HL.out _).mono ?_; rintro e w1 ⟨rfl, hb⟩; have B0 := aq hb; clear hb)
      | (go_at_call 46; refine (HK.out _).mono ?_; rintro e w2 ⟨v, rfl, ho, hb⟩; obtain ⟨A, c, rfl, hc, hC⟩ := Kd.q6o ho; obtain ⟨ad, e, _⟩ := Kd.q2o hC (0 : Int) (by omega) (of_eq_true hpos); subst e; have hx0 := q8e hC rfl hp0; rw [show ad.add 0 = ad from by unfold Addr.add; simp] at hx0; obtain ⟨i9, hi9, _, hsz9, _⟩ := info_parts v5m; obtain ⟨A', hcut, hA', hC'⟩ := q6i (P := Tryz.prog) Value.string ⟨#[]⟩ 26 9 .i64 Tryz.underlying26 hi9 hsz9 (some ad) c L 1 (by omega) (by have := of_eq_true hpos; omega) hc; rw [hdr] at hcut hA' hC'; have HT : q0c (Kd.C Kd.string w2 A' l.length l) := ⟨Kd.q8w (h1 := fun _ => rfl) (hA' _ (Kd.q6l hC))⟩; have HTc : q0c (l.length ≤ c - 1) := ⟨hC'⟩; have hcut2 : ∀ W : World, (Instr.slice 26 (.slice (some ad) L.length c) (some (.int .i64 1)) none none).run Tryz.prog W = .ok (.slice A' l.length (c - 1)) W := hcut; have HW := aq (fun (last long : Nat) (h8 : last ≤ 8) W (hW : Below w2.heap.size w2 W) => v2t l A' (c - 1) last 0 long W h8 (by omega) hsl.out (Kd.q0h HT.out hW) HTc.out); replace B0 := bb B0 hb; clear hb ho hc hC hcut hA' hC' hi9 hsz9)
      | (go_at_call 67; refine (HM.out _).mono ?_; rintro e w3 ⟨rfl, hb⟩; have hx1 := (hb.cell (World.block_lt_of_cell? _ _ hx0)).trans hx0; have HW0 := aq (fun W (hW : Below w3.heap.size w3 W) => HW.out 0 p.size (by decide) W (hb.trans (hW.mono hb.size))); replace B0 := bb B0 hb; clear hb hx0; have hx0 := hx1; clear hx1))
     refine q2w (n := 8) (S := fun w' => w'.cell? ad = some (.string p)) (ds := []) (M 8 0) (by kernel_rfl) rfl rfl (hx0) (fun hHeld => ?_)
     obtain ⟨W3, hW3⟩ : ∃ W, W = w3.drew := ⟨_, rfl⟩
     have B2 : q0c (Below w3.heap.size w3 W3) := ⟨by rw [hW3]; exact q0m (Below.refl _ _)⟩
     rw [← hW3] at hHeld ⊢
     clear hW3
     replace hx0 : W3.cell? ad = some (.string p) := hHeld
     refine pw 0 21 (M 8 1) ?_
     refine pw 1 22 (M 8 3) ?_
     refine pw 2 23 (M 8 7) ?_
     refine pw 3 24 (M 8 15) ?_
     refine tw 4 25 (M 8 31) hHeld ?_
     refine pw 5 26 (M 8 63) ?_
     refine ow 6 (some 27) (M 8 127) fun K hK => ?_
     refine gow Tryz.func66 #[.slice A' l.length (c - 1), .int .i64 ((0 : Nat) : Int), .int .i64 ((0 : Nat) : Int), .int .i64 (p.size : Int)] ?_
     with_reducible refine (HW0.out W3 (B2.out)).mono ?_
     rintro e W4 ⟨rfl, hb⟩
     refine ⟨_, rfl, ?_⟩
     replace B0 := bb B0 (B2.out.trans (hb.mono B2.out.size))
     replace hx0 := (hb.cell (World.block_lt_of_cell? _ _ hx0)).trans hx0
     clear hb
     refine hK.out _ _ (hx0) (fun hHeld => ?_)
     clear hK K
     refine nw 27 ?_
     refine pw 7 2 (M 8 255) ?_
     refine q4t (by kernel_rfl) ?_
     go_wp2
     go_ret
     exact ⟨by rw [HV.out]; rfl, B0.out⟩
   · have hv : z5m L = false := by rw [hpl, z5m, if_neg hx, if_neg hlg]
     have HV := aq hv
     have hm : k2o p 0 = false := by have : k2o p 0 = q2t p := rfl; rw [this]; exact Bool.eq_false_iff.2 hlg
     rw [hm] at HM
     clear hv hx hlg hm hpl
     go_enter Tryz.func27, Tryz.ntmps27
     go_wp2_with (first
      | (go_at_call 29; refine (HL.out _).mono ?_; rintro e w1 ⟨rfl, hb⟩; have B0 := aq hb; clear hb)
      | (go_at_call 46; refine (HK.out _).mono ?_; rintro e w2 ⟨v, rfl, ho, hb⟩; obtain ⟨A, c, rfl, hc, hC⟩ := Kd.q6o ho; obtain ⟨ad, e, _⟩ := Kd.q2o hC (0 : Int) (by omega) (of_eq_true hpos); subst e; have hx0 := q8e hC rfl hp0; rw [show ad.add 0 = ad from by unfold Addr.add; simp] at hx0; obtain ⟨i9, hi9, _, hsz9, _⟩ := info_parts v5m; obtain ⟨A', hcut, hA', hC'⟩ := q6i (P := Tryz.prog) Value.string ⟨#[]⟩ 26 9 .i64 Tryz.underlying26 hi9 hsz9 (some ad) c L 1 (by omega) (by have := of_eq_true hpos; omega) hc; rw [hdr] at hcut hA' hC'; have HT : q0c (Kd.C Kd.string w2 A' l.length l) := ⟨Kd.q8w (h1 := fun _ => rfl) (hA' _ (Kd.q6l hC))⟩; have HTc : q0c (l.length ≤ c - 1) := ⟨hC'⟩; have hcut2 : ∀ W : World, (Instr.slice 26 (.slice (some ad) L.length c) (some (.int .i64 1)) none none).run Tryz.prog W = .ok (.slice A' l.length (c - 1)) W := hcut; have HW := aq (fun (last long : Nat) (h8 : last ≤ 8) W (hW : Below w2.heap.size w2 W) => v2t l A' (c - 1) last 0 long W h8 (by omega) hsl.out (Kd.q0h HT.out hW) HTc.out); replace B0 := bb B0 hb; clear hb ho hc hC hcut hA' hC' hi9 hsz9)
      | (go_at_call 67; refine (HM.out _).mono ?_; rintro e w3 ⟨rfl, hb⟩; replace B0 := bb B0 hb; clear hb hx0))
     go_ret
     exact ⟨by rw [HV.out]; rfl, B0.out⟩
end Go.Proofs.YtpmcfckechjppaaGreatDoor.Ps
namespace Go.Proofs.YtpmcfckechjppaaGreatDoor.Ps
open Go.RowKit Go.Shelf Go.Proofs.YtpmcfckechjppaaGreatDoorW.PrintWords Go.Proofs.YtpmcfckechjppaaGreatDoorW.PrintLast Go.Proofs.YtpmcfckechjppaaGreatDoor.P Go.Proofs.YtpmcfckechjppaaGreatDoor.LikW
attribute [local go_sem] Oper.semAt_some
theorem z7i (n : Nat) (bt be pf : Nat) (w : World) (hT : w.heap[bt]? = some (.cells #[.string ⟨#[]⟩, .slice none 0 0, .string ⟨#[]⟩, .string ⟨#[]⟩, .slice none 0 0, .slice none 0 0, .slice none 0 0, .string ⟨#[]⟩] 33 (0, 0))) (hE : w.heap[be]? = some (.cells #[.nilIface] 55 (0, 0))) :
 CallsDIn Fence.wide n Tryz.prog 64 #[.pointer (some ⟨bt, 0, none⟩), .pointer (some ⟨be, 0, none⟩)] (.panicking [{ v := z9t pf, recovered := false }]) w fun e u' w' => e = .returned (.tuple #[]) ∧ u' = .panicking [{ v := z9t pf, recovered := true }] ∧
  w'.heap[bt]? = some (.cells #[.string ⟨#[]⟩, .slice none 0 0, .string ⟨#[]⟩, .string ⟨#[]⟩, .slice none 0 0, .slice none 0 0, .slice none 0 0, .string ⟨#[]⟩] 33 (0, 0)) ∧ w'.heap[be]? = some (.cells #[.iface 105 (.pointer (some ⟨pf, 0, none⟩))] 55 (0, 0)) ∧ (∀ k, k < w.heap.size → k ≠ bt → k ≠ be → w'.heap[k]? = w.heap[k]?) ∧ (∀ b w0, b ≤ bt → b ≤ be → b ≤ w.heap.size → Below b w0 w → Below b w0 w') := by
 have hta : ∀ W : World, (Instr.typeAssert (z9t pf) 20 94 true).run Tryz.prog W = .ok (.tuple #[.agg #[.iface 105 (.pointer (some ⟨pf, 0, none⟩))], .bool true]) W := fun W => by kernel_rfl
 have hne : bt ≠ be := fun e => by subst e; rw [hT] at hE; cases hE
 have hbt := (Array.getElem?_eq_some_iff.1 hT).1
 have hbe := (Array.getElem?_eq_some_iff.1 hE).1
 have hlf : q0c (w.heap[bt]? = some (.cells #[.string ⟨#[]⟩, .slice none 0 0, .string ⟨#[]⟩, .string ⟨#[]⟩, .slice none 0 0, .slice none 0 0, .slice none 0 0, .string ⟨#[]⟩] 33 (0, 0))) := ⟨hT⟩
 have hlg : q0c (w.heap[be]? = some (.cells #[.nilIface] 55 (0, 0))) := ⟨hE⟩
 clear hT hE
 refine callsDIn_of_wpSIn Tryz.func64 rfl trivial fun c₀ cs hu => ?_
 apply wpSIn_seq
 apply wpSIn_region
 simp [wpOpsSIn, go_sem, recoverD, hu, hta, Tryz.ntmps64, Exit.thenS]
 apply wpSIn_seq
 refine wpSIn_of_wpIn rfl ?_
 simp only [Array.replicate_succ, Array.replicate_zero, List.push_toArray, List.nil_append, List.cons_append, List.setIfInBounds_toArray, List.set_cons_succ, List.set_cons_zero, List.append_toArray]
 gi_wp2
 simp only [Exit.thenS]
 refine wpSIn_cond (t := true) (by simp [Act.eval]) ?_
 simp only [if_true]
 obtain ⟨W0, hW0⟩ : ∃ W0, W0 = w.alloc (.cells #[.iface 105 (.pointer (some ⟨pf, 0, none⟩))] 94) := ⟨_, rfl⟩
 have KT : q0c (W0.heap[bt]? = some (.cells #[.string ⟨#[]⟩, .slice none 0 0, .string ⟨#[]⟩, .string ⟨#[]⟩, .slice none 0 0, .slice none 0 0, .slice none 0 0, .string ⟨#[]⟩] 33 (0, 0))) := ⟨by rw [hW0]; exact aN hlf.out⟩
 have KE : q0c (W0.heap[be]? = some (.cells #[.nilIface] 55 (0, 0))) := ⟨by rw [hW0]; exact aN hlg.out⟩
 have KW : q0c (W0.heap[w.heap.size]? = some (.cells #[.iface 105 (.pointer (some ⟨pf, 0, none⟩))] 94 (0, 0))) := ⟨by rw [hW0]; exact aZ rfl⟩
 have HO : q0c (∀ k, k < w.heap.size → W0.heap[k]? = w.heap[k]?) := ⟨fun k hk => by rw [hW0]; exact (q0b (Below.refl w.heap.size w) _).block k hk⟩
 have HB : q0c (∀ b w0, b ≤ w.heap.size → Below b w0 w → Below b w0 W0) := ⟨fun b w0 hb h => by rw [hW0]; exact h.alloc hb _⟩
 rw [← hW0]
 have HWS : q0c (w.heap.size < W0.heap.size) := ⟨by rw [hW0]; simp⟩
 clear hW0
 refine wpSIn_of_wpIn rfl (wpIn_wide.2 ?_)
 refine q2w (n := 5) (S := fun w' => w'.cell? ⟨w.heap.size, 0, none⟩ = some (.iface 105 (.pointer (some ⟨pf, 0, none⟩)))) (ds := [4]) (M 5 0) (by kernel_rfl) rfl rfl ((q0a (w := W0.drew) KW.out 0).trans rfl) (fun hHeld => ?_)
 obtain ⟨W1, hW1⟩ : ∃ W1, W1 = W0.drew := ⟨_, rfl⟩
 rw [← hW1] at hHeld ⊢
 replace KT : q0c (W1.heap[bt]? = some (.cells #[.string ⟨#[]⟩, .slice none 0 0, .string ⟨#[]⟩, .string ⟨#[]⟩, .slice none 0 0, .slice none 0 0, .slice none 0 0, .string ⟨#[]⟩] 33 (0, 0))) := by rw [hW1]; exact KT
 replace KE : q0c (W1.heap[be]? = some (.cells #[.nilIface] 55 (0, 0))) := by rw [hW1]; exact KE
 replace KW : q0c (W1.heap[w.heap.size]? = some (.cells #[.iface 105 (.pointer (some ⟨pf, 0, none⟩))] 94 (0, 0))) := by rw [hW1]; exact KW
 replace HO : q0c (∀ k, k < w.heap.size → W1.heap[k]? = w.heap[k]?) := by rw [hW1]; exact HO
 replace HB : q0c (∀ b w0, b ≤ w.heap.size → Below b w0 w → Below b w0 W1) := ⟨fun b w0 hb h => by rw [hW1]; exact q0m (HB.out b w0 hb h)⟩
 clear hW1
 refine pw 0 10 (M 5 1) ?_
 refine pw 1 11 (M 5 3) ?_
 refine tw 2 12 (M 5 7) hHeld ?_
 refine ow 3 (none) (M 5 15) fun K hK => ?_
 refine q2d (g := bt) (off := 0) (cur := #[.string ⟨#[]⟩, .slice none 0 0, .string ⟨#[]⟩, .string ⟨#[]⟩, .slice none 0 0, .slice none 0 0, .slice none 0 0, .string ⟨#[]⟩]) (new := #[.string ⟨#[]⟩, .slice none 0 0, .string ⟨#[]⟩, .string ⟨#[]⟩, .slice none 0 0, .slice none 0 0, .slice none 0 0, .string ⟨#[]⟩]) (seg := [.string ⟨#[]⟩, .slice none 0 0, .string ⟨#[]⟩, .string ⟨#[]⟩, .slice none 0 0, .slice none 0 0, .slice none 0 0, .string ⟨#[]⟩]) (u := .agg #[.string ⟨#[]⟩, .slice none 0 0, .string ⟨#[]⟩, .string ⟨#[]⟩, .slice none 0 0, .slice none 0 0, .slice none 0 0, .string ⟨#[]⟩]) rfl rfl rfl rfl rfl rfl (by rfl) (by kernel_rfl) rfl rfl (Nat.le_of_ble_eq_true rfl) KT.out ?_
 intro W4 hk1 hp1
 have KT2 := aq hk1
 have KE2 := kp KE hp1 (Ne.symm hne)
 have KW2 := kp KW hp1 (by omega)
 have HP1 := aq hp1
 clear hk1 hp1
 refine hK.out _ _ ((q0a KW2.out 0).trans rfl) (fun hHeld => ?_)
 clear hK K
 refine z3g (i := 4) (N := none) (M 5 31) rfl rfl (by kernel_rfl) (by decide) (fun K hK => ?_)
 refine q2d (g := be) (off := 0) (cur := #[.nilIface]) (new := #[.iface 105 (.pointer (some ⟨pf, 0, none⟩))]) (seg := [.iface 105 (.pointer (some ⟨pf, 0, none⟩))]) (u := .iface 105 (.pointer (some ⟨pf, 0, none⟩))) rfl rfl rfl rfl rfl rfl (by rfl) (by kernel_rfl) rfl rfl (Nat.le_of_ble_eq_true rfl) KE2.out ?_
 intro W5 hk2 hp2
 refine hK.out _ _ ?_
 clear hK K
 refine q4t (by kernel_rfl) ?_
 have hend : W5.heap[bt]? = some (.cells #[.string ⟨#[]⟩, .slice none 0 0, .string ⟨#[]⟩, .string ⟨#[]⟩, .slice none 0 0, .slice none 0 0, .slice none 0 0, .string ⟨#[]⟩] 33 (0, 0)) := (hp2.far bt hne).trans KT2.out
 refine ⟨by rfl, _, rfl, .tuple #[], by simp [results, Tryz.results64], rfl, rfl, hend, hk2, fun k hk h1 h2 => ?_, fun b w0 h1 h2 h3 hb => ?_⟩
 · exact (hp2.far k h2).trans ((HP1.out.far k h1).trans (HO.out k hk))
 · exact Put.below hp2 (Put.below HP1.out (HB.out b w0 h3 hb) h1) h2
theorem z9n {W : World} {base base' n size : Nat} {e : TypeId} {v : Value} {xs : List Value} (h : W.ownsRow base e size v n xs) (hb : base' ≤ base) : W.ownsRow base' e size v n xs := by
 obtain ⟨hk, h | ⟨g, cap, cur, e1, h1, h⟩⟩ := h
 · exact ⟨hk, .inl h⟩
 · exact ⟨hk, .inr ⟨g, cap, cur, e1, Nat.le_trans hb h1, h⟩⟩
theorem z8k {W W1 : World} {base n size : Nat} {e : TypeId} {v : Value} {xs : List Value} (h : W.ownsRow base e size v n xs) (hm : ∀ (k : Nat) cs ty, base ≤ k → W.heap[k]? = some (.cells cs ty (0, 0)) → W1.heap[k]? = W.heap[k]?) : W1.ownsRow base e size v n xs :=
 q2j h fun k hv => by
  obtain ⟨cur, hc⟩ := z3f h k hv
  exact hm k _ _ (q5i h k hv) hc
theorem z5b.lo {W : World} {base base' : Nat} {s : RS} {t : z4j} (h : z5b W base s t) (hb : base' ≤ base) : z5b W base' s t := by
 obtain ⟨h1, h2, h3, h4, h5, ⟨xs, h6, h7⟩, h8⟩ := h
 exact ⟨h1, h2, h3, z9n h4 hb, z9n h5 hb, ⟨xs, h6, z9n h7.1 hb, fun x hx => z9n (h7.2 x hx) hb⟩, z9n h8 hb⟩
theorem z5b.mv {W W1 : World} {base : Nat} {s : RS} {t : z4j} (h : z5b W base s t) (hm : ∀ (k : Nat) cs ty, base ≤ k → W.heap[k]? = some (.cells cs ty (0, 0)) → W1.heap[k]? = W.heap[k]?) : z5b W1 base s t := by
 obtain ⟨h1, h2, h3, h4, h5, ⟨xs, h6, h7⟩, h8⟩ := h
 exact ⟨h1, h2, h3, z8k h4 hm, z8k h5 hm, ⟨xs, h6, z8k h7.1 hm, fun x hx => z8k (h7.2 x hx) hm⟩, z8k h8 hm⟩
def tagV (s : RS) : Value := .agg #[.string s.lang, s.vE, .string s.scr, .string s.reg, s.vV, s.vX, s.vR, .string ⟨#[]⟩]
def j1b : Value := .agg #[.string ⟨#[]⟩, .slice none 0 0, .string ⟨#[]⟩, .string ⟨#[]⟩, .slice none 0 0, .slice none 0 0, .slice none 0 0, .string ⟨#[]⟩]
def v6s (w : World) (r : Except (Int × Int) z4j) (e : Ending) (w' : World) : Prop := Below w.heap.size w w' ∧
 ((∃ t s, r = .ok t ∧ e = .returned (.tuple #[tagV s, .nilIface]) ∧ z5b w' w.heap.size s t) ∨ (∃ x p, r = .error x ∧ e = .returned (.tuple #[j1b, .iface 105 (.pointer (some ⟨p, 0, none⟩))]) ∧ q4v w' p x ∧ w.heap.size ≤ p))
theorem k9a {W : World} {R : Nat} {A : Option Addr} {c : Nat} {m : List Pc} (h : W.ownsRow R 92 2 (.slice A m.length c) m.length (q8s m)) : PG W A m ∧ m.length ≤ c := by
 obtain ⟨hl, ⟨e, e0⟩ | ⟨g, cap, cur, e, h1, h2, h3, h4, h5, h6⟩⟩ := h
 · have : m = [] := List.eq_nil_of_length_eq_zero e0
   subst this
   exact ⟨PG.nil _ _, Nat.zero_le _⟩
 · cases e
   refine ⟨fun i x hx => ?_, h3⟩
   obtain ⟨q1, q2⟩ := z3y m i x hx
   have hi := (List.getElem?_eq_some_iff.1 hx).1
   rw [← h6, List.getElem?_take, if_pos (by omega), Array.getElem?_toList] at q1 q2
   exact ⟨g, 0, cur, rfl, h2, by rw [Nat.zero_add]; exact q1, by rw [Nat.zero_add]; exact q2⟩
theorem k0i (k : Nat) (s : ByteArray) (hs : s.size ≤ 900000) (w : World) (hG : GrandW.G w) (i : Int) (hf : q0t.f k s = some (i, false)) (L : List Pc) (hl : v0k (q3e s) = some L) :
 Calls Tryz.prog 26 #[.string s] w fun e w' => v6s w (v0j s.size L) e w' := by
 have hmf : ∀ (fn : Fn) (first cap : Array Value) (w : World), (Instr.makeFunc fn first cap).run Tryz.prog w = .ok (.func fn first cap) w := fun _ _ _ _ => rfl
 have hmo : Tryz.prog.follows .mixedOrders = true := by kernel_rfl
 have HG := aq hG
 have HF := aq hf
 refine (callsIn_wide (n := 4)).1 ?_
 refine callsIn_of_wp_marks Tryz.func26 rfl trivial ?_ rfl
 simp only [Tryz.ntmps26, List.size_toArray, List.length_cons, List.length_nil, Nat.reduceAdd, Nat.reduceSub, Array.replicate_succ, Array.replicate_zero, List.push_toArray, List.append_toArray, List.nil_append, List.cons_append]
 gi_wp2_with (first
  | (refine ⟨trivial, ?_⟩; gi_at_call 61; refine (callsIn_wide.2 (q0t.calls k s i false _ HF.out (HG.out.below (by repeat (first | exact Below.refl _ _ | apply q0b))))).mono ?_; rintro e w1 ⟨rfl, hb1⟩)
  | (refine ⟨trivial, ?_⟩; gi_at_call 63; refine (v1q _ s _).mono ?_; rintro e w2 ⟨rfl, rfl⟩))
 have s1 := hb1.size
 have t1 : w1.heap[w.heap.size]? = some (.cells #[.string ⟨#[]⟩, .slice none 0 0, .string ⟨#[]⟩, .string ⟨#[]⟩, .slice none 0 0, .slice none 0 0, .slice none 0 0, .string ⟨#[]⟩] 33 (0, 0)) :=
  (hb1.block _ (by simp; omega)).trans (((q0b (Below.refl _ _) _).block _ (by simp)).trans (World.alloc_heap_new w _))
 have t2 : w1.heap[w.heap.size + 1]? = some (.cells #[.nilIface] 55 (0, 0)) := by
  refine (hb1.block _ (by simp)).trans ?_
  have := World.alloc_heap_new (w.alloc (.cells #[.string ⟨#[]⟩, .slice none 0 0, .string ⟨#[]⟩, .string ⟨#[]⟩, .slice none 0 0, .slice none 0 0, .slice none 0 0, .string ⟨#[]⟩] 33)) (.cells #[.nilIface] 55)
  simpa using this
 have B1 : Below w.heap.size w w1 := (q0b (q0b (Below.refl _ _) _) _).trans (hb1.mono (by simp; omega))
 obtain ⟨R, hR⟩ : ∃ R, R = w1.heap.size := ⟨_, rfl⟩
 obtain ⟨W0, hW0⟩ : ∃ W0, (((w1.alloc (.cells #[.slice none 0 0, .int .i64 (s.size : Int), .string ⟨#[]⟩, .slice none 0 0, .string ⟨#[]⟩, .string ⟨#[]⟩, .slice none 0 0, .slice none 0 0, .slice none 0 0, .string ⟨#[]⟩] 87)).alloc (.cells #[.pointer (some ⟨w1.heap.size, 0, none⟩)] 84)).alloc (.cells #[.string s] 9)) = W0 := ⟨_, rfl⟩
 have s0 : W0.heap.size = R + 3 := by rw [← hW0, hR]; simp
 have bR : W0.heap[R]? = some (.cells (rdv (.slice none 0 0) s.size) 87 (0, 0)) := by
  rw [← hW0, hR]
  exact ((q0b (q0b (Below.refl _ _) _) _).block _ (by simp)).trans (World.alloc_heap_new w1 _)
 have bQ : W0.heap[R + 1]? = some (.cells #[.pointer (some ⟨R, 0, none⟩)] 84 (0, 0)) := by
  rw [← hW0, hR]
  have := World.alloc_heap_new (w1.alloc (.cells #[.slice none 0 0, .int .i64 (s.size : Int), .string ⟨#[]⟩, .slice none 0 0, .string ⟨#[]⟩, .string ⟨#[]⟩, .slice none 0 0, .slice none 0 0, .slice none 0 0, .string ⟨#[]⟩] 87)) (.cells #[.pointer (some ⟨w1.heap.size, 0, none⟩)] 84)
  rw [World.size_alloc] at this
  exact ((q0b (Below.refl _ _) _).block _ (by simp)).trans this
 have bS : W0.heap[R + 2]? = some (.cells #[.string s] 9 (0, 0)) := by
  rw [← hW0, hR]
  have := World.alloc_heap_new ((w1.alloc (.cells #[.slice none 0 0, .int .i64 (s.size : Int), .string ⟨#[]⟩, .slice none 0 0, .string ⟨#[]⟩, .string ⟨#[]⟩, .slice none 0 0, .slice none 0 0, .slice none 0 0, .string ⟨#[]⟩] 87)).alloc (.cells #[.pointer (some ⟨w1.heap.size, 0, none⟩)] 84)) (.cells #[.string s] 9)
  rw [World.size_alloc, World.size_alloc] at this
  exact this
 have B0 : Below R w1 W0 := by rw [← hW0, hR]; exact q0b (q0b (q0b (Below.refl _ _) _) _) _
 rw [hW0, ← hR]
 have HRR := aq hR
 clear hW0 hR
 have HL := aq hl
 have T1 := aq t1
 have T2 := aq t2
 have HB1 := aq B1
 have HB0 := aq B0
 clear t1 t2 hb1 hl
 refine wpIn_rangeFunc_ownG rfl (by omega) (gf := 121) (lb := #[.pointer (some ⟨R + 1 + 1, 0, none⟩)]) rfl trivial (enters_of Tryz.func121 (by kernel_rfl) rfl)
  (z0v _ (by omega) (R + 1 + 1) s (by omega) W0 ((q0a bS 0).trans rfl)) KB.trans (fun W lw o o' _ h h1 _ => KB.put _ W lw o o' h h1) (Below.refl _ _) (fun _ => rfl)
  (fun (pre : List (q7v s)) W => ∃ v m, v0k (pre.map Subtype.val) = some m ∧ W.heap[R]? = some (.cells (rdv v s.size) 87 (0, 0)) ∧ W.ownsRow R 92 2 v m.length (q8s m) ∧ W.heap[R + 1]? = some (.cells #[.pointer (some ⟨R, 0, none⟩)] 84 (0, 0)) ∧ W.heap[R + 2]? = some (.cells #[.string s] 9 (0, 0)) ∧ Below R W0 W)
  (fun _ _ _ => False)
  (fun pre A B row ⟨v, m, i1, i2, i3, i4, i5, i6⟩ hg hr => ⟨v, m, i1, v8v i2 rfl hg (fun r e => (hr r e).2), j1j i3 hg (fun r e => (hr r e).2), v8v i4 rfl hg (fun r e => (hr r e).2), v8v i5 rfl hg (fun r e => (hr r e).2), i6.grown hg (by have := (Array.getElem?_eq_some_iff.1 i2).1; omega) (fun r e => by have := (hr r e).1; omega)⟩)
  (fun _ _ _ _ _ hs _ _ => hs)
  ⟨_, [], rfl, bR, q3a _ _ _ _, bQ, bS, Below.refl _ _⟩
  (fun x' : q7v s => let x := x'.1; { tmps := #[.string s, undef, .pointer (some ⟨w.heap.size, 0, none⟩), .pointer (some ⟨w.heap.size + 1, 0, none⟩), .int .i64 i, .bool false, .pointer (some ⟨R + 1, 0, none⟩), .int .i64 x.1, .string x.2, .tuple #[.int .i64 i, .bool false], .string s, .tuple #[.int .i64 i, .bool false], .int .i64 i, .bool false, .bool false, undef, undef, undef, .string s, .int .i64 (s.size : Int), .agg #[.slice none 0 0, .int .i64 (s.size : Int), .string ⟨#[]⟩, .slice none 0 0, .string ⟨#[]⟩, .string ⟨#[]⟩, .slice none 0 0, .slice none 0 0, .slice none 0 0, .string ⟨#[]⟩], .pointer (some ⟨R, 0, none⟩), .string s, .func (.func 121) #[] #[.pointer (some ⟨R + 1 + 1, 0, none⟩)], .int .i64 x.1, .string x.2, undef, undef, undef, undef, undef, undef, undef, undef, undef, undef, undef, undef, undef, undef, undef, undef, undef, undef, undef, undef], defers := [] }) ?assign ?body ?done ?stop
 case assign =>
  rintro lp ⟨x, hxm⟩ W K hK
  simp only [k5q] at hK ⊢
  gi_wp2
  simpa using hK
 case body =>
  rintro lp pre ⟨x, hxm⟩ W ⟨v, m, i1, i2, i3, i4, i5, i6⟩ hlen
  obtain ⟨A, c, rfl⟩ := q0u i3
  have hpc := Tryz.underlying85
  obtain ⟨q, hq⟩ := z7u _ _ HL.out x hxm
  have hm : m.length < s.size + 2 := by
   have h1 := z2h _ _ i1
   rw [List.length_map] at h1
   have h2 := q5o s (s.size + 1) 0
   unfold q3e at hlen
   omega
  have KS0 := aq i5
  have HQ := aq hq
  have K_R := aq i2
  have O_V := aq i3
  have K_Q := aq i4
  have K_S := aq i5
  have B6 := aq i6
  have HM := aq i1
  have HLE := aq hm
  clear i1 i2 i3 i4 i5 i6 hq hm hlen
  refine wpIn_block ?_
  refine z3k (n := 14) (S := fun w' => w'.cell? ⟨R + 1, 0, none⟩ = some (.pointer (some ⟨R, 0, none⟩)) ∧ w'.cell? ⟨R, 0, none⟩ = some (.slice A m.length c)) (ds := [13]) (M 14 0) (fun ⟨_, _, h⟩ => h) hmo (by kernel_rfl) (by kernel_rfl) rfl ⟨(q0a (w := W.drew) K_Q.out 0).trans rfl, (q0a (w := W.drew) K_R.out 0).trans rfl⟩ (fun hHeld => ?_)
  obtain ⟨W1, hW1⟩ : ∃ W1, W1 = W.drew := ⟨_, rfl⟩
  rw [← hW1] at hHeld ⊢
  refine pw 5 31 (M 14 32) ?_
  refine pw 6 32 (M 14 96) ?_
  refine tw 0 26 (M 14 97) hHeld ?_
  refine tw 1 27 (M 14 99) hHeld ?_
  refine pw 2 28 (M 14 103) ?_
  refine pw 3 29 (M 14 111) ?_
  refine tw 4 30 (M 14 127) hHeld ?_
  clear hHeld
  replace K_R := dwK K_R hW1
  replace K_Q := dwK K_Q hW1
  replace K_S := dwK K_S hW1
  replace O_V := dwO O_V hW1
  replace B6 : q0c (Below R W0 W1) := by rw [hW1]; exact ⟨q0m B6.out⟩
  have KO : q0c (KeepsOthers W W1) := by rw [hW1]; exact ⟨KeepsOthers.drew W⟩
  clear hW1
  refine ow 7 (some 33) (M 14 255) fun K hK => ?_
  refine gow Tryz.func62 #[.string x.2] ?_
  with_reducible refine (q2a.calls x.2 q _ HQ.out).mono ?_
  rintro e W2 ⟨rfl, hb⟩
  refine ⟨_, rfl, ?_⟩
  replace B6 := lb B6 hb K_R.out (Nat.le_refl _)
  replace KO := aq (KO.out.trans (q5f hb))
  replace K_R := kb K_R hb
  replace K_Q := kb K_Q hb
  replace K_S := kb K_S hb
  replace O_V := aq (q1o O_V.out hb)
  clear hb
  refine hK.out _ _ ⟨(q0a K_Q.out 0).trans rfl, (q0a K_R.out 0).trans rfl⟩ (fun hHeld => ?_)
  clear hK K
  refine nw 33 ?_
  refine pw 8 34 (M 14 511) ?_
  refine ow 9 (some 35) (M 14 1023) fun K hK => ?_
  refine q2x (w1 := ?_) (v := ?_) (by rfl) rfl ?_ ?_
  rotate_left 2
  · go_simp
    constructor
    · rfl
    · rfl
  refine hK.out _ _ ⟨(q0a (((q0b (Below.refl W2.heap.size W2) _).block _ (q0g K_Q.out)).trans K_Q.out) 0).trans rfl, (q0a (((q0b (Below.refl W2.heap.size W2) _).block _ (q0g K_R.out)).trans K_R.out) 0).trans rfl⟩ (fun hHeld => ?_)
  clear hK K
  refine nw 35 ?_
  refine ow 10 (some 36) (M 14 2047) fun K hK => ?_
  refine q2u (w0 := W0) R (by rfl) (.tmp 30) (.tmp 35) 85 92 (.agg #[.int .i64 0, .string ⟨#[]⟩]) 2 24 rfl hpc (by kernel_rfl) rfl (by decide) (by decide) (.slice A m.length c) m.length (q8s m) [.int .i64 x.1, .string q] rfl ?hx rfl ?h1 O_V.out B6.out (Nat.le_of_lt (q0g K_R.out)) ?hl ?_
  (case hx => rfl)
  (case h1 => simp [Value.oneCell'])
  (case hl => have := HLE.out; omega)
  intro v1 W3 ho hb hg hat
  have N_R := aq (own_ne O_V.out K_R.out (by decide))
  replace KO := aq (KO.out.trans ((KeepsOthers.of_grownBy hg (fun k o e ho2 => by obtain ⟨cur, hc⟩ := z3f O_V.out k e; rw [hc] at ho2; cases ho2; rfl))))
  replace K_Q := aq ((hg.block _ (q0g K_Q.out) (own_ne O_V.out K_Q.out (by decide))).trans K_Q.out)
  replace K_S := aq ((hg.block _ (q0g K_S.out) (own_ne O_V.out K_S.out (by decide))).trans K_S.out)
  replace K_R := aq ((hg.block _ (q0g K_R.out) N_R.out).trans K_R.out)
  replace B6 := aq hb
  obtain ⟨A1, c1, rfl⟩ := q0u ho
  replace O_V := aq ho
  clear ho hb hg hat N_R
  refine hK.out _ _ ⟨(q0a K_Q.out 0).trans rfl, (q0a K_R.out 0).trans rfl⟩ (fun hHeld => ?_)
  clear hK K
  refine nw 36 ?_
  refine pw 11 37 (M 14 4095) ?_
  refine pw 12 38 (M 14 8191) ?_
  refine z3g (i := 13) (N := none) (M 14 16383) rfl rfl (by kernel_rfl) (by decide) (fun K hK => ?_)
  refine q2d (g := R) (off := 0) (cur := rdv (.slice A m.length c) s.size) (new := rdv (.slice A1 (m.length + 1) c1) s.size) (seg := [.slice A1 (m.length + 1) c1]) (u := .slice A1 (m.length + 1) c1) rfl rfl rfl rfl rfl rfl (by rfl) (by kernel_rfl) rfl rfl (Nat.le_of_ble_eq_true rfl) K_R.out ?_
  intro W4 hk hp
  replace KO := aq (KO.out.trans (k3u hp K_R.out))
  replace O_V := aq (q2j O_V.out fun k hv => hp.far k (fun e => own_ne O_V.out K_R.out (by decide) (by rw [hv, e])))
  replace K_Q := kp K_Q hp (by omega)
  replace K_S := kp K_S hp (by omega)
  replace B6 := bp B6 hp (Nat.le_refl _)
  replace K_R := aq hk
  clear hk hp
  refine hK.out _ _ ?_
  refine q4t (by kernel_rfl) ?_
  exact ⟨KO.out.from _, fun v hv => by
   have h1 : W.cell? ⟨R + 1 + 1, 0, none⟩ = some (.string s) := (q0a KS0.out 0).trans rfl
   have h2 : W4.cell? ⟨R + 1 + 1, 0, none⟩ = some (.string s) := (q0a K_S.out 0).trans rfl
   rw [h1] at hv
   rw [h2, hv], _, m ++ [(x.1, q)], by rw [List.map_append]; exact z3q _ _ x q HM.out HQ.out, K_R.out, by rw [List.length_append, z4a]; exact O_V.out, K_Q.out, K_S.out, B6.out⟩
 case done =>
  rintro D ys W hD hys ⟨v, m, i1, i2, i3, i4, i5, i6⟩ hK
  have i1' := i1
  rw [hys, HL.out] at i1'
  cases i1'
  obtain ⟨A, c, rfl⟩ := q0u i3
  obtain ⟨hPG, hc⟩ := k9a i3
  have hlen : L.length ≤ 1000000 := by
   have h1 := z2h _ _ HL.out
   have h2 := q5o s (s.size + 1) 0
   unfold q3e at h1
   omega
  have B2 : Below w1.heap.size w1 W := by rw [← HRR.out]; exact HB0.out.trans i6
  have K_D := aq hK
  have q0 := (q0a i4 0).trans rfl
  have K_Q := aq i4
  have K_S3 := aq (Array.getElem?_eq_some_iff.1 i5).1
  have K_R := aq i2
  have hgR : w1.heap.size ≤ R := by rw [HRR.out]; exact Nat.le_refl _
  have HALL := aq (j1g R A c s.size L w1 W B2 hgR hc (by exact i2) hPG hlen)
  clear i1 i2 i3 i4 i5 i6 hPG hc hK B2
  simp at s1
  have HS1 := aq s1
  have HGR := aq hgR
  cases hres : v0j s.size L with
  | ok t =>
   gi_wp2_with (first | (refine ⟨trivial, ?_⟩; gi_at_call 65; refine (callsIn_wide.2 HALL.out).mono ?_; rintro e W5 hpost; rw [hres] at hpost; obtain ⟨t', ht', rfl, s', hTG, ⟨A5, c5, hc5, hR5, hP5⟩, g4, g5⟩ := hpost.resolve_left (by rintro ⟨x, hx, -⟩; cases hx); cases ht'; obtain ⟨lang, vE, sc, rg, vV, vX, vR⟩ := s'; obtain ⟨h1, h2, h3, h4, h5, ⟨xs, h6, h7⟩, h8⟩ := hTG; obtain ⟨AE, cE, eE⟩ := q0u h4; obtain ⟨AV, cV, eV⟩ := q0u h5; obtain ⟨AX, cX, eX⟩ := q0u h7.1; obtain ⟨AR, cR, eR⟩ := q0u h8; change vE = _ at eE; change vV = _ at eV; change vX = _ at eX; change vR = _ at eR; subst eE; subst eV; subst eX; subst eR; have hTG : z5b W5 w1.heap.size ⟨lang, _, sc, rg, _, _, _⟩ t := ⟨h1, h2, h3, h4, h5, ⟨xs, h6, h7⟩, h8⟩; clear h1 h2 h3 h4 h5 h6 h7 h8; obtain ⟨z0, z1, z2, z3, z4, z5, z6, z7, z8, z9⟩ := z2a hR5; have q1 := (q0a ((g5.2 (R + 1) (Array.getElem?_eq_some_iff.1 K_Q.out).1 (by omega) (by simp)).trans K_Q.out) 0).trans rfl; have T5 := aq ((g4.block w.heap.size (by omega)).trans T1.out); have E5 := aq ((g4.block (w.heap.size + 1) (by omega)).trans T2.out); obtain ⟨a0, a1, a2, a3, a4, a5, a6, a7⟩ := cz8 T5.out; obtain ⟨b0, b1, b2, b3, b4, b5, b6, b7⟩ := fz8 T5.out; have e0 := (q0a E5.out 0).trans rfl; have e1 := q0e E5.out 0; have G4 := aq g4; have HTG := aq hTG; have K_D5 := aq (g5.2 D (Array.getElem?_eq_some_iff.1 K_D.out).1 (fun e => by have := K_D.out; rw [e, K_R.out] at this; cases this) (by simp)); clear g4 g5 hTG hR5 hP5 hc5 hpost))
   obtain ⟨W6, hW6⟩ : ∃ W6, ((((((((W5.setCell ⟨w.heap.size, 0, none⟩ (.string lang)).setCell ⟨w.heap.size, 1, none⟩ (.slice AE t.extl.length cE)).setCell ⟨w.heap.size, 2, none⟩ (.string sc)).setCell ⟨w.heap.size, 3, none⟩ (.string rg)).setCell ⟨w.heap.size, 4, none⟩ (.slice AV t.vars.length cV)).setCell ⟨w.heap.size, 5, none⟩ (.slice AX xs.length cX)).setCell ⟨w.heap.size, 6, none⟩ (.slice AR t.priv.length cR)).setCell ⟨w.heap.size, 7, none⟩ (.string ⟨#[]⟩)).setCell ⟨w.heap.size + 1, 0, none⟩ .nilIface = W6 := ⟨_, rfl⟩
   have T6 : W6.heap[w.heap.size]? = some (.cells #[.string lang, .slice AE t.extl.length cE, .string sc, .string rg, .slice AV t.vars.length cV, .slice AX xs.length cX, .slice AR t.priv.length cR, .string ⟨#[]⟩] 33 (0, 0)) := by
    rw [← hW6]
    exact q1e (q0l (q0l (q0l (q0l (q0l (q0l (q0l (q0l T5.out 0 _ rfl) 1 _ rfl) 2 _ rfl) 3 _ rfl) 4 _ rfl) 5 _ rfl) 6 _ rfl) 7 _ rfl) (by simp) _
   have E6 : W6.heap[w.heap.size + 1]? = some (.cells #[.nilIface] 55 (0, 0)) := by
    rw [← hW6]
    exact q0l (q1e (q1e (q1e (q1e (q1e (q1e (q1e (q1e E5.out (by simp) _) (by simp) _) (by simp) _) (by simp) _) (by simp) _) (by simp) _) (by simp) _) (by simp) _) 0 _ rfl
   have hB5 : Below w.heap.size w W5 := HB1.out.trans (G4.out.mono HB1.out.size)
   have B6' : Below w.heap.size w W6 := by
    rw [← hW6]
    exact q0r (q0r (q0r (q0r (q0r (q0r (q0r (q0r (q0r hB5 (Nat.le_refl _)) (Nat.le_refl _)) (Nat.le_refl _)) (Nat.le_refl _)) (Nat.le_refl _)) (Nat.le_refl _)) (Nat.le_refl _)) (Nat.le_refl _)) (by omega)
   have hfar : ∀ k : Nat, k ≠ w.heap.size → k ≠ w.heap.size + 1 → W6.heap[k]? = W5.heap[k]? := fun k n1 n2 => by
    rw [← hW6]
    exact (Below.heap_setCell _ _ _ _ n2).trans ((Below.heap_setCell _ _ _ _ n1).trans ((Below.heap_setCell _ _ _ _ n1).trans ((Below.heap_setCell _ _ _ _ n1).trans ((Below.heap_setCell _ _ _ _ n1).trans ((Below.heap_setCell _ _ _ _ n1).trans ((Below.heap_setCell _ _ _ _ n1).trans ((Below.heap_setCell _ _ _ _ n1).trans (Below.heap_setCell _ _ _ _ n1))))))))
   have D6 : W6.heap[D]? = some (.deferred (some [])) := (hfar D (by omega) (by omega)).trans (K_D5.out.trans K_D.out)
   rw [hW6]
   clear hW6 a0 a1 a2 a3 a4 a5 a6 a7 b0 b1 b2 b3 b4 b5 b6 b7 z0 z1 z2 z3 z4 z5 z6 z7 z8 z9 e0 e1 q1
   refine ⟨by simp, .inr ⟨fun e => by simp [Fence.wide] at e, _, _, 64, #[.pointer (some ⟨w.heap.size, 0, none⟩), .pointer (some ⟨w.heap.size + 1, 0, none⟩)], rfl, by simp [go_sem], fun _ _ => trivial, ?_⟩⟩
   refine (z2w _ _ _ _).mono ?_
   rintro e u' w'' ⟨rfl, rfl, rfl⟩
   have a7 := q0b (Below.refl W6.heap.size W6) (.cells #[.nilIface] 94)
   have D7 := (a7.block _ (Array.getElem?_eq_some_iff.1 D6).1).trans D6
   have T7 := (a7.block _ (Array.getElem?_eq_some_iff.1 T6).1).trans T6
   have E7 := (a7.block _ (Array.getElem?_eq_some_iff.1 E6).1).trans E6
   have B7 := B6'.trans (a7.mono B6'.size)
   refine ⟨by simp [settle], .inl ⟨D, _, rfl, run_takeDeferred D7, ?_⟩⟩
   obtain ⟨W8, hW8⟩ : ∃ W8, W8 = (W6.alloc (.cells #[.nilIface] 94)).putObj D (.deferred none) := ⟨_, rfl⟩
   have T8 : W8.heap[w.heap.size]? = some (.cells #[.string lang, .slice AE t.extl.length cE, .string sc, .string rg, .slice AV t.vars.length cV, .slice AX xs.length cX, .slice AR t.priv.length cR, .string ⟨#[]⟩] 33 (0, 0)) := by rw [hW8]; exact (World.putObj_heap_other (by omega)).trans T7
   have E8 : W8.heap[w.heap.size + 1]? = some (.cells #[.nilIface] 55 (0, 0)) := by rw [hW8]; exact (World.putObj_heap_other (by omega)).trans E7
   have hmv : ∀ (k : Nat) cs ty, w1.heap.size ≤ k → W5.heap[k]? = some (.cells cs ty (0, 0)) → W8.heap[k]? = W5.heap[k]? := fun k cs ty hk hc => by
    have h6 := (hfar k (by omega) (by omega)).trans hc
    have hd : k ≠ D := fun x => by subst x; rw [D6] at h6; cases h6
    rw [hW8, hc]
    exact (World.putObj_heap_other hd).trans (aN h6)
   obtain ⟨c0, c1, c2, c3, c4, c5, c6, c7⟩ := cz8 T8
   have e8 : W8.cell? ⟨w.heap.size + 1, 0, none⟩ = some .nilIface := (q0a E8 0).trans rfl
   have B8 : Below w.heap.size w W8 := by rw [hW8]; exact B7.trans (belowK_b (w := w) (Nat.le_refl _) _ D _ _ (by omega) D7 rfl rfl)
   rw [← hW8]
   show ∃ v, _ ∧ _
   refine ⟨.tuple #[.agg #[.string lang, .slice AE t.extl.length cE, .string sc, .string rg, .slice AV t.vars.length cV, .slice AX xs.length cX, .slice AR t.priv.length cR, .string ⟨#[]⟩], .nilIface], ?_, B8, .inl ⟨t, ⟨lang, _, sc, rg, _, _, _⟩, hres, rfl, (HTG.out.mv hmv).lo HB1.out.size⟩⟩
   simp [results, Tryz.results26, asAddr, c0, c1, c2, c3, c4, c5, c6, c7, e8, go_sem]
  | error x =>
   gi_wp2_with (first | (refine ⟨trivial, ?_⟩; gi_at_call 65; refine (callsIn_wide.2 HALL.out).mono ?_; rintro e W5 hpost; rw [hres] at hpost; obtain ⟨x', hx', p, rfl, hF, hp, g4, g5⟩ := hpost.resolve_right (by rintro ⟨x, hx, -⟩; cases hx); cases hx'; have T5 := aq ((g4.block w.heap.size (by omega)).trans T1.out); have E5 := aq ((g4.block (w.heap.size + 1) (by omega)).trans T2.out); have G4 := aq g4; have HFA := aq hF; have K_D5 := aq (g5.2 D (Array.getElem?_eq_some_iff.1 K_D.out).1 (fun e => by have := K_D.out; rw [e, K_R.out] at this; cases this) (by simp)); have HPW := aq hp; have HWW := aq g5.1; clear g4 g5 hF hpost hp))
   refine ⟨by simp, .inr ⟨fun e => by simp [Fence.wide] at e, _, _, 64, #[.pointer (some ⟨w.heap.size, 0, none⟩), .pointer (some ⟨w.heap.size + 1, 0, none⟩)], rfl, by simp [go_sem], fun _ _ => trivial, ?_⟩⟩
   have hB5 : Below w.heap.size w W5 := HB1.out.trans (G4.out.mono HB1.out.size)
   have hD5 : W5.heap[D]? = some (.deferred (some [])) := K_D5.out.trans K_D.out
   refine (z7i _ _ _ p W5 T5.out E5.out).mono ?_
   rintro e u' w'' ⟨rfl, rfl, hT, hE, hO, hBB⟩
   have D7 : w''.heap[D]? = some (.deferred (some [])) := (hO D (Array.getElem?_eq_some_iff.1 hD5).1 (by omega) (by omega)).trans hD5
   refine ⟨by simp [settle], .inl ⟨D, _, rfl, run_takeDeferred D7, ?_⟩⟩
   obtain ⟨W8, hW8⟩ : ∃ W8, W8 = w''.putObj D (.deferred none) := ⟨_, rfl⟩
   have T8 : W8.heap[w.heap.size]? = some (.cells #[.string ⟨#[]⟩, .slice none 0 0, .string ⟨#[]⟩, .string ⟨#[]⟩, .slice none 0 0, .slice none 0 0, .slice none 0 0, .string ⟨#[]⟩] 33 (0, 0)) := by rw [hW8]; exact (World.putObj_heap_other (by omega)).trans hT
   have E8 : W8.heap[w.heap.size + 1]? = some (.cells #[.iface 105 (.pointer (some ⟨p, 0, none⟩))] 55 (0, 0)) := by rw [hW8]; exact (World.putObj_heap_other (by omega)).trans hE
   have hWR : R + 3 ≤ W.heap.size := by have := (Array.getElem?_eq_some_iff.1 K_Q.out).1; have := K_S3.out; omega
   have hpp : w.heap.size + 1 < p := by have := HPW.out; have := HRR.out; omega
   have hFA : q4v W8 p x := by
    obtain ⟨what, hf⟩ := HFA.out
    refine ⟨what, ?_⟩
    have hd : p ≠ D := fun z => by subst z; rw [hD5] at hf; cases hf
    rw [hW8]
    exact (World.putObj_heap_other hd).trans ((hO p (Array.getElem?_eq_some_iff.1 hf).1 (by omega) (by omega)).trans hf)
   obtain ⟨c0, c1, c2, c3, c4, c5, c6, c7⟩ := cz8 T8
   have e8 : W8.cell? ⟨w.heap.size + 1, 0, none⟩ = some (.iface 105 (.pointer (some ⟨p, 0, none⟩))) := (q0a E8 0).trans rfl
   have B8 : Below w.heap.size w W8 := by rw [hW8]; exact (hBB _ _ (Nat.le_refl _) (by omega) hB5.size hB5).trans (belowK_b (w := w) (Nat.le_refl _) _ D _ _ (by omega) D7 rfl rfl)
   rw [← hW8]
   show ∃ v, _ ∧ _
   refine ⟨.tuple #[j1b, .iface 105 (.pointer (some ⟨p, 0, none⟩))], ?_, B8, .inr ⟨x, p, hres, rfl, hFA, by omega⟩⟩
   simp [j1b, results, Tryz.results26, asAddr, c0, c1, c2, c3, c4, c5, c6, c7, e8, go_sem]
 case stop =>
  rintro D c pre W _ _ h _
  exact h.elim
end Go.Proofs.YtpmcfckechjppaaGreatDoor.Ps
namespace Go.Proofs.YtpmcfckechjppaaGreatDoor.Ps
open Go.RowKit Go.Shelf Go.Proofs.YtpmcfckechjppaaGreatDoorW.PrintWords Go.Proofs.YtpmcfckechjppaaGreatDoorW.PrintLast Go.Proofs.YtpmcfckechjppaaGreatDoor.P Go.Proofs.YtpmcfckechjppaaGreatDoor.LikW
open Go.Proofs.YtpmcfckechjppaaGreatDoor.Each Go.Proofs.YtpmcfckechjppaaGreatDoor.Base Go.Proofs.YtpmcfckechjppaaGreatDoor.Pure
def z0f (x : Pc) : Pc := (x.1, q5p x.2)
theorem v9z : ∀ l : List Pc, (∀ x ∈ l, x.2.size ≤ 900000) → v0k l = some (l.map z0f)
 | [], _ => rfl
 | x :: l, h => by
  rw [v0k, v3z x.2 (Nat.le_trans (h x List.mem_cons_self) (by decide)), Option.bind_some, v9z l fun y hy => h y (List.mem_cons_of_mem _ hy)]
  rfl
theorem v0d (s : ByteArray) (hs : s.size ≤ 900000) : v0k (q3e s) = some ((q3e s).map z0f) :=
 v9z _ fun x hx => Nat.le_trans (z1g s _ _ x hx) hs
theorem k1h : ∀ l : List ByteArray, q8d l = jn l
 | [] => rfl
 | x :: l => by
  have key : ∀ (l : List ByteArray) (x : ByteArray), (l.foldl (fun acc y => (acc ++ (⟨#[45]⟩ : ByteArray)) ++ y) x).data.toList = x.data.toList ++ Lib.joinTail [45] (l.map (·.data.toList)) := by
   intro l
   induction l with
   | nil => intro x; simp [Lib.joinTail]
   | cons y l ih =>
    intro x
    rw [List.foldl_cons, ih]
    simp [Lib.joinTail]
  unfold q8d
  rw [List.map_cons, Lib.join_cons, ← key l x]
  rfl
theorem q9w (s : ByteArray) (a b : Nat) : (q5p s).extract a b = q5p (s.extract a b) := by
 apply q6t
 rw [q5c, q4x, q4x, q5c, List.map_take, List.map_drop]
theorem k1j (c : Int) : z0q c = 45 ↔ c = 45 := by
 unfold z0q
 split <;> omega
theorem v1v (s : ByteArray) (a : Nat) : (∀ j : Nat, a ≤ j → j < s.size → bt s (j : Int) ≠ 45) ∨ ∃ i, a ≤ i ∧ i < s.size ∧ bt s (i : Int) = 45 ∧ ∀ j : Nat, a ≤ j → j < i → bt s (j : Int) ≠ 45 := by
 by_cases h : ∃ i, a ≤ i ∧ i < s.size ∧ bt s (i : Int) = 45
 · right
   have key : ∀ n i : Nat, i - a = n → a ≤ i → i < s.size → bt s (i : Int) = 45 → ∃ i, a ≤ i ∧ i < s.size ∧ bt s (i : Int) = 45 ∧ ∀ j : Nat, a ≤ j → j < i → bt s (j : Int) ≠ 45 := by
    intro n
    induction n using Nat.strongRecOn with
    | _ n ih =>
     intro i hn h1 h2 h3
     by_cases hj : ∃ j, a ≤ j ∧ j < i ∧ bt s (j : Int) = 45
     · obtain ⟨j, j1, j2, j3⟩ := hj
       exact ih (j - a) (by omega) j rfl j1 (by omega) j3
     · exact ⟨i, h1, h2, h3, fun j j1 j2 j3 => hj ⟨j, j1, j2, j3⟩⟩
   obtain ⟨i, h1, h2, h3⟩ := h
   exact key _ i rfl h1 h2 h3
 · exact .inl fun j j1 j2 j3 => h ⟨j, j1, j2, j3⟩
theorem k5p (s : ByteArray) (a : Nat) : (Lib.indexByte ((q5p s).extract a (q5p s).size).data.toList 45 < 0 ∧ Lib.indexByte (s.extract a s.size).data.toList 45 < 0) ∨ Lib.indexByte ((q5p s).extract a (q5p s).size).data.toList 45 = Lib.indexByte (s.extract a s.size).data.toList 45 := by
 have hb : ∀ j : Nat, j < s.size → (bt (q5p s) (j : Int) = 45 ↔ bt s (j : Int) = 45) := fun j hj => by rw [k8y (q5c s) j hj, k1j]
 have hz := q8i s
 rcases v1v s a with h | ⟨i, h1, h2, h3, h4⟩
 · refine .inl ⟨v1y _ _ fun j j1 j2 => ?_, v1y _ _ h⟩
   rw [hz] at j2
   exact fun e => h j j1 j2 ((hb j j2).1 e)
 · right
   rw [v9h s a i h1 h2 h3 h4, v9h (q5p s) a i h1 (by omega) ((hb i h2).2 h3) fun j j1 j2 e => h4 j j1 j2 ((hb j (by omega)).1 e)]
theorem z8o (s : ByteArray) : ∀ f a, Ps.q3p (q5p s) f a = (Ps.q3p s f a).map z0f
 | 0, a => rfl
 | f + 1, a => by
  unfold Ps.q3p
  have hz := q8i s
  rcases k5p s a with ⟨h1, h2⟩ | h
  · rw [if_pos h1, if_pos h2, hz]
    simp [z0f, q9w]
  · rw [h, hz]
    split
    · simp [z0f, q9w]
    · rw [List.map_cons, z8o s f]
      simp [z0f, q9w]
theorem v7n (s : ByteArray) : q3e (q5p s) = (q3e s).map z0f := by
 unfold q3e
 rw [q8i]
 exact z8o s _ _
end Go.Proofs.YtpmcfckechjppaaGreatDoor.Ps
namespace Go.Proofs.YtpmcfckechjppaaGreatDoor.Ps
open Go.RowKit Go.Shelf Go.Proofs.YtpmcfckechjppaaGreatDoorW.PrintWords Go.Proofs.YtpmcfckechjppaaGreatDoorW.PrintLast Go.Proofs.YtpmcfckechjppaaGreatDoorW.PrintMore Go.Proofs.YtpmcfckechjppaaGreatDoor.P Go.Proofs.YtpmcfckechjppaaGreatDoor.LikW
attribute [local go_sem] Oper.semAt_some
section
variable {ops : Array Oper} {rest : List Oper} {o : Oper} {a : Act} {Q : Exit → Act → World → Prop} {K : Act → World → Prop}
end
def StG (w W : World) (box : Array Value) (v : Value) (acc : List ByteArray) : Prop := Below w.heap.size w W ∧ W.heap[w.heap.size]? = some (.cells box 33 (0, 0)) ∧ W.heap[w.heap.size + 1]? = some (.cells #[v] 26 (0, 0)) ∧ Own W w.heap.size v acc
theorem StG.grown {w W w1 : World} {box : Array Value} {v : Value} {acc : List ByteArray} (h : StG w W box v acc) (hg : W.grownBy w1 v.ownBlock) : w1.heap[w.heap.size]? = some (.cells box 33 (0, 0)) ∧ w1.heap[w.heap.size + 1]? = some (.cells #[v] 26 (0, 0)) :=
 ⟨(hg.block _ (q0g h.2.1) (own_ne h.2.2.2 h.2.1 (by decide))).trans h.2.1, (hg.block _ (q0g h.2.2.1) (own_ne h.2.2.2 h.2.2.1 (by decide))).trans h.2.2.1⟩
def v3a (p : Nat) : Value := .iface 105 (.pointer (some ⟨p, 0, none⟩))
end Go.Proofs.YtpmcfckechjppaaGreatDoor.Ps
namespace Go.Proofs.YtpmcfckechjppaaGreatDoor.Ps
open Go.RowKit Go.Shelf Go.Proofs.YtpmcfckechjppaaGreatDoorW.PrintWords Go.Proofs.YtpmcfckechjppaaGreatDoorW.PrintLast Go.Proofs.YtpmcfckechjppaaGreatDoorW.PrintMore Go.Proofs.YtpmcfckechjppaaGreatDoor.P Go.Proofs.YtpmcfckechjppaaGreatDoor.LikW
theorem q8y (a : ByteArray) : a.toList.isEmpty = decide (a.size = 0) := by
 rw [Bool.eq_iff_iff, decide_eq_true_iff, List.isEmpty_iff_length_eq_zero, ByteArray.toList_eq, Array.length_toList]
 exact Iff.rfl
def isS (u : Value) : Prop := ∃ s : ByteArray, u = .string s ∧ s.size ≤ 9
abbrev XL := List (ByteArray × Value × List ByteArray)
abbrev TEX : TypeId := 65
abbrev TST : TypeId := 9
def v9j (xs : XL) : Prop := ∀ x ∈ xs, x.1.size ≤ 9 ∧ x.2.2.length ≤ 4 ∧ ∀ y ∈ x.2.2, y.size ≤ 9
def q9m (W : World) (base n : Nat) (r1 r2 v : Value) : Prop := ∃ xs : XL, xs.length = n ∧ q8j W base v xs ∧ v9j xs ∧ ∀ x ∈ xs, q5b x.2.1 r1 ∧ q5b x.2.1 r2
theorem v9w (v : Value) : q5b v (.slice none 0 0) := q8u (ne_nil v)
theorem q9m.nil (W : World) (base : Nat) (r1 r2 : Value) : q9m W base 0 r1 r2 (.slice none 0 0) := ⟨[], rfl, ⟨q3a _ _ _ _, fun x h => absurd h List.not_mem_nil⟩, fun x h => absurd h List.not_mem_nil, fun x h => absurd h List.not_mem_nil⟩
section
variable {W W1 : World} {base n : Nat} {r1 r2 v : Value}
theorem q9m.toP (h : q9m W base n r1 r2 v) : q3f W base TEX 2 n j2p v := by
 obtain ⟨xs, rfl, h, _⟩ := h
 exact ⟨_, h.1, fun _ _ => trivial⟩
theorem q9m.below (h : q9m W base n r1 r2 v) (hb : Below W.heap.size W W1) : q9m W1 base n r1 r2 v := by
 obtain ⟨xs, h1, h2, h3⟩ := h
 exact ⟨xs, h1, h2.below hb, h3⟩
theorem q9m.put {g : Nat} {t : TypeId} {cs : Array Value} (h : q9m W base n r1 r2 v) (hk : Put g W W1) (hg : W.heap[g]? = some (.cells cs t (0, 0))) (h1 : TEX ≠ t) (h2 : TST ≠ t) : q9m W1 base n r1 r2 v := by
 obtain ⟨xs, e, hx, h3⟩ := h
 have hm : ∀ {e : TypeId} {size m : Nat} {u : Value} {ys : List Value}, e ≠ t → W.ownsRow base e size u m ys → W1.ownsRow base e size u m ys := fun hne ho => q2j ho fun k hv => hk.far k (fun q => own_ne ho hg hne (by rw [hv, q]))
 exact ⟨xs, e, ⟨hm h1 hx.1, fun x hxm => hm h2 (hx.2 x hxm)⟩, h3⟩
theorem q9m.fresh {g : Nat} (h : q9m W base n r1 r2 v) (hg : g = W.heap.size) : some g ≠ v.ownBlock := h.toP.fresh hg
theorem q9m.j2s {g : Nat} {t : TypeId} {cs : Array Value} (h : q9m W base n r1 r2 v) (hk : Put g W W1) (hg : W.heap[g]? = some (.cells cs t (0, 0))) (h2 : TST ≠ t) (ha : some g ≠ v.ownBlock) : q9m W1 base n r1 r2 v := by
 obtain ⟨xs, e, hx, h3⟩ := h
 exact ⟨xs, e, ⟨q2j hx.1 fun k hv => hk.far k (fun q => ha (by rw [hv, q])), fun x hxm => q2j (hx.2 x hxm) fun k hv => hk.far k (fun q => own_ne (hx.2 x hxm) hg h2 (by rw [hv, q]))⟩, h3⟩
theorem q9m.k4l {r1' : Value} (h : q9m W base n r1 r2 v) (hg : W.grownBy W1 r1.ownBlock) (hat : r1'.ownBlock = r1.ownBlock ∨ ∃ b, r1'.ownBlock = some b ∧ W.heap.size ≤ b) (hne : q5b v r1) : q9m W1 base n r1' r2 v := by
 obtain ⟨xs, e, hx, h3, h4⟩ := h
 refine ⟨xs, e, ⟨q2j hx.1 fun k hk => hg.block k (q8a hx.1 k hk) (fun q => hne k hk q.symm), fun x hxm => q2j (hx.2 x hxm) fun k hk => hg.block k (q8a (hx.2 x hxm) k hk) (fun q => (h4 x hxm).1 k hk q.symm)⟩, h3, fun x hxm => ⟨?_, (h4 x hxm).2⟩⟩
 exact q8u (z9b (q8u (h4 x hxm).1) hat (hx.2 x hxm))
theorem q9m.swap (h : q9m W base n r1 r2 v) : q9m W base n r2 r1 v := by
 obtain ⟨xs, e, hx, h3, h4⟩ := h
 exact ⟨xs, e, hx, h3, fun x hxm => ⟨(h4 x hxm).2, (h4 x hxm).1⟩⟩
theorem q9m.k9j {r2' : Value} (h : q9m W base n r1 r2 v) (hg : W.grownBy W1 r2.ownBlock) (hat : r2'.ownBlock = r2.ownBlock ∨ ∃ b, r2'.ownBlock = some b ∧ W.heap.size ≤ b) (hne : q5b v r2) : q9m W1 base n r1 r2' v := (h.swap.k4l hg hat hne).swap
theorem q9m.reset (h : q9m W base n r1 r2 v) : q9m W base n r1 (.slice none 0 0) v := by
 obtain ⟨xs, e, hx, h3, h4⟩ := h
 exact ⟨xs, e, hx, h3, fun x hxm => ⟨(h4 x hxm).1, v9w _⟩⟩
theorem q3f.texts (h : q3f W base TST 1 n isS v) : ∃ L : List ByteArray, L.length = n ∧ Own W base v L ∧ ∀ y ∈ L, y.size ≤ 9 := by
 obtain ⟨xs, ho, hp⟩ := h
 have : ∀ l : List Value, (∀ u ∈ l, isS u) → ∃ L : List ByteArray, l = L.map Value.string ∧ ∀ y ∈ L, y.size ≤ 9 := by
  intro l
  induction l with
  | nil => exact fun _ => ⟨[], rfl, fun y h => absurd h List.not_mem_nil⟩
  | cons a l ih =>
   intro hl
   obtain ⟨s, rfl, hs⟩ := hl a List.mem_cons_self
   obtain ⟨L, rfl, hL⟩ := ih fun u hu => hl u (List.mem_cons_of_mem _ hu)
   exact ⟨s :: L, rfl, fun y hy => (List.mem_cons.1 hy).elim (fun e => e ▸ hs) (hL y)⟩
 obtain ⟨L, rfl, hL⟩ := this xs hp
 have hn : L.length = n := by have := ho.1; rw [List.length_map] at this; omega
 subst hn
 exact ⟨L, rfl, ho, hL⟩
end
theorem q3f.str {W : World} {base n : Nat} {v : Value} (h : q3f W base TST 1 n isS v) : q3f W base TST 1 n isStr v := by
 obtain ⟨xs, ho, hp⟩ := h
 exact ⟨xs, ho, fun u hu => by obtain ⟨s, hs, _⟩ := hp u hu; exact ⟨s, hs⟩⟩
theorem q3f.k5l {W : World} {base : Nat} {v : Value} {L : List ByteArray} (h : Own W base v L) (hL : ∀ y ∈ L, y.size ≤ 9) : q3f W base TST 1 L.length isS v :=
 ⟨_, h, fun u hu => by obtain ⟨s, hs, rfl⟩ := List.mem_map.1 hu; exact ⟨s, rfl, hL s hs⟩⟩
theorem v0p {W : World} {g base : Nat} (L : List ByteArray) (h0 : L ≠ []) (hm : L.length ≤ 1000) (hb : base ≤ g) (h : W.heap[g]? = some (.cells (L.map Value.string).toArray TST (0, 0))) : Own W base (.slice (some ⟨g, 0, none⟩) L.length L.length) L :=
 ⟨by simp, .inr ⟨g, L.length, _, rfl, hb, h, Nat.le_refl _, Nat.le_trans hm (by decide), by simp, by rw [Nat.mul_one]; exact List.take_of_length_le (by simp)⟩⟩
theorem v3y {W : World} {g m c base n size : Nat} {e : TypeId} {v : Value} {xs : List Value} (hg : W.heap.size ≤ g) (ho : W.ownsRow base e size v n xs) : q5b (.slice (some ⟨g, 0, none⟩) m c) v := fun k hk hk' => by
 have := q8a ho k hk'
 have : g = k := by simpa [Value.ownBlock] using hk
 omega
section
variable {ops : Array Oper} {rest : List Oper} {o : Oper} {a : Act} {Q : Exit → Act → World → Prop}
theorem q8p {w0 W : World} (base m : Nat) (hgd : o.guard = none) (s x : Operand) (ho : o.op = .call { callee := .builtin .append, args := #[s, x], argTypes := #[31, 31] })
 (v r1 r2 : Value) (n : Nat) (ys : XL) (cs : List Value) (hcs : q5k ys = cs) (hs : a.eval s = v) (hx : a.eval x = .slice (some ⟨W.heap.size, 0, none⟩) m m) (hm : ys.length = m) (h1 : ∀ u ∈ cs, u.oneCell' = true)
 (HO : q9m W base n r1 r2 v) (HY : ∀ y ∈ ys, Own W base y.2.1 y.2.2 ∧ q5b y.2.1 r1 ∧ q5b y.2.1 r2) (HS : v9j ys) (HB : Below base w0 W) (hbase : base ≤ W.heap.size) (hl : n + m ≤ 1000)
 (h : ∀ A c w1, q9m w1 base (n + m) r1 r2 (.slice A (n + m) c) → Below base w0 w1 → W.grownBy w1 v.ownBlock → ((Value.slice A (n + m) c).ownBlock = v.ownBlock ∨ ∃ b, (Value.slice A (n + m) c).ownBlock = some b ∧ W.heap.size ≤ b) → wpList Tryz.prog ops Q rest (a.put o.dst (.slice A (n + m) c)) w1) :
 wpList Tryz.prog ops Q (o :: rest) a (W.alloc (.cells cs.toArray TEX)) := by
 obtain ⟨xs, hn, hX, hS, hN⟩ := HO
 have hinfo : (Tryz.prog.info? TEX).map (fun i => (i.zero, i.size, i.bytes)) = some (some (.agg #[.string ⟨#[]⟩, .slice none 0 0]), 2, 40) := by kernel_rfl
 obtain ⟨i0, hi, hzz⟩ := Option.map_eq_some_iff.1 hinfo
 simp only [Prod.mk.injEq] at hzz
 obtain ⟨hz0, hz1, hz2⟩ := hzz
 subst hn
 have hlc : ∀ l : XL, (q5k l).length = l.length * 2 := fun l => by
  induction l with
  | nil => rfl
  | cons y l ih => unfold q5k at ih ⊢; rw [List.flatMap_cons, List.length_append, ih, List.length_cons]; simp only [List.length_cons, List.length_nil]; omega
 refine wpList_append_own_at (W.alloc (.cells cs.toArray TEX)) hgd s x 31 ho base TEX i0 (.agg #[.string ⟨#[]⟩, .slice none 0 0]) 2 40 Tryz.underlying31 hi hz0 hz1 hz2 rfl (by decide) v xs.length (q5k xs) hs (hX.1.alloc _) ⟨W.heap.size, 0, none⟩ m m cs hx (by rw [← hcs, hlc, hm])
  (by simpa using World.news_of_block (cs := cs.toArray) (t := TEX) (fr := (0, 0)) (heap_alloc_new W (.cells cs.toArray TEX))) h1 (by simp only [maxLen]; omega) (by omega) (by simp; omega) ?_
 intro v1 w1 hown hg _ hat
 obtain ⟨A, c, rfl⟩ := q0u hown
 have hg2 : W.grownBy w1 v.ownBlock := World.grownBy.trans (World.grownBy_alloc W _ _) hg
 have mv : ∀ y : ByteArray × Value × List ByteArray, Own W base y.2.1 y.2.2 → Own w1 base y.2.1 y.2.2 := fun y hy => q2j hy fun k hk => hg2.block k (q8a hy k hk) (fun q => z6o hy hX.1 (by decide) k hk q.symm)
 refine h A c w1 ⟨xs ++ ys, by rw [List.length_append, hm], ⟨?_, fun y hy => (List.mem_append.1 hy).elim (fun q => mv y (hX.2 y q)) (fun q => mv y (HY y q).1)⟩, fun y hy => (List.mem_append.1 hy).elim (hS y) (HS y), fun y hy => (List.mem_append.1 hy).elim (hN y) (fun q => (HY y q).2)⟩ ((HB.alloc hbase _).grown hg (by simp; omega) (q5i hX.1)) hg2 ?_
 · have e : q5k (xs ++ ys) = q5k xs ++ cs := by rw [← hcs]; exact List.flatMap_append
   rw [e, List.length_append, hm]
   exact hown
 · rcases hat with hat | hat
   · exact .inl hat
   · exact .inr ⟨_, hat, by simp⟩
end
def Rw (W : World) (R n1 : Nat) (v1 : Value) (n4 : Nat) (v4 : Value) (n5 : Nat) (v5 : Value) (n6 : Nat) (v6 : Value) : Prop := q3f W R TST 1 n1 isS v1 ∧ q3f W R TST 1 n4 isS v4 ∧ q9m W R n5 v4 v6 v5 ∧ q3f W R TST 1 n6 isS v6 ∧ q5b v6 v4 ∧ q5b v6 v1 ∧ q5b v4 v1
section
variable {W W1 : World} {R n1 n4 n5 n6 g : Nat} {v1 v4 v5 v6 : Value}
theorem rw0 (h : q3f W R TST 1 n1 isS v1) : Rw W R n1 v1 0 (.slice none 0 0) 0 (.slice none 0 0) 0 (.slice none 0 0) := ⟨h, q3f.nil _ _ _ _ _, q9m.nil _ _ _ _, q3f.nil _ _ _ _ _, ne_nil _, ne_nil _, ne_nil _⟩
theorem rb (h : q0c (Rw W R n1 v1 n4 v4 n5 v5 n6 v6)) (hb : Below W.heap.size W W1) : q0c (Rw W1 R n1 v1 n4 v4 n5 v5 n6 v6) := ⟨h.out.1.below hb, h.out.2.1.below hb, h.out.2.2.1.below hb, h.out.2.2.2.1.below hb, h.out.2.2.2.2⟩
theorem rp {t : TypeId} {cs : Array Value} (h : q0c (Rw W R n1 v1 n4 v4 n5 v5 n6 v6)) (hp : Put g W W1) (hg : W.heap[g]? = some (.cells cs t (0, 0))) (h1 : TEX ≠ t := by decide) (h2 : TST ≠ t := by decide) : q0c (Rw W1 R n1 v1 n4 v4 n5 v5 n6 v6) :=
 ⟨h.out.1.put hp hg h2, h.out.2.1.put hp hg h2, h.out.2.2.1.put hp hg h1 h2, h.out.2.2.2.1.put hp hg h2, h.out.2.2.2.2⟩
theorem rp2 {t : TypeId} {cs : Array Value} (h : q0c (Rw W R n1 v1 n4 v4 n5 v5 n6 v6)) (hp : Put g W W1) (hg : W.heap[g]? = some (.cells cs t (0, 0))) (ha : some g ≠ v5.ownBlock) (h2 : TST ≠ t := by decide) : q0c (Rw W1 R n1 v1 n4 v4 n5 v5 n6 v6) :=
 ⟨h.out.1.put hp hg h2, h.out.2.1.put hp hg h2, h.out.2.2.1.j2s hp hg h2 ha, h.out.2.2.2.1.put hp hg h2, h.out.2.2.2.2⟩
theorem rg4 {m : Nat} {v : Value} (h : q0c (Rw W R n1 v1 n4 v4 n5 v5 n6 v6)) (ho : q3f W1 R TST 1 m isS v) (hg : W.grownBy W1 v4.ownBlock) (hat : v.ownBlock = v4.ownBlock ∨ ∃ b, v.ownBlock = some b ∧ W.heap.size ≤ b) : q0c (Rw W1 R n1 v1 m v n5 v5 n6 v6) :=
 ⟨h.out.1.grown hg (q8u h.out.2.2.2.2.2.2), ho, h.out.2.2.1.k4l hg hat (h.out.2.2.1.toP.ne h.out.2.1 (by decide)), h.out.2.2.2.1.grown hg h.out.2.2.2.2.1, q8u (q3f.z2o (q8u h.out.2.2.2.2.1) hat h.out.2.2.2.1), h.out.2.2.2.2.2.1, q3f.z2o h.out.2.2.2.2.2.2 hat h.out.1⟩
theorem rg6 {m : Nat} {v : Value} (h : q0c (Rw W R n1 v1 n4 v4 n5 v5 n6 v6)) (ho : q3f W1 R TST 1 m isS v) (hg : W.grownBy W1 v6.ownBlock) (hat : v.ownBlock = v6.ownBlock ∨ ∃ b, v.ownBlock = some b ∧ W.heap.size ≤ b) : q0c (Rw W1 R n1 v1 n4 v4 n5 v5 m v) :=
 ⟨h.out.1.grown hg (q8u h.out.2.2.2.2.2.1), h.out.2.1.grown hg (q8u h.out.2.2.2.2.1), h.out.2.2.1.k9j hg hat (h.out.2.2.1.toP.ne h.out.2.2.2.1 (by decide)), ho, q3f.z2o h.out.2.2.2.2.1 hat h.out.2.1, q3f.z2o h.out.2.2.2.2.2.1 hat h.out.1, h.out.2.2.2.2.2.2⟩
theorem rg5 {m : Nat} {v : Value} (h : q0c (Rw W R n1 v1 n4 v4 n5 v5 n6 v6)) (ho : q9m W1 R m v4 v6 v) (hg : W.grownBy W1 v5.ownBlock) : q0c (Rw W1 R n1 v1 n4 v4 m v n6 v6) :=
 ⟨h.out.1.grown hg (h.out.1.ne h.out.2.2.1.toP (by decide)), h.out.2.1.grown hg (h.out.2.1.ne h.out.2.2.1.toP (by decide)), ho, h.out.2.2.2.1.grown hg (h.out.2.2.2.1.ne h.out.2.2.1.toP (by decide)), h.out.2.2.2.2⟩
theorem rz (h : q0c (Rw W R n1 v1 n4 v4 n5 v5 n6 v6)) : q0c (Rw W R n1 v1 n4 v4 n5 v5 0 (.slice none 0 0)) := ⟨h.out.1, h.out.2.1, h.out.2.2.1.reset, q3f.nil _ _ _ _ _, ne_nil _, ne_nil _, h.out.2.2.2.2.2.2⟩
theorem kg {base e size n g : Nat} {t : TypeId} {cs : Array Value} {p : Value → Prop} {v : Value} (ho : q3f W base e size n p v) (hg : W.grownBy W1 v.ownBlock) (K : q0c (W.heap[g]? = some (.cells cs t (0, 0)))) (hne : e ≠ t := by decide) : q0c (W1.heap[g]? = some (.cells cs t (0, 0))) := ⟨(hg.block _ (q0g K.out) (ho.apart K.out hne)).trans K.out⟩
end
theorem h1S {s : ByteArray} (h : s.size ≤ 9) : ∀ u ∈ [Value.string s], u.oneCell' = true ∧ isS u := fun u hu => by
 obtain rfl := List.mem_singleton.1 hu
 exact ⟨rfl, _, rfl, h⟩
section
variable {ops : Array Oper} {rest : List Oper} {o : Oper} {a : Act} {Q : Exit → Act → World → Prop} {Kc : Act → World → Prop}
theorem g1 {w0 W : World} {base : Nat} (m : Nat) (s x : Operand) (v : Value) (n : Nat) (ys : List Value) (hm : ys.length = m) (h1 : ∀ u ∈ ys, u.oneCell' = true ∧ isS u) (HO : q3f W base TST 1 n isS v) (HB : Below base w0 W) (hbase : base ≤ W.heap.size) (hl : n + m ≤ 1000000)
 (h : ∀ A c w1, q3f w1 base TST 1 (n + m) isS (.slice A (n + m) c) → Below base w0 w1 → W.grownBy w1 v.ownBlock → ((Value.slice A (n + m) c).ownBlock = v.ownBlock ∨ ∃ b, (Value.slice A (n + m) c).ownBlock = some b ∧ W.heap.size ≤ b) → wpList Tryz.prog ops Q rest (a.put o.dst (.slice A (n + m) c)) w1)
 (hgd : o.guard = none := by rfl) (ho : o.op = .call { callee := .builtin .append, args := #[s, x], argTypes := #[26, 26] } := by rfl) (hs : a.eval s = v := by rfl) (hx : a.eval x = .slice (some ⟨W.heap.size, 0, none⟩) m m := by rfl) :
 wpList Tryz.prog ops Q (o :: rest) a (W.alloc (.cells ys.toArray TST)) :=
 v0t (p := isS) base m hgd s x 26 TST (.string ⟨#[]⟩) 1 16 ho Tryz.underlying26 (by kernel_rfl) rfl (by decide) (by decide) v n ys hs hx (by omega) h1 HO HB hbase (by omega) h
theorem s1 {w0 W : World} {base : Nat} (s x : Operand) (v : Value) (n : Nat) (y : ByteArray) (h9 : y.size ≤ 9) (HO : q3f W base TST 1 n isS v) (HB : Below base w0 W) (hbase : base ≤ W.heap.size) (hl : n + 1 ≤ 1000000)
 (h : ∀ A c w1, q3f w1 base TST 1 (n + 1) isS (.slice A (n + 1) c) → Below base w0 w1 → W.grownBy w1 v.ownBlock → ((Value.slice A (n + 1) c).ownBlock = v.ownBlock ∨ ∃ b, (Value.slice A (n + 1) c).ownBlock = some b ∧ W.heap.size ≤ b) → Kc (a.put o.dst (.slice A (n + 1) c)) w1)
 (hw : Region.wanted o (yielded ops a.tmps) = true := by rfl) (ho : o.op = .call { callee := .builtin .append, args := #[s, x], argTypes := #[26, 26] } := by rfl) (hs : a.eval s = v := by rfl) (hx : a.eval x = .slice (some ⟨W.heap.size, 0, none⟩) 1 1 := by rfl) :
 if Region.wanted o (yielded ops a.tmps) = true then Oper.wp Tryz.prog o a (W.alloc (.cells #[.string y] TST)) Kc Q else Kc (a.put o.dst undef) (W.alloc (.cells #[.string y] TST)) :=
 v8e (p := isS) base hw s x 26 TST (.string ⟨#[]⟩) 1 16 ho Tryz.underlying26 (by kernel_rfl) rfl (by decide) (by decide) v n [.string y] hs hx rfl (h1S h9) HO HB hbase (by omega) h
end
def k1e (base : Nat) (w0 : World) (e : Ending) (w' : World) : Prop :=
 ∃ (L : ByteArray) (A1 : Option Addr) (n1 c1 : Nat) (S R : ByteArray) (A4 : Option Addr) (n4 c4 : Nat) (A5 : Option Addr) (n5 c5 : Nat) (A6 : Option Addr) (n6 c6 : Nat) (G : ByteArray), e = .returned (.agg #[.string L, .slice A1 n1 c1, .string S, .string R, .slice A4 n4 c4, .slice A5 n5 c5, .slice A6 n6 c6, .string G]) ∧
  (L.size ≤ 9 ∧ S.size ≤ 9 ∧ R.size ≤ 9 ∧ G.size ≤ 9 ∧ n1 ≤ 1 ∧ n4 ≤ 6 ∧ n5 ≤ 6 ∧ n6 ≤ 5) ∧ Rw w' base n1 (.slice A1 n1 c1) n4 (.slice A4 n4 c4) n5 (.slice A5 n5 c5) n6 (.slice A6 n6 c6) ∧ Below base w0 w'
theorem v8h {W W1 : World} {R n1 n4 n5 n6 g : Nat} {v1 v4 v5 v6 : Value} (h : q0c (Rw W R n1 v1 n4 v4 n5 v5 n6 v6)) (x : ByteArray) (hg : g = W.heap.size) (hb : R ≤ g) (hbox : W1.heap[g]? = some (.cells #[.string x] TST (0, 0))) : q0c (Own W1 R (.slice (some ⟨g, 0, none⟩) 1 1) [x] ∧ q5b (.slice (some ⟨g, 0, none⟩) 1 1) v4 ∧ q5b (.slice (some ⟨g, 0, none⟩) 1 1) v6) := by
 refine ⟨v0p [x] (by simp) (by simp) hb hbox, ?_, ?_⟩
 · obtain ⟨_, ho, _⟩ := h.out.2.1
   exact v3y (Nat.le_of_eq hg.symm) ho
 · obtain ⟨_, ho, _⟩ := h.out.2.2.2.1
   exact v3y (Nat.le_of_eq hg.symm) ho
theorem j0q {W W1 : World} {R : Nat} {v a b : Value} {l : List ByteArray} (h : q0c (Own W R v l ∧ q5b v a ∧ q5b v b)) (hb : Below W.heap.size W W1) : q0c (Own W1 R v l ∧ q5b v a ∧ q5b v b) := ⟨q1o h.out.1 hb, h.out.2⟩
theorem z5i (L S R G : ByteArray) (A1 A4 A5 A6 : Option Addr) (n1 c1 n4 c4 n5 c5 n6 c6 : Nat) (od : Int) (w0 w : World) (hB : Below w0.heap.size w0 w) (hn1 : n1 ≤ 1) (hn : n4 ≤ 4 ∧ n5 ≤ 4 ∧ n6 ≤ 4) (hz : L.size ≤ 9 ∧ S.size ≤ 9 ∧ R.size ≤ 9 ∧ G.size ≤ 9) (hr : Rw w w0.heap.size n1 (.slice A1 n1 c1) n4 (.slice A4 n4 c4) n5 (.slice A5 n5 c5) n6 (.slice A6 n6 c6)) (hT : ∃ y, q1c.f 20 L = some y ∧ y.size ≤ 9) (b0 : Nat) (cs0 : Array Value) (h0 : w.heap[b0]? = some (.cells cs0 33 (0, 0))) :
 Calls Tryz.prog 40 #[.agg #[.string L, .slice A1 n1 c1, .string S, .string R, .slice A4 n4 c4, .slice A5 n5 c5, .slice A6 n6 c6, .string G], .int .i64 od] w fun e w' => k1e w0.heap.size w0 e w' ∧ w'.heap[b0]? = some (.cells cs0 33 (0, 0)) := by
 have hu44 := Tryz.underlying33
 obtain ⟨L2, ht, hl2⟩ := hT
 have HT := aq ht
 have HL2 := aq hl2
 have HN := aq hn
 have HZ := aq hz
 have RR := aq hr
 have B0 := aq hB
 have K_b0 := aq h0
 clear ht hl2 hn hz hr hB h0
 go_enter Tryz.func40, Tryz.ntmps40
 go_upto_block 0 with (first
  | ((with_reducible refine q3l (N := 2) rfl ?_); refine be 2 #[.string L, .slice A1 n1 c1, .string S, .string R, .slice A4 n4 c4, .slice A5 n5 c5, .slice A6 n6 c6, .string G] 33 ?_; intro b2 hg v1 hbox hb; have N_b0_b2 := kn K_b0 hg; have G_b2 := aq (show w0.heap.size ≤ b2 by rw [hg]; exact B0.out.size); replace RR := rb RR hb; replace K_b0 := kb K_b0 hb; replace B0 := bb B0 hb; have K_b2 := aq hbox; clear hb hbox hg)
  | ((with_reducible refine q3l (N := 4) rfl ?_); refine be 4 #[.string ⟨#[]⟩, .slice none 0 0, .string ⟨#[]⟩, .string ⟨#[]⟩, .slice none 0 0, .slice none 0 0, .slice none 0 0, .string ⟨#[]⟩] 33 ?_; intro b4 hg v2 hbox hb; have N_b0_b4 := kn K_b0 hg; have N_b2_b4 := kn K_b2 hg; have G_b4 := aq (show w0.heap.size ≤ b4 by rw [hg]; exact B0.out.size); replace RR := rb RR hb; replace K_b0 := kb K_b0 hb; replace K_b2 := kb K_b2 hb; replace B0 := bb B0 hb; have K_b4 := aq hbox; clear hb hbox hg))
 go_cut [] from 5 to 53 (fun wr => ∃ (L S R G : ByteArray) (n4 : Nat) (A4 : Option Addr) (c4 n5 : Nat) (A5 : Option Addr) (c5 n6 : Nat) (A6 : Option Addr) (c6 : Nat), q0c ((L.size ≤ 9 ∧ S.size ≤ 9 ∧ R.size ≤ 9 ∧ G.size ≤ 9) ∧ n4 ≤ 6 ∧ n5 ≤ 6 ∧ n6 ≤ 5) ∧ q0c (Rw wr w0.heap.size n1 (.slice A1 n1 c1) n4 (.slice A4 n4 c4) n5 (.slice A5 n5 c5) n6 (.slice A6 n6 c6)) ∧ q0c (Below w0.heap.size w0 wr) ∧ q0c (wr.heap[b0]? = some (.cells cs0 33 (0, 0))) ∧ q0c (wr.heap[b2]? = some (.cells #[.string L, .slice A1 n1 c1, .string S, .string R, .slice A4 n4 c4, .slice A5 n5 c5, .slice A6 n6 c6, .string G] 33 (0, 0))) ∧ q0c (wr.heap[b4]? = some (.cells #[.string ⟨#[]⟩, .slice none 0 0, .string ⟨#[]⟩, .string ⟨#[]⟩, .slice none 0 0, .slice none 0 0, .slice none 0 0, .string ⟨#[]⟩] 33 (0, 0))))
 case first =>
  by_cases e1 : od = 1
  · have d1 : (od == 1) = true := by simp [e1]
    clear e1
    obtain ⟨y_b2_0, y_b2_1, y_b2_2, y_b2_3, y_b2_4, y_b2_5, y_b2_6, y_b2_7⟩ := cz8 K_b2.out
    go_wp2_with (first
     | ((with_reducible refine q1d (b := .append) (xs := #[.tmp 9, .tmp 10]) rfl ?_); at_builtin; refine g1 (w0 := w0) 2 (.tmp 9) (.tmp 10) (.slice A4 n4 c4) (n4) [.string ⟨#[102, 111, 110, 105, 112, 97]⟩, .string ⟨#[102, 111, 110, 105, 112, 97]⟩] rfl (fun u hu => by (simp only [List.mem_cons, List.not_mem_nil, or_false] at hu; rcases hu with rfl | rfl <;> exact ⟨rfl, _, rfl, by decide⟩)) (RR.out.2.1) B0.out B0.out.size ?hl ?_; (case hl => have := HN.out; omega); intro A7 c7 v3 ho hb hg hat; clear y_b2_0 y_b2_1 y_b2_2 y_b2_3 y_b2_4 y_b2_5 y_b2_6 y_b2_7; replace K_b0 := kg (RR.out.2.1) hg K_b0; replace K_b2 := kg (RR.out.2.1) hg K_b2; replace K_b4 := kg (RR.out.2.1) hg K_b4; replace RR := rg4 RR ho hg hat; replace B0 := aq hb; clear ho hb hg hat)
     | ((with_reducible refine q9q (.store 26 (.tmp 12) (.tmp 11)) rfl ?_); refine pe b2 4 #[.string L, .slice A1 n1 c1, .string S, .string R, .slice A7 (n4 + 2) c7, .slice A5 n5 c5, .slice A6 n6 c6, .string G] [.slice A7 (n4 + 2) c7] K_b2.out ?_; intro v4 hk hp; replace RR := rp RR hp K_b2.out; replace K_b0 := kp K_b0 hp N_b0_b2.out; replace K_b4 := kp K_b4 hp (Ne.symm N_b2_b4.out); replace B0 := bp B0 hp G_b2.out; replace K_b2 := aq hk; clear hk hp))
    go_meet
    have hn := HN.out
    exact ⟨_, _, _, _, _, _, _, _, _, _, _, _, _, ⟨⟨HZ.out.1, HZ.out.2.1, HZ.out.2.2.1, HZ.out.2.2.2⟩, by omega, by omega, by omega⟩, RR, B0, K_b0, K_b2, K_b4⟩
  have d1 : (od == 1) = false := by simp [e1]
  clear e1
  by_cases e2 : od = 2
  · have d2 : (od == 2) = true := by simp [e2]
    clear e2
    obtain ⟨y_b2_0, y_b2_1, y_b2_2, y_b2_3, y_b2_4, y_b2_5, y_b2_6, y_b2_7⟩ := cz8 K_b2.out
    go_wp2_with (first
     | ((with_reducible refine q0s (f := 72) rfl ?_); refine q2e (some 17) rfl rfl Tryz.func72 (by kernel_rfl) rfl #[.string L] rfl mq ?_; (with_reducible refine (q1c.calls 20 L L2 _ HT.out).mono ?_); rintro e v5 ⟨rfl, hb⟩; refine ⟨_, rfl, ?_⟩; clear y_b2_0 y_b2_1 y_b2_2 y_b2_3 y_b2_4 y_b2_5 y_b2_6 y_b2_7; replace RR := rb RR hb; replace K_b0 := kb K_b0 hb; replace K_b2 := kb K_b2 hb; replace K_b4 := kb K_b4 hb; replace B0 := bb B0 hb; clear hb)
     | ((with_reducible refine q9q (.store 9 (.tmp 18) (.tmp 17)) rfl ?_); refine pe b2 0 #[.string L2, .slice A1 n1 c1, .string S, .string R, .slice A4 n4 c4, .slice A5 n5 c5, .slice A6 n6 c6, .string G] [.string L2] K_b2.out ?_; intro v6 hk hp; replace RR := rp RR hp K_b2.out; replace K_b0 := kp K_b0 hp N_b0_b2.out; replace K_b4 := kp K_b4 hp (Ne.symm N_b2_b4.out); replace B0 := bp B0 hp G_b2.out; replace K_b2 := aq hk; clear hk hp))
    go_meet
    have hn := HN.out
    exact ⟨_, _, _, _, _, _, _, _, _, _, _, _, _, ⟨⟨HL2.out, HZ.out.2.1, HZ.out.2.2.1, HZ.out.2.2.2⟩, by omega, by omega, by omega⟩, RR, B0, K_b0, K_b2, K_b4⟩
  have d2 : (od == 2) = false := by simp [e2]
  clear e2
  by_cases e3 : od = 3
  · have d3 : (od == 3) = true := by simp [e3]
    clear e3
    obtain ⟨y_b2_0, y_b2_1, y_b2_2, y_b2_3, y_b2_4, y_b2_5, y_b2_6, y_b2_7⟩ := cz8 K_b2.out
    go_wp2_with (first
     | ((with_reducible refine q1d (b := .append) (xs := #[.tmp 22, .tmp 24]) rfl ?_); at_builtin; refine q8p (w0 := w0) (w0.heap.size) 1 rfl (.tmp 22) (.tmp 24) rfl (.slice A5 n5 c5) (.slice A4 n4 c4) (.slice A6 n6 c6) (n5) [(⟨#[98]⟩, .slice none 0 0, [])] [.string ⟨#[98]⟩, .slice none 0 0] rfl rfl ?hx rfl ?h1 RR.out.2.2.1 ?HY ?HS B0.out B0.out.size ?hl ?_; (case hx => rfl); (case h1 => simp [Value.oneCell']); (case HY => exact fun y hy => by (obtain rfl := List.mem_singleton.1 hy; exact ⟨q3a _ _ _ _, ne_nil _, ne_nil _⟩)); (case HS => exact fun y hy => by (obtain rfl := List.mem_singleton.1 hy; exact ⟨by decide, by decide, fun z hz => by cases hz⟩)); (case hl => have := HN.out; omega); intro A7 c7 v7 ho hb hg hat; clear y_b2_0 y_b2_1 y_b2_2 y_b2_3 y_b2_4 y_b2_5 y_b2_6 y_b2_7; replace K_b0 := kg (RR.out.2.2.1.toP) hg K_b0; replace K_b2 := kg (RR.out.2.2.1.toP) hg K_b2; replace K_b4 := kg (RR.out.2.2.1.toP) hg K_b4; replace RR := rg5 RR ho hg; replace B0 := aq hb; clear ho hb hg hat)
     | ((with_reducible refine q9q (.store 31 (.tmp 26) (.tmp 25)) rfl ?_); refine pe b2 5 #[.string L, .slice A1 n1 c1, .string S, .string R, .slice A4 n4 c4, .slice A7 (n5 + 1) c7, .slice A6 n6 c6, .string G] [.slice A7 (n5 + 1) c7] K_b2.out ?_; intro v8 hk hp; replace RR := rp RR hp K_b2.out; replace K_b0 := kp K_b0 hp N_b0_b2.out; replace K_b4 := kp K_b4 hp (Ne.symm N_b2_b4.out); replace B0 := bp B0 hp G_b2.out; replace K_b2 := aq hk; clear hk hp))
    go_meet
    have hn := HN.out
    exact ⟨_, _, _, _, _, _, _, _, _, _, _, _, _, ⟨⟨HZ.out.1, HZ.out.2.1, HZ.out.2.2.1, HZ.out.2.2.2⟩, by omega, by omega, by omega⟩, RR, B0, K_b0, K_b2, K_b4⟩
  have d3 : (od == 3) = false := by simp [e3]
  clear e3
  by_cases e4 : od = 4
  · have d4 : (od == 4) = true := by simp [e4]
    clear e4
    obtain ⟨y_b2_0, y_b2_1, y_b2_2, y_b2_3, y_b2_4, y_b2_5, y_b2_6, y_b2_7⟩ := cz8 K_b2.out
    go_wp2_with (first
     | ((with_reducible refine q9q (.store 9 (.tmp 29) (.const (.string ⟨#[108, 97, 116]⟩))) rfl ?_); refine pe b2 2 #[.string L, .slice A1 n1 c1, .string ⟨#[108, 97, 116]⟩, .string R, .slice A4 n4 c4, .slice A5 n5 c5, .slice A6 n6 c6, .string G] [.string ⟨#[108, 97, 116]⟩] K_b2.out ?_; intro v9 hk hp; clear y_b2_0 y_b2_1 y_b2_2 y_b2_3 y_b2_4 y_b2_5 y_b2_6 y_b2_7; replace RR := rp RR hp K_b2.out; replace K_b0 := kp K_b0 hp N_b0_b2.out; replace K_b4 := kp K_b4 hp (Ne.symm N_b2_b4.out); replace B0 := bp B0 hp G_b2.out; replace K_b2 := aq hk; clear hk hp))
    go_meet
    have hn := HN.out
    exact ⟨_, _, _, _, _, _, _, _, _, _, _, _, _, ⟨⟨HZ.out.1, by decide, HZ.out.2.2.1, HZ.out.2.2.2⟩, by omega, by omega, by omega⟩, RR, B0, K_b0, K_b2, K_b4⟩
  have d4 : (od == 4) = false := by simp [e4]
  clear e4
  by_cases e5 : od = 5
  · have d5 : (od == 5) = true := by simp [e5]
    clear e5
    obtain ⟨y_b2_0, y_b2_1, y_b2_2, y_b2_3, y_b2_4, y_b2_5, y_b2_6, y_b2_7⟩ := cz8 K_b2.out
    go_wp2_with (first
     | ((with_reducible refine q9q (.store 9 (.tmp 32) (.const (.string ⟨#[105, 45, 97, 109, 105]⟩))) rfl ?_); refine pe b2 7 #[.string L, .slice A1 n1 c1, .string S, .string R, .slice A4 n4 c4, .slice A5 n5 c5, .slice A6 n6 c6, .string ⟨#[105, 45, 97, 109, 105]⟩] [.string ⟨#[105, 45, 97, 109, 105]⟩] K_b2.out ?_; intro v10 hk hp; clear y_b2_0 y_b2_1 y_b2_2 y_b2_3 y_b2_4 y_b2_5 y_b2_6 y_b2_7; replace RR := rp RR hp K_b2.out; replace K_b0 := kp K_b0 hp N_b0_b2.out; replace K_b4 := kp K_b4 hp (Ne.symm N_b2_b4.out); replace B0 := bp B0 hp G_b2.out; replace K_b2 := aq hk; clear hk hp))
    go_meet
    have hn := HN.out
    exact ⟨_, _, _, _, _, _, _, _, _, _, _, _, _, ⟨⟨HZ.out.1, HZ.out.2.1, HZ.out.2.2.1, by decide⟩, by omega, by omega, by omega⟩, RR, B0, K_b0, K_b2, K_b4⟩
  have d5 : (od == 5) = false := by simp [e5]
  clear e5
  by_cases e6 : od = 6
  · have d6 : (od == 6) = true := by simp [e6]
    clear e6
    obtain ⟨y_b2_0, y_b2_1, y_b2_2, y_b2_3, y_b2_4, y_b2_5, y_b2_6, y_b2_7⟩ := cz8 K_b2.out
    go_wp2_with (first
     | ((with_reducible refine q1d (b := .append) (xs := #[.tmp 36, .tmp 37]) rfl ?_); at_builtin; refine g1 (w0 := w0) 1 (.tmp 36) (.tmp 37) (.slice A6 n6 c6) (n6) [.string ⟨#[97, 98, 99, 100, 101, 102, 103, 104, 105]⟩] rfl (h1S (by decide)) (RR.out.2.2.2.1) B0.out B0.out.size ?hl ?_; (case hl => have := HN.out; omega); intro A7 c7 v11 ho hb hg hat; clear y_b2_0 y_b2_1 y_b2_2 y_b2_3 y_b2_4 y_b2_5 y_b2_6 y_b2_7; replace K_b0 := kg (RR.out.2.2.2.1) hg K_b0; replace K_b2 := kg (RR.out.2.2.2.1) hg K_b2; replace K_b4 := kg (RR.out.2.2.2.1) hg K_b4; replace RR := rg6 RR ho hg hat; replace B0 := aq hb; clear ho hb hg hat)
     | ((with_reducible refine q9q (.store 26 (.tmp 39) (.tmp 38)) rfl ?_); refine pe b2 6 #[.string L, .slice A1 n1 c1, .string S, .string R, .slice A4 n4 c4, .slice A5 n5 c5, .slice A7 (n6 + 1) c7, .string G] [.slice A7 (n6 + 1) c7] K_b2.out ?_; intro v12 hk hp; replace RR := rp RR hp K_b2.out; replace K_b0 := kp K_b0 hp N_b0_b2.out; replace K_b4 := kp K_b4 hp (Ne.symm N_b2_b4.out); replace B0 := bp B0 hp G_b2.out; replace K_b2 := aq hk; clear hk hp))
    go_meet
    have hn := HN.out
    exact ⟨_, _, _, _, _, _, _, _, _, _, _, _, _, ⟨⟨HZ.out.1, HZ.out.2.1, HZ.out.2.2.1, HZ.out.2.2.2⟩, by omega, by omega, by omega⟩, RR, B0, K_b0, K_b2, K_b4⟩
  have d6 : (od == 6) = false := by simp [e6]
  clear e6
  by_cases e7 : od = 7
  · have d7 : (od == 7) = true := by simp [e7]
    clear e7
    obtain ⟨y_b2_0, y_b2_1, y_b2_2, y_b2_3, y_b2_4, y_b2_5, y_b2_6, y_b2_7⟩ := cz8 K_b2.out
    go_wp2_with (first
     | ((with_reducible refine q3l (N := 44) rfl ?_); refine q7e ?hg (N := 44) ?hd (cs := #[.string ⟨#[97, 98]⟩]) (e := 9) (n := 1) ?hr ?_; (case hd => rfl); (case hg => rfl); (case hr => first | (go_simp; done) | (go_simp; rfl)); intro g1 hg v13 hbox hb; clear y_b2_0 y_b2_1 y_b2_2 y_b2_3 y_b2_4 y_b2_5 y_b2_6 y_b2_7; have I_g1 := v8h RR ⟨#[97, 98]⟩ hg (by rw [hg]; exact B0.out.size) hbox; replace RR := rb RR hb; replace K_b0 := kb K_b0 hb; replace K_b2 := kb K_b2 hb; replace K_b4 := kb K_b4 hb; replace B0 := bb B0 hb; clear hb hbox hg)
     | ((with_reducible refine q3l (N := 46) rfl ?_); refine q7e ?hg (N := 46) ?hd (cs := #[.string ⟨#[99, 100]⟩]) (e := 9) (n := 1) ?hr ?_; (case hd => rfl); (case hg => rfl); (case hr => first | (go_simp; done) | (go_simp; rfl)); intro g2 hg v14 hbox hb; have I_g2 := v8h RR ⟨#[99, 100]⟩ hg (by rw [hg]; exact B0.out.size) hbox; replace I_g1 := j0q I_g1 hb; replace RR := rb RR hb; replace K_b0 := kb K_b0 hb; replace K_b2 := kb K_b2 hb; replace K_b4 := kb K_b4 hb; replace B0 := bb B0 hb; clear hb hbox hg)
     | ((with_reducible refine q1d (b := .append) (xs := #[.tmp 43, .tmp 48]) rfl ?_); at_builtin; refine q8p (w0 := w0) (w0.heap.size) 2 rfl (.tmp 43) (.tmp 48) rfl (.slice A5 n5 c5) (.slice A4 n4 c4) (.slice A6 n6 c6) (n5) [(⟨#[99]⟩, .slice (some ⟨g1, 0, none⟩) 1 1, [⟨#[97, 98]⟩]), (⟨#[99]⟩, .slice (some ⟨g2, 0, none⟩) 1 1, [⟨#[99, 100]⟩])] [.string ⟨#[99]⟩, .slice (some ⟨g1, 0, none⟩) 1 1, .string ⟨#[99]⟩, .slice (some ⟨g2, 0, none⟩) 1 1] rfl rfl ?hx rfl ?h1 RR.out.2.2.1 ?HY ?HS B0.out B0.out.size ?hl ?_; (case hx => rfl); (case h1 => simp [Value.oneCell']); (case HY => exact fun y hy => by (rcases List.mem_cons.1 hy with rfl | hy; (· exact I_g1.out); obtain rfl := List.mem_singleton.1 hy; exact I_g2.out)); (case HS => exact fun y hy => by (rcases List.mem_cons.1 hy with rfl | hy; (· exact ⟨Nat.le_of_ble_eq_true rfl, Nat.le_of_ble_eq_true rfl, fun z hz => by (obtain rfl := List.mem_singleton.1 hz; exact Nat.le_of_ble_eq_true rfl)⟩); obtain rfl := List.mem_singleton.1 hy; exact ⟨Nat.le_of_ble_eq_true rfl, Nat.le_of_ble_eq_true rfl, fun z hz => by (obtain rfl := List.mem_singleton.1 hz; exact Nat.le_of_ble_eq_true rfl)⟩)); (case hl => have := HN.out; omega); intro A7 c7 v15 ho hb hg hat; replace K_b0 := kg (RR.out.2.2.1.toP) hg K_b0; replace K_b2 := kg (RR.out.2.2.1.toP) hg K_b2; replace K_b4 := kg (RR.out.2.2.1.toP) hg K_b4; replace RR := rg5 RR ho hg; replace B0 := aq hb; clear ho hb hg hat)
     | ((with_reducible refine q9q (.store 31 (.tmp 50) (.tmp 49)) rfl ?_); refine pe b2 5 #[.string L, .slice A1 n1 c1, .string S, .string R, .slice A4 n4 c4, .slice A7 (n5 + 2) c7, .slice A6 n6 c6, .string G] [.slice A7 (n5 + 2) c7] K_b2.out ?_; intro v16 hk hp; replace RR := rp RR hp K_b2.out; replace K_b0 := kp K_b0 hp N_b0_b2.out; replace K_b4 := kp K_b4 hp (Ne.symm N_b2_b4.out); replace B0 := bp B0 hp G_b2.out; replace K_b2 := aq hk; clear hk hp))
    go_meet
    have hn := HN.out
    exact ⟨_, _, _, _, _, _, _, _, _, _, _, _, _, ⟨⟨HZ.out.1, HZ.out.2.1, HZ.out.2.2.1, HZ.out.2.2.2⟩, by omega, by omega, by omega⟩, RR, B0, K_b0, K_b2, K_b4⟩
  have d7 : (od == 7) = false := by simp [e7]
  clear e7
  by_cases e8 : od = 8
  · have d8 : (od == 8) = true := by simp [e8]
    clear e8
    obtain ⟨y_b2_0, y_b2_1, y_b2_2, y_b2_3, y_b2_4, y_b2_5, y_b2_6, y_b2_7⟩ := cz8 K_b2.out
    go_wp2_with (first
     | ((with_reducible refine q9q (.store 9 (.tmp 53) (.const (.string ⟨#[]⟩))) rfl ?_); refine pe b2 0 #[.string ⟨#[]⟩, .slice A1 n1 c1, .string S, .string R, .slice A4 n4 c4, .slice A5 n5 c5, .slice A6 n6 c6, .string G] [.string ⟨#[]⟩] K_b2.out ?_; intro v17 hk hp; clear y_b2_0 y_b2_1 y_b2_2 y_b2_3 y_b2_4 y_b2_5 y_b2_6 y_b2_7; replace RR := rp RR hp K_b2.out; replace K_b0 := kp K_b0 hp N_b0_b2.out; replace K_b4 := kp K_b4 hp (Ne.symm N_b2_b4.out); replace B0 := bp B0 hp G_b2.out; replace K_b2 := aq hk; clear hk hp))
    go_meet
    have hn := HN.out
    exact ⟨_, _, _, _, _, _, _, _, _, _, _, _, _, ⟨⟨by decide, HZ.out.2.1, HZ.out.2.2.1, HZ.out.2.2.2⟩, by omega, by omega, by omega⟩, RR, B0, K_b0, K_b2, K_b4⟩
  have d8 : (od == 8) = false := by simp [e8]
  clear e8
  go_wp2
  go_meet
  have hn := HN.out
  exact ⟨_, _, _, _, _, _, _, _, _, _, _, _, _, ⟨⟨HZ.out.1, HZ.out.2.1, HZ.out.2.2.1, HZ.out.2.2.2⟩, by omega, by omega, by omega⟩, RR, B0, K_b0, K_b2, K_b4⟩
 case rest =>
 clear RR B0 K_b0 K_b2 K_b4 HZ HN
 obtain ⟨L, S, R, G, n4, A4, c4, n5, A5, c5, n6, A6, c6, HZ, RR, B0, K_b0, K_b2, K_b4⟩ := hcut
 generalize wc = z1 at *
 obtain ⟨y_b2_0, y_b2_1, y_b2_2, y_b2_3, y_b2_4, y_b2_5, y_b2_6, y_b2_7⟩ := cz8 K_b2.out
 go_wp2_with (first
  | ((with_reducible refine q9q (.store 33 (.tmp 4) (.tmp 54)) rfl ?_); refine pe b4 0 #[.string L, .slice A1 n1 c1, .string S, .string R, .slice A4 n4 c4, .slice A5 n5 c5, .slice A6 n6 c6, .string G] [.string L, .slice A1 n1 c1, .string S, .string R, .slice A4 n4 c4, .slice A5 n5 c5, .slice A6 n6 c6, .string G] K_b4.out ?_; intro v99 hk hp; clear y_b2_0 y_b2_1 y_b2_2 y_b2_3 y_b2_4 y_b2_5 y_b2_6 y_b2_7; replace RR := rp RR hp K_b4.out; replace K_b0 := kp K_b0 hp N_b0_b4.out; replace K_b2 := kp K_b2 hp N_b2_b4.out; replace B0 := bp B0 hp G_b4.out; replace K_b4 := aq hk; clear hk hp))
 refine bodyPost_ret (results_cell_row rfl _ _ b4 33 #[.string L, .slice A1 n1 c1, .string S, .string R, .slice A4 n4 c4, .slice A5 n5 c5, .slice A6 n6 c6, .string G] (0, 0) _ rfl K_b4.out hu44 rfl (by kernel_rfl)) rfl ?_
 exact ⟨⟨_, _, _, _, _, _, _, _, _, _, _, _, _, _, _, _, rfl, ⟨HZ.out.1.1, HZ.out.1.2.1, HZ.out.1.2.2.1, HZ.out.1.2.2.2, hn1, HZ.out.2⟩, RR.out, B0.out⟩, K_b0.out⟩
end Go.Proofs.YtpmcfckechjppaaGreatDoor.Ps
