/- isoglossref13.likely, walked: rows of its own, whatever the world. -/
import Derived.Test.YtdjbanhoejegjaaDqPut
import Derived.Test.YtdjbanhoejegjaaDqP1
import Derived.StillTailTactics
namespace Go.Proofs.Ytdjbanhoejegjaa.LikW
open Go.RowKit Go.Proofs.YtdjbanhoejegjaaW.PrintWords Go.Proofs.YtdjbanhoejegjaaW.PrintLast Go.Proofs.Ytdjbanhoejegjaa.P
set_option linter.unusedVariables false
set_option linter.unusedSimpArgs false

theorem rest13_some (x : Int) (n : Int) (h0 : 0 < n) (h1 : n ≤ 1000) : ∃ r, isoglossref13_rest.f x n = some r ∧ 0 ≤ r ∧ r < n := by
  have lo := Int.lt_tmod_of_pos x h0
  have up := Int.tmod_lt_of_pos x h0
  have w : wrap64 (Int.tmod x n + n) = Int.tmod x n + n := by unfold wrap64; omega
  unfold isoglossref13_rest.f
  rw [if_neg (by omega), w]
  exact ⟨_, rfl, Int.tmod_nonneg n (by omega), Int.tmod_lt_of_pos _ h0⟩
def lkL : List ByteArray := [⟨#[101, 110]⟩, ⟨#[122, 104]⟩, ⟨#[115, 114]⟩, ⟨#[104, 101]⟩, ⟨#[100, 101]⟩, ⟨#[114, 117]⟩, ⟨#[102, 105, 108]⟩, ⟨#[114, 111]⟩]
theorem lkL_at (k : Int) (h0 : 0 ≤ k) (h8 : k < 8) (x : ByteArray) (hx : x = lkL.getD k.toNat ⟨#[]⟩) : (#[.string ⟨#[101, 110]⟩, .string ⟨#[122, 104]⟩, .string ⟨#[115, 114]⟩, .string ⟨#[104, 101]⟩, .string ⟨#[100, 101]⟩, .string ⟨#[114, 117]⟩, .string ⟨#[102, 105, 108]⟩, .string ⟨#[114, 111]⟩] : Array Value)[k.toNat]? = some (.string x) := by
  subst hx
  obtain rfl | rfl | rfl | rfl | rfl | rfl | rfl | rfl : k = 0 ∨ k = 1 ∨ k = 2 ∨ k = 3 ∨ k = 4 ∨ k = 5 ∨ k = 6 ∨ k = 7 := by omega
  all_goals rfl
def lkS : List ByteArray := [⟨#[108, 97, 116, 110]⟩, ⟨#[104, 97, 110, 115]⟩, ⟨#[99, 121, 114, 108]⟩, ⟨#[104, 101, 98, 114]⟩, ⟨#[108, 97, 116, 110]⟩, ⟨#[99, 121, 114, 108]⟩, ⟨#[108, 97, 116, 110]⟩, ⟨#[108, 97, 116, 110]⟩]
theorem lkS_at (k : Int) (h0 : 0 ≤ k) (h8 : k < 8) (x : ByteArray) (hx : x = lkS.getD k.toNat ⟨#[]⟩) : (#[.string ⟨#[108, 97, 116, 110]⟩, .string ⟨#[104, 97, 110, 115]⟩, .string ⟨#[99, 121, 114, 108]⟩, .string ⟨#[104, 101, 98, 114]⟩, .string ⟨#[108, 97, 116, 110]⟩, .string ⟨#[99, 121, 114, 108]⟩, .string ⟨#[108, 97, 116, 110]⟩, .string ⟨#[108, 97, 116, 110]⟩] : Array Value)[k.toNat]? = some (.string x) := by
  subst hx
  obtain rfl | rfl | rfl | rfl | rfl | rfl | rfl | rfl : k = 0 ∨ k = 1 ∨ k = 2 ∨ k = 3 ∨ k = 4 ∨ k = 5 ∨ k = 6 ∨ k = 7 := by omega
  all_goals rfl
def lkR : List ByteArray := [⟨#[117, 115]⟩, ⟨#[99, 110]⟩, ⟨#[114, 115]⟩, ⟨#[105, 108]⟩, ⟨#[100, 101]⟩, ⟨#[114, 117]⟩, ⟨#[112, 104]⟩, ⟨#[114, 111]⟩]
theorem lkR_at (k : Int) (h0 : 0 ≤ k) (h8 : k < 8) (x : ByteArray) (hx : x = lkR.getD k.toNat ⟨#[]⟩) : (#[.string ⟨#[117, 115]⟩, .string ⟨#[99, 110]⟩, .string ⟨#[114, 115]⟩, .string ⟨#[105, 108]⟩, .string ⟨#[100, 101]⟩, .string ⟨#[114, 117]⟩, .string ⟨#[112, 104]⟩, .string ⟨#[114, 111]⟩] : Array Value)[k.toNat]? = some (.string x) := by
  subst hx
  obtain rfl | rfl | rfl | rfl | rfl | rfl | rfl | rfl : k = 0 ∨ k = 1 ∨ k = 2 ∨ k = 3 ∨ k = 4 ∨ k = 5 ∨ k = 6 ∨ k = 7 := by omega
  all_goals rfl
def likR (j : Int) (xl xs xr : ByteArray) : List S66 := if j = 0 then [(⟨xl, ⟨#[]⟩, ⟨#[]⟩, xl, xs, xr⟩ : S66)] else if j = 1 then [(⟨xl, ⟨#[]⟩, ⟨#[]⟩, xl, xs, xr⟩ : S66), (⟨xl, ⟨#[]⟩, ⟨#[52, 49, 57]⟩, xl, ⟨#[108, 97, 116, 110]⟩, ⟨#[52, 49, 57]⟩⟩ : S66)] else if j = 2 then [(⟨xl, ⟨#[]⟩, ⟨#[]⟩, xl, xs, xr⟩ : S66), (⟨⟨#[117, 110, 100]⟩, xs, ⟨#[]⟩, xl, xs, xr⟩ : S66)] else if j = 3 then [(⟨xl, ⟨#[]⟩, ⟨#[]⟩, xl, xs, xr⟩ : S66), (⟨xl, ⟨#[104, 97, 110, 116]⟩, ⟨#[]⟩, xl, ⟨#[104, 97, 110, 116]⟩, ⟨#[116, 119]⟩⟩ : S66)] else if j = 4 then [(⟨xl, ⟨#[]⟩, ⟨#[]⟩, xl, xs, xr⟩ : S66), (⟨⟨#[117, 110, 100]⟩, ⟨#[]⟩, xr, xl, xs, xr⟩ : S66)] else if j = 5 then [(⟨xl, ⟨#[]⟩, ⟨#[]⟩, xl, xs, xr⟩ : S66), (⟨xl, ⟨#[108, 97, 116, 110]⟩, ⟨#[103, 98]⟩, xl, ⟨#[108, 97, 116, 110]⟩, ⟨#[103, 98]⟩⟩ : S66)] else []
set_option maxRecDepth 100000 in
set_option maxHeartbeats 4000000 in
theorem likely13_all (n : Int) : ∃ r : List S66, r.length ≤ 2 ∧ ∀ w : World, Calls Try.prog 23 #[.int .i64 n] w fun e w' => ∃ v : Value, e = .returned v ∧ Kd.R k66 66 w' w.heap.size (fun _ => True) v r ∧ Below w.heap.size w w' := by
  have hu66 := Try.underlying66
  obtain ⟨k, hk, hk0, hk8⟩ := rest13_some n 8 (by omega) (by omega)
  obtain ⟨j, hj, hj0, hj6⟩ := rest13_some (wrap64 (Int.tdiv n 8)) 6 (by omega) (by omega)
  obtain ⟨xl, hxl⟩ : ∃ x, x = lkL.getD k.toNat ⟨#[]⟩ := ⟨_, rfl⟩
  obtain ⟨xs, hxs⟩ : ∃ x, x = lkS.getD k.toNat ⟨#[]⟩ := ⟨_, rfl⟩
  obtain ⟨xr, hxr⟩ : ∃ x, x = lkR.getD k.toNat ⟨#[]⟩ := ⟨_, rfl⟩
  have HK := Aside0.mk hk
  have HK0 := Aside0.mk hk0
  have HK8 := Aside0.mk hk8
  have HJ := Aside0.mk hj
  have HJB := Aside0.mk (And.intro hj0 hj6)
  have Hxl := Aside0.mk hxl
  have Hxs := Aside0.mk hxs
  have Hxr := Aside0.mk hxr
  have hK1 : (0 ≤ k) = True := eq_true hk0
  have hK2 : (k < 8) = True := eq_true hk8
  clear hk hj hxl hxs hxr hj0 hj6
  refine ⟨likR j xl xs xr, by unfold likR; (repeat' split) <;> simp, fun w => ?_⟩
  have B0 := Aside0.mk (Below.refl w.heap.size w)
  go_enter Try.func23, Try.ntmps23
  go_wp2_with (first
      | ((with_reducible refine gate_dst (N := 8) rfl ?_); refine lit_event ?hg (N := 8) ?hd (cs := #[.string ⟨#[101, 110]⟩, .string ⟨#[122, 104]⟩, .string ⟨#[115, 114]⟩, .string ⟨#[104, 101]⟩, .string ⟨#[100, 101]⟩, .string ⟨#[114, 117]⟩, .string ⟨#[102, 105, 108]⟩, .string ⟨#[114, 111]⟩]) (e := 9) (n := 8) ?hr ?_; (case hd => rfl); (case hg => rfl); (case hr => first | (go_simp; done) | (go_simp; rfl)); intro g8 hg v1 hbox hb; replace B0 := bb B0 hb; have K_g8 := Aside0.mk hbox; clear hb hbox hg)
      | ((with_reducible refine gate_callee (f := 20) rfl ?_); refine goesL_ (some 10) rfl rfl Try.func20 (by kernel_rfl) rfl #[.int .i64 n, .int .i64 8] rfl mq ?_; (with_reducible refine (isoglossref13_rest.calls n 8 k _ HK.out).mono ?_); rintro e v2 ⟨rfl, hd_⟩; refine ⟨_, rfl, ?_⟩; have hb := hd_.below; replace B0 := bb B0 hb; replace K_g8 := kb K_g8 hb; clear hb hd_)
      | ((with_reducible refine gate_dst (N := 11) rfl ?_); refine lit_event ?hg (N := 11) ?hd (cs := #[.string ⟨#[108, 97, 116, 110]⟩, .string ⟨#[104, 97, 110, 115]⟩, .string ⟨#[99, 121, 114, 108]⟩, .string ⟨#[104, 101, 98, 114]⟩, .string ⟨#[108, 97, 116, 110]⟩, .string ⟨#[99, 121, 114, 108]⟩, .string ⟨#[108, 97, 116, 110]⟩, .string ⟨#[108, 97, 116, 110]⟩]) (e := 9) (n := 8) ?hr ?_; (case hd => rfl); (case hg => rfl); (case hr => first | (go_simp; done) | (go_simp; rfl)); intro g11 hg v3 hbox hb; replace B0 := bb B0 hb; replace K_g8 := kb K_g8 hb; have K_g11 := Aside0.mk hbox; have z_g11 := (blk_cell hbox k.toNat).trans (lkS_at k HK0.out HK8.out xs Hxs.out); clear hb hbox hg)
      | ((with_reducible refine gate_dst (N := 15) rfl ?_); refine lit_event ?hg (N := 15) ?hd (cs := #[.string ⟨#[117, 115]⟩, .string ⟨#[99, 110]⟩, .string ⟨#[114, 115]⟩, .string ⟨#[105, 108]⟩, .string ⟨#[100, 101]⟩, .string ⟨#[114, 117]⟩, .string ⟨#[112, 104]⟩, .string ⟨#[114, 111]⟩]) (e := 9) (n := 8) ?hr ?_; (case hd => rfl); (case hg => rfl); (case hr => first | (go_simp; done) | (go_simp; rfl)); intro g15 hg v4 hbox hb; clear z_g11; replace B0 := bb B0 hb; replace K_g8 := kb K_g8 hb; replace K_g11 := kb K_g11 hb; have K_g15 := Aside0.mk hbox; have z_g15 := (blk_cell hbox k.toNat).trans (lkR_at k HK0.out HK8.out xr Hxr.out); clear hb hbox hg))
  clear z_g15
  refine start_ (n := 13) (S := fun w' => w'.cell? ⟨g8, k.toNat, none⟩ = some (.string xl)) (ds := []) (M 13 0) (by kernel_rfl) rfl rfl ((blk_cell K_g8.out k.toNat).trans (lkL_at k HK0.out HK8.out xl Hxl.out)) (fun hHeld => ?_)
  have hb : Below v4.heap.size v4 v4.drew := below_drew1 (Below.refl _ _)
  generalize v4.drew = u0 at hb hHeld ⊢
  replace B0 := bb B0 hb
  replace K_g8 := kb K_g8 hb
  replace K_g11 := kb K_g11 hb
  replace K_g15 := kb K_g15 hb
  clear hb
  refine pw 0 19 (M 13 1) ?_
  refine pw 1 20 (M 13 3) ?_
  refine pw 2 21 (M 13 7) ?_
  refine pw 4 23 (M 13 23) ?_
  refine pw 5 24 (M 13 55) ?_
  refine pw 6 25 (M 13 119) ?_
  refine pw 8 27 (M 13 375) ?_
  refine pw 9 28 (M 13 887) ?_
  refine tw 3 22 (M 13 895) hHeld ?_
  refine tw 7 26 (M 13 1023) hHeld ?_
  refine pw 10 29 (M 13 2047) ?_
  refine ow 11 (some 7) (M 13 4095) fun K hK => ?_
  refine box_step ?hg (N := 7) ?hd (cs := #[.string ⟨#[]⟩, .string ⟨#[]⟩, .string ⟨#[]⟩, .string ⟨#[]⟩, .string ⟨#[]⟩, .string ⟨#[]⟩]) (t := 66) ?hr ?_; (case hd => rfl); (case hg => rfl); (case hr => first | (go_simp; done) | (go_simp; rfl))
  intro b7 hg v5 hbox hb
  have N_g8_b7 := kn K_g8 hg
  have N_g11_b7 := kn K_g11 hg
  have N_g15_b7 := kn K_g15 hg
  have G_b7 := Aside0.mk (show w.heap.size ≤ b7 by rw [hg]; exact B0.out.size)
  replace B0 := bb B0 hb
  replace K_g8 := kb K_g8 hb
  replace K_g11 := kb K_g11 hb
  replace K_g15 := kb K_g15 hb
  have K_b7 := Aside0.mk hbox
  clear hb hbox hg
  refine hK.out _ _ ((blk_cell K_g8.out k.toNat).trans (lkL_at k HK0.out HK8.out xl Hxl.out)) (fun hHeld => ?_)
  clear hK K
  refine norm_ (a' := ?_) ?_ ?_
  rotate_left
  · show Act.put _ (some 7) _ = _
    simp only [Act.put, List.setIfInBounds_toArray, List.set_cons_zero, List.set_cons_succ, i64_w, i32_w]
    rfl
  refine ow 12 none (M 13 8191) fun K hK => ?_
  refine put_step (g := b7) (off := 0) (cur := #[.string ⟨#[]⟩, .string ⟨#[]⟩, .string ⟨#[]⟩, .string ⟨#[]⟩, .string ⟨#[]⟩, .string ⟨#[]⟩]) (new := #[.string xl, .string ⟨#[]⟩, .string ⟨#[]⟩, .string xl, .string xs, .string xr]) (seg := [.string xl, .string ⟨#[]⟩, .string ⟨#[]⟩, .string xl, .string xs, .string xr]) (u := .agg #[.string xl, .string ⟨#[]⟩, .string ⟨#[]⟩, .string xl, .string xs, .string xr]) rfl rfl rfl rfl rfl rfl (by rfl) (by kernel_rfl) rfl rfl (Nat.le_of_ble_eq_true rfl) K_b7.out ?_
  intro v6 hk hp
  replace B0 := bp B0 hp G_b7.out
  replace K_g8 := kp K_g8 hp N_g8_b7.out
  replace K_g11 := kp K_g11 hp N_g11_b7.out
  replace K_g15 := kp K_g15 hp N_g15_b7.out
  replace K_b7 := Aside0.mk hk
  clear hk hp
  refine hK.out _ _ ((blk_cell K_g8.out k.toNat).trans (lkL_at k HK0.out HK8.out xl Hxl.out)) (fun hHeld => ?_)
  clear hK K
  refine done_ (by kernel_rfl) ?_

  obtain rfl | rfl | rfl | rfl | rfl | rfl : j = 0 ∨ j = 1 ∨ j = 2 ∨ j = 3 ∨ j = 4 ∨ j = 5 := by have := HJB.out; omega
  ·
    go_wp2_with (first
        | ((with_reducible refine gate_callee (f := 20) rfl ?_); refine goesL_ (some 32) rfl rfl Try.func20 (by kernel_rfl) rfl #[.int .i64 (wrap64 (Int.tdiv n 8)), .int .i64 6] rfl mq ?_; (with_reducible refine (isoglossref13_rest.calls _ 6 _ _ HJ.out).mono ?_); rintro e v7 ⟨rfl, hd_⟩; refine ⟨_, rfl, ?_⟩; have hb := hd_.below; replace B0 := bb B0 hb; replace K_g8 := kb K_g8 hb; replace K_g11 := kb K_g11 hb; replace K_g15 := kb K_g15 hb; replace K_b7 := kb K_b7 hb; clear hb hd_; obtain ⟨y_b7_0, y_b7_1, y_b7_2, y_b7_3, y_b7_4, y_b7_5⟩ := cz6 K_b7.out)
        | ((with_reducible refine gate_dst (N := 97) rfl ?_); refine Kd.R_lit k66 (w0 := w) w.heap.size 66 ?hg (N := 97) ?hd (xs := [(⟨xl, ⟨#[]⟩, ⟨#[]⟩, xl, xs, xr⟩ : S66)]) (inner := [.string xl, .string ⟨#[]⟩, .string ⟨#[]⟩, .string xl, .string xs, .string xr]) (ok := fun _ => True) (okp := fun _ => True) ?hr ?hp (fun _ hk => hk) trivial B0.out B0.out.size (by simp) ?_; (case hd => rfl); (case hg => rfl); (case hr => first | (go_simp; done) | (go_simp; rfl)); (case hp => exact (Reps.c6 (show Kd.M k66 _ _ _ (⟨xl, ⟨#[]⟩, ⟨#[]⟩, xl, xs, xr⟩ : S66) [.string xl, .string ⟨#[]⟩, .string ⟨#[]⟩, .string xl, .string xs, .string xr] from k66_mkM _ _ _ _) (Reps.none _ _))); intro vL w9 ho hb hg_ hnew_; have RL := Aside0.mk ho; have BL := Aside0.mk hb; clear ho hb hg_ hnew_))
    go_ret
    exact ⟨_, rfl, RL.out, BL.out⟩
  ·
    go_wp2_with (first
        | ((with_reducible refine gate_callee (f := 20) rfl ?_); refine goesL_ (some 32) rfl rfl Try.func20 (by kernel_rfl) rfl #[.int .i64 (wrap64 (Int.tdiv n 8)), .int .i64 6] rfl mq ?_; (with_reducible refine (isoglossref13_rest.calls _ 6 _ _ HJ.out).mono ?_); rintro e v7 ⟨rfl, hd_⟩; refine ⟨_, rfl, ?_⟩; have hb := hd_.below; replace B0 := bb B0 hb; replace K_g8 := kb K_g8 hb; replace K_g11 := kb K_g11 hb; replace K_g15 := kb K_g15 hb; replace K_b7 := kb K_b7 hb; clear hb hd_; obtain ⟨y_b7_0, y_b7_1, y_b7_2, y_b7_3, y_b7_4, y_b7_5⟩ := cz6 K_b7.out))
    have z8 := (blk_cell K_g8.out k.toNat).trans (lkL_at k HK0.out HK8.out xl Hxl.out)
    go_wp2
    go_still_tail 10, (by kernel_rfl)
    change wpList _ _ _ _ _ (World.drew v7)
    have BD := Aside0.mk (below_drew1 B0.out)
    go_wp2_with ((with_reducible refine gate_dst (N := 45) rfl ?_); refine Kd.R_lit k66 (w0 := w) w.heap.size 66 ?hg (N := 45) ?hd (xs := [(⟨xl, ⟨#[]⟩, ⟨#[]⟩, xl, xs, xr⟩ : S66), (⟨xl, ⟨#[]⟩, ⟨#[52, 49, 57]⟩, xl, ⟨#[108, 97, 116, 110]⟩, ⟨#[52, 49, 57]⟩⟩ : S66)]) (inner := [.string xl, .string ⟨#[]⟩, .string ⟨#[]⟩, .string xl, .string xs, .string xr, .string xl, .string ⟨#[]⟩, .string ⟨#[52, 49, 57]⟩, .string xl, .string ⟨#[108, 97, 116, 110]⟩, .string ⟨#[52, 49, 57]⟩]) (ok := fun _ => True) (okp := fun _ => True) ?hr ?hp (fun _ hk => hk) trivial BD.out BD.out.size (by simp) ?_; (case hd => rfl); (case hg => rfl); (case hr => first | (go_simp; done) | (go_simp; rfl)); (case hp => exact (Reps.c6 (show Kd.M k66 _ _ _ (⟨xl, ⟨#[]⟩, ⟨#[]⟩, xl, xs, xr⟩ : S66) [.string xl, .string ⟨#[]⟩, .string ⟨#[]⟩, .string xl, .string xs, .string xr] from k66_mkM _ _ _ _) (Reps.c6 (show Kd.M k66 _ _ _ (⟨xl, ⟨#[]⟩, ⟨#[52, 49, 57]⟩, xl, ⟨#[108, 97, 116, 110]⟩, ⟨#[52, 49, 57]⟩⟩ : S66) [.string xl, .string ⟨#[]⟩, .string ⟨#[52, 49, 57]⟩, .string xl, .string ⟨#[108, 97, 116, 110]⟩, .string ⟨#[52, 49, 57]⟩] from k66_mkM _ _ _ _) (Reps.none _ _)))); intro vL w9 ho hb hg_ hnew_; have RL := Aside0.mk ho; have BL := Aside0.mk hb; clear ho hb hg_ hnew_)
    go_ret
    exact ⟨_, rfl, RL.out, BL.out⟩
  ·
    go_wp2_with (first
        | ((with_reducible refine gate_callee (f := 20) rfl ?_); refine goesL_ (some 32) rfl rfl Try.func20 (by kernel_rfl) rfl #[.int .i64 (wrap64 (Int.tdiv n 8)), .int .i64 6] rfl mq ?_; (with_reducible refine (isoglossref13_rest.calls _ 6 _ _ HJ.out).mono ?_); rintro e v7 ⟨rfl, hd_⟩; refine ⟨_, rfl, ?_⟩; have hb := hd_.below; replace B0 := bb B0 hb; replace K_g8 := kb K_g8 hb; replace K_g11 := kb K_g11 hb; replace K_g15 := kb K_g15 hb; replace K_b7 := kb K_b7 hb; clear hb hd_; obtain ⟨y_b7_0, y_b7_1, y_b7_2, y_b7_3, y_b7_4, y_b7_5⟩ := cz6 K_b7.out))
    have z8 := (blk_cell K_g8.out k.toNat).trans (lkL_at k HK0.out HK8.out xl Hxl.out)
    go_wp2
    go_still_tail 9, (by kernel_rfl)
    change wpList _ _ _ _ _ (World.drew v7)
    have BD := Aside0.mk (below_drew1 B0.out)
    go_wp2_with ((with_reducible refine gate_dst (N := 57) rfl ?_); refine Kd.R_lit k66 (w0 := w) w.heap.size 66 ?hg (N := 57) ?hd (xs := [(⟨xl, ⟨#[]⟩, ⟨#[]⟩, xl, xs, xr⟩ : S66), (⟨⟨#[117, 110, 100]⟩, xs, ⟨#[]⟩, xl, xs, xr⟩ : S66)]) (inner := [.string xl, .string ⟨#[]⟩, .string ⟨#[]⟩, .string xl, .string xs, .string xr, .string ⟨#[117, 110, 100]⟩, .string xs, .string ⟨#[]⟩, .string xl, .string xs, .string xr]) (ok := fun _ => True) (okp := fun _ => True) ?hr ?hp (fun _ hk => hk) trivial BD.out BD.out.size (by simp) ?_; (case hd => rfl); (case hg => rfl); (case hr => first | (go_simp; done) | (go_simp; rfl)); (case hp => exact (Reps.c6 (show Kd.M k66 _ _ _ (⟨xl, ⟨#[]⟩, ⟨#[]⟩, xl, xs, xr⟩ : S66) [.string xl, .string ⟨#[]⟩, .string ⟨#[]⟩, .string xl, .string xs, .string xr] from k66_mkM _ _ _ _) (Reps.c6 (show Kd.M k66 _ _ _ (⟨⟨#[117, 110, 100]⟩, xs, ⟨#[]⟩, xl, xs, xr⟩ : S66) [.string ⟨#[117, 110, 100]⟩, .string xs, .string ⟨#[]⟩, .string xl, .string xs, .string xr] from k66_mkM _ _ _ _) (Reps.none _ _)))); intro vL w9 ho hb hg_ hnew_; have RL := Aside0.mk ho; have BL := Aside0.mk hb; clear ho hb hg_ hnew_)
    go_ret
    exact ⟨_, rfl, RL.out, BL.out⟩
  ·
    go_wp2_with (first
        | ((with_reducible refine gate_callee (f := 20) rfl ?_); refine goesL_ (some 32) rfl rfl Try.func20 (by kernel_rfl) rfl #[.int .i64 (wrap64 (Int.tdiv n 8)), .int .i64 6] rfl mq ?_; (with_reducible refine (isoglossref13_rest.calls _ 6 _ _ HJ.out).mono ?_); rintro e v7 ⟨rfl, hd_⟩; refine ⟨_, rfl, ?_⟩; have hb := hd_.below; replace B0 := bb B0 hb; replace K_g8 := kb K_g8 hb; replace K_g11 := kb K_g11 hb; replace K_g15 := kb K_g15 hb; replace K_b7 := kb K_b7 hb; clear hb hd_; obtain ⟨y_b7_0, y_b7_1, y_b7_2, y_b7_3, y_b7_4, y_b7_5⟩ := cz6 K_b7.out))
    have z8 := (blk_cell K_g8.out k.toNat).trans (lkL_at k HK0.out HK8.out xl Hxl.out)
    go_wp2
    go_still_tail 10, (by kernel_rfl)
    change wpList _ _ _ _ _ (World.drew v7)
    have BD := Aside0.mk (below_drew1 B0.out)
    go_wp2_with ((with_reducible refine gate_dst (N := 70) rfl ?_); refine Kd.R_lit k66 (w0 := w) w.heap.size 66 ?hg (N := 70) ?hd (xs := [(⟨xl, ⟨#[]⟩, ⟨#[]⟩, xl, xs, xr⟩ : S66), (⟨xl, ⟨#[104, 97, 110, 116]⟩, ⟨#[]⟩, xl, ⟨#[104, 97, 110, 116]⟩, ⟨#[116, 119]⟩⟩ : S66)]) (inner := [.string xl, .string ⟨#[]⟩, .string ⟨#[]⟩, .string xl, .string xs, .string xr, .string xl, .string ⟨#[104, 97, 110, 116]⟩, .string ⟨#[]⟩, .string xl, .string ⟨#[104, 97, 110, 116]⟩, .string ⟨#[116, 119]⟩]) (ok := fun _ => True) (okp := fun _ => True) ?hr ?hp (fun _ hk => hk) trivial BD.out BD.out.size (by simp) ?_; (case hd => rfl); (case hg => rfl); (case hr => first | (go_simp; done) | (go_simp; rfl)); (case hp => exact (Reps.c6 (show Kd.M k66 _ _ _ (⟨xl, ⟨#[]⟩, ⟨#[]⟩, xl, xs, xr⟩ : S66) [.string xl, .string ⟨#[]⟩, .string ⟨#[]⟩, .string xl, .string xs, .string xr] from k66_mkM _ _ _ _) (Reps.c6 (show Kd.M k66 _ _ _ (⟨xl, ⟨#[104, 97, 110, 116]⟩, ⟨#[]⟩, xl, ⟨#[104, 97, 110, 116]⟩, ⟨#[116, 119]⟩⟩ : S66) [.string xl, .string ⟨#[104, 97, 110, 116]⟩, .string ⟨#[]⟩, .string xl, .string ⟨#[104, 97, 110, 116]⟩, .string ⟨#[116, 119]⟩] from k66_mkM _ _ _ _) (Reps.none _ _)))); intro vL w9 ho hb hg_ hnew_; have RL := Aside0.mk ho; have BL := Aside0.mk hb; clear ho hb hg_ hnew_)
    go_ret
    exact ⟨_, rfl, RL.out, BL.out⟩
  ·
    go_wp2_with (first
        | ((with_reducible refine gate_callee (f := 20) rfl ?_); refine goesL_ (some 32) rfl rfl Try.func20 (by kernel_rfl) rfl #[.int .i64 (wrap64 (Int.tdiv n 8)), .int .i64 6] rfl mq ?_; (with_reducible refine (isoglossref13_rest.calls _ 6 _ _ HJ.out).mono ?_); rintro e v7 ⟨rfl, hd_⟩; refine ⟨_, rfl, ?_⟩; have hb := hd_.below; replace B0 := bb B0 hb; replace K_g8 := kb K_g8 hb; replace K_g11 := kb K_g11 hb; replace K_g15 := kb K_g15 hb; replace K_b7 := kb K_b7 hb; clear hb hd_; obtain ⟨y_b7_0, y_b7_1, y_b7_2, y_b7_3, y_b7_4, y_b7_5⟩ := cz6 K_b7.out))
    have z8 := (blk_cell K_g8.out k.toNat).trans (lkL_at k HK0.out HK8.out xl Hxl.out)
    go_wp2
    go_still_tail 9, (by kernel_rfl)
    change wpList _ _ _ _ _ (World.drew v7)
    have BD := Aside0.mk (below_drew1 B0.out)
    go_wp2_with ((with_reducible refine gate_dst (N := 82) rfl ?_); refine Kd.R_lit k66 (w0 := w) w.heap.size 66 ?hg (N := 82) ?hd (xs := [(⟨xl, ⟨#[]⟩, ⟨#[]⟩, xl, xs, xr⟩ : S66), (⟨⟨#[117, 110, 100]⟩, ⟨#[]⟩, xr, xl, xs, xr⟩ : S66)]) (inner := [.string xl, .string ⟨#[]⟩, .string ⟨#[]⟩, .string xl, .string xs, .string xr, .string ⟨#[117, 110, 100]⟩, .string ⟨#[]⟩, .string xr, .string xl, .string xs, .string xr]) (ok := fun _ => True) (okp := fun _ => True) ?hr ?hp (fun _ hk => hk) trivial BD.out BD.out.size (by simp) ?_; (case hd => rfl); (case hg => rfl); (case hr => first | (go_simp; done) | (go_simp; rfl)); (case hp => exact (Reps.c6 (show Kd.M k66 _ _ _ (⟨xl, ⟨#[]⟩, ⟨#[]⟩, xl, xs, xr⟩ : S66) [.string xl, .string ⟨#[]⟩, .string ⟨#[]⟩, .string xl, .string xs, .string xr] from k66_mkM _ _ _ _) (Reps.c6 (show Kd.M k66 _ _ _ (⟨⟨#[117, 110, 100]⟩, ⟨#[]⟩, xr, xl, xs, xr⟩ : S66) [.string ⟨#[117, 110, 100]⟩, .string ⟨#[]⟩, .string xr, .string xl, .string xs, .string xr] from k66_mkM _ _ _ _) (Reps.none _ _)))); intro vL w9 ho hb hg_ hnew_; have RL := Aside0.mk ho; have BL := Aside0.mk hb; clear ho hb hg_ hnew_)
    go_ret
    exact ⟨_, rfl, RL.out, BL.out⟩
  ·
    go_wp2_with (first
        | ((with_reducible refine gate_callee (f := 20) rfl ?_); refine goesL_ (some 32) rfl rfl Try.func20 (by kernel_rfl) rfl #[.int .i64 (wrap64 (Int.tdiv n 8)), .int .i64 6] rfl mq ?_; (with_reducible refine (isoglossref13_rest.calls _ 6 _ _ HJ.out).mono ?_); rintro e v7 ⟨rfl, hd_⟩; refine ⟨_, rfl, ?_⟩; have hb := hd_.below; replace B0 := bb B0 hb; replace K_g8 := kb K_g8 hb; replace K_g11 := kb K_g11 hb; replace K_g15 := kb K_g15 hb; replace K_b7 := kb K_b7 hb; clear hb hd_; obtain ⟨y_b7_0, y_b7_1, y_b7_2, y_b7_3, y_b7_4, y_b7_5⟩ := cz6 K_b7.out))
    have z8 := (blk_cell K_g8.out k.toNat).trans (lkL_at k HK0.out HK8.out xl Hxl.out)
    go_wp2
    go_still_tail 10, (by kernel_rfl)
    change wpList _ _ _ _ _ (World.drew v7)
    have BD := Aside0.mk (below_drew1 B0.out)
    go_wp2_with ((with_reducible refine gate_dst (N := 95) rfl ?_); refine Kd.R_lit k66 (w0 := w) w.heap.size 66 ?hg (N := 95) ?hd (xs := [(⟨xl, ⟨#[]⟩, ⟨#[]⟩, xl, xs, xr⟩ : S66), (⟨xl, ⟨#[108, 97, 116, 110]⟩, ⟨#[103, 98]⟩, xl, ⟨#[108, 97, 116, 110]⟩, ⟨#[103, 98]⟩⟩ : S66)]) (inner := [.string xl, .string ⟨#[]⟩, .string ⟨#[]⟩, .string xl, .string xs, .string xr, .string xl, .string ⟨#[108, 97, 116, 110]⟩, .string ⟨#[103, 98]⟩, .string xl, .string ⟨#[108, 97, 116, 110]⟩, .string ⟨#[103, 98]⟩]) (ok := fun _ => True) (okp := fun _ => True) ?hr ?hp (fun _ hk => hk) trivial BD.out BD.out.size (by simp) ?_; (case hd => rfl); (case hg => rfl); (case hr => first | (go_simp; done) | (go_simp; rfl)); (case hp => exact (Reps.c6 (show Kd.M k66 _ _ _ (⟨xl, ⟨#[]⟩, ⟨#[]⟩, xl, xs, xr⟩ : S66) [.string xl, .string ⟨#[]⟩, .string ⟨#[]⟩, .string xl, .string xs, .string xr] from k66_mkM _ _ _ _) (Reps.c6 (show Kd.M k66 _ _ _ (⟨xl, ⟨#[108, 97, 116, 110]⟩, ⟨#[103, 98]⟩, xl, ⟨#[108, 97, 116, 110]⟩, ⟨#[103, 98]⟩⟩ : S66) [.string xl, .string ⟨#[108, 97, 116, 110]⟩, .string ⟨#[103, 98]⟩, .string xl, .string ⟨#[108, 97, 116, 110]⟩, .string ⟨#[103, 98]⟩] from k66_mkM _ _ _ _) (Reps.none _ _)))); intro vL w9 ho hb hg_ hnew_; have RL := Aside0.mk ho; have BL := Aside0.mk hb; clear ho hb hg_ hnew_)
    go_ret
    exact ⟨_, rfl, RL.out, BL.out⟩
end Go.Proofs.Ytdjbanhoejegjaa.LikW
