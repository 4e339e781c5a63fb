/- The law's awake: the chapter's examples. -/
import Derived.Test.YtdjbanhoejegjaaDqImage
import Derived.Test.YtdjbanhoejegjaaDqDistDist
namespace Go.Proofs.Ytdjbanhoejegjaa.LikW
open Go.RowKit Go.Proofs.YtdjbanhoejegjaaW.PrintWords Go.Proofs.YtdjbanhoejegjaaW.PrintLast Go.Proofs.Ytdjbanhoejegjaa.P
set_option linter.unusedVariables false
set_option linter.unusedSimpArgs false

theorem awake_1 : sumP dRules dMembers (plP dRows (⟨#[110, 98]⟩, ⟨#[]⟩, ⟨#[]⟩)) (plP dRows (⟨#[100, 97]⟩, ⟨#[]⟩, ⟨#[]⟩)) 3 = 8 := by kernel_rfl
theorem awake_2 : sumP dRules dMembers (plP dRows (⟨#[101, 110]⟩, ⟨#[]⟩, ⟨#[103, 98]⟩)) (plP dRows (⟨#[101, 110]⟩, ⟨#[]⟩, ⟨#[117, 115]⟩)) 3 = 4 := by kernel_rfl
theorem imgV_eq (B1 B2 B3 B4 : Nat) : imgV B1 B2 B3 B4 = .agg #[.slice (some ⟨B1, 0, none⟩) 54 54, .slice (some ⟨B2, 0, none⟩) dRows.length 32, .slice (some ⟨B3, 0, none⟩) dRules.length 15, .slice (some ⟨B4, 0, none⟩) dMembers.length 7, .int .i64 40, .int .i64 5] := by
  unfold imgV
  rw [len_dRows, len_dRules, len_dMembers]
set_option maxRecDepth 100000 in
set_option maxHeartbeats 4000000 in
theorem awake_calls (w : World) : Calls Try.prog 8 #[] w fun e W => e = .returned (.bool true) ∧ Below w.heap.size w W := by
  have hu39 := Try.underlying39
  have hu44 := Try.underlying44
  have HB := Aside0.mk (Below.refl w.heap.size w)
  have tok1 : Aside0 (1 = 1) := ⟨rfl⟩
  go_enter Try.func8, Try.ntmps8
  go_wp2_with (first
    | (go_at_call 12; refine (image_calls w).mono ?_; rintro e w1 ⟨⟨B1, B2, B3, B4, rfl, c2, c3, c4⟩, hb⟩; have P1 := Aside0.mk hb; have C2 := Aside0.mk c2; have C3 := Aside0.mk c3; have C4 := Aside0.mk c4; clear hb c2 c3 c4; rw [imgV_eq])
    | ((with_reducible refine gate_dst (N := 1) rfl ?_); refine box_event ?hg (N := 1) ?hd (cs := #[.slice none 0 0, .slice none 0 0, .slice none 0 0, .slice none 0 0, .int .i64 0, .int .i64 0]) (t := 39) ?hr ?_; (case hd => rfl); (case hg => rfl); (case hr => first | (go_simp; done) | (go_simp; rfl)); intro gb hg w2 hbox hb; have P2 := Aside0.mk (P1.out.trans (hb.mono P1.out.size)); have C2b := Aside0.mk (Kd.C_below C2.out hb); have C3b := Aside0.mk (Kd.C_below C3.out hb); have C4b := Aside0.mk (Kd.C_below C4.out hb); have HG := Aside0.mk (show w.heap.size ≤ gb by rw [hg]; exact P1.out.size); have BK := Aside0.mk hbox; have N2 := Aside0.mk (show B2 ≠ gb by have h_ := (C_blt C2.out (by rw [len_dRows]; decide)); rw [hg]; omega); have N3 := Aside0.mk (show B3 ≠ gb by have h_ := (C_blt C3.out (by rw [len_dRules]; decide)); rw [hg]; omega); have N4 := Aside0.mk (show B4 ≠ gb by have h_ := (C_blt C4.out (by rw [len_dMembers]; decide)); rw [hg]; omega); obtain ⟨y0, y1, y2, y3, y4, y5⟩ := cz6 hbox; obtain ⟨z0, z1, z2, z3, z4, z5⟩ := fz6 hbox; clear hb hbox hg))
  obtain ⟨X, hX⟩ : ∃ X, X = ((((((w2).setCell ⟨gb, 0, none⟩ (.slice (some ⟨B1, 0, none⟩) 54 54)).setCell ⟨gb, 1, none⟩ (.slice (some ⟨B2, 0, none⟩) dRows.length 32)).setCell ⟨gb, 2, none⟩ (.slice (some ⟨B3, 0, none⟩) dRules.length 15)).setCell ⟨gb, 3, none⟩ (.slice (some ⟨B4, 0, none⟩) dMembers.length 7)).setCell ⟨gb, 4, none⟩ (.int .i64 40)).setCell ⟨gb, 5, none⟩ (.int .i64 5) := ⟨_, rfl⟩
  have XB : X.heap[gb]? = some (.cells #[.slice (some ⟨B1, 0, none⟩) 54 54, .slice (some ⟨B2, 0, none⟩) dRows.length 32, .slice (some ⟨B3, 0, none⟩) dRules.length 15, .slice (some ⟨B4, 0, none⟩) dMembers.length 7, .int .i64 40, .int .i64 5] 39 (0, 0)) := by rw [hX]; exact bx (blk_put (cs := #[.slice (some ⟨B1, 0, none⟩) 54 54, .slice (some ⟨B2, 0, none⟩) dRows.length 32, .slice (some ⟨B3, 0, none⟩) dRules.length 15, .slice (some ⟨B4, 0, none⟩) dMembers.length 7, .int .i64 40, .int .i64 0]) (bx (blk_put (cs := #[.slice (some ⟨B1, 0, none⟩) 54 54, .slice (some ⟨B2, 0, none⟩) dRows.length 32, .slice (some ⟨B3, 0, none⟩) dRules.length 15, .slice (some ⟨B4, 0, none⟩) dMembers.length 7, .int .i64 0, .int .i64 0]) (bx (blk_put (cs := #[.slice (some ⟨B1, 0, none⟩) 54 54, .slice (some ⟨B2, 0, none⟩) dRows.length 32, .slice (some ⟨B3, 0, none⟩) dRules.length 15, .slice none 0 0, .int .i64 0, .int .i64 0]) (bx (blk_put (cs := #[.slice (some ⟨B1, 0, none⟩) 54 54, .slice (some ⟨B2, 0, none⟩) dRows.length 32, .slice none 0 0, .slice none 0 0, .int .i64 0, .int .i64 0]) (bx (blk_put (cs := #[.slice (some ⟨B1, 0, none⟩) 54 54, .slice none 0 0, .slice none 0 0, .slice none 0 0, .int .i64 0, .int .i64 0]) (bx (blk_put (cs := #[.slice none 0 0, .slice none 0 0, .slice none 0 0, .slice none 0 0, .int .i64 0, .int .i64 0]) (BK.out) 0 _ rfl)) 1 _ rfl)) 2 _ rfl)) 3 _ rfl)) 4 _ rfl)) 5 _ rfl)
  have XC2 : Kd.C k66 X (some ⟨B2, 0, none⟩) dRows.length dRows := by rw [hX]; exact C_same flat66 C2b.out (fun a e => by cases e; (repeat rw [set_heap _ _ _ _ _ N2.out]))
  have XC3 : Kd.C k53 X (some ⟨B3, 0, none⟩) dRules.length dRules := by rw [hX]; exact C_same flat53 C3b.out (fun a e => by cases e; (repeat rw [set_heap _ _ _ _ _ N3.out]))
  have XC4 : Kd.C k69 X (some ⟨B4, 0, none⟩) dMembers.length dMembers := by rw [hX]; exact C_same flat69 C4b.out (fun a e => by cases e; (repeat rw [set_heap _ _ _ _ _ N4.out]))
  have XP : Below w.heap.size w X := by rw [hX]; repeat (first | (with_reducible first | exact P2.out | refine wS ?_ HG.out) | exact P2.out)
  rw [← hX]
  clear hX y0 y1 y2 y3 y4 y5 z0 z1 z2 z3 z4 z5 BK P1 P2 C2 C3 C4 C2b C3b C4b N2 N3 N4
  refine (dist_calls (some ⟨B1, 0, none⟩) 54 54 (some ⟨B2, 0, none⟩) 32 dRows (some ⟨B3, 0, none⟩) 15 dRules (some ⟨B4, 0, none⟩) 7 dMembers 40 5 ⟨#[110, 98]⟩ ⟨#[]⟩ ⟨#[]⟩ ⟨#[]⟩ none 0 0 none 0 0 none 0 0 none 0 0 ⟨#[100, 97]⟩ ⟨#[]⟩ ⟨#[]⟩ ⟨#[]⟩ none 0 0 none 0 0 none 0 0 none 0 0 X XC2 XC3 XC4).mono ?_
  rintro e w3 ⟨rfl, hb⟩
  rw [awake_1]
  obtain ⟨y0, y1, y2, y3, y4, y5⟩ := cz6 ((hb.block gb (Array.getElem?_eq_some_iff.1 XB).1).trans XB)
  have P3 := Aside0.mk (XP.trans (hb.mono XP.size))
  have D2 := Aside0.mk (Kd.C_below XC2 hb)
  have D3 := Aside0.mk (Kd.C_below XC3 hb)
  have D4 := Aside0.mk (Kd.C_below XC4 hb)
  clear hb XB XC2 XC3 XC4 XP
  go_wp2_with (go_at_call 16; refine (dist_calls (some ⟨B1, 0, none⟩) 54 54 (some ⟨B2, 0, none⟩) 32 dRows (some ⟨B3, 0, none⟩) 15 dRules (some ⟨B4, 0, none⟩) 7 dMembers 40 5 ⟨#[101, 110]⟩ ⟨#[]⟩ ⟨#[103, 98]⟩ ⟨#[]⟩ none 0 0 none 0 0 none 0 0 none 0 0 ⟨#[101, 110]⟩ ⟨#[]⟩ ⟨#[117, 115]⟩ ⟨#[]⟩ none 0 0 none 0 0 none 0 0 none 0 0 w3 D2.out D3.out D4.out).mono ?_; rintro e w4 ⟨rfl, hb⟩; rw [awake_2]; have P4 := Aside0.mk (P3.out.trans (hb.mono P3.out.size)); clear hb)
  go_ret
  exact ⟨rfl, P4.out⟩
end Go.Proofs.Ytdjbanhoejegjaa.LikW
