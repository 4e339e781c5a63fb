/- Made by a program of this seat's own (shake.py, merge.py): what the claim leans on: DistCost, Run, Data. -/
import Derived.Test.YtpmcfckechjppaaGreatDoorTb12
import Derived.StillTailTactics
namespace Go.Proofs.YtpmcfckechjppaaGreatDoor.LikW
open Go.RowKit Go.Proofs.YtpmcfckechjppaaGreatDoorW.PrintWords Go.Proofs.YtpmcfckechjppaaGreatDoorW.PrintLast Go.Proofs.YtpmcfckechjppaaGreatDoor.P
set_option linter.unusedVariables false
set_option linter.unusedSimpArgs false
set_option maxRecDepth 100000
set_option maxHeartbeats 8000000
def hitP (ms : List S69) (r : S53) (d s : K3) (lv : Int) : Bool := decide (r.f0 = lv) && (bothP ms r d s lv || (!r.f2 && bothP ms r s d lv))
def costP (rs : List S53) (ms : List S69) (lv : Int) (d s : K3) : Int :=
 if lv < 1 ∨ 3 < lv then 100 else if at3 d (lv - 1).toNat = at3 s (lv - 1).toNat then 0 else match rs.find? fun r => hitP ms r d s lv with
 | some r => r.f1
 | none => 100
theorem find_take_none {α : Type} (P : α → Bool) (l : List α) (i : Nat) (h : i < l.length) (hn : (l.take i).find? P = none) (hp : P (l[i]'h) = false) : (l.take (i + 1)).find? P = none := by
 rw [List.take_succ_eq_append_getElem h, List.find?_append, hn]
 simp [List.find?, hp]
theorem find_take_some {α : Type} (P : α → Bool) (l : List α) (i : Nat) (h : i < l.length) (hn : (l.take i).find? P = none) (hp : P (l[i]'h) = true) : l.find? P = some (l[i]'h) := by
 have e : l.find? P = (l.take (i + 1) ++ l.drop (i + 1)).find? P := by rw [List.take_append_drop]
 rw [e, List.find?_append, List.take_succ_eq_append_getElem h, List.find?_append, hn]
 simp [List.find?, hp]
theorem cost_calls (A0 : Option Addr) (n0 c0 : Nat) (A1 : Option Addr) (n1 c1 : Nat) (A2 : Option Addr) (c2 : Nat) (A3 : Option Addr) (c3 : Nat) (rs : List S53) (ms : List S69) (p q : Int) (lv : Int) (d s : K3) (w : World) (hR : Kd.C k53 w A2 rs.length rs) (hC : Kd.C k69 w A3 ms.length ms) :
 Calls Tryz.prog 349 #[.agg #[.slice A0 n0 c0, .slice A1 n1 c1, .slice A2 rs.length c2, .slice A3 ms.length c3, .int .i64 p, .int .i64 q], .int .i64 lv, .agg #[.string d.1, .string d.2.1, .string d.2.2], .agg #[.string s.1, .string s.2.1, .string s.2.2]] w fun e w' => e = .returned (.int .i64 (costP rs ms lv d s)) ∧ Below w.heap.size w w' := by
 have hu39 := Tryz.underlying51
 have hu30 := Tryz.underlying123
 have hu53 := Tryz.underlying125
 have hmax := Kd.C_max hR
 obtain ⟨W0, hW0⟩ : ∃ W0, W0 = (((w.alloc (.cells #[.slice A0 n0 c0, .slice A1 n1 c1, .slice A2 rs.length c2, .slice A3 ms.length c3, .int .i64 p, .int .i64 q] 51)).alloc (.cells #[.int .i64 lv] 3)).alloc (.cells #[.string d.1, .string d.2.1, .string d.2.2] 123)).alloc (.cells #[.string s.1, .string s.2.1, .string s.2.2] 123) := ⟨_, rfl⟩
 have B0 : Below w.heap.size w W0 := by rw [hW0]; exact below_alloc (below_alloc (below_alloc (below_alloc (Below.refl _ _) _) _) _) _
 have sz0 : W0.heap.size = w.heap.size + 4 := by rw [hW0]; simp
 have h0 : W0.heap[w.heap.size]? = some (.cells #[.slice A0 n0 c0, .slice A1 n1 c1, .slice A2 rs.length c2, .slice A3 ms.length c3, .int .i64 p, .int .i64 q] 51 (0, 0)) := by rw [hW0]; exact ((below_alloc (below_alloc (below_alloc (Below.refl _ _) _) _) _).block _ (by simp)).trans (World.alloc_heap_new w _)
 have h1 : W0.heap[w.heap.size + 1]? = some (.cells #[.int .i64 lv] 3 (0, 0)) := by
  have := World.alloc_heap_new (w.alloc (.cells #[.slice A0 n0 c0, .slice A1 n1 c1, .slice A2 rs.length c2, .slice A3 ms.length c3, .int .i64 p, .int .i64 q] 51)) (.cells #[.int .i64 lv] 3)
  rw [World.size_alloc] at this
  rw [hW0]; exact ((below_alloc (below_alloc (Below.refl _ _) _) _).block _ (by simp)).trans this
 have h2 : W0.heap[w.heap.size + 1 + 1]? = some (.cells #[.string d.1, .string d.2.1, .string d.2.2] 123 (0, 0)) := by
  have := World.alloc_heap_new ((w.alloc (.cells #[.slice A0 n0 c0, .slice A1 n1 c1, .slice A2 rs.length c2, .slice A3 ms.length c3, .int .i64 p, .int .i64 q] 51)).alloc (.cells #[.int .i64 lv] 3)) (.cells #[.string d.1, .string d.2.1, .string d.2.2] 123)
  rw [World.size_alloc, World.size_alloc] at this
  rw [hW0]; exact ((below_alloc (Below.refl _ _) _).block _ (by simp)).trans this
 have h3 : W0.heap[w.heap.size + 1 + 1 + 1]? = some (.cells #[.string s.1, .string s.2.1, .string s.2.2] 123 (0, 0)) := by
  have := World.alloc_heap_new (((w.alloc (.cells #[.slice A0 n0 c0, .slice A1 n1 c1, .slice A2 rs.length c2, .slice A3 ms.length c3, .int .i64 p, .int .i64 q] 51)).alloc (.cells #[.int .i64 lv] 3)).alloc (.cells #[.string d.1, .string d.2.1, .string d.2.2] 123)) (.cells #[.string s.1, .string s.2.1, .string s.2.2] 123)
  rw [World.size_alloc, World.size_alloc, World.size_alloc] at this
  rw [hW0]; exact this
 have HR := Aside0.mk (Kd.C_below hR B0)
 have HC := Aside0.mk (Kd.C_below hC B0)
 have HW := Aside0.mk hW0
 have H0 := Aside0.mk h0
 have H1 := Aside0.mk h1
 have H2 := Aside0.mk h2
 have H3 := Aside0.mk h3
 have HB0 := Aside0.mk B0
 clear hR hC hW0 h0 h1 h2 h3 B0
 go_enter Tryz.func349, Tryz.ntmps349
 by_cases hlv : lv < 1 ∨ 3 < lv
 · have hv : costP rs ms lv d s = 100 := by unfold costP; rw [if_pos hlv]
   have HV := Aside0.mk hv
   clear hv
   rcases hlv with hl | hl
   · go_wp2
     go_ret
     exact ⟨by rw [HV.out]; rfl, by repeat (first | exact Below.refl _ _ | apply below_alloc)⟩
   · have hl2 : ¬ lv < 1 := by omega
     go_wp2
     go_ret
     exact ⟨by rw [HV.out]; rfl, by repeat (first | exact Below.refl _ _ | apply below_alloc)⟩
 · obtain rfl | rfl | rfl : lv = 1 ∨ lv = 2 ∨ lv = 3 := by omega
   · clear hlv
     go_wp2
     rw [← HW.out]
     have w1 := cell_of_blk H1.out 0
     have zd := cell_of_blk H2.out
     have zs := cell_of_blk H3.out
     have zi := cell_of_blk H0.out
     have v0 := zd 0
     have v1 := zd 1
     have v2 := zd 2
     have v3 := zs 0
     have v4 := zs 1
     have v5 := zs 2
     have i2 := zi 2
     simp only [List.getElem?_toArray, List.getElem?_cons_zero, List.getElem?_cons_succ] at w1 v0 v1 v2 v3 v4 v5 i2
     clear zd zs zi
     have hw : IntKind.i64.wrap 0 = 0 := by rfl
     go_still (by kernel_rfl)
     go_wp2
     · have he : d.1.toList = s.1.toList := eq_of_beq (by assumption : (d.1.toList == s.1.toList) = true)
       go_ret
       exact ⟨by have : costP rs ms 1 d s = 0 := by { unfold costP; rw [if_neg (by omega), if_pos (show at3 d ((1 : Int) - 1).toNat = at3 s ((1 : Int) - 1).toNat from toList_inj he)] }
                 rw [this]; rfl, HB0.out.trans ((below_drew (Below.refl W0.heap.size W0)).mono HB0.out.size)⟩
     have hbq : (d.1.toList == s.1.toList) = false := by assumption
     rw [hbq]
     have he : ¬ d.1.toList = s.1.toList := ne_of_beq_false (by assumption : (d.1.toList == s.1.toList) = false)
     have hc : costP rs ms 1 d s = match rs.find? fun r => hitP ms r d s 1 with
      | some r => r.f1
      | none => 100 := by unfold costP; rw [if_neg (by omega), if_neg (show ¬ at3 d ((1 : Int) - 1).toNat = at3 s ((1 : Int) - 1).toNat from fun e => he (congrArg ByteArray.toList e))]
     have HCC := Aside0.mk hc
     clear hc
     go_loopw [31] (fun vi wr => ∃ i : Nat, vi = .int .i64 (i : Int) ∧ i ≤ rs.length ∧ Aside0 ((rs.take i).find? (fun r => hitP ms r d s 1) = none) ∧ Aside0 (Below W0.heap.size W0 wr)) (fun vi _ => rs.length - (intOf vi).toNat)
     case atStart => exact ⟨0, rfl, Nat.zero_le _, ⟨rfl⟩, ⟨below_drew (Below.refl _ _)⟩⟩
     case round =>
      clear w1 v0 v1 v2 v3 v4 v5 i2
      obtain ⟨i, rfl, hi, HN, HB⟩ := hrel
      have BW := HB0.out.trans (HB.out.mono HB0.out.size)
      have HBW := Aside0.mk BW
      by_cases hlt : i < rs.length
      · have sr := HB.out.size
        have sw0 : w.heap.size < wr.heap.size := by omega
        have sw1 : w.heap.size + 1 < wr.heap.size := by omega
        have sw2 : w.heap.size + 1 + 1 < wr.heap.size := by omega
        have sw3 : w.heap.size + 1 + 1 + 1 < wr.heap.size := by omega
        have K0 := Aside0.mk ((HB.out.block _ (by omega)).trans H0.out)
        have K1 := Aside0.mk ((HB.out.block _ (by omega)).trans H1.out)
        have K2 := Aside0.mk ((HB.out.block _ (by omega)).trans H2.out)
        have K3 := Aside0.mk ((HB.out.block _ (by omega)).trans H3.out)
        obtain ⟨ad, e, x0, x1, x2, x3, x4, x5, x6, x7, x8⟩ := at_T53 HR.out (i : Int) (by omega) (by omega)
        cases e
        have bl := World.block_lt_of_cell? W0 _ x0
        replace x0 := (HB.out.cell (World.block_lt_of_cell? W0 _ x0)).trans x0
        replace x1 := (HB.out.cell (World.block_lt_of_cell? W0 _ x1)).trans x1
        replace x2 := (HB.out.cell (World.block_lt_of_cell? W0 _ x2)).trans x2
        replace x3 := (HB.out.cell (World.block_lt_of_cell? W0 _ x3)).trans x3
        replace x4 := (HB.out.cell (World.block_lt_of_cell? W0 _ x4)).trans x4
        replace x5 := (HB.out.cell (World.block_lt_of_cell? W0 _ x5)).trans x5
        replace x6 := (HB.out.cell (World.block_lt_of_cell? W0 _ x6)).trans x6
        replace x7 := (HB.out.cell (World.block_lt_of_cell? W0 _ x7)).trans x7
        replace x8 := (HB.out.cell (World.block_lt_of_cell? W0 _ x8)).trans x8
        obtain ⟨x, hx⟩ : ∃ x, x = rd_T53 rs (i : Int) := ⟨_, rfl⟩
        rw [← hx] at x0 x1 x2 x3 x4 x5 x6 x7 x8
        simp only [Int.toNat_natCast] at x0 x1 x2 x3 x4 x5 x6 x7 x8
        have hx2 : x = rs[i]'hlt := by rw [hx]; simp [rd_T53, List.getD_eq_getElem?_getD, List.getElem?_eq_getElem hlt]
        have HX := Aside0.mk hx2
        clear hx hx2 bl BW
        have zd := cell_of_blk K2.out
        have zs := cell_of_blk K3.out
        have l0 := cell_of_blk K1.out 0
        have v0 := zd 0
        have v1 := zd 1
        have v2 := zd 2
        have v3 := zs 0
        have v4 := zs 1
        have v5 := zs 2
        simp only [List.getElem?_toArray, List.getElem?_cons_zero, List.getElem?_cons_succ] at l0 v0 v1 v2 v3 v4 v5
        clear zd zs
        have tok1 : Aside0 (1 = 1) := ⟨rfl⟩
        have d1 : decide ((i : Int) < (rs.length : Int)) = true := decide_eq_true (by omega)
        by_cases hf0 : x.f0 = 1
        · have hq : (x.f0 == 1) = true := by rw [hf0]; rfl
          have HF0 := Aside0.mk hf0
          clear hf0
          cases hv1 : bothP ms x d s 1
          · cases hf2 : x.f2
            · have hq2 : (!x.f2) = true := by rw [hf2]; rfl
              have HF2 := Aside0.mk hf2
              clear hf2
              cases hv2 : bothP ms x s d 1
              · have hh : hitP ms x d s 1 = false := by unfold hitP; rw [hv1, hv2, HF2.out]; simp
                have HH := Aside0.mk hh
                clear hh
                go_wp2_with (first | (go_at_call 352; clear tok1; refine (both_calls w.heap.size (w.heap.size + 1) A0 n0 c0 A1 n1 c1 (some ad) rs.length c2 A3 c3 ms p q x d s 1 _ (Kd.C_below HC.out (HB.out.trans ((below_alloc (Below.refl wr.heap.size wr) _).mono HB.out.size))) (((below_alloc (Below.refl wr.heap.size wr) _).block _ (by omega)).trans K0.out) (((below_alloc (Below.refl wr.heap.size wr) _).block _ (by omega)).trans K1.out)).mono ?_; rintro e w1 ⟨rfl, hb⟩; rw [hv1]; have s1 := hb.size; rw [World.size_alloc] at s1; have zr := cell_of_blk ((hb.block wr.heap.size (by simp)).trans (World.alloc_heap_new wr (.cells #[.int .i64 x.f0, .int .i64 x.f1, .bool x.f2, .string x.f3.f0, .string x.f3.f1, .string x.f3.f2, .string x.f4.f0, .string x.f4.f1, .string x.f4.f2] 125))); have hb1 := Below.trans (below_alloc (Below.refl wr.heap.size wr) (.cells #[.int .i64 x.f0, .int .i64 x.f1, .bool x.f2, .string x.f3.f0, .string x.f3.f1, .string x.f3.f2, .string x.f4.f0, .string x.f4.f1, .string x.f4.f2] 125)) (hb.mono (by simp)); have zd := cell_of_blk ((hb1.block _ (by omega)).trans K2.out); have zs := cell_of_blk ((hb1.block _ (by omega)).trans K3.out); have x0 := zr 0; have x1 := zr 1; have x2 := zr 2; have x3 := zr 3; have x4 := zr 4; have x5 := zr 5; have x6 := zr 6; have x7 := zr 7; have x8 := zr 8; have v0 := zd 0; have v1 := zd 1; have v2 := zd 2; have v3 := zs 0; have v4 := zs 1; have v5 := zs 2; simp only [List.getElem?_toArray, List.getElem?_cons_zero, List.getElem?_cons_succ] at x0 x1 x2 x3 x4 x5 x6 x7 x8 v0 v1 v2 v3 v4 v5; clear zr zd zs; have KR := Aside0.mk ((hb.block wr.heap.size (by simp)).trans (World.alloc_heap_new wr (.cells #[.int .i64 x.f0, .int .i64 x.f1, .bool x.f2, .string x.f3.f0, .string x.f3.f1, .string x.f3.f2, .string x.f4.f0, .string x.f4.f1, .string x.f4.f2] 125))); have KB := Aside0.mk hb1; clear hb hb1) | (go_at_call 352; refine (both_calls w.heap.size (w.heap.size + 1) A0 n0 c0 A1 n1 c1 (some ad) rs.length c2 A3 c3 ms p q x s d 1 _ (Kd.C_below HC.out (HB.out.trans (KB.out.mono HB.out.size))) ((KB.out.block _ (by omega)).trans K0.out) ((KB.out.block _ (by omega)).trans K1.out)).mono ?_; rintro e w2 ⟨rfl, hb2⟩; rw [hv2]; have zr2 := cell_of_blk ((hb2.block wr.heap.size (by omega)).trans KR.out); have y1 := zr2 1; simp only [List.getElem?_toArray, List.getElem?_cons_zero, List.getElem?_cons_succ] at y1; clear zr2; have KB2 := Aside0.mk hb2; clear hb2))
                go_roundw
                case rel => exact ⟨i + 1, by simp, by omega, ⟨find_take_none _ rs i hlt HN.out (by rw [← HX.out]; exact HH.out)⟩, ⟨(HB.out.trans (KB.out.mono HB.out.size)).trans (KB2.out.mono (by omega))⟩⟩
                case measure => simp [intOf]; omega
              · have hh : hitP ms x d s 1 = true := by unfold hitP; rw [hv1, hv2, HF2.out, decide_eq_true HF0.out]; rfl
                have hv : costP rs ms 1 d s = x.f1 := by rw [HCC.out, find_take_some _ rs i hlt HN.out (by rw [← HX.out]; exact hh), ← HX.out]
                have HV := Aside0.mk hv
                clear hv hh
                go_wp2_with (first | (go_at_call 352; clear tok1; refine (both_calls w.heap.size (w.heap.size + 1) A0 n0 c0 A1 n1 c1 (some ad) rs.length c2 A3 c3 ms p q x d s 1 _ (Kd.C_below HC.out (HB.out.trans ((below_alloc (Below.refl wr.heap.size wr) _).mono HB.out.size))) (((below_alloc (Below.refl wr.heap.size wr) _).block _ (by omega)).trans K0.out) (((below_alloc (Below.refl wr.heap.size wr) _).block _ (by omega)).trans K1.out)).mono ?_; rintro e w1 ⟨rfl, hb⟩; rw [hv1]; have s1 := hb.size; rw [World.size_alloc] at s1; have zr := cell_of_blk ((hb.block wr.heap.size (by simp)).trans (World.alloc_heap_new wr (.cells #[.int .i64 x.f0, .int .i64 x.f1, .bool x.f2, .string x.f3.f0, .string x.f3.f1, .string x.f3.f2, .string x.f4.f0, .string x.f4.f1, .string x.f4.f2] 125))); have hb1 := Below.trans (below_alloc (Below.refl wr.heap.size wr) (.cells #[.int .i64 x.f0, .int .i64 x.f1, .bool x.f2, .string x.f3.f0, .string x.f3.f1, .string x.f3.f2, .string x.f4.f0, .string x.f4.f1, .string x.f4.f2] 125)) (hb.mono (by simp)); have zd := cell_of_blk ((hb1.block _ (by omega)).trans K2.out); have zs := cell_of_blk ((hb1.block _ (by omega)).trans K3.out); have x0 := zr 0; have x1 := zr 1; have x2 := zr 2; have x3 := zr 3; have x4 := zr 4; have x5 := zr 5; have x6 := zr 6; have x7 := zr 7; have x8 := zr 8; have v0 := zd 0; have v1 := zd 1; have v2 := zd 2; have v3 := zs 0; have v4 := zs 1; have v5 := zs 2; simp only [List.getElem?_toArray, List.getElem?_cons_zero, List.getElem?_cons_succ] at x0 x1 x2 x3 x4 x5 x6 x7 x8 v0 v1 v2 v3 v4 v5; clear zr zd zs; have KR := Aside0.mk ((hb.block wr.heap.size (by simp)).trans (World.alloc_heap_new wr (.cells #[.int .i64 x.f0, .int .i64 x.f1, .bool x.f2, .string x.f3.f0, .string x.f3.f1, .string x.f3.f2, .string x.f4.f0, .string x.f4.f1, .string x.f4.f2] 125))); have KB := Aside0.mk hb1; clear hb hb1) | (go_at_call 352; refine (both_calls w.heap.size (w.heap.size + 1) A0 n0 c0 A1 n1 c1 (some ad) rs.length c2 A3 c3 ms p q x s d 1 _ (Kd.C_below HC.out (HB.out.trans (KB.out.mono HB.out.size))) ((KB.out.block _ (by omega)).trans K0.out) ((KB.out.block _ (by omega)).trans K1.out)).mono ?_; rintro e w2 ⟨rfl, hb2⟩; rw [hv2]; have zr2 := cell_of_blk ((hb2.block wr.heap.size (by omega)).trans KR.out); have y1 := zr2 1; simp only [List.getElem?_toArray, List.getElem?_cons_zero, List.getElem?_cons_succ] at y1; clear zr2; have KB2 := Aside0.mk hb2; clear hb2))
                go_ret
                exact ⟨by rw [HV.out]; rfl, (HBW.out.trans (KB.out.mono HBW.out.size)).trans (KB2.out.mono (by omega))⟩
            · have hq2 : (!x.f2) = false := by rw [hf2]; rfl
              have HF2 := Aside0.mk hf2
              clear hf2
              have hh : hitP ms x d s 1 = false := by unfold hitP; rw [hv1, HF2.out]; simp
              have HH := Aside0.mk hh
              clear hh
              go_wp2_with (go_at_call 352; clear tok1; refine (both_calls w.heap.size (w.heap.size + 1) A0 n0 c0 A1 n1 c1 (some ad) rs.length c2 A3 c3 ms p q x d s 1 _ (Kd.C_below HC.out (HB.out.trans ((below_alloc (Below.refl wr.heap.size wr) _).mono HB.out.size))) (((below_alloc (Below.refl wr.heap.size wr) _).block _ (by omega)).trans K0.out) (((below_alloc (Below.refl wr.heap.size wr) _).block _ (by omega)).trans K1.out)).mono ?_; rintro e w1 ⟨rfl, hb⟩; rw [hv1]; have s1 := hb.size; rw [World.size_alloc] at s1; have zr := cell_of_blk ((hb.block wr.heap.size (by simp)).trans (World.alloc_heap_new wr (.cells #[.int .i64 x.f0, .int .i64 x.f1, .bool x.f2, .string x.f3.f0, .string x.f3.f1, .string x.f3.f2, .string x.f4.f0, .string x.f4.f1, .string x.f4.f2] 125))); have hb1 := Below.trans (below_alloc (Below.refl wr.heap.size wr) (.cells #[.int .i64 x.f0, .int .i64 x.f1, .bool x.f2, .string x.f3.f0, .string x.f3.f1, .string x.f3.f2, .string x.f4.f0, .string x.f4.f1, .string x.f4.f2] 125)) (hb.mono (by simp)); have zd := cell_of_blk ((hb1.block _ (by omega)).trans K2.out); have zs := cell_of_blk ((hb1.block _ (by omega)).trans K3.out); have x0 := zr 0; have x1 := zr 1; have x2 := zr 2; have x3 := zr 3; have x4 := zr 4; have x5 := zr 5; have x6 := zr 6; have x7 := zr 7; have x8 := zr 8; have v0 := zd 0; have v1 := zd 1; have v2 := zd 2; have v3 := zs 0; have v4 := zs 1; have v5 := zs 2; simp only [List.getElem?_toArray, List.getElem?_cons_zero, List.getElem?_cons_succ] at x0 x1 x2 x3 x4 x5 x6 x7 x8 v0 v1 v2 v3 v4 v5; clear zr zd zs; have KR := Aside0.mk ((hb.block wr.heap.size (by simp)).trans (World.alloc_heap_new wr (.cells #[.int .i64 x.f0, .int .i64 x.f1, .bool x.f2, .string x.f3.f0, .string x.f3.f1, .string x.f3.f2, .string x.f4.f0, .string x.f4.f1, .string x.f4.f2] 125))); have KB := Aside0.mk hb1; clear hb hb1)
              go_roundw
              case rel => exact ⟨i + 1, by simp, by omega, ⟨find_take_none _ rs i hlt HN.out (by rw [← HX.out]; exact HH.out)⟩, ⟨HB.out.trans (KB.out.mono HB.out.size)⟩⟩
              case measure => simp [intOf]; omega
          · have hh : hitP ms x d s 1 = true := by unfold hitP; rw [hv1, decide_eq_true HF0.out]; rfl
            have hv : costP rs ms 1 d s = x.f1 := by rw [HCC.out, find_take_some _ rs i hlt HN.out (by rw [← HX.out]; exact hh), ← HX.out]
            have HV := Aside0.mk hv
            clear hv hh
            go_wp2_with (go_at_call 352; clear tok1; refine (both_calls w.heap.size (w.heap.size + 1) A0 n0 c0 A1 n1 c1 (some ad) rs.length c2 A3 c3 ms p q x d s 1 _ (Kd.C_below HC.out (HB.out.trans ((below_alloc (Below.refl wr.heap.size wr) _).mono HB.out.size))) (((below_alloc (Below.refl wr.heap.size wr) _).block _ (by omega)).trans K0.out) (((below_alloc (Below.refl wr.heap.size wr) _).block _ (by omega)).trans K1.out)).mono ?_; rintro e w1 ⟨rfl, hb⟩; rw [hv1]; have s1 := hb.size; rw [World.size_alloc] at s1; have zr := cell_of_blk ((hb.block wr.heap.size (by simp)).trans (World.alloc_heap_new wr (.cells #[.int .i64 x.f0, .int .i64 x.f1, .bool x.f2, .string x.f3.f0, .string x.f3.f1, .string x.f3.f2, .string x.f4.f0, .string x.f4.f1, .string x.f4.f2] 125))); have hb1 := Below.trans (below_alloc (Below.refl wr.heap.size wr) (.cells #[.int .i64 x.f0, .int .i64 x.f1, .bool x.f2, .string x.f3.f0, .string x.f3.f1, .string x.f3.f2, .string x.f4.f0, .string x.f4.f1, .string x.f4.f2] 125)) (hb.mono (by simp)); have zd := cell_of_blk ((hb1.block _ (by omega)).trans K2.out); have zs := cell_of_blk ((hb1.block _ (by omega)).trans K3.out); have x0 := zr 0; have x1 := zr 1; have x2 := zr 2; have x3 := zr 3; have x4 := zr 4; have x5 := zr 5; have x6 := zr 6; have x7 := zr 7; have x8 := zr 8; have v0 := zd 0; have v1 := zd 1; have v2 := zd 2; have v3 := zs 0; have v4 := zs 1; have v5 := zs 2; simp only [List.getElem?_toArray, List.getElem?_cons_zero, List.getElem?_cons_succ] at x0 x1 x2 x3 x4 x5 x6 x7 x8 v0 v1 v2 v3 v4 v5; clear zr zd zs; have KR := Aside0.mk ((hb.block wr.heap.size (by simp)).trans (World.alloc_heap_new wr (.cells #[.int .i64 x.f0, .int .i64 x.f1, .bool x.f2, .string x.f3.f0, .string x.f3.f1, .string x.f3.f2, .string x.f4.f0, .string x.f4.f1, .string x.f4.f2] 125))); have KB := Aside0.mk hb1; clear hb hb1)
            go_ret
            exact ⟨by rw [HV.out]; rfl, HBW.out.trans (KB.out.mono HBW.out.size)⟩
        · have hh : hitP ms x d s 1 = false := by unfold hitP; rw [decide_eq_false hf0]; rfl
          have HH := Aside0.mk hh
          clear hh
          go_wp2
          go_roundw
          case rel => exact ⟨i + 1, by simp, by omega, ⟨find_take_none _ rs i hlt HN.out (by rw [← HX.out]; exact HH.out)⟩, ⟨HB.out.trans ((below_alloc (Below.refl wr.heap.size wr) _).mono HB.out.size)⟩⟩
          case measure => simp [intOf]; omega
      · obtain rfl : i = rs.length := by omega
        have d1 : decide (((rs.length : Nat) : Int) < (rs.length : Int)) = false := decide_eq_false (by omega)
        have hN := HN.out
        rw [List.take_length] at hN
        have hv : costP rs ms 1 d s = 100 := by rw [HCC.out, hN]
        have HV := Aside0.mk hv
        clear hv hN
        go_wp2
        go_ret
        exact ⟨by rw [HV.out]; rfl, HBW.out⟩
   · clear hlv
     go_wp2
     rw [← HW.out]
     have w1 := cell_of_blk H1.out 0
     have zd := cell_of_blk H2.out
     have zs := cell_of_blk H3.out
     have zi := cell_of_blk H0.out
     have v0 := zd 0
     have v1 := zd 1
     have v2 := zd 2
     have v3 := zs 0
     have v4 := zs 1
     have v5 := zs 2
     have i2 := zi 2
     simp only [List.getElem?_toArray, List.getElem?_cons_zero, List.getElem?_cons_succ] at w1 v0 v1 v2 v3 v4 v5 i2
     clear zd zs zi
     have hw : IntKind.i64.wrap 1 = 1 := by rfl
     go_still (by kernel_rfl)
     go_wp2
     · have he : d.2.1.toList = s.2.1.toList := eq_of_beq (by assumption : (d.2.1.toList == s.2.1.toList) = true)
       go_ret
       exact ⟨by have : costP rs ms 2 d s = 0 := by { unfold costP; rw [if_neg (by omega), if_pos (show at3 d ((2 : Int) - 1).toNat = at3 s ((2 : Int) - 1).toNat from toList_inj he)] }
                 rw [this]; rfl, HB0.out.trans ((below_drew (Below.refl W0.heap.size W0)).mono HB0.out.size)⟩
     have hbq : (d.2.1.toList == s.2.1.toList) = false := by assumption
     rw [hbq]
     have he : ¬ d.2.1.toList = s.2.1.toList := ne_of_beq_false (by assumption : (d.2.1.toList == s.2.1.toList) = false)
     have hc : costP rs ms 2 d s = match rs.find? fun r => hitP ms r d s 2 with
      | some r => r.f1
      | none => 100 := by unfold costP; rw [if_neg (by omega), if_neg (show ¬ at3 d ((2 : Int) - 1).toNat = at3 s ((2 : Int) - 1).toNat from fun e => he (congrArg ByteArray.toList e))]
     have HCC := Aside0.mk hc
     clear hc
     go_loopw [31] (fun vi wr => ∃ i : Nat, vi = .int .i64 (i : Int) ∧ i ≤ rs.length ∧ Aside0 ((rs.take i).find? (fun r => hitP ms r d s 2) = none) ∧ Aside0 (Below W0.heap.size W0 wr)) (fun vi _ => rs.length - (intOf vi).toNat)
     case atStart => exact ⟨0, rfl, Nat.zero_le _, ⟨rfl⟩, ⟨below_drew (Below.refl _ _)⟩⟩
     case round =>
      clear w1 v0 v1 v2 v3 v4 v5 i2
      obtain ⟨i, rfl, hi, HN, HB⟩ := hrel
      have BW := HB0.out.trans (HB.out.mono HB0.out.size)
      have HBW := Aside0.mk BW
      by_cases hlt : i < rs.length
      · have sr := HB.out.size
        have sw0 : w.heap.size < wr.heap.size := by omega
        have sw1 : w.heap.size + 1 < wr.heap.size := by omega
        have sw2 : w.heap.size + 1 + 1 < wr.heap.size := by omega
        have sw3 : w.heap.size + 1 + 1 + 1 < wr.heap.size := by omega
        have K0 := Aside0.mk ((HB.out.block _ (by omega)).trans H0.out)
        have K1 := Aside0.mk ((HB.out.block _ (by omega)).trans H1.out)
        have K2 := Aside0.mk ((HB.out.block _ (by omega)).trans H2.out)
        have K3 := Aside0.mk ((HB.out.block _ (by omega)).trans H3.out)
        obtain ⟨ad, e, x0, x1, x2, x3, x4, x5, x6, x7, x8⟩ := at_T53 HR.out (i : Int) (by omega) (by omega)
        cases e
        have bl := World.block_lt_of_cell? W0 _ x0
        replace x0 := (HB.out.cell (World.block_lt_of_cell? W0 _ x0)).trans x0
        replace x1 := (HB.out.cell (World.block_lt_of_cell? W0 _ x1)).trans x1
        replace x2 := (HB.out.cell (World.block_lt_of_cell? W0 _ x2)).trans x2
        replace x3 := (HB.out.cell (World.block_lt_of_cell? W0 _ x3)).trans x3
        replace x4 := (HB.out.cell (World.block_lt_of_cell? W0 _ x4)).trans x4
        replace x5 := (HB.out.cell (World.block_lt_of_cell? W0 _ x5)).trans x5
        replace x6 := (HB.out.cell (World.block_lt_of_cell? W0 _ x6)).trans x6
        replace x7 := (HB.out.cell (World.block_lt_of_cell? W0 _ x7)).trans x7
        replace x8 := (HB.out.cell (World.block_lt_of_cell? W0 _ x8)).trans x8
        obtain ⟨x, hx⟩ : ∃ x, x = rd_T53 rs (i : Int) := ⟨_, rfl⟩
        rw [← hx] at x0 x1 x2 x3 x4 x5 x6 x7 x8
        simp only [Int.toNat_natCast] at x0 x1 x2 x3 x4 x5 x6 x7 x8
        have hx2 : x = rs[i]'hlt := by rw [hx]; simp [rd_T53, List.getD_eq_getElem?_getD, List.getElem?_eq_getElem hlt]
        have HX := Aside0.mk hx2
        clear hx hx2 bl BW
        have zd := cell_of_blk K2.out
        have zs := cell_of_blk K3.out
        have l0 := cell_of_blk K1.out 0
        have v0 := zd 0
        have v1 := zd 1
        have v2 := zd 2
        have v3 := zs 0
        have v4 := zs 1
        have v5 := zs 2
        simp only [List.getElem?_toArray, List.getElem?_cons_zero, List.getElem?_cons_succ] at l0 v0 v1 v2 v3 v4 v5
        clear zd zs
        have tok1 : Aside0 (1 = 1) := ⟨rfl⟩
        have d1 : decide ((i : Int) < (rs.length : Int)) = true := decide_eq_true (by omega)
        by_cases hf0 : x.f0 = 2
        · have hq : (x.f0 == 2) = true := by rw [hf0]; rfl
          have HF0 := Aside0.mk hf0
          clear hf0
          cases hv1 : bothP ms x d s 2
          · cases hf2 : x.f2
            · have hq2 : (!x.f2) = true := by rw [hf2]; rfl
              have HF2 := Aside0.mk hf2
              clear hf2
              cases hv2 : bothP ms x s d 2
              · have hh : hitP ms x d s 2 = false := by unfold hitP; rw [hv1, hv2, HF2.out]; simp
                have HH := Aside0.mk hh
                clear hh
                go_wp2_with (first | (go_at_call 352; clear tok1; refine (both_calls w.heap.size (w.heap.size + 1) A0 n0 c0 A1 n1 c1 (some ad) rs.length c2 A3 c3 ms p q x d s 2 _ (Kd.C_below HC.out (HB.out.trans ((below_alloc (Below.refl wr.heap.size wr) _).mono HB.out.size))) (((below_alloc (Below.refl wr.heap.size wr) _).block _ (by omega)).trans K0.out) (((below_alloc (Below.refl wr.heap.size wr) _).block _ (by omega)).trans K1.out)).mono ?_; rintro e w1 ⟨rfl, hb⟩; rw [hv1]; have s1 := hb.size; rw [World.size_alloc] at s1; have zr := cell_of_blk ((hb.block wr.heap.size (by simp)).trans (World.alloc_heap_new wr (.cells #[.int .i64 x.f0, .int .i64 x.f1, .bool x.f2, .string x.f3.f0, .string x.f3.f1, .string x.f3.f2, .string x.f4.f0, .string x.f4.f1, .string x.f4.f2] 125))); have hb1 := Below.trans (below_alloc (Below.refl wr.heap.size wr) (.cells #[.int .i64 x.f0, .int .i64 x.f1, .bool x.f2, .string x.f3.f0, .string x.f3.f1, .string x.f3.f2, .string x.f4.f0, .string x.f4.f1, .string x.f4.f2] 125)) (hb.mono (by simp)); have zd := cell_of_blk ((hb1.block _ (by omega)).trans K2.out); have zs := cell_of_blk ((hb1.block _ (by omega)).trans K3.out); have x0 := zr 0; have x1 := zr 1; have x2 := zr 2; have x3 := zr 3; have x4 := zr 4; have x5 := zr 5; have x6 := zr 6; have x7 := zr 7; have x8 := zr 8; have v0 := zd 0; have v1 := zd 1; have v2 := zd 2; have v3 := zs 0; have v4 := zs 1; have v5 := zs 2; simp only [List.getElem?_toArray, List.getElem?_cons_zero, List.getElem?_cons_succ] at x0 x1 x2 x3 x4 x5 x6 x7 x8 v0 v1 v2 v3 v4 v5; clear zr zd zs; have KR := Aside0.mk ((hb.block wr.heap.size (by simp)).trans (World.alloc_heap_new wr (.cells #[.int .i64 x.f0, .int .i64 x.f1, .bool x.f2, .string x.f3.f0, .string x.f3.f1, .string x.f3.f2, .string x.f4.f0, .string x.f4.f1, .string x.f4.f2] 125))); have KB := Aside0.mk hb1; clear hb hb1) | (go_at_call 352; refine (both_calls w.heap.size (w.heap.size + 1) A0 n0 c0 A1 n1 c1 (some ad) rs.length c2 A3 c3 ms p q x s d 2 _ (Kd.C_below HC.out (HB.out.trans (KB.out.mono HB.out.size))) ((KB.out.block _ (by omega)).trans K0.out) ((KB.out.block _ (by omega)).trans K1.out)).mono ?_; rintro e w2 ⟨rfl, hb2⟩; rw [hv2]; have zr2 := cell_of_blk ((hb2.block wr.heap.size (by omega)).trans KR.out); have y1 := zr2 1; simp only [List.getElem?_toArray, List.getElem?_cons_zero, List.getElem?_cons_succ] at y1; clear zr2; have KB2 := Aside0.mk hb2; clear hb2))
                go_roundw
                case rel => exact ⟨i + 1, by simp, by omega, ⟨find_take_none _ rs i hlt HN.out (by rw [← HX.out]; exact HH.out)⟩, ⟨(HB.out.trans (KB.out.mono HB.out.size)).trans (KB2.out.mono (by omega))⟩⟩
                case measure => simp [intOf]; omega
              · have hh : hitP ms x d s 2 = true := by unfold hitP; rw [hv1, hv2, HF2.out, decide_eq_true HF0.out]; rfl
                have hv : costP rs ms 2 d s = x.f1 := by rw [HCC.out, find_take_some _ rs i hlt HN.out (by rw [← HX.out]; exact hh), ← HX.out]
                have HV := Aside0.mk hv
                clear hv hh
                go_wp2_with (first | (go_at_call 352; clear tok1; refine (both_calls w.heap.size (w.heap.size + 1) A0 n0 c0 A1 n1 c1 (some ad) rs.length c2 A3 c3 ms p q x d s 2 _ (Kd.C_below HC.out (HB.out.trans ((below_alloc (Below.refl wr.heap.size wr) _).mono HB.out.size))) (((below_alloc (Below.refl wr.heap.size wr) _).block _ (by omega)).trans K0.out) (((below_alloc (Below.refl wr.heap.size wr) _).block _ (by omega)).trans K1.out)).mono ?_; rintro e w1 ⟨rfl, hb⟩; rw [hv1]; have s1 := hb.size; rw [World.size_alloc] at s1; have zr := cell_of_blk ((hb.block wr.heap.size (by simp)).trans (World.alloc_heap_new wr (.cells #[.int .i64 x.f0, .int .i64 x.f1, .bool x.f2, .string x.f3.f0, .string x.f3.f1, .string x.f3.f2, .string x.f4.f0, .string x.f4.f1, .string x.f4.f2] 125))); have hb1 := Below.trans (below_alloc (Below.refl wr.heap.size wr) (.cells #[.int .i64 x.f0, .int .i64 x.f1, .bool x.f2, .string x.f3.f0, .string x.f3.f1, .string x.f3.f2, .string x.f4.f0, .string x.f4.f1, .string x.f4.f2] 125)) (hb.mono (by simp)); have zd := cell_of_blk ((hb1.block _ (by omega)).trans K2.out); have zs := cell_of_blk ((hb1.block _ (by omega)).trans K3.out); have x0 := zr 0; have x1 := zr 1; have x2 := zr 2; have x3 := zr 3; have x4 := zr 4; have x5 := zr 5; have x6 := zr 6; have x7 := zr 7; have x8 := zr 8; have v0 := zd 0; have v1 := zd 1; have v2 := zd 2; have v3 := zs 0; have v4 := zs 1; have v5 := zs 2; simp only [List.getElem?_toArray, List.getElem?_cons_zero, List.getElem?_cons_succ] at x0 x1 x2 x3 x4 x5 x6 x7 x8 v0 v1 v2 v3 v4 v5; clear zr zd zs; have KR := Aside0.mk ((hb.block wr.heap.size (by simp)).trans (World.alloc_heap_new wr (.cells #[.int .i64 x.f0, .int .i64 x.f1, .bool x.f2, .string x.f3.f0, .string x.f3.f1, .string x.f3.f2, .string x.f4.f0, .string x.f4.f1, .string x.f4.f2] 125))); have KB := Aside0.mk hb1; clear hb hb1) | (go_at_call 352; refine (both_calls w.heap.size (w.heap.size + 1) A0 n0 c0 A1 n1 c1 (some ad) rs.length c2 A3 c3 ms p q x s d 2 _ (Kd.C_below HC.out (HB.out.trans (KB.out.mono HB.out.size))) ((KB.out.block _ (by omega)).trans K0.out) ((KB.out.block _ (by omega)).trans K1.out)).mono ?_; rintro e w2 ⟨rfl, hb2⟩; rw [hv2]; have zr2 := cell_of_blk ((hb2.block wr.heap.size (by omega)).trans KR.out); have y1 := zr2 1; simp only [List.getElem?_toArray, List.getElem?_cons_zero, List.getElem?_cons_succ] at y1; clear zr2; have KB2 := Aside0.mk hb2; clear hb2))
                go_ret
                exact ⟨by rw [HV.out]; rfl, (HBW.out.trans (KB.out.mono HBW.out.size)).trans (KB2.out.mono (by omega))⟩
            · have hq2 : (!x.f2) = false := by rw [hf2]; rfl
              have HF2 := Aside0.mk hf2
              clear hf2
              have hh : hitP ms x d s 2 = false := by unfold hitP; rw [hv1, HF2.out]; simp
              have HH := Aside0.mk hh
              clear hh
              go_wp2_with (go_at_call 352; clear tok1; refine (both_calls w.heap.size (w.heap.size + 1) A0 n0 c0 A1 n1 c1 (some ad) rs.length c2 A3 c3 ms p q x d s 2 _ (Kd.C_below HC.out (HB.out.trans ((below_alloc (Below.refl wr.heap.size wr) _).mono HB.out.size))) (((below_alloc (Below.refl wr.heap.size wr) _).block _ (by omega)).trans K0.out) (((below_alloc (Below.refl wr.heap.size wr) _).block _ (by omega)).trans K1.out)).mono ?_; rintro e w1 ⟨rfl, hb⟩; rw [hv1]; have s1 := hb.size; rw [World.size_alloc] at s1; have zr := cell_of_blk ((hb.block wr.heap.size (by simp)).trans (World.alloc_heap_new wr (.cells #[.int .i64 x.f0, .int .i64 x.f1, .bool x.f2, .string x.f3.f0, .string x.f3.f1, .string x.f3.f2, .string x.f4.f0, .string x.f4.f1, .string x.f4.f2] 125))); have hb1 := Below.trans (below_alloc (Below.refl wr.heap.size wr) (.cells #[.int .i64 x.f0, .int .i64 x.f1, .bool x.f2, .string x.f3.f0, .string x.f3.f1, .string x.f3.f2, .string x.f4.f0, .string x.f4.f1, .string x.f4.f2] 125)) (hb.mono (by simp)); have zd := cell_of_blk ((hb1.block _ (by omega)).trans K2.out); have zs := cell_of_blk ((hb1.block _ (by omega)).trans K3.out); have x0 := zr 0; have x1 := zr 1; have x2 := zr 2; have x3 := zr 3; have x4 := zr 4; have x5 := zr 5; have x6 := zr 6; have x7 := zr 7; have x8 := zr 8; have v0 := zd 0; have v1 := zd 1; have v2 := zd 2; have v3 := zs 0; have v4 := zs 1; have v5 := zs 2; simp only [List.getElem?_toArray, List.getElem?_cons_zero, List.getElem?_cons_succ] at x0 x1 x2 x3 x4 x5 x6 x7 x8 v0 v1 v2 v3 v4 v5; clear zr zd zs; have KR := Aside0.mk ((hb.block wr.heap.size (by simp)).trans (World.alloc_heap_new wr (.cells #[.int .i64 x.f0, .int .i64 x.f1, .bool x.f2, .string x.f3.f0, .string x.f3.f1, .string x.f3.f2, .string x.f4.f0, .string x.f4.f1, .string x.f4.f2] 125))); have KB := Aside0.mk hb1; clear hb hb1)
              go_roundw
              case rel => exact ⟨i + 1, by simp, by omega, ⟨find_take_none _ rs i hlt HN.out (by rw [← HX.out]; exact HH.out)⟩, ⟨HB.out.trans (KB.out.mono HB.out.size)⟩⟩
              case measure => simp [intOf]; omega
          · have hh : hitP ms x d s 2 = true := by unfold hitP; rw [hv1, decide_eq_true HF0.out]; rfl
            have hv : costP rs ms 2 d s = x.f1 := by rw [HCC.out, find_take_some _ rs i hlt HN.out (by rw [← HX.out]; exact hh), ← HX.out]
            have HV := Aside0.mk hv
            clear hv hh
            go_wp2_with (go_at_call 352; clear tok1; refine (both_calls w.heap.size (w.heap.size + 1) A0 n0 c0 A1 n1 c1 (some ad) rs.length c2 A3 c3 ms p q x d s 2 _ (Kd.C_below HC.out (HB.out.trans ((below_alloc (Below.refl wr.heap.size wr) _).mono HB.out.size))) (((below_alloc (Below.refl wr.heap.size wr) _).block _ (by omega)).trans K0.out) (((below_alloc (Below.refl wr.heap.size wr) _).block _ (by omega)).trans K1.out)).mono ?_; rintro e w1 ⟨rfl, hb⟩; rw [hv1]; have s1 := hb.size; rw [World.size_alloc] at s1; have zr := cell_of_blk ((hb.block wr.heap.size (by simp)).trans (World.alloc_heap_new wr (.cells #[.int .i64 x.f0, .int .i64 x.f1, .bool x.f2, .string x.f3.f0, .string x.f3.f1, .string x.f3.f2, .string x.f4.f0, .string x.f4.f1, .string x.f4.f2] 125))); have hb1 := Below.trans (below_alloc (Below.refl wr.heap.size wr) (.cells #[.int .i64 x.f0, .int .i64 x.f1, .bool x.f2, .string x.f3.f0, .string x.f3.f1, .string x.f3.f2, .string x.f4.f0, .string x.f4.f1, .string x.f4.f2] 125)) (hb.mono (by simp)); have zd := cell_of_blk ((hb1.block _ (by omega)).trans K2.out); have zs := cell_of_blk ((hb1.block _ (by omega)).trans K3.out); have x0 := zr 0; have x1 := zr 1; have x2 := zr 2; have x3 := zr 3; have x4 := zr 4; have x5 := zr 5; have x6 := zr 6; have x7 := zr 7; have x8 := zr 8; have v0 := zd 0; have v1 := zd 1; have v2 := zd 2; have v3 := zs 0; have v4 := zs 1; have v5 := zs 2; simp only [List.getElem?_toArray, List.getElem?_cons_zero, List.getElem?_cons_succ] at x0 x1 x2 x3 x4 x5 x6 x7 x8 v0 v1 v2 v3 v4 v5; clear zr zd zs; have KR := Aside0.mk ((hb.block wr.heap.size (by simp)).trans (World.alloc_heap_new wr (.cells #[.int .i64 x.f0, .int .i64 x.f1, .bool x.f2, .string x.f3.f0, .string x.f3.f1, .string x.f3.f2, .string x.f4.f0, .string x.f4.f1, .string x.f4.f2] 125))); have KB := Aside0.mk hb1; clear hb hb1)
            go_ret
            exact ⟨by rw [HV.out]; rfl, HBW.out.trans (KB.out.mono HBW.out.size)⟩
        · have hh : hitP ms x d s 2 = false := by unfold hitP; rw [decide_eq_false hf0]; rfl
          have HH := Aside0.mk hh
          clear hh
          go_wp2
          go_roundw
          case rel => exact ⟨i + 1, by simp, by omega, ⟨find_take_none _ rs i hlt HN.out (by rw [← HX.out]; exact HH.out)⟩, ⟨HB.out.trans ((below_alloc (Below.refl wr.heap.size wr) _).mono HB.out.size)⟩⟩
          case measure => simp [intOf]; omega
      · obtain rfl : i = rs.length := by omega
        have d1 : decide (((rs.length : Nat) : Int) < (rs.length : Int)) = false := decide_eq_false (by omega)
        have hN := HN.out
        rw [List.take_length] at hN
        have hv : costP rs ms 2 d s = 100 := by rw [HCC.out, hN]
        have HV := Aside0.mk hv
        clear hv hN
        go_wp2
        go_ret
        exact ⟨by rw [HV.out]; rfl, HBW.out⟩
   · clear hlv
     go_wp2
     rw [← HW.out]
     have w1 := cell_of_blk H1.out 0
     have zd := cell_of_blk H2.out
     have zs := cell_of_blk H3.out
     have zi := cell_of_blk H0.out
     have v0 := zd 0
     have v1 := zd 1
     have v2 := zd 2
     have v3 := zs 0
     have v4 := zs 1
     have v5 := zs 2
     have i2 := zi 2
     simp only [List.getElem?_toArray, List.getElem?_cons_zero, List.getElem?_cons_succ] at w1 v0 v1 v2 v3 v4 v5 i2
     clear zd zs zi
     have hw : IntKind.i64.wrap 2 = 2 := by rfl
     go_still (by kernel_rfl)
     go_wp2
     · have he : d.2.2.toList = s.2.2.toList := eq_of_beq (by assumption : (d.2.2.toList == s.2.2.toList) = true)
       go_ret
       exact ⟨by have : costP rs ms 3 d s = 0 := by { unfold costP; rw [if_neg (by omega), if_pos (show at3 d ((3 : Int) - 1).toNat = at3 s ((3 : Int) - 1).toNat from toList_inj he)] }
                 rw [this]; rfl, HB0.out.trans ((below_drew (Below.refl W0.heap.size W0)).mono HB0.out.size)⟩
     have hbq : (d.2.2.toList == s.2.2.toList) = false := by assumption
     rw [hbq]
     have he : ¬ d.2.2.toList = s.2.2.toList := ne_of_beq_false (by assumption : (d.2.2.toList == s.2.2.toList) = false)
     have hc : costP rs ms 3 d s = match rs.find? fun r => hitP ms r d s 3 with
      | some r => r.f1
      | none => 100 := by unfold costP; rw [if_neg (by omega), if_neg (show ¬ at3 d ((3 : Int) - 1).toNat = at3 s ((3 : Int) - 1).toNat from fun e => he (congrArg ByteArray.toList e))]
     have HCC := Aside0.mk hc
     clear hc
     go_loopw [31] (fun vi wr => ∃ i : Nat, vi = .int .i64 (i : Int) ∧ i ≤ rs.length ∧ Aside0 ((rs.take i).find? (fun r => hitP ms r d s 3) = none) ∧ Aside0 (Below W0.heap.size W0 wr)) (fun vi _ => rs.length - (intOf vi).toNat)
     case atStart => exact ⟨0, rfl, Nat.zero_le _, ⟨rfl⟩, ⟨below_drew (Below.refl _ _)⟩⟩
     case round =>
      clear w1 v0 v1 v2 v3 v4 v5 i2
      obtain ⟨i, rfl, hi, HN, HB⟩ := hrel
      have BW := HB0.out.trans (HB.out.mono HB0.out.size)
      have HBW := Aside0.mk BW
      by_cases hlt : i < rs.length
      · have sr := HB.out.size
        have sw0 : w.heap.size < wr.heap.size := by omega
        have sw1 : w.heap.size + 1 < wr.heap.size := by omega
        have sw2 : w.heap.size + 1 + 1 < wr.heap.size := by omega
        have sw3 : w.heap.size + 1 + 1 + 1 < wr.heap.size := by omega
        have K0 := Aside0.mk ((HB.out.block _ (by omega)).trans H0.out)
        have K1 := Aside0.mk ((HB.out.block _ (by omega)).trans H1.out)
        have K2 := Aside0.mk ((HB.out.block _ (by omega)).trans H2.out)
        have K3 := Aside0.mk ((HB.out.block _ (by omega)).trans H3.out)
        obtain ⟨ad, e, x0, x1, x2, x3, x4, x5, x6, x7, x8⟩ := at_T53 HR.out (i : Int) (by omega) (by omega)
        cases e
        have bl := World.block_lt_of_cell? W0 _ x0
        replace x0 := (HB.out.cell (World.block_lt_of_cell? W0 _ x0)).trans x0
        replace x1 := (HB.out.cell (World.block_lt_of_cell? W0 _ x1)).trans x1
        replace x2 := (HB.out.cell (World.block_lt_of_cell? W0 _ x2)).trans x2
        replace x3 := (HB.out.cell (World.block_lt_of_cell? W0 _ x3)).trans x3
        replace x4 := (HB.out.cell (World.block_lt_of_cell? W0 _ x4)).trans x4
        replace x5 := (HB.out.cell (World.block_lt_of_cell? W0 _ x5)).trans x5
        replace x6 := (HB.out.cell (World.block_lt_of_cell? W0 _ x6)).trans x6
        replace x7 := (HB.out.cell (World.block_lt_of_cell? W0 _ x7)).trans x7
        replace x8 := (HB.out.cell (World.block_lt_of_cell? W0 _ x8)).trans x8
        obtain ⟨x, hx⟩ : ∃ x, x = rd_T53 rs (i : Int) := ⟨_, rfl⟩
        rw [← hx] at x0 x1 x2 x3 x4 x5 x6 x7 x8
        simp only [Int.toNat_natCast] at x0 x1 x2 x3 x4 x5 x6 x7 x8
        have hx2 : x = rs[i]'hlt := by rw [hx]; simp [rd_T53, List.getD_eq_getElem?_getD, List.getElem?_eq_getElem hlt]
        have HX := Aside0.mk hx2
        clear hx hx2 bl BW
        have zd := cell_of_blk K2.out
        have zs := cell_of_blk K3.out
        have l0 := cell_of_blk K1.out 0
        have v0 := zd 0
        have v1 := zd 1
        have v2 := zd 2
        have v3 := zs 0
        have v4 := zs 1
        have v5 := zs 2
        simp only [List.getElem?_toArray, List.getElem?_cons_zero, List.getElem?_cons_succ] at l0 v0 v1 v2 v3 v4 v5
        clear zd zs
        have tok1 : Aside0 (1 = 1) := ⟨rfl⟩
        have d1 : decide ((i : Int) < (rs.length : Int)) = true := decide_eq_true (by omega)
        by_cases hf0 : x.f0 = 3
        · have hq : (x.f0 == 3) = true := by rw [hf0]; rfl
          have HF0 := Aside0.mk hf0
          clear hf0
          cases hv1 : bothP ms x d s 3
          · cases hf2 : x.f2
            · have hq2 : (!x.f2) = true := by rw [hf2]; rfl
              have HF2 := Aside0.mk hf2
              clear hf2
              cases hv2 : bothP ms x s d 3
              · have hh : hitP ms x d s 3 = false := by unfold hitP; rw [hv1, hv2, HF2.out]; simp
                have HH := Aside0.mk hh
                clear hh
                go_wp2_with (first | (go_at_call 352; clear tok1; refine (both_calls w.heap.size (w.heap.size + 1) A0 n0 c0 A1 n1 c1 (some ad) rs.length c2 A3 c3 ms p q x d s 3 _ (Kd.C_below HC.out (HB.out.trans ((below_alloc (Below.refl wr.heap.size wr) _).mono HB.out.size))) (((below_alloc (Below.refl wr.heap.size wr) _).block _ (by omega)).trans K0.out) (((below_alloc (Below.refl wr.heap.size wr) _).block _ (by omega)).trans K1.out)).mono ?_; rintro e w1 ⟨rfl, hb⟩; rw [hv1]; have s1 := hb.size; rw [World.size_alloc] at s1; have zr := cell_of_blk ((hb.block wr.heap.size (by simp)).trans (World.alloc_heap_new wr (.cells #[.int .i64 x.f0, .int .i64 x.f1, .bool x.f2, .string x.f3.f0, .string x.f3.f1, .string x.f3.f2, .string x.f4.f0, .string x.f4.f1, .string x.f4.f2] 125))); have hb1 := Below.trans (below_alloc (Below.refl wr.heap.size wr) (.cells #[.int .i64 x.f0, .int .i64 x.f1, .bool x.f2, .string x.f3.f0, .string x.f3.f1, .string x.f3.f2, .string x.f4.f0, .string x.f4.f1, .string x.f4.f2] 125)) (hb.mono (by simp)); have zd := cell_of_blk ((hb1.block _ (by omega)).trans K2.out); have zs := cell_of_blk ((hb1.block _ (by omega)).trans K3.out); have x0 := zr 0; have x1 := zr 1; have x2 := zr 2; have x3 := zr 3; have x4 := zr 4; have x5 := zr 5; have x6 := zr 6; have x7 := zr 7; have x8 := zr 8; have v0 := zd 0; have v1 := zd 1; have v2 := zd 2; have v3 := zs 0; have v4 := zs 1; have v5 := zs 2; simp only [List.getElem?_toArray, List.getElem?_cons_zero, List.getElem?_cons_succ] at x0 x1 x2 x3 x4 x5 x6 x7 x8 v0 v1 v2 v3 v4 v5; clear zr zd zs; have KR := Aside0.mk ((hb.block wr.heap.size (by simp)).trans (World.alloc_heap_new wr (.cells #[.int .i64 x.f0, .int .i64 x.f1, .bool x.f2, .string x.f3.f0, .string x.f3.f1, .string x.f3.f2, .string x.f4.f0, .string x.f4.f1, .string x.f4.f2] 125))); have KB := Aside0.mk hb1; clear hb hb1) | (go_at_call 352; refine (both_calls w.heap.size (w.heap.size + 1) A0 n0 c0 A1 n1 c1 (some ad) rs.length c2 A3 c3 ms p q x s d 3 _ (Kd.C_below HC.out (HB.out.trans (KB.out.mono HB.out.size))) ((KB.out.block _ (by omega)).trans K0.out) ((KB.out.block _ (by omega)).trans K1.out)).mono ?_; rintro e w2 ⟨rfl, hb2⟩; rw [hv2]; have zr2 := cell_of_blk ((hb2.block wr.heap.size (by omega)).trans KR.out); have y1 := zr2 1; simp only [List.getElem?_toArray, List.getElem?_cons_zero, List.getElem?_cons_succ] at y1; clear zr2; have KB2 := Aside0.mk hb2; clear hb2))
                go_roundw
                case rel => exact ⟨i + 1, by simp, by omega, ⟨find_take_none _ rs i hlt HN.out (by rw [← HX.out]; exact HH.out)⟩, ⟨(HB.out.trans (KB.out.mono HB.out.size)).trans (KB2.out.mono (by omega))⟩⟩
                case measure => simp [intOf]; omega
              · have hh : hitP ms x d s 3 = true := by unfold hitP; rw [hv1, hv2, HF2.out, decide_eq_true HF0.out]; rfl
                have hv : costP rs ms 3 d s = x.f1 := by rw [HCC.out, find_take_some _ rs i hlt HN.out (by rw [← HX.out]; exact hh), ← HX.out]
                have HV := Aside0.mk hv
                clear hv hh
                go_wp2_with (first | (go_at_call 352; clear tok1; refine (both_calls w.heap.size (w.heap.size + 1) A0 n0 c0 A1 n1 c1 (some ad) rs.length c2 A3 c3 ms p q x d s 3 _ (Kd.C_below HC.out (HB.out.trans ((below_alloc (Below.refl wr.heap.size wr) _).mono HB.out.size))) (((below_alloc (Below.refl wr.heap.size wr) _).block _ (by omega)).trans K0.out) (((below_alloc (Below.refl wr.heap.size wr) _).block _ (by omega)).trans K1.out)).mono ?_; rintro e w1 ⟨rfl, hb⟩; rw [hv1]; have s1 := hb.size; rw [World.size_alloc] at s1; have zr := cell_of_blk ((hb.block wr.heap.size (by simp)).trans (World.alloc_heap_new wr (.cells #[.int .i64 x.f0, .int .i64 x.f1, .bool x.f2, .string x.f3.f0, .string x.f3.f1, .string x.f3.f2, .string x.f4.f0, .string x.f4.f1, .string x.f4.f2] 125))); have hb1 := Below.trans (below_alloc (Below.refl wr.heap.size wr) (.cells #[.int .i64 x.f0, .int .i64 x.f1, .bool x.f2, .string x.f3.f0, .string x.f3.f1, .string x.f3.f2, .string x.f4.f0, .string x.f4.f1, .string x.f4.f2] 125)) (hb.mono (by simp)); have zd := cell_of_blk ((hb1.block _ (by omega)).trans K2.out); have zs := cell_of_blk ((hb1.block _ (by omega)).trans K3.out); have x0 := zr 0; have x1 := zr 1; have x2 := zr 2; have x3 := zr 3; have x4 := zr 4; have x5 := zr 5; have x6 := zr 6; have x7 := zr 7; have x8 := zr 8; have v0 := zd 0; have v1 := zd 1; have v2 := zd 2; have v3 := zs 0; have v4 := zs 1; have v5 := zs 2; simp only [List.getElem?_toArray, List.getElem?_cons_zero, List.getElem?_cons_succ] at x0 x1 x2 x3 x4 x5 x6 x7 x8 v0 v1 v2 v3 v4 v5; clear zr zd zs; have KR := Aside0.mk ((hb.block wr.heap.size (by simp)).trans (World.alloc_heap_new wr (.cells #[.int .i64 x.f0, .int .i64 x.f1, .bool x.f2, .string x.f3.f0, .string x.f3.f1, .string x.f3.f2, .string x.f4.f0, .string x.f4.f1, .string x.f4.f2] 125))); have KB := Aside0.mk hb1; clear hb hb1) | (go_at_call 352; refine (both_calls w.heap.size (w.heap.size + 1) A0 n0 c0 A1 n1 c1 (some ad) rs.length c2 A3 c3 ms p q x s d 3 _ (Kd.C_below HC.out (HB.out.trans (KB.out.mono HB.out.size))) ((KB.out.block _ (by omega)).trans K0.out) ((KB.out.block _ (by omega)).trans K1.out)).mono ?_; rintro e w2 ⟨rfl, hb2⟩; rw [hv2]; have zr2 := cell_of_blk ((hb2.block wr.heap.size (by omega)).trans KR.out); have y1 := zr2 1; simp only [List.getElem?_toArray, List.getElem?_cons_zero, List.getElem?_cons_succ] at y1; clear zr2; have KB2 := Aside0.mk hb2; clear hb2))
                go_ret
                exact ⟨by rw [HV.out]; rfl, (HBW.out.trans (KB.out.mono HBW.out.size)).trans (KB2.out.mono (by omega))⟩
            · have hq2 : (!x.f2) = false := by rw [hf2]; rfl
              have HF2 := Aside0.mk hf2
              clear hf2
              have hh : hitP ms x d s 3 = false := by unfold hitP; rw [hv1, HF2.out]; simp
              have HH := Aside0.mk hh
              clear hh
              go_wp2_with (go_at_call 352; clear tok1; refine (both_calls w.heap.size (w.heap.size + 1) A0 n0 c0 A1 n1 c1 (some ad) rs.length c2 A3 c3 ms p q x d s 3 _ (Kd.C_below HC.out (HB.out.trans ((below_alloc (Below.refl wr.heap.size wr) _).mono HB.out.size))) (((below_alloc (Below.refl wr.heap.size wr) _).block _ (by omega)).trans K0.out) (((below_alloc (Below.refl wr.heap.size wr) _).block _ (by omega)).trans K1.out)).mono ?_; rintro e w1 ⟨rfl, hb⟩; rw [hv1]; have s1 := hb.size; rw [World.size_alloc] at s1; have zr := cell_of_blk ((hb.block wr.heap.size (by simp)).trans (World.alloc_heap_new wr (.cells #[.int .i64 x.f0, .int .i64 x.f1, .bool x.f2, .string x.f3.f0, .string x.f3.f1, .string x.f3.f2, .string x.f4.f0, .string x.f4.f1, .string x.f4.f2] 125))); have hb1 := Below.trans (below_alloc (Below.refl wr.heap.size wr) (.cells #[.int .i64 x.f0, .int .i64 x.f1, .bool x.f2, .string x.f3.f0, .string x.f3.f1, .string x.f3.f2, .string x.f4.f0, .string x.f4.f1, .string x.f4.f2] 125)) (hb.mono (by simp)); have zd := cell_of_blk ((hb1.block _ (by omega)).trans K2.out); have zs := cell_of_blk ((hb1.block _ (by omega)).trans K3.out); have x0 := zr 0; have x1 := zr 1; have x2 := zr 2; have x3 := zr 3; have x4 := zr 4; have x5 := zr 5; have x6 := zr 6; have x7 := zr 7; have x8 := zr 8; have v0 := zd 0; have v1 := zd 1; have v2 := zd 2; have v3 := zs 0; have v4 := zs 1; have v5 := zs 2; simp only [List.getElem?_toArray, List.getElem?_cons_zero, List.getElem?_cons_succ] at x0 x1 x2 x3 x4 x5 x6 x7 x8 v0 v1 v2 v3 v4 v5; clear zr zd zs; have KR := Aside0.mk ((hb.block wr.heap.size (by simp)).trans (World.alloc_heap_new wr (.cells #[.int .i64 x.f0, .int .i64 x.f1, .bool x.f2, .string x.f3.f0, .string x.f3.f1, .string x.f3.f2, .string x.f4.f0, .string x.f4.f1, .string x.f4.f2] 125))); have KB := Aside0.mk hb1; clear hb hb1)
              go_roundw
              case rel => exact ⟨i + 1, by simp, by omega, ⟨find_take_none _ rs i hlt HN.out (by rw [← HX.out]; exact HH.out)⟩, ⟨HB.out.trans (KB.out.mono HB.out.size)⟩⟩
              case measure => simp [intOf]; omega
          · have hh : hitP ms x d s 3 = true := by unfold hitP; rw [hv1, decide_eq_true HF0.out]; rfl
            have hv : costP rs ms 3 d s = x.f1 := by rw [HCC.out, find_take_some _ rs i hlt HN.out (by rw [← HX.out]; exact hh), ← HX.out]
            have HV := Aside0.mk hv
            clear hv hh
            go_wp2_with (go_at_call 352; clear tok1; refine (both_calls w.heap.size (w.heap.size + 1) A0 n0 c0 A1 n1 c1 (some ad) rs.length c2 A3 c3 ms p q x d s 3 _ (Kd.C_below HC.out (HB.out.trans ((below_alloc (Below.refl wr.heap.size wr) _).mono HB.out.size))) (((below_alloc (Below.refl wr.heap.size wr) _).block _ (by omega)).trans K0.out) (((below_alloc (Below.refl wr.heap.size wr) _).block _ (by omega)).trans K1.out)).mono ?_; rintro e w1 ⟨rfl, hb⟩; rw [hv1]; have s1 := hb.size; rw [World.size_alloc] at s1; have zr := cell_of_blk ((hb.block wr.heap.size (by simp)).trans (World.alloc_heap_new wr (.cells #[.int .i64 x.f0, .int .i64 x.f1, .bool x.f2, .string x.f3.f0, .string x.f3.f1, .string x.f3.f2, .string x.f4.f0, .string x.f4.f1, .string x.f4.f2] 125))); have hb1 := Below.trans (below_alloc (Below.refl wr.heap.size wr) (.cells #[.int .i64 x.f0, .int .i64 x.f1, .bool x.f2, .string x.f3.f0, .string x.f3.f1, .string x.f3.f2, .string x.f4.f0, .string x.f4.f1, .string x.f4.f2] 125)) (hb.mono (by simp)); have zd := cell_of_blk ((hb1.block _ (by omega)).trans K2.out); have zs := cell_of_blk ((hb1.block _ (by omega)).trans K3.out); have x0 := zr 0; have x1 := zr 1; have x2 := zr 2; have x3 := zr 3; have x4 := zr 4; have x5 := zr 5; have x6 := zr 6; have x7 := zr 7; have x8 := zr 8; have v0 := zd 0; have v1 := zd 1; have v2 := zd 2; have v3 := zs 0; have v4 := zs 1; have v5 := zs 2; simp only [List.getElem?_toArray, List.getElem?_cons_zero, List.getElem?_cons_succ] at x0 x1 x2 x3 x4 x5 x6 x7 x8 v0 v1 v2 v3 v4 v5; clear zr zd zs; have KR := Aside0.mk ((hb.block wr.heap.size (by simp)).trans (World.alloc_heap_new wr (.cells #[.int .i64 x.f0, .int .i64 x.f1, .bool x.f2, .string x.f3.f0, .string x.f3.f1, .string x.f3.f2, .string x.f4.f0, .string x.f4.f1, .string x.f4.f2] 125))); have KB := Aside0.mk hb1; clear hb hb1)
            go_ret
            exact ⟨by rw [HV.out]; rfl, HBW.out.trans (KB.out.mono HBW.out.size)⟩
        · have hh : hitP ms x d s 3 = false := by unfold hitP; rw [decide_eq_false hf0]; rfl
          have HH := Aside0.mk hh
          clear hh
          go_wp2
          go_roundw
          case rel => exact ⟨i + 1, by simp, by omega, ⟨find_take_none _ rs i hlt HN.out (by rw [← HX.out]; exact HH.out)⟩, ⟨HB.out.trans ((below_alloc (Below.refl wr.heap.size wr) _).mono HB.out.size)⟩⟩
          case measure => simp [intOf]; omega
      · obtain rfl : i = rs.length := by omega
        have d1 : decide (((rs.length : Nat) : Int) < (rs.length : Int)) = false := decide_eq_false (by omega)
        have hN := HN.out
        rw [List.take_length] at hN
        have hv : costP rs ms 3 d s = 100 := by rw [HCC.out, hN]
        have HV := Aside0.mk hv
        clear hv hN
        go_wp2
        go_ret
        exact ⟨by rw [HV.out]; rfl, HBW.out⟩
def runL (P : Program) : List Oper → Act → World → Option (Act × World)
 | [], a, w => some (a, w)
 | o :: r, a, w => match o.guard with
  | some _ => none
  | none => match (execOp a.eval o).run P w with
   | .ok (.value v) w' => runL P r (a.put o.dst v) w'
   | .ok .skip w' => runL P r (a.put o.dst undef) w'
   | _ => none
theorem wpList_runL {P : Program} {ops : Array Oper} {Q : Exit → Act → World → Prop} : ∀ (l : List Oper) (a : Act) (w : World) (a' : Act) (w' : World), runL P l a w = some (a', w') → Q .normal a' w' → wpList P ops Q l a w
 | [], a, w, a', w', h, hQ => by
  cases h
  exact wpList_nil hQ
 | o :: r, a, w, a', w', h, hQ => by
  unfold runL at h
  split at h
  · cases h
  · rename_i hg
    split at h
    · rename_i v w1 hr
      refine wpList_plain hg fun K hK => ?_
      unfold Oper.wp
      rw [hr]
      exact hK _ _ (wpList_runL r _ _ a' w' h hQ)
    · rename_i w1 hr
      refine wpList_plain hg fun K hK => ?_
      unfold Oper.wp
      rw [hr]
      exact hK _ _ (wpList_runL r _ _ a' w' h hQ)
    · cases h
def runC (P : Program) : Code → Act → World → Option (Bool × Act × World)
 | .region _ ops false, a, w => (runL P ops.toList a w).map fun x => (false, x)
 | .seq x y, a, w => match runC P x a w with
  | some (false, a', w') => runC P y a' w'
  | r => r
 | .ret, a, w => some (true, a, w)
 | .skip, a, w => some (false, a, w)
 | _, _, _ => none
theorem wp_runC {P : Program} : ∀ (c : Code) (Q : Exit → Act → World → Prop) (a : Act) (w : World) (e : Bool) (a' : Act) (w' : World), runC P c a w = some (e, a', w') → Q (if e = true then .ret else .normal) a' w' → c.wp P Q a w := by
 intro c
 induction c with
 | seq x y hx hy =>
  intro Q a w e a' w' h hQ
  simp only [runC] at h
  refine wp_seq ?_
  cases hr : runC P x a w with
  | none => rw [hr] at h; cases h
  | some r =>
   obtain ⟨e1, a1, w1⟩ := r
   rw [hr] at h
   cases e1 with
   | false => exact hx _ a w false a1 w1 hr (hy Q a1 w1 e a' w' h hQ)
   | true =>
    cases h
    exact hx _ a w true _ _ hr hQ
 | region id ops d =>
  intro Q a w e a' w' h hQ
  cases d with
  | false =>
   simp only [runC, Option.map_eq_some_iff] at h
   obtain ⟨x, hx, hh⟩ := h
   cases hh
   exact wp_region_list (wpList_runL _ _ _ _ _ hx hQ)
  | true => simp [runC] at h
 | ret =>
  intro Q a w e a' w' h hQ
  cases h
  exact wp_ret hQ
 | skip =>
  intro Q a w e a' w' h hQ
  cases h
  exact wp_skip hQ
 | _ =>
  intro Q a w e a' w' h hQ
  simp [runC] at h
theorem calls_run {P : Program} {f : FuncId} {fn : Func} {args : Array Value} {w w' : World} {v : Value} (hf : P.funcs[f]? = some fn) (t : Tmp) (ht : fn.results = #[.tmp t])
 (h : ((fn.body.bind fun c => runC P c { tmps := args ++ Array.replicate (fn.ntmps - args.size) undef, defers := [] } w).map fun x => (x.1, x.2.1.tmps.getD t undef, x.2.1.defers, x.2.2)) = some (true, v, [], w')) :
 Calls P f args w fun e W => e = .returned v ∧ W = w' := by
 rw [Option.map_eq_some_iff] at h
 obtain ⟨⟨e, a', W⟩, hx, hh⟩ := h
 rw [Option.bind_eq_some_iff] at hx
 obtain ⟨c, hc, hx⟩ := hx
 simp only [Prod.mk.injEq] at hh
 obtain ⟨he, hv, hd, hW⟩ := hh
 refine calls_of_wp hf hc (wp_runC c _ _ _ _ _ _ hx ?_)
 rw [he, if_pos rfl]
 exact bodyPost_ret (results_tmp ht _ _ _) hd ⟨by rw [hv], hW⟩
theorem C_blk {α : Type} (d : Kd α) (enc : α → List Value) (hs : ∀ x, (enc x).length = d.sz) (hK : ∀ w x, d.K w x (enc x)) {W : World} {B : Nat} {T : TypeId} {m : Nat × Nat} (xs : List α) (hn : xs.length ≤ 9223372036854775807) (h : W.heap[B]? = some (.cells (xs.flatMap enc).toArray T m)) :
 Kd.C d W (some ⟨B, 0, none⟩) xs.length xs := by
 refine ⟨rfl, hn, fun _ => ⟨_, rfl, fun j p hp => ⟨enc p, hs p, hK W p, fun i u hu => ?_⟩⟩⟩
 have hl : i < d.sz := by rw [← hs p]; exact (List.getElem?_eq_some_iff.1 hu).1
 have hf : ∀ (ys : List α) (j : Nat) (p : α), ys[j]? = some p → (ys.flatMap enc)[j * d.sz + i]? = some u ∨ enc p ≠ enc p ∨ ¬ (enc p)[i]? = some u := by
  intro ys
  induction ys with
  | nil => intro j p hp; simp at hp
  | cons y ys ih =>
   intro j p hp
   cases j with
   | zero =>
    simp only [List.getElem?_cons_zero, Option.some.injEq] at hp
    subst hp
    by_cases hu : (enc y)[i]? = some u
    · left
      rw [List.flatMap_cons, Nat.zero_mul, Nat.zero_add, List.getElem?_append_left (by rw [hs y]; exact hl)]
      exact hu
    · exact .inr (.inr hu)
   | succ j =>
    rw [List.getElem?_cons_succ] at hp
    rcases ih j p hp with h | h
    · left
      rw [List.flatMap_cons, List.getElem?_append_right (by rw [hs y, Nat.succ_mul]; omega), hs y, show (j + 1) * d.sz + i - d.sz = j * d.sz + i by rw [Nat.succ_mul]; omega]
      exact h
    · exact .inr h
 have := (hf xs j p hp).resolve_right (fun h => h.elim (fun h => h rfl) (fun h => h hu))
 rw [show (⟨B, 0, none⟩ : Addr).add (j * d.sz + i) = ⟨B, j * d.sz + i, none⟩ by (simp [Addr.add]; intro a b; rw [a, b]), Go.cell_of_row _ _ _ _ _ _ h]
 simpa using this
def enc66 (x : S66) : List Value := [.string x.f0, .string x.f1, .string x.f2, .string x.f3, .string x.f4, .string x.f5]
def enc69 (x : S69) : List Value := [.string x.f0, .string x.f1]
def enc53 (x : S53) : List Value := [.int .i64 x.f0, .int .i64 x.f1, .bool x.f2, .string x.f3.f0, .string x.f3.f1, .string x.f3.f2, .string x.f4.f0, .string x.f4.f1, .string x.f4.f2]
theorem C66 {W : World} {B : Nat} {T : TypeId} {m : Nat × Nat} (xs : List S66) (hn : xs.length ≤ 9223372036854775807) (h : W.heap[B]? = some (.cells (xs.flatMap enc66).toArray T m)) : Kd.C k66 W (some ⟨B, 0, none⟩) xs.length xs := C_blk k66 enc66 (fun _ => rfl) (fun w x => k66_mk w x) xs hn h
theorem C69 {W : World} {B : Nat} {T : TypeId} {m : Nat × Nat} (xs : List S69) (hn : xs.length ≤ 9223372036854775807) (h : W.heap[B]? = some (.cells (xs.flatMap enc69).toArray T m)) : Kd.C k69 W (some ⟨B, 0, none⟩) xs.length xs := C_blk k69 enc69 (fun _ => rfl) (fun w x => k69_mk w x) xs hn h
theorem C53 {W : World} {B : Nat} {T : TypeId} {m : Nat × Nat} (xs : List S53) (hn : xs.length ≤ 9223372036854775807) (h : W.heap[B]? = some (.cells (xs.flatMap enc53).toArray T m)) : Kd.C k53 W (some ⟨B, 0, none⟩) xs.length xs := C_blk k53 enc53 (fun _ => rfl) (fun w x => k53_mk w x) xs hn h
theorem C_same {α : Type} {d : Kd α} (hf : ∀ {w w' : World} {x : α} {c : List Value}, d.K w x c → d.K w' x c) {W W' : World} {A : Option Addr} {n : Nat} {xs : List α} (h : Kd.C d W A n xs) (hs : ∀ a, A = some a → W'.heap[a.block]? = W.heap[a.block]?) : Kd.C d W' A n xs := by
 refine ⟨h.1, h.2.1, fun hn => ?_⟩
 obtain ⟨ad, e, hc⟩ := h.2.2 hn
 refine ⟨ad, e, fun j p hp => ?_⟩
 obtain ⟨c, h1, h2, h3⟩ := hc j p hp
 refine ⟨c, h1, hf h2, fun i u hu => ?_⟩
 have hb : (ad.add (j * d.sz + i)).block = ad.block := by unfold Addr.add; split <;> rfl
 rw [World.cell?_of_block (w := W) (by rw [hb]; exact hs ad e)]
 exact h3 i u hu
theorem flat66 {w w' : World} {x : S66} {c : List Value} (h : k66.K w x c) : k66.K w' x c := by rw [k66_open h]; exact k66_mk w' x
theorem flat53 {w w' : World} {x : S53} {c : List Value} (h : k53.K w x c) : k53.K w' x c := by rw [k53_open h]; exact k53_mk w' x
theorem flat69 {w w' : World} {x : S69} {c : List Value} (h : k69.K w x c) : k69.K w' x c := by rw [k69_open h]; exact k69_mk w' x
theorem flat59 {w w' : World} {x : S59} {c : List Value} (h : k59.K w x c) : k59.K w' x c := by rw [k59_open h]; exact k59_mk w' x
theorem set_heap (W : World) (g i : Nat) (v : Value) (k : Nat) (h : k ≠ g) : (W.setCell ⟨g, i, none⟩ v).heap[k]? = W.heap[k]? := by
 simp only [World.setCell, Array.getElem?_modify]
 rw [if_neg (fun e => h e.symm)]
def dAliases : List S59 := [
 ⟨1, ⟨#[49, 56]⟩, ⟨#[]⟩, ⟨#[115, 102, 98]⟩, ⟨#[]⟩, ⟨#[]⟩⟩,
 ⟨1, ⟨#[49, 57]⟩, ⟨#[]⟩, ⟨#[118, 103, 116]⟩, ⟨#[]⟩, ⟨#[]⟩⟩,
 ⟨1, ⟨#[50, 48]⟩, ⟨#[]⟩, ⟨#[115, 103, 103]⟩, ⟨#[]⟩, ⟨#[]⟩⟩,
 ⟨1, ⟨#[48, 51]⟩, ⟨#[]⟩, ⟨#[97, 109, 105]⟩, ⟨#[]⟩, ⟨#[]⟩⟩,
 ⟨1, ⟨#[48, 56]⟩, ⟨#[]⟩, ⟨#[116, 108, 104]⟩, ⟨#[]⟩, ⟨#[]⟩⟩,
 ⟨1, ⟨#[48, 57]⟩, ⟨#[]⟩, ⟨#[108, 98]⟩, ⟨#[]⟩, ⟨#[]⟩⟩,
 ⟨1, ⟨#[49, 49]⟩, ⟨#[]⟩, ⟨#[110, 118]⟩, ⟨#[]⟩, ⟨#[]⟩⟩,
 ⟨1, ⟨#[49, 50]⟩, ⟨#[]⟩, ⟨#[112, 119, 110]⟩, ⟨#[]⟩, ⟨#[]⟩⟩,
 ⟨1, ⟨#[49, 51]⟩, ⟨#[]⟩, ⟨#[116, 97, 111]⟩, ⟨#[]⟩, ⟨#[]⟩⟩,
 ⟨1, ⟨#[49, 52]⟩, ⟨#[]⟩, ⟨#[116, 97, 121]⟩, ⟨#[]⟩, ⟨#[]⟩⟩,
 ⟨1, ⟨#[49, 53]⟩, ⟨#[]⟩, ⟨#[116, 115, 117]⟩, ⟨#[]⟩, ⟨#[]⟩⟩,
 ⟨1, ⟨#[49, 54]⟩, ⟨#[]⟩, ⟨#[110, 98]⟩, ⟨#[]⟩, ⟨#[]⟩⟩,
 ⟨1, ⟨#[49, 55]⟩, ⟨#[]⟩, ⟨#[110, 110]⟩, ⟨#[]⟩, ⟨#[]⟩⟩,
 ⟨1, ⟨#[48, 48]⟩, ⟨#[]⟩, ⟨#[106, 98, 111]⟩, ⟨#[]⟩, ⟨#[]⟩⟩,
 ⟨1, ⟨#[50, 50]⟩, ⟨#[]⟩, ⟨#[104, 97, 107]⟩, ⟨#[]⟩, ⟨#[]⟩⟩,
 ⟨1, ⟨#[50, 52]⟩, ⟨#[]⟩, ⟨#[110, 97, 110]⟩, ⟨#[]⟩, ⟨#[]⟩⟩,
 ⟨1, ⟨#[50, 53]⟩, ⟨#[]⟩, ⟨#[104, 115, 110]⟩, ⟨#[]⟩, ⟨#[]⟩⟩,
 ⟨1, ⟨#[48, 55]⟩, ⟨#[]⟩, ⟨#[104, 97, 107]⟩, ⟨#[]⟩, ⟨#[]⟩⟩,
 ⟨1, ⟨#[48, 52]⟩, ⟨#[]⟩, ⟨#[98, 110, 110]⟩, ⟨#[]⟩, ⟨#[]⟩⟩,
 ⟨2, ⟨#[115, 103, 110]⟩, ⟨#[98, 114]⟩, ⟨#[98, 122, 115]⟩, ⟨#[]⟩, ⟨#[]⟩⟩,
 ⟨2, ⟨#[115, 103, 110]⟩, ⟨#[117, 115]⟩, ⟨#[97, 115, 101]⟩, ⟨#[]⟩, ⟨#[]⟩⟩,
 ⟨2, ⟨#[115, 103, 110]⟩, ⟨#[103, 98]⟩, ⟨#[98, 102, 105]⟩, ⟨#[]⟩, ⟨#[]⟩⟩,
 ⟨2, ⟨#[115, 103, 110]⟩, ⟨#[100, 101]⟩, ⟨#[103, 115, 103]⟩, ⟨#[]⟩, ⟨#[]⟩⟩,
 ⟨3, ⟨#[105, 119]⟩, ⟨#[]⟩, ⟨#[104, 101]⟩, ⟨#[]⟩, ⟨#[]⟩⟩,
 ⟨3, ⟨#[105, 110]⟩, ⟨#[]⟩, ⟨#[105, 100]⟩, ⟨#[]⟩, ⟨#[]⟩⟩,
 ⟨3, ⟨#[106, 105]⟩, ⟨#[]⟩, ⟨#[121, 105]⟩, ⟨#[]⟩, ⟨#[]⟩⟩,
 ⟨3, ⟨#[109, 111]⟩, ⟨#[]⟩, ⟨#[114, 111]⟩, ⟨#[]⟩, ⟨#[]⟩⟩,
 ⟨3, ⟨#[110, 111]⟩, ⟨#[]⟩, ⟨#[110, 98]⟩, ⟨#[]⟩, ⟨#[]⟩⟩,
 ⟨3, ⟨#[116, 108]⟩, ⟨#[]⟩, ⟨#[102, 105, 108]⟩, ⟨#[]⟩, ⟨#[]⟩⟩,
 ⟨3, ⟨#[115, 104]⟩, ⟨#[]⟩, ⟨#[115, 114]⟩, ⟨#[108, 97, 116, 110]⟩, ⟨#[]⟩⟩,
 ⟨3, ⟨#[99, 109, 110]⟩, ⟨#[]⟩, ⟨#[122, 104]⟩, ⟨#[]⟩, ⟨#[]⟩⟩,
 ⟨3, ⟨#[99, 110, 114]⟩, ⟨#[]⟩, ⟨#[115, 114]⟩, ⟨#[]⟩, ⟨#[109, 101]⟩⟩,
 ⟨3, ⟨#[101, 110, 103]⟩, ⟨#[]⟩, ⟨#[101, 110]⟩, ⟨#[]⟩, ⟨#[]⟩⟩,
 ⟨3, ⟨#[100, 101, 117]⟩, ⟨#[]⟩, ⟨#[100, 101]⟩, ⟨#[]⟩, ⟨#[]⟩⟩,
 ⟨3, ⟨#[102, 114, 97]⟩, ⟨#[]⟩, ⟨#[102, 114]⟩, ⟨#[]⟩, ⟨#[]⟩⟩,
 ⟨4, ⟨#[113, 97, 97, 105]⟩, ⟨#[]⟩, ⟨#[]⟩, ⟨#[122, 105, 110, 104]⟩, ⟨#[]⟩⟩,
 ⟨5, ⟨#[100, 100]⟩, ⟨#[]⟩, ⟨#[]⟩, ⟨#[]⟩, ⟨#[100, 101]⟩⟩,
 ⟨5, ⟨#[115, 117]⟩, ⟨#[]⟩, ⟨#[]⟩, ⟨#[]⟩, ⟨#[114, 117]⟩⟩,
 ⟨5, ⟨#[98, 117]⟩, ⟨#[]⟩, ⟨#[]⟩, ⟨#[]⟩, ⟨#[109, 109]⟩⟩,
 ⟨5, ⟨#[102, 120]⟩, ⟨#[]⟩, ⟨#[]⟩, ⟨#[]⟩, ⟨#[102, 114]⟩⟩,
 ⟨5, ⟨#[56, 52, 48]⟩, ⟨#[]⟩, ⟨#[]⟩, ⟨#[]⟩, ⟨#[117, 115]⟩⟩,
 ⟨5, ⟨#[50, 55, 54]⟩, ⟨#[]⟩, ⟨#[]⟩, ⟨#[]⟩, ⟨#[100, 101]⟩⟩,
 ⟨5, ⟨#[56, 50, 54]⟩, ⟨#[]⟩, ⟨#[]⟩, ⟨#[]⟩, ⟨#[103, 98]⟩⟩,
 ⟨5, ⟨#[49, 53, 54]⟩, ⟨#[]⟩, ⟨#[]⟩, ⟨#[]⟩, ⟨#[99, 110]⟩⟩,
 ⟨5, ⟨#[116, 112]⟩, ⟨#[]⟩, ⟨#[]⟩, ⟨#[]⟩, ⟨#[116, 108]⟩⟩,
 ⟨5, ⟨#[122, 114]⟩, ⟨#[]⟩, ⟨#[]⟩, ⟨#[]⟩, ⟨#[99, 100]⟩⟩,
 ⟨5, ⟨#[121, 117]⟩, ⟨#[]⟩, ⟨#[]⟩, ⟨#[]⟩, ⟨#[114, 115]⟩⟩,
 ⟨5, ⟨#[99, 115]⟩, ⟨#[]⟩, ⟨#[]⟩, ⟨#[]⟩, ⟨#[114, 115]⟩⟩,
 ⟨6, ⟨#[104, 101, 112, 108, 111, 99]⟩, ⟨#[]⟩, ⟨#[97, 108, 97, 108, 99, 57, 55]⟩, ⟨#[]⟩, ⟨#[]⟩⟩,
 ⟨6, ⟨#[112, 111, 108, 121, 116, 111, 110, 105]⟩, ⟨#[]⟩, ⟨#[112, 111, 108, 121, 116, 111, 110]⟩, ⟨#[]⟩, ⟨#[]⟩⟩,
 ⟨7, ⟨#[99, 97]⟩, ⟨#[105, 115, 108, 97, 109, 105, 99, 99]⟩, ⟨#[99, 105, 118, 105, 108]⟩, ⟨#[]⟩, ⟨#[]⟩⟩,
 ⟨7, ⟨#[109, 115]⟩, ⟨#[105, 109, 112, 101, 114, 105, 97, 108]⟩, ⟨#[117, 107, 115, 121, 115, 116, 101, 109]⟩, ⟨#[]⟩, ⟨#[]⟩⟩,
 ⟨7, ⟨#[99, 111]⟩, ⟨#[100, 105, 99, 116, 105, 111, 110]⟩, ⟨#[100, 105, 99, 116]⟩, ⟨#[]⟩, ⟨#[]⟩⟩,
 ⟨7, ⟨#[107, 98]⟩, ⟨#[121, 101, 115]⟩, ⟨#[116, 114, 117, 101]⟩, ⟨#[]⟩, ⟨#[]⟩⟩]
def dRows : List S66 := [
 ⟨⟨#[101, 110]⟩, ⟨#[]⟩, ⟨#[]⟩, ⟨#[101, 110]⟩, ⟨#[108, 97, 116, 110]⟩, ⟨#[117, 115]⟩⟩,
 ⟨⟨#[101, 110]⟩, ⟨#[115, 104, 97, 119]⟩, ⟨#[]⟩, ⟨#[101, 110]⟩, ⟨#[115, 104, 97, 119]⟩, ⟨#[103, 98]⟩⟩,
 ⟨⟨#[117, 110, 100]⟩, ⟨#[]⟩, ⟨#[]⟩, ⟨#[101, 110]⟩, ⟨#[108, 97, 116, 110]⟩, ⟨#[117, 115]⟩⟩,
 ⟨⟨#[117, 110, 100]⟩, ⟨#[]⟩, ⟨#[52, 49, 57]⟩, ⟨#[101, 115]⟩, ⟨#[108, 97, 116, 110]⟩, ⟨#[52, 49, 57]⟩⟩,
 ⟨⟨#[100, 101]⟩, ⟨#[]⟩, ⟨#[]⟩, ⟨#[100, 101]⟩, ⟨#[108, 97, 116, 110]⟩, ⟨#[100, 101]⟩⟩,
 ⟨⟨#[102, 114]⟩, ⟨#[]⟩, ⟨#[]⟩, ⟨#[102, 114]⟩, ⟨#[108, 97, 116, 110]⟩, ⟨#[102, 114]⟩⟩,
 ⟨⟨#[101, 115]⟩, ⟨#[]⟩, ⟨#[]⟩, ⟨#[101, 115]⟩, ⟨#[108, 97, 116, 110]⟩, ⟨#[101, 115]⟩⟩,
 ⟨⟨#[122, 104]⟩, ⟨#[]⟩, ⟨#[]⟩, ⟨#[122, 104]⟩, ⟨#[104, 97, 110, 115]⟩, ⟨#[99, 110]⟩⟩,
 ⟨⟨#[122, 104]⟩, ⟨#[]⟩, ⟨#[116, 119]⟩, ⟨#[122, 104]⟩, ⟨#[104, 97, 110, 116]⟩, ⟨#[116, 119]⟩⟩,
 ⟨⟨#[122, 104]⟩, ⟨#[]⟩, ⟨#[104, 107]⟩, ⟨#[122, 104]⟩, ⟨#[104, 97, 110, 116]⟩, ⟨#[104, 107]⟩⟩,
 ⟨⟨#[122, 104]⟩, ⟨#[104, 97, 110, 116]⟩, ⟨#[]⟩, ⟨#[122, 104]⟩, ⟨#[104, 97, 110, 116]⟩, ⟨#[116, 119]⟩⟩,
 ⟨⟨#[117, 110, 100]⟩, ⟨#[104, 97, 110, 116]⟩, ⟨#[]⟩, ⟨#[122, 104]⟩, ⟨#[104, 97, 110, 116]⟩, ⟨#[116, 119]⟩⟩,
 ⟨⟨#[117, 110, 100]⟩, ⟨#[104, 97, 110, 115]⟩, ⟨#[]⟩, ⟨#[122, 104]⟩, ⟨#[104, 97, 110, 115]⟩, ⟨#[99, 110]⟩⟩,
 ⟨⟨#[115, 114]⟩, ⟨#[]⟩, ⟨#[]⟩, ⟨#[115, 114]⟩, ⟨#[99, 121, 114, 108]⟩, ⟨#[114, 115]⟩⟩,
 ⟨⟨#[115, 114]⟩, ⟨#[108, 97, 116, 110]⟩, ⟨#[]⟩, ⟨#[115, 114]⟩, ⟨#[108, 97, 116, 110]⟩, ⟨#[114, 115]⟩⟩,
 ⟨⟨#[115, 114]⟩, ⟨#[]⟩, ⟨#[109, 101]⟩, ⟨#[115, 114]⟩, ⟨#[108, 97, 116, 110]⟩, ⟨#[109, 101]⟩⟩,
 ⟨⟨#[117, 110, 100]⟩, ⟨#[99, 121, 114, 108]⟩, ⟨#[]⟩, ⟨#[114, 117]⟩, ⟨#[99, 121, 114, 108]⟩, ⟨#[114, 117]⟩⟩,
 ⟨⟨#[114, 117]⟩, ⟨#[]⟩, ⟨#[]⟩, ⟨#[114, 117]⟩, ⟨#[99, 121, 114, 108]⟩, ⟨#[114, 117]⟩⟩,
 ⟨⟨#[104, 101]⟩, ⟨#[]⟩, ⟨#[]⟩, ⟨#[104, 101]⟩, ⟨#[104, 101, 98, 114]⟩, ⟨#[105, 108]⟩⟩,
 ⟨⟨#[117, 110, 100]⟩, ⟨#[104, 101, 98, 114]⟩, ⟨#[]⟩, ⟨#[104, 101]⟩, ⟨#[104, 101, 98, 114]⟩, ⟨#[105, 108]⟩⟩,
 ⟨⟨#[97, 114]⟩, ⟨#[]⟩, ⟨#[]⟩, ⟨#[97, 114]⟩, ⟨#[97, 114, 97, 98]⟩, ⟨#[101, 103]⟩⟩,
 ⟨⟨#[117, 110, 100]⟩, ⟨#[97, 114, 97, 98]⟩, ⟨#[]⟩, ⟨#[97, 114]⟩, ⟨#[97, 114, 97, 98]⟩, ⟨#[101, 103]⟩⟩,
 ⟨⟨#[110, 98]⟩, ⟨#[]⟩, ⟨#[]⟩, ⟨#[110, 98]⟩, ⟨#[108, 97, 116, 110]⟩, ⟨#[110, 111]⟩⟩,
 ⟨⟨#[110, 110]⟩, ⟨#[]⟩, ⟨#[]⟩, ⟨#[110, 110]⟩, ⟨#[108, 97, 116, 110]⟩, ⟨#[110, 111]⟩⟩,
 ⟨⟨#[100, 97]⟩, ⟨#[]⟩, ⟨#[]⟩, ⟨#[100, 97]⟩, ⟨#[108, 97, 116, 110]⟩, ⟨#[100, 107]⟩⟩,
 ⟨⟨#[112, 116]⟩, ⟨#[]⟩, ⟨#[]⟩, ⟨#[112, 116]⟩, ⟨#[108, 97, 116, 110]⟩, ⟨#[98, 114]⟩⟩,
 ⟨⟨#[104, 105]⟩, ⟨#[]⟩, ⟨#[]⟩, ⟨#[104, 105]⟩, ⟨#[100, 101, 118, 97]⟩, ⟨#[105, 110]⟩⟩,
 ⟨⟨#[104, 105]⟩, ⟨#[108, 97, 116, 110]⟩, ⟨#[]⟩, ⟨#[104, 105]⟩, ⟨#[108, 97, 116, 110]⟩, ⟨#[105, 110]⟩⟩,
 ⟨⟨#[106, 97]⟩, ⟨#[]⟩, ⟨#[]⟩, ⟨#[106, 97]⟩, ⟨#[106, 112, 97, 110]⟩, ⟨#[106, 112]⟩⟩,
 ⟨⟨#[105, 100]⟩, ⟨#[]⟩, ⟨#[]⟩, ⟨#[105, 100]⟩, ⟨#[108, 97, 116, 110]⟩, ⟨#[105, 100]⟩⟩,
 ⟨⟨#[102, 105, 108]⟩, ⟨#[]⟩, ⟨#[]⟩, ⟨#[102, 105, 108]⟩, ⟨#[108, 97, 116, 110]⟩, ⟨#[112, 104]⟩⟩,
 ⟨⟨#[114, 111]⟩, ⟨#[]⟩, ⟨#[]⟩, ⟨#[114, 111]⟩, ⟨#[108, 97, 116, 110]⟩, ⟨#[114, 111]⟩⟩]
def dRules : List S53 := [
 ⟨1, 1, false, ⟨⟨#[110, 98]⟩, ⟨#[]⟩, ⟨#[]⟩⟩, ⟨⟨#[110, 111]⟩, ⟨#[]⟩, ⟨#[]⟩⟩⟩,
 ⟨1, 4, false, ⟨⟨#[110, 98]⟩, ⟨#[]⟩, ⟨#[]⟩⟩, ⟨⟨#[100, 97]⟩, ⟨#[]⟩, ⟨#[]⟩⟩⟩,
 ⟨1, 20, false, ⟨⟨#[110, 110]⟩, ⟨#[]⟩, ⟨#[]⟩⟩, ⟨⟨#[110, 98]⟩, ⟨#[]⟩, ⟨#[]⟩⟩⟩,
 ⟨1, 8, false, ⟨⟨#[110, 110]⟩, ⟨#[]⟩, ⟨#[]⟩⟩, ⟨⟨#[100, 97]⟩, ⟨#[]⟩, ⟨#[]⟩⟩⟩,
 ⟨1, 30, true, ⟨⟨#[105, 100]⟩, ⟨#[]⟩, ⟨#[]⟩⟩, ⟨⟨#[109, 115]⟩, ⟨#[]⟩, ⟨#[]⟩⟩⟩,
 ⟨1, 80, false, ⟨⟨#[42]⟩, ⟨#[]⟩, ⟨#[]⟩⟩, ⟨⟨#[42]⟩, ⟨#[]⟩, ⟨#[]⟩⟩⟩,
 ⟨2, 15, true, ⟨⟨#[122, 104]⟩, ⟨#[104, 97, 110, 115]⟩, ⟨#[]⟩⟩, ⟨⟨#[122, 104]⟩, ⟨#[104, 97, 110, 116]⟩, ⟨#[]⟩⟩⟩,
 ⟨2, 19, true, ⟨⟨#[122, 104]⟩, ⟨#[104, 97, 110, 116]⟩, ⟨#[]⟩⟩, ⟨⟨#[122, 104]⟩, ⟨#[104, 97, 110, 115]⟩, ⟨#[]⟩⟩⟩,
 ⟨2, 20, false, ⟨⟨#[115, 114]⟩, ⟨#[108, 97, 116, 110]⟩, ⟨#[]⟩⟩, ⟨⟨#[115, 114]⟩, ⟨#[99, 121, 114, 108]⟩, ⟨#[]⟩⟩⟩,
 ⟨2, 50, false, ⟨⟨#[42]⟩, ⟨#[42]⟩, ⟨#[]⟩⟩, ⟨⟨#[42]⟩, ⟨#[42]⟩, ⟨#[]⟩⟩⟩,
 ⟨3, 3, false, ⟨⟨#[101, 110]⟩, ⟨#[42]⟩, ⟨#[36, 101, 110, 117, 115]⟩⟩, ⟨⟨#[101, 110]⟩, ⟨#[42]⟩, ⟨#[36, 101, 110, 117, 115]⟩⟩⟩,
 ⟨3, 3, false, ⟨⟨#[101, 110]⟩, ⟨#[42]⟩, ⟨#[33, 101, 110, 117, 115]⟩⟩, ⟨⟨#[101, 110]⟩, ⟨#[42]⟩, ⟨#[33, 101, 110, 117, 115]⟩⟩⟩,
 ⟨3, 4, false, ⟨⟨#[101, 115]⟩, ⟨#[42]⟩, ⟨#[36, 97, 109, 101, 114]⟩⟩, ⟨⟨#[101, 115]⟩, ⟨#[42]⟩, ⟨#[36, 97, 109, 101, 114]⟩⟩⟩,
 ⟨3, 5, false, ⟨⟨#[101, 115]⟩, ⟨#[42]⟩, ⟨#[33, 97, 109, 101, 114]⟩⟩, ⟨⟨#[101, 115]⟩, ⟨#[42]⟩, ⟨#[36, 97, 109, 101, 114]⟩⟩⟩,
 ⟨3, 4, false, ⟨⟨#[42]⟩, ⟨#[42]⟩, ⟨#[42]⟩⟩, ⟨⟨#[42]⟩, ⟨#[42]⟩, ⟨#[42]⟩⟩⟩]
def dMembers : List S69 := [
 ⟨⟨#[97, 109, 101, 114]⟩, ⟨#[52, 49, 57]⟩⟩,
 ⟨⟨#[97, 109, 101, 114]⟩, ⟨#[97, 114]⟩⟩,
 ⟨⟨#[97, 109, 101, 114]⟩, ⟨#[109, 120]⟩⟩,
 ⟨⟨#[97, 109, 101, 114]⟩, ⟨#[117, 115]⟩⟩,
 ⟨⟨#[101, 110, 117, 115]⟩, ⟨#[117, 115]⟩⟩,
 ⟨⟨#[101, 110, 117, 115]⟩, ⟨#[112, 114]⟩⟩,
 ⟨⟨#[101, 110, 117, 115]⟩, ⟨#[103, 117]⟩⟩]
def enc59 (x : S59) : List Value := [.int .i64 x.f0, .string x.f1, .string x.f2, .string x.f3, .string x.f4, .string x.f5]
theorem aliases_calls (w : World) : Calls Tryz.prog 54 #[] w fun e W => e = .returned (.slice (some ⟨w.heap.size, 0, none⟩) 54 54) ∧ W = w.alloc (.cells (dAliases.flatMap enc59).toArray 120) := by
 exact calls_run Tryz.func54 0 rfl (by kernel_rfl)
theorem drows_calls (w : World) : Calls Tryz.prog 55 #[] w fun e W => e = .returned (.slice (some ⟨w.heap.size, 0, none⟩) 32 32) ∧ W = w.alloc (.cells (dRows.flatMap enc66).toArray 122) := by
 exact calls_run Tryz.func55 0 rfl (by kernel_rfl)
theorem drules_calls (w : World) : Calls Tryz.prog 56 #[] w fun e W => e = .returned (.slice (some ⟨w.heap.size, 0, none⟩) 15 15) ∧ W = w.alloc (.cells (dRules.flatMap enc53).toArray 125) := by
 exact calls_run Tryz.func56 0 rfl (by kernel_rfl)
theorem dmembers_calls (w : World) : Calls Tryz.prog 57 #[] w fun e W => e = .returned (.slice (some ⟨w.heap.size, 0, none⟩) 7 7) ∧ W = w.alloc (.cells (dMembers.flatMap enc69).toArray 127) := by
 exact calls_run Tryz.func57 0 rfl (by kernel_rfl)
end Go.Proofs.YtpmcfckechjppaaGreatDoor.LikW
