/- isoglossref18.Find, Ladder, Maximize, isoglossref22.Places, walked: the places that likely.Maximize finds. -/
import Derived.Test.YtdjbanhoejegjaaDqDistPl
import Derived.Test.YtdjbanhoejegjaaDqPut
import Derived.Deep.DeepCutAuto
namespace Go.Proofs.Ytdjbanhoejegjaa.LikW
open Go.RowKit Go.Proofs.YtdjbanhoejegjaaW.PrintWords Go.Proofs.YtdjbanhoejegjaaW.PrintLast Go.Proofs.Ytdjbanhoejegjaa.P
set_option linter.unusedVariables false
set_option linter.unusedSimpArgs false

theorem toList_inj18 {a b : ByteArray} (h : a.toList = b.toList) : a = b := by
 rw [ByteArray.toList_eq, ByteArray.toList_eq] at h
 exact ByteArray.ext (Array.toList_inj.1 h)
def FindIs (l : List S66) (k : K3) (n : Int) : Prop := (n = -1 ∧ rowOf l k = none) ∨ ∃ (i : Nat) (h : i < l.length), n = i ∧ rowOf l k = some (l[i]'h)
theorem rowOf_take (l : List S66) (k : K3) (i : Nat) (h : i < l.length) : rowOf (l.take (i + 1)) k = (rowOf (l.take i) k).or (if k = likK (l[i]'h) then some (l[i]'h) else none) := by
 rw [List.take_succ_eq_append_getElem h, rowOf_snoc]
theorem rowOf_first (l : List S66) (k : K3) (i : Nat) (h : i < l.length) (hn : rowOf (l.take i) k = none) (hk : k = likK (l[i]'h)) : rowOf l k = some (l[i]'h) := by
 have h1 : rowOf (l.take (i + 1)) k = some (l[i]'h) := by rw [rowOf_take l k i h, hn, if_pos hk]; rfl
 have h2 : rowOf (l.take (i + 1) ++ l.drop (i + 1)) k = some (l[i]'h) := by
  unfold rowOf at h1 ⊢
  rw [List.find?_append, h1]
  rfl
 rwa [List.take_append_drop] at h2
set_option maxRecDepth 100000 in
set_option maxHeartbeats 4000000 in
theorem find18_calls (A0 : Option Addr) (n0 c0 : Nat) (A1 : Option Addr) (c1 : Nat) (l : List S66) (A2 : Option Addr) (n2 c2 : Nat) (A3 : Option Addr) (n3 c3 : Nat) (p q : Int) (L S R : ByteArray) (w : World) (hC : Kd.C k66 w A1 l.length l) :
 Calls Try.prog 62 #[.agg #[.slice A0 n0 c0, .slice A1 l.length c1, .slice A2 n2 c2, .slice A3 n3 c3, .int .i64 p, .int .i64 q], .string L, .string S, .string R] w fun e w' => ∃ n : Int, e = .returned (.int .i64 n) ∧ FindIs l (L, S, R) n ∧ Below w.heap.size w w' := by
 have hu39 := Try.underlying39
 have hu66 := Try.underlying66
 have HC := Aside0.mk hC
 have hmax := Kd.C_max hC
 clear hC
 go_enter Try.func62, Try.ntmps62
 go_wp2
 obtain ⟨W0, hW0⟩ : ∃ W0, W0 = (w.alloc (.cells #[.slice A0 n0 c0, .slice A1 l.length c1, .slice A2 n2 c2, .slice A3 n3 c3, .int .i64 p, .int .i64 q] 39)) := ⟨_, rfl⟩
 rw [← hW0]
 have B0 : Below w.heap.size w W0 := by rw [hW0]; exact below_alloc (Below.refl _ _) _
 have K0 : W0.heap[w.heap.size]? = some (.cells #[.slice A0 n0 c0, .slice A1 l.length c1, .slice A2 n2 c2, .slice A3 n3 c3, .int .i64 p, .int .i64 q] 39 (0, 0)) := by rw [hW0]; exact World.alloc_heap_new w _
 clear hW0
 go_loopw [9] (fun vi wr => ∃ i : Nat, vi = .int .i64 (i : Int) ∧ i ≤ l.length ∧ Aside0 (rowOf (l.take i) (L, S, R) = none) ∧ Aside0 (Below w.heap.size w wr) ∧ Aside0 (wr.heap[w.heap.size]? = some (.cells #[.slice A0 n0 c0, .slice A1 l.length c1, .slice A2 n2 c2, .slice A3 n3 c3, .int .i64 p, .int .i64 q] 39 (0, 0)))) (fun vi _ => l.length - (intOf vi).toNat)
 case atStart => exact ⟨0, rfl, Nat.zero_le _, ⟨rfl⟩, ⟨B0⟩, ⟨K0⟩⟩
 case round =>
  clear B0 K0
  obtain ⟨i, rfl, hi, HN, HB, HK⟩ := hrel
  obtain ⟨y0, y1, y2, y3, y4, y5⟩ := cz6 HK.out
  by_cases hlt : i < l.length
  · obtain ⟨ad, e, x0, x1, x2, x3, x4, x5⟩ := at_T66 HC.out (i : Int) (by omega) (by omega)
    cases e
    replace x0 := (HB.out.cell (World.block_lt_of_cell? w _ x0)).trans x0
    replace x1 := (HB.out.cell (World.block_lt_of_cell? w _ x1)).trans x1
    replace x2 := (HB.out.cell (World.block_lt_of_cell? w _ x2)).trans x2
    replace x3 := (HB.out.cell (World.block_lt_of_cell? w _ x3)).trans x3
    replace x4 := (HB.out.cell (World.block_lt_of_cell? w _ x4)).trans x4
    replace x5 := (HB.out.cell (World.block_lt_of_cell? w _ x5)).trans x5
    obtain ⟨x, hx⟩ : ∃ x, x = rd_T66 l (i : Int) := ⟨_, rfl⟩
    rw [← hx] at x0 x1 x2 x3 x4 x5
    simp only [Int.toNat_natCast] at x0 x1 x2 x3 x4 x5
    have hx2 : x = l[i]'hlt := by rw [hx]; simp [rd_T66, List.getD_eq_getElem?_getD, List.getElem?_eq_getElem hlt]
    have HX := Aside0.mk hx2
    clear hx hx2
    have d1 : decide ((i : Int) < (l.length : Int)) = true := decide_eq_true (by omega)
    have hz : w.heap.size < wr.heap.size := lt_blk HK.out
    have go : ∀ W', Below wr.heap.size wr W' → Below w.heap.size w W' ∧ W'.heap[w.heap.size]? = some (.cells #[.slice A0 n0 c0, .slice (some ad) l.length c1, .slice A2 n2 c2, .slice A3 n3 c3, .int .i64 p, .int .i64 q] 39 (0, 0)) := fun W' hb => ⟨HB.out.trans (hb.mono HB.out.size), (hb.block _ hz).trans HK.out⟩
    have GO := Aside0.mk go
    clear go hz
    by_cases g1 : x.f0 = L
    · by_cases g2 : x.f1 = S
      · by_cases g3 : x.f2 = R
        · have HR := Aside0.mk (rowOf_first l (L, S, R) i hlt HN.out (by rw [← HX.out, ← g1, ← g2, ← g3]; rfl))
          have e1 : (x.f0.toList == L.toList) = true := by rw [g1, beq_self_eq_true]
          have e2 : (x.f1.toList == S.toList) = true := by rw [g2, beq_self_eq_true]
          have e3 : (x.f2.toList == R.toList) = true := by rw [g3, beq_self_eq_true]
          clear g1 g2 g3
          go_wp2
          go_ret
          exact ⟨_, rfl, .inr ⟨i, hlt, rfl, HR.out⟩, (GO.out _ (by repeat (first | exact Below.refl _ _ | apply below_alloc))).1⟩
        · have HR : Aside0 (rowOf (l.take (i + 1)) (L, S, R) = none) := ⟨by rw [rowOf_take l _ i hlt, HN.out, ← HX.out, if_neg (fun h => g3 (congrArg (fun k : K3 => k.2.2) h).symm)]; rfl⟩
          have e1 : (x.f0.toList == L.toList) = true := by rw [g1, beq_self_eq_true]
          have e2 : (x.f1.toList == S.toList) = true := by rw [g2, beq_self_eq_true]
          have e3 : (x.f2.toList == R.toList) = false := by rw [beq_eq_false_iff_ne]; exact fun h => g3 (toList_inj18 h)
          clear g1 g2 g3
          go_wp2
          go_roundw
          case rel => exact ⟨i + 1, by simp, by omega, HR, ⟨(GO.out _ (by repeat (first | exact Below.refl _ _ | apply below_alloc))).1⟩, ⟨(GO.out _ (by repeat (first | exact Below.refl _ _ | apply below_alloc))).2⟩⟩
          case measure => simp [intOf]; omega
      · have HR : Aside0 (rowOf (l.take (i + 1)) (L, S, R) = none) := ⟨by rw [rowOf_take l _ i hlt, HN.out, ← HX.out, if_neg (fun h => g2 (congrArg (fun k : K3 => k.2.1) h).symm)]; rfl⟩
        have e1 : (x.f0.toList == L.toList) = true := by rw [g1, beq_self_eq_true]
        have e2 : (x.f1.toList == S.toList) = false := by rw [beq_eq_false_iff_ne]; exact fun h => g2 (toList_inj18 h)
        clear g1 g2
        go_wp2
        go_roundw
        case rel => exact ⟨i + 1, by simp, by omega, HR, ⟨(GO.out _ (by repeat (first | exact Below.refl _ _ | apply below_alloc))).1⟩, ⟨(GO.out _ (by repeat (first | exact Below.refl _ _ | apply below_alloc))).2⟩⟩
        case measure => simp [intOf]; omega
    · have HR : Aside0 (rowOf (l.take (i + 1)) (L, S, R) = none) := ⟨by rw [rowOf_take l _ i hlt, HN.out, ← HX.out, if_neg (fun h => g1 (congrArg (fun k : K3 => k.1) h).symm)]; rfl⟩
      have e1 : (x.f0.toList == L.toList) = false := by rw [beq_eq_false_iff_ne]; exact fun h => g1 (toList_inj18 h)
      clear g1
      go_wp2
      go_roundw
      case rel => exact ⟨i + 1, by simp, by omega, HR, ⟨(GO.out _ (by repeat (first | exact Below.refl _ _ | apply below_alloc))).1⟩, ⟨(GO.out _ (by repeat (first | exact Below.refl _ _ | apply below_alloc))).2⟩⟩
      case measure => simp [intOf]; omega
  · obtain rfl : i = l.length := by omega
    have d1 : decide (((l.length : Nat) : Int) < (l.length : Int)) = false := decide_eq_false (by omega)
    have hN := HN.out
    rw [List.take_length] at hN
    have HN2 := Aside0.mk hN
    clear hN
    go_wp2
    go_ret
    exact ⟨_, rfl, .inl ⟨rfl, HN2.out⟩, HB.out⟩
def toS (k : K3) : S30 := ⟨k.1, k.2.1, k.2.2⟩
theorem em_t {s : ByteArray} (h : s = empS) : s.toList.isEmpty = true ∧ (s.toList == []) = true := by
 have : s.toList = [] := by rw [h, ByteArray.toList_eq]; rfl
 rw [this]
 exact ⟨rfl, rfl⟩
theorem em_f {s : ByteArray} (h : ¬ s = empS) : s.toList.isEmpty = false ∧ (s.toList == []) = false := by
 have : s.toList ≠ [] := fun e => h (by rw [ByteArray.toList_eq] at e; exact ByteArray.ext (Array.toList_inj.1 (by rw [e]; rfl)))
 exact ⟨by rw [List.isEmpty_eq_false_iff]; exact this, by rw [beq_eq_false_iff_ne]; exact this⟩
theorem un_t {s : ByteArray} (h : s = undB) : (s.toList == [117, 110, 100]) = true := by rw [h, ByteArray.toList_eq]; rfl
theorem un_f {s : ByteArray} (h : ¬ s = undB) : (s.toList == [117, 110, 100]) = false := by
 rw [beq_eq_false_iff_ne]
 intro e
 apply h
 rw [ByteArray.toList_eq] at e
 exact ByteArray.ext (Array.toList_inj.1 (by rw [e]; rfl))
theorem R_apart {α : Type} {d : Kd α} {e : Nat} {w : World} {base : Nat} {ok : Nat → Prop} {v : Value} {xs : List α} {g t : Nat} {cs : Array Value} (h : d.R e w base ok v xs) (hg : w.heap[g]? = some (.cells cs t (0, 0))) (hne : e ≠ t) : some g ≠ v.ownBlock := by
 obtain ⟨inner, ho⟩ := Kd.R_own h
 exact own_ne ho hg hne
theorem ladL_1 (L S R : ByteArray) (hL : ¬ L = empS) (hS : S = empS) (hR : R = empS) : ladL L S R = [(L, empS, empS)] := by
 have hue : ¬ undB = empS := by decide
 have heu : ¬ empS = undB := by decide
 subst hS
 subst hR
 by_cases hU : undB = L
 · subst hU
   simp [ladL, preL, fiveL, stepL, hL, hue, heu]
 · simp [ladL, preL, fiveL, stepL, hL, hue, heu, hU]
set_option maxRecDepth 100000 in
set_option maxHeartbeats 4000000 in
theorem lad18_1 (L S R G : ByteArray) (E0 : Option Addr) (m0 d0 : Nat) (E1 : Option Addr) (m1 d1 : Nat) (E2 : Option Addr) (m2 d2 : Nat) (E3 : Option Addr) (m3 d3 : Nat) (w : World) (hL : ¬ L = empS) (hS : S = empS) (hR : R = empS) : Calls Try.prog 61 #[.agg #[.string L, .slice E0 m0 d0, .string S, .string R, .slice E1 m1 d1, .slice E2 m2 d2, .slice E3 m3 d3, .string G]] w fun e w' => ∃ v, e = .returned v ∧ Kd.R k30 30 w' w.heap.size (fun _ => True) v ((ladL L S R).map toS) ∧ Below w.heap.size w w' := by
 have hu44 := Try.underlying44
 have hu30 := Try.underlying30
 rw [ladL_1 L S R hL hS hR]
 have l1 := (em_f hL).1
 have l2 := (em_f hL).2
 have s1 := (em_t hS).1
 have s2 := (em_t hS).2
 have r1 := (em_t hR).1
 have r2 := (em_t hR).2
 have B0 := Aside0.mk (Below.refl w.heap.size w)
 clear hL hS hR
 go_enter Try.func61, Try.ntmps61
 go_wp2_with (first
  | ((with_reducible refine gate_dst (N := 1) rfl ?_); refine be 1 #[.string L, .slice E0 m0 d0, .string S, .string R, .slice E1 m1 d1, .slice E2 m2 d2, .slice E3 m3 d3, .string G] 44 ?_; intro b1 hg w1 hbox hb; have G_b1 := Aside0.mk (show w.heap.size ≤ b1 by rw [hg]; exact B0.out.size); replace B0 := bb B0 hb; have K_b1 := Aside0.mk hbox; clear hb hbox hg; obtain ⟨y_b1_0, y_b1_1, y_b1_2, y_b1_3, y_b1_4, y_b1_5, y_b1_6, y_b1_7⟩ := cz8 K_b1.out)
  | ((with_reducible refine gate_builtin (b := .append) (xs := #[.tmp 47, .tmp 51]) rfl ?_); at_builtin; refine Kd.R_append k30 (w0 := w) w.heap.size rfl (.tmp 47) (.tmp 51) 103 30 (.agg #[.string ⟨#[]⟩, .string ⟨#[]⟩, .string ⟨#[]⟩]) 48 rfl Try.underlying103 info30 rfl (by decide) (by decide) (.slice none 0 0) [] (⟨L, ⟨#[]⟩, ⟨#[]⟩⟩ : S30) [.string L, .string ⟨#[]⟩, .string ⟨#[]⟩] (fun _ => True) (fun _ => False) rfl rfl (k30_mkM _ _ _ _) (fun _ h => h.elim) (fun _ _ => trivial) (Kd.R_nil k30 30 _ _ _) B0.out B0.out.size (by simp) ?_; intro u1 w2 hR_ hB_ hg_ hat_; clear y_b1_0 y_b1_1 y_b1_2 y_b1_3 y_b1_4 y_b1_5 y_b1_6 y_b1_7; replace K_b1 := Aside0.mk ((hg_.block _ (lt_blk K_b1.out) (by simp [Value.ownBlock])).trans K_b1.out); replace B0 := Aside0.mk hB_; have RL := Aside0.mk hR_; clear hR_ hB_ hg_ hat_; obtain ⟨y_b1_0, y_b1_1, y_b1_2, y_b1_3, y_b1_4, y_b1_5, y_b1_6, y_b1_7⟩ := cz8 K_b1.out))
 go_ret
 exact ⟨_, rfl, RL.out, B0.out⟩
theorem ladL_2 (L S R : ByteArray) (hL : ¬ L = empS) (hS : S = empS) (hR : ¬ R = empS) : ladL L S R = [(L, empS, R), (L, empS, empS)] := by
 have hue : ¬ undB = empS := by decide
 have heu : ¬ empS = undB := by decide
 subst hS
 have hR2 : ¬ empS = R := fun h => hR h.symm
 by_cases hU : undB = L
 · subst hU
   simp [ladL, preL, fiveL, stepL, hL, hue, heu, hR, hR2]
 · simp [ladL, preL, fiveL, stepL, hL, hue, heu, hR, hR2, hU]
set_option maxRecDepth 100000 in
set_option maxHeartbeats 4000000 in
theorem lad18_2 (L S R G : ByteArray) (E0 : Option Addr) (m0 d0 : Nat) (E1 : Option Addr) (m1 d1 : Nat) (E2 : Option Addr) (m2 d2 : Nat) (E3 : Option Addr) (m3 d3 : Nat) (w : World) (hL : ¬ L = empS) (hS : S = empS) (hR : ¬ R = empS) : Calls Try.prog 61 #[.agg #[.string L, .slice E0 m0 d0, .string S, .string R, .slice E1 m1 d1, .slice E2 m2 d2, .slice E3 m3 d3, .string G]] w fun e w' => ∃ v, e = .returned v ∧ Kd.R k30 30 w' w.heap.size (fun _ => True) v ((ladL L S R).map toS) ∧ Below w.heap.size w w' := by
 have hu44 := Try.underlying44
 have hu30 := Try.underlying30
 rw [ladL_2 L S R hL hS hR]
 have l1 := (em_f hL).1
 have l2 := (em_f hL).2
 have s1 := (em_t hS).1
 have s2 := (em_t hS).2
 have r1 := (em_f hR).1
 have r2 := (em_f hR).2
 have B0 := Aside0.mk (Below.refl w.heap.size w)
 clear hL hS hR
 go_enter Try.func61, Try.ntmps61
 go_wp2_with (first
  | ((with_reducible refine gate_dst (N := 1) rfl ?_); refine be 1 #[.string L, .slice E0 m0 d0, .string S, .string R, .slice E1 m1 d1, .slice E2 m2 d2, .slice E3 m3 d3, .string G] 44 ?_; intro b1 hg w1 hbox hb; have G_b1 := Aside0.mk (show w.heap.size ≤ b1 by rw [hg]; exact B0.out.size); replace B0 := bb B0 hb; have K_b1 := Aside0.mk hbox; clear hb hbox hg; obtain ⟨y_b1_0, y_b1_1, y_b1_2, y_b1_3, y_b1_4, y_b1_5, y_b1_6, y_b1_7⟩ := cz8 K_b1.out)
  | ((with_reducible refine gate_builtin (b := .append) (xs := #[.tmp 28, .tmp 34]) rfl ?_); at_builtin; refine Kd.R_append k30 (w0 := w) w.heap.size rfl (.tmp 28) (.tmp 34) 103 30 (.agg #[.string ⟨#[]⟩, .string ⟨#[]⟩, .string ⟨#[]⟩]) 48 rfl Try.underlying103 info30 rfl (by decide) (by decide) (.slice none 0 0) [] (⟨L, ⟨#[]⟩, R⟩ : S30) [.string L, .string ⟨#[]⟩, .string R] (fun _ => True) (fun _ => False) rfl rfl (k30_mkM _ _ _ _) (fun _ h => h.elim) (fun _ _ => trivial) (Kd.R_nil k30 30 _ _ _) B0.out B0.out.size (by simp) ?_; intro u1 w2 hR_ hB_ hg_ hat_; clear y_b1_0 y_b1_1 y_b1_2 y_b1_3 y_b1_4 y_b1_5 y_b1_6 y_b1_7; replace K_b1 := Aside0.mk ((hg_.block _ (lt_blk K_b1.out) (by simp [Value.ownBlock])).trans K_b1.out); replace B0 := Aside0.mk hB_; have RL := Aside0.mk hR_; clear hR_ hB_ hg_ hat_; obtain ⟨y_b1_0, y_b1_1, y_b1_2, y_b1_3, y_b1_4, y_b1_5, y_b1_6, y_b1_7⟩ := cz8 K_b1.out)
  | ((with_reducible refine gate_builtin (b := .append) (xs := #[.tmp 47, .tmp 51]) rfl ?_); at_builtin; refine Kd.R_append k30 (w0 := w) w.heap.size rfl (.tmp 47) (.tmp 51) 103 30 (.agg #[.string ⟨#[]⟩, .string ⟨#[]⟩, .string ⟨#[]⟩]) 48 rfl Try.underlying103 info30 rfl (by decide) (by decide) (u1) [(⟨L, ⟨#[]⟩, R⟩ : S30)] (⟨L, ⟨#[]⟩, ⟨#[]⟩⟩ : S30) [.string L, .string ⟨#[]⟩, .string ⟨#[]⟩] (fun _ => True) (fun _ => False) rfl rfl (k30_mkM _ _ _ _) (fun _ h => h.elim) (fun _ _ => trivial) RL.out B0.out B0.out.size (by simp) ?_; intro u2 w3 hR_ hB_ hg_ hat_; clear y_b1_0 y_b1_1 y_b1_2 y_b1_3 y_b1_4 y_b1_5 y_b1_6 y_b1_7; replace K_b1 := Aside0.mk ((hg_.block _ (lt_blk K_b1.out) (R_apart RL.out K_b1.out (by decide))).trans K_b1.out); replace B0 := Aside0.mk hB_; replace RL := Aside0.mk hR_; clear hR_ hB_ hg_ hat_; obtain ⟨y_b1_0, y_b1_1, y_b1_2, y_b1_3, y_b1_4, y_b1_5, y_b1_6, y_b1_7⟩ := cz8 K_b1.out))
 go_ret
 exact ⟨_, rfl, RL.out, B0.out⟩
theorem ladL_3 (L S R : ByteArray) (hL : ¬ L = empS) (hS : ¬ S = empS) (hR : R = empS) (hU : L = undB) : ladL L S R = [(L, S, empS), (L, empS, empS)] := by
 have hue : ¬ undB = empS := by decide
 have heu : ¬ empS = undB := by decide
 have hS2 : ¬ empS = S := fun h => hS h.symm
 subst hR
 subst hU
 simp [ladL, preL, fiveL, stepL, hL, hue, heu, hS, hS2]
set_option maxRecDepth 100000 in
set_option maxHeartbeats 4000000 in
theorem lad18_3 (L S R G : ByteArray) (E0 : Option Addr) (m0 d0 : Nat) (E1 : Option Addr) (m1 d1 : Nat) (E2 : Option Addr) (m2 d2 : Nat) (E3 : Option Addr) (m3 d3 : Nat) (w : World) (hL : ¬ L = empS) (hS : ¬ S = empS) (hR : R = empS) (hU : L = undB) : Calls Try.prog 61 #[.agg #[.string L, .slice E0 m0 d0, .string S, .string R, .slice E1 m1 d1, .slice E2 m2 d2, .slice E3 m3 d3, .string G]] w fun e w' => ∃ v, e = .returned v ∧ Kd.R k30 30 w' w.heap.size (fun _ => True) v ((ladL L S R).map toS) ∧ Below w.heap.size w w' := by
 have hu44 := Try.underlying44
 have hu30 := Try.underlying30
 rw [ladL_3 L S R hL hS hR hU]
 have l1 := (em_f hL).1
 have l2 := (em_f hL).2
 have s1 := (em_f hS).1
 have s2 := (em_f hS).2
 have r1 := (em_t hR).1
 have r2 := (em_t hR).2
 have q1 := un_t hU
 have B0 := Aside0.mk (Below.refl w.heap.size w)
 clear hL hS hR hU
 go_enter Try.func61, Try.ntmps61
 go_wp2_with (first
  | ((with_reducible refine gate_dst (N := 1) rfl ?_); refine be 1 #[.string L, .slice E0 m0 d0, .string S, .string R, .slice E1 m1 d1, .slice E2 m2 d2, .slice E3 m3 d3, .string G] 44 ?_; intro b1 hg w1 hbox hb; have G_b1 := Aside0.mk (show w.heap.size ≤ b1 by rw [hg]; exact B0.out.size); replace B0 := bb B0 hb; have K_b1 := Aside0.mk hbox; clear hb hbox hg; obtain ⟨y_b1_0, y_b1_1, y_b1_2, y_b1_3, y_b1_4, y_b1_5, y_b1_6, y_b1_7⟩ := cz8 K_b1.out)
  | ((with_reducible refine gate_builtin (b := .append) (xs := #[.tmp 39, .tmp 45]) rfl ?_); at_builtin; refine Kd.R_append k30 (w0 := w) w.heap.size rfl (.tmp 39) (.tmp 45) 103 30 (.agg #[.string ⟨#[]⟩, .string ⟨#[]⟩, .string ⟨#[]⟩]) 48 rfl Try.underlying103 info30 rfl (by decide) (by decide) (.slice none 0 0) [] (⟨L, S, ⟨#[]⟩⟩ : S30) [.string L, .string S, .string ⟨#[]⟩] (fun _ => True) (fun _ => False) rfl rfl (k30_mkM _ _ _ _) (fun _ h => h.elim) (fun _ _ => trivial) (Kd.R_nil k30 30 _ _ _) B0.out B0.out.size (by simp) ?_; intro u1 w2 hR_ hB_ hg_ hat_; clear y_b1_0 y_b1_1 y_b1_2 y_b1_3 y_b1_4 y_b1_5 y_b1_6 y_b1_7; replace K_b1 := Aside0.mk ((hg_.block _ (lt_blk K_b1.out) (by simp [Value.ownBlock])).trans K_b1.out); replace B0 := Aside0.mk hB_; have RL := Aside0.mk hR_; clear hR_ hB_ hg_ hat_; obtain ⟨y_b1_0, y_b1_1, y_b1_2, y_b1_3, y_b1_4, y_b1_5, y_b1_6, y_b1_7⟩ := cz8 K_b1.out)
  | ((with_reducible refine gate_builtin (b := .append) (xs := #[.tmp 47, .tmp 51]) rfl ?_); at_builtin; refine Kd.R_append k30 (w0 := w) w.heap.size rfl (.tmp 47) (.tmp 51) 103 30 (.agg #[.string ⟨#[]⟩, .string ⟨#[]⟩, .string ⟨#[]⟩]) 48 rfl Try.underlying103 info30 rfl (by decide) (by decide) (u1) [(⟨L, S, ⟨#[]⟩⟩ : S30)] (⟨L, ⟨#[]⟩, ⟨#[]⟩⟩ : S30) [.string L, .string ⟨#[]⟩, .string ⟨#[]⟩] (fun _ => True) (fun _ => False) rfl rfl (k30_mkM _ _ _ _) (fun _ h => h.elim) (fun _ _ => trivial) RL.out B0.out B0.out.size (by simp) ?_; intro u2 w3 hR_ hB_ hg_ hat_; clear y_b1_0 y_b1_1 y_b1_2 y_b1_3 y_b1_4 y_b1_5 y_b1_6 y_b1_7; replace K_b1 := Aside0.mk ((hg_.block _ (lt_blk K_b1.out) (R_apart RL.out K_b1.out (by decide))).trans K_b1.out); replace B0 := Aside0.mk hB_; replace RL := Aside0.mk hR_; clear hR_ hB_ hg_ hat_; obtain ⟨y_b1_0, y_b1_1, y_b1_2, y_b1_3, y_b1_4, y_b1_5, y_b1_6, y_b1_7⟩ := cz8 K_b1.out))
 go_ret
 exact ⟨_, rfl, RL.out, B0.out⟩
theorem ladL_4 (L S R : ByteArray) (hL : ¬ L = empS) (hS : ¬ S = empS) (hR : R = empS) (hU : ¬ L = undB) : ladL L S R = [(L, S, empS), (L, empS, empS), (undB, S, empS)] := by
 have hue : ¬ undB = empS := by decide
 have heu : ¬ empS = undB := by decide
 have hS2 : ¬ empS = S := fun h => hS h.symm
 subst hR
 have hU2 : ¬ undB = L := fun h => hU h.symm
 simp [ladL, preL, fiveL, stepL, hL, hue, heu, hS, hS2, hU, hU2]
set_option maxRecDepth 100000 in
set_option maxHeartbeats 4000000 in
theorem lad18_4 (L S R G : ByteArray) (E0 : Option Addr) (m0 d0 : Nat) (E1 : Option Addr) (m1 d1 : Nat) (E2 : Option Addr) (m2 d2 : Nat) (E3 : Option Addr) (m3 d3 : Nat) (w : World) (hL : ¬ L = empS) (hS : ¬ S = empS) (hR : R = empS) (hU : ¬ L = undB) : Calls Try.prog 61 #[.agg #[.string L, .slice E0 m0 d0, .string S, .string R, .slice E1 m1 d1, .slice E2 m2 d2, .slice E3 m3 d3, .string G]] w fun e w' => ∃ v, e = .returned v ∧ Kd.R k30 30 w' w.heap.size (fun _ => True) v ((ladL L S R).map toS) ∧ Below w.heap.size w w' := by
 have hu44 := Try.underlying44
 have hu30 := Try.underlying30
 rw [ladL_4 L S R hL hS hR hU]
 have l1 := (em_f hL).1
 have l2 := (em_f hL).2
 have s1 := (em_f hS).1
 have s2 := (em_f hS).2
 have r1 := (em_t hR).1
 have r2 := (em_t hR).2
 have q1 := un_f hU
 have B0 := Aside0.mk (Below.refl w.heap.size w)
 clear hL hS hR hU
 go_enter Try.func61, Try.ntmps61
 go_wp2_with (first
  | ((with_reducible refine gate_dst (N := 1) rfl ?_); refine be 1 #[.string L, .slice E0 m0 d0, .string S, .string R, .slice E1 m1 d1, .slice E2 m2 d2, .slice E3 m3 d3, .string G] 44 ?_; intro b1 hg w1 hbox hb; have G_b1 := Aside0.mk (show w.heap.size ≤ b1 by rw [hg]; exact B0.out.size); replace B0 := bb B0 hb; have K_b1 := Aside0.mk hbox; clear hb hbox hg; obtain ⟨y_b1_0, y_b1_1, y_b1_2, y_b1_3, y_b1_4, y_b1_5, y_b1_6, y_b1_7⟩ := cz8 K_b1.out)
  | ((with_reducible refine gate_builtin (b := .append) (xs := #[.tmp 39, .tmp 45]) rfl ?_); at_builtin; refine Kd.R_append k30 (w0 := w) w.heap.size rfl (.tmp 39) (.tmp 45) 103 30 (.agg #[.string ⟨#[]⟩, .string ⟨#[]⟩, .string ⟨#[]⟩]) 48 rfl Try.underlying103 info30 rfl (by decide) (by decide) (.slice none 0 0) [] (⟨L, S, ⟨#[]⟩⟩ : S30) [.string L, .string S, .string ⟨#[]⟩] (fun _ => True) (fun _ => False) rfl rfl (k30_mkM _ _ _ _) (fun _ h => h.elim) (fun _ _ => trivial) (Kd.R_nil k30 30 _ _ _) B0.out B0.out.size (by simp) ?_; intro u1 w2 hR_ hB_ hg_ hat_; clear y_b1_0 y_b1_1 y_b1_2 y_b1_3 y_b1_4 y_b1_5 y_b1_6 y_b1_7; replace K_b1 := Aside0.mk ((hg_.block _ (lt_blk K_b1.out) (by simp [Value.ownBlock])).trans K_b1.out); replace B0 := Aside0.mk hB_; have RL := Aside0.mk hR_; clear hR_ hB_ hg_ hat_; obtain ⟨y_b1_0, y_b1_1, y_b1_2, y_b1_3, y_b1_4, y_b1_5, y_b1_6, y_b1_7⟩ := cz8 K_b1.out)
  | ((with_reducible refine gate_builtin (b := .append) (xs := #[.tmp 47, .tmp 51]) rfl ?_); at_builtin; refine Kd.R_append k30 (w0 := w) w.heap.size rfl (.tmp 47) (.tmp 51) 103 30 (.agg #[.string ⟨#[]⟩, .string ⟨#[]⟩, .string ⟨#[]⟩]) 48 rfl Try.underlying103 info30 rfl (by decide) (by decide) (u1) [(⟨L, S, ⟨#[]⟩⟩ : S30)] (⟨L, ⟨#[]⟩, ⟨#[]⟩⟩ : S30) [.string L, .string ⟨#[]⟩, .string ⟨#[]⟩] (fun _ => True) (fun _ => False) rfl rfl (k30_mkM _ _ _ _) (fun _ h => h.elim) (fun _ _ => trivial) RL.out B0.out B0.out.size (by simp) ?_; intro u2 w3 hR_ hB_ hg_ hat_; clear y_b1_0 y_b1_1 y_b1_2 y_b1_3 y_b1_4 y_b1_5 y_b1_6 y_b1_7; replace K_b1 := Aside0.mk ((hg_.block _ (lt_blk K_b1.out) (R_apart RL.out K_b1.out (by decide))).trans K_b1.out); replace B0 := Aside0.mk hB_; replace RL := Aside0.mk hR_; clear hR_ hB_ hg_ hat_; obtain ⟨y_b1_0, y_b1_1, y_b1_2, y_b1_3, y_b1_4, y_b1_5, y_b1_6, y_b1_7⟩ := cz8 K_b1.out)
  | ((with_reducible refine gate_builtin (b := .append) (xs := #[.tmp 61, .tmp 65]) rfl ?_); at_builtin; refine Kd.R_append k30 (w0 := w) w.heap.size rfl (.tmp 61) (.tmp 65) 103 30 (.agg #[.string ⟨#[]⟩, .string ⟨#[]⟩, .string ⟨#[]⟩]) 48 rfl Try.underlying103 info30 rfl (by decide) (by decide) (u2) [(⟨L, S, ⟨#[]⟩⟩ : S30), (⟨L, ⟨#[]⟩, ⟨#[]⟩⟩ : S30)] (⟨⟨#[117, 110, 100]⟩, S, ⟨#[]⟩⟩ : S30) [.string ⟨#[117, 110, 100]⟩, .string S, .string ⟨#[]⟩] (fun _ => True) (fun _ => False) rfl rfl (k30_mkM _ _ _ _) (fun _ h => h.elim) (fun _ _ => trivial) RL.out B0.out B0.out.size (by simp) ?_; intro u3 w4 hR_ hB_ hg_ hat_; clear y_b1_0 y_b1_1 y_b1_2 y_b1_3 y_b1_4 y_b1_5 y_b1_6 y_b1_7; replace K_b1 := Aside0.mk ((hg_.block _ (lt_blk K_b1.out) (R_apart RL.out K_b1.out (by decide))).trans K_b1.out); replace B0 := Aside0.mk hB_; replace RL := Aside0.mk hR_; clear hR_ hB_ hg_ hat_; obtain ⟨y_b1_0, y_b1_1, y_b1_2, y_b1_3, y_b1_4, y_b1_5, y_b1_6, y_b1_7⟩ := cz8 K_b1.out))
 go_ret
 exact ⟨_, rfl, RL.out, B0.out⟩
theorem ladL_5 (L S R : ByteArray) (hL : ¬ L = empS) (hS : ¬ S = empS) (hR : ¬ R = empS) (hU : L = undB) : ladL L S R = [(L, S, R), (L, empS, R), (L, S, empS), (L, empS, empS)] := by
 have hue : ¬ undB = empS := by decide
 have heu : ¬ empS = undB := by decide
 have hS2 : ¬ empS = S := fun h => hS h.symm
 have hR2 : ¬ empS = R := fun h => hR h.symm
 subst hU
 simp [ladL, preL, fiveL, stepL, hL, hue, heu, hS, hS2, hR, hR2]
set_option maxRecDepth 100000 in
set_option maxHeartbeats 4000000 in
theorem lad18_5 (L S R G : ByteArray) (E0 : Option Addr) (m0 d0 : Nat) (E1 : Option Addr) (m1 d1 : Nat) (E2 : Option Addr) (m2 d2 : Nat) (E3 : Option Addr) (m3 d3 : Nat) (w : World) (hL : ¬ L = empS) (hS : ¬ S = empS) (hR : ¬ R = empS) (hU : L = undB) : Calls Try.prog 61 #[.agg #[.string L, .slice E0 m0 d0, .string S, .string R, .slice E1 m1 d1, .slice E2 m2 d2, .slice E3 m3 d3, .string G]] w fun e w' => ∃ v, e = .returned v ∧ Kd.R k30 30 w' w.heap.size (fun _ => True) v ((ladL L S R).map toS) ∧ Below w.heap.size w w' := by
 have hu44 := Try.underlying44
 have hu30 := Try.underlying30
 rw [ladL_5 L S R hL hS hR hU]
 have l1 := (em_f hL).1
 have l2 := (em_f hL).2
 have s1 := (em_f hS).1
 have s2 := (em_f hS).2
 have r1 := (em_f hR).1
 have r2 := (em_f hR).2
 have q1 := un_t hU
 have B0 := Aside0.mk (Below.refl w.heap.size w)
 clear hL hS hR hU
 go_enter Try.func61, Try.ntmps61
 go_wp2_with (first
  | ((with_reducible refine gate_dst (N := 1) rfl ?_); refine be 1 #[.string L, .slice E0 m0 d0, .string S, .string R, .slice E1 m1 d1, .slice E2 m2 d2, .slice E3 m3 d3, .string G] 44 ?_; intro b1 hg w1 hbox hb; have G_b1 := Aside0.mk (show w.heap.size ≤ b1 by rw [hg]; exact B0.out.size); replace B0 := bb B0 hb; have K_b1 := Aside0.mk hbox; clear hb hbox hg; obtain ⟨y_b1_0, y_b1_1, y_b1_2, y_b1_3, y_b1_4, y_b1_5, y_b1_6, y_b1_7⟩ := cz8 K_b1.out)
  | ((with_reducible refine gate_builtin (b := .append) (xs := #[.tmp 15, .tmp 23]) rfl ?_); at_builtin; refine Kd.R_append k30 (w0 := w) w.heap.size rfl (.tmp 15) (.tmp 23) 103 30 (.agg #[.string ⟨#[]⟩, .string ⟨#[]⟩, .string ⟨#[]⟩]) 48 rfl Try.underlying103 info30 rfl (by decide) (by decide) (.slice none 0 0) [] (⟨L, S, R⟩ : S30) [.string L, .string S, .string R] (fun _ => True) (fun _ => False) rfl rfl (k30_mkM _ _ _ _) (fun _ h => h.elim) (fun _ _ => trivial) (Kd.R_nil k30 30 _ _ _) B0.out B0.out.size (by simp) ?_; intro u1 w2 hR_ hB_ hg_ hat_; clear y_b1_0 y_b1_1 y_b1_2 y_b1_3 y_b1_4 y_b1_5 y_b1_6 y_b1_7; replace K_b1 := Aside0.mk ((hg_.block _ (lt_blk K_b1.out) (by simp [Value.ownBlock])).trans K_b1.out); replace B0 := Aside0.mk hB_; have RL := Aside0.mk hR_; clear hR_ hB_ hg_ hat_; obtain ⟨y_b1_0, y_b1_1, y_b1_2, y_b1_3, y_b1_4, y_b1_5, y_b1_6, y_b1_7⟩ := cz8 K_b1.out)
  | ((with_reducible refine gate_builtin (b := .append) (xs := #[.tmp 28, .tmp 34]) rfl ?_); at_builtin; refine Kd.R_append k30 (w0 := w) w.heap.size rfl (.tmp 28) (.tmp 34) 103 30 (.agg #[.string ⟨#[]⟩, .string ⟨#[]⟩, .string ⟨#[]⟩]) 48 rfl Try.underlying103 info30 rfl (by decide) (by decide) (u1) [(⟨L, S, R⟩ : S30)] (⟨L, ⟨#[]⟩, R⟩ : S30) [.string L, .string ⟨#[]⟩, .string R] (fun _ => True) (fun _ => False) rfl rfl (k30_mkM _ _ _ _) (fun _ h => h.elim) (fun _ _ => trivial) RL.out B0.out B0.out.size (by simp) ?_; intro u2 w3 hR_ hB_ hg_ hat_; clear y_b1_0 y_b1_1 y_b1_2 y_b1_3 y_b1_4 y_b1_5 y_b1_6 y_b1_7; replace K_b1 := Aside0.mk ((hg_.block _ (lt_blk K_b1.out) (R_apart RL.out K_b1.out (by decide))).trans K_b1.out); replace B0 := Aside0.mk hB_; replace RL := Aside0.mk hR_; clear hR_ hB_ hg_ hat_; obtain ⟨y_b1_0, y_b1_1, y_b1_2, y_b1_3, y_b1_4, y_b1_5, y_b1_6, y_b1_7⟩ := cz8 K_b1.out)
  | ((with_reducible refine gate_builtin (b := .append) (xs := #[.tmp 39, .tmp 45]) rfl ?_); at_builtin; refine Kd.R_append k30 (w0 := w) w.heap.size rfl (.tmp 39) (.tmp 45) 103 30 (.agg #[.string ⟨#[]⟩, .string ⟨#[]⟩, .string ⟨#[]⟩]) 48 rfl Try.underlying103 info30 rfl (by decide) (by decide) (u2) [(⟨L, S, R⟩ : S30), (⟨L, ⟨#[]⟩, R⟩ : S30)] (⟨L, S, ⟨#[]⟩⟩ : S30) [.string L, .string S, .string ⟨#[]⟩] (fun _ => True) (fun _ => False) rfl rfl (k30_mkM _ _ _ _) (fun _ h => h.elim) (fun _ _ => trivial) RL.out B0.out B0.out.size (by simp) ?_; intro u3 w4 hR_ hB_ hg_ hat_; clear y_b1_0 y_b1_1 y_b1_2 y_b1_3 y_b1_4 y_b1_5 y_b1_6 y_b1_7; replace K_b1 := Aside0.mk ((hg_.block _ (lt_blk K_b1.out) (R_apart RL.out K_b1.out (by decide))).trans K_b1.out); replace B0 := Aside0.mk hB_; replace RL := Aside0.mk hR_; clear hR_ hB_ hg_ hat_; obtain ⟨y_b1_0, y_b1_1, y_b1_2, y_b1_3, y_b1_4, y_b1_5, y_b1_6, y_b1_7⟩ := cz8 K_b1.out)
  | ((with_reducible refine gate_builtin (b := .append) (xs := #[.tmp 47, .tmp 51]) rfl ?_); at_builtin; refine Kd.R_append k30 (w0 := w) w.heap.size rfl (.tmp 47) (.tmp 51) 103 30 (.agg #[.string ⟨#[]⟩, .string ⟨#[]⟩, .string ⟨#[]⟩]) 48 rfl Try.underlying103 info30 rfl (by decide) (by decide) (u3) [(⟨L, S, R⟩ : S30), (⟨L, ⟨#[]⟩, R⟩ : S30), (⟨L, S, ⟨#[]⟩⟩ : S30)] (⟨L, ⟨#[]⟩, ⟨#[]⟩⟩ : S30) [.string L, .string ⟨#[]⟩, .string ⟨#[]⟩] (fun _ => True) (fun _ => False) rfl rfl (k30_mkM _ _ _ _) (fun _ h => h.elim) (fun _ _ => trivial) RL.out B0.out B0.out.size (by simp) ?_; intro u4 w5 hR_ hB_ hg_ hat_; clear y_b1_0 y_b1_1 y_b1_2 y_b1_3 y_b1_4 y_b1_5 y_b1_6 y_b1_7; replace K_b1 := Aside0.mk ((hg_.block _ (lt_blk K_b1.out) (R_apart RL.out K_b1.out (by decide))).trans K_b1.out); replace B0 := Aside0.mk hB_; replace RL := Aside0.mk hR_; clear hR_ hB_ hg_ hat_; obtain ⟨y_b1_0, y_b1_1, y_b1_2, y_b1_3, y_b1_4, y_b1_5, y_b1_6, y_b1_7⟩ := cz8 K_b1.out))
 go_ret
 exact ⟨_, rfl, RL.out, B0.out⟩
theorem ladL_6 (L S R : ByteArray) (hL : ¬ L = empS) (hS : ¬ S = empS) (hR : ¬ R = empS) (hU : ¬ L = undB) : ladL L S R = [(L, S, R), (L, empS, R), (L, S, empS), (L, empS, empS), (undB, S, empS)] := by
 have hue : ¬ undB = empS := by decide
 have heu : ¬ empS = undB := by decide
 have hS2 : ¬ empS = S := fun h => hS h.symm
 have hR2 : ¬ empS = R := fun h => hR h.symm
 have hU2 : ¬ undB = L := fun h => hU h.symm
 simp [ladL, preL, fiveL, stepL, hL, hue, heu, hS, hS2, hR, hR2, hU, hU2]
set_option maxRecDepth 100000 in
set_option maxHeartbeats 4000000 in
theorem lad18_6 (L S R G : ByteArray) (E0 : Option Addr) (m0 d0 : Nat) (E1 : Option Addr) (m1 d1 : Nat) (E2 : Option Addr) (m2 d2 : Nat) (E3 : Option Addr) (m3 d3 : Nat) (w : World) (hL : ¬ L = empS) (hS : ¬ S = empS) (hR : ¬ R = empS) (hU : ¬ L = undB) : Calls Try.prog 61 #[.agg #[.string L, .slice E0 m0 d0, .string S, .string R, .slice E1 m1 d1, .slice E2 m2 d2, .slice E3 m3 d3, .string G]] w fun e w' => ∃ v, e = .returned v ∧ Kd.R k30 30 w' w.heap.size (fun _ => True) v ((ladL L S R).map toS) ∧ Below w.heap.size w w' := by
 have hu44 := Try.underlying44
 have hu30 := Try.underlying30
 rw [ladL_6 L S R hL hS hR hU]
 have l1 := (em_f hL).1
 have l2 := (em_f hL).2
 have s1 := (em_f hS).1
 have s2 := (em_f hS).2
 have r1 := (em_f hR).1
 have r2 := (em_f hR).2
 have q1 := un_f hU
 have B0 := Aside0.mk (Below.refl w.heap.size w)
 clear hL hS hR hU
 go_enter Try.func61, Try.ntmps61
 go_wp2_with (first
  | ((with_reducible refine gate_dst (N := 1) rfl ?_); refine be 1 #[.string L, .slice E0 m0 d0, .string S, .string R, .slice E1 m1 d1, .slice E2 m2 d2, .slice E3 m3 d3, .string G] 44 ?_; intro b1 hg w1 hbox hb; have G_b1 := Aside0.mk (show w.heap.size ≤ b1 by rw [hg]; exact B0.out.size); replace B0 := bb B0 hb; have K_b1 := Aside0.mk hbox; clear hb hbox hg; obtain ⟨y_b1_0, y_b1_1, y_b1_2, y_b1_3, y_b1_4, y_b1_5, y_b1_6, y_b1_7⟩ := cz8 K_b1.out)
  | ((with_reducible refine gate_builtin (b := .append) (xs := #[.tmp 15, .tmp 23]) rfl ?_); at_builtin; refine Kd.R_append k30 (w0 := w) w.heap.size rfl (.tmp 15) (.tmp 23) 103 30 (.agg #[.string ⟨#[]⟩, .string ⟨#[]⟩, .string ⟨#[]⟩]) 48 rfl Try.underlying103 info30 rfl (by decide) (by decide) (.slice none 0 0) [] (⟨L, S, R⟩ : S30) [.string L, .string S, .string R] (fun _ => True) (fun _ => False) rfl rfl (k30_mkM _ _ _ _) (fun _ h => h.elim) (fun _ _ => trivial) (Kd.R_nil k30 30 _ _ _) B0.out B0.out.size (by simp) ?_; intro u1 w2 hR_ hB_ hg_ hat_; clear y_b1_0 y_b1_1 y_b1_2 y_b1_3 y_b1_4 y_b1_5 y_b1_6 y_b1_7; replace K_b1 := Aside0.mk ((hg_.block _ (lt_blk K_b1.out) (by simp [Value.ownBlock])).trans K_b1.out); replace B0 := Aside0.mk hB_; have RL := Aside0.mk hR_; clear hR_ hB_ hg_ hat_; obtain ⟨y_b1_0, y_b1_1, y_b1_2, y_b1_3, y_b1_4, y_b1_5, y_b1_6, y_b1_7⟩ := cz8 K_b1.out)
  | ((with_reducible refine gate_builtin (b := .append) (xs := #[.tmp 28, .tmp 34]) rfl ?_); at_builtin; refine Kd.R_append k30 (w0 := w) w.heap.size rfl (.tmp 28) (.tmp 34) 103 30 (.agg #[.string ⟨#[]⟩, .string ⟨#[]⟩, .string ⟨#[]⟩]) 48 rfl Try.underlying103 info30 rfl (by decide) (by decide) (u1) [(⟨L, S, R⟩ : S30)] (⟨L, ⟨#[]⟩, R⟩ : S30) [.string L, .string ⟨#[]⟩, .string R] (fun _ => True) (fun _ => False) rfl rfl (k30_mkM _ _ _ _) (fun _ h => h.elim) (fun _ _ => trivial) RL.out B0.out B0.out.size (by simp) ?_; intro u2 w3 hR_ hB_ hg_ hat_; clear y_b1_0 y_b1_1 y_b1_2 y_b1_3 y_b1_4 y_b1_5 y_b1_6 y_b1_7; replace K_b1 := Aside0.mk ((hg_.block _ (lt_blk K_b1.out) (R_apart RL.out K_b1.out (by decide))).trans K_b1.out); replace B0 := Aside0.mk hB_; replace RL := Aside0.mk hR_; clear hR_ hB_ hg_ hat_; obtain ⟨y_b1_0, y_b1_1, y_b1_2, y_b1_3, y_b1_4, y_b1_5, y_b1_6, y_b1_7⟩ := cz8 K_b1.out)
  | ((with_reducible refine gate_builtin (b := .append) (xs := #[.tmp 39, .tmp 45]) rfl ?_); at_builtin; refine Kd.R_append k30 (w0 := w) w.heap.size rfl (.tmp 39) (.tmp 45) 103 30 (.agg #[.string ⟨#[]⟩, .string ⟨#[]⟩, .string ⟨#[]⟩]) 48 rfl Try.underlying103 info30 rfl (by decide) (by decide) (u2) [(⟨L, S, R⟩ : S30), (⟨L, ⟨#[]⟩, R⟩ : S30)] (⟨L, S, ⟨#[]⟩⟩ : S30) [.string L, .string S, .string ⟨#[]⟩] (fun _ => True) (fun _ => False) rfl rfl (k30_mkM _ _ _ _) (fun _ h => h.elim) (fun _ _ => trivial) RL.out B0.out B0.out.size (by simp) ?_; intro u3 w4 hR_ hB_ hg_ hat_; clear y_b1_0 y_b1_1 y_b1_2 y_b1_3 y_b1_4 y_b1_5 y_b1_6 y_b1_7; replace K_b1 := Aside0.mk ((hg_.block _ (lt_blk K_b1.out) (R_apart RL.out K_b1.out (by decide))).trans K_b1.out); replace B0 := Aside0.mk hB_; replace RL := Aside0.mk hR_; clear hR_ hB_ hg_ hat_; obtain ⟨y_b1_0, y_b1_1, y_b1_2, y_b1_3, y_b1_4, y_b1_5, y_b1_6, y_b1_7⟩ := cz8 K_b1.out)
  | ((with_reducible refine gate_builtin (b := .append) (xs := #[.tmp 47, .tmp 51]) rfl ?_); at_builtin; refine Kd.R_append k30 (w0 := w) w.heap.size rfl (.tmp 47) (.tmp 51) 103 30 (.agg #[.string ⟨#[]⟩, .string ⟨#[]⟩, .string ⟨#[]⟩]) 48 rfl Try.underlying103 info30 rfl (by decide) (by decide) (u3) [(⟨L, S, R⟩ : S30), (⟨L, ⟨#[]⟩, R⟩ : S30), (⟨L, S, ⟨#[]⟩⟩ : S30)] (⟨L, ⟨#[]⟩, ⟨#[]⟩⟩ : S30) [.string L, .string ⟨#[]⟩, .string ⟨#[]⟩] (fun _ => True) (fun _ => False) rfl rfl (k30_mkM _ _ _ _) (fun _ h => h.elim) (fun _ _ => trivial) RL.out B0.out B0.out.size (by simp) ?_; intro u4 w5 hR_ hB_ hg_ hat_; clear y_b1_0 y_b1_1 y_b1_2 y_b1_3 y_b1_4 y_b1_5 y_b1_6 y_b1_7; replace K_b1 := Aside0.mk ((hg_.block _ (lt_blk K_b1.out) (R_apart RL.out K_b1.out (by decide))).trans K_b1.out); replace B0 := Aside0.mk hB_; replace RL := Aside0.mk hR_; clear hR_ hB_ hg_ hat_; obtain ⟨y_b1_0, y_b1_1, y_b1_2, y_b1_3, y_b1_4, y_b1_5, y_b1_6, y_b1_7⟩ := cz8 K_b1.out)
  | ((with_reducible refine gate_builtin (b := .append) (xs := #[.tmp 61, .tmp 65]) rfl ?_); at_builtin; refine Kd.R_append k30 (w0 := w) w.heap.size rfl (.tmp 61) (.tmp 65) 103 30 (.agg #[.string ⟨#[]⟩, .string ⟨#[]⟩, .string ⟨#[]⟩]) 48 rfl Try.underlying103 info30 rfl (by decide) (by decide) (u4) [(⟨L, S, R⟩ : S30), (⟨L, ⟨#[]⟩, R⟩ : S30), (⟨L, S, ⟨#[]⟩⟩ : S30), (⟨L, ⟨#[]⟩, ⟨#[]⟩⟩ : S30)] (⟨⟨#[117, 110, 100]⟩, S, ⟨#[]⟩⟩ : S30) [.string ⟨#[117, 110, 100]⟩, .string S, .string ⟨#[]⟩] (fun _ => True) (fun _ => False) rfl rfl (k30_mkM _ _ _ _) (fun _ h => h.elim) (fun _ _ => trivial) RL.out B0.out B0.out.size (by simp) ?_; intro u5 w6 hR_ hB_ hg_ hat_; clear y_b1_0 y_b1_1 y_b1_2 y_b1_3 y_b1_4 y_b1_5 y_b1_6 y_b1_7; replace K_b1 := Aside0.mk ((hg_.block _ (lt_blk K_b1.out) (R_apart RL.out K_b1.out (by decide))).trans K_b1.out); replace B0 := Aside0.mk hB_; replace RL := Aside0.mk hR_; clear hR_ hB_ hg_ hat_; obtain ⟨y_b1_0, y_b1_1, y_b1_2, y_b1_3, y_b1_4, y_b1_5, y_b1_6, y_b1_7⟩ := cz8 K_b1.out))
 go_ret
 exact ⟨_, rfl, RL.out, B0.out⟩
set_option maxRecDepth 100000 in
set_option maxHeartbeats 4000000 in
theorem lad18_calls (L S R G : ByteArray) (E0 : Option Addr) (m0 d0 : Nat) (E1 : Option Addr) (m1 d1 : Nat) (E2 : Option Addr) (m2 d2 : Nat) (E3 : Option Addr) (m3 d3 : Nat) (w : World) : Calls Try.prog 61 #[.agg #[.string L, .slice E0 m0 d0, .string S, .string R, .slice E1 m1 d1, .slice E2 m2 d2, .slice E3 m3 d3, .string G]] w fun e w' => ∃ v, e = .returned v ∧ Kd.R k30 30 w' w.heap.size (fun _ => True) v ((ladL L S R).map toS) ∧ Below w.heap.size w w' := by
 by_cases hL : L = empS
 · have hu44 := Try.underlying44
   have l1 := (em_t hL).1
   have l2 := (em_t hL).2
   have hl : ladL L S R = [] := by unfold ladL; rw [if_pos hL]
   rw [hl]
   clear hL hl
   go_enter Try.func61, Try.ntmps61
   go_wp2
   go_ret
   exact ⟨_, rfl, Kd.R_nil _ _ _ _ _, below_alloc (Below.refl _ _) _⟩
 by_cases hS : S = empS
 · by_cases hR : R = empS
   · exact lad18_1 L S R G E0 m0 d0 E1 m1 d1 E2 m2 d2 E3 m3 d3 w hL hS hR
   · exact lad18_2 L S R G E0 m0 d0 E1 m1 d1 E2 m2 d2 E3 m3 d3 w hL hS hR
 by_cases hR : R = empS
 · by_cases hU : L = undB
   · exact lad18_3 L S R G E0 m0 d0 E1 m1 d1 E2 m2 d2 E3 m3 d3 w hL hS hR hU
   · exact lad18_4 L S R G E0 m0 d0 E1 m1 d1 E2 m2 d2 E3 m3 d3 w hL hS hR hU
 by_cases hU : L = undB
 · exact lad18_5 L S R G E0 m0 d0 E1 m1 d1 E2 m2 d2 E3 m3 d3 w hL hS hR hU
 · exact lad18_6 L S R G E0 m0 d0 E1 m1 d1 E2 m2 d2 E3 m3 d3 w hL hS hR hU
theorem find_none {α β : Type} (f : α → Option β) (l : List α) (i : Nat) (h : i < l.length) (hn : (l.take i).findSome? f = none) (hi : f (l[i]'h) = none) : (l.take (i + 1)).findSome? f = none := by
 rw [List.take_succ_eq_append_getElem h, List.findSome?_append, hn]
 simp [hi]
theorem find_some {α β : Type} (f : α → Option β) (l : List α) (i : Nat) (h : i < l.length) (hn : (l.take i).findSome? f = none) {x : β} (hi : f (l[i]'h) = some x) : l.findSome? f = some x := by
 have e : l = l.take i ++ (l[i]'h :: l.drop (i + 1)) := by rw [← List.drop_eq_getElem_cons h, List.take_append_drop]
 rw [show l.findSome? f = (l.take i ++ (l[i]'h :: l.drop (i + 1))).findSome? f from congrArg (fun z => List.findSome? f z) e, List.findSome?_append, hn, Option.none_or, List.findSome?_cons, hi]
theorem lad_key {L S R : ByteArray} {lad : List S30} (hl : lad = (ladL L S R).map toS) (i : Nat) (h : i < (ladL L S R).length) {a b c : ByteArray} (hk : rd_T30 lad (i : Int) = ⟨a, b, c⟩) : (ladL L S R)[i]'h = (a, b, c) := by
 have h2 : rd_T30 lad (i : Int) = toS ((ladL L S R)[i]'h) := by
  rw [hl]
  simp [rd_T30, List.getD_eq_getElem?_getD, List.getElem?_eq_getElem h]
 rw [h2] at hk
 injection hk with h0 h1 h3
 exact Prod.ext h0 (Prod.ext h1 h3)
theorem max_at (l : List S66) (L S R : ByteArray) (x : S66) (h : (ladL L S R).findSome? (rowOf l) = some x) : maxP l (L, S, R) = (fillP x (L, S, R), true) := by
 unfold maxP
 rw [h]
theorem max_not (l : List S66) (L S R : ByteArray) (h : (ladL L S R).findSome? (rowOf l) = none) : maxP l (L, S, R) = ((L, S, R), false) := by
 unfold maxP
 rw [h]
set_option maxRecDepth 100000 in
set_option maxHeartbeats 8000000 in
theorem max18_calls (A0 : Option Addr) (n0 c0 : Nat) (A1 : Option Addr) (c1 : Nat) (l : List S66) (A2 : Option Addr) (n2 c2 : Nat) (A3 : Option Addr) (n3 c3 : Nat) (p q : Int) (L S R G : ByteArray) (E0 : Option Addr) (m0 d0 : Nat) (E1 : Option Addr) (m1 d1 : Nat) (E2 : Option Addr) (m2 d2 : Nat) (E3 : Option Addr) (m3 d3 : Nat) (w : World) (hC : Kd.C k66 w A1 l.length l) : Calls Try.prog 54 #[.agg #[.slice A0 n0 c0, .slice A1 l.length c1, .slice A2 n2 c2, .slice A3 n3 c3, .int .i64 p, .int .i64 q], .agg #[.string L, .slice E0 m0 d0, .string S, .string R, .slice E1 m1 d1, .slice E2 m2 d2, .slice E3 m3 d3, .string G]] w fun e w' => e = .returned (.agg #[.string (maxP l (L, S, R)).1.1, .slice E0 m0 d0, .string (maxP l (L, S, R)).1.2.1, .string (maxP l (L, S, R)).1.2.2, .slice E1 m1 d1, .slice E2 m2 d2, .slice E3 m3 d3, .string G, .bool (maxP l (L, S, R)).2]) ∧ Below w.heap.size w w' := by
 have hu39 := Try.underlying39
 have hu44 := Try.underlying44
 have hu66 := Try.underlying66
 have hu30 := Try.underlying30
 have hu91 := Try.underlying91
 obtain ⟨lad, hlad⟩ : ∃ x, x = (ladL L S R).map toS := ⟨_, rfl⟩
 have HLL := Aside0.mk (show lad.length = (ladL L S R).length by rw [hlad, List.length_map])
 have HLD := Aside0.mk hlad
 have HC := Aside0.mk hC
 have B0 := Aside0.mk (Below.refl w.heap.size w)
 clear hC hlad
 go_enter Try.func54, Try.ntmps54
 go_wp2_with (first
  | ((with_reducible refine gate_dst (N := 2) rfl ?_); refine be 2 #[.slice A0 n0 c0, .slice A1 l.length c1, .slice A2 n2 c2, .slice A3 n3 c3, .int .i64 p, .int .i64 q] 39 ?_; intro b2 hg v1 hbox hb; have G_b2 := Aside0.mk (show w.heap.size ≤ b2 by rw [hg]; exact B0.out.size); replace B0 := bb B0 hb; have K_b2 := Aside0.mk hbox; clear hb hbox hg)
  | ((with_reducible refine gate_dst (N := 3) rfl ?_); refine be 3 #[.string L, .slice E0 m0 d0, .string S, .string R, .slice E1 m1 d1, .slice E2 m2 d2, .slice E3 m3 d3, .string G] 44 ?_; intro b3 hg v2 hbox hb; have N_b2_b3 := kn K_b2 hg; have G_b3 := Aside0.mk (show w.heap.size ≤ b3 by rw [hg]; exact B0.out.size); replace B0 := bb B0 hb; replace K_b2 := kb K_b2 hb; have K_b3 := Aside0.mk hbox; clear hb hbox hg)
  | ((with_reducible refine gate_dst (N := 4) rfl ?_); refine be 4 #[.string ⟨#[]⟩, .slice none 0 0, .string ⟨#[]⟩, .string ⟨#[]⟩, .slice none 0 0, .slice none 0 0, .slice none 0 0, .string ⟨#[]⟩, .bool false] 91 ?_; intro b4 hg v3 hbox hb; have N_b2_b4 := kn K_b2 hg; have N_b3_b4 := kn K_b3 hg; have G_b4 := Aside0.mk (show w.heap.size ≤ b4 by rw [hg]; exact B0.out.size); replace B0 := bb B0 hb; replace K_b2 := kb K_b2 hb; replace K_b3 := kb K_b3 hb; have K_b4 := Aside0.mk hbox; clear hb hbox hg; obtain ⟨y_b3_0, y_b3_1, y_b3_2, y_b3_3, y_b3_4, y_b3_5, y_b3_6, y_b3_7⟩ := cz8 K_b3.out)
  | ((with_reducible refine gate_callee (f := 61) rfl ?_); refine goesL_ (some 10) rfl rfl Try.func61 (by kernel_rfl) rfl #[.agg #[.string L, .slice E0 m0 d0, .string S, .string R, .slice E1 m1 d1, .slice E2 m2 d2, .slice E3 m3 d3, .string G]] rfl mq ?_; (with_reducible refine (lad18_calls L S R G E0 m0 d0 E1 m1 d1 E2 m2 d2 E3 m3 d3 _).mono ?_); rintro e v4 ⟨v, rfl, hR, hb⟩; refine ⟨_, rfl, ?_⟩; clear y_b3_0 y_b3_1 y_b3_2 y_b3_3 y_b3_4 y_b3_5 y_b3_6 y_b3_7; rw [← HLD.out] at hR; obtain ⟨AL, cL, eL⟩ := Kd.R_slice hR; subst eL; have CL := Aside0.mk (Kd.R_reads' hR).2.2; clear hR; replace B0 := bb B0 hb; replace K_b2 := kb K_b2 hb; replace K_b3 := kb K_b3 hb; replace K_b4 := kb K_b4 hb; clear hb))
 have SL := Aside0.mk (show w.heap.size ≤ v4.heap.size from B0.out.size)
 have BL := Aside0.mk (Below.refl v4.heap.size v4)
 have HMX := Aside0.mk (Kd.C_max CL.out)
 go_wp2
 go_loopw [6] (fun vi wr => ∃ i : Nat, vi = .int .i64 (i : Int) ∧ i ≤ lad.length ∧ Aside0 (((ladL L S R).take i).findSome? (rowOf l) = none) ∧ Aside0 (Below w.heap.size w wr) ∧ Aside0 (Below v4.heap.size v4 wr) ∧ Aside0 (wr.heap[b2]? = some (.cells #[.slice A0 n0 c0, .slice A1 l.length c1, .slice A2 n2 c2, .slice A3 n3 c3, .int .i64 p, .int .i64 q] 39 (0, 0))) ∧ Aside0 (wr.heap[b3]? = some (.cells #[.string L, .slice E0 m0 d0, .string S, .string R, .slice E1 m1 d1, .slice E2 m2 d2, .slice E3 m3 d3, .string G] 44 (0, 0))) ∧ Aside0 (wr.heap[b4]? = some (.cells #[.string ⟨#[]⟩, .slice none 0 0, .string ⟨#[]⟩, .string ⟨#[]⟩, .slice none 0 0, .slice none 0 0, .slice none 0 0, .string ⟨#[]⟩, .bool false] 91 (0, 0)))) (fun vi _ => lad.length - (intOf vi).toNat)
 case atStart => exact ⟨0, rfl, Nat.zero_le _, ⟨rfl⟩, B0, BL, K_b2, K_b3, K_b4⟩
 case round =>
  clear B0 BL K_b2 K_b3 K_b4
  obtain ⟨i, rfl, hi, HN, B0, BL, K_b2, K_b3, K_b4⟩ := hrel
  generalize wr = z1 at *
  have hmx := HMX.out
  by_cases hlt : i < lad.length
  · obtain ⟨ad, e, x0, x1, x2⟩ := at_T30 CL.out (i : Int) (by omega) (by omega)
    cases e
    obtain ⟨k1, k2, k3_, hk⟩ : ∃ k1 k2 k3_, rd_T30 lad (i : Int) = ⟨k1, k2, k3_⟩ := ⟨_, _, _, rfl⟩
    have hil : i < (ladL L S R).length := by have := HLL.out; omega
    have hkey : (ladL L S R)[i]'hil = (k1, k2, k3_) := lad_key HLD.out i hil hk
    rw [hk] at x0 x1 x2
    simp only [Int.toNat_natCast] at x0 x1 x2
    have KY := Aside0.mk hkey
    have Q0 := Aside0.mk x0
    have Q1 := Aside0.mk x1
    have Q2 := Aside0.mk x2
    have dl1 : decide ((i : Int) < (lad.length : Int)) = true := decide_eq_true (by omega)
    clear hk hkey x0 x1 x2
    go_wp2
    clear dl1
    refine start_ (n := 18) (S := fun w' => w'.cell? ⟨b2, 0, none⟩ = some (.slice A0 n0 c0) ∧ w'.cell? ⟨b2, 1, none⟩ = some (.slice A1 l.length c1) ∧ w'.cell? ⟨b2, 2, none⟩ = some (.slice A2 n2 c2) ∧ w'.cell? ⟨b2, 3, none⟩ = some (.slice A3 n3 c3) ∧ w'.cell? ⟨b2, 4, none⟩ = some (.int .i64 p) ∧ w'.cell? ⟨b2, 5, none⟩ = some (.int .i64 q) ∧ w'.cell? (ad.add (i * 3)) = some (.string k1) ∧ w'.cell? ⟨(ad.add (i * 3)).block, (ad.add (i * 3)).off + 1, none⟩ = some (.string k2) ∧ w'.cell? ⟨(ad.add (i * 3)).block, (ad.add (i * 3)).off + 2, none⟩ = some (.string k3_)) (ds := []) (M 18 0) (by kernel_rfl) rfl rfl ⟨(blk_cell K_b2.out 0).trans rfl, (blk_cell K_b2.out 1).trans rfl, (blk_cell K_b2.out 2).trans rfl, (blk_cell K_b2.out 3).trans rfl, (blk_cell K_b2.out 4).trans rfl, (blk_cell K_b2.out 5).trans rfl, (BL.out.cell (World.block_lt_of_cell? v4 _ Q0.out)).trans Q0.out, (BL.out.cell (World.block_lt_of_cell? v4 _ Q1.out)).trans Q1.out, (BL.out.cell (World.block_lt_of_cell? v4 _ Q2.out)).trans Q2.out⟩ (fun hHeld => ?_)
    have hb : Below z1.heap.size z1 z1.drew := below_drew1 (Below.refl _ _)
    generalize z1.drew = v5 at hb hHeld ⊢
    replace B0 := bb B0 hb
    replace BL := bb BL hb
    replace K_b2 := kb K_b2 hb
    replace K_b3 := kb K_b3 hb
    replace K_b4 := kb K_b4 hb
    clear hb
    refine pw 1 18 (M 18 2) ?_
    refine pw 2 19 (M 18 6) ?_
    refine pw 3 20 (M 18 14) ?_
    refine pw 4 21 (M 18 30) ?_
    refine pw 6 23 (M 18 94) ?_
    refine pw 7 24 (M 18 222) ?_
    refine pw 8 25 (M 18 478) ?_
    refine pw 9 26 (M 18 990) ?_
    refine pw 11 28 (M 18 3038) ?_
    refine pw 12 29 (M 18 7134) ?_
    refine pw 13 30 (M 18 15326) ?_
    refine pw 14 31 (M 18 31710) ?_
    refine tw 0 17 (M 18 31711) hHeld ?_
    refine tw 5 22 (M 18 31743) hHeld ?_
    refine tw 10 27 (M 18 32767) hHeld ?_
    refine tw 15 32 (M 18 65535) hHeld ?_
    refine ow 16 (some 33) (M 18 131071) fun K hK => ?_
    refine gow Try.func62 #[.agg #[.slice A0 n0 c0, .slice A1 l.length c1, .slice A2 n2 c2, .slice A3 n3 c3, .int .i64 p, .int .i64 q], .string k1, .string k2, .string k3_] ?_
    with_reducible refine (find18_calls A0 n0 c0 A1 c1 l A2 n2 c2 A3 n3 c3 p q k1 k2 k3_ _ (Kd.C_below HC.out B0.out)).mono ?_
    rintro e v6 ⟨nf, rfl, hf, hb⟩
    refine ⟨_, rfl, ?_⟩
    replace B0 := bb B0 hb
    replace BL := bb BL hb
    replace K_b2 := kb K_b2 hb
    replace K_b3 := kb K_b3 hb
    replace K_b4 := kb K_b4 hb
    have HF := Aside0.mk hf
    clear hb hf
    refine hK.out _ _ ⟨(blk_cell K_b2.out 0).trans rfl, (blk_cell K_b2.out 1).trans rfl, (blk_cell K_b2.out 2).trans rfl, (blk_cell K_b2.out 3).trans rfl, (blk_cell K_b2.out 4).trans rfl, (blk_cell K_b2.out 5).trans rfl, (BL.out.cell (World.block_lt_of_cell? v4 _ Q0.out)).trans Q0.out, (BL.out.cell (World.block_lt_of_cell? v4 _ Q1.out)).trans Q1.out, (BL.out.cell (World.block_lt_of_cell? v4 _ Q2.out)).trans Q2.out⟩ (fun hHeld => ?_)
    clear hK K
    refine norm_ (a' := ?_) ?_ ?_
    rotate_left
    · show Act.put _ (some 33) _ = _
      simp only [Act.put, List.setIfInBounds_toArray, List.set_cons_zero, List.set_cons_succ, i64_w, i32_w]
      rfl
    refine pw 17 7 (M 18 262143) ?_
    refine done_ (by kernel_rfl) ?_
    obtain ⟨hf⟩ := HF
    rcases hf with ⟨rfl, hn⟩ | ⟨j, hj, rfl, hs⟩
    · have HN2 : Aside0 (((ladL L S R).take (i + 1)).findSome? (rowOf l) = none) := ⟨find_none _ _ i hil HN.out (by rw [KY.out]; exact hn)⟩
      clear hn
      go_wp2
      go_roundw
      case rel => exact ⟨i + 1, by simp, by omega, HN2, B0, BL, K_b2, K_b3, K_b4⟩
      case measure => simp [intOf]; omega
    · have hmaxl := Kd.C_max HC.out
      obtain ⟨x, hx⟩ : ∃ x, l[j]'hj = x := ⟨_, rfl⟩
      have HM := Aside0.mk (max_at l L S R x ((find_some _ _ i hil HN.out (by rw [KY.out]; exact hs)).trans (congrArg some hx)))
      obtain ⟨a2, e2, t0, t1, t2, t3, t4, t5⟩ := at_T66 HC.out (j : Int) (by omega) (by omega)
      have hx2 : rd_T66 l (j : Int) = x := by rw [← hx]; simp [rd_T66, List.getD_eq_getElem?_getD, List.getElem?_eq_getElem hj]
      rw [hx2] at t0 t1 t2 t3 t4 t5
      simp only [Int.toNat_natCast] at t0 t1 t2 t3 t4 t5
      cases e2
      replace t0 := (B0.out.cell (World.block_lt_of_cell? w _ t0)).trans t0
      replace t1 := (B0.out.cell (World.block_lt_of_cell? w _ t1)).trans t1
      replace t2 := (B0.out.cell (World.block_lt_of_cell? w _ t2)).trans t2
      replace t3 := (B0.out.cell (World.block_lt_of_cell? w _ t3)).trans t3
      replace t4 := (B0.out.cell (World.block_lt_of_cell? w _ t4)).trans t4
      replace t5 := (B0.out.cell (World.block_lt_of_cell? w _ t5)).trans t5
      clear hx hx2 hs hi hmx HN KY Q0 Q1 Q2
      obtain ⟨y_b2_0, y_b2_1, y_b2_2, y_b2_3, y_b2_4, y_b2_5⟩ := cz6 K_b2.out
      go_upto_if 43 with (first
       | ((with_reducible refine gate_dst (N := 8) rfl ?_); refine be 8 #[.string ⟨#[]⟩, .string ⟨#[]⟩, .string ⟨#[]⟩, .string ⟨#[]⟩, .string ⟨#[]⟩, .string ⟨#[]⟩] 66 ?_; intro b8 hg v7 hbox hb; clear y_b2_0 y_b2_1 y_b2_2 y_b2_3 y_b2_4 y_b2_5 t0 t1 t2 t3 t4 t5; have N_b2_b8 := kn K_b2 hg; have N_b3_b8 := kn K_b3 hg; have N_b4_b8 := kn K_b4 hg; have G_b8 := Aside0.mk (show v4.heap.size ≤ b8 by rw [hg]; exact BL.out.size); replace B0 := bb B0 hb; replace BL := bb BL hb; replace K_b2 := kb K_b2 hb; replace K_b3 := kb K_b3 hb; replace K_b4 := kb K_b4 hb; have K_b8 := Aside0.mk hbox; clear hb hbox hg)
       | ((with_reducible refine gate_ (.store 66 (.tmp 8) (.tmp 40)) rfl ?_); refine pe b8 0 #[.string x.f0, .string x.f1, .string x.f2, .string x.f3, .string x.f4, .string x.f5] [.string x.f0, .string x.f1, .string x.f2, .string x.f3, .string x.f4, .string x.f5] K_b8.out ?_; intro v8 hk hp; replace B0 := bp B0 hp (Nat.le_trans SL.out G_b8.out); replace BL := bp BL hp G_b8.out; replace K_b2 := kp K_b2 hp N_b2_b8.out; replace K_b3 := kp K_b3 hp N_b3_b8.out; replace K_b4 := kp K_b4 hp N_b4_b8.out; replace K_b8 := Aside0.mk hk; clear hk hp; obtain ⟨y_b3_0, y_b3_1, y_b3_2, y_b3_3, y_b3_4, y_b3_5, y_b3_6, y_b3_7⟩ := cz8 K_b3.out; obtain ⟨y_b8_0, y_b8_1, y_b8_2, y_b8_3, y_b8_4, y_b8_5⟩ := cz6 K_b8.out))
      clear y_b3_0 y_b3_1 y_b3_2 y_b3_3 y_b3_4 y_b3_5 y_b3_6 y_b3_7 y_b8_0 y_b8_1 y_b8_2 y_b8_3 y_b8_4 y_b8_5
      obtain ⟨L1, hL1⟩ : ∃ y, y = if L = undB then x.f3 else L := ⟨_, rfl⟩
      have HL1 := Aside0.mk hL1
      clear hL1
      go_cut [] (fun wr => Aside0 (Below w.heap.size w wr) ∧ Aside0 (wr.heap[b3]? = some (.cells #[.string L1, .slice E0 m0 d0, .string S, .string R, .slice E1 m1 d1, .slice E2 m2 d2, .slice E3 m3 d3, .string G] 44 (0, 0))) ∧ Aside0 (wr.heap[b4]? = some (.cells #[.string ⟨#[]⟩, .slice none 0 0, .string ⟨#[]⟩, .string ⟨#[]⟩, .slice none 0 0, .slice none 0 0, .slice none 0 0, .string ⟨#[]⟩, .bool false] 91 (0, 0))) ∧ Aside0 (wr.heap[b8]? = some (.cells #[.string x.f0, .string x.f1, .string x.f2, .string x.f3, .string x.f4, .string x.f5] 66 (0, 0))))
      case first =>
       by_cases hu : L = undB
       · have hL1 := HL1.out
         rw [if_pos hu] at hL1
         clear HL1
         have q1 := un_t hu
         rw [q1]
         subst hL1
         clear hu
         obtain ⟨y_b3_0, y_b3_1, y_b3_2, y_b3_3, y_b3_4, y_b3_5, y_b3_6, y_b3_7⟩ := cz8 K_b3.out
         obtain ⟨y_b8_0, y_b8_1, y_b8_2, y_b8_3, y_b8_4, y_b8_5⟩ := cz6 K_b8.out
         go_wp2_with (first
          | ((with_reducible refine gate_ (.store 9 (.tmp 46) (.tmp 45)) rfl ?_); refine pe b3 0 #[.string x.f3, .slice E0 m0 d0, .string S, .string R, .slice E1 m1 d1, .slice E2 m2 d2, .slice E3 m3 d3, .string G] [.string x.f3] K_b3.out ?_; intro v9 hk hp; clear y_b3_0 y_b3_1 y_b3_2 y_b3_3 y_b3_4 y_b3_5 y_b3_6 y_b3_7 y_b8_0 y_b8_1 y_b8_2 y_b8_3 y_b8_4 y_b8_5; replace B0 := bp B0 hp G_b3.out; replace K_b4 := kp K_b4 hp (Ne.symm N_b3_b4.out); replace K_b8 := kp K_b8 hp (Ne.symm N_b3_b8.out); replace K_b3 := Aside0.mk hk; clear hk hp))
         go_meet
         exact ⟨B0, K_b3, K_b4, K_b8⟩
       · have hL1 := HL1.out
         rw [if_neg hu] at hL1
         clear HL1
         have q1 := un_f hu
         rw [q1]
         subst hL1
         clear hu
         go_wp2
         go_meet
         exact ⟨B0, K_b3, K_b4, K_b8⟩
      case rest =>
      clear B0 K_b3 K_b4 K_b8 BL K_b2
      obtain ⟨B0, K_b3, K_b4, K_b8⟩ := hcut
      generalize wc = y0 at *
      obtain ⟨y_b3_0, y_b3_1, y_b3_2, y_b3_3, y_b3_4, y_b3_5, y_b3_6, y_b3_7⟩ := cz8 K_b3.out
      go_upto_if 49 with fail
      clear y_b3_0 y_b3_1 y_b3_2 y_b3_3 y_b3_4 y_b3_5 y_b3_6 y_b3_7
      obtain ⟨S1, hS1⟩ : ∃ y, y = if S = empS then x.f4 else S := ⟨_, rfl⟩
      have HS1 := Aside0.mk hS1
      clear hS1
      go_cut [] (fun wr => Aside0 (Below w.heap.size w wr) ∧ Aside0 (wr.heap[b3]? = some (.cells #[.string L1, .slice E0 m0 d0, .string S1, .string R, .slice E1 m1 d1, .slice E2 m2 d2, .slice E3 m3 d3, .string G] 44 (0, 0))) ∧ Aside0 (wr.heap[b4]? = some (.cells #[.string ⟨#[]⟩, .slice none 0 0, .string ⟨#[]⟩, .string ⟨#[]⟩, .slice none 0 0, .slice none 0 0, .slice none 0 0, .string ⟨#[]⟩, .bool false] 91 (0, 0))) ∧ Aside0 (wr.heap[b8]? = some (.cells #[.string x.f0, .string x.f1, .string x.f2, .string x.f3, .string x.f4, .string x.f5] 66 (0, 0))))
      case first =>
       by_cases hu : S = empS
       · have hS1 := HS1.out
         rw [if_pos hu] at hS1
         clear HS1
         have q1 := (em_t hu).1
         have q2 := (em_t hu).2
         try rw [q1]
         try rw [q2]
         subst hS1
         clear hu
         obtain ⟨y_b3_0, y_b3_1, y_b3_2, y_b3_3, y_b3_4, y_b3_5, y_b3_6, y_b3_7⟩ := cz8 K_b3.out
         obtain ⟨y_b8_0, y_b8_1, y_b8_2, y_b8_3, y_b8_4, y_b8_5⟩ := cz6 K_b8.out
         go_wp2_with (first
          | ((with_reducible refine gate_ (.store 9 (.tmp 52) (.tmp 51)) rfl ?_); refine pe b3 2 #[.string L1, .slice E0 m0 d0, .string x.f4, .string R, .slice E1 m1 d1, .slice E2 m2 d2, .slice E3 m3 d3, .string G] [.string x.f4] K_b3.out ?_; intro v10 hk hp; clear y_b3_0 y_b3_1 y_b3_2 y_b3_3 y_b3_4 y_b3_5 y_b3_6 y_b3_7 y_b8_0 y_b8_1 y_b8_2 y_b8_3 y_b8_4 y_b8_5; replace B0 := bp B0 hp G_b3.out; replace K_b4 := kp K_b4 hp (Ne.symm N_b3_b4.out); replace K_b8 := kp K_b8 hp (Ne.symm N_b3_b8.out); replace K_b3 := Aside0.mk hk; clear hk hp))
         go_meet
         exact ⟨B0, K_b3, K_b4, K_b8⟩
       · have hS1 := HS1.out
         rw [if_neg hu] at hS1
         clear HS1
         have q1 := (em_f hu).1
         have q2 := (em_f hu).2
         try rw [q1]
         try rw [q2]
         subst hS1
         clear hu
         go_wp2
         go_meet
         exact ⟨B0, K_b3, K_b4, K_b8⟩
      case rest =>
      clear B0 K_b3 K_b4 K_b8
      obtain ⟨B0, K_b3, K_b4, K_b8⟩ := hcut
      generalize wc = y1 at *
      obtain ⟨y_b3_0, y_b3_1, y_b3_2, y_b3_3, y_b3_4, y_b3_5, y_b3_6, y_b3_7⟩ := cz8 K_b3.out
      go_upto_if 55 with fail
      clear y_b3_0 y_b3_1 y_b3_2 y_b3_3 y_b3_4 y_b3_5 y_b3_6 y_b3_7
      obtain ⟨R1, hR1⟩ : ∃ y, y = if R = empS then x.f5 else R := ⟨_, rfl⟩
      have HR1 := Aside0.mk hR1
      clear hR1
      go_cut [] (fun wr => Aside0 (Below w.heap.size w wr) ∧ Aside0 (wr.heap[b3]? = some (.cells #[.string L1, .slice E0 m0 d0, .string S1, .string R1, .slice E1 m1 d1, .slice E2 m2 d2, .slice E3 m3 d3, .string G] 44 (0, 0))) ∧ Aside0 (wr.heap[b4]? = some (.cells #[.string ⟨#[]⟩, .slice none 0 0, .string ⟨#[]⟩, .string ⟨#[]⟩, .slice none 0 0, .slice none 0 0, .slice none 0 0, .string ⟨#[]⟩, .bool false] 91 (0, 0))) ∧ Aside0 (wr.heap[b8]? = some (.cells #[.string x.f0, .string x.f1, .string x.f2, .string x.f3, .string x.f4, .string x.f5] 66 (0, 0))))
      case first =>
       by_cases hu : R = empS
       · have hR1 := HR1.out
         rw [if_pos hu] at hR1
         clear HR1
         have q1 := (em_t hu).1
         have q2 := (em_t hu).2
         try rw [q1]
         try rw [q2]
         subst hR1
         clear hu
         obtain ⟨y_b3_0, y_b3_1, y_b3_2, y_b3_3, y_b3_4, y_b3_5, y_b3_6, y_b3_7⟩ := cz8 K_b3.out
         obtain ⟨y_b8_0, y_b8_1, y_b8_2, y_b8_3, y_b8_4, y_b8_5⟩ := cz6 K_b8.out
         go_wp2_with (first
          | ((with_reducible refine gate_ (.store 9 (.tmp 58) (.tmp 57)) rfl ?_); refine pe b3 3 #[.string L1, .slice E0 m0 d0, .string S1, .string x.f5, .slice E1 m1 d1, .slice E2 m2 d2, .slice E3 m3 d3, .string G] [.string x.f5] K_b3.out ?_; intro v11 hk hp; clear y_b3_0 y_b3_1 y_b3_2 y_b3_3 y_b3_4 y_b3_5 y_b3_6 y_b3_7 y_b8_0 y_b8_1 y_b8_2 y_b8_3 y_b8_4 y_b8_5; replace B0 := bp B0 hp G_b3.out; replace K_b4 := kp K_b4 hp (Ne.symm N_b3_b4.out); replace K_b8 := kp K_b8 hp (Ne.symm N_b3_b8.out); replace K_b3 := Aside0.mk hk; clear hk hp))
         go_meet
         exact ⟨B0, K_b3, K_b4, K_b8⟩
       · have hR1 := HR1.out
         rw [if_neg hu] at hR1
         clear HR1
         have q1 := (em_f hu).1
         have q2 := (em_f hu).2
         try rw [q1]
         try rw [q2]
         subst hR1
         clear hu
         go_wp2
         go_meet
         exact ⟨B0, K_b3, K_b4, K_b8⟩
      case rest =>
      clear B0 K_b3 K_b4 K_b8
      obtain ⟨B0, K_b3, K_b4, K_b8⟩ := hcut
      generalize wc = y2 at *
      obtain ⟨y_b3_0, y_b3_1, y_b3_2, y_b3_3, y_b3_4, y_b3_5, y_b3_6, y_b3_7⟩ := cz8 K_b3.out
      go_wp2_with (first
       | ((with_reducible refine gate_ (.store 91 (.tmp 4) (.tmp 60)) rfl ?_); refine pe b4 0 #[.string L1, .slice E0 m0 d0, .string S1, .string R1, .slice E1 m1 d1, .slice E2 m2 d2, .slice E3 m3 d3, .string G, .bool true] [.string L1, .slice E0 m0 d0, .string S1, .string R1, .slice E1 m1 d1, .slice E2 m2 d2, .slice E3 m3 d3, .string G, .bool true] K_b4.out ?_; intro v12 hk hp; clear y_b3_0 y_b3_1 y_b3_2 y_b3_3 y_b3_4 y_b3_5 y_b3_6 y_b3_7; replace B0 := bp B0 hp G_b4.out; replace K_b3 := kp K_b3 hp N_b3_b4.out; replace K_b8 := kp K_b8 hp (Ne.symm N_b4_b8.out); replace K_b4 := Aside0.mk hk; clear hk hp))
      refine bodyPost_ret (results_cell_row rfl _ _ b4 91 #[.string L1, .slice E0 m0 d0, .string S1, .string R1, .slice E1 m1 d1, .slice E2 m2 d2, .slice E3 m3 d3, .string G, .bool true] (0, 0) _ rfl K_b4.out hu91 rfl (by kernel_rfl)) rfl ?_
      rw [HM.out]
      refine ⟨?_, B0.out⟩
      rw [HL1.out, HS1.out, HR1.out]
      rfl
  · obtain rfl : i = lad.length := by omega
    have dl1 : decide (((lad.length : Nat) : Int) < (lad.length : Int)) = false := decide_eq_false (by omega)
    have hN := HN.out
    rw [List.take_of_length_le (by have := HLL.out; omega)] at hN
    have HM := Aside0.mk (max_not l L S R hN)
    clear hN HN
    clear BL K_b2
    obtain ⟨y_b3_0, y_b3_1, y_b3_2, y_b3_3, y_b3_4, y_b3_5, y_b3_6, y_b3_7⟩ := cz8 K_b3.out
    go_wp2_with (first
     | ((with_reducible refine gate_ (.store 91 (.tmp 4) (.tmp 62)) rfl ?_); refine pe b4 0 #[.string L, .slice E0 m0 d0, .string S, .string R, .slice E1 m1 d1, .slice E2 m2 d2, .slice E3 m3 d3, .string G, .bool false] [.string L, .slice E0 m0 d0, .string S, .string R, .slice E1 m1 d1, .slice E2 m2 d2, .slice E3 m3 d3, .string G, .bool false] K_b4.out ?_; intro v13 hk hp; clear y_b3_0 y_b3_1 y_b3_2 y_b3_3 y_b3_4 y_b3_5 y_b3_6 y_b3_7; replace B0 := bp B0 hp G_b4.out; replace K_b3 := kp K_b3 hp N_b3_b4.out; replace K_b4 := Aside0.mk hk; clear hk hp))
    refine bodyPost_ret (results_cell_row rfl _ _ b4 91 #[.string L, .slice E0 m0 d0, .string S, .string R, .slice E1 m1 d1, .slice E2 m2 d2, .slice E3 m3 d3, .string G, .bool false] (0, 0) _ rfl K_b4.out hu91 rfl (by kernel_rfl)) rfl ?_
    rw [HM.out]
    exact ⟨rfl, B0.out⟩
theorem max18_n (A0 : Option Addr) (n0 c0 : Nat) (A1 : Option Addr) (c1 : Nat) (l : List S66) (A2 : Option Addr) (n2 c2 : Nat) (A3 : Option Addr) (n3 c3 : Nat) (p q : Int) (L S R G : ByteArray) (E0 : Option Addr) (m0 d0 : Nat) (E1 : Option Addr) (m1 d1 : Nat) (E2 : Option Addr) (m2 d2 : Nat) (E3 : Option Addr) (m3 d3 : Nat) (k1 k2 k3_ : ByteArray) (kbo : Bool) (h : maxP l (L, S, R) = ((k1, k2, k3_), kbo)) (w : World) (hC : Kd.C k66 w A1 l.length l) : Calls Try.prog 54 #[.agg #[.slice A0 n0 c0, .slice A1 l.length c1, .slice A2 n2 c2, .slice A3 n3 c3, .int .i64 p, .int .i64 q], .agg #[.string L, .slice E0 m0 d0, .string S, .string R, .slice E1 m1 d1, .slice E2 m2 d2, .slice E3 m3 d3, .string G]] w fun e w' => e = .returned (.agg #[.string k1, .slice E0 m0 d0, .string k2, .string k3_, .slice E1 m1 d1, .slice E2 m2 d2, .slice E3 m3 d3, .string G, .bool kbo]) ∧ Below w.heap.size w w' := by
 have := max18_calls A0 n0 c0 A1 c1 l A2 n2 c2 A3 n3 c3 p q L S R G E0 m0 d0 E1 m1 d1 E2 m2 d2 E3 m3 d3 w hC
 rw [h] at this
 exact this
set_option maxRecDepth 100000 in
set_option maxHeartbeats 4000000 in
theorem places22_calls (A0 : Option Addr) (n0 c0 : Nat) (A1 : Option Addr) (c1 : Nat) (l : List S66) (A2 : Option Addr) (n2 c2 : Nat) (A3 : Option Addr) (n3 c3 : Nat) (p q : Int) (L S R G : ByteArray) (E0 : Option Addr) (m0 d0 : Nat) (E1 : Option Addr) (m1 d1 : Nat) (E2 : Option Addr) (m2 d2 : Nat) (E3 : Option Addr) (m3 d3 : Nat) (w : World) (hC : Kd.C k66 w A1 l.length l) : Calls Try.prog 41 #[.agg #[.slice A0 n0 c0, .slice A1 l.length c1, .slice A2 n2 c2, .slice A3 n3 c3, .int .i64 p, .int .i64 q], .agg #[.string L, .slice E0 m0 d0, .string S, .string R, .slice E1 m1 d1, .slice E2 m2 d2, .slice E3 m3 d3, .string G]] w fun e w' => e = .returned (.agg #[.string (plP l (L, S, R)).1, .string (plP l (L, S, R)).2.1, .string (plP l (L, S, R)).2.2]) ∧ Below w.heap.size w w' := by
 have hu39 := Try.underlying39
 have hu44 := Try.underlying44
 have hu30 := Try.underlying30
 have hu91 := Try.underlying91
 obtain ⟨⟨⟨k1, k2, k3_⟩, kbo⟩, hmx⟩ : ∃ m, maxP l (L, S, R) = m := ⟨_, rfl⟩
 have hpl : plP l (L, S, R) = (k1, k2, k3_) := by unfold plP; rw [hmx]
 rw [hpl]
 have HMX := Aside0.mk hmx
 have hf91 : ∀ (W : World), (Instr.field 91 (.agg #[.string k1, .slice E0 m0 d0, .string k2, .string k3_, .slice E1 m1 d1, .slice E2 m2 d2, .slice E3 m3 d3, .string G, .bool kbo]) 0).run Try.prog W = .ok (.agg #[.string k1, .slice E0 m0 d0, .string k2, .string k3_, .slice E1 m1 d1, .slice E2 m2 d2, .slice E3 m3 d3, .string G]) W := by intros; kernel_rfl
 have HC := Aside0.mk hC
 have B0 := Aside0.mk (Below.refl w.heap.size w)
 clear hC hmx hpl
 go_enter Try.func41, Try.ntmps41
 go_wp2_with (first
  | ((with_reducible refine gate_dst (N := 2) rfl ?_); refine be 2 #[.slice A0 n0 c0, .slice A1 l.length c1, .slice A2 n2 c2, .slice A3 n3 c3, .int .i64 p, .int .i64 q] 39 ?_; intro b2 hg v1 hbox hb; have G_b2 := Aside0.mk (show w.heap.size ≤ b2 by rw [hg]; exact B0.out.size); replace B0 := bb B0 hb; have K_b2 := Aside0.mk hbox; clear hb hbox hg)
  | ((with_reducible refine gate_dst (N := 3) rfl ?_); refine be 3 #[.string L, .slice E0 m0 d0, .string S, .string R, .slice E1 m1 d1, .slice E2 m2 d2, .slice E3 m3 d3, .string G] 44 ?_; intro b3 hg v2 hbox hb; have N_b2_b3 := kn K_b2 hg; have G_b3 := Aside0.mk (show w.heap.size ≤ b3 by rw [hg]; exact B0.out.size); replace B0 := bb B0 hb; replace K_b2 := kb K_b2 hb; have K_b3 := Aside0.mk hbox; clear hb hbox hg)
  | ((with_reducible refine gate_dst (N := 4) rfl ?_); refine be 4 #[.string ⟨#[]⟩, .string ⟨#[]⟩, .string ⟨#[]⟩] 30 ?_; intro b4 hg v3 hbox hb; have N_b2_b4 := kn K_b2 hg; have N_b3_b4 := kn K_b3 hg; have G_b4 := Aside0.mk (show w.heap.size ≤ b4 by rw [hg]; exact B0.out.size); replace B0 := bb B0 hb; replace K_b2 := kb K_b2 hb; replace K_b3 := kb K_b3 hb; have K_b4 := Aside0.mk hbox; clear hb hbox hg; obtain ⟨y_b2_0, y_b2_1, y_b2_2, y_b2_3, y_b2_4, y_b2_5⟩ := cz6 K_b2.out; obtain ⟨y_b3_0, y_b3_1, y_b3_2, y_b3_3, y_b3_4, y_b3_5, y_b3_6, y_b3_7⟩ := cz8 K_b3.out)
  | ((with_reducible refine gate_callee (f := 54) rfl ?_); refine goesL_ (some 8) rfl rfl Try.func54 (by kernel_rfl) rfl #[.agg #[.slice A0 n0 c0, .slice A1 l.length c1, .slice A2 n2 c2, .slice A3 n3 c3, .int .i64 p, .int .i64 q], .agg #[.string L, .slice E0 m0 d0, .string S, .string R, .slice E1 m1 d1, .slice E2 m2 d2, .slice E3 m3 d3, .string G]] rfl mq ?_; (with_reducible refine (max18_n A0 n0 c0 A1 c1 l A2 n2 c2 A3 n3 c3 p q L S R G E0 m0 d0 E1 m1 d1 E2 m2 d2 E3 m3 d3 k1 k2 k3_ kbo HMX.out _ (Kd.C_below HC.out B0.out)).mono ?_); rintro e v4 ⟨rfl, hb⟩; refine ⟨_, rfl, ?_⟩; clear y_b2_0 y_b2_1 y_b2_2 y_b2_3 y_b2_4 y_b2_5 y_b3_0 y_b3_1 y_b3_2 y_b3_3 y_b3_4 y_b3_5 y_b3_6 y_b3_7; replace B0 := bb B0 hb; replace K_b2 := kb K_b2 hb; replace K_b3 := kb K_b3 hb; replace K_b4 := kb K_b4 hb; clear hb)
  | ((with_reducible refine gate_dst (N := 5) rfl ?_); refine be 5 #[.string ⟨#[]⟩, .slice none 0 0, .string ⟨#[]⟩, .string ⟨#[]⟩, .slice none 0 0, .slice none 0 0, .slice none 0 0, .string ⟨#[]⟩] 44 ?_; intro b5 hg v5 hbox hb; have N_b2_b5 := kn K_b2 hg; have N_b3_b5 := kn K_b3 hg; have N_b4_b5 := kn K_b4 hg; have G_b5 := Aside0.mk (show w.heap.size ≤ b5 by rw [hg]; exact B0.out.size); replace B0 := bb B0 hb; replace K_b2 := kb K_b2 hb; replace K_b3 := kb K_b3 hb; replace K_b4 := kb K_b4 hb; have K_b5 := Aside0.mk hbox; clear hb hbox hg)
  | ((with_reducible refine gate_ (.store 44 (.tmp 5) (.tmp 9)) rfl ?_); refine pe b5 0 #[.string k1, .slice E0 m0 d0, .string k2, .string k3_, .slice E1 m1 d1, .slice E2 m2 d2, .slice E3 m3 d3, .string G] [.string k1, .slice E0 m0 d0, .string k2, .string k3_, .slice E1 m1 d1, .slice E2 m2 d2, .slice E3 m3 d3, .string G] K_b5.out ?_; intro v6 hk hp; replace B0 := bp B0 hp G_b5.out; replace K_b2 := kp K_b2 hp N_b2_b5.out; replace K_b3 := kp K_b3 hp N_b3_b5.out; replace K_b4 := kp K_b4 hp N_b4_b5.out; replace K_b5 := Aside0.mk hk; clear hk hp; obtain ⟨y_b5_0, y_b5_1, y_b5_2, y_b5_3, y_b5_4, y_b5_5, y_b5_6, y_b5_7⟩ := cz8 K_b5.out)
  | ((with_reducible refine gate_ (.store 30 (.tmp 4) (.tmp 16)) rfl ?_); refine pe b4 0 #[.string k1, .string k2, .string k3_] [.string k1, .string k2, .string k3_] K_b4.out ?_; intro v7 hk hp; clear y_b5_0 y_b5_1 y_b5_2 y_b5_3 y_b5_4 y_b5_5 y_b5_6 y_b5_7; replace B0 := bp B0 hp G_b4.out; replace K_b2 := kp K_b2 hp N_b2_b4.out; replace K_b3 := kp K_b3 hp N_b3_b4.out; replace K_b5 := kp K_b5 hp (Ne.symm N_b4_b5.out); replace K_b4 := Aside0.mk hk; clear hk hp))
 refine bodyPost_ret (results_cell_row rfl _ _ b4 30 #[.string k1, .string k2, .string k3_] (0, 0) _ rfl K_b4.out hu30 rfl (by kernel_rfl)) rfl ?_
 exact ⟨rfl, B0.out⟩
end Go.Proofs.Ytdjbanhoejegjaa.LikW
