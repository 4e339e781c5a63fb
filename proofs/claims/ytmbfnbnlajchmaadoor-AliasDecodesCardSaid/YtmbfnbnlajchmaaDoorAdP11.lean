/- Made by a program of this seat's own (myprint.py, round the kit's print): what the functions compute, and that they do. -/
import Derived.Test.YtmbfnbnlajchmaaDoorAdP0
import Derived.Test.YtmbfnbnlajchmaaDoorAdP10
import Derived.Test.YtmbfnbnlajchmaaDoorAdTight
namespace Go.Proofs.YtmbfnbnlajchmaaDoor.P
open Go.RowKit Go.Proofs.YtmbfnbnlajchmaaDoorW.PrintWords Go.Proofs.YtmbfnbnlajchmaaDoorW.PrintLast Go.Proofs.YtmbfnbnlajchmaaDoorW.PrintMore
attribute [local go_sem] StrOrd.binOp_gtr StrOrd.binOp_leq max2_int min2_int max_two min_two max_three min_three max_four min_four   -- for this text's walks alone
set_option linter.unusedVariables false
set_option linter.unusedSimpArgs false

def pack_Pack.f (a0 : ByteArray) : Option (Int × Bool) := if a0.size ≤ 140737488351232 then some (PackW.packT (strOfNums (Each.eachF Each.lowF a0))) else none
theorem pack_Pack.calls (a0 : ByteArray) (r1 : Int) (r2 : Bool) (w : World) (h : pack_Pack.f a0 = some (r1, r2)) :
    Calls Tryd.prog 67 #[.string a0] w fun e w' => e = .returned (.tuple #[.int .u64 r1, .bool r2]) ∧ Below w.heap.size w w' := by
  unfold pack_Pack.f at h
  by_cases hs : a0.size ≤ 140737488351232
  · rw [if_pos hs] at h
    have e := Option.some.inj h
    exact PackW.pack_any a0 w hs (r1, r2) e.symm
  · rw [if_neg hs] at h
    cases h

def pack_Put.l0 : Nat → Int → Int → List Int → Int → Int → Option (ByteArray)
 | 0, _, _, _, _, _ => none
 | k + 1, x0, x1, x5, x12, x13 => if x13 < x12 then (if 0 ≤ (wrap64 (8 * x13)) then (if 0 ≤ (wrap64 ((wrap64 (x1 - 1)) - x13)) then (if (wrap64 ((wrap64 (x1 - 1)) - x13)) < (x5.length : Int) then (pack_Put.l0 k x0 x1 (x5.set ((wrap64 ((wrap64 (x1 - 1)) - x13)) : Int).toNat ((shr .u64 x0 (wrap64 (8 * x13))) % 256)) x12 (wrap64 (x13 + 1))) else (none)) else (none)) else (none)) else (some (strOfNums x5))
def pack_Put.f (k : Nat) (a0 : Int) (a1 : Int) : Option (ByteArray) := if 0 ≤ (mx 0 (mn a1 8)) then (if (mx 0 (mn a1 8) : Int).toNat ≤ 281474976710656 then (pack_Put.l0 k a0 (mx 0 (mn a1 8)) (List.replicate (mx 0 (mn a1 8) : Int).toNat 0) (mx 0 (mn a1 8)) 0) else (none)) else (none)
set_option maxHeartbeats 8000000 in
set_option maxRecDepth 100000 in
theorem pack_Put.calls (k : Nat) (a0 : Int) (a1 : Int) (r : ByteArray) (w : World) (h : pack_Put.f k a0 a1 = some r) :
  Calls Tryd.prog 68 #[.int .u64 a0, .int .i64 a1] w fun e w' => e = .returned (.string r) ∧ Below w.heap.size w w' := by
 have HB := ak (Below.refl w.heap.size w)
 have H : (if 0 ≤ (mx 0 (mn a1 8)) then (if (mx 0 (mn a1 8) : Int).toNat ≤ 281474976710656 then (pack_Put.l0 k a0 (mx 0 (mn a1 8)) (List.replicate (mx 0 (mn a1 8) : Int).toNat 0) (mx 0 (mn a1 8)) 0) else (none)) else (none)) = some r := h
 clear h
 obtain ⟨ji3, hji3⟩ : ∃ j_ : Int, (mn a1 8) = j_ := ⟨_, rfl⟩
 replace H : (if 0 ≤ (mx 0 (ji3)) then (if (mx 0 (ji3) : Int).toNat ≤ 281474976710656 then (pack_Put.l0 k a0 (mx 0 (ji3)) (List.replicate (mx 0 (ji3) : Int).toNat 0) (mx 0 (ji3)) 0) else (none)) else (none)) = some r := by first | (rw [hji3] at H; exact H) | (simp only [hji3] at H ⊢; exact H)
 (try (have hji3h : ji3 ≤ 8 := by (rw [← hji3]; unfold mn; (repeat' split) <;> omega)))
 (try (have hji3g : ji3 ≤ 64 := by omega))
 have hji3_ : (if 8 < a1 then 8 else a1) = ji3 := hji3
 obtain ⟨ji4, hji4⟩ : ∃ j_ : Int, (mx 0 (ji3)) = j_ := ⟨_, rfl⟩
 replace H : (if 0 ≤ (ji4) then (if (ji4 : Int).toNat ≤ 281474976710656 then (pack_Put.l0 k a0 ji4 (List.replicate (ji4 : Int).toNat 0) ji4 0) else (none)) else (none)) = some r := by first | (rw [hji4] at H; exact H) | (simp only [hji4] at H ⊢; exact H)
 have hji4_ : (if 0 < (ji3) then (ji3) else 0) = ji4 := hji4
 by_cases c5 : 0 ≤ (ji4)
 ·
  rw [if_pos c5] at H
  have c5b0 := eq_true c5
  have c5b1 : decide (0 ≤ (ji4)) = true := decide_eq_true c5
  clear c5
  by_cases c6 : (ji4 : Int).toNat ≤ 281474976710656
  ·
   rw [if_pos c6] at H
   have c6b0 := eq_true c6
   have c6b1 : decide ((ji4 : Int).toNat ≤ 281474976710656) = true := decide_eq_true c6
   clear c6
   obtain ⟨y309, hy309⟩ : ∃ y_ : List Int, y_ = (List.replicate (ji4 : Int).toNat 0) := ⟨_, rfl⟩
   replace H : (pack_Put.l0 k a0 ji4 y309 ji4 0) = some r := by first | (rw [hy309]; with_reducible exact H) | (have H2_ := (Option.bind_some _ _).symm.trans H; rw [hy309]; with_reducible exact H2_) | (have H2_ := (Option.bind_some _ _).symm.trans H; with_reducible exact H2_) | with_reducible exact H | (rw [hy309]; exact H) | exact H
   have Ny309 := ak hy309
   clear hy309
   have H' := ak H
   clear H
   go_enter Tryd.func68, Tryd.ntmps68
   go_wp2_with (first | ((with_reducible refine gate_dst (N := 11) rfl ?_); refine Kd.R_make (Kd.int .u8) _ 5 rfl (N := 11) rfl 28 _ _ rfl ji4 rfl rfl Tryd.underlying28 (.int .u8 0) 1 info5 rfl (by decide) (by omega) 0 (ok := fun _ => True) (okp := fun _ => True) rfl (fun _ hk => hk) trivial (of_decide_eq_true (by first | (with_reducible assumption) | assumption)) (Nat.le_trans (Nat.mul_le_mul_right _ (of_decide_eq_true (by first | (with_reducible assumption) | assumption) : ji4.toNat ≤ 281474976710656)) (by omega)) (Below.refl _ _) (Nat.le_refl _) ?_; intro v310 w7 ho8 hb hg_ hnew_; clear hg_ hnew_; (first | rw [← Ny309.out] at ho8 | (simp only [Int.reduceToNat] at ho8; rw [← Ny309.out] at ho8)); have n0_ := ak (Kd.R_lower ho8 (below_size bq)); have n1_ := ak (below_step bq hb); clear HB; have HO311 := n0_; have HB := n1_; clear n0_ n1_; clear hb ho8))
   go_loopg [13] k (fun kq v13 w' => ∃ (x5_1 : List Int) (x13_1 : Int), v13 = .int .i64 x13_1 ∧ Aside0 (pack_Put.l0 kq a0 ji4 x5_1 ji4 x13_1 = some r) ∧ Aside0 (kq ≤ k) ∧ Aside0 (Kd.R (Kd.int .u8) 5 w' w.heap.size (fun _ => True) v310 x5_1) ∧ Aside0 (Below w.heap.size w w'))
   case atStart => exact ⟨(y309), (0), (by first | rfl | (simp; done) | (simp [*]; done)), H', ⟨Nat.le_refl _⟩, ⟨(rx HO311.out)⟩, ⟨bq⟩⟩
   case round =>
    clear H'
    try clear hji4_
    try clear hji3h
    try clear hji3g
    try clear hji3_
    try clear hji12_
    try clear p2
    try clear c5
    try clear c5b0
    try clear c5b1
    try clear c6
    try clear c6b0
    try clear c6b1
    obtain ⟨x5_1, x13_1, rfl, HA, HK1, HO_5, HB⟩ := hrel
    cases gk with
    | zero => exact absurd HA.out (by simp [pack_Put.l0])
    | succ k1 =>
     have H := HA.out
     clear HA
     simp only [pack_Put.l0] at H
     by_cases c9 : x13_1 < ji4
     ·
      rw [if_pos c9] at H
      have c9b0 : decide (x13_1 < ji4) = true := decide_eq_true c9
      clear c9
      obtain ⟨ji10, hji10⟩ : ∃ j_ : Int, (wrap64 (8 * x13_1)) = j_ := ⟨_, rfl⟩
      replace H : (if 0 ≤ (ji10) then (if 0 ≤ (wrap64 ((wrap64 (ji4 - 1)) - x13_1)) then (if (wrap64 ((wrap64 (ji4 - 1)) - x13_1)) < (x5_1.length : Int) then (pack_Put.l0 k1 a0 ji4 (x5_1.set ((wrap64 ((wrap64 (ji4 - 1)) - x13_1)) : Int).toNat ((shr .u64 a0 (ji10)) % 256)) ji4 (wrap64 (x13_1 + 1))) else (none)) else (none)) else (none)) = some r := by first | (rw [hji10] at H; exact H) | (simp only [hji10] at H ⊢; exact H)
      have hji10w : (IntKind.i64.wrap (8 * x13_1)) = ji10 := (i64_w _).trans hji10
      by_cases c11 : 0 ≤ (ji10)
      ·
       rw [if_pos c11] at H
       have c11b0 := eq_true c11
       have c11b1 : decide (0 ≤ (ji10)) = true := decide_eq_true c11
       clear c11
       obtain ⟨ji12, hji12⟩ : ∃ j_ : Int, (shr .u64 a0 (ji10)) = j_ := ⟨_, rfl⟩
       replace H : (if 0 ≤ (wrap64 ((wrap64 (ji4 - 1)) - x13_1)) then (if (wrap64 ((wrap64 (ji4 - 1)) - x13_1)) < (x5_1.length : Int) then (pack_Put.l0 k1 a0 ji4 (x5_1.set ((wrap64 ((wrap64 (ji4 - 1)) - x13_1)) : Int).toNat ((ji12) % 256)) ji4 (wrap64 (x13_1 + 1))) else (none)) else (none)) = some r := by first | (rw [hji12] at H; exact H) | (simp only [hji12] at H ⊢; exact H)
       have hji12_ : (a0 / 2 ^ min (ji10).toNat 64) = ji12 := hji12
       have hji12z : (ji10) ≤ 64 → (a0 / 2 ^ (ji10).toNat) = ji12 := shr_small hji12
       obtain ⟨ji13, hji13⟩ : ∃ j_ : Int, (wrap64 ((wrap64 (ji4 - 1)) - x13_1)) = j_ := ⟨_, rfl⟩
       replace H : (if 0 ≤ (ji13) then (if (ji13) < (x5_1.length : Int) then (pack_Put.l0 k1 a0 ji4 (x5_1.set ((ji13) : Int).toNat ((ji12) % 256)) ji4 (wrap64 (x13_1 + 1))) else (none)) else (none)) = some r := by first | (rw [hji13] at H; exact H) | (simp only [hji13] at H ⊢; exact H)
       have hji13w : (IntKind.i64.wrap ((wrap64 (ji4 - 1)) - x13_1)) = ji13 := (i64_w _).trans hji13
       by_cases c14 : 0 ≤ (ji13)
       ·
        rw [if_pos c14] at H
        have c14b0 : decide (0 ≤ (ji13)) = true := decide_eq_true c14
        clear c14
        by_cases c15 : (ji13) < (x5_1.length : Int)
        ·
         rw [if_pos c15] at H
         have c15b0 : decide ((ji13) < (x5_1.length : Int)) = true := decide_eq_true c15
         clear c15
         obtain ⟨y312, hy312⟩ : ∃ y_ : List Int, y_ = (x5_1.set ((ji13) : Int).toNat ((ji12) % 256)) := ⟨_, rfl⟩
         replace H : (pack_Put.l0 k1 a0 ji4 y312 ji4 (wrap64 (x13_1 + 1))) = some r := by first | (rw [hy312]; with_reducible exact H) | (have H2_ := (Option.bind_some _ _).symm.trans H; rw [hy312]; with_reducible exact H2_) | (have H2_ := (Option.bind_some _ _).symm.trans H; with_reducible exact H2_) | with_reducible exact H | (rw [hy312]; exact H) | exact H
         have Ny312 := ak hy312
         clear hy312
         have H' := ak H
         clear H
         have p16 : 0 ≤ ((ji13) : Int) := of_decide_eq_true (by first | (with_reducible assumption) | assumption)
         have q16 : ((ji13) : Int) < ((x5_1.length : Int) : Int) := of_decide_eq_true (by first | (with_reducible assumption) | assumption)
         obtain ⟨go16, co16, eo16, gb16, gl16, cl16, HG16⟩ := Kd.R_form HO_5.out (by omega)
         (first | cases eo16 | (injection eo16 with ea_ en_ ec_; (first | subst ea_ | (injection ea_ with ea_; subst ea_)); subst ec_; clear en_))
         have GB16 := ak gb16
         have GG16 := ak HG16
         clear gb16 gl16 HG16
         obtain ⟨hx16_0, hf16_0⟩ := Kd.R_celln 0 HO_5.out ((ji13) : Int) p16 q16
         replace p16 := eq_true p16
         replace q16 := eq_true q16
         have HP17 := Kd.R_putg HO_5.out ((ji13) : Int) ((ji12) % 256)
         go_wp2_with (first | ((with_reducible refine gate_store (t := 5) (p := 26) rfl ?_); refine store_event (t := 5) (p := 26) (v := ?vo_w18) (w1 := (wr.setCell ⟨go16, ((ji13) : Int).toNat, none⟩ (.int .u8 ((ji12) % 256)))) ?hg ?ho ?hn ?hr ?_; (case ho => rfl); (case hg => rfl); (case hn => rfl); (case hr => first | (go_simp; done) | (go_simp; rfl)); intro w18 hw; have hg : wr.grownBy w18 (some go16) := (by rw [hw]; exact HP17.2); have hp_ : Kd.R (Kd.int .u8) 5 w18 w.heap.size (fun _ => True) (.slice (some ⟨go16, 0, none⟩) x5_1.length co16) y312 := (by rw [hw, Ny312.out]; exact HP17.1); clear HP17; have n0_ := ak (hp_); have n1_ := ak ((by rw [hw]; exact below_set (HB.out) GB16.out : Below w.heap.size w w18)); clear HO_5; clear HB; have HO_5 := n0_; have HB := n1_; clear n0_ n1_; clear hg hw hp_))
         go_roundg k1
         case measure => have := HK1.out; omega
         case rel => exact ⟨(y312), (wrap64 (x13_1 + 1)), (by first | rfl | (simp; done) | (simp [*]; done)), H', ⟨by have := HK1.out; omega⟩, ⟨(rx HO_5.out)⟩, ⟨bq⟩⟩
        ·
         rw [if_neg c15] at H
         exact absurd H (by simp)
       ·
        rw [if_neg c14] at H
        exact absurd H (by simp)
      ·
       rw [if_neg c11] at H
       exact absurd H (by simp)
     ·
      rw [if_neg c9] at H
      have c9b0 : decide (x13_1 < ji4) = false := decide_eq_false c9
      clear c9
      obtain rfl := Option.some.inj H
      have hcv19 := own_string (P := Tryd.prog) Tryd.underlying28 Tryd.underlying5 Tryd.underlying9 (Kd.own_of_R HO_5.out)
      go_wp2
      go_ret
      exact ⟨by first | rfl | (simp [errW_none, errW_some] <;> rfl) | (simp only [← hji3, ← hji4]; first | rfl | (simp [errW_none, errW_some] <;> rfl)) | (simp [*, errW_none, errW_some] <;> rfl), bq⟩
  ·
   rw [if_neg c6] at H
   exact absurd H (by simp)
 ·
  rw [if_neg c5] at H
  exact absurd H (by simp)

def alias_Encode.e (k : Nat) : List ByteArray → ByteArray → Option ByteArray
  | [], o => some o
  | s :: l, o => (pack_Pack.f s).bind fun n => ((pack_Put.f k n.1 8).bind fun p => (if o.size + p.size ≤ 9223372036854775807 then (alias_Encode.e k l (o ++ p)) else none))
def alias_Encode.f (k : Nat) (a0_0 : Int) (a0_1 : ByteArray) (a0_2 : ByteArray) (a0_3 : ByteArray) (a0_4 : ByteArray) (a0_5 : ByteArray) : Option (ByteArray × Bool) := (alias_Right.f k a0_0 a0_1 a0_2 a0_3 a0_4 a0_5).bind fun b => (if b = true then ((alias_Encode.e k [a0_1, a0_2, a0_3, a0_4, a0_5] (strOfNums [a0_0 % 256])).bind fun s => (some (s, true))) else (some (⟨#[]⟩, false)))
set_option maxHeartbeats 4000000 in
set_option maxRecDepth 100000 in
theorem alias_Encode.calls (k : Nat) (a0_0 : Int) (a0_1 : ByteArray) (a0_2 : ByteArray) (a0_3 : ByteArray) (a0_4 : ByteArray) (a0_5 : ByteArray) (r1 : ByteArray) (r2 : Bool) (w : World) (h : alias_Encode.f k a0_0 a0_1 a0_2 a0_3 a0_4 a0_5 = some (r1, r2)) (hG : GrandW.G w) :
    Calls Tryd.prog 36 #[.agg #[.int .i64 a0_0, .string a0_1, .string a0_2, .string a0_3, .string a0_4, .string a0_5]] w fun e w' => e = .returned (.tuple #[.string r1, .bool r2]) ∧ Below w.heap.size w w' := by
  have HG := Aside0.mk hG
  clear hG
  unfold alias_Encode.f at h
  obtain ⟨b, hb, H0⟩ := Option.bind_eq_some_iff.mp h
  clear h
  have AR := Aside0.mk hb
  clear hb
  have hu := Tryd.underlying50
  have BK0 : (w.alloc (.cells #[.int .i64 a0_0, .string a0_1, .string a0_2, .string a0_3, .string a0_4, .string a0_5] 50)).heap[w.heap.size]? = some (.cells #[.int .i64 a0_0, .string a0_1, .string a0_2, .string a0_3, .string a0_4, .string a0_5] 50 (0, 0)) := World.alloc_heap_new w _
  have HB0 : Below w.heap.size w (w.alloc (.cells #[.int .i64 a0_0, .string a0_1, .string a0_2, .string a0_3, .string a0_4, .string a0_5] 50)) := (Below.refl _ w).alloc (Nat.le_refl _) _
  have cz0 : (w.alloc (.cells #[.int .i64 a0_0, .string a0_1, .string a0_2, .string a0_3, .string a0_4, .string a0_5] 50)).cell? ⟨w.heap.size, 0, none⟩ = some (.int .i64 a0_0) := (blk_cell BK0 0).trans rfl
  have cz1 : (w.alloc (.cells #[.int .i64 a0_0, .string a0_1, .string a0_2, .string a0_3, .string a0_4, .string a0_5] 50)).cell? ⟨w.heap.size, 1, none⟩ = some (.string a0_1) := (blk_cell BK0 1).trans rfl
  have cz2 : (w.alloc (.cells #[.int .i64 a0_0, .string a0_1, .string a0_2, .string a0_3, .string a0_4, .string a0_5] 50)).cell? ⟨w.heap.size, 2, none⟩ = some (.string a0_2) := (blk_cell BK0 2).trans rfl
  have cz3 : (w.alloc (.cells #[.int .i64 a0_0, .string a0_1, .string a0_2, .string a0_3, .string a0_4, .string a0_5] 50)).cell? ⟨w.heap.size, 3, none⟩ = some (.string a0_3) := (blk_cell BK0 3).trans rfl
  have cz4 : (w.alloc (.cells #[.int .i64 a0_0, .string a0_1, .string a0_2, .string a0_3, .string a0_4, .string a0_5] 50)).cell? ⟨w.heap.size, 4, none⟩ = some (.string a0_4) := (blk_cell BK0 4).trans rfl
  have cz5 : (w.alloc (.cells #[.int .i64 a0_0, .string a0_1, .string a0_2, .string a0_3, .string a0_4, .string a0_5] 50)).cell? ⟨w.heap.size, 5, none⟩ = some (.string a0_5) := (blk_cell BK0 5).trans rfl
  have BK := Aside0.mk BK0
  have HB := Aside0.mk HB0
  clear BK0 HB0
  cases b with
  | false =>
    rw [if_neg (by decide)] at H0
    obtain ⟨rfl, rfl⟩ := Prod.mk.inj (Option.some.inj H0)
    clear H0
    go_enter Tryd.func36, Tryd.ntmps36
    go_wp2_with (go_at_call 35; refine (alias_Right.calls k a0_0 a0_1 a0_2 a0_3 a0_4 a0_5 false _ AR.out (by repeat (first | exact HG.out | exact GrandW.G.below HG.out HB.out | apply GrandW.G.alloc | apply GrandW.G.drewN | apply GrandW.G.drew))).mono ?_; rintro e w1 ⟨rfl, hb⟩; have n0_ := Aside0.mk (blk_below BK.out hb); have n1_ := Aside0.mk (below_step HB.out hb); clear BK HB hb; have BK := n0_; have HB := n1_; clear n0_ n1_)
    go_ret2
    exact ⟨rfl, HB.out⟩
  | true =>
    rw [if_pos rfl] at H0
    obtain ⟨s, hs, H0⟩ := Option.bind_eq_some_iff.mp H0
    obtain ⟨rfl, rfl⟩ := Prod.mk.inj (Option.some.inj H0)
    clear H0
    obtain ⟨T, hT⟩ : ∃ T : List ByteArray, T = [a0_1, a0_2, a0_3, a0_4, a0_5] := ⟨_, rfl⟩
    rw [← hT] at hs
    have hcells : ∀ (i : Nat) (s : ByteArray), T[i]? = some s → (#[.int .i64 a0_0, .string a0_1, .string a0_2, .string a0_3, .string a0_4, .string a0_5] : Array Value)[i + 1]? = some (.string s) := by
      intro i s hs
      rw [hT] at hs
      match i, hs with
      | 0, hs => exact congrArg (Option.map Value.string) hs
      | 1, hs => exact congrArg (Option.map Value.string) hs
      | 2, hs => exact congrArg (Option.map Value.string) hs
      | 3, hs => exact congrArg (Option.map Value.string) hs
      | 4, hs => exact congrArg (Option.map Value.string) hs
      | i + 5, hs => simp at hs
    have HC := Aside0.mk hcells
    have hT5 : T.length = 5 := by rw [hT]; rfl
    clear hcells hT
    obtain ⟨y, hy⟩ : ∃ y : List Int, y = [a0_0 % 256] := ⟨_, rfl⟩
    rw [← hy] at hs
    have HY := Aside0.mk hy
    have HE := Aside0.mk hs
    clear hs hy
    go_enter Tryd.func36, Tryd.ntmps36
    go_wp2_with (first | (go_at_call 35; refine (alias_Right.calls k a0_0 a0_1 a0_2 a0_3 a0_4 a0_5 true _ AR.out (by repeat (first | exact HG.out | exact GrandW.G.below HG.out HB.out | apply GrandW.G.alloc | apply GrandW.G.drewN | apply GrandW.G.drew))).mono ?_; rintro e w1 ⟨rfl, hb⟩; have n0_ := Aside0.mk (blk_below BK.out hb); have n1_ := Aside0.mk (below_step HB.out hb); clear BK HB hb; have BK := n0_; have HB := n1_; clear n0_ n1_; have cc0 : w1.cell? ⟨w.heap.size, 0, none⟩ = some (.int .i64 a0_0) := blk_cell BK.out 0) | ((with_reducible refine gate_dst (N := 15) rfl ?_); refine Kd.R_lit (Kd.int .u8) _ 5 ?hg (N := 15) ?hd (xs := ([a0_0 % 256] : List Int)) (inner := [.int .u8 (a0_0 % 256)]) (ok := fun _ => True) (okp := fun _ => True) ?hr ?hp (fun _ hk => hk) trivial (Below.refl _ _) (Nat.le_refl _) (by simp) ?_; (case hd => rfl); (case hg => rfl); (case hr => first | (go_simp; done) | (go_simp; rfl)); (case hp => exact (Reps.one (show Kd.M (Kd.int .u8) _ _ _ (a0_0 % 256) [.int .u8 (a0_0 % 256)] from rfl) (Reps.none _ _))); intro v_ w5 ho6 hb hg_ hnew_; clear hg_ hnew_; rw [← HY.out] at ho6; have n2_ := Aside0.mk ho6; have n0_ := Aside0.mk (blk_below BK.out hb); have n1_ := Aside0.mk (below_step HB.out hb); clear BK HB hb; have BK := n0_; have HB := n1_; clear n0_ n1_; have HO := n2_; clear n2_ ho6; have hcv7 := own_string (P := Tryd.prog) Tryd.underlying28 Tryd.underlying5 Tryd.underlying9 (Kd.own_of_R HO.out); have cc1 : w5.cell? ⟨w.heap.size, 0, none⟩ = some (.int .i64 a0_0) := blk_cell BK.out 0) | (go_at_call 64; refine (AliasW.fields_calls w.heap.size _).mono ?_; rintro e w2 ⟨rfl, hb⟩; have n0_ := Aside0.mk (blk_below BK.out hb); have n1_ := Aside0.mk (below_step HB.out hb); clear BK HB hb; have BK := n0_; have HB := n1_; clear n0_ n1_))
    go_loopw [4, 18] (fun vo vi wr => ∃ (i : Nat) (o : ByteArray), vo = .string o ∧ vi = .int .i64 (i : Int) ∧ i ≤ 5 ∧ Aside0 (alias_Encode.e k (T.drop i) o = some s) ∧ Aside0 (wr.heap[w.heap.size]? = some (.cells #[.int .i64 a0_0, .string a0_1, .string a0_2, .string a0_3, .string a0_4, .string a0_5] 50 (0, 0))) ∧ Aside0 (Below w.heap.size w wr)) (fun _ vi _ => 5 - (intOf vi).toNat)
    case atStart => exact ⟨0, _, rfl, rfl, by omega, ⟨HE.out⟩, BK, HB⟩
    case round =>
      clear BK HB HE
      obtain ⟨i, o, rfl, rfl, hi, HE, BK, HB⟩ := hrel
      by_cases hlt : i < 5
      · obtain ⟨s1, hs1⟩ : ∃ s1, T[i]? = some s1 := ⟨_, List.getElem?_eq_getElem (by omega)⟩
        have hcell : wr.cell? ⟨w.heap.size, i + 1, none⟩ = some (.string s1) := (blk_cell BK.out (i + 1)).trans (HC.out i s1 hs1)
        have hg := HE.out
        rw [alias_Right.cut T i s1 hs1] at hg
        unfold alias_Encode.e at hg
        obtain ⟨⟨n1, n2⟩, hn, hg⟩ := Option.bind_eq_some_iff.mp hg
        obtain ⟨p, hp, hg⟩ := Option.bind_eq_some_iff.mp hg
        by_cases hz : o.size + p.size ≤ 9223372036854775807
        · rw [if_pos hz] at hg
          have AN := Aside0.mk hn
          have AP := Aside0.mk hp
          have HE2 := Aside0.mk hg
          have z1 := eq_true hz
          have z2 : (9223372036854775807 < o.size + p.size) = False := eq_false (Nat.not_lt.2 hz)
          clear hn hp hg HE hs1
          have hix := fun W => AliasW.ptr_at w.heap.size W i hlt
          have d1 : decide ((i : Int) < 5) = true := decide_eq_true (by omega)
          go_wp2_with (first | (go_at_call 67; refine (pack_Pack.calls s1 n1 n2 _ AN.out).mono ?_; rintro e w6 ⟨rfl, hb⟩; have n0_ := Aside0.mk (blk_below BK.out hb); have n1_ := Aside0.mk (below_step HB.out hb); clear BK HB hb; have BK := n0_; have HB := n1_; clear n0_ n1_) | (go_at_call 68; refine (pack_Put.calls k n1 8 p _ AP.out).mono ?_; rintro e w7 ⟨rfl, hb⟩; have n0_ := Aside0.mk (blk_below BK.out hb); have n1_ := Aside0.mk (below_step HB.out hb); clear BK HB hb; have BK := n0_; have HB := n1_; clear n0_ n1_))
          go_roundw
          case rel => exact ⟨i + 1, _, rfl, by simp, by omega, HE2, BK, HB⟩
          case measure => simp [intOf]; omega
        · rw [if_neg hz] at hg
          cases hg
      · obtain rfl : i = 5 := by omega
        have hg := HE.out
        rw [List.drop_of_length_le (by omega)] at hg
        obtain rfl := Option.some.inj hg
        clear hg
        go_wp2
        go_ret2
        exact ⟨rfl, HB.out⟩

def isoglosslaw12_awake.f (k : Nat)  : Option (Bool) := (alias_Encode.f k 3 (⟨#[105, 119]⟩ : ByteArray) (⟨#[]⟩ : ByteArray) (⟨#[104, 101]⟩ : ByteArray) (⟨#[]⟩ : ByteArray) (⟨#[]⟩ : ByteArray)).bind fun bt313 => (if bt313.2 = true then (if (bt313.1.size : Int) = 41 then (if 0 ≤ 9 then (if 9 ≤ (bt313.1.size : Int) then (if (bt313.1.extract 0 9).toList = ([3, 105, 119, 0, 0, 0, 0, 0, 0] : List UInt8) then (if 17 ≤ 19 then (if 19 ≤ (bt313.1.size : Int) then (some ((bt313.1.extract 17 19).toList == ([104, 101] : List UInt8))) else (none)) else (none)) else (some false)) else (none)) else (none)) else (some false)) else (some false))
set_option maxHeartbeats 8000000 in
set_option maxRecDepth 100000 in
theorem isoglosslaw12_awake.calls (k : Nat)  (r : Bool) (w : World) (h : isoglosslaw12_awake.f k  = some r) (hG : GrandW.G w) :
  Calls Tryd.prog 30 #[] w fun e w' => e = .returned (.bool r) ∧ Below w.heap.size w w' := by
 have HG := ak hG
 clear hG
 have hu50 := Tryd.underlying50
 have HB := ak (Below.refl w.heap.size w)
 have H : ((alias_Encode.f k 3 (⟨#[105, 119]⟩ : ByteArray) (⟨#[]⟩ : ByteArray) (⟨#[104, 101]⟩ : ByteArray) (⟨#[]⟩ : ByteArray) (⟨#[]⟩ : ByteArray)).bind fun bt313 => (if bt313.2 = true then (if (bt313.1.size : Int) = 41 then (if 0 ≤ 9 then (if 9 ≤ (bt313.1.size : Int) then (if (bt313.1.extract 0 9).toList = ([3, 105, 119, 0, 0, 0, 0, 0, 0] : List UInt8) then (if 17 ≤ 19 then (if 19 ≤ (bt313.1.size : Int) then (some ((bt313.1.extract 17 19).toList == ([104, 101] : List UInt8))) else (none)) else (none)) else (some false)) else (none)) else (none)) else (some false)) else (some false))) = some r := h
 clear h
 replace H := Option.bind_eq_some_iff.mp H
 obtain ⟨⟨t313, t314⟩, A10, H⟩ := H
 replace H : (if t314 = true then (if (t313.size : Int) = 41 then (if 0 ≤ 9 then (if 9 ≤ (t313.size : Int) then (if (t313.extract 0 9).toList = ([3, 105, 119, 0, 0, 0, 0, 0, 0] : List UInt8) then (if 17 ≤ 19 then (if 19 ≤ (t313.size : Int) then (some ((t313.extract 17 19).toList == ([104, 101] : List UInt8))) else (none)) else (none)) else (some false)) else (none)) else (none)) else (some false)) else (some false)) = some r := H
 have A1 := ak A10
 clear A10
 by_cases c2 : t314 = true
 ·
  subst c2
  have H1 : (if (t313.size : Int) = 41 then (if 0 ≤ 9 then (if 9 ≤ (t313.size : Int) then (if (t313.extract 0 9).toList = ([3, 105, 119, 0, 0, 0, 0, 0, 0] : List UInt8) then (if 17 ≤ 19 then (if 19 ≤ (t313.size : Int) then (some ((t313.extract 17 19).toList == ([104, 101] : List UInt8))) else (none)) else (none)) else (some false)) else (none)) else (none)) else (some false)) = some r := by rw [if_pos rfl] at H; exact H
  clear H
  have H := H1
  clear H1
  by_cases c3 : (t313.size : Int) = 41
  ·
   rw [if_pos c3] at H
   have c3b0 : ((t313.size : Int) == 41) = true := beq_iff_eq.mpr c3
   have c3b1 : ((t313.size : Int) != 41) = false := bne_eq_false_iff_eq.mpr c3
   clear c3
   by_cases c4 : 0 ≤ 9
   ·
    rw [if_pos c4] at H
    have c4b0 := eq_true c4
    have c4b1 : decide (0 ≤ 9) = true := decide_eq_true c4
    clear c4
    by_cases c5 : 9 ≤ (t313.size : Int)
    ·
     rw [if_pos c5] at H
     have c5b0 := eq_true c5
     have c5b1 : decide (9 ≤ (t313.size : Int)) = true := decide_eq_true c5
     clear c5
     by_cases c6 : (t313.extract 0 9).toList = ([3, 105, 119, 0, 0, 0, 0, 0, 0] : List UInt8)
     ·
      rw [if_pos c6] at H
      have c6b0 : ((t313.extract 0 9).toList == ([3, 105, 119, 0, 0, 0, 0, 0, 0] : List UInt8)) = true := beq_iff_eq.mpr c6
      have c6b1 : ((t313.extract 0 9).toList != ([3, 105, 119, 0, 0, 0, 0, 0, 0] : List UInt8)) = false := bne_eq_false_iff_eq.mpr c6
      clear c6
      by_cases c7 : 17 ≤ 19
      ·
       rw [if_pos c7] at H
       have c7b0 := eq_true c7
       have c7b1 : decide (17 ≤ 19) = true := decide_eq_true c7
       clear c7
       by_cases c8 : 19 ≤ (t313.size : Int)
       ·
        rw [if_pos c8] at H
        have c8b0 := eq_true c8
        have c8b1 : decide (19 ≤ (t313.size : Int)) = true := decide_eq_true c8
        clear c8
        obtain rfl := Option.some.inj H
        go_enter Tryd.func30, Tryd.ntmps30
        go_wp2_with (first | ((with_reducible refine gate_callee (f := 36) rfl ?_); refine goesL_ (some 5) rfl rfl Tryd.func36 (by kernel_rfl) rfl #[.agg #[.int .i64 3, .string ⟨#[105, 119]⟩, .string ⟨#[]⟩, .string ⟨#[104, 101]⟩, .string ⟨#[]⟩, .string ⟨#[]⟩]] rfl mq ?_; (with_reducible refine (alias_Encode.calls k 3 (⟨#[105, 119]⟩ : ByteArray) (⟨#[]⟩ : ByteArray) (⟨#[104, 101]⟩ : ByteArray) (⟨#[]⟩ : ByteArray) (⟨#[]⟩ : ByteArray) t313 true _ A1.out HG.out.on).mono ?_); rintro e w9 ⟨rfl, hb⟩; refine ⟨_, rfl, ?_⟩; have n0_ := ak (below_step bq hb); clear HB; have HB := n0_; clear n0_; (try clear hb); (try clear hb2); (try clear hk); (try clear hi); (try clear A1)))
        go_ret
        exact ⟨by first | rfl | (simp [errW_none, errW_some] <;> rfl) | (simp [*, errW_none, errW_some] <;> rfl), bq⟩
       ·
        rw [if_neg c8] at H
        exact absurd H (by simp)
      ·
       rw [if_neg c7] at H
       exact absurd H (by simp)
     ·
      rw [if_neg c6] at H
      have c6b0 : ((t313.extract 0 9).toList == ([3, 105, 119, 0, 0, 0, 0, 0, 0] : List UInt8)) = false := beq_eq_false_iff_ne.mpr c6
      have c6b1 : ((t313.extract 0 9).toList != ([3, 105, 119, 0, 0, 0, 0, 0, 0] : List UInt8)) = true := bne_iff_ne.mpr c6
      obtain rfl := Option.some.inj H
      go_enter Tryd.func30, Tryd.ntmps30
      go_wp2_with (first | ((with_reducible refine gate_callee (f := 36) rfl ?_); refine goesL_ (some 5) rfl rfl Tryd.func36 (by kernel_rfl) rfl #[.agg #[.int .i64 3, .string ⟨#[105, 119]⟩, .string ⟨#[]⟩, .string ⟨#[104, 101]⟩, .string ⟨#[]⟩, .string ⟨#[]⟩]] rfl mq ?_; (with_reducible refine (alias_Encode.calls k 3 (⟨#[105, 119]⟩ : ByteArray) (⟨#[]⟩ : ByteArray) (⟨#[104, 101]⟩ : ByteArray) (⟨#[]⟩ : ByteArray) (⟨#[]⟩ : ByteArray) t313 true _ A1.out HG.out.on).mono ?_); rintro e w10 ⟨rfl, hb⟩; refine ⟨_, rfl, ?_⟩; have n0_ := ak (below_step bq hb); clear HB; have HB := n0_; clear n0_; (try clear hb); (try clear hb2); (try clear hk); (try clear hi); (try clear A1)))
      go_ret
      exact ⟨by first | rfl | (simp [errW_none, errW_some] <;> rfl) | (simp [*, errW_none, errW_some] <;> rfl), bq⟩
    ·
     rw [if_neg c5] at H
     exact absurd H (by simp)
   ·
    rw [if_neg c4] at H
    exact absurd H (by simp)
  ·
   rw [if_neg c3] at H
   have c3b0 : ((t313.size : Int) == 41) = false := beq_eq_false_iff_ne.mpr c3
   have c3b1 : ((t313.size : Int) != 41) = true := bne_iff_ne.mpr c3
   obtain rfl := Option.some.inj H
   go_enter Tryd.func30, Tryd.ntmps30
   go_wp2_with (first | ((with_reducible refine gate_callee (f := 36) rfl ?_); refine goesL_ (some 5) rfl rfl Tryd.func36 (by kernel_rfl) rfl #[.agg #[.int .i64 3, .string ⟨#[105, 119]⟩, .string ⟨#[]⟩, .string ⟨#[104, 101]⟩, .string ⟨#[]⟩, .string ⟨#[]⟩]] rfl mq ?_; (with_reducible refine (alias_Encode.calls k 3 (⟨#[105, 119]⟩ : ByteArray) (⟨#[]⟩ : ByteArray) (⟨#[104, 101]⟩ : ByteArray) (⟨#[]⟩ : ByteArray) (⟨#[]⟩ : ByteArray) t313 true _ A1.out HG.out.on).mono ?_); rintro e w11 ⟨rfl, hb⟩; refine ⟨_, rfl, ?_⟩; have n0_ := ak (below_step bq hb); clear HB; have HB := n0_; clear n0_; (try clear hb); (try clear hb2); (try clear hk); (try clear hi); (try clear A1)))
   go_ret
   exact ⟨by first | rfl | (simp [errW_none, errW_some] <;> rfl) | (simp [*, errW_none, errW_some] <;> rfl), bq⟩
 ·
  replace c2 := Bool.eq_false_iff.mpr c2
  subst c2
  have H1 : (some false) = some r := by rw [if_neg (show ¬ (false = true) by decide)] at H; exact H
  clear H
  have H := H1
  clear H1
  obtain rfl := Option.some.inj H
  go_enter Tryd.func30, Tryd.ntmps30
  go_wp2_with (first | ((with_reducible refine gate_callee (f := 36) rfl ?_); refine goesL_ (some 5) rfl rfl Tryd.func36 (by kernel_rfl) rfl #[.agg #[.int .i64 3, .string ⟨#[105, 119]⟩, .string ⟨#[]⟩, .string ⟨#[104, 101]⟩, .string ⟨#[]⟩, .string ⟨#[]⟩]] rfl mq ?_; (with_reducible refine (alias_Encode.calls k 3 (⟨#[105, 119]⟩ : ByteArray) (⟨#[]⟩ : ByteArray) (⟨#[104, 101]⟩ : ByteArray) (⟨#[]⟩ : ByteArray) (⟨#[]⟩ : ByteArray) t313 false _ A1.out HG.out.on).mono ?_); rintro e w12 ⟨rfl, hb⟩; refine ⟨_, rfl, ?_⟩; have n0_ := ak (below_step bq hb); clear HB; have HB := n0_; clear n0_; (try clear hb); (try clear hb2); (try clear hk); (try clear hi); (try clear A1)))
  go_ret
  exact ⟨by first | rfl | (simp [errW_none, errW_some] <;> rfl) | (simp [*, errW_none, errW_some] <;> rfl), bq⟩

def isoglosslaw12_rest.f (a0 : Int) (a1 : Int) : Option (Int) := if a1 = 0 then (none) else (some (Int.tmod (wrap64 ((Int.tmod a0 a1) + a1)) a1))
set_option maxHeartbeats 8000000 in
set_option maxRecDepth 100000 in
theorem isoglosslaw12_rest.calls (a0 : Int) (a1 : Int) (r : Int) (w : World) (h : isoglosslaw12_rest.f a0 a1 = some r) :
  Calls Tryd.prog 32 #[.int .i64 a0, .int .i64 a1] w fun e w' => e = .returned (.int .i64 r) ∧ Drawn0 w w' := by
 have H : (if a1 = 0 then (none) else (some (Int.tmod (wrap64 ((Int.tmod a0 a1) + a1)) a1))) = some r := h
 clear h
 by_cases c3 : a1 = 0
 ·
  rw [if_pos c3] at H
  exact absurd H (by simp)
 ·
  rw [if_neg c3] at H
  have c3b0 : (a1 == 0) = false := beq_eq_false_iff_ne.mpr c3
  have c3b1 : (a1 != 0) = true := bne_iff_ne.mpr c3
  obtain rfl := Option.some.inj H
  go_enter Tryd.func32, Tryd.ntmps32
  go_wp2
  go_ret
  exact ⟨by first | rfl | (simp; done) | (simp [*]; done), by repeat (first | exact Drawn0.refl _ | apply Drawn0.step)⟩

end Go.Proofs.YtmbfnbnlajchmaaDoor.P
