/- Made by a program of this seat's own (myprint.py, round the kit's print): what the functions compute, and that they do. -/
import Derived.Test.YtmbfnbnlajchmaaDoorAdP0
import Derived.Test.YtmbfnbnlajchmaaDoorAdP10
import Derived.Test.YtmbfnbnlajchmaaDoorAdP11
import Derived.Test.YtmbfnbnlajchmaaDoorAdP12
import Derived.Test.YtmbfnbnlajchmaaDoorAdTight
namespace Go.Proofs.YtmbfnbnlajchmaaDoor.P
open Go.RowKit Go.Proofs.YtmbfnbnlajchmaaDoorW.PrintWords Go.Proofs.YtmbfnbnlajchmaaDoorW.PrintLast Go.Proofs.YtmbfnbnlajchmaaDoorW.PrintMore
attribute [local go_sem] StrOrd.binOp_gtr StrOrd.binOp_leq max2_int min2_int max_two min_two max_three min_three max_four min_four   -- for this text's walks alone
set_option linter.unusedVariables false
set_option linter.unusedSimpArgs false

mutual
def pack_Get.j0 : Nat → ByteArray → Int → Int → Bool → Option (Int × Bool)
 | 0, _, _, _, _ => none
 | k + 1, x0, x1, x2, x27 => if x27 = true then (some (0, false)) else (pack_Get.l0 k x0 x1 0 x2 0)
def pack_Get.l0 : Nat → ByteArray → Int → Int → Int → Int → Option (Int × Bool)
 | 0, _, _, _, _, _ => none
 | k + 1, x0, x1, x8, x28, x29 => if x29 < x28 then (if 0 ≤ (wrap64 (x1 + x29)) then (if (wrap64 (x1 + x29)) < (x0.size : Int) then (pack_Get.l0 k x0 x1 (Go.bits .or .u64 (IntKind.u64.wrap (x8 * 256)) (IntKind.u64.wrap (bt x0 (wrap64 (x1 + x29))))) x28 (wrap64 (x29 + 1))) else (none)) else (none)) else (some (x8, true))
end
def pack_Get.f (k : Nat) (a0 : ByteArray) (a1 : Int) (a2 : Int) : Option (Int × Bool) := if a2 < 0 then (pack_Get.j0 k a0 a1 a2 true) else (if a2 > 8 then (pack_Get.j0 k a0 a1 a2 true) else (if a1 < 0 then (pack_Get.j0 k a0 a1 a2 true) else (pack_Get.j0 k a0 a1 a2 (decide (a1 > (wrap64 ((a0.size : Int) - a2)))))))
set_option maxHeartbeats 8000000 in
set_option maxRecDepth 100000 in
theorem pack_Get.calls (k : Nat) (a0 : ByteArray) (a1 : Int) (a2 : Int) (r1 : Int) (r2 : Bool) (w : World) (h : pack_Get.f k a0 a1 a2 = some (r1, r2)) :
  Calls Tryd.prog 77 #[.string a0, .int .i64 a1, .int .i64 a2] w fun e w' => e = .returned (.tuple #[.int .u64 r1, .bool r2]) ∧ Drawn0 w w' := by
 have H : (if a2 < 0 then (pack_Get.j0 k a0 a1 a2 true) else (if a2 > 8 then (pack_Get.j0 k a0 a1 a2 true) else (if a1 < 0 then (pack_Get.j0 k a0 a1 a2 true) else (pack_Get.j0 k a0 a1 a2 (decide (a1 > (wrap64 ((a0.size : Int) - a2)))))))) = some (r1, r2) := h
 clear h
 have HC4 := ak H
 clear H
 go_enter Tryd.func77, Tryd.ntmps77
 go_upto_region 1 with (fail)
 go_cut [27] (fun v27 wc => ∃ (kq : Nat) (x27_3 : Bool), v27 = .bool x27_3 ∧ Aside0 (pack_Get.j0 kq a0 a1 a2 x27_3 = some (r1, r2)) ∧ Aside0 (kq ≤ k) ∧ Drawn0 w wc)
 case first =>
  have H := HC4.out
  clear HC4
  by_cases c5 : a2 < 0
  ·
   rw [if_pos c5] at H
   have c5b0 : decide (a2 < 0) = true := decide_eq_true c5
   clear c5
   (first | rw [c5b0] | (simp only [i64_w, i32_w]; rw [c5b0]) | rw [c5b2] | skip)
   have H' := ak H
   clear H
   go_wp2
   go_meet
   case rel => exact ⟨_, (true), (by first | rfl | (simp; done) | (simp [*]; done)), H', ⟨by first | omega | exact Nat.le_refl _⟩, by repeat (first | exact Drawn0.refl _ | apply Drawn0.step)⟩
  ·
   rw [if_neg c5] at H
   have c5b0 : decide (a2 < 0) = false := decide_eq_false c5
   clear c5
   (first | rw [c5b0] | (simp only [i64_w, i32_w]; rw [c5b0]) | rw [c5b2] | skip)
   by_cases c6 : a2 > 8
   ·
    rw [if_pos c6] at H
    have c6b0 : decide (8 < a2) = true := decide_eq_true c6
    clear c6
    have H' := ak H
    clear H
    go_wp2
    go_meet
    case rel => exact ⟨_, (true), (by first | rfl | (simp; done) | (simp [*]; done)), H', ⟨by first | omega | exact Nat.le_refl _⟩, by repeat (first | exact Drawn0.refl _ | apply Drawn0.step)⟩
   ·
    rw [if_neg c6] at H
    have c6b0 : decide (8 < a2) = false := decide_eq_false c6
    clear c6
    by_cases c7 : a1 < 0
    ·
     rw [if_pos c7] at H
     have c7b0 : decide (a1 < 0) = true := decide_eq_true c7
     clear c7
     have H' := ak H
     clear H
     go_wp2
     go_meet
     case rel => exact ⟨_, (true), (by first | rfl | (simp; done) | (simp [*]; done)), H', ⟨by first | omega | exact Nat.le_refl _⟩, by repeat (first | exact Drawn0.refl _ | apply Drawn0.step)⟩
    ·
     rw [if_neg c7] at H
     have c7b0 : decide (a1 < 0) = false := decide_eq_false c7
     clear c7
     have H' := ak H
     clear H
     go_wp2
     go_meet
     case rel => exact ⟨_, (decide (a1 > (wrap64 ((a0.size : Int) - a2)))), (by first | rfl | (simp; done) | (simp [*]; done)), H', ⟨by first | omega | exact Nat.le_refl _⟩, by repeat (first | exact Drawn0.refl _ | apply Drawn0.step)⟩
 case rest =>
  clear HC4
  try clear p2
  try clear c5
  try clear c5b0
  try clear c6
  try clear c6b0
  try clear p6
  try clear c7
  try clear c7b0
  obtain ⟨kq, x27_3, rfl, HA, HJ3, ⟨mc3, rfl⟩⟩ := hcut
  cases kq with
  | zero => exact absurd HA.out (by simp [pack_Get.j0])
  | succ kj3 =>
   have H := HA.out
   clear HA
   simp only [pack_Get.j0] at H
   by_cases c8 : x27_3 = true
   ·
    subst c8
    have H1 : (some (0, false)) = some (r1, r2) := by rw [if_pos rfl] at H; exact H
    clear H
    have H := H1
    clear H1
    simp only [Option.some.injEq, Prod.mk.injEq] at H
    obtain ⟨rfl, rfl⟩ := H
    go_wp2
    go_ret2
    exact ⟨by first | rfl | (simp; done) | (simp [*]; done), by repeat (first | exact Drawn0.refl _ | apply Drawn0.step)⟩
   ·
    replace c8 := Bool.eq_false_iff.mpr c8
    subst c8
    have H1 : (pack_Get.l0 kj3 a0 a1 0 a2 0) = some (r1, r2) := by rw [if_neg (show ¬ (false = true) by decide)] at H; exact H
    clear H
    have H := H1
    clear H1
    have H' := ak H
    clear H
    go_wp2
    go_loopg [8, 29] kj3 (fun kq v8 v29 w' => ∃ (x8_2 : Int) (x29_2 : Int), v8 = .int .u64 x8_2 ∧ v29 = .int .i64 x29_2 ∧ Aside0 (pack_Get.l0 kq a0 a1 x8_2 a2 x29_2 = some (r1, r2)) ∧ Aside0 (kq ≤ kj3) ∧ Drawn0 w w')
    case atStart => exact ⟨(0), (0), (by first | rfl | (simp; done) | (simp [*]; done)), (by first | rfl | (simp; done) | (simp [*]; done)), H', ⟨Nat.le_refl _⟩, by repeat (first | exact Drawn0.refl _ | apply Drawn0.step)⟩
    case round =>
     clear H'
     try clear p2
     try clear c3
     try clear c5
     try clear c5b0
     try clear c6
     try clear c6b0
     try clear p6
     try clear c7
     try clear c7b0
     try clear c8
     try clear p2
     try clear p6
     obtain ⟨x8_2, x29_2, rfl, rfl, HA, HK2, ⟨m2, rfl⟩⟩ := hrel
     cases gk with
     | zero => exact absurd HA.out (by simp [pack_Get.l0])
     | succ k2 =>
      have H := HA.out
      clear HA
      simp only [pack_Get.l0] at H
      by_cases c9 : x29_2 < a2
      ·
       rw [if_pos c9] at H
       have c9b0 : decide (x29_2 < a2) = true := decide_eq_true c9
       clear c9
       obtain ⟨ji10, hji10⟩ : ∃ j_ : Int, (wrap64 (a1 + x29_2)) = j_ := ⟨_, rfl⟩
       replace H : (if 0 ≤ (ji10) then (if (ji10) < (a0.size : Int) then (pack_Get.l0 k2 a0 a1 (Go.bits .or .u64 (IntKind.u64.wrap (x8_2 * 256)) (IntKind.u64.wrap (bt a0 (ji10)))) a2 (wrap64 (x29_2 + 1))) else (none)) else (none)) = some (r1, r2) := by first | (rw [hji10] at H; exact H) | (simp only [hji10] at H ⊢; exact H)
       have hji10w : (IntKind.i64.wrap (a1 + x29_2)) = ji10 := (i64_w _).trans hji10
       by_cases c11 : 0 ≤ (ji10)
       ·
        rw [if_pos c11] at H
        have c11b0 : decide (0 ≤ (ji10)) = true := decide_eq_true c11
        clear c11
        by_cases c12 : (ji10) < (a0.size : Int)
        ·
         rw [if_pos c12] at H
         have c12b0 : decide ((ji10) < (a0.size : Int)) = true := decide_eq_true c12
         clear c12
         have H' := ak H
         clear H
         have p13 : 0 ≤ ((ji10) : Int) := of_decide_eq_true (by first | (with_reducible assumption) | assumption)
         have q13 : (ji10) < (a0.size : Int) := of_decide_eq_true (by first | (with_reducible assumption) | assumption)
         have hx13 := bt_at a0 (ji10)
         replace p13 := eq_true p13
         replace q13 := eq_true q13
         go_wp2
         go_roundg k2
         case measure => have := HJ3.out; have := HK2.out; omega
         case rel => exact ⟨(Go.bits .or .u64 (IntKind.u64.wrap (x8_2 * 256)) (IntKind.u64.wrap (bt a0 (ji10)))), (wrap64 (x29_2 + 1)), (by first | rfl | (simp; done) | (simp only [← hji10] <;> (first | rfl | simp)) | (simp [*]; done)), (by first | rfl | (simp; done) | (simp [*]; done)), H', ⟨by have := HJ3.out; have := HK2.out; omega⟩, by repeat (first | exact Drawn0.refl _ | apply Drawn0.step)⟩
        ·
         rw [if_neg c12] at H
         exact absurd H (by simp)
       ·
        rw [if_neg c11] at H
        exact absurd H (by simp)
      ·
       rw [if_neg c9] at H
       have c9b0 : decide (x29_2 < a2) = false := decide_eq_false c9
       clear c9
       simp only [Option.some.injEq, Prod.mk.injEq] at H
       obtain ⟨rfl, rfl⟩ := H
       go_wp2
       go_ret2
       exact ⟨by first | rfl | (simp; done) | (simp [*]; done), by repeat (first | exact Drawn0.refl _ | apply Drawn0.step)⟩

def pack_Unpack.f (k : Nat) (a0 : Int) : Option (ByteArray × Bool) := (pack_Put.f k a0 8).bind fun t => if t.size ≤ 140737488351232 then some (PackW.unpT a0 t) else none
theorem pack_Unpack.calls (k : Nat) (a0 : Int) (r1 : ByteArray) (r2 : Bool) (w : World) (h : pack_Unpack.f k a0 = some (r1, r2)) :
    Calls Tryd.prog 78 #[.int .u64 a0] w fun e w' => e = .returned (.tuple #[.string r1, .bool r2]) ∧ Below w.heap.size w w' := by
  unfold pack_Unpack.f at h
  obtain ⟨t, ht, h⟩ := Option.bind_eq_some_iff.mp h
  by_cases hs : t.size ≤ 140737488351232
  · rw [if_pos hs] at h
    have e := Option.some.inj h
    have := PackW.unpack_any a0 w t hs (fun W => pack_Put.calls k a0 8 t W ht)
    rw [e] at this
    exact this
  · rw [if_neg hs] at h
    cases h

def alias_Decode.z : Int × ByteArray × ByteArray × ByteArray × ByteArray × ByteArray × Bool := (0, ⟨#[]⟩, ⟨#[]⟩, ⟨#[]⟩, ⟨#[]⟩, ⟨#[]⟩, false)
def alias_Decode.d (k : Nat) (a0 : ByteArray) : Nat → List ByteArray → Option (Option (List ByteArray))
  | 0, l => some (some l)
  | n + 1, l => (pack_Get.f k a0 (1 + (l.length : Int) * 8) 8).bind fun g => ((pack_Unpack.f k g.1).bind fun t => (if t.2 = true then (alias_Decode.d k a0 n (l ++ [t.1])) else (some none)))
def alias_Decode.n (k : Nat) (kd : Int) : List ByteArray → Option (Int × ByteArray × ByteArray × ByteArray × ByteArray × ByteArray × Bool)
  | [t0, t1, t2, t3, t4] => (alias_Right.f k kd t0 t1 t2 t3 t4).bind fun b => (if b = true then (some (kd, t0, t1, t2, t3, t4, true)) else (some alias_Decode.z))
  | _ => none
def alias_Decode.o (k : Nat) (kd : Int) : Option (List ByteArray) → Option (Int × ByteArray × ByteArray × ByteArray × ByteArray × ByteArray × Bool)
  | some l => alias_Decode.n k kd l
  | none => some alias_Decode.z
def alias_Decode.f (k : Nat) (a0 : ByteArray) : Option (Int × ByteArray × ByteArray × ByteArray × ByteArray × ByteArray × Bool) := if (a0.size : Int) = 41 then ((alias_Decode.d k a0 5 []).bind fun q => (alias_Decode.o k (bt a0 0) q)) else (some alias_Decode.z)
def alias_Decode.cells (kd : Int) (l : List ByteArray) : Array Value := (Value.int .i64 kd :: (l ++ List.replicate (5 - l.length) (⟨#[]⟩ : ByteArray)).map Value.string).toArray
theorem alias_Decode.set (kd : Int) (t : ByteArray) : ∀ l : List ByteArray, l.length < 5 → (alias_Decode.cells kd l).setIfInBounds (l.length + 1) (.string t) = alias_Decode.cells kd (l ++ [t])
  | [], _ => rfl
  | [_], _ => rfl
  | [_, _], _ => rfl
  | [_, _, _], _ => rfl
  | [_, _, _, _], _ => rfl
  | _ :: _ :: _ :: _ :: _ :: _, h => absurd h (by simp)
theorem alias_Decode.old (kd : Int) : ∀ l : List ByteArray, l.length < 5 → (alias_Decode.cells kd l)[l.length + 1]? = some (.string ⟨#[]⟩)
  | [], _ => rfl
  | [_], _ => rfl
  | [_, _], _ => rfl
  | [_, _, _], _ => rfl
  | [_, _, _, _], _ => rfl
  | _ :: _ :: _ :: _ :: _ :: _, h => absurd h (by simp)
set_option maxHeartbeats 4000000 in
set_option maxRecDepth 100000 in
theorem alias_Decode.calls (k : Nat) (a0 : ByteArray) (r1 : Int) (r2 : ByteArray) (r3 : ByteArray) (r4 : ByteArray) (r5 : ByteArray) (r6 : ByteArray) (r7 : Bool) (w : World) (h : alias_Decode.f k a0 = some (r1, r2, r3, r4, r5, r6, r7)) (hG : GrandW.G w) :
    Calls Tryd.prog 44 #[.string a0] w fun e w' => e = .returned (.tuple #[.agg #[.int .i64 r1, .string r2, .string r3, .string r4, .string r5, .string r6], .bool r7]) ∧ Below w.heap.size w w' := by
  have HG := Aside0.mk hG
  clear hG
  unfold alias_Decode.f at h
  have hu := Tryd.underlying50
  have br0 : (w.alloc (.cells #[.int .i64 0, .string ⟨#[]⟩, .string ⟨#[]⟩, .string ⟨#[]⟩, .string ⟨#[]⟩, .string ⟨#[]⟩] 50)).heap[w.heap.size]? = some (.cells #[.int .i64 0, .string ⟨#[]⟩, .string ⟨#[]⟩, .string ⟨#[]⟩, .string ⟨#[]⟩, .string ⟨#[]⟩] 50 (0, 0)) := World.alloc_heap_new w _
  have hb0 : Below w.heap.size w (w.alloc (.cells #[.int .i64 0, .string ⟨#[]⟩, .string ⟨#[]⟩, .string ⟨#[]⟩, .string ⟨#[]⟩, .string ⟨#[]⟩] 50)) := (Below.refl _ w).alloc (Nat.le_refl _) _
  by_cases hsz : (a0.size : Int) = 41
  · rw [if_pos hsz] at h
    obtain ⟨q, hq, hn⟩ := Option.bind_eq_some_iff.mp h
    clear h
    have c1 : ((a0.size : Int) == 41) = true := beq_iff_eq.mpr hsz
    have c2 : ((a0.size : Int) != 41) = false := bne_eq_false_iff_eq.mpr hsz
    have q0 : (0 < a0.size) = True := eq_true (by omega)
    have hx0 : ∀ h : 0 < a0.size, ((a0[0]'h).toNat : Int) = bt a0 0 := bt_at a0 0
    have hw0 : wrap64 (bt a0 0) = bt a0 0 := by have z := bt_range a0 0; unfold wrap64; omega
    clear hsz
    obtain ⟨kd, hkd⟩ : ∃ kd, bt a0 0 = kd := ⟨_, rfl⟩
    rw [hkd] at hn hx0 hw0
    have HQ := Aside0.mk hq
    have HN := Aside0.mk hn
    clear hq hn hkd
    have BR : Aside0 (((w.alloc (.cells #[.int .i64 0, .string ⟨#[]⟩, .string ⟨#[]⟩, .string ⟨#[]⟩, .string ⟨#[]⟩, .string ⟨#[]⟩] 50)).alloc (.cells #[.int .i64 kd, .string ⟨#[]⟩, .string ⟨#[]⟩, .string ⟨#[]⟩, .string ⟨#[]⟩, .string ⟨#[]⟩] 50)).heap[w.heap.size]? = some (.cells #[.int .i64 0, .string ⟨#[]⟩, .string ⟨#[]⟩, .string ⟨#[]⟩, .string ⟨#[]⟩, .string ⟨#[]⟩] 50 (0, 0))) := ⟨blk_alloc br0 _⟩
    have BA : Aside0 (((w.alloc (.cells #[.int .i64 0, .string ⟨#[]⟩, .string ⟨#[]⟩, .string ⟨#[]⟩, .string ⟨#[]⟩, .string ⟨#[]⟩] 50)).alloc (.cells #[.int .i64 kd, .string ⟨#[]⟩, .string ⟨#[]⟩, .string ⟨#[]⟩, .string ⟨#[]⟩, .string ⟨#[]⟩] 50)).heap[w.heap.size + 1]? = some (.cells (alias_Decode.cells kd []) 50 (0, 0))) := by
      have z := World.alloc_heap_new (w.alloc (.cells #[.int .i64 0, .string ⟨#[]⟩, .string ⟨#[]⟩, .string ⟨#[]⟩, .string ⟨#[]⟩, .string ⟨#[]⟩] 50)) (.cells (alias_Decode.cells kd []) 50)
      rw [World.size_alloc] at z
      exact ⟨z⟩
    have HB : Aside0 (Below w.heap.size w ((w.alloc (.cells #[.int .i64 0, .string ⟨#[]⟩, .string ⟨#[]⟩, .string ⟨#[]⟩, .string ⟨#[]⟩, .string ⟨#[]⟩] 50)).alloc (.cells #[.int .i64 kd, .string ⟨#[]⟩, .string ⟨#[]⟩, .string ⟨#[]⟩, .string ⟨#[]⟩, .string ⟨#[]⟩] 50))) := ⟨hb0.alloc (by rw [World.size_alloc]; omega) _⟩
    clear br0 hb0
    go_enter Tryd.func44, Tryd.ntmps44
    go_wp2_with (go_at_call 64; refine (AliasW.fields_calls (w.heap.size + 1) _).mono ?_; rintro e w2 ⟨rfl, hb⟩; have n0_ := Aside0.mk (blk_below BA.out hb); have n1_ := Aside0.mk (blk_below BR.out hb); have n2_ := Aside0.mk (below_step HB.out hb); clear BA BR HB hb; have BA := n0_; have BR := n1_; have HB := n2_; clear n0_ n1_ n2_)
    go_loopw [20] (fun vi wr => ∃ l : List ByteArray, vi = .int .i64 (l.length : Int) ∧ l.length ≤ 5 ∧ Aside0 (alias_Decode.d k a0 (5 - l.length) l = some q) ∧ Aside0 (wr.heap[w.heap.size + 1]? = some (.cells (alias_Decode.cells kd l) 50 (0, 0))) ∧ Aside0 (wr.heap[w.heap.size]? = some (.cells #[.int .i64 0, .string ⟨#[]⟩, .string ⟨#[]⟩, .string ⟨#[]⟩, .string ⟨#[]⟩, .string ⟨#[]⟩] 50 (0, 0))) ∧ Aside0 (Below w.heap.size w wr)) (fun vi _ => 5 - (intOf vi).toNat)
    case atStart => exact ⟨[], rfl, by simp, ⟨HQ.out⟩, BA, BR, HB⟩
    case round =>
      clear BA BR HB HQ
      obtain ⟨l, rfl, hi, HQ, BA, BR, HB⟩ := hrel
      by_cases hlt : l.length < 5
      · obtain ⟨m, hm⟩ : ∃ m, 5 - l.length = m + 1 := ⟨5 - l.length - 1, by omega⟩
        have hq := HQ.out
        rw [hm] at hq
        unfold alias_Decode.d at hq
        obtain ⟨⟨g1, g2⟩, hg, hq⟩ := Option.bind_eq_some_iff.mp hq
        obtain ⟨⟨s1, s2⟩, hs, hq⟩ := Option.bind_eq_some_iff.mp hq
        have AG := Aside0.mk hg
        have AU := Aside0.mk hs
        clear hg hs HQ
        have hix := fun W => AliasW.ptr_at (w.heap.size + 1) W l.length hlt
        have d1 : decide ((l.length : Int) < 5) = true := decide_eq_true (by omega)
        cases s2 with
        | true =>
          have hq2 : alias_Decode.d k a0 m (l ++ [s1]) = some q := hq
          have HQ := Aside0.mk hq2
          clear hq hq2
          go_wp2_with (first | (go_at_call 77; refine (pack_Get.calls k a0 _ 8 g1 g2 _ AG.out).mono ?_; rintro e w6 ⟨rfl, hd⟩; have hb := hd.below; clear hd; have n0_ := Aside0.mk (blk_below BA.out hb); have n1_ := Aside0.mk (blk_below BR.out hb); have n2_ := Aside0.mk (below_step HB.out hb); clear BA BR HB hb; have BA := n0_; have BR := n1_; have HB := n2_; clear n0_ n1_ n2_) | (go_at_call 78; refine (pack_Unpack.calls k g1 s1 true _ AU.out).mono ?_; rintro e w7 ⟨rfl, hb⟩; have n0_ := Aside0.mk (blk_below BA.out hb); have n1_ := Aside0.mk (blk_below BR.out hb); have n2_ := Aside0.mk (below_step HB.out hb); clear BA BR HB hb; have BA := n0_; have BR := n1_; have HB := n2_; clear n0_ n1_ n2_; have ca : w7.cell? ⟨w.heap.size + 1, l.length + 1, none⟩ = some (.string ⟨#[]⟩) := (blk_cell BA.out (l.length + 1)).trans (alias_Decode.old kd l hlt); have fa : w7.frozen? ⟨w.heap.size + 1, l.length + 1, none⟩ = false := blk_frozen BA.out (l.length + 1)))
          have em : 5 - (l ++ [s1]).length = m := by rw [List.length_append, List.length_singleton]; omega
          go_roundw
          case rel => exact ⟨l ++ [s1], by simp, by rw [List.length_append, List.length_singleton]; omega, ⟨by rw [em]; exact HQ.out⟩, ⟨blk_put BA.out (l.length + 1) _ (alias_Decode.set kd s1 l hlt)⟩, ⟨blk_far BR.out (by simp) _⟩, ⟨below_set HB.out (by omega)⟩⟩
          case measure => simp [intOf]; omega
        | false =>
          have hq2 : (some none : Option (Option (List ByteArray))) = some q := hq
          obtain rfl := Option.some.inj hq2
          have hn : some alias_Decode.z = some _ := HN.out
          have e := Option.some.inj hn
          simp only [alias_Decode.z, Prod.mk.injEq] at e
          obtain ⟨rfl, rfl, rfl, rfl, rfl, rfl, rfl⟩ := e
          clear hq hq2 hn
          go_wp2_with (first | (go_at_call 77; refine (pack_Get.calls k a0 _ 8 g1 g2 _ AG.out).mono ?_; rintro e w6 ⟨rfl, hd⟩; have hb := hd.below; clear hd; have n0_ := Aside0.mk (blk_below BA.out hb); have n1_ := Aside0.mk (blk_below BR.out hb); have n2_ := Aside0.mk (below_step HB.out hb); clear BA BR HB hb; have BA := n0_; have BR := n1_; have HB := n2_; clear n0_ n1_ n2_) | (go_at_call 78; refine (pack_Unpack.calls k g1 s1 false _ AU.out).mono ?_; rintro e w7 ⟨rfl, hb⟩; have n0_ := Aside0.mk (blk_below BA.out hb); have n1_ := Aside0.mk (blk_below BR.out hb); have n2_ := Aside0.mk (below_step HB.out hb); clear BA BR HB hb; have BA := n0_; have BR := n1_; have HB := n2_; clear n0_ n1_ n2_; have rz0 : w7.cell? ⟨w.heap.size, 0, none⟩ = some (.int .i64 0) := (blk_cell BR.out 0).trans rfl; have rz1 : w7.cell? ⟨w.heap.size, 1, none⟩ = some (.string ⟨#[]⟩) := (blk_cell BR.out 1).trans rfl; have rz2 : w7.cell? ⟨w.heap.size, 2, none⟩ = some (.string ⟨#[]⟩) := (blk_cell BR.out 2).trans rfl; have rz3 : w7.cell? ⟨w.heap.size, 3, none⟩ = some (.string ⟨#[]⟩) := (blk_cell BR.out 3).trans rfl; have rz4 : w7.cell? ⟨w.heap.size, 4, none⟩ = some (.string ⟨#[]⟩) := (blk_cell BR.out 4).trans rfl; have rz5 : w7.cell? ⟨w.heap.size, 5, none⟩ = some (.string ⟨#[]⟩) := (blk_cell BR.out 5).trans rfl; have rf0 := blk_frozen BR.out 0; have rf1 := blk_frozen BR.out 1; have rf2 := blk_frozen BR.out 2; have rf3 := blk_frozen BR.out 3; have rf4 := blk_frozen BR.out 4; have rf5 := blk_frozen BR.out 5))
          refine bodyPost_ret (results_ct rfl _ _ w.heap.size 50 #[.int .i64 0, .string ⟨#[]⟩, .string ⟨#[]⟩, .string ⟨#[]⟩, .string ⟨#[]⟩, .string ⟨#[]⟩] (0, 0) _ rfl ?_ Tryd.underlying50 rfl (by kernel_rfl)) rfl ⟨rfl, ?_⟩
          · refine blk_put (cs := #[.int .i64 0, .string ⟨#[]⟩, .string ⟨#[]⟩, .string ⟨#[]⟩, .string ⟨#[]⟩, .string ⟨#[]⟩]) ?_ 5 _ rfl
            refine blk_put (cs := #[.int .i64 0, .string ⟨#[]⟩, .string ⟨#[]⟩, .string ⟨#[]⟩, .string ⟨#[]⟩, .string ⟨#[]⟩]) ?_ 4 _ rfl
            refine blk_put (cs := #[.int .i64 0, .string ⟨#[]⟩, .string ⟨#[]⟩, .string ⟨#[]⟩, .string ⟨#[]⟩, .string ⟨#[]⟩]) ?_ 3 _ rfl
            refine blk_put (cs := #[.int .i64 0, .string ⟨#[]⟩, .string ⟨#[]⟩, .string ⟨#[]⟩, .string ⟨#[]⟩, .string ⟨#[]⟩]) ?_ 2 _ rfl
            refine blk_put (cs := #[.int .i64 0, .string ⟨#[]⟩, .string ⟨#[]⟩, .string ⟨#[]⟩, .string ⟨#[]⟩, .string ⟨#[]⟩]) ?_ 1 _ rfl
            refine blk_put (cs := #[.int .i64 0, .string ⟨#[]⟩, .string ⟨#[]⟩, .string ⟨#[]⟩, .string ⟨#[]⟩, .string ⟨#[]⟩]) ?_ 0 _ rfl
            exact BR.out
          · exact below_set (below_set (below_set (below_set (below_set (below_set HB.out (Nat.le_refl _)) (Nat.le_refl _)) (Nat.le_refl _)) (Nat.le_refl _)) (Nat.le_refl _)) (Nat.le_refl _)
      · have hl5 : l.length = 5 := by omega
        have hq := HQ.out
        rw [hl5] at hq
        have hq2 : (some (some l) : Option (Option (List ByteArray))) = some q := hq
        obtain rfl := Option.some.inj hq2
        clear hq hq2 HQ
        obtain ⟨t0, t1, t2, t3, t4, rfl⟩ : ∃ t0 t1 t2 t3 t4, l = [t0, t1, t2, t3, t4] := by
          match l, hl5 with
          | [a, b, c, d, e], _ => exact ⟨a, b, c, d, e, rfl⟩
        have hn := HN.out
        unfold alias_Decode.o alias_Decode.n at hn
        obtain ⟨b, hb, hn⟩ := Option.bind_eq_some_iff.mp hn
        have AR := Aside0.mk hb
        clear hb HN hl5 hlt hi
        have ca0 : wr.cell? ⟨w.heap.size + 1, 0, none⟩ = some (.int .i64 kd) := (blk_cell BA.out 0).trans rfl
        have ca1 : wr.cell? ⟨w.heap.size + 1, 1, none⟩ = some (.string t0) := (blk_cell BA.out 1).trans rfl
        have ca2 : wr.cell? ⟨w.heap.size + 1, 2, none⟩ = some (.string t1) := (blk_cell BA.out 2).trans rfl
        have ca3 : wr.cell? ⟨w.heap.size + 1, 3, none⟩ = some (.string t2) := (blk_cell BA.out 3).trans rfl
        have ca4 : wr.cell? ⟨w.heap.size + 1, 4, none⟩ = some (.string t3) := (blk_cell BA.out 4).trans rfl
        have ca5 : wr.cell? ⟨w.heap.size + 1, 5, none⟩ = some (.string t4) := (blk_cell BA.out 5).trans rfl
        cases b with
        | false =>
          have hn : some alias_Decode.z = some _ := hn
          have e := Option.some.inj hn
          simp only [alias_Decode.z, Prod.mk.injEq] at e
          obtain ⟨rfl, rfl, rfl, rfl, rfl, rfl, rfl⟩ := e
          clear hn
          go_wp2_with (go_at_call 35; refine (alias_Right.calls k kd t0 t1 t2 t3 t4 false _ AR.out (by repeat (first | exact HG.out | exact GrandW.G.below HG.out HB.out | apply GrandW.G.alloc | apply GrandW.G.drewN | apply GrandW.G.drew))).mono ?_; rintro e w7 ⟨rfl, hb⟩; have n0_ := Aside0.mk (blk_below BA.out hb); have n1_ := Aside0.mk (blk_below BR.out hb); have n2_ := Aside0.mk (below_step HB.out hb); clear BA BR HB hb; have BA := n0_; have BR := n1_; have HB := n2_; clear n0_ n1_ n2_; have rz0 : w7.cell? ⟨w.heap.size, 0, none⟩ = some (.int .i64 0) := (blk_cell BR.out 0).trans rfl; have rz1 : w7.cell? ⟨w.heap.size, 1, none⟩ = some (.string ⟨#[]⟩) := (blk_cell BR.out 1).trans rfl; have rz2 : w7.cell? ⟨w.heap.size, 2, none⟩ = some (.string ⟨#[]⟩) := (blk_cell BR.out 2).trans rfl; have rz3 : w7.cell? ⟨w.heap.size, 3, none⟩ = some (.string ⟨#[]⟩) := (blk_cell BR.out 3).trans rfl; have rz4 : w7.cell? ⟨w.heap.size, 4, none⟩ = some (.string ⟨#[]⟩) := (blk_cell BR.out 4).trans rfl; have rz5 : w7.cell? ⟨w.heap.size, 5, none⟩ = some (.string ⟨#[]⟩) := (blk_cell BR.out 5).trans rfl; have rf0 := blk_frozen BR.out 0; have rf1 := blk_frozen BR.out 1; have rf2 := blk_frozen BR.out 2; have rf3 := blk_frozen BR.out 3; have rf4 := blk_frozen BR.out 4; have rf5 := blk_frozen BR.out 5)
          refine bodyPost_ret (results_ct rfl _ _ w.heap.size 50 #[.int .i64 0, .string ⟨#[]⟩, .string ⟨#[]⟩, .string ⟨#[]⟩, .string ⟨#[]⟩, .string ⟨#[]⟩] (0, 0) _ rfl ?_ Tryd.underlying50 rfl (by kernel_rfl)) rfl ⟨rfl, ?_⟩
          · refine blk_put (cs := #[.int .i64 0, .string ⟨#[]⟩, .string ⟨#[]⟩, .string ⟨#[]⟩, .string ⟨#[]⟩, .string ⟨#[]⟩]) ?_ 5 _ rfl
            refine blk_put (cs := #[.int .i64 0, .string ⟨#[]⟩, .string ⟨#[]⟩, .string ⟨#[]⟩, .string ⟨#[]⟩, .string ⟨#[]⟩]) ?_ 4 _ rfl
            refine blk_put (cs := #[.int .i64 0, .string ⟨#[]⟩, .string ⟨#[]⟩, .string ⟨#[]⟩, .string ⟨#[]⟩, .string ⟨#[]⟩]) ?_ 3 _ rfl
            refine blk_put (cs := #[.int .i64 0, .string ⟨#[]⟩, .string ⟨#[]⟩, .string ⟨#[]⟩, .string ⟨#[]⟩, .string ⟨#[]⟩]) ?_ 2 _ rfl
            refine blk_put (cs := #[.int .i64 0, .string ⟨#[]⟩, .string ⟨#[]⟩, .string ⟨#[]⟩, .string ⟨#[]⟩, .string ⟨#[]⟩]) ?_ 1 _ rfl
            refine blk_put (cs := #[.int .i64 0, .string ⟨#[]⟩, .string ⟨#[]⟩, .string ⟨#[]⟩, .string ⟨#[]⟩, .string ⟨#[]⟩]) ?_ 0 _ rfl
            exact BR.out
          · exact below_set (below_set (below_set (below_set (below_set (below_set HB.out (Nat.le_refl _)) (Nat.le_refl _)) (Nat.le_refl _)) (Nat.le_refl _)) (Nat.le_refl _)) (Nat.le_refl _)
        | true =>
          rw [if_pos rfl] at hn
          have e := Option.some.inj hn
          simp only [Prod.mk.injEq] at e
          obtain ⟨rfl, rfl, rfl, rfl, rfl, rfl, rfl⟩ := e
          clear hn
          go_wp2_with (go_at_call 35; refine (alias_Right.calls k kd t0 t1 t2 t3 t4 true _ AR.out (by repeat (first | exact HG.out | exact GrandW.G.below HG.out HB.out | apply GrandW.G.alloc | apply GrandW.G.drewN | apply GrandW.G.drew))).mono ?_; rintro e w7 ⟨rfl, hb⟩; have n0_ := Aside0.mk (blk_below BA.out hb); have n1_ := Aside0.mk (blk_below BR.out hb); have n2_ := Aside0.mk (below_step HB.out hb); clear BA BR HB hb; have BA := n0_; have BR := n1_; have HB := n2_; clear n0_ n1_ n2_; have rz0 : w7.cell? ⟨w.heap.size, 0, none⟩ = some (.int .i64 0) := (blk_cell BR.out 0).trans rfl; have rz1 : w7.cell? ⟨w.heap.size, 1, none⟩ = some (.string ⟨#[]⟩) := (blk_cell BR.out 1).trans rfl; have rz2 : w7.cell? ⟨w.heap.size, 2, none⟩ = some (.string ⟨#[]⟩) := (blk_cell BR.out 2).trans rfl; have rz3 : w7.cell? ⟨w.heap.size, 3, none⟩ = some (.string ⟨#[]⟩) := (blk_cell BR.out 3).trans rfl; have rz4 : w7.cell? ⟨w.heap.size, 4, none⟩ = some (.string ⟨#[]⟩) := (blk_cell BR.out 4).trans rfl; have rz5 : w7.cell? ⟨w.heap.size, 5, none⟩ = some (.string ⟨#[]⟩) := (blk_cell BR.out 5).trans rfl; have rf0 := blk_frozen BR.out 0; have rf1 := blk_frozen BR.out 1; have rf2 := blk_frozen BR.out 2; have rf3 := blk_frozen BR.out 3; have rf4 := blk_frozen BR.out 4; have rf5 := blk_frozen BR.out 5; clear ca0 ca1 ca2 ca3 ca4 ca5; have ca0 : w7.cell? ⟨w.heap.size + 1, 0, none⟩ = some (.int .i64 kd) := (blk_cell BA.out 0).trans rfl; have ca1 : w7.cell? ⟨w.heap.size + 1, 1, none⟩ = some (.string t0) := (blk_cell BA.out 1).trans rfl; have ca2 : w7.cell? ⟨w.heap.size + 1, 2, none⟩ = some (.string t1) := (blk_cell BA.out 2).trans rfl; have ca3 : w7.cell? ⟨w.heap.size + 1, 3, none⟩ = some (.string t2) := (blk_cell BA.out 3).trans rfl; have ca4 : w7.cell? ⟨w.heap.size + 1, 4, none⟩ = some (.string t3) := (blk_cell BA.out 4).trans rfl; have ca5 : w7.cell? ⟨w.heap.size + 1, 5, none⟩ = some (.string t4) := (blk_cell BA.out 5).trans rfl)
          refine bodyPost_ret (results_ct rfl _ _ w.heap.size 50 #[.int .i64 kd, .string t0, .string t1, .string t2, .string t3, .string t4] (0, 0) _ rfl ?_ Tryd.underlying50 rfl (by kernel_rfl)) rfl ⟨rfl, ?_⟩
          · refine blk_put (cs := #[.int .i64 kd, .string t0, .string t1, .string t2, .string t3, .string ⟨#[]⟩]) ?_ 5 _ rfl
            refine blk_put (cs := #[.int .i64 kd, .string t0, .string t1, .string t2, .string ⟨#[]⟩, .string ⟨#[]⟩]) ?_ 4 _ rfl
            refine blk_put (cs := #[.int .i64 kd, .string t0, .string t1, .string ⟨#[]⟩, .string ⟨#[]⟩, .string ⟨#[]⟩]) ?_ 3 _ rfl
            refine blk_put (cs := #[.int .i64 kd, .string t0, .string ⟨#[]⟩, .string ⟨#[]⟩, .string ⟨#[]⟩, .string ⟨#[]⟩]) ?_ 2 _ rfl
            refine blk_put (cs := #[.int .i64 kd, .string ⟨#[]⟩, .string ⟨#[]⟩, .string ⟨#[]⟩, .string ⟨#[]⟩, .string ⟨#[]⟩]) ?_ 1 _ rfl
            refine blk_put (cs := #[.int .i64 0, .string ⟨#[]⟩, .string ⟨#[]⟩, .string ⟨#[]⟩, .string ⟨#[]⟩, .string ⟨#[]⟩]) ?_ 0 _ rfl
            exact BR.out
          · exact below_set (below_set (below_set (below_set (below_set (below_set HB.out (Nat.le_refl _)) (Nat.le_refl _)) (Nat.le_refl _)) (Nat.le_refl _)) (Nat.le_refl _)) (Nat.le_refl _)
  · rw [if_neg hsz] at h
    have e := Option.some.inj h
    simp only [alias_Decode.z, Prod.mk.injEq] at e
    obtain ⟨rfl, rfl, rfl, rfl, rfl, rfl, rfl⟩ := e
    clear h
    have c1 : ((a0.size : Int) == 41) = false := beq_eq_false_iff_ne.mpr hsz
    have c2 : ((a0.size : Int) != 41) = true := bne_iff_ne.mpr hsz
    clear hsz
    obtain ⟨W0, hW0⟩ : ∃ W0, W0 = w.alloc (.cells #[.int .i64 0, .string ⟨#[]⟩, .string ⟨#[]⟩, .string ⟨#[]⟩, .string ⟨#[]⟩, .string ⟨#[]⟩] 50) := ⟨_, rfl⟩
    rw [← hW0] at br0 hb0
    have BR := Aside0.mk br0
    have HB := Aside0.mk hb0
    clear br0 hb0
    have rz0 : W0.cell? ⟨w.heap.size, 0, none⟩ = some (.int .i64 0) := (blk_cell BR.out 0).trans rfl
    have rz1 : W0.cell? ⟨w.heap.size, 1, none⟩ = some (.string ⟨#[]⟩) := (blk_cell BR.out 1).trans rfl
    have rz2 : W0.cell? ⟨w.heap.size, 2, none⟩ = some (.string ⟨#[]⟩) := (blk_cell BR.out 2).trans rfl
    have rz3 : W0.cell? ⟨w.heap.size, 3, none⟩ = some (.string ⟨#[]⟩) := (blk_cell BR.out 3).trans rfl
    have rz4 : W0.cell? ⟨w.heap.size, 4, none⟩ = some (.string ⟨#[]⟩) := (blk_cell BR.out 4).trans rfl
    have rz5 : W0.cell? ⟨w.heap.size, 5, none⟩ = some (.string ⟨#[]⟩) := (blk_cell BR.out 5).trans rfl
    have rf0 := blk_frozen BR.out 0
    have rf1 := blk_frozen BR.out 1
    have rf2 := blk_frozen BR.out 2
    have rf3 := blk_frozen BR.out 3
    have rf4 := blk_frozen BR.out 4
    have rf5 := blk_frozen BR.out 5
    rw [hW0] at BR HB rz0 rf0 rz1 rf1 rz2 rf2 rz3 rf3 rz4 rf4 rz5 rf5
    go_enter Tryd.func44, Tryd.ntmps44
    go_wp2
    refine bodyPost_ret (results_ct rfl _ _ w.heap.size 50 #[.int .i64 0, .string ⟨#[]⟩, .string ⟨#[]⟩, .string ⟨#[]⟩, .string ⟨#[]⟩, .string ⟨#[]⟩] (0, 0) _ rfl ?_ Tryd.underlying50 rfl (by kernel_rfl)) rfl ⟨rfl, ?_⟩
    · exact BR.out
    · exact HB.out

mutual
def isoglossref03_Unpack.j1 : Nat → Int → ByteArray → Option (ByteArray × Bool)
 | 0, _, _ => none
 | k + 1, x0, x3 => (isoglossref03_Pack.f k x3).bind fun bt705 => ((isoglossref03_May.f k x3).bind fun t708 => (if t708 = true then (if bt705.2 = true then (if bt705.1 = x0 then (some (x3, true)) else (some ((⟨#[]⟩ : ByteArray), false))) else (some ((⟨#[]⟩ : ByteArray), false))) else (some ((⟨#[]⟩ : ByteArray), false))))
def isoglossref03_Unpack.l0 : Nat → Int → ByteArray → Int → Option (ByteArray × Bool)
 | 0, _, _, _ => none
 | k + 1, x0, x3, x4 => if x4 ≥ 0 then (if 0 ≤ (IntKind.u64.wrap (wrap64 (8 * x4))) then (if ((shr .u64 x0 (IntKind.u64.wrap (wrap64 (8 * x4)))) % 256) = 0 then (isoglossref03_Unpack.j1 k x0 x3) else ((some (([(shr .u64 x0 (IntKind.u64.wrap (wrap64 (8 * x4)))) % 256] : List Int) : List Int)).bind fun y702 => (if x3.size + (strOfNums y702).size ≤ 9223372036854775807 then (isoglossref03_Unpack.l0 k x0 (x3 ++ (strOfNums y702)) (wrap64 (x4 - 1))) else (none)))) else (none)) else (isoglossref03_Unpack.j1 k x0 x3)
end
def isoglossref03_Unpack.f (k : Nat) (a0 : Int) : Option (ByteArray × Bool) := isoglossref03_Unpack.l0 k a0 (⟨#[]⟩ : ByteArray) 7
set_option maxHeartbeats 8000000 in
set_option maxRecDepth 100000 in
theorem isoglossref03_Unpack.calls (k : Nat) (a0 : Int) (r1 : ByteArray) (r2 : Bool) (w : World) (h : isoglossref03_Unpack.f k a0 = some (r1, r2)) :
  Calls Tryd.prog 112 #[.int .u64 a0] w fun e w' => e = .returned (.agg #[.string r1, .bool r2]) ∧ Below w.heap.size w w' := by
 have hu114 := Tryd.underlying114
 have hu95 := Tryd.underlying95
 have HB := ak (Below.refl w.heap.size w)
 have H : (isoglossref03_Unpack.l0 k a0 (⟨#[]⟩ : ByteArray) 7) = some (r1, r2) := h
 clear h
 have HC2 := ak H
 clear H
 go_enter Tryd.func112, Tryd.ntmps112
 go_upto_block 0 with (first | ((with_reducible refine gate_dst (N := 2) rfl ?_); refine box_event ?hg (N := 2) ?hd (cs := #[.string ⟨#[]⟩, .bool false]) (t := 114) ?hr ?_; (case hd => rfl); (case hg => rfl); (case hr => first | (go_simp; done) | (go_simp; rfl)); intro gb701 hg w3 hbox hb; have n0_ := ak (below_step bq hb); have n1_ := ak (hbox); have n2_ := ak ((by rw [hg]; exact (below_size bq) : w.heap.size ≤ gb701)); have n3_ := ak ((by rw [hg]; exact (below_size bq) : w.heap.size ≤ gb701)); clear HB; have HB := n0_; have BK701 := n1_; have GW701 := n2_; have GE701 := n3_; clear n0_ n1_ n2_ n3_; clear hb hbox hg))
 (try simp only [Act.put, pA, pB, pC])
 go_cut [3] (fun v3 wc => ∃ (kq : Nat) (x3_1 : ByteArray), v3 = .string x3_1 ∧ Aside0 (isoglossref03_Unpack.j1 kq a0 x3_1 = some (r1, r2)) ∧ Aside0 (kq ≤ k) ∧ Aside0 (wc.heap[gb701]? = some (.cells #[.string ⟨#[]⟩, .bool false] 114 (0, 0))) ∧ Aside0 (Below w.heap.size w wc))
 case first =>
  have H := HC2.out
  clear HC2
  have H' := ak H
  clear H
  go_wp2
  go_loopg [3, 4] k (fun kq v3 v4 w' => ∃ (x3_1 : ByteArray) (x4_1 : Int), v3 = .string x3_1 ∧ v4 = .int .i64 x4_1 ∧ Aside0 (isoglossref03_Unpack.l0 kq a0 x3_1 x4_1 = some (r1, r2)) ∧ Aside0 (kq ≤ k) ∧ Aside0 (w'.heap[gb701]? = some (.cells #[.string ⟨#[]⟩, .bool false] 114 (0, 0))) ∧ Aside0 (Below w.heap.size w w'))
  case atStart => exact ⟨((⟨#[]⟩ : ByteArray)), (7), (by first | rfl | (simp; done) | (simp [*]; done)), (by first | rfl | (simp; done) | (simp [*]; done)), H', ⟨Nat.le_refl _⟩, ⟨(bx BK701.out)⟩, ⟨bq⟩⟩
  case round =>
   clear H'
   try clear c1
   try clear p2
   obtain ⟨x3_1, x4_1, rfl, rfl, HA, HK1, BK701, HB⟩ := hrel
   cases gk with
   | zero => exact absurd HA.out (by simp [isoglossref03_Unpack.l0])
   | succ k1 =>
    have H := HA.out
    clear HA
    simp only [isoglossref03_Unpack.l0] at H
    by_cases c4 : x4_1 ≥ 0
    ·
     rw [if_pos c4] at H
     have c4b0 : decide (0 ≤ x4_1) = true := decide_eq_true c4
     clear c4
     (first | rw [c4b0] | (simp only [i64_w, i32_w]; rw [c4b0]) | rw [c4b2] | skip)
     obtain ⟨ji5, hji5⟩ : ∃ j_ : Int, (IntKind.u64.wrap (wrap64 (8 * x4_1))) = j_ := ⟨_, rfl⟩
     replace H : (if 0 ≤ (ji5) then (if ((shr .u64 a0 (ji5)) % 256) = 0 then (isoglossref03_Unpack.j1 k1 a0 x3_1) else ((some (([(shr .u64 a0 (ji5)) % 256] : List Int) : List Int)).bind fun y702 => (if x3_1.size + (strOfNums y702).size ≤ 9223372036854775807 then (isoglossref03_Unpack.l0 k1 a0 (x3_1 ++ (strOfNums y702)) (wrap64 (x4_1 - 1))) else (none)))) else (none)) = some (r1, r2) := by first | (rw [hji5] at H; exact H) | (simp only [hji5] at H ⊢; exact H)
     by_cases c6 : 0 ≤ (ji5)
     ·
      rw [if_pos c6] at H
      have c6b0 := eq_true c6
      have c6b1 : decide (0 ≤ (ji5)) = true := decide_eq_true c6
      clear c6
      obtain ⟨ji7, hji7⟩ : ∃ j_ : Int, (shr .u64 a0 (ji5)) = j_ := ⟨_, rfl⟩
      replace H : (if ((ji7) % 256) = 0 then (isoglossref03_Unpack.j1 k1 a0 x3_1) else ((some (([(ji7) % 256] : List Int) : List Int)).bind fun y702 => (if x3_1.size + (strOfNums y702).size ≤ 9223372036854775807 then (isoglossref03_Unpack.l0 k1 a0 (x3_1 ++ (strOfNums y702)) (wrap64 (x4_1 - 1))) else (none)))) = some (r1, r2) := by first | (rw [hji7] at H; exact H) | (simp only [hji7] at H ⊢; exact H)
      have hji7_ : (a0 / 2 ^ min (ji5).toNat 64) = ji7 := hji7
      have hji7z : (ji5) ≤ 64 → (a0 / 2 ^ (ji5).toNat) = ji7 := shr_small hji7
      by_cases c8 : ((ji7) % 256) = 0
      ·
       rw [if_pos c8] at H
       have c8b0 : (((ji7) % 256) == 0) = true := beq_iff_eq.mpr c8
       have c8b1 : (((ji7) % 256) != 0) = false := bne_eq_false_iff_eq.mpr c8
       (try (have c8b2 : (((ji7) % 256) : Int).toNat = 0 := by rw [c8]; rfl))
       clear c8
       have H' := ak H
       clear H
       go_wp2
       go_meet
       case rel => exact ⟨_, (x3_1), (by first | rfl | (simp; done) | (simp [*]; done)), H', ⟨by have := HK1.out; first | omega | exact Nat.le_refl _⟩, ⟨(bx BK701.out)⟩, ⟨bq⟩⟩
      ·
       rw [if_neg c8] at H
       have c8b0 : (((ji7) % 256) == 0) = false := beq_eq_false_iff_ne.mpr c8
       have c8b1 : (((ji7) % 256) != 0) = true := bne_iff_ne.mpr c8
       obtain ⟨y702, hy702⟩ : ∃ y_ : List Int, y_ = (([(ji7) % 256] : List Int)) := ⟨_, rfl⟩
       replace H : (if x3_1.size + (strOfNums y702).size ≤ 9223372036854775807 then (isoglossref03_Unpack.l0 k1 a0 (x3_1 ++ (strOfNums y702)) (wrap64 (x4_1 - 1))) else (none)) = some (r1, r2) := by first | (rw [hy702]; with_reducible exact H) | (have H2_ := (Option.bind_some _ _).symm.trans H; rw [hy702]; with_reducible exact H2_) | (have H2_ := (Option.bind_some _ _).symm.trans H; with_reducible exact H2_) | with_reducible exact H | (rw [hy702]; exact H) | exact H
       have Ny702 := ak hy702
       clear hy702
       by_cases c9 : x3_1.size + (strOfNums y702).size ≤ 9223372036854775807
       ·
        rw [if_pos c9] at H
        have c9b0 := eq_true c9
        have c9b1 : decide (x3_1.size + (strOfNums y702).size ≤ 9223372036854775807) = true := decide_eq_true c9
        try have c9b2 : (9223372036854775807 < x3_1.size + (strOfNums y702).size) = False := eq_false (Nat.not_lt.2 c9)
        have H' := ak H
        clear H
        go_wp2_with (first | ((with_reducible refine gate_dst (N := 22) rfl ?_); refine Kd.R_lit (Kd.int .u8) _ 5 ?hg (N := 22) ?hd (xs := ([(ji7) % 256] : List Int)) (inner := [.int .u8 ((ji7) % 256)]) (ok := fun _ => True) (okp := fun _ => True) ?hr ?hp (fun _ hk => hk) trivial (Below.refl _ _) (Nat.le_refl _) (by simp) ?_; (case hd => rfl); (case hg => rfl); (case hr => first | (go_simp; done) | (go_simp; rfl)); (case hp => exact (Reps.one (show Kd.M (Kd.int .u8) _ _ _ ((ji7) % 256) [.int .u8 ((ji7) % 256)] from rfl) (Reps.none _ _))); intro v703 w10 ho11 hb hg_ hnew_; clear hg_ hnew_; (first | rw [← Ny702.out] at ho11 | (simp only [Int.reduceToNat] at ho11; rw [← Ny702.out] at ho11)); have n0_ := ak (Kd.R_lower ho11 (below_size bq)); have n1_ := ak (blk_below (g := gb701) (bx BK701.out) hb); have n2_ := ak (below_step bq hb); clear BK701; clear HB; have HO704 := n0_; have BK701 := n1_; have HB := n2_; clear n0_ n1_ n2_; clear hb ho11; have hcv12 := own_string (P := Tryd.prog) Tryd.underlying28 Tryd.underlying5 Tryd.underlying9 (Kd.own_of_R HO704.out)))
        go_roundg k1
        case measure => have := HK1.out; omega
        case rel => exact ⟨(x3_1 ++ (strOfNums y702)), (wrap64 (x4_1 - 1)), (by first | rfl | (simp; done) | (simp [*]; done)), (by first | rfl | (simp; done) | (simp [*]; done)), H', ⟨by have := HK1.out; omega⟩, ⟨(bx BK701.out)⟩, ⟨bq⟩⟩
       ·
        rw [if_neg c9] at H
        exact absurd H (by simp)
     ·
      rw [if_neg c6] at H
      exact absurd H (by simp)
    ·
     rw [if_neg c4] at H
     have c4b0 : decide (0 ≤ x4_1) = false := decide_eq_false c4
     clear c4
     (first | rw [c4b0] | (simp only [i64_w, i32_w]; rw [c4b0]) | rw [c4b2] | skip)
     have H' := ak H
     clear H
     go_wp2
     go_meet
     case rel => exact ⟨_, (x3_1), (by first | rfl | (simp; done) | (simp [*]; done)), H', ⟨by have := HK1.out; first | omega | exact Nat.le_refl _⟩, ⟨(bx BK701.out)⟩, ⟨bq⟩⟩
 case rest =>
  clear HC2
  try clear c1
  try clear hcv1
  try clear p2
  try clear c4
  try clear c4b0
  try clear c6
  try clear c6b0
  try clear c6b1
  try clear p6
  try clear c8
  try clear c8b0
  try clear c8b1
  try clear c8b2
  try clear c9
  try clear c9b0
  try clear c9b1
  try clear c9b2
  try clear c11
  try clear hcv12
  try clear p2
  obtain ⟨kq, x3_1, rfl, HA, HJ1, BK701, HB⟩ := hcut
  cases kq with
  | zero => exact absurd HA.out (by simp [isoglossref03_Unpack.j1])
  | succ kj1 =>
   have H := HA.out
   clear HA
   simp only [isoglossref03_Unpack.j1] at H
   replace H := Option.bind_eq_some_iff.mp H
   obtain ⟨⟨t705, t706⟩, A130, H⟩ := H
   replace H : ((isoglossref03_May.f kj1 x3_1).bind fun t708 => (if t708 = true then (if t706 = true then (if t705 = a0 then (some (x3_1, true)) else (some ((⟨#[]⟩ : ByteArray), false))) else (some ((⟨#[]⟩ : ByteArray), false))) else (some ((⟨#[]⟩ : ByteArray), false)))) = some (r1, r2) := H
   have A13 := ak A130
   clear A130
   replace H := Option.bind_eq_some_iff.mp H
   obtain ⟨t708, A140, H⟩ := H
   have A14 := ak A140
   clear A140
   by_cases c15 : t708 = true
   ·
    subst c15
    have H1 : (if t706 = true then (if t705 = a0 then (some (x3_1, true)) else (some ((⟨#[]⟩ : ByteArray), false))) else (some ((⟨#[]⟩ : ByteArray), false))) = some (r1, r2) := by rw [if_pos rfl] at H; exact H
    clear H
    have H := H1
    clear H1
    by_cases c16 : t706 = true
    ·
     subst c16
     have H1 : (if t705 = a0 then (some (x3_1, true)) else (some ((⟨#[]⟩ : ByteArray), false))) = some (r1, r2) := by rw [if_pos rfl] at H; exact H
     clear H
     have H := H1
     clear H1
     by_cases c17 : t705 = a0
     ·
      rw [if_pos c17] at H
      have c17b0 : (t705 == a0) = true := beq_iff_eq.mpr c17
      have c17b1 : (t705 != a0) = false := bne_eq_false_iff_eq.mpr c17
      clear c17
      simp only [Option.some.injEq, Prod.mk.injEq] at H
      obtain ⟨rfl, rfl⟩ := H
      go_wp2_with (first | ((with_reducible refine gate_callee (f := 69) rfl ?_); refine goesL_ (some 26) rfl rfl Tryd.func69 (by kernel_rfl) rfl #[.string x3_1] rfl mq ?_; (with_reducible refine (isoglossref03_Pack.calls kj1 x3_1 t705 true _ A13.out).mono ?_); rintro e w18 ⟨rfl, hb⟩; refine ⟨_, rfl, ?_⟩; have n0_ := ak (blk_below (g := gb701) (bx BK701.out) hb); have n1_ := ak (below_step bq hb); clear BK701; clear HB; have BK701 := n0_; have HB := n1_; clear n0_ n1_; (try clear hb); (try clear hb2); (try clear hk); (try clear hi); (try clear A13)) | ((with_reducible refine gate_dst (N := 6) rfl ?_); refine box_event ?hg (N := 6) ?hd (cs := #[.int .u64 0, .bool false]) (t := 95) ?hr ?_; (case hd => rfl); (case hg => rfl); (case hr => first | (go_simp; done) | (go_simp; rfl)); intro gb707 hg w19 hbox hb; have n0_ := ak (blk_below (g := gb701) (bx BK701.out) hb); have n1_ := ak (below_step bq hb); have n2_ := ak (hbox); have n3_ := ak ((by rw [hg]; exact (below_size bq) : w.heap.size ≤ gb707)); have n4_ := ak ((by rw [hg]; exact (below_size bq) : w.heap.size ≤ gb707)); have n5_ := ak ((by rw [hg]; exact Nat.ne_of_lt (blk_lt (g := gb701) (bx BK701.out)) : gb701 ≠ gb707)); have n6_ := ak ((by rw [hg]; exact Nat.ne_of_gt (blk_lt (g := gb701) (bx BK701.out)) : gb707 ≠ gb701)); clear BK701; clear HB; have BK701 := n0_; have HB := n1_; have BK707 := n2_; have GW707 := n3_; have GE707 := n4_; have NB701_707 := n5_; have NB707_701 := n6_; clear n0_ n1_ n2_ n3_ n4_ n5_ n6_; clear hb hbox hg; have hnb20 := NB707_701.out; have hnc20 := NB701_707.out; obtain ⟨hcz21_0, hcz21_1⟩ := cz2 BK707.out; obtain ⟨hfz21_0, hfz21_1⟩ := fz2 BK707.out) | ((with_reducible refine gate_callee (f := 109) rfl ?_); refine goesL_ (some 28) rfl rfl Tryd.func109 (by kernel_rfl) rfl #[.string x3_1] rfl mq ?_; (with_reducible refine (isoglossref03_May.calls kj1 x3_1 true _ A14.out).mono ?_); rintro e w' ⟨rfl, ⟨nd, rfl⟩⟩; refine ⟨_, rfl, ?_⟩; obtain ⟨hcz22_0, hcz22_1⟩ := cz2 BK701.out; obtain ⟨hfz22_0, hfz22_1⟩ := fz2 BK701.out; (try clear A14)))
      refine bodyPost_ret (results_cell_row rfl _ _ gb701 114 #[.string x3_1, .bool true] (0, 0) _ rfl (bx (blk_put (cs := #[.string x3_1, .bool false]) (bx (blk_put (cs := #[.string ⟨#[]⟩, .bool false]) (bx (blk_far (bx (blk_far (bx BK701.out) NB701_707.out _)) NB701_707.out _)) 0 _ rfl)) 1 _ rfl)) Tryd.underlying114 rfl (by kernel_rfl)) rfl ?_
      exact ⟨by first | rfl | (simp [errW_none, errW_some] <;> rfl) | (simp [*, errW_none, errW_some] <;> rfl), bq⟩
     ·
      rw [if_neg c17] at H
      have c17b0 : (t705 == a0) = false := beq_eq_false_iff_ne.mpr c17
      have c17b1 : (t705 != a0) = true := bne_iff_ne.mpr c17
      simp only [Option.some.injEq, Prod.mk.injEq] at H
      obtain ⟨rfl, rfl⟩ := H
      go_wp2_with (first | ((with_reducible refine gate_callee (f := 69) rfl ?_); refine goesL_ (some 26) rfl rfl Tryd.func69 (by kernel_rfl) rfl #[.string x3_1] rfl mq ?_; (with_reducible refine (isoglossref03_Pack.calls kj1 x3_1 t705 true _ A13.out).mono ?_); rintro e w23 ⟨rfl, hb⟩; refine ⟨_, rfl, ?_⟩; have n0_ := ak (blk_below (g := gb701) (bx BK701.out) hb); have n1_ := ak (below_step bq hb); clear BK701; clear HB; have BK701 := n0_; have HB := n1_; clear n0_ n1_; (try clear hb); (try clear hb2); (try clear hk); (try clear hi); (try clear A13)) | ((with_reducible refine gate_dst (N := 6) rfl ?_); refine box_event ?hg (N := 6) ?hd (cs := #[.int .u64 0, .bool false]) (t := 95) ?hr ?_; (case hd => rfl); (case hg => rfl); (case hr => first | (go_simp; done) | (go_simp; rfl)); intro gb707 hg w24 hbox hb; have n0_ := ak (blk_below (g := gb701) (bx BK701.out) hb); have n1_ := ak (below_step bq hb); have n2_ := ak (hbox); have n3_ := ak ((by rw [hg]; exact (below_size bq) : w.heap.size ≤ gb707)); have n4_ := ak ((by rw [hg]; exact (below_size bq) : w.heap.size ≤ gb707)); have n5_ := ak ((by rw [hg]; exact Nat.ne_of_lt (blk_lt (g := gb701) (bx BK701.out)) : gb701 ≠ gb707)); have n6_ := ak ((by rw [hg]; exact Nat.ne_of_gt (blk_lt (g := gb701) (bx BK701.out)) : gb707 ≠ gb701)); clear BK701; clear HB; have BK701 := n0_; have HB := n1_; have BK707 := n2_; have GW707 := n3_; have GE707 := n4_; have NB701_707 := n5_; have NB707_701 := n6_; clear n0_ n1_ n2_ n3_ n4_ n5_ n6_; clear hb hbox hg; have hnb25 := NB707_701.out; have hnc25 := NB701_707.out; obtain ⟨hcz26_0, hcz26_1⟩ := cz2 BK707.out; obtain ⟨hfz26_0, hfz26_1⟩ := fz2 BK707.out) | ((with_reducible refine gate_callee (f := 109) rfl ?_); refine goesL_ (some 28) rfl rfl Tryd.func109 (by kernel_rfl) rfl #[.string x3_1] rfl mq ?_; (with_reducible refine (isoglossref03_May.calls kj1 x3_1 true _ A14.out).mono ?_); rintro e w' ⟨rfl, ⟨nd, rfl⟩⟩; refine ⟨_, rfl, ?_⟩; obtain ⟨hcz27_0, hcz27_1⟩ := cz2 BK701.out; obtain ⟨hfz27_0, hfz27_1⟩ := fz2 BK701.out; (try clear A14)))
      refine bodyPost_ret (results_cell_row rfl _ _ gb701 114 #[.string ⟨#[]⟩, .bool false] (0, 0) _ rfl (bx (blk_put (cs := #[.string ⟨#[]⟩, .bool false]) (bx (blk_put (cs := #[.string ⟨#[]⟩, .bool false]) (bx (blk_far (bx (blk_far (bx BK701.out) NB701_707.out _)) NB701_707.out _)) 0 _ rfl)) 1 _ rfl)) Tryd.underlying114 rfl (by kernel_rfl)) rfl ?_
      exact ⟨by first | rfl | (simp [errW_none, errW_some] <;> rfl) | (simp [*, errW_none, errW_some] <;> rfl), bq⟩
    ·
     replace c16 := Bool.eq_false_iff.mpr c16
     subst c16
     have H1 : (some ((⟨#[]⟩ : ByteArray), false)) = some (r1, r2) := by rw [if_neg (show ¬ (false = true) by decide)] at H; exact H
     clear H
     have H := H1
     clear H1
     simp only [Option.some.injEq, Prod.mk.injEq] at H
     obtain ⟨rfl, rfl⟩ := H
     go_wp2_with (first | ((with_reducible refine gate_callee (f := 69) rfl ?_); refine goesL_ (some 26) rfl rfl Tryd.func69 (by kernel_rfl) rfl #[.string x3_1] rfl mq ?_; (with_reducible refine (isoglossref03_Pack.calls kj1 x3_1 t705 false _ A13.out).mono ?_); rintro e w28 ⟨rfl, hb⟩; refine ⟨_, rfl, ?_⟩; have n0_ := ak (blk_below (g := gb701) (bx BK701.out) hb); have n1_ := ak (below_step bq hb); clear BK701; clear HB; have BK701 := n0_; have HB := n1_; clear n0_ n1_; (try clear hb); (try clear hb2); (try clear hk); (try clear hi); (try clear A13)) | ((with_reducible refine gate_dst (N := 6) rfl ?_); refine box_event ?hg (N := 6) ?hd (cs := #[.int .u64 0, .bool false]) (t := 95) ?hr ?_; (case hd => rfl); (case hg => rfl); (case hr => first | (go_simp; done) | (go_simp; rfl)); intro gb707 hg w29 hbox hb; have n0_ := ak (blk_below (g := gb701) (bx BK701.out) hb); have n1_ := ak (below_step bq hb); have n2_ := ak (hbox); have n3_ := ak ((by rw [hg]; exact (below_size bq) : w.heap.size ≤ gb707)); have n4_ := ak ((by rw [hg]; exact (below_size bq) : w.heap.size ≤ gb707)); have n5_ := ak ((by rw [hg]; exact Nat.ne_of_lt (blk_lt (g := gb701) (bx BK701.out)) : gb701 ≠ gb707)); have n6_ := ak ((by rw [hg]; exact Nat.ne_of_gt (blk_lt (g := gb701) (bx BK701.out)) : gb707 ≠ gb701)); clear BK701; clear HB; have BK701 := n0_; have HB := n1_; have BK707 := n2_; have GW707 := n3_; have GE707 := n4_; have NB701_707 := n5_; have NB707_701 := n6_; clear n0_ n1_ n2_ n3_ n4_ n5_ n6_; clear hb hbox hg; have hnb30 := NB707_701.out; have hnc30 := NB701_707.out; obtain ⟨hcz31_0, hcz31_1⟩ := cz2 BK707.out; obtain ⟨hfz31_0, hfz31_1⟩ := fz2 BK707.out) | ((with_reducible refine gate_callee (f := 109) rfl ?_); refine goesL_ (some 28) rfl rfl Tryd.func109 (by kernel_rfl) rfl #[.string x3_1] rfl mq ?_; (with_reducible refine (isoglossref03_May.calls kj1 x3_1 true _ A14.out).mono ?_); rintro e w' ⟨rfl, ⟨nd, rfl⟩⟩; refine ⟨_, rfl, ?_⟩; obtain ⟨hcz32_0, hcz32_1⟩ := cz2 BK701.out; obtain ⟨hfz32_0, hfz32_1⟩ := fz2 BK701.out; (try clear A14)))
     refine bodyPost_ret (results_cell_row rfl _ _ gb701 114 #[.string ⟨#[]⟩, .bool false] (0, 0) _ rfl (bx (blk_put (cs := #[.string ⟨#[]⟩, .bool false]) (bx (blk_put (cs := #[.string ⟨#[]⟩, .bool false]) (bx (blk_far (bx (blk_far (bx BK701.out) NB701_707.out _)) NB701_707.out _)) 0 _ rfl)) 1 _ rfl)) Tryd.underlying114 rfl (by kernel_rfl)) rfl ?_
     exact ⟨by first | rfl | (simp [errW_none, errW_some] <;> rfl) | (simp [*, errW_none, errW_some] <;> rfl), bq⟩
   ·
    replace c15 := Bool.eq_false_iff.mpr c15
    subst c15
    have H1 : (some ((⟨#[]⟩ : ByteArray), false)) = some (r1, r2) := by rw [if_neg (show ¬ (false = true) by decide)] at H; exact H
    clear H
    have H := H1
    clear H1
    simp only [Option.some.injEq, Prod.mk.injEq] at H
    obtain ⟨rfl, rfl⟩ := H
    go_wp2_with (first | ((with_reducible refine gate_callee (f := 69) rfl ?_); refine goesL_ (some 26) rfl rfl Tryd.func69 (by kernel_rfl) rfl #[.string x3_1] rfl mq ?_; (with_reducible refine (isoglossref03_Pack.calls kj1 x3_1 t705 t706 _ A13.out).mono ?_); rintro e w33 ⟨rfl, hb⟩; refine ⟨_, rfl, ?_⟩; have n0_ := ak (blk_below (g := gb701) (bx BK701.out) hb); have n1_ := ak (below_step bq hb); clear BK701; clear HB; have BK701 := n0_; have HB := n1_; clear n0_ n1_; (try clear hb); (try clear hb2); (try clear hk); (try clear hi); (try clear A13)) | ((with_reducible refine gate_dst (N := 6) rfl ?_); refine box_event ?hg (N := 6) ?hd (cs := #[.int .u64 0, .bool false]) (t := 95) ?hr ?_; (case hd => rfl); (case hg => rfl); (case hr => first | (go_simp; done) | (go_simp; rfl)); intro gb707 hg w34 hbox hb; have n0_ := ak (blk_below (g := gb701) (bx BK701.out) hb); have n1_ := ak (below_step bq hb); have n2_ := ak (hbox); have n3_ := ak ((by rw [hg]; exact (below_size bq) : w.heap.size ≤ gb707)); have n4_ := ak ((by rw [hg]; exact (below_size bq) : w.heap.size ≤ gb707)); have n5_ := ak ((by rw [hg]; exact Nat.ne_of_lt (blk_lt (g := gb701) (bx BK701.out)) : gb701 ≠ gb707)); have n6_ := ak ((by rw [hg]; exact Nat.ne_of_gt (blk_lt (g := gb701) (bx BK701.out)) : gb707 ≠ gb701)); clear BK701; clear HB; have BK701 := n0_; have HB := n1_; have BK707 := n2_; have GW707 := n3_; have GE707 := n4_; have NB701_707 := n5_; have NB707_701 := n6_; clear n0_ n1_ n2_ n3_ n4_ n5_ n6_; clear hb hbox hg; have hnb35 := NB707_701.out; have hnc35 := NB701_707.out; obtain ⟨hcz36_0, hcz36_1⟩ := cz2 BK707.out; obtain ⟨hfz36_0, hfz36_1⟩ := fz2 BK707.out) | ((with_reducible refine gate_callee (f := 109) rfl ?_); refine goesL_ (some 28) rfl rfl Tryd.func109 (by kernel_rfl) rfl #[.string x3_1] rfl mq ?_; (with_reducible refine (isoglossref03_May.calls kj1 x3_1 false _ A14.out).mono ?_); rintro e w' ⟨rfl, ⟨nd, rfl⟩⟩; refine ⟨_, rfl, ?_⟩; obtain ⟨hcz37_0, hcz37_1⟩ := cz2 BK701.out; obtain ⟨hfz37_0, hfz37_1⟩ := fz2 BK701.out; (try clear A14)))
    refine bodyPost_ret (results_cell_row rfl _ _ gb701 114 #[.string ⟨#[]⟩, .bool false] (0, 0) _ rfl (bx (blk_put (cs := #[.string ⟨#[]⟩, .bool false]) (bx (blk_put (cs := #[.string ⟨#[]⟩, .bool false]) (bx (blk_far (bx (blk_far (bx BK701.out) NB701_707.out _)) NB701_707.out _)) 0 _ rfl)) 1 _ rfl)) Tryd.underlying114 rfl (by kernel_rfl)) rfl ?_
    exact ⟨by first | rfl | (simp [errW_none, errW_some] <;> rfl) | (simp [*, errW_none, errW_some] <;> rfl), bq⟩

end Go.Proofs.YtmbfnbnlajchmaaDoor.P
