/- Made by a program of this seat's own (shake.py, merge.py): what the claim leans on: Tool2, Tool3, Tool4, Do, Facts, Awake, TopP, TopD. -/
import Derived.Test.YtpmcfckechjppaaGreatDoorDd13
import Derived.Test.YtpmcfckechjppaaGreatDoorDd14
import Derived.Test.YtpmcfckechjppaaGreatDoorDd18
set_option linter.unusedVariables false
set_option linter.unusedSimpArgs false
set_option maxRecDepth 100000
set_option maxHeartbeats 8000000
namespace Go.Proofs.YtpmcfckechjppaaGreatDoor.Ps
open Go.RowKit Go.Shelf Go.Proofs.YtpmcfckechjppaaGreatDoorW.PrintWords Go.Proofs.YtpmcfckechjppaaGreatDoorW.PrintLast Go.Proofs.YtpmcfckechjppaaGreatDoorW.PrintMore Go.Proofs.YtpmcfckechjppaaGreatDoor.P Go.Proofs.YtpmcfckechjppaaGreatDoor.LikW
def k7p (N : Nat) : Array MapEntry := #[{ key := .string ⟨#[112, 97, 114, 115, 101]⟩, val := .func (.func 92) #[] #[], born := 0 }, { key := .string ⟨#[99, 97, 110, 111, 110]⟩, val := .func (.func 95) #[] #[.pointer (some ⟨N, 0, none⟩)], born := 1 }, { key := .string ⟨#[109, 97, 120]⟩, val := .func (.func 98) #[] #[.pointer (some ⟨N, 0, none⟩)], born := 2 }, { key := .string ⟨#[109, 105, 110]⟩, val := .func (.func 101) #[] #[.pointer (some ⟨N, 0, none⟩)], born := 3 }, { key := .string ⟨#[102, 105, 108, 116, 101, 114]⟩, val := .func (.func 104) #[] #[], born := 4 }, { key := .string ⟨#[101, 120, 116, 101, 110, 100]⟩, val := .func (.func 108) #[] #[], born := 5 }, { key := .string ⟨#[108, 111, 111, 107, 117, 112]⟩, val := .func (.func 110) #[] #[], born := 6 }, { key := .string ⟨#[109, 97, 116, 99, 104]⟩, val := .func (.func 112) #[] #[.pointer (some ⟨N, 0, none⟩)], born := 7 }]
theorem k9p (B1 B2 B3 B4 : Nat) (w : World) : Calls Tryz.prog 60 #[q6h B1 B2 B3 B4] w fun e w' => (∃ b, e = .returned (.map (some b)) ∧ w'.heap[b]? = some (.map (k7p w.heap.size) 8)) ∧ w'.heap[w.heap.size]? = some (.cells (q4k B1 B2 B3 B4) 51 (0, 0)) ∧ Below w.heap.size w w' := by
 have hmf : ∀ (fn : Fn) (first cap : Array Value) (w : World), (Instr.makeFunc fn first cap).run Tryz.prog w = .ok (.func fn first cap) w := fun _ _ _ _ => rfl
 have hui := Tryz.underlying51
 have hm : ∀ W : World, (Instr.makeMap 80 none).run Tryz.prog W = .ok (.map (some W.heap.size)) (W.alloc (.map #[] 0)) := fun W => run_makeMap_plain W _
 obtain ⟨N, hN⟩ : ∃ N, N = w.heap.size := ⟨_, rfl⟩
 obtain ⟨W0, hW0⟩ : ∃ W0, W0 = w.alloc (.cells (q4k B1 B2 B3 B4) 51) := ⟨_, rfl⟩
 have I0 : W0.heap[N]? = some (.cells (q4k B1 B2 B3 B4) 51 (0, 0)) := by rw [hW0]; exact aZ hN
 have b0 : Below w.heap.size w W0 := by rw [hW0]; exact q0b (Below.refl _ _) _
 have h0 : (W0.alloc (.map #[] 0)).heap[W0.heap.size]? = some (.map #[] 0) := World.alloc_heap_new _ _
 have B0 : Below W0.heap.size W0 (W0.alloc (.map #[] 0)) := (Below.refl _ _).alloc (Nat.le_refl _) _
 obtain ⟨V1, u1, h1, B11, -, -⟩ := q3o (b := W0.heap.size) Tryz.underlying80 Tryz.underlying9 h0 B0 (Nat.le_refl _) (.string ⟨#[112, 97, 114, 115, 101]⟩) (.func (.func 92) #[] #[]) (by simp [MapKept.IsKey]) rfl
 obtain ⟨V2, u2, h2, B12, -, -⟩ := q3o (b := W0.heap.size) Tryz.underlying80 Tryz.underlying9 h1 B11 (Nat.le_refl _) (.string ⟨#[99, 97, 110, 111, 110]⟩) (.func (.func 95) #[] #[.pointer (some ⟨N, 0, none⟩)]) (by simp [MapKept.IsKey]) rfl
 obtain ⟨V3, u3, h3, B13, -, -⟩ := q3o (b := W0.heap.size) Tryz.underlying80 Tryz.underlying9 h2 B12 (Nat.le_refl _) (.string ⟨#[109, 97, 120]⟩) (.func (.func 98) #[] #[.pointer (some ⟨N, 0, none⟩)]) (by simp [MapKept.IsKey]) rfl
 obtain ⟨V4, u4, h4, B14, -, -⟩ := q3o (b := W0.heap.size) Tryz.underlying80 Tryz.underlying9 h3 B13 (Nat.le_refl _) (.string ⟨#[109, 105, 110]⟩) (.func (.func 101) #[] #[.pointer (some ⟨N, 0, none⟩)]) (by simp [MapKept.IsKey]) rfl
 obtain ⟨V5, u5, h5, B15, -, -⟩ := q3o (b := W0.heap.size) Tryz.underlying80 Tryz.underlying9 h4 B14 (Nat.le_refl _) (.string ⟨#[102, 105, 108, 116, 101, 114]⟩) (.func (.func 104) #[] #[]) (by simp [MapKept.IsKey]) rfl
 obtain ⟨V6, u6, h6, B16, -, -⟩ := q3o (b := W0.heap.size) Tryz.underlying80 Tryz.underlying9 h5 B15 (Nat.le_refl _) (.string ⟨#[101, 120, 116, 101, 110, 100]⟩) (.func (.func 108) #[] #[]) (by simp [MapKept.IsKey]) rfl
 obtain ⟨V7, u7, h7, B17, -, -⟩ := q3o (b := W0.heap.size) Tryz.underlying80 Tryz.underlying9 h6 B16 (Nat.le_refl _) (.string ⟨#[108, 111, 111, 107, 117, 112]⟩) (.func (.func 110) #[] #[]) (by simp [MapKept.IsKey]) rfl
 obtain ⟨V8, u8, h8, B18, -, -⟩ := q3o (b := W0.heap.size) Tryz.underlying80 Tryz.underlying9 h7 B17 (Nat.le_refl _) (.string ⟨#[109, 97, 116, 99, 104]⟩) (.func (.func 112) #[] #[.pointer (some ⟨N, 0, none⟩)]) (by simp [MapKept.IsKey]) rfl
 have hfin : V8.heap[W0.heap.size]? = some (.map (k7p N) 8) := h8
 have HI : V8.heap[N]? = some (.cells (q4k B1 B2 B3 B4) 51 (0, 0)) := (B18.block _ (q0g I0)).trans I0
 have HB : Below w.heap.size w V8 := b0.trans (B18.mono b0.size)
 unfold q4k at hW0
 rw [← hN]
 have HF := aq hfin
 have HI2 := aq HI
 have HB2 := aq HB
 have HW := aq hW0.symm
 have HNN := aq hN.symm
 clear h0 B0 h1 h2 h3 h4 h5 h6 h7 h8 B11 B12 B13 B14 B15 B16 B17 B18 I0 b0 hfin HI HB hW0 hN
 unfold q6h
 go_enter Tryz.func60, Tryz.ntmps60
 go_wp2_with (first | (rw [HW.out, HNN.out]))
 go_ret
 exact ⟨⟨_, rfl, HF.out⟩, HI2.out, HNN.out ▸ HB2.out⟩
def q2h (s : ByteArray) (x y z : ByteArray) : Prop := ∀ w : World, GrandW.G w → Calls Tryz.prog 26 #[.string s] w fun e w' => e = .returned (.tuple #[T3 x y z, .nilIface]) ∧ Below w.heap.size w w'
def z3p (x y z s : ByteArray) : Prop := ∀ w : World, Calls Tryz.prog 44 #[T3 x y z] w fun e w' => e = .returned (.string s) ∧ Below w.heap.size w w'
def okT (s : ByteArray) : ByteArray := ⟨(Lib.join [[111, 107], s.data.toList] [32]).toArray⟩
theorem k4p (b o c : Nat) (s x y z a1 a2 a3 t : ByteArray) (hp : q2h s x y z) (ht : z3p a1 a2 a3 t) (htl : t.size ≤ 1000000) (g : Nat) (lb : Array Value) (w : World) (eg : ∀ args W, (callFunc g args).run Tryz.prog W = .ok (.enter g args) W) (hdo : ∀ W, Below w.heap.size w W → Calls Tryz.prog g (#[T3 x y z] ++ lb) W fun e w' => e = .returned (.tuple #[T3 a1 a2 a3, .bool true]) ∧ Below W.heap.size W w') (hG : GrandW.G w) (hc : w.cell? ⟨b, o, none⟩ = some (.string s)) :
 Calls Tryz.prog 93 #[.slice (some ⟨b, o, none⟩) 1 c, .func (.func g) #[] lb] w fun e w' => e = .returned (.string (okT t)) ∧ Below w.heap.size w w' := by
 have hut := Tryz.underlying33
 have hus := Tryz.underlying26
 have hee : ∀ W : World, (binOp BinOp.neq 55 .nilIface .nilIface).run Tryz.prog W = .ok (.bool false) W := fun W => by kernel_rfl
 have HP := aq hp
 have HT := aq ht
 have HD := aq hdo
 have HG := aq hG
 clear hp ht hdo hG
 go_enter Tryz.func93, Tryz.ntmps93
 go_wp2_with (first
  | (go_at_call 26; refine (HP.out _ HG.out).mono ?_; rintro e w1 ⟨rfl, hb⟩; unfold T3; have B1 := aq hb; clear hb))
 have BT : q0c (Below w.heap.size w (w1.alloc (.cells (T3c x y z) 33))) := ⟨q0b B1.out _⟩
 have hdo := HD.out _ BT.out
 unfold T3 T3c at hdo
 refine hdo.mono ?_
 rintro e w2 ⟨rfl, hb2⟩
 have B2 : q0c (Below w.heap.size w w2) := ⟨by
  have h := BT.out
  unfold T3c at h
  exact h.trans (hb2.mono h.size)⟩
 clear hdo hb2 hc
 obtain ⟨w3, hw3⟩ : ∃ w3, w3 = w2.alloc (.cells (T3c a1 a2 a3) 33) := ⟨_, rfl⟩
 have U3 : w3.heap[w2.heap.size]? = some (.cells (T3c a1 a2 a3) 33 (0, 0)) := by rw [hw3]; exact aZ rfl
 have B3 : q0c (Below w.heap.size w w3) := ⟨by rw [hw3]; exact q0b B2.out _⟩
 unfold T3c at hw3
 have HW3 := aq hw3.symm
 obtain ⟨z0, z1, z2, z3, z4, z5, z6, z7⟩ := q5u U3
 clear hw3 U3
 have htoken : q0c (1 = 1) := ⟨rfl⟩
 go_wp2_with (first
  | (rw [HW3.out])
  | (go_at_call 44; have h9 := HT.out w3; unfold T3 at h9; refine h9.mono ?_; rintro e w4 ⟨rfl, hb4⟩; have B4 := aq (B3.out.trans (hb4.mono B3.out.size)); clear hb4 h9)
  | (go_at_call 107; refine (j2e w4.heap.size 1 t htl _ ((q0a (aZ rfl) 0).trans rfl)).mono ?_; rintro e w5 ⟨rfl, hb5⟩))
 go_ret
 refine ⟨rfl, ?_⟩
 have h := q0b B4.out (.cells #[.string t] 9)
 exact h.trans (hb5.mono h.size)
def z0z (B1 B2 B3 B4 : Nat) (x y z a b c : ByteArray) : Prop := ∀ w : World, Img w B1 B2 B3 B4 → Calls Tryz.prog 97 #[q6h B1 B2 B3 B4, T3 x y z] w fun e w' => e = .returned (T3 a b c) ∧ Below w.heap.size w w'
theorem k2f (B1 B2 B3 B4 pi : Nat) (x y z a b c : ByteArray) (hcan : z0z B1 B2 B3 B4 x y z a b c) (w : World) (hI : Img w B1 B2 B3 B4) (hp : w.heap[pi]? = some (.cells (q4k B1 B2 B3 B4) 51 (0, 0))) :
 Calls Tryz.prog 96 (#[T3 x y z] ++ #[.pointer (some ⟨pi, 0, none⟩)]) w fun e w' => e = .returned (.tuple #[T3 a b c, .bool true]) ∧ Below w.heap.size w w' := by
 have hut := Tryz.underlying33
 have hui := Tryz.underlying51
 obtain ⟨W0, hW0⟩ : ∃ W0, W0 = (w.alloc (.cells (T3c x y z) 33)).alloc (.cells (T3c ⟨#[]⟩ ⟨#[]⟩ ⟨#[]⟩) 33) := ⟨_, rfl⟩
 have b0 : Below w.heap.size w W0 := by rw [hW0]; exact q0b (q0b (Below.refl _ _) _) _
 have T0 : W0.heap[w.heap.size]? = some (.cells (T3c x y z) 33 (0, 0)) := by rw [hW0]; exact aN (aZ rfl)
 have Z0 : W0.heap[w.heap.size + 1]? = some (.cells (T3c ⟨#[]⟩ ⟨#[]⟩ ⟨#[]⟩) 33 (0, 0)) := by rw [hW0]; exact aZ (by simp)
 have I0 := (b0.block _ (q0g hp)).trans hp
 obtain ⟨i0, i1, i2, i3, i4, i5⟩ := cz6 (show W0.heap[pi]? = some (.cells #[.slice (some ⟨B1, 0, none⟩) 54 54, .slice (some ⟨B2, 0, none⟩) 32 32, .slice (some ⟨B3, 0, none⟩) 15 15, .slice (some ⟨B4, 0, none⟩) 7 7, .int .i64 40, .int .i64 5] 51 (0, 0)) from I0)
 obtain ⟨z0, z1, z2, z3, z4, z5, z6, z7⟩ := q5u T0
 have HZ := aq Z0
 have HI := aq (hI.below b0)
 have HB := aq b0
 have HC := aq hcan
 unfold T3c at hW0
 have HW := aq hW0.symm
 clear hW0 b0 T0 Z0 I0 hI hcan hp
 unfold T3
 simp only [List.append_toArray, List.cons_append, List.nil_append]
 go_enter Tryz.func96, Tryz.ntmps96
 go_wp2_with (first
  | (rw [HW.out])
  | (go_at_call 97; have h9 := HC.out _ HI.out; unfold q6h T3 at h9; refine h9.mono ?_; rintro e w1 ⟨rfl, hb⟩; have HZ1 := kb HZ hb; have HB1 := aq (HB.out.trans (hb.mono HB.out.size)); obtain ⟨y0, y1, y2, y3, y4, y5, y6, y7⟩ := q5u HZ1.out; obtain ⟨f0, f1, f2, f3, f4, f5, f6, f7⟩ := v0x HZ1.out; clear hb h9))
 rw [q3q]
 obtain ⟨x0, x1, x2, x3, x4, x5, x6, x7⟩ := q5u (q5y HZ1.out a b c)
 refine bodyPost_ret (v := .tuple #[.agg #[.string a, .slice none 0 0, .string b, .string c, .slice none 0 0, .slice none 0 0, .slice none 0 0, .string ⟨#[]⟩], .bool true]) ?_ rfl ⟨rfl, q2k HB1.out (by omega) _ _ _⟩
 simp [results, Tryz.results96, asAddr, x0, x1, x2, x3, x4, x5, x6, x7, hut, go_sem]
theorem v8p (B1 B2 B3 B4 pi : Nat) (q o cc : Nat) (s x y z a b c t : ByteArray) (hP : q2h s x y z) (hS : z3p a b c t) (htl : t.size ≤ 1000000) (hcan : z0z B1 B2 B3 B4 x y z a b c) (w : World) (hI : Img w B1 B2 B3 B4) (hp : w.heap[pi]? = some (.cells (q4k B1 B2 B3 B4) 51 (0, 0))) (hc : w.cell? ⟨q, o, none⟩ = some (.string s)) :
 Calls Tryz.prog 95 #[.slice (some ⟨q, o, none⟩) 1 cc, .pointer (some ⟨pi, 0, none⟩)] w fun e w' => e = .returned (.string (okT t)) ∧ Below w.heap.size w w' := by
 have hmf : ∀ (fn : Fn) (first cap : Array Value) (w : World), (Instr.makeFunc fn first cap).run Tryz.prog w = .ok (.func fn first cap) w := fun _ _ _ _ => rfl
 have eg := enters_of Tryz.func96 (by kernel_rfl) rfl
 have HP := aq hP
 have HS := aq hS
 have HC := aq hcan
 have HI := aq hI
 have Hp := aq hp
 have Hc := aq hc
 have EG := aq eg
 clear hP hS hcan hI hp hc eg
 go_enter Tryz.func95, Tryz.ntmps95
 go_wp2_with (first
  | (go_at_call 93; refine (k4p q o cc s x y z a b c t HP.out HS.out htl 96 #[.pointer (some ⟨pi, 0, none⟩)] _ EG.out (fun W hW => k2f B1 B2 B3 B4 pi x y z a b c HC.out W (HI.out.below hW) ((hW.block _ (q0g Hp.out)).trans Hp.out)) HI.out.g Hc.out).mono ?_; rintro e w1 ⟨rfl, hb⟩))
 go_ret
 exact ⟨rfl, hb⟩
theorem k2i (B1 B2 B3 B4 pi ps : Nat) (x y z a b c : ByteArray) (hcan : z0z B1 B2 B3 B4 x y z a b c) (f : K3) (hm : z0l q3x (a, b, c) = (f, true)) (u : K3) (hu : (q5e f.1 f.2.1 f.2.2).find? (k7x f) = some u) (w : World) (hI : Img w B1 B2 B3 B4) (hp : w.heap[pi]? = some (.cells (q4k B1 B2 B3 B4) 51 (0, 0))) (hs : w.heap[ps]? = some (.cells #[.bool false] 4 (0, 0))) :
 Calls Tryz.prog 102 (#[T3 x y z] ++ #[.pointer (some ⟨pi, 0, none⟩), .pointer (some ⟨ps, 0, none⟩)]) w fun e w' => e = .returned (.tuple #[T3 u.1 u.2.1 u.2.2, .bool true]) ∧ Below w.heap.size w w' := by
 have hut := Tryz.underlying33
 have hui := Tryz.underlying51
 obtain ⟨W0, hW0⟩ : ∃ W0, W0 = (w.alloc (.cells (T3c x y z) 33)).alloc (.cells (T3c ⟨#[]⟩ ⟨#[]⟩ ⟨#[]⟩) 33) := ⟨_, rfl⟩
 have KB : q0c (Below w.heap.size w W0) := ⟨by rw [hW0]; exact q0b (q0b (Below.refl _ _) _) _⟩
 have KT : q0c (W0.heap[w.heap.size]? = some (.cells (T3c x y z) 33 (0, 0))) := ⟨by rw [hW0]; exact aN (aZ rfl)⟩
 have KZ : q0c (W0.heap[w.heap.size + 1]? = some (.cells (T3c ⟨#[]⟩ ⟨#[]⟩ ⟨#[]⟩) 33 (0, 0))) := ⟨by rw [hW0]; exact aZ (by simp)⟩
 have KI : q0c (W0.heap[pi]? = some (.cells (q4k B1 B2 B3 B4) 51 (0, 0))) := ⟨(KB.out.block _ (q0g hp)).trans hp⟩
 have KS : q0c (W0.heap[ps]? = some (.cells #[.bool false] 4 (0, 0))) := ⟨(KB.out.block _ (q0g hs)).trans hs⟩
 have lp := q0g hp
 have ls := q0g hs
 have HI := aq hI
 have HC := aq hcan
 have HM := aq hm
 have HU := aq hu
 unfold T3c at hW0
 have HW := aq hW0.symm
 clear hW0 hI hcan hp hs hm hu
 unfold T3
 simp only [List.append_toArray, List.cons_append, List.nil_append]
 go_enter Tryz.func102, Tryz.ntmps102
 go_wp2_with (first | (rw [HW.out]))
 refine q2w (n := 10) (S := fun w' => w'.cell? ⟨pi, 0, none⟩ = some (.slice (some ⟨B1, 0, none⟩) 54 54) ∧ w'.cell? ⟨pi, 1, none⟩ = some (.slice (some ⟨B2, 0, none⟩) 32 32) ∧ w'.cell? ⟨pi, 2, none⟩ = some (.slice (some ⟨B3, 0, none⟩) 15 15) ∧ w'.cell? ⟨pi, 3, none⟩ = some (.slice (some ⟨B4, 0, none⟩) 7 7) ∧ w'.cell? ⟨pi, 4, none⟩ = some (.int .i64 40) ∧ w'.cell? ⟨pi, 5, none⟩ = some (.int .i64 5) ∧ w'.cell? ⟨w.heap.size, 0, none⟩ = some (.string x) ∧ w'.cell? ⟨w.heap.size, 1, none⟩ = some (.slice none 0 0) ∧ w'.cell? ⟨w.heap.size, 2, none⟩ = some (.string y) ∧ w'.cell? ⟨w.heap.size, 3, none⟩ = some (.string z) ∧ w'.cell? ⟨w.heap.size, 4, none⟩ = some (.slice none 0 0) ∧ w'.cell? ⟨w.heap.size, 5, none⟩ = some (.slice none 0 0) ∧ w'.cell? ⟨w.heap.size, 6, none⟩ = some (.slice none 0 0) ∧ w'.cell? ⟨w.heap.size, 7, none⟩ = some (.string ⟨#[]⟩) ∧ w'.cell? ⟨ps, 0, none⟩ = some (.bool false)) (ds := []) (M 10 0) (by kernel_rfl) rfl rfl ⟨(q0a (w := W0.drew) KI.out 0).trans rfl, (q0a (w := W0.drew) KI.out 1).trans rfl, (q0a (w := W0.drew) KI.out 2).trans rfl, (q0a (w := W0.drew) KI.out 3).trans rfl, (q0a (w := W0.drew) KI.out 4).trans rfl, (q0a (w := W0.drew) KI.out 5).trans rfl, (q0a (w := W0.drew) KT.out 0).trans rfl, (q0a (w := W0.drew) KT.out 1).trans rfl, (q0a (w := W0.drew) KT.out 2).trans rfl, (q0a (w := W0.drew) KT.out 3).trans rfl, (q0a (w := W0.drew) KT.out 4).trans rfl, (q0a (w := W0.drew) KT.out 5).trans rfl, (q0a (w := W0.drew) KT.out 6).trans rfl, (q0a (w := W0.drew) KT.out 7).trans rfl, (q0a (w := W0.drew) KS.out 0).trans rfl⟩ (fun hHeld => ?_)
 obtain ⟨V, hV⟩ : ∃ V, V = W0.drew := ⟨_, rfl⟩
 replace KI := dwK KI hV
 replace KT := dwK KT hV
 replace KS := dwK KS hV
 replace KZ := dwK KZ hV
 replace KB : q0c (Below w.heap.size w V) := by rw [hV]; exact ⟨q0m KB.out⟩
 rw [← hV] at hHeld ⊢
 clear hV
 refine tw 0 6 (M 10 1) hHeld ?_
 refine tw 1 7 (M 10 3) hHeld ?_
 refine tw 2 8 (M 10 7) hHeld ?_
 refine tw 4 10 (M 10 23) hHeld ?_
 refine ow 3 (some 9) (M 10 31) fun K hK => ?_
 refine gow Tryz.func97 #[.agg #[.slice (some ⟨B1, 0, none⟩) 54 54, .slice (some ⟨B2, 0, none⟩) 32 32, .slice (some ⟨B3, 0, none⟩) 15 15, .slice (some ⟨B4, 0, none⟩) 7 7, .int .i64 40, .int .i64 5], .agg #[.string x, .slice none 0 0, .string y, .string z, .slice none 0 0, .slice none 0 0, .slice none 0 0, .string ⟨#[]⟩]] ?_
 have h9 := HC.out _ (HI.out.below KB.out)
 unfold q6h T3 at h9
 refine h9.mono ?_
 rintro e w1 ⟨rfl, hb⟩
 replace KI := kb KI hb
 replace KT := kb KT hb
 replace KS := kb KS hb
 replace KZ := kb KZ hb
 replace KB : q0c (Below w.heap.size w w1) := ⟨KB.out.trans (hb.mono KB.out.size)⟩
 clear hb h9
 refine ⟨_, rfl, ?_⟩
 refine hK.out _ _ ⟨(q0a KI.out 0).trans rfl, (q0a KI.out 1).trans rfl, (q0a KI.out 2).trans rfl, (q0a KI.out 3).trans rfl, (q0a KI.out 4).trans rfl, (q0a KI.out 5).trans rfl, (q0a KT.out 0).trans rfl, (q0a KT.out 1).trans rfl, (q0a KT.out 2).trans rfl, (q0a KT.out 3).trans rfl, (q0a KT.out 4).trans rfl, (q0a KT.out 5).trans rfl, (q0a KT.out 6).trans rfl, (q0a KT.out 7).trans rfl, (q0a KS.out 0).trans rfl⟩ (fun hHeld => ?_)
 clear hK K
 refine nw 9 ?_
 refine ow 5 (some 11) (M 10 63) fun K hK => ?_
 refine gow Tryz.func103 #[.agg #[.slice (some ⟨B1, 0, none⟩) 54 54, .slice (some ⟨B2, 0, none⟩) 32 32, .slice (some ⟨B3, 0, none⟩) 15 15, .slice (some ⟨B4, 0, none⟩) 7 7, .int .i64 40, .int .i64 5], .agg #[.string a, .slice none 0 0, .string b, .string c, .slice none 0 0, .slice none 0 0, .slice none 0 0, .string ⟨#[]⟩], .bool false] ?_
 have h9 := v6j B1 B2 B3 B4 a b c f HM.out u HU.out _ (HI.out.below KB.out).c2
 unfold q6h T3 at h9
 refine h9.mono ?_
 rintro e w1 ⟨rfl, hb⟩
 replace KI := kb KI hb
 replace KT := kb KT hb
 replace KS := kb KS hb
 replace KZ := kb KZ hb
 replace KB : q0c (Below w.heap.size w w1) := ⟨KB.out.trans (hb.mono KB.out.size)⟩
 clear hb h9
 refine ⟨_, rfl, ?_⟩
 refine hK.out _ _ ⟨(q0a KI.out 0).trans rfl, (q0a KI.out 1).trans rfl, (q0a KI.out 2).trans rfl, (q0a KI.out 3).trans rfl, (q0a KI.out 4).trans rfl, (q0a KI.out 5).trans rfl, (q0a KT.out 0).trans rfl, (q0a KT.out 1).trans rfl, (q0a KT.out 2).trans rfl, (q0a KT.out 3).trans rfl, (q0a KT.out 4).trans rfl, (q0a KT.out 5).trans rfl, (q0a KT.out 6).trans rfl, (q0a KT.out 7).trans rfl, (q0a KS.out 0).trans rfl⟩ (fun hHeld => ?_)
 clear hK K
 refine nw 11 ?_
 refine pw 6 12 (M 10 127) ?_
 refine pw 7 13 (M 10 255) ?_
 refine ow 8 (none) (M 10 511) fun K hK => ?_
 refine q2d (g := w.heap.size + 1) (off := 0) (cur := T3c ⟨#[]⟩ ⟨#[]⟩ ⟨#[]⟩) (new := T3c u.1 u.2.1 u.2.2) (seg := [.string u.1, .slice none 0 0, .string u.2.1, .string u.2.2, .slice none 0 0, .slice none 0 0, .slice none 0 0, .string ⟨#[]⟩]) (u := .agg #[.string u.1, .slice none 0 0, .string u.2.1, .string u.2.2, .slice none 0 0, .slice none 0 0, .slice none 0 0, .string ⟨#[]⟩]) rfl rfl rfl rfl rfl rfl (by rfl) (by kernel_rfl) rfl rfl (Nat.le_of_ble_eq_true rfl) KZ.out ?_
 intro V3 hk hp
 replace KI := kp KI hp (by omega)
 replace KT := kp KT hp (by omega)
 replace KS := kp KS hp (by omega)
 replace KB := bp KB hp (by omega)
 replace KZ := aq hk
 clear hk hp
 refine hK.out _ _ ⟨(q0a KI.out 0).trans rfl, (q0a KI.out 1).trans rfl, (q0a KI.out 2).trans rfl, (q0a KI.out 3).trans rfl, (q0a KI.out 4).trans rfl, (q0a KI.out 5).trans rfl, (q0a KT.out 0).trans rfl, (q0a KT.out 1).trans rfl, (q0a KT.out 2).trans rfl, (q0a KT.out 3).trans rfl, (q0a KT.out 4).trans rfl, (q0a KT.out 5).trans rfl, (q0a KT.out 6).trans rfl, (q0a KT.out 7).trans rfl, (q0a KS.out 0).trans rfl⟩ (fun hHeld => ?_)
 clear hK K
 refine pw 9 5 (M 10 1023) ?_
 refine q4t (by kernel_rfl) ?_
 obtain ⟨x0, x1, x2, x3, x4, x5, x6, x7⟩ := q5u KZ.out
 clear hHeld
 go_wp2
 refine bodyPost_ret (v := .tuple #[.agg #[.string u.1, .slice none 0 0, .string u.2.1, .string u.2.2, .slice none 0 0, .slice none 0 0, .slice none 0 0, .string ⟨#[]⟩], .bool true]) ?_ rfl ⟨rfl, KB.out⟩
 simp [results, Tryz.results102, asAddr, x0, x1, x2, x3, x4, x5, x6, x7, hut, go_sem]
theorem k7i (B1 B2 B3 B4 pi : Nat) (q o cc : Nat) (s x y z a b c t : ByteArray) (hP : q2h s x y z) (hcan : z0z B1 B2 B3 B4 x y z a b c) (f : K3) (hm : z0l q3x (a, b, c) = (f, true)) (u : K3) (hu : (q5e f.1 f.2.1 f.2.2).find? (k7x f) = some u) (hS : z3p u.1 u.2.1 u.2.2 t) (htl : t.size ≤ 1000000) (w : World) (hI : Img w B1 B2 B3 B4) (hp : w.heap[pi]? = some (.cells (q4k B1 B2 B3 B4) 51 (0, 0))) (hc : w.cell? ⟨q, o, none⟩ = some (.string s)) :
 Calls Tryz.prog 101 #[.slice (some ⟨q, o, none⟩) 1 cc, .pointer (some ⟨pi, 0, none⟩)] w fun e w' => e = .returned (.string (okT t)) ∧ Below w.heap.size w w' := by
 have hmf : ∀ (fn : Fn) (first cap : Array Value) (w : World), (Instr.makeFunc fn first cap).run Tryz.prog w = .ok (.func fn first cap) w := fun _ _ _ _ => rfl
 have eg := enters_of Tryz.func102 (by kernel_rfl) rfl
 have EG := aq eg
 obtain ⟨V, hV⟩ : ∃ V, V = w.alloc (.cells #[.bool false] 4) := ⟨_, rfl⟩
 have hb0 : Below w.heap.size w V := by rw [hV]; exact q0b (Below.refl _ _) _
 have hs : V.heap[w.heap.size]? = some (.cells #[.bool false] 4 (0, 0)) := by rw [hV]; exact aZ rfl
 have HP := aq hP
 have HS := aq hS
 have HC := aq hcan
 have HM := aq hm
 have HU := aq hu
 have HI := aq (hI.below hb0)
 have Hp := aq ((hb0.block _ (q0g hp)).trans hp)
 have Hc := aq ((World.cell?_of_block (hb0.block _ (World.block_lt_of_cell? w _ hc))).trans hc)
 have Hs := aq hs
 have HB := aq hb0
 have HV := aq hV.symm
 have s0 := (q0a hs 0).trans rfl
 clear hP hS hcan hI hp hc eg hm hu hV hb0 hs
 go_enter Tryz.func101, Tryz.ntmps101
 go_wp2_with (first
  | (go_at_call 93; rw [HV.out]; refine (k4p q o cc s x y z u.1 u.2.1 u.2.2 t HP.out HS.out htl 102 #[.pointer (some ⟨pi, 0, none⟩), .pointer (some ⟨w.heap.size, 0, none⟩)] _ EG.out (fun W hW => k2i B1 B2 B3 B4 pi w.heap.size x y z a b c HC.out f HM.out u HU.out W (HI.out.below hW) ((hW.block _ (q0g Hp.out)).trans Hp.out) ((hW.block _ (q0g Hs.out)).trans Hs.out)) HI.out.g Hc.out).mono ?_; rintro e w1 ⟨rfl, hb⟩))
 go_ret
 exact ⟨rfl, HB.out.trans (hb.mono HB.out.size)⟩
theorem k4r (b o c : Nat) (ts : List (ByteArray × K3)) (hl : ts.length ≤ 1000) (hP : ∀ x ∈ ts, q2h x.1 x.2.1 x.2.2.1 x.2.2.2) (w : World) (hc : ∀ (i : Nat) x, ts[i]? = some x → w.cell? ⟨b, o + i, none⟩ = some (.string x.1)) (hG : GrandW.G w) :
    Calls Tryz.prog 170 #[.slice (some ⟨b, o, none⟩) ts.length c] w fun e w' => (∃ v, e = .returned (.tuple #[v, .nilIface]) ∧ w'.ownsRow w.heap.size 33 8 v ts.length (q6e (ts.map (·.2)))) ∧ Below w.heap.size w w' := by
  have hut := Tryz.underlying33
  have hus := Tryz.underlying193
  have huz := Tryz.underlying26
  have hee : ∀ W : World, (binOp BinOp.neq 55 .nilIface .nilIface).run Tryz.prog W = .ok (.bool false) W := fun W => by kernel_rfl
  have HP := aq hP
  have HC := aq hc
  have HG := aq hG
  have HL := aq hl
  clear hP hc hG
  obtain ⟨N, hNN⟩ : ∃ N, N = w.heap.size := ⟨_, rfl⟩
  rw [← hNN]
  have HNN := aq hNN.symm
  have BW : q0c (Below N w w) := ⟨Below.refl _ _⟩
  clear hNN
  go_enter Tryz.func170, Tryz.ntmps170
  go_wp2
  go_loopw [11, 4] (fun vi vs wr => ∃ (i : Nat), vi = .int .i64 (i : Int) ∧ i ≤ ts.length ∧ q0c (wr.ownsRow N 33 8 vs i (q6e ((ts.take i).map (·.2)))) ∧ q0c (Below N w wr)) (fun vi _ _ => ts.length - (intOf vi).toNat)
  case atStart => exact ⟨0, rfl, Nat.zero_le _, ⟨q3a _ _ _ _⟩, BW⟩
  case round =>
    obtain ⟨i, rfl, hi, O_V, BB⟩ := hrel
    obtain ⟨V1, c1, e1⟩ := q0u O_V.out
    subst e1
    by_cases hlt : i < ts.length
    · obtain ⟨⟨s, t1, t2, t3⟩, ht⟩ : ∃ t, ts[i]? = some t := ⟨_, List.getElem?_eq_getElem hlt⟩
      have x0 : wr.cell? ⟨b, o + i, none⟩ = some (.string s) := by
        have h := HC.out i _ ht
        exact (World.cell?_of_block (BB.out.block _ (by rw [← HNN.out]; exact World.block_lt_of_cell? w _ h))).trans h
      have hp := HP.out _ (List.mem_of_getElem? ht)
      have HPt := aq hp
      have hsn : (ts.take (i + 1)).map (·.2) = (ts.take i).map (·.2) ++ [(t1, t2, t3)] := by rw [List.take_add_one, ht, List.map_append]; rfl
      have HSN := aq hsn
      have HGr := aq (HG.out.below (by have h := BB.out; rwa [← HNN.out] at h))
      have d1 : decide ((i : Int) < (ts.length : Int)) = true := decide_eq_true (by omega)
      have m0 : (0 : Int) ≤ (i : Int) := by omega
      have m1 : (i : Int) < (ts.length : Int) := by omega
      have m2 : i < ts.length := hlt
      clear ht hsn hp
      go_wp2_with (first
        | (go_at_call 26; refine (HPt.out _ HGr.out).mono ?_; rintro e w1 ⟨rfl, hB⟩; unfold T3; have hsz : N ≤ wr.heap.size := by have h := BB.out.size; have h2 := HNN.out; omega
           obtain ⟨V, hV⟩ : ∃ V, V = w1.alloc (.cells (T3c t1 t2 t3) 33) := ⟨_, rfl⟩; have O0 : q0c (V.ownsRow N 33 8 (.slice V1 i c1) i (q6e ((ts.take i).map (·.2)))) := ⟨by rw [hV]; exact World.ownsRow.alloc (q1o O_V.out hB) _⟩; have B1' : q0c (Below N w V) := ⟨by rw [hV]; exact (BB.out.trans (hB.mono hsz)).alloc (Nat.le_trans hsz hB.size) _⟩; have S1 : q0c (N ≤ V.heap.size) := ⟨by rw [hV]; have := hB.size; simp; omega⟩; have U0 : V.heap[w1.heap.size]? = some (.cells (T3c t1 t2 t3) 33 (0, 0)) := by { rw [hV]; exact aZ rfl }; obtain ⟨z0, z1, z2, z3, z4, z5, z6, z7⟩ := q5u U0; unfold T3c at hV; have HV := aq hV.symm; clear hV U0 hB hsz)
        | (rw [HV.out])
        | ((with_reducible refine q1d (b := .append) (xs := #[.tmp 23, .tmp 25]) rfl ?_); at_builtin; refine q2f (w0 := w) N rfl (.tmp 23) (.tmp 25) 193 33 (.agg #[.string ⟨#[]⟩, .slice none 0 0, .string ⟨#[]⟩, .string ⟨#[]⟩, .slice none 0 0, .slice none 0 0, .slice none 0 0, .string ⟨#[]⟩]) 8 160 rfl hus (by kernel_rfl) rfl (by decide) (by decide) (.slice V1 i c1) i (q6e ((ts.take i).map (·.2))) (z5f (t1, t2, t3)) rfl ?hx rfl ?h1 O0.out B1'.out S1.out ?hl ?_; (case hx => rfl); (case h1 => simp [z5f, Value.oneCell']); (case hl => have := HL.out; omega); intro v2 w2 ho hb2 hg hat; obtain ⟨V2, c2, rfl⟩ := q0u ho; have O_2 := aq ho; have B2' := aq hb2; clear ho hb2 hg hat))
      go_roundw
      case rel =>
        exact ⟨i + 1, by congr 1, by omega, ⟨by rw [HSN.out]; unfold q6e; rw [List.flatMap_append]; exact O_2.out⟩, B2'⟩
      case measure => simp [intOf]; omega
    · obtain rfl : i = ts.length := by omega
      have d1 : decide ((ts.length : Int) < (ts.length : Int)) = false := decide_eq_false (by omega)
      have h := O_V.out
      rw [List.take_length] at h
      have O_W := aq h
      clear h O_V
      go_wp2
      go_ret2
      exact ⟨⟨_, rfl, O_W.out⟩, BB.out⟩
theorem k7u (k : Nat) (B1 B2 B3 B4 : Nat) (b oa ca ob cb : Nat) (sa s1 s2 s3 : ByteArray) (a x y z : K3) (ha : q3d k a.1 a.2.1 a.2.2) (hN : ∀ t ∈ [x, y, z], q3d k t.1 t.2.1 t.2.2) (e1 : q9x a x = 84) (e2 : q9x a y = 3) (e3 : q9x a z = 4)
    (pa : q2h sa a.1 a.2.1 a.2.2) (p1 : q2h s1 x.1 x.2.1 x.2.2) (p2 : q2h s2 y.1 y.2.1 y.2.2) (p3 : q2h s3 z.1 z.2.1 z.2.2) (hsl : s2.size ≤ 1000000) (w : World) (hI : Img w B1 B2 B3 B4)
    (da : w.cell? ⟨b, oa, none⟩ = some (.string sa)) (d1 : w.cell? ⟨b, ob, none⟩ = some (.string s1)) (d2 : w.cell? ⟨b, ob + 1, none⟩ = some (.string s2)) (d3 : w.cell? ⟨b, ob + 2, none⟩ = some (.string s3)) :
    Calls Tryz.prog 114 #[q6h B1 B2 B3 B4, .slice (some ⟨b, oa, none⟩) 1 ca, .slice (some ⟨b, ob, none⟩) 3 cb] w fun e w' => e = .returned (.string (okT s2)) ∧ Below w.heap.size w w' := by
  have hui := Tryz.underlying51
  have hus := Tryz.underlying26
  have hee : ∀ W : World, (binOp BinOp.neq 55 .nilIface .nilIface).run Tryz.prog W = .ok (.bool false) W := fun W => by kernel_rfl
  obtain ⟨V, hV⟩ : ∃ V, V = w.alloc (.cells (q4k B1 B2 B3 B4) 51) := ⟨_, rfl⟩
  have hb0 : Below w.heap.size w V := by rw [hV]; exact q0b (Below.refl _ _) _
  have I0 : V.heap[w.heap.size]? = some (.cells (q4k B1 B2 B3 B4) 51 (0, 0)) := by rw [hV]; exact aZ rfl
  have hl := World.block_lt_of_cell? w _ da
  have HDA := aq ((World.cell?_of_block (hb0.block b hl)).trans da)
  have HD1 := aq ((World.cell?_of_block (hb0.block b hl)).trans d1)
  have HD2 := aq ((World.cell?_of_block (hb0.block b hl)).trans d2)
  have HD3 := aq ((World.cell?_of_block (hb0.block b hl)).trans d3)
  have HLT : q0c (b < V.heap.size) := ⟨Nat.lt_of_lt_of_le hl hb0.size⟩
  have HI := aq (hI.below hb0)
  have HB := aq hb0
  have KI := aq I0
  have HA := aq ha
  have HN := aq hN
  have E1 := aq e1
  have E2 := aq e2
  have E3 := aq e3
  have PA := aq pa
  have P1 := aq p1
  have P2 := aq p2
  have P3 := aq p3
  unfold q4k at hV
  have HV := aq hV.symm
  clear hV hb0 I0 hl da d1 d2 d3 hI ha hN e1 e2 e3 pa p1 p2 p3
  unfold q6h
  go_enter Tryz.func114, Tryz.ntmps114
  go_wp2_with (first | (rw [HV.out]) | (go_at_call 170; fail))
  refine (k4r b oa ca [(sa, a)] (by simp) (fun q hq => by rw [List.mem_singleton.1 hq]; exact PA.out) V (fun i q hq => by match i, hq with | 0, h => cases h; exact HDA.out) HI.out.g).mono ?_
  rintro e w1 ⟨⟨v1, rfl, ho1⟩, hb1⟩
  obtain ⟨g1, q1, hv1, -, ht1⟩ := z2d ho1 (by simp)
  have hv1' : v1 = .slice (some ⟨g1, 0, none⟩) 1 q1 := hv1
  subst hv1'
  have T1 := aq ht1
  have K1 := kb KI hb1
  have HB1 := aq (HB.out.trans (hb1.mono HB.out.size))
  have BV1 := aq hb1
  clear hb1 ho1 ht1 hv1
  go_wp2_with (first | (go_at_call 170; fail))
  refine (k4r b ob cb [(s1, x), (s2, y), (s3, z)] (by simp) (fun q hq => by
    simp only [List.mem_cons, List.not_mem_nil, or_false] at hq
    rcases hq with rfl | rfl | rfl
    · exact P1.out
    · exact P2.out
    · exact P3.out) w1 (fun i q hq => by
    have hm := fun j => World.cell?_of_block (a := ⟨b, j, none⟩) (BV1.out.block b HLT.out)
    match i, hq with
    | 0, h => cases h; exact (hm _).trans HD1.out
    | 1, h => cases h; exact (hm _).trans HD2.out
    | 2, h => cases h; exact (hm _).trans HD3.out) (HI.out.below BV1.out).g).mono ?_
  rintro e w2 ⟨⟨v2, rfl, ho2⟩, hb2⟩
  obtain ⟨g2, q2, hv2, -, ht2⟩ := z2d ho2 (by simp)
  have hv2' : v2 = .slice (some ⟨g2, 0, none⟩) 3 q2 := hv2
  subst hv2'
  have T2 := aq ht2
  have T1b := aq (T1.out.below hb2)
  have K2 := kb K1 hb2
  have HB2 := aq (HB1.out.trans (hb2.mono HB1.out.size))
  have BV2 := aq (BV1.out.trans (hb2.mono BV1.out.size))
  clear hb2 ho2 ht2 hv2
  obtain ⟨i0, i1, i2, i3, i4, i5⟩ := cz6 (show w2.heap[w.heap.size]? = some (.cells #[.slice (some ⟨B1, 0, none⟩) 54 54, .slice (some ⟨B2, 0, none⟩) 32 32, .slice (some ⟨B3, 0, none⟩) 15 15, .slice (some ⟨B4, 0, none⟩) 7 7, .int .i64 40, .int .i64 5] 51 (0, 0)) from K2.out)
  go_wp2_with (first
    | (go_at_call 171; have h9 := k3f k B1 B2 B3 B4 g1 q1 g2 q2 a x y z HA.out HN.out E1.out E2.out E3.out w2 T1b.out T2.out (HI.out.below BV2.out) (-1); unfold q6h at h9; refine h9.mono ?_; rintro e w3 ⟨rfl, hb3⟩; have BV3 := aq (BV2.out.trans (hb3.mono BV2.out.size)); have HB3 := aq (HB2.out.trans (hb3.mono HB2.out.size)); have c2 := (World.cell?_of_block (a := ⟨b, ob + 1, none⟩) (BV3.out.block b HLT.out)).trans HD2.out; clear h9 hb3)
    | (go_at_call 107; refine (j2e w3.heap.size 1 s2 hsl _ ((q0a (aZ rfl) 0).trans rfl)).mono ?_; rintro e w5 ⟨rfl, hb5⟩))
  go_ret
  refine ⟨rfl, ?_⟩
  have h := q0b HB3.out (.cells #[.string s2] 9)
  exact h.trans (hb5.mono h.size)
theorem j2d (q o cc n i : Nat) (zs : List ByteArray) (hn : zs.length = n) (hi : Lib.idxOfS zs ⟨#[59]⟩ = (i : Int)) (hin : i + 1 < n) (hnc : n ≤ cc) (hnl : n ≤ 1000) (g : Nat) (lb : Array Value) (t : ByteArray) (w : World) (eg : ∀ args W, (callFunc g args).run Tryz.prog W = .ok (.enter g args) W) (hc : ∀ j, j < zs.length → w.cell? ⟨q, o + j, none⟩ = some (.string (zs.getD j ByteArray.empty)))
    (hdo : ∀ W, Below w.heap.size w W → Calls Tryz.prog g (#[.slice (some ⟨q, o, none⟩) i cc, .slice (some ⟨q, o + (i + 1), none⟩) (n - (i + 1)) (cc - (i + 1))] ++ lb) W fun e w' => e = .returned (.string t) ∧ Below W.heap.size W w') :
    Calls Tryz.prog 105 #[.slice (some ⟨q, o, none⟩) n cc, .func (.func g) #[] lb] w fun e w' => e = .returned (.string t) ∧ Below w.heap.size w w' := by
  have hus := Tryz.underlying26
  have HC := aq hc
  have HD := aq hdo
  have HI := aq hi
  clear hc hdo hi
  go_enter Tryz.func105, Tryz.ntmps105
  go_wp2_with (first
    | (go_at_call 169; refine (Tryz.slices_Index_string q o n cc zs ⟨#[59]⟩ _ (by omega) (by omega) HC.out).mono ?_; rintro e w1 ⟨rfl, hw⟩; rw [hw, List.take_of_length_le (by omega), HI.out]; clear hw))
  have m0 : (0 : Int) ≤ (i : Int) := by omega
  have m1 : (i : Int) ≤ (cc : Int) := by omega
  have m2 : (i : Int) + 1 ≤ (n : Int) := by omega
  have m3 : (n : Int) ≤ (cc : Int) := by omega
  have m4 : ((i : Int) + 1).toNat = i + 1 := by omega
  have m5 : (0 : Int) ≤ (i : Int) + 1 := by omega
  have m7 : ¬ cc = i + 1 := by omega
  have m6 : wrap64 ((i : Int) + 1) = (i : Int) + 1 := by simp only [wrap64]; omega
  have d0 : decide ((i : Int) < 0) = false := decide_eq_false (by omega)
  rw [d0]
  clear d0
  refine q2w (n := 10) (S := fun w' => True) (ds := []) (M 10 0) (by kernel_rfl) rfl rfl trivial (fun hHeld => ?_)
  refine pw 0 11 (M 10 1) ?_
  refine pw 1 12 (M 10 3) ?_
  refine pw 2 13 (M 10 7) ?_
  refine pw 3 14 (M 10 15) ?_
  refine pw 4 15 (M 10 31) ?_
  refine pw 5 16 (M 10 63) ?_
  refine pw 6 17 (M 10 127) ?_
  refine pw 7 18 (M 10 255) ?_
  refine ow 8 (some 19) (M 10 511) fun K hK => ?_
  have hbw : Below w.heap.size w w.drew := q1a (Below.refl _ _)
  refine call_ g (#[.slice (some ⟨q, o, none⟩) i cc, .slice (some ⟨q, o + (i + 1), none⟩) (n - (i + 1)) (cc - (i + 1))] ++ lb) (by rfl) rfl (by go_simp) ?_
  refine (HD.out _ hbw).mono ?_
  rintro e w1 ⟨rfl, hb⟩
  have HB := aq (hbw.trans (hb.mono hbw.size))
  clear hb hbw
  refine ⟨_, rfl, ?_⟩
  refine hK.out _ _ trivial (fun hHeld => ?_)
  clear hK K
  refine nw 19 ?_
  refine pw 9 4 (M 10 1023) ?_
  refine q4t (by kernel_rfl) ?_
  go_wp2
  go_ret
  exact ⟨rfl, HB.out⟩
theorem k1v (k : Nat) (B1 B2 B3 B4 pi : Nat) (b oa ca ob cb : Nat) (sa s1 s2 s3 : ByteArray) (a x y z : K3) (ha : q3d k a.1 a.2.1 a.2.2) (hN : ∀ t ∈ [x, y, z], q3d k t.1 t.2.1 t.2.2) (e1 : q9x a x = 84) (e2 : q9x a y = 3) (e3 : q9x a z = 4)
 (pa : q2h sa a.1 a.2.1 a.2.2) (p1 : q2h s1 x.1 x.2.1 x.2.2) (p2 : q2h s2 y.1 y.2.1 y.2.2) (p3 : q2h s3 z.1 z.2.1 z.2.2) (hsl : s2.size ≤ 1000000) (w : World) (hI : Img w B1 B2 B3 B4) (hp : w.heap[pi]? = some (.cells (q4k B1 B2 B3 B4) 51 (0, 0)))
 (da : w.cell? ⟨b, oa, none⟩ = some (.string sa)) (d1 : w.cell? ⟨b, ob, none⟩ = some (.string s1)) (d2 : w.cell? ⟨b, ob + 1, none⟩ = some (.string s2)) (d3 : w.cell? ⟨b, ob + 2, none⟩ = some (.string s3)) :
 Calls Tryz.prog 113 #[.slice (some ⟨b, oa, none⟩) 1 ca, .slice (some ⟨b, ob, none⟩) 3 cb, .pointer (some ⟨pi, 0, none⟩)] w fun e w' => e = .returned (.string (okT s2)) ∧ Below w.heap.size w w' := by
 have hui := Tryz.underlying51
 obtain ⟨i0, i1, i2, i3, i4, i5⟩ := cz6 (show w.heap[pi]? = some (.cells #[.slice (some ⟨B1, 0, none⟩) 54 54, .slice (some ⟨B2, 0, none⟩) 32 32, .slice (some ⟨B3, 0, none⟩) 15 15, .slice (some ⟨B4, 0, none⟩) 7 7, .int .i64 40, .int .i64 5] 51 (0, 0)) from hp)
 have h9 := aq (k7u k B1 B2 B3 B4 b oa ca ob cb sa s1 s2 s3 a x y z ha hN e1 e2 e3 pa p1 p2 p3 hsl w hI da d1 d2 d3)
 clear ha hN e1 e2 e3 pa p1 p2 p3 hI hp da d1 d2 d3
 unfold q6h at h9
 go_enter Tryz.func113, Tryz.ntmps113
 go_wp2_with (first | (go_at_call 114; refine h9.out.mono ?_; rintro e w1 ⟨rfl, hb⟩))
 go_ret
 exact ⟨rfl, hb⟩
theorem k0b (k : Nat) (B1 B2 B3 B4 pi : Nat) (b c : Nat) (hc5 : 5 ≤ c) (sa s1 s2 s3 : ByteArray) (a x y z : K3) (hne : Lib.idxOfS [sa, ⟨#[59]⟩, s1, s2, s3] ⟨#[59]⟩ = 1) (ha : q3d k a.1 a.2.1 a.2.2) (hN : ∀ t ∈ [x, y, z], q3d k t.1 t.2.1 t.2.2) (e1 : q9x a x = 84) (e2 : q9x a y = 3) (e3 : q9x a z = 4)
 (pa : q2h sa a.1 a.2.1 a.2.2) (p1 : q2h s1 x.1 x.2.1 x.2.2) (p2 : q2h s2 y.1 y.2.1 y.2.2) (p3 : q2h s3 z.1 z.2.1 z.2.2) (hsl : s2.size ≤ 1000000) (w : World) (hI : Img w B1 B2 B3 B4) (hp : w.heap[pi]? = some (.cells (q4k B1 B2 B3 B4) 51 (0, 0)))
 (hc : ∀ (j : Nat) t, [sa, ⟨#[59]⟩, s1, s2, s3][j]? = some t → w.cell? ⟨b, 1 + j, none⟩ = some (.string t)) :
 Calls Tryz.prog 112 #[.slice (some ⟨b, 1, none⟩) 5 c, .pointer (some ⟨pi, 0, none⟩)] w fun e w' => e = .returned (.string (okT s2)) ∧ Below w.heap.size w w' := by
 have hmf : ∀ (fn : Fn) (first cap : Array Value) (w : World), (Instr.makeFunc fn first cap).run Tryz.prog w = .ok (.func fn first cap) w := fun _ _ _ _ => rfl
 have eg := enters_of Tryz.func113 (by kernel_rfl) rfl
 have h9 := aq (j2d b 1 c 5 1 [sa, ⟨#[59]⟩, s1, s2, s3] rfl hne (by omega) hc5 (by omega) 113 #[.pointer (some ⟨pi, 0, none⟩)] (okT s2) w eg
  (fun j hj => hc j _ (by rw [List.getD_eq_getElem?_getD, List.getElem?_eq_getElem hj]; rfl))
  (fun W hW => by
   have hm := fun j t (h : w.cell? ⟨b, j, none⟩ = some t) => (World.cell?_of_block (a := ⟨b, j, none⟩) (hW.block b (World.block_lt_of_cell? w _ h))).trans h
   exact k1v k B1 B2 B3 B4 pi b 1 c 3 (c - 2) sa s1 s2 s3 a x y z ha hN e1 e2 e3 pa p1 p2 p3 hsl W (hI.below hW) ((hW.block _ (q0g hp)).trans hp) (hm _ _ (hc 0 _ rfl)) (hm _ _ (hc 2 _ rfl)) (hm _ _ (hc 3 _ rfl)) (hm _ _ (hc 4 _ rfl))))
 clear eg hne ha hN e1 e2 e3 pa p1 p2 p3 hI hp hc
 go_enter Tryz.func112, Tryz.ntmps112
 go_wp2_with (first | (go_at_call 105; refine h9.out.mono ?_; rintro e w1 ⟨rfl, hb⟩))
 go_ret
 exact ⟨rfl, hb⟩
theorem j1x (B1 B2 B3 B4 : Nat) (s key : ByteArray) (l : List ByteArray) (g : Nat) (t : ByteArray) (hl : Lib.splitB ⟨#[32]⟩ 0 (Lib.countB s ⟨#[32]⟩) s = key :: l) (hn : Lib.countB s ⟨#[32]⟩ + 1 = (key :: l).length) (hne : q3i (key :: l) = key :: l) (hs : s.size < 4294967281) (hlen : (key :: l).length ≤ 1000000) (hl1 : 1 ≤ l.length)
 (hlook : ∀ N : Nat, ∃ r, Instr.findNow .string (.string key) (k7p N).toList 0 = some r ∧ k9g r = .func (.func g) #[] #[.pointer (some ⟨N, 0, none⟩)])
 (eg : ∀ args W, (callFunc g args).run Tryz.prog W = .ok (.enter g args) W)
 (hdo : ∀ (W : World) (b N : Nat), Img W B1 B2 B3 B4 → W.heap[N]? = some (.cells (q4k B1 B2 B3 B4) 51 (0, 0)) → q9n W b (key :: l) → Calls Tryz.prog g #[.slice (some ⟨b, 1, none⟩) l.length l.length, .pointer (some ⟨N, 0, none⟩)] W fun e w' => e = .returned (.string (okT t)) ∧ Below W.heap.size W w')
 (w : World) (hI : Img w B1 B2 B3 B4) (hM : GM w) :
 Calls Tryz.prog 25 #[q6h B1 B2 B3 B4, .string s] w fun e w' => e = .returned (.string (okT t)) ∧ Below w.heap.size w w' := by
 have hui := Tryz.underlying51
 have hus := Tryz.underlying26
 obtain ⟨V, hV⟩ : ∃ V, V = w.alloc (.cells (q4k B1 B2 B3 B4) 51) := ⟨_, rfl⟩
 have hb0 : Below w.heap.size w V := by rw [hV]; exact q0b (Below.refl _ _) _
 have I0 : V.heap[w.heap.size]? = some (.cells (q4k B1 B2 B3 B4) 51 (0, 0)) := by rw [hV]; exact aZ rfl
 have hw9 := aq (k7g s (key :: l) hl hn hne hs hlen V (hM.below hb0))
 have HI := aq (hI.below hb0)
 have KI := aq I0
 have KB := aq hb0
 have HK := aq hlook
 have HD := aq hdo
 have HL := aq hlen
 unfold q4k at hV
 have HV := aq hV.symm
 clear hl hn hne hs hI hM hV hb0 I0 hlook hdo
 unfold q6h
 go_enter Tryz.func25, Tryz.ntmps25
 go_wp2_with (first
  | (rw [HV.out])
  | (go_at_call 58; refine hw9.out.mono ?_; rintro e w1 ⟨⟨b, rfl, hbb, ht⟩, hb⟩; have HT := aq ht; have BV := aq hb; replace KI := kb KI hb; replace KB : q0c (Below w.heap.size w w1) := ⟨KB.out.trans (hb.mono KB.out.size)⟩; clear ht hb))
 refine q2w (n := 7) (S := fun w' => w'.cell? ⟨w.heap.size, 0, none⟩ = some (.slice (some ⟨B1, 0, none⟩) 54 54) ∧ w'.cell? ⟨w.heap.size, 1, none⟩ = some (.slice (some ⟨B2, 0, none⟩) 32 32) ∧ w'.cell? ⟨w.heap.size, 2, none⟩ = some (.slice (some ⟨B3, 0, none⟩) 15 15) ∧ w'.cell? ⟨w.heap.size, 3, none⟩ = some (.slice (some ⟨B4, 0, none⟩) 7 7) ∧ w'.cell? ⟨w.heap.size, 4, none⟩ = some (.int .i64 40) ∧ w'.cell? ⟨w.heap.size, 5, none⟩ = some (.int .i64 5) ∧ w'.cell? ⟨b, 0, none⟩ = some (.string key)) (ds := []) (M 7 0) (by kernel_rfl) rfl rfl ⟨(q0a (w := w1.drew) KI.out 0).trans rfl, (q0a (w := w1.drew) KI.out 1).trans rfl, (q0a (w := w1.drew) KI.out 2).trans rfl, (q0a (w := w1.drew) KI.out 3).trans rfl, (q0a (w := w1.drew) KI.out 4).trans rfl, (q0a (w := w1.drew) KI.out 5).trans rfl, (HT.out.below (q1a (Below.refl _ _))).cell 0 key rfl⟩ (fun hHeld => ?_)
 obtain ⟨U, hU⟩ : ∃ U, U = w1.drew := ⟨_, rfl⟩
 replace KI := dwK KI hU
 have BU : Below w1.heap.size w1 U := by rw [hU]; exact q1a (Below.refl _ _)
 replace HT := aq (HT.out.below BU)
 replace BV : q0c (Below V.heap.size V U) := ⟨BV.out.trans (BU.mono BV.out.size)⟩
 replace KB : q0c (Below w.heap.size w U) := ⟨KB.out.trans (BU.mono KB.out.size)⟩
 rw [← hU] at hHeld ⊢
 clear hU BU
 refine pw 2 15 (M 7 4) ?_
 refine pw 3 16 (M 7 12) ?_
 refine tw 0 13 (M 7 13) hHeld ?_
 refine tw 4 17 (M 7 29) hHeld ?_
 refine ow 1 (some 14) (M 7 31) fun K hK => ?_
 refine gow Tryz.func60 #[.agg #[.slice (some ⟨B1, 0, none⟩) 54 54, .slice (some ⟨B2, 0, none⟩) 32 32, .slice (some ⟨B3, 0, none⟩) 15 15, .slice (some ⟨B4, 0, none⟩) 7 7, .int .i64 40, .int .i64 5]] ?_
 have h8 := k9p B1 B2 B3 B4 U
 unfold q6h at h8
 refine h8.mono ?_
 rintro e w2 ⟨⟨mb, rfl, hmap⟩, hN, hb⟩
 have MP := aq hmap
 have KN := aq hN
 replace KI := kb KI hb
 replace HT := aq (HT.out.below hb)
 replace BV : q0c (Below V.heap.size V w2) := ⟨BV.out.trans (hb.mono BV.out.size)⟩
 replace KB : q0c (Below w.heap.size w w2) := ⟨KB.out.trans (hb.mono KB.out.size)⟩
 clear h8 hmap hN hb
 refine ⟨_, rfl, ?_⟩
 refine hK.out _ _ ⟨(q0a KI.out 0).trans rfl, (q0a KI.out 1).trans rfl, (q0a KI.out 2).trans rfl, (q0a KI.out 3).trans rfl, (q0a KI.out 4).trans rfl, (q0a KI.out 5).trans rfl, HT.out.cell 0 key rfl⟩ (fun hHeld => ?_)
 clear hK K
 refine nw 14 ?_
 refine ow 5 (some 18) (M 7 63) fun K hK => ?_
 obtain ⟨r, hr1, hr2⟩ := HK.out U.heap.size
 have hlk := z9r (E := 61) Tryz.underlying80 Tryz.underlying9 (by simp [MapKept.IsKey]) (by kernel_rfl) MP.out r hr1
 rw [hr2] at hlk
 refine q2x (w1 := w2) (v := .func (.func g) #[] #[.pointer (some ⟨U.heap.size, 0, none⟩)]) (by rfl) rfl (by go_simp) ?_
 clear hlk hr1 hr2
 refine hK.out _ _ ⟨(q0a KI.out 0).trans rfl, (q0a KI.out 1).trans rfl, (q0a KI.out 2).trans rfl, (q0a KI.out 3).trans rfl, (q0a KI.out 4).trans rfl, (q0a KI.out 5).trans rfl, HT.out.cell 0 key rfl⟩ (fun hHeld => ?_)
 clear hK K
 refine nw 18 ?_
 refine pw 6 6 (M 7 127) ?_
 refine q4t (by kernel_rfl) ?_
 have hef : ∀ (x : Value) (W : World), (binOp BinOp.eql 61 (.func (.func g) #[] #[x]) .nilFunc).run Tryz.prog W = .ok (.bool false) W := fun x W => by kernel_rfl
 have n1 : ¬ l.length + 1 = 1 := by omega
 have n2 : (1 : Int) ≤ (l.length : Int) + 1 := by omega
 have hd9 := HD.out w2 b U.heap.size (HI.out.below BV.out) KN.out HT.out
 have H9 := aq hd9
 clear hHeld hd9
 go_wp2
 refine H9.out.mono ?_
 rintro e w3 ⟨rfl, hb⟩
 go_wp2
 go_ret
 exact ⟨rfl, KB.out.trans (hb.mono KB.out.size)⟩
end Go.Proofs.YtpmcfckechjppaaGreatDoor.Ps
namespace Go.Proofs.YtpmcfckechjppaaGreatDoor.Ps
open Go.RowKit Go.Shelf Go.Proofs.YtpmcfckechjppaaGreatDoorW.PrintWords Go.Proofs.YtpmcfckechjppaaGreatDoorW.PrintLast Go.Proofs.YtpmcfckechjppaaGreatDoorW.PrintMore Go.Proofs.YtpmcfckechjppaaGreatDoor.P Go.Proofs.YtpmcfckechjppaaGreatDoor.LikW
set_option maxRecDepth 100000
theorem v8i : q2h ⟨#[115, 103, 110, 45, 85, 83]⟩ ⟨#[115, 103, 110]⟩ ⟨#[]⟩ ⟨#[117, 115]⟩ := fun w hG =>
 z1h 100 ⟨#[115, 103, 110, 45, 85, 83]⟩ (by decide) w hG 0 (by kernel_rfl) (0, ⟨#[115, 103, 110]⟩) [(4, ⟨#[117, 115]⟩)] [(4, ⟨#[117, 115]⟩)] (by kernel_rfl) ⟨#[115, 103, 110]⟩ (by kernel_rfl) (by decide) (by decide) (by kernel_rfl) (by decide) ⟨#[117, 115]⟩ (by kernel_rfl) (by kernel_rfl) ⟨#[]⟩ ⟨#[117, 115]⟩ (by kernel_rfl) (by kernel_rfl)
theorem k3d : q2h ⟨#[101, 110, 45, 65, 85]⟩ ⟨#[101, 110]⟩ ⟨#[]⟩ ⟨#[97, 117]⟩ := fun w hG =>
 z1h 100 ⟨#[101, 110, 45, 65, 85]⟩ (by decide) w hG 0 (by kernel_rfl) (0, ⟨#[101, 110]⟩) [(3, ⟨#[97, 117]⟩)] [(3, ⟨#[97, 117]⟩)] (by kernel_rfl) ⟨#[101, 110]⟩ (by kernel_rfl) (by decide) (by decide) (by kernel_rfl) (by decide) ⟨#[97, 117]⟩ (by kernel_rfl) (by kernel_rfl) ⟨#[]⟩ ⟨#[97, 117]⟩ (by kernel_rfl) (by kernel_rfl)
theorem j1f : q2h ⟨#[100, 101]⟩ ⟨#[100, 101]⟩ ⟨#[]⟩ ⟨#[]⟩ := fun w hG =>
 z1h 100 ⟨#[100, 101]⟩ (by decide) w hG 0 (by kernel_rfl) (0, ⟨#[100, 101]⟩) [] [] (by kernel_rfl) ⟨#[100, 101]⟩ (by kernel_rfl) (by decide) (by decide) (by kernel_rfl) (by decide) ⟨#[]⟩ (by kernel_rfl) (by kernel_rfl) ⟨#[]⟩ ⟨#[]⟩ (by kernel_rfl) (by kernel_rfl)
theorem k2l : q2h ⟨#[101, 110, 45, 71, 66]⟩ ⟨#[101, 110]⟩ ⟨#[]⟩ ⟨#[103, 98]⟩ := fun w hG =>
 z1h 100 ⟨#[101, 110, 45, 71, 66]⟩ (by decide) w hG 0 (by kernel_rfl) (0, ⟨#[101, 110]⟩) [(3, ⟨#[103, 98]⟩)] [(3, ⟨#[103, 98]⟩)] (by kernel_rfl) ⟨#[101, 110]⟩ (by kernel_rfl) (by decide) (by decide) (by kernel_rfl) (by decide) ⟨#[103, 98]⟩ (by kernel_rfl) (by kernel_rfl) ⟨#[]⟩ ⟨#[103, 98]⟩ (by kernel_rfl) (by kernel_rfl)
theorem j1d : q2h ⟨#[101, 110]⟩ ⟨#[101, 110]⟩ ⟨#[]⟩ ⟨#[]⟩ := fun w hG =>
 z1h 100 ⟨#[101, 110]⟩ (by decide) w hG 0 (by kernel_rfl) (0, ⟨#[101, 110]⟩) [] [] (by kernel_rfl) ⟨#[101, 110]⟩ (by kernel_rfl) (by decide) (by decide) (by kernel_rfl) (by decide) ⟨#[]⟩ (by kernel_rfl) (by kernel_rfl) ⟨#[]⟩ ⟨#[]⟩ (by kernel_rfl) (by kernel_rfl)
theorem z6f : q2h ⟨#[115, 114, 45, 76, 97, 116, 110, 45, 82, 83]⟩ ⟨#[115, 114]⟩ ⟨#[108, 97, 116, 110]⟩ ⟨#[114, 115]⟩ := fun w hG =>
 z1h 100 ⟨#[115, 114, 45, 76, 97, 116, 110, 45, 82, 83]⟩ (by decide) w hG 0 (by kernel_rfl) (0, ⟨#[115, 114]⟩) [(3, ⟨#[108, 97, 116, 110]⟩), (8, ⟨#[114, 115]⟩)] [(8, ⟨#[114, 115]⟩)] (by kernel_rfl) ⟨#[115, 114]⟩ (by kernel_rfl) (by decide) (by decide) (by kernel_rfl) (by decide) ⟨#[108, 97, 116, 110]⟩ (by kernel_rfl) (by kernel_rfl) ⟨#[108, 97, 116, 110]⟩ ⟨#[114, 115]⟩ (by kernel_rfl) (by kernel_rfl)
theorem k9c : q3d 100 ⟨#[97, 115, 101]⟩ ⟨#[]⟩ ⟨#[]⟩ := { len := Nat.le_of_ble_eq_true (by kernel_rfl), grand := ⟨0, by kernel_rfl⟩, whole := ⟨0, by kernel_rfl⟩, pair := by kernel_rfl, lang := by kernel_rfl, script := by kernel_rfl, region := by kernel_rfl }
theorem k2x : q3d 100 ⟨#[101, 110]⟩ ⟨#[]⟩ ⟨#[97, 117]⟩ := { len := Nat.le_of_ble_eq_true (by kernel_rfl), grand := ⟨0, by kernel_rfl⟩, whole := ⟨0, by kernel_rfl⟩, pair := by kernel_rfl, lang := by kernel_rfl, script := by kernel_rfl, region := by kernel_rfl }
theorem j1r : q3d 100 ⟨#[100, 101]⟩ ⟨#[]⟩ ⟨#[]⟩ := { len := Nat.le_of_ble_eq_true (by kernel_rfl), grand := ⟨0, by kernel_rfl⟩, whole := ⟨0, by kernel_rfl⟩, pair := by kernel_rfl, lang := by kernel_rfl, script := by kernel_rfl, region := by kernel_rfl }
theorem k2j : q3d 100 ⟨#[101, 110]⟩ ⟨#[]⟩ ⟨#[103, 98]⟩ := { len := Nat.le_of_ble_eq_true (by kernel_rfl), grand := ⟨0, by kernel_rfl⟩, whole := ⟨0, by kernel_rfl⟩, pair := by kernel_rfl, lang := by kernel_rfl, script := by kernel_rfl, region := by kernel_rfl }
theorem j1n : q3d 100 ⟨#[101, 110]⟩ ⟨#[]⟩ ⟨#[]⟩ := { len := Nat.le_of_ble_eq_true (by kernel_rfl), grand := ⟨0, by kernel_rfl⟩, whole := ⟨0, by kernel_rfl⟩, pair := by kernel_rfl, lang := by kernel_rfl, script := by kernel_rfl, region := by kernel_rfl }
theorem z7r : q3d 100 ⟨#[115, 114]⟩ ⟨#[108, 97, 116, 110]⟩ ⟨#[114, 115]⟩ := { len := Nat.le_of_ble_eq_true (by kernel_rfl), grand := ⟨0, by kernel_rfl⟩, whole := ⟨0, by kernel_rfl⟩, pair := by kernel_rfl, lang := by kernel_rfl, script := by kernel_rfl, region := by kernel_rfl }
theorem j0d : z3p ⟨#[97, 115, 101]⟩ ⟨#[]⟩ ⟨#[]⟩ ⟨#[97, 115, 101]⟩ := fun w => v3p ⟨#[97, 115, 101]⟩ ⟨#[]⟩ ⟨#[]⟩ (Nat.le_of_ble_eq_true (by kernel_rfl)) (Nat.le_of_ble_eq_true (by kernel_rfl)) false [⟨#[97, 115, 101]⟩] (by kernel_rfl) (by kernel_rfl) (Nat.le_of_ble_eq_true (by kernel_rfl)) w
theorem v4v : z3p ⟨#[115, 114]⟩ ⟨#[108, 97, 116, 110]⟩ ⟨#[]⟩ ⟨#[115, 114, 45, 76, 97, 116, 110]⟩ := fun w => v3p ⟨#[115, 114]⟩ ⟨#[108, 97, 116, 110]⟩ ⟨#[]⟩ (Nat.le_of_ble_eq_true (by kernel_rfl)) (Nat.le_of_ble_eq_true (by kernel_rfl)) false [⟨#[115, 114]⟩, ⟨#[76, 97, 116, 110]⟩] (by kernel_rfl) (by kernel_rfl) (Nat.le_of_ble_eq_true (by kernel_rfl)) w
theorem j2r : q9x (⟨#[101, 110]⟩, ⟨#[]⟩, ⟨#[97, 117]⟩) (⟨#[100, 101]⟩, ⟨#[]⟩, ⟨#[]⟩) = 84 := by kernel_rfl
theorem j2o : q9x (⟨#[101, 110]⟩, ⟨#[]⟩, ⟨#[97, 117]⟩) (⟨#[101, 110]⟩, ⟨#[]⟩, ⟨#[103, 98]⟩) = 3 := by kernel_rfl
theorem j2k : q9x (⟨#[101, 110]⟩, ⟨#[]⟩, ⟨#[97, 117]⟩) (⟨#[101, 110]⟩, ⟨#[]⟩, ⟨#[]⟩) = 4 := by kernel_rfl
theorem j1i : z0l q3x (⟨#[115, 114]⟩, ⟨#[108, 97, 116, 110]⟩, ⟨#[114, 115]⟩) = ((⟨#[115, 114]⟩, ⟨#[108, 97, 116, 110]⟩, ⟨#[114, 115]⟩), true) := by kernel_rfl
theorem j2c : (q5e ⟨#[115, 114]⟩ ⟨#[108, 97, 116, 110]⟩ ⟨#[114, 115]⟩).find? (k7x (⟨#[115, 114]⟩, ⟨#[108, 97, 116, 110]⟩, ⟨#[114, 115]⟩)) = some (⟨#[115, 114]⟩, ⟨#[108, 97, 116, 110]⟩, ⟨#[]⟩) := by kernel_rfl
theorem j2b : ∃ r, q0p[20]? = some r ∧ r.f3 = ⟨#[97, 115, 101]⟩ := ⟨_, rfl, by kernel_rfl⟩
end Go.Proofs.YtpmcfckechjppaaGreatDoor.Ps
namespace Go.Proofs.YtpmcfckechjppaaGreatDoor.Ps
open Go.RowKit Go.Shelf Go.Proofs.YtpmcfckechjppaaGreatDoorW.PrintWords Go.Proofs.YtpmcfckechjppaaGreatDoorW.PrintLast Go.Proofs.YtpmcfckechjppaaGreatDoorW.PrintMore Go.Proofs.YtpmcfckechjppaaGreatDoor.P Go.Proofs.YtpmcfckechjppaaGreatDoor.LikW
theorem k5a (B1 B2 B3 B4 : Nat) : z0z B1 B2 B3 B4 ⟨#[115, 103, 110]⟩ ⟨#[]⟩ ⟨#[117, 115]⟩ ⟨#[97, 115, 101]⟩ ⟨#[]⟩ ⟨#[]⟩ := fun w hI => by
 obtain ⟨r, hr, h3⟩ := j2b
 have h := z6r 100 B1 B2 B3 B4 ⟨#[115, 103, 110]⟩ ⟨#[]⟩ ⟨#[117, 115]⟩ 0 0 (Nat.le_of_ble_eq_true (by kernel_rfl)) (by kernel_rfl) (by kernel_rfl) 20 r hr (by kernel_rfl) (by rw [h3]; exact k9c) w hI.g hI.c1
 rw [h3] at h
 exact h
theorem j0w (B1 B2 B3 B4 : Nat) : z0z B1 B2 B3 B4 ⟨#[115, 114]⟩ ⟨#[108, 97, 116, 110]⟩ ⟨#[114, 115]⟩ ⟨#[115, 114]⟩ ⟨#[108, 97, 116, 110]⟩ ⟨#[114, 115]⟩ := fun w hI => q9f 100 B1 B2 B3 B4 _ _ _ z7r w hI.g hI.c1
theorem v8z (B1 B2 B3 B4 : Nat) (w : World) (hI : Img w B1 B2 B3 B4) (hM : GM w) : Calls Tryz.prog 25 #[q6h B1 B2 B3 B4, .string ⟨#[99, 97, 110, 111, 110, 32, 115, 103, 110, 45, 85, 83]⟩] w fun e w' => e = .returned (.string ⟨#[111, 107, 32, 97, 115, 101]⟩) ∧ Below w.heap.size w w' :=
 j1x B1 B2 B3 B4 ⟨#[99, 97, 110, 111, 110, 32, 115, 103, 110, 45, 85, 83]⟩ ⟨#[99, 97, 110, 111, 110]⟩ [⟨#[115, 103, 110, 45, 85, 83]⟩] 95 ⟨#[97, 115, 101]⟩ (by kernel_rfl) (by kernel_rfl) (by kernel_rfl) (by decide) (by decide) (by decide) (fun N => ⟨_, rfl, rfl⟩) (enters_of Tryz.func95 (by kernel_rfl) rfl)
  (fun W b N hI hN hT => v8p B1 B2 B3 B4 N b 1 1 _ _ _ _ _ _ _ _ v8i j0d (by decide) (k5a B1 B2 B3 B4) W hI hN (hT.cell 1 _ rfl)) w hI hM
theorem k0c (B1 B2 B3 B4 : Nat) (w : World) (hI : Img w B1 B2 B3 B4) (hM : GM w) : Calls Tryz.prog 25 #[q6h B1 B2 B3 B4, .string ⟨#[109, 97, 116, 99, 104, 32, 101, 110, 45, 65, 85, 32, 59, 32, 100, 101, 32, 101, 110, 45, 71, 66, 32, 101, 110]⟩] w fun e w' => e = .returned (.string ⟨#[111, 107, 32, 101, 110, 45, 71, 66]⟩) ∧ Below w.heap.size w w' :=
 j1x B1 B2 B3 B4 ⟨#[109, 97, 116, 99, 104, 32, 101, 110, 45, 65, 85, 32, 59, 32, 100, 101, 32, 101, 110, 45, 71, 66, 32, 101, 110]⟩ ⟨#[109, 97, 116, 99, 104]⟩ [⟨#[101, 110, 45, 65, 85]⟩, ⟨#[59]⟩, ⟨#[100, 101]⟩, ⟨#[101, 110, 45, 71, 66]⟩, ⟨#[101, 110]⟩] 112 ⟨#[101, 110, 45, 71, 66]⟩ (by kernel_rfl) (by kernel_rfl) (by kernel_rfl) (by decide) (by decide) (by decide) (fun N => ⟨_, rfl, rfl⟩) (enters_of Tryz.func112 (by kernel_rfl) rfl)
  (fun W b N hI hN hT => k0b 100 B1 B2 B3 B4 N b 5 (Nat.le_refl _) _ _ _ _ (⟨#[101, 110]⟩, ⟨#[]⟩, ⟨#[97, 117]⟩) (⟨#[100, 101]⟩, ⟨#[]⟩, ⟨#[]⟩) (⟨#[101, 110]⟩, ⟨#[]⟩, ⟨#[103, 98]⟩) (⟨#[101, 110]⟩, ⟨#[]⟩, ⟨#[]⟩) (by kernel_rfl) k2x (fun t ht => by
   simp only [List.mem_cons, List.not_mem_nil, or_false] at ht
   rcases ht with rfl | rfl | rfl
   · exact j1r
   · exact k2j
   · exact j1n) j2r j2o j2k k3d j1f k2l j1d (by decide) W hI hN (fun j t hj => hT.cell (1 + j) t (by rw [Nat.add_comm]; exact hj))) w hI hM
theorem k6v (B1 B2 B3 B4 : Nat) (w : World) (hI : Img w B1 B2 B3 B4) (hM : GM w) : Calls Tryz.prog 25 #[q6h B1 B2 B3 B4, .string ⟨#[109, 105, 110, 32, 115, 114, 45, 76, 97, 116, 110, 45, 82, 83]⟩] w fun e w' => e = .returned (.string ⟨#[111, 107, 32, 115, 114, 45, 76, 97, 116, 110]⟩) ∧ Below w.heap.size w w' :=
 j1x B1 B2 B3 B4 ⟨#[109, 105, 110, 32, 115, 114, 45, 76, 97, 116, 110, 45, 82, 83]⟩ ⟨#[109, 105, 110]⟩ [⟨#[115, 114, 45, 76, 97, 116, 110, 45, 82, 83]⟩] 101 ⟨#[115, 114, 45, 76, 97, 116, 110]⟩ (by kernel_rfl) (by kernel_rfl) (by kernel_rfl) (by decide) (by decide) (by decide) (fun N => ⟨_, rfl, rfl⟩) (enters_of Tryz.func101 (by kernel_rfl) rfl)
  (fun W b N hI hN hT => k7i B1 B2 B3 B4 N b 1 1 _ _ _ _ _ _ _ _ z6f (j0w B1 B2 B3 B4) _ j1i _ j2c v4v (by decide) W hI hN (hT.cell 1 _ rfl)) w hI hM
theorem k7v (w : World) (hG : GrandW.G w) (hM : GM w) : Calls Tryz.prog 6 #[] w fun e w' => e = .returned (.bool true) ∧ Below w.heap.size w w' := by
 have hui := Tryz.underlying51
 have q0 : ∀ W : World, (binOp BinOp.eql 9 (.string ⟨#[111, 107, 32, 97, 115, 101]⟩) (.string ⟨#[111, 107, 32, 97, 115, 101]⟩)).run Tryz.prog W = .ok (.bool true) W := fun W => by kernel_rfl
 have q1 : ∀ W : World, (binOp BinOp.eql 9 (.string ⟨#[111, 107, 32, 101, 110, 45, 71, 66]⟩) (.string ⟨#[111, 107, 32, 101, 110, 45, 71, 66]⟩)).run Tryz.prog W = .ok (.bool true) W := fun W => by kernel_rfl
 have q2 : ∀ W : World, (binOp BinOp.eql 9 (.string ⟨#[111, 107, 32, 115, 114, 45, 76, 97, 116, 110]⟩) (.string ⟨#[111, 107, 32, 115, 114, 45, 76, 97, 116, 110]⟩)).run Tryz.prog W = .ok (.bool true) W := fun W => by kernel_rfl
 have HG := aq hG
 have HM := aq hM
 clear hG hM
 go_enter Tryz.func6, Tryz.ntmps6
 go_wp2_with (first
  | (go_at_call 24; refine (v0s w).mono ?_; rintro e w1 ⟨⟨B1, B2, B3, B4, rfl, c1, c2, c3, c4⟩, hb⟩; obtain ⟨V, hV⟩ : ∃ V, V = w1.alloc (.cells (q4k B1 B2 B3 B4) 51) := ⟨_, rfl⟩; have hb0 : Below w1.heap.size w1 V := by { rw [hV]; exact q0b (Below.refl _ _) _ }; have I0 : V.heap[w1.heap.size]? = some (.cells (q4k B1 B2 B3 B4) 51 (0, 0)) := by { rw [hV]; exact aZ rfl }; have hI : Img w1 B1 B2 B3 B4 := ⟨HG.out.below hb, c1, c2, c3, c4⟩; have HI := aq (hI.below hb0); have HMV := aq ((HM.out.below hb).below hb0); have KI := aq I0; have KB : q0c (Below w.heap.size w V) := ⟨hb.trans (hb0.mono hb.size)⟩; obtain ⟨i0, i1, i2, i3, i4, i5⟩ := cz6 (show V.heap[w1.heap.size]? = some (.cells #[.slice (some ⟨B1, 0, none⟩) 54 54, .slice (some ⟨B2, 0, none⟩) 32 32, .slice (some ⟨B3, 0, none⟩) 15 15, .slice (some ⟨B4, 0, none⟩) 7 7, .int .i64 40, .int .i64 5] 51 (0, 0)) from I0); unfold q4k at hV; have HV := aq hV.symm; clear hb hb0 I0 hI hV c1 c2 c3 c4; unfold q6h)
  | (rw [HV.out])
  | (go_at_call 25; have h9 := v8z B1 B2 B3 B4 V HI.out HMV.out; unfold q6h at h9; (with_reducible refine h9.mono ?_); rintro e w2 ⟨rfl, hb⟩; have HI2 := aq (HI.out.below hb); have HM2 := aq (HMV.out.below hb); have K2 := kb KI hb; have B2' := aq (KB.out.trans (hb.mono KB.out.size)); clear h9 hb i0 i1 i2 i3 i4 i5; obtain ⟨i0, i1, i2, i3, i4, i5⟩ := cz6 (show w2.heap[w1.heap.size]? = some (.cells #[.slice (some ⟨B1, 0, none⟩) 54 54, .slice (some ⟨B2, 0, none⟩) 32 32, .slice (some ⟨B3, 0, none⟩) 15 15, .slice (some ⟨B4, 0, none⟩) 7 7, .int .i64 40, .int .i64 5] 51 (0, 0)) from K2.out))
  | (go_at_call 25; have h9 := k0c B1 B2 B3 B4 w2 HI2.out HM2.out; unfold q6h at h9; (with_reducible refine h9.mono ?_); rintro e w3 ⟨rfl, hb⟩; have HI3 := aq (HI2.out.below hb); have HM3 := aq (HM2.out.below hb); have K3' := kb K2 hb; have B3' := aq (B2'.out.trans (hb.mono B2'.out.size)); clear h9 hb i0 i1 i2 i3 i4 i5; obtain ⟨i0, i1, i2, i3, i4, i5⟩ := cz6 (show w3.heap[w1.heap.size]? = some (.cells #[.slice (some ⟨B1, 0, none⟩) 54 54, .slice (some ⟨B2, 0, none⟩) 32 32, .slice (some ⟨B3, 0, none⟩) 15 15, .slice (some ⟨B4, 0, none⟩) 7 7, .int .i64 40, .int .i64 5] 51 (0, 0)) from K3'.out))
  | (go_at_call 25; have h9 := k6v B1 B2 B3 B4 w3 HI3.out HM3.out; unfold q6h at h9; (with_reducible refine h9.mono ?_); rintro e w4 ⟨rfl, hb⟩; have B4' := aq (B3'.out.trans (hb.mono B3'.out.size)); clear h9 hb))
 go_ret
 exact ⟨rfl, B4'.out⟩
end Go.Proofs.YtpmcfckechjppaaGreatDoor.Ps
namespace Go.Proofs.YtpmcfckechjppaaGreatDoor.Ps
open Go.RowKit Go.Shelf Go.Proofs.YtpmcfckechjppaaGreatDoorW.PrintWords Go.Proofs.YtpmcfckechjppaaGreatDoorW.PrintLast Go.Proofs.YtpmcfckechjppaaGreatDoorW.PrintMore Go.Proofs.YtpmcfckechjppaaGreatDoor.P Go.Proofs.YtpmcfckechjppaaGreatDoor.LikW
open Go.Proofs.YtpmcfckechjppaaGreatDoor.Each Go.Proofs.YtpmcfckechjppaaGreatDoor.Base Go.Proofs.YtpmcfckechjppaaGreatDoor.Pure
theorem j0f (x : Int) (n : Nat) (h0 : 0 < n) (h1 : n ≤ 1000) (w : World) : Calls Tryz.prog 13 #[.int .i64 x, .int .i64 (n : Int)] w fun e w' => ∃ i : Nat, e = .returned (.int .i64 (i : Int)) ∧ i < n ∧ Below w.heap.size w w' := by
 have lo := Int.lt_tmod_of_pos x (show (0 : Int) < n by omega)
 have up := Int.tmod_lt_of_pos x (show (0 : Int) < n by omega)
 have e : wrap64 (Int.tmod x n + n) = Int.tmod x n + n := by unfold wrap64; omega
 have r0 := Int.tmod_nonneg (n : Int) (show 0 ≤ Int.tmod x n + n by omega)
 have r1 := Int.tmod_lt_of_pos (Int.tmod x n + n) (show (0 : Int) < n by omega)
 refine (q4l.calls x n (Int.tmod (Int.tmod x n + n) n) w (by unfold q4l.f; rw [if_neg (by omega), e])).mono ?_
 rintro e w' ⟨rfl, hd⟩
 exact ⟨(Int.tmod (Int.tmod x n + n) n).toNat, by rw [Int.toNat_of_nonneg r0], by omega, hd.below⟩
theorem k0f (s : ByteArray) (w : World) : Calls Tryz.prog 9 #[.string s] w fun e w' => ∃ t : ByteArray, e = .returned (.string t) ∧ t.size ≤ 60 ∧ Below w.heap.size w w' := by
 have h : ∃ t, q3g.f s = some t ∧ t.size ≤ 60 := by
  unfold q3g.f
  by_cases h : (s.size : Int) > 60
  · refine ⟨s.extract 0 60, by rw [if_pos h, if_pos (by omega), if_pos (by omega)], ?_⟩
    rw [ByteArray.size_extract]
    omega
  · exact ⟨s, by rw [if_neg h], by omega⟩
 obtain ⟨t, h1, h2⟩ := h
 refine (q3g.calls s t w h1).mono ?_
 rintro e w' ⟨rfl, hd⟩
 exact ⟨t, rfl, h2, hd.below⟩
end Go.Proofs.YtpmcfckechjppaaGreatDoor.Ps
namespace Go.Proofs.YtpmcfckechjppaaGreatDoor.Ps
open Go.RowKit Go.Shelf Go.Proofs.YtpmcfckechjppaaGreatDoorW.PrintWords Go.Proofs.YtpmcfckechjppaaGreatDoorW.PrintLast Go.Proofs.YtpmcfckechjppaaGreatDoorW.PrintMore Go.Proofs.YtpmcfckechjppaaGreatDoor.P Go.Proofs.YtpmcfckechjppaaGreatDoor.LikW
open Go.Proofs.YtpmcfckechjppaaGreatDoor.Each Go.Proofs.YtpmcfckechjppaaGreatDoor.Base Go.Proofs.YtpmcfckechjppaaGreatDoor.Pure Go.Proofs.YtpmcfckechjppaaGreatDoor.GrandW
theorem v9x (s t : ByteArray) (hs : s.size ≤ 60) (ht : t.size ≤ 460) : (s ++ ⟨#[45]⟩ ++ t).size ≤ 800 := by
 rw [ByteArray.size_append, ByteArray.size_append]
 have h : (⟨#[45]⟩ : ByteArray).size = 1 := rfl
 omega
theorem z8s (s : ByteArray) (a0 a1 a2 a3 a7 n : Int) (A4 A5 A6 : Option Addr) (c4 c5 c6 : Nat) (l4 l5 l6 : List Int) (w : World) (hG : GrandW.G w) (hM : GM w) (hE : EHw w) (h4 : Kd.C (Kd.int .i64) w A4 l4.length l4) (h5 : Kd.C (Kd.int .i64) w A5 l5.length l5) (h6 : Kd.C (Kd.int .i64) w A6 l6.length l6) :
 Calls Tryz.prog 3 #[.string s, .agg #[.int .i64 a0, .int .i64 a1, .int .i64 a2, .int .i64 a3, .slice A4 l4.length c4, .slice A5 l5.length c5, .slice A6 l6.length c6, .int .i64 a7], .int .i64 n] w fun e w' => e = .returned (.bool true) ∧ Below w.heap.size w w' := by
 have hut := Tryz.underlying24
 have HG := aq hG
 have HM := aq hM
 have HE := aq hE
 have X4 := aq h4
 have X5 := aq h5
 have X6 := aq h6
 have B0 := aq (Below.refl w.heap.size w)
 clear hG hM hE h4 h5 h6
 go_enter Tryz.func3, Tryz.ntmps3
 go_wp2_with (first
  | ((with_reducible refine q3l (N := 4) rfl ?_); refine be 4 #[.int .i64 a0, .int .i64 a1, .int .i64 a2, .int .i64 a3, .slice A4 l4.length c4, .slice A5 l5.length c5, .slice A6 l6.length c6, .int .i64 a7] 24 ?_; intro b4 hg v1 hbox hb; have G_b4 := aq (show w.heap.size ≤ b4 by rw [hg]; exact B0.out.size); replace B0 := bb B0 hb; have K_b4 := aq hbox; clear hb hbox hg)
  | (go_at_call 6; refine (k7v _ (HG.out.below B0.out) (HM.out.below B0.out)).mono ?_; rintro e v2 ⟨rfl, hb⟩; replace K_b4 := kb K_b4 hb; replace B0 := bb B0 hb; clear hb)
  | (go_at_call 7; refine (z3c q7n _ v2k).mono ?_; rintro e v3 ⟨vl, rfl, ho, hb⟩; obtain ⟨A, c, rfl, hc, hC⟩ := Kd.q6o ho; obtain ⟨ad, eA, _⟩ := Kd.q2o hC (0 : Int) (by decide) (by decide); subst eA; have HC := aq hC; clear ho hc hC; replace K_b4 := kb K_b4 hb; replace B0 := bb B0 hb; clear hb; obtain ⟨y_b4_0, y_b4_1, y_b4_2, y_b4_3, y_b4_4, y_b4_5, y_b4_6, y_b4_7⟩ := cz8 K_b4.out))
 refine q2w (n := 34) (S := fun w' => w'.cell? ⟨b4, 0, none⟩ = some (.int .i64 a0) ∧ w'.cell? ⟨b4, 1, none⟩ = some (.int .i64 a1) ∧ w'.cell? ⟨b4, 2, none⟩ = some (.int .i64 a2) ∧ w'.cell? ⟨b4, 3, none⟩ = some (.int .i64 a3) ∧ w'.cell? ⟨b4, 4, none⟩ = some (.slice A4 l4.length c4) ∧ w'.cell? ⟨b4, 5, none⟩ = some (.slice A5 l5.length c5) ∧ w'.cell? ⟨b4, 6, none⟩ = some (.slice A6 l6.length c6) ∧ w'.cell? ⟨b4, 7, none⟩ = some (.int .i64 a7)) (ds := []) (M 34 0) (by kernel_rfl) rfl rfl (cz8 K_b4.out) (fun hHeld => ?_)
 have hb : Below v3.heap.size v3 v3.drew := q0m (Below.refl _ _)
 generalize v3.drew = v4 at hb hHeld ⊢
 clear y_b4_0 y_b4_1 y_b4_2 y_b4_3 y_b4_4 y_b4_5 y_b4_6 y_b4_7
 replace K_b4 := kb K_b4 hb
 replace B0 := bb B0 hb
 replace HC := aq (Kd.q0h HC.out hb)
 clear hb
 refine pw 0 11 (M 34 1) ?_
 refine pw 1 12 (M 34 3) ?_
 refine pw 2 13 (M 34 7) ?_
 refine ow 3 (some 14) (M 34 15) fun K hK => ?_
 refine q5j Tryz.func9 (by kernel_rfl) rfl #[.string s] (by rfl) rfl rfl (by (try simp only [List.map_toArray, List.map_cons, List.map_nil]); first | done | rfl) ?_
 with_reducible refine (k0f s _).mono ?_
 rintro e v5 ⟨s1, rfl, hs2, hb⟩
 refine ⟨_, rfl, ?_⟩
 replace K_b4 := kb K_b4 hb
 replace B0 := bb B0 hb
 replace HC := aq (Kd.q0h HC.out hb)
 have S1 := aq hs2
 clear hs2
 clear hb
 refine hK.out _ _ (cz8 K_b4.out) (fun hHeld => ?_)
 clear hK K
 refine nw 14 ?_
 refine ow 4 (some 15) (M 34 31) fun K hK => ?_
 refine q5j Tryz.func8 (by kernel_rfl) rfl #[.string s1] (by rfl) rfl rfl (by (try simp only [List.map_toArray, List.map_cons, List.map_nil]); first | done | rfl) ?_
 with_reducible refine (z0o s1 (Nat.le_trans S1.out (by decide)) _ (HG.out.below B0.out) (HE.out.below B0.out)).mono ?_
 rintro e v6 ⟨rfl, hb⟩
 refine ⟨_, rfl, ?_⟩
 replace K_b4 := kb K_b4 hb
 replace B0 := bb B0 hb
 replace HC := aq (Kd.q0h HC.out hb)
 clear hb
 refine hK.out _ _ (cz8 K_b4.out) (fun hHeld => ?_)
 clear hK K
 refine nw 15 ?_
 refine pw 5 16 (M 34 63) ?_
 refine pw 6 17 (M 34 127) ?_
 refine tw 7 18 (M 34 255) hHeld ?_
 refine ow 8 (some 19) (M 34 511) fun K hK => ?_
 refine q5j Tryz.func11 (by kernel_rfl) rfl #[.agg #[.int .i64 a0, .int .i64 a1, .int .i64 a2, .int .i64 a3, .slice A4 l4.length c4, .slice A5 l5.length c5, .slice A6 l6.length c6, .int .i64 a7]] (by rfl) rfl rfl (by (try simp only [List.map_toArray, List.map_cons, List.map_nil]); first | done | rfl) ?_
 with_reducible refine (z1t a0 a1 a2 a3 a7 A4 A5 A6 c4 c5 c6 l4 l5 l6 _ (Kd.q0h X4.out B0.out) (Kd.q0h X5.out B0.out) (Kd.q0h X6.out B0.out)).mono ?_
 rintro e v7 hM
 obtain ⟨vt1, rfl, hb, ht⟩ := z9p _ _ _ _ hM
 have HT1 := aq ht
 clear hM ht
 refine ⟨_, rfl, ?_⟩
 replace K_b4 := kb K_b4 hb
 replace B0 := bb B0 hb
 replace HC := aq (Kd.q0h HC.out hb)
 clear hb
 refine hK.out _ _ (cz8 K_b4.out) (fun hHeld => ?_)
 clear hK K
 refine nw 19 ?_
 refine ow 9 (some 20) (M 34 1023) fun K hK => ?_
 refine q5j Tryz.func10 (by kernel_rfl) rfl #[vt1] (by rfl) rfl rfl (by (try simp only [List.map_toArray, List.map_cons, List.map_nil]); first | done | rfl) ?_
 with_reducible refine (HT1.out).mono ?_
 rintro e v8 ⟨t1, rfl, hs1, hb⟩
 refine ⟨_, rfl, ?_⟩
 replace K_b4 := kb K_b4 hb
 replace B0 := bb B0 hb
 replace HC := aq (Kd.q0h HC.out hb)
 have T1 := aq hs1
 clear hs1
 clear hb
 refine hK.out _ _ (cz8 K_b4.out) (fun hHeld => ?_)
 clear hK K
 refine nw 20 ?_
 refine ow 10 (some 21) (M 34 2047) fun K hK => ?_
 refine q5j Tryz.func8 (by kernel_rfl) rfl #[.string t1] (by rfl) rfl rfl (by (try simp only [List.map_toArray, List.map_cons, List.map_nil]); first | done | rfl) ?_
 with_reducible refine (z0o t1 (Nat.le_trans T1.out (by decide)) _ (HG.out.below B0.out) (HE.out.below B0.out)).mono ?_
 rintro e v9 ⟨rfl, hb⟩
 refine ⟨_, rfl, ?_⟩
 replace K_b4 := kb K_b4 hb
 replace B0 := bb B0 hb
 replace HC := aq (Kd.q0h HC.out hb)
 clear hb
 refine hK.out _ _ (cz8 K_b4.out) (fun hHeld => ?_)
 clear hK K
 refine nw 21 ?_
 refine pw 11 22 (M 34 4095) ?_
 refine pw 12 23 (M 34 8191) ?_
 refine pw 13 24 (M 34 16383) ?_
 refine pw 14 25 (M 34 32767) ?_
 refine pw 15 26 (M 34 65535) ?_
 refine pw 16 27 (M 34 131071) ?_
 refine ow 17 (some 28) (M 34 262143) fun K hK => ?_
 refine q5j Tryz.func13 (by kernel_rfl) rfl #[.int .i64 n, .int .i64 (q7n.length : Int)] (by rfl) rfl rfl (by (try simp only [List.map_toArray, List.map_cons, List.map_nil]); first | done | rfl) ?_
 with_reducible refine (j0f n q7n.length (by decide) (by decide) _).mono ?_
 rintro e v10 ⟨i, rfl, hi, hb⟩
 refine ⟨_, rfl, ?_⟩
 have p0 : (0 ≤ (i : Int)) = True := eq_true (by omega)
 have p1 : ((i : Int) < (q7n.length : Int)) = True := eq_true (by omega)
 have p2 : (i < q7n.length) = True := eq_true hi
 have I26 := aq (show i < 26 from hi)
 clear hi
 replace K_b4 := kb K_b4 hb
 replace B0 := bb B0 hb
 replace HC := aq (Kd.q0h HC.out hb)
 clear hb
 refine hK.out _ _ (cz8 K_b4.out) (fun hHeld => ?_)
 clear hK K
 refine nw 28 ?_
 refine pw 18 29 (M 34 524287) ?_
 refine ow 19 (some 30) (M 34 1048575) fun K hK => ?_
 have hx0 : World.cell? v10 (ad.add i) = some (.string (q7o ByteArray.empty q7n (i : Int))) := by
  obtain ⟨ad2, e2, hx⟩ := Kd.q2o HC.out (i : Int) (by omega) (of_eq_true p1)
  cases e2
  exact hx
 refine q2x (w1 := ?_) (v := ?_) (by rfl) rfl ?_ ?_
 rotate_left 2
 · go_simp
   constructor
   · rfl
   · rfl
 clear hx0
 refine hK.out _ _ (cz8 K_b4.out) (fun hHeld => ?_)
 clear hK K
 refine nw 30 ?_
 refine ow 20 (some 31) (M 34 2097151) fun K hK => ?_
 refine q5j Tryz.func12 (by kernel_rfl) rfl #[.string (q7o ByteArray.empty q7n (i : Int))] (by rfl) rfl rfl (by (try simp only [List.map_toArray, List.map_cons, List.map_nil]); first | done | rfl) ?_
 with_reducible refine (q2m.calls _ (nameAt (i : Int)) _ (v8d (i : Int) (by omega) (by have := I26.out; omega))).mono ?_
 rintro e v11 ⟨rfl, hd⟩
 have hb := hd.below
 refine ⟨_, rfl, ?_⟩
 replace K_b4 := kb K_b4 hb
 replace B0 := bb B0 hb
 replace HC := aq (Kd.q0h HC.out hb)
 clear hb
 clear hd
 refine hK.out _ _ (cz8 K_b4.out) (fun hHeld => ?_)
 clear hK K
 refine nw 31 ?_
 refine ow 21 (some 32) (M 34 4194303) fun K hK => ?_
 refine q5j Tryz.func8 (by kernel_rfl) rfl #[.string (nameAt (i : Int))] (by rfl) rfl rfl (by (try simp only [List.map_toArray, List.map_cons, List.map_nil]); first | done | rfl) ?_
 with_reducible refine (z0o (nameAt (i : Int)) (Nat.le_trans (z3s _) (by decide)) _ (HG.out.below B0.out) (HE.out.below B0.out)).mono ?_
 rintro e v12 ⟨rfl, hb⟩
 refine ⟨_, rfl, ?_⟩
 replace K_b4 := kb K_b4 hb
 replace B0 := bb B0 hb
 replace HC := aq (Kd.q0h HC.out hb)
 clear hb
 refine hK.out _ _ (cz8 K_b4.out) (fun hHeld => ?_)
 clear hK K
 refine nw 32 ?_
 refine pw 22 33 (M 34 8388607) ?_
 refine pw 23 34 (M 34 16777215) ?_
 refine pw 24 35 (M 34 33554431) ?_
 refine tw 27 38 (M 34 167772159) hHeld ?_
 refine ow 25 (some 36) (M 34 201326591) fun K hK => ?_
 refine q5j Tryz.func9 (by kernel_rfl) rfl #[.string s] (by rfl) rfl rfl (by (try simp only [List.map_toArray, List.map_cons, List.map_nil]); first | done | rfl) ?_
 with_reducible refine (k0f s _).mono ?_
 rintro e v13 ⟨s3, rfl, hs2, hb⟩
 refine ⟨_, rfl, ?_⟩
 replace K_b4 := kb K_b4 hb
 replace B0 := bb B0 hb
 replace HC := aq (Kd.q0h HC.out hb)
 have S3 := aq hs2
 clear hs2
 have n1 : ¬ 9223372036854775807 < s3.size + (⟨#[45]⟩ : ByteArray).size := by have h1 := S3.out; have h2 : (⟨#[45]⟩ : ByteArray).size = 1 := rfl; omega
 have n2 : ¬ 9223372036854775807 < s3.size + 1 := by have h1 := S3.out; omega
 clear hb
 refine hK.out _ _ (cz8 K_b4.out) (fun hHeld => ?_)
 clear hK K
 refine nw 36 ?_
 refine pw 26 37 (M 34 268435455) ?_
 refine ow 28 (some 39) (M 34 536870911) fun K hK => ?_
 refine q5j Tryz.func11 (by kernel_rfl) rfl #[.agg #[.int .i64 a0, .int .i64 a1, .int .i64 a2, .int .i64 a3, .slice A4 l4.length c4, .slice A5 l5.length c5, .slice A6 l6.length c6, .int .i64 a7]] (by rfl) rfl rfl (by (try simp only [List.map_toArray, List.map_cons, List.map_nil]); first | done | rfl) ?_
 with_reducible refine (z1t a0 a1 a2 a3 a7 A4 A5 A6 c4 c5 c6 l4 l5 l6 _ (Kd.q0h X4.out B0.out) (Kd.q0h X5.out B0.out) (Kd.q0h X6.out B0.out)).mono ?_
 rintro e v14 hM
 obtain ⟨vt2, rfl, hb, ht⟩ := z9p _ _ _ _ hM
 have HT2 := aq ht
 clear hM ht
 refine ⟨_, rfl, ?_⟩
 replace K_b4 := kb K_b4 hb
 replace B0 := bb B0 hb
 replace HC := aq (Kd.q0h HC.out hb)
 clear hb
 refine hK.out _ _ (cz8 K_b4.out) (fun hHeld => ?_)
 clear hK K
 refine nw 39 ?_
 refine ow 29 (some 40) (M 34 1073741823) fun K hK => ?_
 refine q5j Tryz.func10 (by kernel_rfl) rfl #[vt2] (by rfl) rfl rfl (by (try simp only [List.map_toArray, List.map_cons, List.map_nil]); first | done | rfl) ?_
 with_reducible refine (HT2.out).mono ?_
 rintro e v15 ⟨t2, rfl, hs1, hb⟩
 refine ⟨_, rfl, ?_⟩
 replace K_b4 := kb K_b4 hb
 replace B0 := bb B0 hb
 replace HC := aq (Kd.q0h HC.out hb)
 have T2 := aq hs1
 clear hs1
 have n3 : ¬ 9223372036854775807 < s3.size + 1 + t2.size := by have h1 := S3.out; have h2 := T2.out; omega
 have n4 : ¬ 9223372036854775807 < s3.size + (⟨#[45]⟩ : ByteArray).size + t2.size := by have h1 := S3.out; have h3 := T2.out; have h2 : (⟨#[45]⟩ : ByteArray).size = 1 := rfl; omega
 clear hb
 refine hK.out _ _ (cz8 K_b4.out) (fun hHeld => ?_)
 clear hK K
 refine nw 40 ?_
 refine pw 30 41 (M 34 2147483647) ?_
 refine ow 31 (some 42) (M 34 4294967295) fun K hK => ?_
 refine q5j Tryz.func8 (by kernel_rfl) rfl #[.string (s3 ++ ⟨#[45]⟩ ++ t2)] (by rfl) rfl rfl (by (try simp only [List.map_toArray, List.map_cons, List.map_nil]); first | done | rfl) ?_
 with_reducible refine (z0o (s3 ++ ⟨#[45]⟩ ++ t2) (v9x s3 t2 S3.out T2.out) _ (HG.out.below B0.out) (HE.out.below B0.out)).mono ?_
 rintro e v16 ⟨rfl, hb⟩
 refine ⟨_, rfl, ?_⟩
 replace K_b4 := kb K_b4 hb
 replace B0 := bb B0 hb
 replace HC := aq (Kd.q0h HC.out hb)
 clear hb
 refine hK.out _ _ (cz8 K_b4.out) (fun hHeld => ?_)
 clear hK K
 refine nw 42 ?_
 refine pw 32 43 (M 34 8589934591) ?_
 refine pw 33 6 (M 34 17179869183) ?_
 refine q4t (by kernel_rfl) ?_
 go_wp2
 go_ret
 exact ⟨rfl, B0.out⟩
end Go.Proofs.YtpmcfckechjppaaGreatDoor.Ps
