/- What decoding a row comes to, in the program and by the document; what is decoded of a right alias's row. -/
import Derived.Test.YtmbfnbnlajchmaaDoorAdAliasHelp
import Derived.Test.YtmbfnbnlajchmaaDoorAdP24
import Derived.Test.YtmbfnbnlajchmaaDoorAdP25
import Derived.Test.YtmbfnbnlajchmaaDoorAdP26
namespace Go.Proofs.YtmbfnbnlajchmaaDoor.Pure
open Go.RowKit Go.Proofs.YtmbfnbnlajchmaaDoor.P Go.Proofs.YtmbfnbnlajchmaaDoorW.PrintWords Go.Proofs.YtmbfnbnlajchmaaDoorW.PrintLast Go.Proofs.YtmbfnbnlajchmaaDoorW.PrintMore
open Go.Proofs.YtmbfnbnlajchmaaDoor.Each Go.Proofs.YtmbfnbnlajchmaaDoor.Base Go.Proofs.YtmbfnbnlajchmaaDoor.PackW
set_option linter.unusedVariables false
set_option linter.unusedSimpArgs false

def gN (s : ByteArray) (p : Nat) : Nat → Int
  | 0 => 0
  | j + 1 => gN s p j * 256 + bt s ((p + j : Nat) : Int)
theorem gN_range (s : ByteArray) (p : Nat) : ∀ j, 0 ≤ gN s p j ∧ gN s p j < 256 ^ j
  | 0 => by simp [gN]
  | j + 1 => by
    obtain ⟨h0, h1⟩ := gN_range s p j
    obtain ⟨c0, c1⟩ := bt_byte s ((p + j : Nat) : Int)
    rw [gN, Int.pow_succ]
    omega
theorem gN_lim (s : ByteArray) (p j : Nat) (hj : j ≤ 7) : 0 ≤ gN s p j ∧ gN s p j ≤ 72057594037927935 := by
  obtain ⟨h0, h1⟩ := gN_range s p j
  refine ⟨h0, ?_⟩
  have : (256 : Int) ^ j ≤ 256 ^ 7 := by
    obtain ⟨d, hd⟩ : ∃ d, 7 = j + d := ⟨7 - j, by omega⟩
    rw [hd, Int.pow_add]
    have a := pow_pos' j
    have b := pow_pos' d
    have c := Int.mul_le_mul_of_nonneg_left (show (1 : Int) ≤ 256 ^ d by omega) (Int.le_of_lt a)
    rw [Int.mul_one] at c
    exact c
  have e : (256 : Int) ^ 7 = 72057594037927936 := by decide
  omega
theorem Get_loop (s : ByteArray) (hs : s.size ≤ 140737488351232) (p : Nat) (hp : p + 8 ≤ s.size) : ∀ (d j : Nat), 8 - j = d → j ≤ 8 →
    Ev (fun k => pack_Get.l0 k s (p : Int) (gN s p j) 8 (j : Int)) (gN s p 8, true)
  | 0, j, hd, hj => by
    obtain rfl : j = 8 := by omega
    refine Ev.step (fun k => by unfold pack_Get.l0; rfl) ?_
    exact Ev.ite_neg (by omega) (Ev.now _)
  | d + 1, j, hd, hj => by
    have ih := Get_loop s hs p hp d (j + 1) (by omega) (by omega)
    obtain ⟨h0, h1⟩ := gN_lim s p j (by omega)
    obtain ⟨c0, c1⟩ := bt_byte s ((p + j : Nat) : Int)
    have w : wrap64 ((p : Int) + (j : Int)) = ((p + j : Nat) : Int) := by unfold wrap64; omega
    refine Ev.step (fun k => by unfold pack_Get.l0; rfl) ?_
    rw [w, u64_id (x := gN s p j * 256) (by omega) (by omega), u64_id (x := bt s ((p + j : Nat) : Int)) c0 (by omega), or_byte _ _ h0 h1 c0 c1, wrap_next (by omega) (by omega)]
    refine Ev.ite_pos (by omega) (Ev.ite_pos (by omega) (Ev.ite_pos (by omega) ?_))
    exact ih
theorem Get_ev (s : ByteArray) (hs : s.size ≤ 140737488351232) (p : Nat) (hp : p + 8 ≤ s.size) : Ev (fun k => pack_Get.f k s (p : Int) 8) (gN s p 8, true) := by
  unfold pack_Get.f
  refine Ev.ite_neg (by decide) (Ev.ite_neg (by decide) (Ev.ite_neg (by omega) ?_))
  have w : wrap64 ((s.size : Int) - 8) = (s.size : Int) - 8 := by unfold wrap64; omega
  rw [w, decide_eq_false (by omega)]
  refine Ev.step (fun k => by unfold pack_Get.j0; rfl) ?_
  refine Ev.ite_neg (by decide) ?_
  exact Get_loop s hs p hp 8 0 rfl (by decide)
theorem rGet_loop (s : ByteArray) (hs : s.size ≤ 140737488351232) (p : Nat) (hp : p + 8 ≤ s.size) : ∀ (d j : Nat), 8 - j = d → j ≤ 8 →
    Ev (fun k => isoglossref03_Get.l0 k s (p : Int) 8 (gN s p j) (j : Int)) (gN s p 8, true)
  | 0, j, hd, hj => by
    obtain rfl : j = 8 := by omega
    refine Ev.step (fun k => by unfold isoglossref03_Get.l0; rfl) ?_
    exact Ev.ite_neg (by omega) (Ev.now _)
  | d + 1, j, hd, hj => by
    have ih := rGet_loop s hs p hp d (j + 1) (by omega) (by omega)
    obtain ⟨h0, h1⟩ := gN_lim s p j (by omega)
    obtain ⟨c0, c1⟩ := bt_byte s ((p + j : Nat) : Int)
    have w : wrap64 ((p : Int) + (j : Int)) = ((p + j : Nat) : Int) := by unfold wrap64; omega
    refine Ev.step (fun k => by unfold isoglossref03_Get.l0; rfl) ?_
    rw [w, u64_id (x := gN s p j * 256) (by omega) (by omega), u64_id (x := bt s ((p + j : Nat) : Int)) c0 (by omega), u64_id (by omega) (by omega), wrap_next (by omega) (by omega)]
    refine Ev.ite_pos (by omega) (Ev.ite_pos (by omega) (Ev.ite_pos (by omega) ?_))
    exact ih
theorem rGet_ev (s : ByteArray) (hs : s.size ≤ 140737488351232) (p : Nat) (hp : p + 8 ≤ s.size) : Ev (fun k => isoglossref03_Get.f k s (p : Int) 8) (gN s p 8, true) := by
  unfold isoglossref03_Get.f
  refine Ev.ite_neg (by decide) (Ev.ite_neg (by decide) (Ev.ite_neg (by omega) ?_))
  have w : wrap64 ((s.size : Int) - 8) = (s.size : Int) - 8 := by unfold wrap64; omega
  rw [w, decide_eq_false (by omega)]
  refine Ev.step (fun k => by unfold isoglossref03_Get.j0; rfl) ?_
  refine Ev.ite_neg (by decide) ?_
  exact rGet_loop s hs p hp 8 0 rfl (by decide)

def decT (s : ByteArray) (i : Nat) : ByteArray × Bool := unpN (gN s (1 + 8 * i) 8)
theorem unpN_size (n : Int) : (unpN n).1.size ≤ 8 := by
  unfold unpN
  split
  · show (strOfNums (headN n)).size ≤ 8
    rw [strOfNums_size]; exact headN_length n
  · decide
theorem decT_size (s : ByteArray) (i : Nat) : (decT s i).1.size ≤ 8 := unpN_size _
abbrev ZT : Int × ByteArray × ByteArray × ByteArray × ByteArray × ByteArray × Bool := (0, ⟨#[]⟩, ⟨#[]⟩, ⟨#[]⟩, ⟨#[]⟩, ⟨#[]⟩, false)
def lastS (s : ByteArray) : Int × ByteArray × ByteArray × ByteArray × ByteArray × ByteArray × Bool :=
  if rightB (bt s 0) (decT s 0).1 (decT s 1).1 (decT s 2).1 (decT s 3).1 (decT s 4).1 = true then (bt s 0, (decT s 0).1, (decT s 1).1, (decT s 2).1, (decT s 3).1, (decT s 4).1, true) else ZT
def decS (s : ByteArray) : Int × ByteArray × ByteArray × ByteArray × ByteArray × ByteArray × Bool :=
  if s.size = 41 then
    if (decT s 0).2 = true then if (decT s 1).2 = true then if (decT s 2).2 = true then if (decT s 3).2 = true then if (decT s 4).2 = true then lastS s
    else ZT else ZT else ZT else ZT else ZT
  else ZT
theorem d_round (s : ByteArray) (hz : s.size = 41) (m : Nat) (l : List ByteArray) (i : Nat) (hl : l.length = i) (hi : i < 5) (q : Option (List ByteArray)) (h : Ev (fun n => alias_Decode.d n s m (l ++ [(decT s i).1])) q) :
    Ev (fun n => alias_Decode.d n s (m + 1) l) (if (decT s i).2 = true then q else none) := by
  unfold alias_Decode.d
  rw [hl]
  have e : (1 : Int) + (i : Int) * 8 = ((1 + 8 * i : Nat) : Int) := by omega
  rw [e]
  refine Ev.bind (Get_ev s (by omega) (1 + 8 * i) (by omega)) ?_
  refine Ev.bind (Unpack_ev _) ?_
  by_cases c : (decT s i).2 = true
  · rw [if_pos c]; exact Ev.ite_pos c h
  · rw [if_neg c]; exact Ev.ite_neg c (Ev.now _)
theorem Ev.ifE {α : Type} {p : Prop} [Decidable p] {g : Nat → Option α} {x y : α} (h : p → Ev g x) (k : ¬ p → Ev g y) : Ev g (if p then x else y) := by
  by_cases c : p
  · rw [if_pos c]; exact h c
  · rw [if_neg c]; exact k c
theorem Decode_ev (s : ByteArray) : Ev (fun n => alias_Decode.f n s) (decS s) := by
  unfold alias_Decode.f decS
  by_cases hz : s.size = 41
  · refine Ev.ite_pos (by omega) ?_
    rw [if_pos hz]
    have d5 : Ev (fun n => alias_Decode.d n s 0 [(decT s 0).1, (decT s 1).1, (decT s 2).1, (decT s 3).1, (decT s 4).1]) (some [(decT s 0).1, (decT s 1).1, (decT s 2).1, (decT s 3).1, (decT s 4).1]) := by
      unfold alias_Decode.d; exact Ev.now _
    have d4 := d_round s hz 0 [(decT s 0).1, (decT s 1).1, (decT s 2).1, (decT s 3).1] 4 rfl (by decide) _ d5
    have d3 := d_round s hz 1 [(decT s 0).1, (decT s 1).1, (decT s 2).1] 3 rfl (by decide) _ d4
    have d2 := d_round s hz 2 [(decT s 0).1, (decT s 1).1] 2 rfl (by decide) _ d3
    have d1 := d_round s hz 3 [(decT s 0).1] 1 rfl (by decide) _ d2
    have d0 := d_round s hz 4 [] 0 rfl (by decide) _ d1
    refine Ev.bind d0 ?_
    have z : Ev (fun n => alias_Decode.o n (bt s 0) none) ZT := by unfold alias_Decode.o; exact Ev.now _
    refine Ev.ifE (fun c0 => ?_) (fun c0 => by rw [if_neg c0]; exact z)
    rw [if_pos c0]
    refine Ev.ifE (fun c1 => ?_) (fun c1 => by rw [if_neg c1]; exact z)
    rw [if_pos c1]
    refine Ev.ifE (fun c2 => ?_) (fun c2 => by rw [if_neg c2]; exact z)
    rw [if_pos c2]
    refine Ev.ifE (fun c3 => ?_) (fun c3 => by rw [if_neg c3]; exact z)
    rw [if_pos c3]
    refine Ev.ifE (fun c4 => ?_) (fun c4 => by rw [if_neg c4]; exact z)
    rw [if_pos c4]
    unfold alias_Decode.o alias_Decode.n lastS
    have t0 := decT_size s 0
    have t1 := decT_size s 1
    have t2 := decT_size s 2
    have t3 := decT_size s 3
    have t4 := decT_size s 4
    refine Ev.bind (Right_ev _ _ _ _ _ _ (by omega) (by omega) (by omega) (by omega) (by omega)) ?_
    exact Ev.ifE (fun c => Ev.ite_pos c (Ev.now _)) (fun c => Ev.ite_neg c (Ev.now _))
  · refine Ev.ite_neg (by omega) ?_
    rw [if_neg hz]
    exact Ev.now _
theorem rd_round (s : ByteArray) (hz : s.size = 41) (i : Nat) (hi : i < 5) (x0 x1 x2 x3 x4 : ByteArray) (q : Int × ByteArray × ByteArray × ByteArray × ByteArray × ByteArray × Bool)
    (h : Ev (fun n => if (i : Int) = 0 then (isoglossref12_Decode.l0 n s ((i : Int) + 1) (decT s i).1 x1 x2 x3 x4) else (if (i : Int) = 1 then (isoglossref12_Decode.l0 n s ((i : Int) + 1) x0 (decT s i).1 x2 x3 x4) else (if (i : Int) = 2 then (isoglossref12_Decode.l0 n s ((i : Int) + 1) x0 x1 (decT s i).1 x3 x4) else (if (i : Int) = 3 then (isoglossref12_Decode.l0 n s ((i : Int) + 1) x0 x1 x2 (decT s i).1 x4) else (if (i : Int) = 4 then (isoglossref12_Decode.l0 n s ((i : Int) + 1) x0 x1 x2 x3 (decT s i).1) else (none)))))) q) :
    Ev (fun n => isoglossref12_Decode.l0 n s (i : Int) x0 x1 x2 x3 x4) (if (decT s i).2 = true then q else ZT) := by
  refine Ev.step (fun n => by unfold isoglossref12_Decode.l0; rfl) ?_
  have e : wrap64 ((1 : Int) + wrap64 (8 * (i : Int))) = ((1 + 8 * i : Nat) : Int) := by
    have : wrap64 (8 * (i : Int)) = 8 * (i : Int) := by unfold wrap64; omega
    rw [this]; unfold wrap64; omega
  have e1 : wrap64 ((i : Int) + 1) = (i : Int) + 1 := by unfold wrap64; omega
  rw [e, e1]
  refine Ev.ite_pos (by omega) ?_
  refine Ev.bind (rGet_ev s (by omega) (1 + 8 * i) (by omega)) ?_
  refine Ev.bind (rUnpack_ev _) ?_
  by_cases c : (decT s i).2 = true
  · rw [if_pos c]; exact Ev.ite_pos c h
  · rw [if_neg c]; exact Ev.ite_neg c (Ev.now _)
theorem rDecode_ev (s : ByteArray) : Ev (fun n => isoglossref12_Decode.f n s) (decS s) := by
  unfold isoglossref12_Decode.f decS
  by_cases hz : s.size = 41
  · refine Ev.ite_pos (by omega) ?_
    rw [if_pos hz]
    have r5 : Ev (fun n => isoglossref12_Decode.l0 n s 5 (decT s 0).1 (decT s 1).1 (decT s 2).1 (decT s 3).1 (decT s 4).1) (lastS s) := by
      refine Ev.step (fun n => by unfold isoglossref12_Decode.l0; rfl) ?_
      refine Ev.ite_neg (by decide) (Ev.ite_pos (by omega) ?_)
      have t0 := decT_size s 0
      have t1 := decT_size s 1
      have t2 := decT_size s 2
      have t3 := decT_size s 3
      have t4 := decT_size s 4
      obtain ⟨c0, c1⟩ := bt_byte s 0
      have w : wrap64 (bt s 0) = bt s 0 := by unfold wrap64; omega
      rw [w]
      refine Ev.bind (rRight_ev _ _ _ _ _ _ (by omega) (by omega) (by omega) (by omega) (by omega)) ?_
      unfold lastS
      exact Ev.ifE (fun c => Ev.ite_pos c (Ev.now _)) (fun c => Ev.ite_neg c (Ev.now _))
    have r4 := rd_round s hz 4 (by decide) (decT s 0).1 (decT s 1).1 (decT s 2).1 (decT s 3).1 ⟨#[]⟩ _ (Ev.ite_neg (by decide) (Ev.ite_neg (by decide) (Ev.ite_neg (by decide) (Ev.ite_neg (by decide) (Ev.ite_pos rfl r5)))))
    have r3 := rd_round s hz 3 (by decide) (decT s 0).1 (decT s 1).1 (decT s 2).1 ⟨#[]⟩ ⟨#[]⟩ _ (Ev.ite_neg (by decide) (Ev.ite_neg (by decide) (Ev.ite_neg (by decide) (Ev.ite_pos rfl r4))))
    have r2 := rd_round s hz 2 (by decide) (decT s 0).1 (decT s 1).1 ⟨#[]⟩ ⟨#[]⟩ ⟨#[]⟩ _ (Ev.ite_neg (by decide) (Ev.ite_neg (by decide) (Ev.ite_pos rfl r3)))
    have r1 := rd_round s hz 1 (by decide) (decT s 0).1 ⟨#[]⟩ ⟨#[]⟩ ⟨#[]⟩ ⟨#[]⟩ _ (Ev.ite_neg (by decide) (Ev.ite_pos rfl r2))
    exact rd_round s hz 0 (by decide) ⟨#[]⟩ ⟨#[]⟩ ⟨#[]⟩ ⟨#[]⟩ ⟨#[]⟩ _ (Ev.ite_pos rfl r1)
  · refine Ev.ite_neg (by omega) ?_
    rw [if_neg hz]
    exact Ev.now _
theorem decodes_ev (s : ByteArray) : Ev (fun n => isoglosslaw12_decodes.f n s) true := by
  unfold isoglosslaw12_decodes.f
  refine Ev.bind (Decode_ev s) ?_
  refine Ev.bind (rDecode_ev s) ?_
  refine Ev.ite_pos (by simp) (Ev.res (Ev.now _) ?_)
  exact beq_self_eq_true _
end Go.Proofs.YtmbfnbnlajchmaaDoor.Pure
