/- Made by a program of this seat's own (shake.py, merge.py): what the claim leans on: WTab, WInv, WMore. -/
import Derived.Test.YtpmcfckechjppaaGreatDoorDd00
set_option linter.unusedVariables false
set_option linter.unusedSimpArgs false
set_option maxRecDepth 100000
set_option maxHeartbeats 8000000
namespace Go.Proofs.YtpmcfckechjppaaGreatDoorW.PrintLast
open Go.Proofs.YtpmcfckechjppaaGreatDoorW.PrintWords (q0c)
def z6e (md : Region.Mode) (o : Oper) : List Nat := (o.after.toList.filter (fun e => Region.binds md e)).map (fun e => e.on)
def v1o (md : Region.Mode) (ops : Array Oper) (i : Nat) (oi : Oper) : List Nat := (List.range ops.size).filter fun j => !(j == i) && match ops[j]? with
 | some oj => !(oj.after.any (fun e => Region.binds md e && e.on == i) || oi.apart ops oj)
 | none => false
def q9c (md : Region.Mode) (ops : Array Oper) : Bool × List (List Nat × List Nat) := (Region.noSelect ops, (List.range ops.size).map fun i => match ops[i]? with
 | some o => (z6e md o, v1o md ops i o)
 | none => ([], []))
def q8g (T : List (List Nat × List Nat)) (l : List Bool) (i : Nat) : Bool := !l.getD i true && match T[i]? with
 | some r => r.1.all (fun j => l.getD j false)
 | none => false
def z3e (T : List (List Nat × List Nat)) (l : List Bool) : List Nat := (List.range T.length).filter (q8g T l)
def k5d (T : List (List Nat × List Nat)) (l : List Bool) (i : Nat) : Bool := match T[i]? with
 | some r => r.2.all (fun j => l.getD j true)
 | none => false
def k3l (T : List (List Nat × List Nat)) (i : Nat) : Nat → Nat → Bool
 | 0, _ => false
 | fuel + 1, d => match T[d]? with
  | some r => r.1.any fun j => j == i || k3l T i fuel j
  | none => false
def lastT (T : List (List Nat × List Nat)) (l : List Bool) (ds : List Nat) (i : Nat) : Bool := ds.all fun d => l.getD d true || k3l T i T.length d
section
variable {md : Region.Mode} {ops : Array Oper} {T : Bool × List (List Nat × List Nat)} {l l' li lj lk : Array Bool} {ds : List Nat} {i j k : Nat}
theorem gd (l : Array Bool) (j : Nat) (b : Bool) : l.getD j b = l.toList.getD j b := by simp [Array.getD_eq_getD_getElem?, List.getD_eq_getElem?_getD]
theorem k0g (o : Oper) (p : Nat → Bool) : o.after.all (fun e => !Region.binds md e || p e.on) = (z6e md o).all p := by
 unfold z6e
 rw [← Array.all_toList]
 induction o.after.toList with
 | nil => rfl
 | cons e r ih =>
  rw [List.all_cons, ih, List.filter_cons]
  cases h : Region.binds md e <;> simp
theorem z4v : (q9c md ops).2.length = ops.size := by simp [q9c]
theorem z9j {o : Oper} (h : ops[i]? = some o) : (q9c md ops).2[i]? = some (z6e md o, v1o md ops i o) := by
 have hi := (Array.getElem?_eq_some_iff.1 h).1
 unfold q9c
 rw [List.getElem?_map, List.getElem?_range hi, Option.map_some, h]
theorem v0h (h : ops[i]? = none) : (q9c md ops).2[i]? = none := by
 have hi : ops.size ≤ i := Array.getElem?_eq_none_iff.1 h
 exact List.getElem?_eq_none (by rw [z4v]; exact hi)
theorem v4u : q8g (q9c md ops).2 l.toList i = (!l.getD i true && ((ops[i]?).map (·.after.all fun e => !Region.binds md e || l.getD e.on false)).getD false) := by
 unfold q8g
 rw [gd]
 cases h : ops[i]? with
 | none => rw [v0h h]; rfl
 | some o =>
  rw [z9j h]
  simp only [Option.map_some, Option.getD_some]
  rw [← k0g]
  simp only [gd]
theorem ready_eq : Region.ready md ops l = z3e (q9c md ops).2 l.toList := by
 unfold Region.ready z3e
 rw [z4v]
 refine List.filter_congr (fun i _ => ?_)
 rw [v4u]
theorem free_eq : Region.free md ops l i = k5d (q9c md ops).2 l.toList i := by
 unfold Region.free k5d
 cases h : ops[i]? with
 | none => rw [v0h h]
 | some oi =>
  rw [z9j h]
  simp only [v1o]
  rw [List.all_filter]
  congr 1
  funext j
  rw [gd]
  cases hj : ops[j]? with
  | none => cases (j == i) <;> cases (l.toList.getD j true) <;> simp
  | some oj =>
   cases (j == i) <;> cases (l.toList.getD j true) <;> cases (oj.after.any (fun e => Region.binds md e && e.on == i) || oi.apart ops oj) <;> simp_all
theorem v1d (h : q8g T.2 l.toList i = true) (hT : q9c md ops = T) : (Region.ready md ops l).contains i = true := by
 subst hT
 rw [ready_eq]
 unfold z3e
 rw [List.contains_iff_mem, List.mem_filter, List.mem_range]
 refine ⟨?_, h⟩
 unfold q8g at h
 rw [Bool.and_eq_true] at h
 cases hq : (q9c md ops).2[i]? with
 | none => rw [hq] at h; simp at h
 | some r => exact (List.getElem?_eq_some_iff.1 hq).1
theorem k3r (h : (l.toList.set i true == l'.toList) = true) : (l.setIfInBounds i true == l') = true := by
 rw [beq_iff_eq] at h ⊢
 apply Array.ext'
 rw [Array.toList_setIfInBounds]
 exact h
def j1s (T : Bool × List (List Nat × List Nat)) (l l' : List Bool) (i : Nat) : Bool := T.1 && k5d T.2 l i && q8g T.2 l i && (l.set i true == l')
theorem j0i (hT : q9c md ops = T) (h : j1s T l.toList l'.toList i = true) : k9o md ops l l' i = true := by
 simp only [j1s, Bool.and_eq_true] at h
 obtain ⟨⟨⟨h1, h2⟩, h3⟩, h4⟩ := h
 have h5 := v1d h3 hT
 have h6 := k3r h4
 subst hT
 simp only [k9o, Bool.and_eq_true]
 exact ⟨⟨⟨h1, by rw [free_eq]; exact h2⟩, h5⟩, h6⟩
theorem k4o (hT : q9c md ops = T) (h : (z3e T.2 l.toList == [i] && l.toList.set i true == l'.toList) = true) : z3v md ops l l' i = true := by
 simp only [Bool.and_eq_true] at h
 obtain ⟨h1, h2⟩ := h
 subst hT
 simp only [z3v, Bool.and_eq_true]
 exact ⟨by rw [ready_eq]; exact h1, k3r h2⟩
theorem k7c (hT : q9c md ops = T) (h : (z3e T.2 l.toList == []) = true) : (Region.ready md ops l == []) = true := by
 subst hT
 rw [ready_eq]
 exact h
def upM (B : List Nat) (d : Nat) : List Nat → Nat
 | [] => 0
 | n :: r => (2 ^ n ||| (if n < d then B.getD n 0 else 0)) ||| upM B d r
def q6y (T : List (List Nat × List Nat)) (B : List Nat) : Bool := (List.range T.length).all fun d => match T[d]? with
 | some r => (B.getD d 0 ||| upM B d r.1) == upM B d r.1
 | none => false
theorem z0y {B : List Nat} {d i : Nat} : ∀ {ns : List Nat}, (upM B d ns).testBit i = true → ∃ n ∈ ns, n = i ∨ (n < d ∧ (B.getD n 0).testBit i = true)
 | [], h => by simp [upM] at h
 | n :: r, h => by
  unfold upM at h
  rw [Nat.testBit_or, Nat.testBit_or, Bool.or_eq_true, Bool.or_eq_true] at h
  rcases h with (h | h) | h
  · rw [Nat.testBit_two_pow] at h
    exact ⟨n, List.mem_cons_self, .inl (by simpa using h)⟩
  · by_cases hn : n < d
    · rw [if_pos hn] at h
      exact ⟨n, List.mem_cons_self, .inr ⟨hn, h⟩⟩
    · rw [if_neg hn] at h
      simp at h
  · obtain ⟨m, hm, h2⟩ := z0y h
    exact ⟨m, List.mem_cons_of_mem _ hm, h2⟩
theorem z3d {P : Program} {Q : Exit → Act → World → Prop} {S : World → Prop} {n : Nat} {a : Act} {w : World} {B : List Nat} (hT : q9c md ops = T) (hB : q6y T.2 B = true) (h : q0c (q9c md ops = T) → q0c (q6y T.2 B = true) → q0y P md ops Q S ds n l a w) : q0y P md ops Q S ds n l a w := h ⟨hT⟩ ⟨hB⟩
end
def z5d : Code → Nat → Option (Array Oper)
 | .region id ops _, k => if id == k then some ops else none
 | .seq a b, k => match z5d a k with
  | some o => some o
  | none => z5d b k
 | .cond _ a b, k => match z5d a k with
  | some o => some o
  | none => z5d b k
 | .block _ c, k => z5d c k
 | .loop c, k => z5d c k
 | .scope c, k => z5d c k
 | .rangeFunc _ _ a b, k => match z5d a k with
  | some o => some o
  | none => z5d b k
 | _, _ => none
def opsOf (f : Func) (k : Nat) : Array Oper := ((f.body.bind fun c => z5d c k)).getD #[]
end Go.Proofs.YtpmcfckechjppaaGreatDoorW.PrintLast
namespace Go.Proofs.YtpmcfckechjppaaGreatDoorW.PrintLast
def up (b : Nat → Bool) (i : Nat) : Nat → Bool := fun j => if j = i then true else b j
theorem q7b (b : Nat → Bool) (i : Nat) : up b i i = true := by simp [up]
theorem v1g {b : Nat → Bool} {i j : Nat} (h : j ≠ i) : up b i j = b j := by simp [up, h]
def lof (n : Nat) (O : List Nat) (b : Nat → Bool) : List Bool := (List.range n).map fun j => if O.contains j then b j else true
def q3j (a : Act) (b : Nat → Bool) : List (Nat × Tmp × Value) → Act
 | [] => a
 | e :: r => q3j (if b e.1 = true then a.put (some e.2.1) e.2.2 else a) b r
section
variable {P : Program} {ops : Array Oper} {Q : Exit → Act → World → Prop} {md : Region.Mode} {T : Bool × List (List Nat × List Nat)} {B : List Nat} {O : List Nat} {b : Nat → Bool} {i j n : Nat}
theorem v6a : (lof n O b).length = n := by simp [lof]
theorem z7z {d : Bool} (hj : j < n) : (lof n O b).getD j d = if O.contains j then b j else true := by
 simp [lof, List.getD_eq_getElem?_getD, hj]
theorem k8q (hi : O.contains i = true) : (lof n O b).set i true = lof n O (up b i) := by
 apply List.ext_getElem?
 intro j
 by_cases hj : j < n
 · by_cases hij : i = j
   · subst hij
     have hl : i < (lof n O b).length := by rw [v6a]; exact hj
     rw [List.getElem?_set_self hl]
     simp only [lof, List.getElem?_map, List.getElem?_range hj, Option.map_some, hi, if_true, q7b]
   · rw [List.getElem?_set_ne hij]
     simp only [lof, List.getElem?_map, List.getElem?_range hj, Option.map_some]
     rw [v1g (Ne.symm hij)]
 · rw [List.getElem?_eq_none (by simp [lof]; omega), List.getElem?_eq_none (by simp [lof]; omega)]
def z3x (P : Program) (ops : Array Oper) (Q : Exit → Act → World → Prop) (B : List Nat) (O : List Nat) (I : (Nat → Bool) → Act → World → Prop) (i : Nat) : Prop :=
 ∀ b a w, I b a w → b i = false → (∀ j, (O.contains j && (B.getD i 0).testBit j) = true → b j = true) → (∀ d, (O.contains d && (B.getD d 0).testBit i) = true → b d = false) →
  ∃ oi, ops[i]? = some oi ∧ ∀ K : Act → World → Prop, Shut (∀ a' w', I (up b i) a' w' → K a' w') → if Region.wanted oi (yielded ops a.tmps) = true then Oper.wp P oi a w K Q else K (a.put oi.dst undef) w
theorem z8i {I : (Nat → Bool) → Act → World → Prop} : ∀ i ∈ ([] : List Nat), z3x P ops Q B O I i := fun _ h => by cases h
theorem q1k {I : (Nat → Bool) → Act → World → Prop} {rs : List Nat} (h : z3x P ops Q B O I i) (hs : ∀ j ∈ rs, z3x P ops Q B O I j) : ∀ j ∈ i :: rs, z3x P ops Q B O I j := fun j hj => by
 rcases List.mem_cons.1 hj with rfl | hj
 · exact h
 · exact hs j hj
def q8h (T : List (List Nat × List Nat)) (O : List Nat) : Bool :=
 (List.range T.length).all (fun d => match T[d]? with
  | some r => (O.contains d || r.1.all fun n => !O.contains n) && r.1.all fun n => decide (n < d)
  | none => false) && O.all (fun i => decide (i < T.length)) && decide O.Nodup
theorem q6k {T : List (List Nat × List Nat)} (h : q8h T O = true) {d : Nat} {r : List Nat × List Nat} (hr : T[d]? = some r) : (O.contains d = false → ∀ n ∈ r.1, O.contains n = false) ∧ ∀ n ∈ r.1, n < d := by
 simp only [q8h, Bool.and_eq_true] at h
 have h1 := List.all_eq_true.1 h.1.1 d (List.mem_range.2 (List.getElem?_eq_some_iff.1 hr).1)
 rw [hr] at h1
 simp only [Bool.and_eq_true, Bool.or_eq_true, List.all_eq_true, decide_eq_true_eq] at h1
 refine ⟨fun hd n hn => ?_, h1.2⟩
 rcases h1.1 with h2 | h2
 · rw [hd] at h2; cases h2
 · simpa using h2 n hn
theorem v0c {T : List (List Nat × List Nat)} (h : q8h T O = true) {i : Nat} (hi : i ∈ O) : i < T.length := by
 simp only [q8h, Bool.and_eq_true] at h
 simpa using List.all_eq_true.1 h.1.2 i hi
theorem z9z {T : List (List Nat × List Nat)} (h : q8h T O = true) : O.Nodup := by
 simp only [q8h, Bool.and_eq_true] at h
 exact of_decide_eq_true h.2
def Closed (T : List (List Nat × List Nat)) (O : List Nat) (b : Nat → Bool) : Prop := ∀ d r, T[d]? = some r → O.contains d = true → b d = true → ∀ n ∈ r.1, O.contains n = true → b n = true
theorem v3n {T : List (List Nat × List Nat)} (hw : q6y T B = true) (hk : q8h T O = true) : ∀ (m d : Nat), d ≤ m → d < T.length → O.contains d = false → ∀ j, (B.getD d 0).testBit j = true → O.contains j = false := by
 intro m
 induction m with
 | zero =>
  intro d hd hl hO j hj
  have hd0 : d = 0 := by omega
  subst hd0
  have hr : T[0]? = some T[0] := List.getElem?_eq_getElem hl
  have h1 := List.all_eq_true.1 hw 0 (List.mem_range.2 hl)
  rw [hr] at h1
  simp only [beq_iff_eq] at h1
  have h2 : (upM B 0 T[0].1).testBit j = true := by rw [← h1, Nat.testBit_or, hj, Bool.true_or]
  obtain ⟨n, hn, h3⟩ := z0y h2
  have := (q6k hk hr).2 n hn
  omega
 | succ m ih =>
  intro d hd hl hO j hj
  have hr : T[d]? = some T[d] := List.getElem?_eq_getElem hl
  have h1 := List.all_eq_true.1 hw d (List.mem_range.2 hl)
  rw [hr] at h1
  simp only [beq_iff_eq] at h1
  have h2 : (upM B d T[d].1).testBit j = true := by rw [← h1, Nat.testBit_or, hj, Bool.true_or]
  obtain ⟨n, hn, h3⟩ := z0y h2
  have hO2 := (q6k hk hr).1 hO n hn
  rcases h3 with rfl | ⟨h4, h5⟩
  · exact hO2
  · exact ih n (by omega) (by omega) hO2 j h5
theorem z3i {T : List (List Nat × List Nat)} (hw : q6y T B = true) (hk : q8h T O = true) (hc : Closed T O b) : ∀ (m d : Nat), d ≤ m → d < T.length → O.contains d = true → b d = true → ∀ j, O.contains j = true → (B.getD d 0).testBit j = true → b j = true := by
 intro m
 induction m with
 | zero =>
  intro d hd hl hO hb j hjO hj
  have hd0 : d = 0 := by omega
  subst hd0
  have hr : T[0]? = some T[0] := List.getElem?_eq_getElem hl
  have h1 := List.all_eq_true.1 hw 0 (List.mem_range.2 hl)
  rw [hr] at h1
  simp only [beq_iff_eq] at h1
  have h2 : (upM B 0 T[0].1).testBit j = true := by rw [← h1, Nat.testBit_or, hj, Bool.true_or]
  obtain ⟨n, hn, h3⟩ := z0y h2
  have := (q6k hk hr).2 n hn
  omega
 | succ m ih =>
  intro d hd hl hO hb j hjO hj
  have hr : T[d]? = some T[d] := List.getElem?_eq_getElem hl
  have h1 := List.all_eq_true.1 hw d (List.mem_range.2 hl)
  rw [hr] at h1
  simp only [beq_iff_eq] at h1
  have h2 : (upM B d T[d].1).testBit j = true := by rw [← h1, Nat.testBit_or, hj, Bool.true_or]
  obtain ⟨n, hn, h3⟩ := z0y h2
  rcases h3 with rfl | ⟨h4, h5⟩
  · exact hc d _ hr hO hb n hn hjO
  · cases hO2 : O.contains n with
    | true => exact ih n (by omega) (by omega) hO2 (hc d _ hr hO hb n hn hO2) j hjO h5
    | false =>
     have := v3n hw hk n n (Nat.le_refl _) (by omega) hO2 j h5
     rw [hjO] at this
     cases this
theorem v4d : ∀ {O : List Nat}, O.Nodup → i ∈ O → b i = false → (O.filter fun j => !up b i j).length + 1 = (O.filter fun j => !b j).length
 | [], _, hi, _ => by cases hi
 | x :: r, hn, hi, hb => by
  rw [List.nodup_cons] at hn
  rcases List.mem_cons.1 hi with rfl | hi
  · have h1 : (r.filter fun j => !up b i j) = r.filter fun j => !b j := by
     refine List.filter_congr (fun j hj => ?_)
     rw [v1g (fun e => hn.1 (by rw [← e]; exact hj))]
    rw [List.filter_cons, List.filter_cons]
    simp [q7b, hb, h1]
  · have hxi : x ≠ i := fun e => hn.1 (e ▸ hi)
    have h1 := v4d hn.2 hi hb
    rw [List.filter_cons, List.filter_cons, v1g hxi]
    cases hbx : b x
    · simp only [Bool.not_false, if_true, List.length_cons]
      omega
    · simpa using h1
theorem k6w (hT : q9c md ops = T) (hw : q6y T.2 B = true) (hk : q8h T.2 O = true) (I : (Nat → Bool) → Act → World → Prop) (hs : ∀ i ∈ O, z3x P ops Q B O I i)
 (hend : ∀ b a w, (∀ j, O.contains j = true → b j = true) → I b a w → Q .normal a w) :
 ∀ (m : Nat) (b : Nat → Bool) (a : Act) (w : World), (O.filter fun j => !b j).length = m → Closed T.2 O b → I b a w → q0y P md ops Q (fun _ => True) [] m (lof T.2.length O b).toArray a w := by
 subst hT
 have mem_ready' : ∀ {b : Nat → Bool} {i : Nat}, i ∈ Region.ready md ops (lof (q9c md ops).2.length O b).toArray → i < (q9c md ops).2.length ∧ O.contains i = true ∧ b i = false ∧ ∀ r, (q9c md ops).2[i]? = some r → ∀ n ∈ r.1, n < (q9c md ops).2.length → O.contains n = true → b n = true := by
  intro b i hi
  rw [ready_eq] at hi
  unfold z3e at hi
  rw [List.mem_filter, List.mem_range] at hi
  obtain ⟨hl, h1⟩ := hi
  unfold q8g at h1
  rw [Bool.and_eq_true, z7z hl] at h1
  obtain ⟨h2, h3⟩ := h1
  have h4 : O.contains i = true := by
   cases h : O.contains i with
   | true => rfl
   | false => rw [h] at h2; simp at h2
  rw [h4] at h2
  refine ⟨hl, h4, by simpa using h2, fun r hr n hn hnl hO => ?_⟩
  rw [hr] at h3
  simp only [List.all_eq_true] at h3
  have h5 := h3 n hn
  rw [z7z hnl, hO] at h5
  simpa using h5
 intro m
 induction m with
 | zero =>
  intro b a w hm hc hI
  have hall : ∀ j, O.contains j = true → b j = true := by
   intro j hj
   cases hb : b j with
   | true => rfl
   | false =>
    have : j ∈ O.filter fun j => !b j := List.mem_filter.2 ⟨List.contains_iff_mem.1 hj, by simp [hb]⟩
    rw [List.eq_nil_of_length_eq_zero hm] at this
    cases this
  refine ⟨?_, hend b a w hall hI⟩
  refine List.eq_nil_iff_forall_not_mem.2 (fun i hi => ?_)
  obtain ⟨_, h1, h2, _⟩ := mem_ready' hi
  rw [hall i h1] at h2
  cases h2
 | succ m ih =>
  intro b a w hm hc hI
  refine ⟨fun hr => ?_, fun i hi => ?_⟩
  · exfalso
    -- the smallest number that isn't listed is ready
    have hex : ∃ i, O.contains i = true ∧ b i = false := by
     cases hf : O.filter (fun j => !b j) with
     | nil => rw [hf] at hm; simp at hm
     | cons x r =>
      have hx : x ∈ O.filter (fun j => !b j) := by rw [hf]; exact List.mem_cons_self
      rw [List.mem_filter] at hx
      exact ⟨x, List.contains_iff_mem.2 hx.1, by simpa using hx.2⟩
    have hmin : ∀ k, (∃ i, i ≤ k ∧ O.contains i = true ∧ b i = false) → ∃ i, O.contains i = true ∧ b i = false ∧ ∀ j, j < i → O.contains j = true → b j = true := by
     intro k
     induction k with
     | zero =>
      rintro ⟨i, hi, h1, h2⟩
      exact ⟨i, h1, h2, fun j hj => by omega⟩
     | succ k ihk =>
      rintro ⟨i, hi, h1, h2⟩
      by_cases hlow : ∃ j, j ≤ k ∧ O.contains j = true ∧ b j = false
      · exact ihk hlow
      · refine ⟨i, h1, h2, fun j hj hO => ?_⟩
        cases hb : b j with
        | true => rfl
        | false => exact absurd ⟨j, by omega, hO, hb⟩ hlow
    obtain ⟨i0, h1, h2⟩ := hex
    obtain ⟨i, hO, hb, hlow⟩ := hmin i0 ⟨i0, Nat.le_refl _, h1, h2⟩
    have hl := v0c hk (List.contains_iff_mem.1 hO)
    have hin : i ∈ Region.ready md ops (lof (q9c md ops).2.length O b).toArray := by
     rw [ready_eq]
     unfold z3e
     rw [List.mem_filter, List.mem_range]
     refine ⟨hl, ?_⟩
     unfold q8g
     rw [z7z hl, hO, hb]
     have hr2 : (q9c md ops).2[i]? = some (q9c md ops).2[i] := List.getElem?_eq_getElem hl
     rw [hr2]
     simp only [if_true, Bool.not_false, Bool.true_and, List.all_eq_true]
     intro n hn
     have hni := (q6k hk hr2).2 n hn
     rw [z7z (by omega)]
     cases hOn : O.contains n with
     | true => simpa using hlow n hni hOn
     | false => simp
    rw [hr] at hin
    cases hin
  · obtain ⟨hl, hO, hb, hneed⟩ := mem_ready' hi
    have hon : ∀ j, (O.contains j && (B.getD i 0).testBit j) = true → b j = true := by
     intro j hj
     rw [Bool.and_eq_true] at hj
     have hr2 : (q9c md ops).2[i]? = some (q9c md ops).2[i] := List.getElem?_eq_getElem hl
     have h1 := List.all_eq_true.1 hw i (List.mem_range.2 hl)
     rw [hr2] at h1
     simp only [beq_iff_eq] at h1
     have h2 : (upM B i (q9c md ops).2[i].1).testBit j = true := by rw [← h1, Nat.testBit_or, hj.2, Bool.true_or]
     obtain ⟨n, hn, h3⟩ := z0y h2
     have hni := (q6k hk hr2).2 n hn
     rcases h3 with rfl | ⟨h4, h5⟩
     · exact hneed _ hr2 n hn (by omega) hj.1
     · cases hO2 : O.contains n with
       | true => exact z3i hw hk hc n n (Nat.le_refl _) (by omega) hO2 (hneed _ hr2 n hn (by omega) hO2) j hj.1 h5
       | false =>
        have := v3n hw hk n n (Nat.le_refl _) (by omega) hO2 j h5
        rw [hj.1] at this
        cases this
    have hoff : ∀ d, (O.contains d && (B.getD d 0).testBit i) = true → b d = false := by
     intro d hd
     rw [Bool.and_eq_true] at hd
     cases hbd : b d with
     | false => rfl
     | true =>
      have hdl := v0c hk (List.contains_iff_mem.1 hd.1)
      have := z3i hw hk hc d d (Nat.le_refl _) hdl hd.1 hbd i hO hd.2
      rw [hb] at this
      cases this
    obtain ⟨oi, hoi, hK⟩ := hs i (List.contains_iff_mem.1 hO) b a w hI hb hon hoff
    refine wpOp_step hoi (fun K' hK' => hK K' (fun a' w' hI' => hK' a' w' ⟨fun _ _ => trivial, ?_⟩))
    have hset : (lof (q9c md ops).2.length O b).toArray.setIfInBounds i true = (lof (q9c md ops).2.length O (up b i)).toArray := by
     apply Array.ext'
     rw [Array.toList_setIfInBounds]
     exact k8q hO
    rw [hset]
    refine ih (up b i) a' w' ?_ ?_ hI'
    · have := v4d (z9z hk) (List.contains_iff_mem.1 hO) hb
      omega
    · intro d r hr hOd hbd n hn hOn
      by_cases hni : n = i
      · rw [hni, q7b]
      · rw [v1g hni]
        by_cases hdi : d = i
        · subst hdi
          exact hneed r hr n hn (by have := (q6k hk hr).2 n hn; omega) hOn
        · rw [v1g hdi] at hbd
          exact hc d r hr hOd hbd n hn hOn
theorem q3t {b : Nat → Bool} {t : Tmp} : ∀ {L : List (Nat × Tmp × Value)} {a : Act}, (L.all fun e => !(e.2.1 == t)) = true → (q3j a b L).tmps[t]? = a.tmps[t]?
 | [], _, _ => rfl
 | e :: r, a, h => by
  rw [List.all_cons, Bool.and_eq_true] at h
  have he : e.2.1 ≠ t := by simpa using h.1
  unfold q3j
  by_cases hb : b e.1 = true
  · rw [if_pos hb, q3t h.2]
    simp [Act.put, Array.getElem?_setIfInBounds_ne he]
  · rw [if_neg hb]
    exact q3t h.2
theorem q1w {b : Nat → Bool} {e : Nat × Tmp × Value} : ∀ {L : List (Nat × Tmp × Value)} {a : Act} (k : Nat), L[k]? = some e → ((L.drop (k + 1)).all fun x => !(x.2.1 == e.2.1)) = true → b e.1 = true → Nat.ble (e.2.1 + 1) a.tmps.size = true → (q3j a b L).tmps[e.2.1]? = some e.2.2
 | [], _, _, h, _, _, _ => by cases h
 | x :: r, a, 0, h, hd, hb, ht => by
  simp only [List.getElem?_cons_zero, Option.some.injEq] at h
  subst h
  unfold q3j
  rw [if_pos hb, q3t (by simpa using hd)]
  have ht2 : x.2.1 < a.tmps.size := Nat.le_of_ble_eq_true ht
  simp [Act.put, ht2]
 | x :: r, a, k + 1, h, hd, hb, ht => by
  unfold q3j
  refine q1w k (by simpa using h) (by simpa using hd) hb ?_
  by_cases hx : b x.1 = true
  · rw [if_pos hx]
    simpa [Act.put] using ht
  · rw [if_neg hx]
    exact ht
theorem put_comm {a : Act} {s t : Tmp} {u v : Value} (h : s ≠ t) : (a.put (some s) u).put (some t) v = (a.put (some t) v).put (some s) u := by
 simp only [Act.put]
 rw [Array.setIfInBounds_comm _ _ h]
theorem z1f {b : Nat → Bool} {t : Tmp} {v : Value} : ∀ {L : List (Nat × Tmp × Value)} {a : Act}, (L.all fun e => !(e.2.1 == t)) = true → (q3j a b L).put (some t) v = q3j (a.put (some t) v) b L
 | [], _, _ => rfl
 | e :: r, a, h => by
  rw [List.all_cons, Bool.and_eq_true] at h
  have he : e.2.1 ≠ t := by simpa using h.1
  unfold q3j
  by_cases hb : b e.1 = true
  · rw [if_pos hb, if_pos hb, z1f h.2, put_comm he]
  · rw [if_neg hb, if_neg hb]
    exact z1f h.2
theorem q9s {b : Nat → Bool} {i : Nat} : ∀ {L : List (Nat × Tmp × Value)} {a : Act}, (L.all fun e => !(e.1 == i)) = true → q3j a (up b i) L = q3j a b L
 | [], _, _ => rfl
 | e :: r, a, h => by
  rw [List.all_cons, Bool.and_eq_true] at h
  have he : e.1 ≠ i := by simpa using h.1
  unfold q3j
  rw [v1g he]
  exact q9s h.2
theorem z9e {b : Nat → Bool} {i : Nat} {t : Tmp} {v0 v : Value} : ∀ {L1 L2 : List (Nat × Tmp × Value)} {a : Act}, b i = false → ((L1 ++ L2).all fun e => !(e.1 == i) && !(e.2.1 == t)) = true →
 (q3j a b (L1 ++ (i, t, v0) :: L2)).put (some t) v = q3j a (up b i) (L1 ++ (i, t, v) :: L2)
 | [], L2, a, hb, h => by
  simp only [List.nil_append] at h ⊢
  have h1 : (L2.all fun e => !(e.1 == i)) = true := List.all_eq_true.2 (fun e he => by have := List.all_eq_true.1 h e he; simp only [Bool.and_eq_true] at this; exact this.1)
  have h2 : (L2.all fun e => !(e.2.1 == t)) = true := List.all_eq_true.2 (fun e he => by have := List.all_eq_true.1 h e he; simp only [Bool.and_eq_true] at this; exact this.2)
  unfold q3j
  rw [if_neg (by rw [hb]; decide), if_pos (q7b b i), z1f h2, q9s h1]
 | e :: r, L2, a, hb, h => by
  simp only [List.cons_append, List.all_cons, Bool.and_eq_true] at h
  have he : e.1 ≠ i := by simpa using h.1.1
  simp only [List.cons_append]
  unfold q3j
  rw [v1g he]
  exact z9e hb h.2
theorem q1p {b : Nat → Bool} {i : Nat} {t : Tmp} {v0 v : Value} {a : Act} {L L' : List (Nat × Tmp × Value)} (k : Nat) (hb : b i = false) (hL : L[k]? = some (i, t, v0)) (hL' : L.set k (i, t, v) = L') (hd : ((L.take k ++ L.drop (k + 1)).all fun e => !(e.1 == i) && !(e.2.1 == t)) = true) :
 (q3j a b L).put (some t) v = q3j a (up b i) L' := by
 have hk := (List.getElem?_eq_some_iff.1 hL).1
 have h1 : L = L.take k ++ (i, t, v0) :: L.drop (k + 1) := by
  have h2 : L[k] = (i, t, v0) := (List.getElem?_eq_some_iff.1 hL).2
  rw [← h2, List.getElem_cons_drop, List.take_append_drop]
 have h3 : L' = L.take k ++ (i, t, v) :: L.drop (k + 1) := by rw [← hL', List.set_eq_take_append_cons_drop, if_pos hk]
 rw [h3]
 conv => lhs; rw [h1]
 exact z9e hb hd
theorem q9p {b : Nat → Bool} {i : Nat} {L : List (Nat × Tmp × Value)} {a : Act} {v : Value} (h : (L.all fun e => !(e.1 == i)) = true) : (q3j a b L).put none v = q3j a (up b i) L := (q9s h).symm
theorem j2x {l : Array Bool} {fuel : Nat} {a : Act} {w : World} (O : List Nat) (I : (Nat → Bool) → Act → World → Prop) (hT : q9c md ops = T) (hw : q6y T.2 B = true) (hk : q8h T.2 O = true)
 (hl : (lof T.2.length O (fun _ => false) == l.toList && O.length == fuel) = true) (h0 : I (fun _ => false) a w) (hs : ∀ i ∈ O, z3x P ops Q B O I i)
 (hend : ∀ b a w, (∀ j, O.contains j = true → b j = true) → I b a w → Q .normal a w) : q0y P md ops Q (fun _ => True) [] fuel l a w := by
 rw [Bool.and_eq_true, beq_iff_eq, beq_iff_eq] at hl
 have h1 := k6w hT hw hk I hs hend fuel (fun _ => false) a w (by rw [← hl.2]; simp) (fun d r _ _ hb => by cases hb) h0
 have h2 : (lof T.2.length O (fun _ => false)).toArray = l := by apply Array.ext'; exact hl.1
 rw [h2] at h1
 exact h1
theorem k3n {l : Array Bool} {fuel : Nat} {a : Act} {w : World} (O : List Nat) (I : Act → (Nat → Bool) → Act → World → Prop) (hT : q9c md ops = T) (hw : q6y T.2 B = true) (hk : q8h T.2 O = true)
 (hl : (lof T.2.length O (fun _ => false) == l.toList && O.length == fuel) = true) (h0 : I a (fun _ => false) a w) (hs : ∀ i ∈ O, z3x P ops Q B O (I a) i)
 (hend : ∀ b a' w, (∀ j, O.contains j = true → b j = true) → I a b a' w → Q .normal a' w) : q0y P md ops Q (fun _ => True) [] fuel l a w := j2x O (I a) hT hw hk hl h0 hs hend
end
end Go.Proofs.YtpmcfckechjppaaGreatDoorW.PrintLast
namespace Go.Proofs.YtpmcfckechjppaaGreatDoorW.PrintMore
open Go.RowKit Go.Proofs.YtpmcfckechjppaaGreatDoorW.PrintWords
namespace Kd
open Go.Proofs.YtpmcfckechjppaaGreatDoorW.PrintWords.Kd
end Kd

namespace Kd
open Go.Proofs.YtpmcfckechjppaaGreatDoorW.PrintWords.Kd
section
variable {α : Type} {d : Kd α} {e base g N : Nat} {ok : Nat → Prop} {W w1 : World} {u v : Value} {xs : List α}
end
end Kd
theorem z7m (k k' : IntKind) (x y : Int) : Builtin.max2 (.int k x) (.int k' y) = pure (.int k (if x < y then y else x)) := by simp only [Builtin.max2, gt_iff_lt]
theorem z7a (k k' : IntKind) (x y : Int) : Builtin.min2 (.int k x) (.int k' y) = pure (.int k (if y < x then y else x)) := by simp only [Builtin.min2]
theorem v0v (ats : Array TypeId) (ty : TypeId) (a b : Value) : Builtin.max_ ats ty #[a, b] = (Builtin.max2 a b >>= fun s => pure s) := by simp only [Builtin.max_, List.foldlM_cons, List.foldlM_nil]
theorem v1k (ats : Array TypeId) (ty : TypeId) (a b : Value) : Builtin.min_ ats ty #[a, b] = (Builtin.min2 a b >>= fun s => pure s) := by simp only [Builtin.min_, List.foldlM_cons, List.foldlM_nil]
theorem z4o (ats : Array TypeId) (ty : TypeId) (a b c : Value) : Builtin.max_ ats ty #[a, b, c] = (Builtin.max2 a b >>= fun s => Builtin.max2 s c >>= fun s => pure s) := by simp only [Builtin.max_, List.foldlM_cons, List.foldlM_nil]
theorem z4r (ats : Array TypeId) (ty : TypeId) (a b c : Value) : Builtin.min_ ats ty #[a, b, c] = (Builtin.min2 a b >>= fun s => Builtin.min2 s c >>= fun s => pure s) := by simp only [Builtin.min_, List.foldlM_cons, List.foldlM_nil]
theorem z7h (ats : Array TypeId) (ty : TypeId) (a b c d : Value) : Builtin.max_ ats ty #[a, b, c, d] = (Builtin.max2 a b >>= fun s => Builtin.max2 s c >>= fun s => Builtin.max2 s d >>= fun s => pure s) := by simp only [Builtin.max_, List.foldlM_cons, List.foldlM_nil]
theorem z6v (ats : Array TypeId) (ty : TypeId) (a b c d : Value) : Builtin.min_ ats ty #[a, b, c, d] = (Builtin.min2 a b >>= fun s => Builtin.min2 s c >>= fun s => Builtin.min2 s d >>= fun s => pure s) := by simp only [Builtin.min_, List.foldlM_cons, List.foldlM_nil]
end Go.Proofs.YtpmcfckechjppaaGreatDoorW.PrintMore
namespace Go.Proofs.YtpmcfckechjppaaGreatDoorW.PrintWords
open Go.RowKit
section
variable {P : Program} {ops : Array Oper} {rest : List Oper} {o : Oper} {a : Act} {Q : Exit → Act → World → Prop} {W : World}
theorem q0s {f : FuncId} {as : Array Operand} {ts : Array TypeId} (_ho : o.op = .call { callee := .value (.func f), args := as, argTypes := ts }) (h : wpList P ops Q (o :: rest) a W) : wpList P ops Q (o :: rest) a W := h
theorem q1d {b : Builtin} {xs : Array Operand} {ts : Array TypeId} (_ho : o.op = .call { callee := .builtin b, args := xs, argTypes := ts }) (h : wpList P ops Q (o :: rest) a W) : wpList P ops Q (o :: rest) a W := h
end
def mn (a b : Int) : Int := if b < a then b else a
namespace Kd
section
variable {α : Type} {d : Kd α} {e base : Nat} {ok : Nat → Prop} {W w1 : World} {v : Value} {xs : List α}
end
section
variable {α : Type} {d : Kd α} {e base g n cap : Nat} {ok oki okp : Nat → Prop} {W : World} {xs : List α} {i : Int} {c : List Value}
end
section
variable {α : Type} {d : Kd α} {e base b b' g N : Nat} {ok ok1 : Nat → Prop} {W W2 w1 : World} {u v : Value} {xs ys : List α} {S : Nat → Prop}
end
end Kd
namespace Kd
section
variable {α β : Type} {d : Kd α} {e base base' n m c g N' lo hi : Nat} {ok ok' S : Nat → Prop} {w W w1 : World} {A : Option Addr} {ad : Addr} {u v v1 : Value} {xs : List α}
end
end Kd
end Go.Proofs.YtpmcfckechjppaaGreatDoorW.PrintWords
