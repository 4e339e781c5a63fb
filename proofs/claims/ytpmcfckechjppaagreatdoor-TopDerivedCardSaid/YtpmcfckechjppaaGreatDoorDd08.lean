/- Made by a program of this seat's own (shake.py, merge.py): what the claim leans on: Rd3, Case, Spl, Jn, Rd4, Rd5. -/
import Derived.Test.YtpmcfckechjppaaGreatDoorDd06
import Derived.Test.YtpmcfckechjppaaGreatDoorDd07
set_option linter.unusedVariables false
set_option linter.unusedSimpArgs false
set_option maxRecDepth 100000
set_option maxHeartbeats 8000000
namespace Go.Proofs.YtpmcfckechjppaaGreatDoor.Ps
open Go.RowKit Go.Shelf Go.Proofs.YtpmcfckechjppaaGreatDoorW.PrintWords Go.Proofs.YtpmcfckechjppaaGreatDoorW.PrintLast Go.Proofs.YtpmcfckechjppaaGreatDoorW.PrintMore Go.Proofs.YtpmcfckechjppaaGreatDoor.P Go.Proofs.YtpmcfckechjppaaGreatDoor.LikW
attribute [local go_sem] Oper.semAt_some
def q4y (w : World) (v : Value) : Prop := ∀ k, v.ownBlock = some k → w.heap.size ≤ k
theorem q8v (w : World) : q4y w (.slice none 0 0) := fun k h => by cases h
theorem q4y.app {w W : World} {v v1 : Value} (h : q4y w v) (hw : w.heap.size ≤ W.heap.size) (hat : v1.ownBlock = v.ownBlock ∨ ∃ b, v1.ownBlock = some b ∧ W.heap.size ≤ b) : q4y w v1 := fun k hk => by
 rcases hat with e | ⟨b, e, hb⟩
 · exact h k (by rw [← e]; exact hk)
 · rw [e] at hk; cases hk; exact Nat.le_trans hw hb
theorem q4y.row {w : World} {v : Value} (h : q4y w v) : v.ownBlock = none ∨ ∃ b, v.ownBlock = some b ∧ w.heap.size ≤ b := by
 cases e : v.ownBlock with
 | none => exact .inl rfl
 | some b => exact .inr ⟨b, rfl, h b e⟩
theorem z2k {W W1 : World} {g base n size : Nat} {e : TypeId} {v : Value} {xs : List Value} {cs : Array Value} (h : W.ownsRow base e size v n xs) (hR : W.heap[g]? = some (.cells cs TR (0, 0))) (he : e ≠ TR) (hk : q0j W W1 g none) : W1.ownsRow base e size v n xs :=
 q2j h fun k hv => hk.2 k (q8a h k hv) (fun x => own_ne h hR he (by rw [hv, x])) (by simp)
theorem PG.grown {W W1 : World} {A : Option Addr} {l : List Pc} (h : PG W A l) {base n size : Nat} {e : TypeId} {v : Value} {xs : List Value} (ho : W.ownsRow base e size v n xs) (he : e ≠ 92) (hg : W.grownBy W1 v.ownBlock) : PG W1 A l :=
 h.move fun b cs hb => hg.block b (Array.getElem?_eq_some_iff.1 hb).1 (own_ne ho hb he)
section
variable {ops : Array Oper} {rest : List Oper} {o : Oper} {a : Act} {Q : Exit → Act → World → Prop}
theorem j1e {w0 W : World} (base : Nat) (hgd : o.guard = none) (s x : Operand) (ho : o.op = .call { callee := .builtin .append, args := #[s, x], argTypes := #[26, 26] }) (v : Value) (L : List ByteArray) (t : ByteArray) (hs : a.eval s = v) (hx : a.eval x = .slice (some ⟨W.heap.size, 0, none⟩) 1 1) (HO : Own W base v L) (HB : Below base w0 W) (hbase : base ≤ W.heap.size) (hl : L.length ≤ 1000000)
 (h : ∀ v1 w1, Own w1 base v1 (L ++ [t]) → Below base w0 w1 → W.grownBy w1 v.ownBlock → (v1.ownBlock = v.ownBlock ∨ ∃ b, v1.ownBlock = some b ∧ W.heap.size ≤ b) → wpList Tryz.prog ops Q rest (a.put o.dst v1) w1) :
 wpList Tryz.prog ops Q (o :: rest) a (W.alloc (.cells #[.string t] 9)) := by
 refine q2f (w0 := w0) base hgd s x 26 9 (.string ⟨#[]⟩) 1 16 ho Tryz.underlying26 (by kernel_rfl) rfl (by decide) (by decide) v L.length (L.map Value.string) [.string t] hs hx rfl (by simp [Value.oneCell']) HO HB hbase (by omega) ?_
 intro v1 w1 ho hb hg hat
 exact h v1 w1 (by unfold Own; rw [List.length_append, List.map_append]; exact ho) hb hg hat
end
def j1a : Value → Nat
 | .slice _ n _ => n
 | _ => 0
theorem v8b {W : World} {base : Nat} {v : Value} {l : List ByteArray} (h : Own W base v l) : j1a v = l.length := by
 obtain ⟨A, c, rfl⟩ := q0u h
 rfl
theorem v2e (f : ByteArray → Bool) : ∀ l : List Pc, (rowP f l).1.length + (rowP f l).2.length = l.length
 | [] => rfl
 | x :: l => by
  unfold rowP
  split
  · simp only [List.length_cons]; have := v2e f l; omega
  · simp
theorem k7h {f : ByteArray → Bool} {x : Pc} {l : List Pc} (h : (q3u x.2 && f x.2) = true) : rowP f (x :: l) = (x.2 :: (rowP f l).1, (rowP f l).2) := by
 conv => lhs; unfold rowP
 exact if_pos h
theorem k6h {f : ByteArray → Bool} {x : Pc} {l : List Pc} (h : ¬ (q3u x.2 && f x.2) = true) : rowP f (x :: l) = ([], x :: l) := by
 conv => lhs; unfold rowP
 exact if_neg h
theorem k9y (F : FuncId) (f : ByteArray → Bool) (hF : q8b F f) (g : Nat) (A : Option Addr) (c : Nat) (e : Int) (s : RS) (l : List Pc) (w0 w : World) (hB : Below w0.heap.size w0 w) (hg : w0.heap.size ≤ g) (hc : l.length ≤ c) (hR : w.heap[g]? = some (RB s A l.length c e)) (hP : PG w A l) (hl : l.length ≤ 1000000) :
 Calls Tryz.prog 187 #[.pointer (some ⟨g, 0, none⟩), .func (.func F) #[] #[]] w fun e' w' => ∃ v, e' = .returned v ∧ Own w' w0.heap.size v (rowP f l).1 ∧ q4y w v ∧ q7g w0 w w' g e s (rowP f l).2 := by
 have hL : q7g w0 w w g e s l := ⟨⟨A, c, hc, hR, hP⟩, hB, q0j.refl w g none⟩
 have HL0 := aq hL
 have HW := aq hB.size
 obtain ⟨eF, hF⟩ := hF
 unfold Go.Proofs.Enters at eF
 obtain ⟨L, hLL⟩ : ∃ L, L = rowP f l := ⟨_, rfl⟩
 rw [← hLL]
 have HLL := aq hLL
 clear hB hc hR hP hL hLL
 go_enter Tryz.func187, Tryz.ntmps187
 go_wp2
 go_loopw [5] (fun vo wr => ∃ (acc : List ByteArray) (m : List Pc), q0c (Own wr w0.heap.size vo acc) ∧ q0c (q4y w vo) ∧ q0c (q7g w0 w wr g e s m) ∧ q0c (acc ++ (rowP f m).1 = L.1 ∧ (rowP f m).2 = L.2) ∧ acc.length + m.length = l.length) (fun vo _ => l.length - j1a vo)
 case atStart => exact ⟨[], l, ⟨q3a _ _ _ _⟩, ⟨q8v w⟩, HL0, ⟨by rw [HLL.out]; exact ⟨rfl, rfl⟩⟩, by simp⟩
 case round =>
  clear HL0 HLL
  obtain ⟨acc, m, HO, HV, HL, HE, hn⟩ := hrel
  obtain ⟨V1, d1, e1⟩ := q0u HO.out
  subst e1
  obtain ⟨⟨A1, c1, hc1, hR1, hP1⟩, hB1, hK1⟩ := HL.out
  have HR := aq hR1
  have HP := aq hP1
  have HB := aq hB1
  have HK := aq hK1
  clear hR1 hP1 hB1 hK1
  cases m with
  | nil =>
   have he := HE.out
   have hd : acc = L.1 ∧ [] = L.2 := by simpa [rowP] using he
   have HD := aq hd
   clear he hd
   go_wp2_with (first
    | (go_at_call 123; refine (q2s g _ c1 e s [] _ (by exact HR.out) (by exact HP.out)).mono ?_; rintro e w' ⟨rfl, ⟨nd, rfl⟩⟩; rw [show q3s [] = ⟨#[]⟩ from rfl]))
   go_ret
   refine ⟨_, rfl, ?_, HV.out, ?_⟩
   · rw [← HD.out.1]; exact HO.out
   · rw [← HD.out.2]; exact ⟨⟨A1, c1, hc1, HR.out, PG.nil _ _⟩, q0d HB.out _, q0i HK.out _⟩
  | cons x m =>
   have done : ¬ (q3u x.2 && f x.2) = true → acc = L.1 ∧ x :: m = L.2 := fun h => by
    have he := HE.out
    rw [k6h h] at he
    simpa using he
   cases hs : q3u x.2 with
   | false =>
    have he := q7l (l := m) hs
    have HD := aq (done (by rw [hs]; simp))
    clear hs done hF eF
    go_wp2_with (first
     | (go_at_call 123; refine (q2s g _ c1 e s (x :: m) _ (by exact HR.out) (by exact HP.out)).mono ?_; rintro e w' ⟨rfl, ⟨nd, rfl⟩⟩; rw [he]))
    go_ret
    refine ⟨_, rfl, ?_, HV.out, ?_⟩
    · rw [← HD.out.1]; exact HO.out
    · rw [← HD.out.2]; exact ⟨⟨A1, c1, hc1, HR.out, HP.out.keep HR.out (q0i (q0j.refl wr g none) _)⟩, q0d HB.out _, q0i HK.out _⟩
   | true =>
    have he := q7d (l := m) hs
    have q0 := z2q hs
    have h8 := (q7r hs).1
    have HF := fun W => hF x.2 W h8
    cases hf : f x.2 with
    | false =>
     rw [hf] at HF
     have HD := aq (done (by rw [hf]; simp))
     clear hs done hF h8 hf
     go_wp2_with (first
      | (go_at_call 123; refine (q2s g _ c1 e s (x :: m) _ (by exact HR.out) (by exact HP.out)).mono ?_; rintro e w' ⟨rfl, ⟨nd, rfl⟩⟩; rw [he])
      | (with_reducible refine (HF _).mono ?_; rintro e w' ⟨rfl, ⟨nd, rfl⟩⟩))
     go_ret
     refine ⟨_, rfl, ?_, HV.out, ?_⟩
     · rw [← HD.out.1]; exact HO.out
     · rw [← HD.out.2]; exact ⟨⟨A1, c1, hc1, HR.out, HP.out.keep HR.out (q0i (q0j.refl wr g none) _)⟩, q0d HB.out _, q0i HK.out _⟩
    | true =>
     rw [hf] at HF
     have hpos := k7h (l := m) (show (q3u x.2 && f x.2) = true by rw [hs, hf]; rfl)
     have he2 : acc ++ [x.2] ++ (rowP f m).1 = L.1 ∧ (rowP f m).2 = L.2 := by
      have he := HE.out
      rw [hpos] at he
      simpa using he
     have HE2 := aq he2
     have hle : acc.length ≤ 1000000 := by simp only [List.length_cons] at hn; omega
     have HLE := aq hle
     clear hs done hF h8 hf hpos he2 hle
     go_wp2_with (first
      | (go_at_call 123; refine (q2s g _ c1 e s (x :: m) _ (by exact HR.out) (by exact HP.out)).mono ?_; rintro e w' ⟨rfl, ⟨nd, rfl⟩⟩; rw [he])
      | (with_reducible refine (HF _).mono ?_; rintro e w' ⟨rfl, ⟨nd, rfl⟩⟩)
      | (go_at_call 130; refine (z1s g _ c1 e s x m w0 _ (by exact q0d HB.out _) hg hc1 (by exact HR.out) (by exact HP.out)).mono ?_; rintro e w2 ⟨rfl, ⟨A2, c2, hc2, hR2, hP2⟩, hB2, hK2⟩; rw [he]; have HR2 := aq hR2; have HP2 := aq hP2; have HB2 := aq hB2; have HK2 := aq ((q0i (q0j.refl wr g none) _).trans hK2 (.inl rfl)); have HO2 := aq (show Own w2 w0.heap.size (.slice V1 acc.length d1) acc from z2k HO.out HR.out (by decide) HK2.out); clear hR2 hP2 hB2 hK2)
      | ((with_reducible refine q1d (b := .append) (xs := #[.tmp 15, .tmp 18]) rfl ?_); at_builtin; refine j1e (w0 := w0) w0.heap.size rfl (.tmp 15) (.tmp 18) rfl (.slice V1 acc.length d1) acc x.2 rfl rfl HO2.out HB2.out HB2.out.size HLE.out ?_; intro v3 w3 hO3 hB3 hG3 hat; have HO3 := aq hO3; have HB3 := aq hB3; have HG3 := aq hG3; have HAT := aq hat; clear hO3 hB3 hG3 hat))
     go_roundw
     case rel =>
      have hw2 : w.heap.size ≤ w2.heap.size := Nat.le_trans HK.out.1 HK2.out.1
      have hk2 : q0j w w2 g none := HK.out.trans HK2.out (.inl rfl)
      refine ⟨acc ++ [x.2], m, HO3, ⟨HV.out.app hw2 HAT.out⟩, ⟨⟨A2, c2, hc2, ?_, ?_⟩, HB3.out, ?_⟩, HE2, by simp only [List.length_append, List.length_cons, List.length_nil] at hn ⊢; omega⟩
      · exact (HG3.out.block g (Array.getElem?_eq_some_iff.1 HR2.out).1 (own_ne HO2.out HR2.out (by decide))).trans HR2.out
      · exact HP2.out.grown HO2.out (by decide) HG3.out
      · exact hk2.trans (q0j.z2s HG3.out g) HV.out.row
     case measure =>
      have h1 := v8b HO.out
      have h2 := v8b HO3.out
      rw [List.length_append] at h2
      simp only [List.length_cons, List.length_nil] at hn h2
      show l.length - j1a v3 < l.length - acc.length
      omega
theorem v2w.after {w0 w w1 w' : World} {g : Nat} {x : Int × Int} {e' : Ending} (h : v2w w0 w1 w' g x e') (hk : q0j w w1 g none) : v2w w0 w w' g x e' := by
 obtain ⟨p, he, hf, hp, hb, hk2⟩ := h
 exact ⟨p, he, hf, Nat.le_trans hk.1 hp, hb, hk.trans hk2 (.inl rfl)⟩
theorem z7j (F : FuncId) (f : ByteArray → Bool) (hF : q8b F f) (g : Nat) (A : Option Addr) (c : Nat) (e : Int) (s : RS) (l : List Pc) (w0 w : World) (hB : Below w0.heap.size w0 w) (hg : w0.heap.size ≤ g) (hc : l.length ≤ c) (hR : w.heap[g]? = some (RB s A l.length c e)) (hP : PG w A l) (hl : l.length ≤ 1000000) (hy : (rowP f l).1 ≠ []) :
 Calls Tryz.prog 131 #[.pointer (some ⟨g, 0, none⟩), .func (.func F) #[] #[]] w fun e' w' => ∃ v, e' = .returned v ∧ Own w' w0.heap.size v (rowP f l).1 ∧ q4y w v ∧ q7g w0 w w' g e s (rowP f l).2 := by
 have HC := aq (k9y F f hF g A c e s l w0 w hB hg hc hR hP hl)
 have hn : (((rowP f l).1.length : Int) == 0) = false := beq_eq_false_iff_ne.2 fun h => hy (List.eq_nil_of_length_eq_zero (by omega))
 obtain ⟨L, hLL⟩ : ∃ L, L = rowP f l := ⟨_, rfl⟩
 rw [← hLL] at hn HC ⊢
 clear hB hg hc hR hP hl hF hy hLL
 go_enter Tryz.func131, Tryz.ntmps131
 go_wp2_with (first
  | (go_at_call 187; refine (by exact HC.out : Calls _ _ _ _ _).mono ?_; rintro e w1 ⟨v, rfl, hO, hV, hL⟩; obtain ⟨V, c1, e1⟩ := q0u hO; subst e1; have HO := aq hO; have HV := aq hV; have HL := aq hL; clear hO hV hL))
 go_ret
 exact ⟨_, rfl, HO.out, HV.out, HL.out⟩
theorem v8n (F : FuncId) (f : ByteArray → Bool) (hF : q8b F f) (g : Nat) (A : Option Addr) (c : Nat) (e : Int) (s : RS) (l : List Pc) (w0 w : World) (hB : Below w0.heap.size w0 w) (hg : w0.heap.size ≤ g) (hc : l.length ≤ c) (hR : w.heap[g]? = some (RB s A l.length c e)) (hP : PG w A l) (hl : l.length ≤ 1000000) (hy : (rowP f l).1 = []) :
 Calls Tryz.prog 131 #[.pointer (some ⟨g, 0, none⟩), .func (.func F) #[] #[]] w fun e' w' => v2w w0 w w' g (q4r e (rowP f l).2, 10) e' := by
 have HC := aq (k9y F f hF g A c e s l w0 w hB hg hc hR hP hl)
 have hn : (((rowP f l).1.length : Int) == 0) = true := by rw [hy]; rfl
 obtain ⟨L, hLL⟩ : ∃ L, L = rowP f l := ⟨_, rfl⟩
 rw [← hLL] at hn HC ⊢
 clear hB hg hc hR hP hl hF hy hLL
 go_enter Tryz.func131, Tryz.ntmps131
 go_wp2_with (first
  | (go_at_call 187; refine (by exact HC.out : Calls _ _ _ _ _).mono ?_; rintro e w1 ⟨v, rfl, hO, hV, ⟨A1, c2, hc2, hR1, hP1⟩, hB1, hK1⟩; obtain ⟨V, c1, e1⟩ := q0u hO; subst e1; have HR := aq hR1; have HP := aq hP1; have HB := aq hB1; have HK := aq hK1; clear hO hV hR1 hP1 hB1 hK1)
  | (go_at_call 133; refine (v3b g A1 c2 _ s L.2 w0 w1 HB.out HR.out HP.out).mono ?_; rintro e' w2 hbad; have HBad := aq (hbad.after HK.out); clear hbad; obtain ⟨p, he, -⟩ := HBad.out; subst he))
 exact ⟨rfl, HBad.out⟩
def q7z (st : Bool × List ByteArray) (x : Int × ByteArray) : Option (Bool × List ByteArray) :=
 (q2a.f x.2).bind fun low =>
  if (decide (0 < x.1) && !(st.1 || ((x.2.size : Int) == 1))) = true then
   (if (low.size : Int) = 2 then (q4n.f low).bind fun u => some (st.1 || ((x.2.size : Int) == 1), st.2 ++ [u])
    else if (low.size : Int) = 4 then (q4m.f low).bind fun u => some (st.1 || ((x.2.size : Int) == 1), st.2 ++ [u])
    else some (st.1 || ((x.2.size : Int) == 1), st.2 ++ [low]))
  else some (st.1 || ((x.2.size : Int) == 1), st.2 ++ [low])
def z4z : List (Int × ByteArray) → Bool × List ByteArray → Option (Bool × List ByteArray)
 | [], st => some st
 | x :: l, st => (q7z st x).bind (z4z l)
theorem z6a : ∀ (l : List (Int × ByteArray)) (x : Int × ByteArray) (st st' : Bool × List ByteArray), z4z l st = some st' → z4z (l ++ [x]) st = q7z st' x
 | [], x, st, st', h => by cases h; simp only [List.nil_append, z4z]; cases q7z st x <;> rfl
 | y :: l, x, st, st', h => by
  simp only [z4z, List.cons_append] at h ⊢
  obtain ⟨s2, h2, h⟩ := Option.bind_eq_some_iff.1 h
  rw [h2, Option.bind_some]
  exact z6a l x s2 st' h
def v2q (x : Int × ByteArray) : Bool := match q2a.f x.2 with | some q => (q4n.f q).isSome && (q4m.f q).isSome | none => false
theorem v4t {l : List (Int × ByteArray)} (h : l.all v2q = true) {x : Int × ByteArray} (hx : x ∈ l) : ∃ q u y, q2a.f x.2 = some q ∧ q4n.f q = some u ∧ q4m.f q = some y := by
 have := List.all_eq_true.1 h x hx
 unfold v2q at this
 split at this
 · rename_i q hq
   simp only [Bool.and_eq_true, Option.isSome_iff_exists] at this
   obtain ⟨⟨u, hu⟩, y, hy⟩ := this
   exact ⟨q, u, y, hq, hu, hy⟩
 · cases this
theorem z8x {st st' : Bool × List ByteArray} {x : Int × ByteArray} (h : q7z st x = some st') : st'.2.length = st.2.length + 1 := by
 unfold q7z at h
 obtain ⟨low, _, h⟩ := Option.bind_eq_some_iff.1 h
 split at h
 · split at h
   · obtain ⟨_, _, h⟩ := Option.bind_eq_some_iff.1 h; cases h; simp
   · split at h
     · obtain ⟨_, _, h⟩ := Option.bind_eq_some_iff.1 h; cases h; simp
     · cases h; simp
 · cases h; simp
theorem z3l : ∀ (l : List (Int × ByteArray)) (st : Bool × List ByteArray) (a : Bool) (b : List ByteArray), z4z l st = some (a, b) → b.length = st.2.length + l.length
 | [], st, a, b, h => by cases h; simp
 | x :: l, st, a, b, h => by
  unfold z4z at h
  obtain ⟨s2, h2, h⟩ := Option.bind_eq_some_iff.1 h
  have := z3l l s2 a b h
  have := z8x h2
  simp
  omega
def z4i : Array MapEntry := #[{ key := .int .i64 2, val := .func (.func 76) #[] #[], born := 0 }, { key := .int .i64 4, val := .func (.func 77) #[] #[], born := 1 }]
def z8g (k : Int) : Value := if k = 2 then .func (.func 76) #[] #[] else if k = 4 then .func (.func 77) #[] #[] else .nilFunc
structure CI (M : Nat) (W0 : World) (s : ByteArray) (v : Value) (sg : Bool) (out : List ByteArray) (W : World) : Prop where
 m : W.heap[M]? = some (.map z4i 2)
 a : W.heap[M + 1]? = some (.cells #[.map (some M)] 109 (0, 0))
 b : W.heap[M + 1 + 1]? = some (.cells #[v] 26 (0, 0))
 c : W.heap[M + 1 + 1 + 1]? = some (.cells #[.bool sg] 4 (0, 0))
 d : W.heap[M + 1 + 1 + 1 + 1]? = some (.cells #[.string s] 9 (0, 0))
 o : Own W (M + 5) v out
 B : Below M W0 W
theorem CI.ne {M : Nat} {W0 W : World} {s : ByteArray} {v : Value} {sg : Bool} {out : List ByteArray} (h : CI M W0 s v sg out W) {j : Nat} (hj : j < M + 5) : some j ≠ v.ownBlock := fun e => by have := q5i h.o j e.symm; omega
theorem CI.j2m {M : Nat} {W0 W : World} {s : ByteArray} {v : Value} {sg : Bool} {out : List ByteArray} (h : CI M W0 s v sg out W) (sg' : Bool) : CI M W0 s v sg' out (W.setCell ⟨M + 1 + 1 + 1, 0, none⟩ (.bool sg')) :=
 ⟨(Below.heap_setCell W _ _ M (by show M ≠ M + 1 + 1 + 1; omega)).trans h.m, q1e h.a (by simp) _, q1e h.b (by simp) _, q0l h.c 0 _ rfl, q1e h.d (by simp) _, q2j h.o fun k hv => Below.heap_setCell _ _ _ _ (fun e => h.ne (j := k) (by rw [e]; simp) hv.symm), h.B.setCell (by simp; omega) _⟩
theorem CI.below {M : Nat} {W0 W W1 : World} {s : ByteArray} {v : Value} {sg : Bool} {out : List ByteArray} (h : CI M W0 s v sg out W) (hb : Below W.heap.size W W1) : CI M W0 s v sg out W1 :=
 ⟨(hb.block _ (q0g h.m)).trans h.m, (hb.block _ (q0g h.a)).trans h.a, (hb.block _ (q0g h.b)).trans h.b, (hb.block _ (q0g h.c)).trans h.c, (hb.block _ (q0g h.d)).trans h.d, q1o h.o hb, h.B.trans (hb.mono (Nat.le_of_lt (q0g h.m)))⟩
theorem CI.app {M : Nat} {W0 W W1 : World} {s : ByteArray} {v v1 : Value} {sg : Bool} {out out1 : List ByteArray} (h : CI M W0 s v sg out W) (ho : Own W1 (M + 5) v1 out1) (hg : W.grownBy W1 v.ownBlock) : CI M W0 s v1 sg out1 (W1.setCell ⟨M + 1 + 1, 0, none⟩ v1) := by
 have b1 := q6r h.b hg (h.ne (by omega))
 exact ⟨(Below.heap_setCell W1 _ _ M (by show M ≠ M + 1 + 1; omega)).trans ((hg.block _ (q0g h.m) (h.ne (by omega))).trans h.m), q1e (q6r h.a hg (h.ne (by omega))) (by show M + 1 ≠ M + 1 + 1; omega) _, q0l b1 0 _ rfl, q1e (q6r h.c hg (h.ne (by omega))) (by show _ ≠ M + 1 + 1; omega) _, q1e (q6r h.d hg (h.ne (by omega))) (by show _ ≠ M + 1 + 1; omega) _, q2j ho fun k hv => Below.heap_setCell _ _ _ _ (fun e => by have := q5i ho k hv; have e : k = M + 1 + 1 := e; omega), (h.B.grown hg (Nat.le_of_lt (q0g h.m)) (fun r e => by have := q5i h.o r e; omega)).setCell (by show M ≤ M + 1 + 1; omega) _⟩
theorem CI.ko {M : Nat} {W0 W W1 W2 : World} {s : ByteArray} {v : Value} {sg : Bool} {out : List ByteArray} (h : CI M W0 s v sg out W1) (k : KeepsOthers W W1) (hg : W1.grownBy W2 v.ownBlock) : KeepsOthers W W2 :=
 k.trans (KeepsOthers.of_grownBy hg (fun k o e ho2 => by obtain ⟨cur, hc⟩ := z3f h.o k e; rw [hc] at ho2; cases ho2; rfl))
theorem k0d (k : Int) : ∃ r, Instr.findNow (.int .i64) (.int .i64 k) z4i.toList 0 = some r ∧ k9g r = z8g k := by
 by_cases h1 : k = 2
 · subst h1; exact ⟨_, rfl, rfl⟩
 by_cases h2 : k = 4
 · subst h2; exact ⟨_, rfl, rfl⟩
 have e1 : (k == 2) = false := by simpa using h1
 have e2 : (k == 4) = false := by simpa using h2
 refine ⟨none, by simp [z4i, Instr.findNow, Instr.sameNow, e1, e2], ?_⟩
 show Value.nilFunc = _
 unfold z8g
 rw [if_neg h1, if_neg h2]
theorem v5p {W : World} {b : Nat} (h : W.heap[b]? = some (.map z4i 2)) (k : Int) : (Instr.lookup 109 (.map (some b)) (.int .i64 k) false).run Tryz.prog W = .ok (z8g k) W := by
 obtain ⟨r, h1, h2⟩ := k0d k
 rw [← h2]
 exact z9r Tryz.underlying109 Tryz.underlying3 (by simp [MapKept.IsKey]) (by kernel_rfl) h r h1
theorem j0r (s : ByteArray) (hs : s.size ≤ 900000) (sg : Bool) (out : List ByteArray) (ht : (q3e s).all v2q = true) (ho : z4z (q3e s) (false, []) = some (sg, out)) (hj : (Lib.join (out.map (·.data.toList)) [45]).length ≤ 140737488355328) (w : World) :
 Calls Tryz.prog 45 #[.string s] w fun e w' => e = .returned (.string (q8d out)) ∧ Below w.heap.size w w' := by
 have hm : ∀ W : World, (Instr.makeMap 109 none).run Tryz.prog W = .ok (.map (some W.heap.size)) (W.alloc (.map #[] 0)) := fun W => run_makeMap_plain W _
 have h0 : (w.alloc (.map #[] 0)).heap[w.heap.size]? = some (.map #[] 0) := World.alloc_heap_new w _
 have B0 : Below w.heap.size w (w.alloc (.map #[] 0)) := (Below.refl _ w).alloc (Nat.le_refl _) _
 obtain ⟨W1, u1, h1, B1, z1, -⟩ := q3o (b := w.heap.size) Tryz.underlying109 Tryz.underlying3 h0 B0 (Nat.le_refl _) (.int .i64 2) (.func (.func 76) #[] #[]) (by simp [MapKept.IsKey]) rfl
 obtain ⟨W2, u2, h2, B2, z2, -⟩ := q3o (b := w.heap.size) Tryz.underlying109 Tryz.underlying3 h1 B1 (Nat.le_refl _) (.int .i64 4) (.func (.func 77) #[] #[]) (by simp [MapKept.IsKey]) rfl
 have H2 := aq h2
 have HB2 := aq B2
 have s2 : W2.heap.size = w.heap.size + 1 := by rw [z2, z1]; simp
 clear h0 B0 h1 B1 h2 B2 z1 z2
 refine (callsIn_wide (n := 4)).1 ?_
 refine callsIn_of_wp_marks Tryz.func45 rfl trivial ?_ rfl
 simp only [Tryz.ntmps45, List.size_toArray, List.length_cons, List.length_nil, Nat.reduceAdd, Nat.reduceSub, Array.replicate_succ, Array.replicate_zero, List.push_toArray, List.append_toArray, List.nil_append, List.cons_append]
 gi_wp2_with (first
  | (refine ⟨trivial, ?_⟩; gi_at_call 63; refine (v1q _ s _).mono ?_; rintro e w2 ⟨rfl, rfl⟩))
 obtain ⟨M, hM⟩ : ∃ M, M = w.heap.size := ⟨_, rfl⟩
 obtain ⟨W0, hW0⟩ : ∃ W0, ((((W2.alloc (.cells #[.map (some w.heap.size)] 109)).alloc (.cells #[.slice none 0 0] 26)).alloc (.cells #[.bool false] 4)).alloc (.cells #[.string s] 9)) = W0 := ⟨_, rfl⟩
 have b0 : W0.heap[M]? = some (.map z4i 2) := by rw [← hW0, hM]; exact aN (aN (aN (aN H2.out)))
 have b1 : W0.heap[M + 1]? = some (.cells #[.map (some M)] 109 (0, 0)) := by rw [← hW0, hM]; exact aN (aN (aN (aZ (by omega))))
 have b2 : W0.heap[M + 1 + 1]? = some (.cells #[.slice none 0 0] 26 (0, 0)) := by rw [← hW0, hM]; exact aN (aN (aZ (by simp; omega)))
 have b3 : W0.heap[M + 1 + 1 + 1]? = some (.cells #[.bool false] 4 (0, 0)) := by rw [← hW0, hM]; exact aN (aZ (by simp; omega))
 have b4 : W0.heap[M + 1 + 1 + 1 + 1]? = some (.cells #[.string s] 9 (0, 0)) := by rw [← hW0, hM]; exact aZ (by simp; omega)
 have B0 : Below M w W0 := by rw [← hW0, hM]; exact q0b (q0b (q0b (q0b HB2.out _) _) _) _
 rw [hW0, ← hM]
 have HM := aq hM
 have HB0 := aq B0
 have HO := aq ho
 have HT := aq ht
 clear hW0 hM H2 HB2 B0 ho ht
 refine wpIn_rangeFunc_ownG rfl (by omega) (gf := 121) (lb := #[.pointer (some ⟨M + 1 + 1 + 1 + 1, 0, none⟩)]) rfl trivial (enters_of Tryz.func121 (by kernel_rfl) rfl)
  (z0v _ (by omega) (M + 1 + 1 + 1 + 1) s (by omega) W0 ((q0a b4 0).trans rfl)) KB.trans (fun W lw o o' _ h h1 _ => KB.put _ W lw o o' h h1) (Below.refl _ _) (fun _ => rfl)
  (fun (pre : List (q7v s)) W => ∃ v sg out, z4z (pre.map Subtype.val) (false, []) = some (sg, out) ∧ W.heap[M]? = some (.map z4i 2) ∧ W.heap[M + 1]? = some (.cells #[.map (some M)] 109 (0, 0)) ∧ W.heap[M + 1 + 1]? = some (.cells #[v] 26 (0, 0)) ∧ W.heap[M + 1 + 1 + 1]? = some (.cells #[.bool sg] 4 (0, 0)) ∧ W.heap[M + 1 + 1 + 1 + 1]? = some (.cells #[.string s] 9 (0, 0)) ∧ Own W (M + 5) v out ∧ Below M W0 W)
  (fun _ _ _ => False)
  (fun pre A B row ⟨v, sg, out, i0, i1, i2, i3, i4, i5, i6, i7⟩ hg hr => ⟨v, sg, out, i0, (hg.block M (Array.getElem?_eq_some_iff.1 i1).1 (fun e => by have h1 := (hr M e.symm).1; have h2 := (Array.getElem?_eq_some_iff.1 b4).1; omega)).trans i1, v8v i2 rfl hg (fun r e => (hr r e).2), v8v i3 rfl hg (fun r e => (hr r e).2), v8v i4 rfl hg (fun r e => (hr r e).2), v8v i5 rfl hg (fun r e => (hr r e).2), j1j i6 hg (fun r e => (hr r e).2), i7.grown hg (by have := (Array.getElem?_eq_some_iff.1 i1).1; omega) (fun r e => by have := (hr r e).1; have h2 := (Array.getElem?_eq_some_iff.1 b4).1; omega)⟩)
  (fun _ _ _ _ _ hs _ _ => hs)
  ⟨_, false, [], rfl, b0, b1, b2, b3, b4, q3a _ _ _ _, Below.refl _ _⟩
  (fun x' : q7v s => let x := x'.1; { tmps := #[.string s, undef, .string ⟨#[]⟩, .pointer (some ⟨M + 1, 0, none⟩), .pointer (some ⟨M + 1 + 1, 0, none⟩), .pointer (some ⟨M + 1 + 1 + 1, 0, none⟩), .int .i64 x.1, .string x.2, undef, .map (some M), .map (some M), .string s, .func (.func 121) #[] #[.pointer (some ⟨M + 1 + 1 + 1 + 1, 0, none⟩)], .int .i64 x.1, .string x.2, undef, undef, undef, undef, undef, undef, undef, undef, undef, undef, undef, undef, undef, undef, undef, undef, undef, undef, undef, undef, undef, undef, undef, undef, undef, undef, undef, undef, undef, undef, undef], defers := [] }) ?assign ?body ?done ?stop
 case assign =>
  rintro lp ⟨x, hxm⟩ W K hK
  simp only [k5q] at hK ⊢
  gi_wp2
  simpa using hK
 case body =>
  rintro lp pre ⟨x, hxm⟩ W ⟨v, sg, out', i0, i1, i2, i3, i4, i5, i6, i7⟩ hlen
  obtain ⟨A, c, rfl⟩ := q0u i6
  have hmap := Tryz.underlying109
  refine wpIn_block ?_
  obtain ⟨q, u, y, hq, hu, hy⟩ := v4t HT.out hxm
  have K_0 := aq i1
  have K_1 := aq i2
  have K_2 := aq i3
  have K_3 := aq i4
  have K_4 := aq i5
  have O_V := aq i6
  have B_W := aq i7
  have H0 := aq i0
  have HQ := aq hq
  have HU := aq hu
  have HY := aq hy
  have c3 := (q0a i4 0).trans rfl
  have f3 := q0e i4 0
  have hk0 : out'.length ≤ 1000000 := by
   have h1 := z3l _ _ _ _ i0
   have h2 := q5o s (s.size + 1) 0
   unfold q3e at hlen
   simp at h1
   omega
  have HLN := aq hk0
  clear i0 i1 i2 i3 i4 i5 i6 i7 hlen hk0
  obtain ⟨sg2, hs2⟩ : ∃ sg2, sg2 = (sg || ((x.2.size : Int) == 1)) := ⟨_, rfl⟩
  have hbU : ∀ W : World, (binOp .neq 29 (.func (.func 76) #[] #[]) .nilFunc).run Tryz.prog W = .ok (.bool true) W := fun W => by kernel_rfl
  have hbT : ∀ W : World, (binOp .neq 29 (.func (.func 77) #[] #[]) .nilFunc).run Tryz.prog W = .ok (.bool true) W := fun W => by kernel_rfl
  have hbN : ∀ W : World, (binOp .neq 29 .nilFunc .nilFunc).run Tryz.prog W = .ok (.bool false) W := fun W => by kernel_rfl
  obtain ⟨z, hz⟩ : ∃ z, ((x.2.size : Int) == 1) = z := ⟨_, rfl⟩
  obtain ⟨d, hd⟩ : ∃ d, decide ((0 : Int) < x.1) = d := ⟨_, rfl⟩
  have eU := enters_of Tryz.func76 (by kernel_rfl) rfl
  have eT := enters_of Tryz.func77 (by kernel_rfl) rfl
  unfold Enters at eU eT
  obtain ⟨t, v8, hst, hv8, ht⟩ : ∃ t v8, q7z (sg, out') x = some (sg2, out' ++ [t]) ∧ z8g (q.size : Int) = v8 ∧ (((d && !sg2) = false ∧ t = q) ∨ ((d = true ∧ sg2 = false) ∧ ((v8 = .func (.func 76) #[] #[] ∧ t = u) ∨ (v8 = .func (.func 77) #[] #[] ∧ t = y) ∨ (v8 = .nilFunc ∧ t = q)))) := by
   unfold q7z z8g
   simp only [hq, hu, hy, Option.bind_some, hd, ← hs2]
   cases d <;> cases sg2
   case true.false =>
    by_cases h2 : (q.size : Int) = 2
    · exact ⟨u, _, by simp [h2], rfl, .inr ⟨⟨rfl, rfl⟩, .inl ⟨by simp [h2], rfl⟩⟩⟩
    · by_cases h4 : (q.size : Int) = 4
      · exact ⟨y, _, by simp [h4], rfl, .inr ⟨⟨rfl, rfl⟩, .inr (.inl ⟨by simp [h4], rfl⟩)⟩⟩
      · exact ⟨q, _, by simp [h2, h4], rfl, .inr ⟨⟨rfl, rfl⟩, .inr (.inr ⟨by simp [h2, h4], rfl⟩)⟩⟩
   all_goals exact ⟨q, _, by simp, rfl, .inl ⟨rfl, rfl⟩⟩
  rw [hz] at hs2
  clear hq hu hy
  have HST := aq hst
  clear hst
  have hlook : ∀ W, W.heap[M]? = some (.map z4i 2) → (Instr.lookup 109 (.map (some M)) (.int .i64 (q.size : Int)) false).run Tryz.prog W = .ok v8 W := fun W h => hv8 ▸ v5p h _
  have C0 := aq (CI.mk K_0.out K_1.out K_2.out K_3.out K_4.out O_V.out B_W.out)
  clear K_0 K_1 K_2 K_3 K_4 O_V B_W
  cases sg <;> cases z <;> cases d
  all_goals
   subst hs2
   simp only [Bool.or_true, Bool.or_false, Bool.true_or, Bool.false_or] at HST ht
   rcases ht with ⟨h0, rfl⟩ | ⟨⟨h1, h2⟩, ⟨rfl, rfl⟩ | ⟨rfl, rfl⟩ | ⟨rfl, rfl⟩⟩
  all_goals (try (exfalso; first | exact absurd h0 (by decide) | exact absurd h1 (by decide) | exact absurd h2 (by decide)))
  all_goals
   gi_wp2_with (fail)
   refine ⟨trivial, CallsIn.inRound lp (callsIn_wide.2 (Calls.mono (q2a.calls x.2 _ _ HQ.out) ?_))⟩
   rintro e w1 ⟨rfl, hb1⟩
   have C1 := aq (CI.below (CI.j2m C0.out _) hb1)
   have KO := aq ((KeepsOthers.setCell W _ _).trans (q5f hb1))
   have hl := hlook w1 C1.out.m
   have c1 := (q0a C1.out.a 0).trans rfl
   have c2 := (q0a C1.out.b 0).trans rfl
   have f2 := q0e C1.out.b 0
   replace c3 := (q0a C1.out.c 0).trans rfl
   clear hb1 f3
   gi_wp2_with (first
    | (refine ⟨trivial, CallsIn.inRound lp (callsIn_wide.2 (Calls.mono (q4n.calls _ _ _ HU.out) ?_))⟩; rintro e w2 ⟨rfl, hb2⟩; replace C1 := aq (C1.out.below hb2); replace KO := aq (KO.out.trans (q5f hb2)); replace c2 := (q0a C1.out.b 0).trans rfl; replace f2 := q0e C1.out.b 0; clear hb2 c1 c3 hl)
    | (refine ⟨trivial, CallsIn.inRound lp (callsIn_wide.2 (Calls.mono (q4m.calls _ _ _ HY.out) ?_))⟩; rintro e w2 ⟨rfl, hb2⟩; replace C1 := aq (C1.out.below hb2); replace KO := aq (KO.out.trans (q5f hb2)); replace c2 := (q0a C1.out.b 0).trans rfl; replace f2 := q0e C1.out.b 0; clear hb2 c1 c3 hl)
    | (gi_at_builtin; refine Hold.on ?_))
   refine Hold.of ?_
   refine k9m (w0 := _) (M + 5) rfl (.tmp 40) (.tmp 42) rfl (.slice A out'.length c) _ _ rfl rfl C1.out.o (Below.refl _ _) (by have := q0g C1.out.d; omega) HLN.out ?_
   intro V2 c2 w3 ho hb hg hat
   have C2 := aq (C1.out.app ho hg)
   have K2 := aq ((C1.out.ko KO.out hg).trans (KeepsOthers.setCell w3 ⟨M + 1 + 1, 0, none⟩ (.slice V2 (out'.length + 1) c2)))
   have f4 := q0e (q6r C1.out.b hg (C1.out.ne (by omega))) 0
   have cb := (q0a (q6r C1.out.b hg (C1.out.ne (by omega))) 0).trans rfl
   clear ho hb hg hat f2 C1 KO
   gi_wp2
   exact ⟨K2.out.from _, fun v hv => by
    have h1 : W.cell? ⟨M + 1 + 1 + 1 + 1, 0, none⟩ = some (.string s) := (q0a C0.out.d 0).trans rfl
    rw [h1] at hv
    exact ((q0a C2.out.d 0).trans rfl).trans hv, _, _, _, by rw [List.map_append]; exact (z6a _ _ _ _ H0.out).trans HST.out, C2.out.m, C2.out.a, C2.out.b, C2.out.c, C2.out.d, C2.out.o, C2.out.B⟩
 case done =>
  rintro D ys W hD hys ⟨v, sg', out', i0, i1, i2, i3, i4, i5, i6, i7⟩ hK
  rw [hys, HO.out] at i0
  cases i0
  have c2 := (q0a i3 0).trans rfl
  have O6 := aq i6
  have BW := aq (HB0.out.trans (i7.mono (by omega)))
  have hD2 := aq hK
  have hL := aq hj
  have HLN : q0c (out.length ≤ 1000000) := ⟨by
   have h1 := z3l _ _ _ _ HO.out
   have h2 := q5o s (s.size + 1) 0
   unfold q3e at h1
   simp at h1
   omega⟩
  clear i1 i2 i3 i4 i5 i6 i7 hK hj
  gi_wp2_with (first
   | (refine ⟨trivial, callsIn_wide.2 (Calls.mono (v7y (M + 5) v out _ O6.out HLN.out hL.out) ?_)⟩; rintro e w5 ⟨rfl, hb5⟩))
  have D7 := (hb5.block _ (q0g hD2.out)).trans hD2.out
  have B7 : Below w.heap.size w w5 := by
   rw [← HM.out]
   exact BW.out.trans (hb5.mono (by have := BW.out.size; have := HM.out; omega))
  refine ⟨by simp, .inl ⟨D, _, rfl, run_takeDeferred D7, ?_⟩⟩
  obtain ⟨W8, hW8⟩ : ∃ W8, W8 = w5.putObj D (.deferred none) := ⟨_, rfl⟩
  have B8 : Below w.heap.size w W8 := by
   rw [hW8]
   exact B7.trans (belowK_b (w := w) (Nat.le_refl _) _ D _ _ (by have h1 := HB0.out.size; have h2 := HM.out; omega) D7 rfl rfl)
  rw [← hW8]
  show ∃ v, _ ∧ _
  refine ⟨.string (q8d out), ?_, rfl, B8⟩
  simp [results, Tryz.results45, asAddr, go_sem]
 case stop =>
  rintro D c pre W _ _ h _
  exact h.elim
end Go.Proofs.YtpmcfckechjppaaGreatDoor.Ps
namespace Go.Proofs.YtpmcfckechjppaaGreatDoor.Ps
open Go.RowKit Go.Shelf Go.Proofs.YtpmcfckechjppaaGreatDoorW.PrintWords Go.Proofs.YtpmcfckechjppaaGreatDoorW.PrintLast Go.Proofs.YtpmcfckechjppaaGreatDoorW.PrintMore Go.Proofs.YtpmcfckechjppaaGreatDoor.P Go.Proofs.YtpmcfckechjppaaGreatDoor.LikW
open Go.Proofs.YtpmcfckechjppaaGreatDoor.Each Go.Proofs.YtpmcfckechjppaaGreatDoor.Base Go.Proofs.YtpmcfckechjppaaGreatDoor.Pure
theorem j1q (s : ByteArray) (a k : Nat) (h : a + k < s.size) : (s.extract a s.size).data.toList[k]? = some (s.data[a + k]'h) := by
 rw [ByteArray.data_extract, Array.toList_extract, List.extract_eq_take_drop, List.getElem?_take]
 rw [if_pos (by omega), List.getElem?_drop, Array.getElem?_toList, Array.getElem?_eq_getElem]
theorem v0m (s : ByteArray) (j : Nat) (h : j < s.size) : bt s (j : Int) = 45 ↔ s.data[j]'h = 45 := by
 have e : bt s (j : Int) = ((s[j]'h).toNat : Int) := by unfold bt; rw [dif_pos (by simpa using h)]; rfl
 rw [e]
 constructor
 · intro h1
   have h2 : (s[j]'h).toNat = 45 := by omega
   exact UInt8.toNat_inj.1 h2
 · intro h1
   show (((s.data[j]'h).toNat : Nat) : Int) = 45
   rw [h1]; rfl
theorem v1y (s : ByteArray) (a : Nat) (hn : ∀ j : Nat, a ≤ j → j < s.size → bt s (j : Int) ≠ 45) : Lib.indexByte (s.extract a s.size).data.toList 45 < 0 := by
 by_cases h : Lib.indexByte (s.extract a s.size).data.toList 45 < 0
 · exact h
 · exfalso
   obtain ⟨m, hm⟩ := Int.eq_ofNat_of_zero_le (show 0 ≤ Lib.indexByte (s.extract a s.size).data.toList 45 by omega)
   have h1 := (Lib.indexByte_some hm).1
   by_cases ha : a ≤ s.size
   · have h2 := z7q s a ha m hm
     rw [j1q s a m h2] at h1
     exact hn (a + m) (by omega) h2 ((v0m s (a + m) h2).2 (Option.some.inj h1))
   · have h3 := (List.getElem?_eq_some_iff.1 h1).1
     rw [Array.length_toList, ByteArray.data_extract, Array.size_extract] at h3
     have : s.data.size = s.size := rfl
     omega
theorem v9h (s : ByteArray) (a i : Nat) (hai : a ≤ i) (hi : i < s.size) (h45 : bt s (i : Int) = 45) (hn : ∀ j : Nat, a ≤ j → j < i → bt s (j : Int) ≠ 45) : Lib.indexByte (s.extract a s.size).data.toList 45 = ((i - a : Nat) : Int) := by
 have hx : (s.extract a s.size).data.toList[i - a]? = some 45 := by
  rw [j1q s a (i - a) (by omega)]
  congr 1
  have := (v0m s i hi).1 h45
  rw [← this]
  congr 1
  omega
 have hge := Lib.indexByte_ge (s.extract a s.size).data.toList 45
 by_cases h : Lib.indexByte (s.extract a s.size).data.toList 45 = -1
 · exact absurd hx (Lib.indexByte_none h _)
 · obtain ⟨m, hm⟩ := Int.eq_ofNat_of_zero_le (show 0 ≤ Lib.indexByte (s.extract a s.size).data.toList 45 by omega)
   obtain ⟨h1, h2⟩ := Lib.indexByte_some hm
   have hlt := z7q s a (by omega) m hm
   rw [hm]
   by_cases hc : m < i - a
   · exfalso
     rw [j1q s a m hlt] at h1
     exact hn (a + m) (by omega) (by omega) ((v0m s (a + m) hlt).2 (Option.some.inj h1))
   · by_cases hc2 : i - a < m
     · exact absurd hx (h2 _ hc2)
     · congr 1; omega
theorem v9g (s : ByteArray) (f a : Nat) (hn : ∀ j : Nat, a ≤ j → j < s.size → bt s (j : Int) ≠ 45) : q3p s (f + 1) a = [((a : Int), s.extract a s.size)] := by
 unfold q3p
 rw [if_pos (v1y s a hn)]
theorem v6d (s : ByteArray) (f a i : Nat) (hai : a ≤ i) (hi : i < s.size) (h45 : bt s (i : Int) = 45) (hn : ∀ j : Nat, a ≤ j → j < i → bt s (j : Int) ≠ 45) : q3p s (f + 1) a = ((a : Int), s.extract a i) :: q3p s f (i + 1) := by
 conv => lhs; unfold q3p
 rw [v9h s a i hai hi h45 hn, if_neg (by omega)]
 simp only [Int.toNat_natCast]
 rw [show a + (i - a) = i by omega]
theorem v7p (s : ByteArray) (hs : s.size ≤ 900000) : ∀ (d i a f : Nat) (acc : List q9z), s.size - i = d → a ≤ i → i ≤ s.size → s.size < a + f → (∀ j : Nat, a ≤ j → j < i → bt s (j : Int) ≠ 45) → acc.length ≤ i →
 Ev (fun k => q0q.l0 k s acc (a : Int) (i : Int)) (acc ++ (q3p s f a).map fun x => ⟨x.1, x.2⟩) := by
 intro d
 induction d with
 | zero =>
  intro i a f acc hd hai hi hf hn hl
  obtain ⟨f, rfl⟩ : ∃ f', f = f' + 1 := ⟨f - 1, by omega⟩
  obtain rfl : i = s.size := by omega
  have hw : wrap64 ((s.size : Int) + 1) = ((s.size + 1 : Nat) : Int) := by unfold wrap64; omega
  refine Ev.step (fun k => by unfold q0q.l0; rfl) ?_
  refine Ev.q0x (by omega) ?_
  refine Ev.q0x (by omega) (Ev.q0x (by omega) (Ev.q0x (by omega) (Ev.q0x (by omega) ?_)))
  rw [v9g s f a hn, hw]
  refine Ev.step (fun k => by unfold q0q.l0; rfl) ?_
  refine Ev.q1l (by omega) ?_
  exact Ev.const (by simp)
 | succ d ih =>
  intro i a f acc hd hai hi hf hn hl
  obtain ⟨f, rfl⟩ : ∃ f', f = f' + 1 := ⟨f - 1, by omega⟩
  have hw : wrap64 ((i : Int) + 1) = ((i + 1 : Nat) : Int) := by unfold wrap64; omega
  refine Ev.step (fun k => by unfold q0q.l0; rfl) ?_
  refine Ev.q0x (by omega) ?_
  refine Ev.q1l (by omega) (Ev.q0x (by omega) (Ev.q0x (by omega) ?_))
  by_cases h45 : bt s (i : Int) = 45
  · refine Ev.q0x h45 (Ev.q0x (by omega) (Ev.q0x (by omega) (Ev.q0x (by omega) ?_)))
    rw [v6d s f a i hai (by omega) h45 hn, hw]
    refine Ev.res (ih (i + 1) (i + 1) f _ (by omega) (Nat.le_refl _) (by omega) (by omega) (fun j h1 h2 => by omega) (by simp; omega)) ?_
    simp
  · refine Ev.q1l h45 ?_
    rw [hw]
    refine ih (i + 1) a (f + 1) acc (by omega) (by omega) (by omega) hf (fun j h1 h2 => ?_) (by omega)
    by_cases hj : j = i
    · rw [hj]; exact h45
    · exact hn j h1 (by omega)
theorem k1g (s : ByteArray) (hs : s.size ≤ 900000) : Ev (fun k => q0q.f k s) ((q3e s).map fun x => ⟨x.1, x.2⟩) :=
 Ev.res (v7p s hs s.size 0 0 (s.size + 1) [] (by omega) (Nat.le_refl _) (by omega) (by omega) (fun j h1 h2 => by omega) (by simp)) (by simp [q3e])
theorem v5w (l : List q9z) (hl : l.length ≤ 1000000) : ∀ (d i : Nat) (acc : List ByteArray), l.length - i = d → i ≤ l.length → acc.length = i → Ev (fun k => q0v.l0 k acc l (i : Int)) (acc ++ (l.drop i).map (·.f1)) := by
 intro d
 induction d with
 | zero =>
  intro i acc hd hi ha
  refine Ev.step (fun k => by unfold q0v.l0; rfl) ?_
  refine Ev.q1l (by omega) (Ev.const ?_)
  rw [List.drop_eq_nil_of_le (by omega)]; simp
 | succ d ih =>
  intro i acc hd hi ha
  have he : i < l.length := by omega
  refine Ev.step (fun k => by unfold q0v.l0; rfl) ?_
  refine Ev.q0x (by omega) (Ev.q0x (by omega) (Ev.q0x (by omega) ?_))
  have hw : wrap64 ((i : Int) + 1) = ((i + 1 : Nat) : Int) := by unfold wrap64; omega
  rw [hw]
  refine Ev.res (ih (i + 1) _ (by omega) (by omega) (by simp; omega)) ?_
  have e : q8r l (i : Int) = l[i] := by simp [q8r, List.getD_eq_getElem?_getD, List.getElem?_eq_getElem he]
  rw [List.drop_eq_getElem_cons he, e]
  simp only [List.map_cons, List.append_assoc, List.singleton_append]
def q5r (s : ByteArray) : List ByteArray := (q3e s).map Prod.snd
theorem z2t (s : ByteArray) (hs : s.size ≤ 900000) : Ev (fun k => q0v.f k s) (q5r s) := by
 unfold q0v.f
 refine Ev.bind (k1g s hs) ?_
 have hl : ((q3e s).map fun x => (⟨x.1, x.2⟩ : q9z)).length ≤ 1000000 := by have := q5o s (s.size + 1) 0; simp [q3e]; omega
 refine Ev.res (v5w _ hl _ 0 [] rfl (by omega) rfl) ?_
 simp [q5r]
theorem z1c (s : ByteArray) : (q5r s).length ≤ s.size + 1 := by unfold q5r q3e; rw [List.length_map]; exact q5o s _ _
theorem z1g (s : ByteArray) : ∀ f a, ∀ x ∈ q3p s f a, x.2.size ≤ s.size
 | 0, a, x, hx => by simp [q3p] at hx
 | f + 1, a, x, hx => by
  unfold q3p at hx
  split at hx
  · simp at hx; rw [hx]; simp [ByteArray.size_extract]
  · rcases List.mem_cons.1 hx with h | h
    · rw [h]; simp [ByteArray.size_extract]; omega
    · exact z1g s f _ x h
theorem q9o (s : ByteArray) : ∀ p ∈ q5r s, p.size ≤ s.size := fun p hp => by
 obtain ⟨x, hx, rfl⟩ := List.mem_map.1 hp
 exact z1g s _ _ x hx
theorem q8k (s : ByteArray) : ∃ p l, q5r s = p :: l := by
 unfold q5r q3e q3p
 split
 · exact ⟨_, _, rfl⟩
 · exact ⟨_, _, rfl⟩
def jn : List ByteArray → ByteArray
 | [] => ⟨#[]⟩
 | x :: l => l.foldl (fun acc y => (acc ++ (⟨#[45]⟩ : ByteArray)) ++ y) x
def k7n : List ByteArray → Nat
 | [] => 0
 | x :: l => x.size + 1 + k7n l
theorem v5b (l : List ByteArray) (hl : l.length ≤ 1000000) : ∀ (d i : Nat) (acc : ByteArray), l.length - i = d → 0 < i → i ≤ l.length → acc.size + k7n (l.drop i) ≤ 100000000 → Ev (fun k => q1b.l0 k l acc (i : Int)) ((l.drop i).foldl (fun acc y => (acc ++ (⟨#[45]⟩ : ByteArray)) ++ y) acc) := by
 intro d
 induction d with
 | zero =>
  intro i acc hd h0 hi hs
  refine Ev.step (fun k => by unfold q1b.l0; rfl) ?_
  refine Ev.q1l (by omega) (Ev.const ?_)
  rw [List.drop_eq_nil_of_le (by omega)]; rfl
 | succ d ih =>
  intro i acc hd h0 hi hs
  have he : i < l.length := by omega
  have e : q7o ByteArray.empty l (i : Int) = l[i] := by simp [q7o, List.getD_eq_getElem?_getD, List.getElem?_eq_getElem he]
  have hw : wrap64 ((i : Int) + 1) = ((i + 1 : Nat) : Int) := by unfold wrap64; omega
  rw [List.drop_eq_getElem_cons he] at hs ⊢
  simp only [k7n] at hs
  have s1 : (acc ++ (⟨#[45]⟩ : ByteArray)).size = acc.size + 1 := size_append _ _
  have s2 : ((acc ++ (⟨#[45]⟩ : ByteArray)) ++ l[i]).size = acc.size + 1 + l[i].size := by rw [size_append, s1]
  refine Ev.step (fun k => by unfold q1b.l0; rfl) ?_
  refine Ev.q0x (by omega) (Ev.q0x (by omega) (Ev.q0x (by omega) (Ev.q0x (by omega) ?_)))
  rw [e, hw]
  refine Ev.q0x (by rw [s1]; omega) ?_
  exact ih (i + 1) _ (by omega) (by omega) (by omega) (by rw [s2]; omega)
theorem k0w (l : List ByteArray) (hl : l.length ≤ 1000000) (hs : k7n l ≤ 100000000) : Ev (fun k => q1b.f k l) (jn l) := by
 unfold q1b.f
 refine Ev.step (fun k => by unfold q1b.l0; rfl) ?_
 cases l with
 | nil => exact Ev.q1l (by simp) (Ev.now _)
 | cons x l =>
  simp only [k7n] at hs
  have e : q7o ByteArray.empty (x :: l) 0 = x := rfl
  refine Ev.q0x (by simp <;> omega) (Ev.q1l (by omega) (Ev.q0x (by omega) ?_))
  have z : (⟨#[]⟩ : ByteArray) ++ x = x := by apply q6t; rw [q9e]; rfl
  rw [e, z]
  refine Ev.q0x (by show (0 : Nat) + x.size ≤ 9223372036854775807; omega) ?_
  have hw : wrap64 ((0 : Int) + 1) = ((1 : Nat) : Int) := by unfold wrap64; omega
  rw [hw]
  exact v5b (x :: l) hl _ 1 x rfl (by omega) (by simp) (by simp; omega)
end Go.Proofs.YtpmcfckechjppaaGreatDoor.Ps
namespace Go.Proofs.YtpmcfckechjppaaGreatDoor.Ps
open Go.RowKit Go.Shelf Go.Proofs.YtpmcfckechjppaaGreatDoorW.PrintWords Go.Proofs.YtpmcfckechjppaaGreatDoorW.PrintLast Go.Proofs.YtpmcfckechjppaaGreatDoorW.PrintMore Go.Proofs.YtpmcfckechjppaaGreatDoor.P Go.Proofs.YtpmcfckechjppaaGreatDoor.LikW
open Go.Proofs.YtpmcfckechjppaaGreatDoor.Each Go.Proofs.YtpmcfckechjppaaGreatDoor.Base Go.Proofs.YtpmcfckechjppaaGreatDoor.Pure
attribute [local go_sem] Oper.semAt_some
section
variable {ops : Array Oper} {rest : List Oper} {o : Oper} {a : Act} {Q : Exit → Act → World → Prop} {K : Act → World → Prop}
theorem k8t {w0 W : World} (base : Nat) (hw : Region.wanted o (yielded ops a.tmps) = true) (s x : Operand) (ho : o.op = .call { callee := .builtin .append, args := #[s, x], argTypes := #[26, 26] }) (v : Value) (L : List ByteArray) (t : ByteArray) (hs : a.eval s = v) (hx : a.eval x = .slice (some ⟨W.heap.size, 0, none⟩) 1 1) (HO : Own W base v L) (HB : Below base w0 W) (hbase : base ≤ W.heap.size) (hl : L.length ≤ 1000000)
 (h : ∀ v1 w1, Own w1 base v1 (L ++ [t]) → Below base w0 w1 → W.grownBy w1 v.ownBlock → (v1.ownBlock = v.ownBlock ∨ ∃ b, v1.ownBlock = some b ∧ W.heap.size ≤ b) → K (a.put o.dst v1) w1) :
 if Region.wanted o (yielded ops a.tmps) = true then Oper.wp Tryz.prog o a (W.alloc (.cells #[.string t] 9)) K Q else K (a.put o.dst undef) (W.alloc (.cells #[.string t] 9)) := by
 refine q2u (w0 := w0) base hw s x 26 9 (.string ⟨#[]⟩) 1 16 ho Tryz.underlying26 (by kernel_rfl) rfl (by decide) (by decide) v L.length (L.map Value.string) [.string t] hs hx rfl (by simp [Value.oneCell']) HO HB hbase (by omega) ?_
 intro v1 w1 ho hb hg hat
 exact h v1 w1 (by unfold Own; rw [List.length_append, List.map_append]; exact ho) hb hg hat
theorem k6j {P : Program} {N : Option Tmp} {w : World} {f : FuncId} {ar : Array Operand} {ts : Array TypeId} {fn : Func} (hf : P.funcs[f]? = some fn) (args : Array Value)
 (h : Calls P f args w fun e w' => ∃ ch, e = .panicked ch ∧ Q (.panic ch) a w') (hop : o.op = .call { callee := .value (.func f), args := ar, argTypes := ts } := by rfl) (hname : (fn.name == "runtime.NumGoroutine") = false := by kernel_rfl) (hb : fn.body.isSome = true := by rfl)
 (hw : Region.wanted o (yielded ops a.tmps) = true := by rfl) (hargs : ar.map a.eval = args := by (try simp only [List.map_toArray, List.map_cons, List.map_nil]); first | done | rfl) : if Region.wanted o (yielded ops a.tmps) = true then Oper.wp P o a w K Q else K (a.put N undef) w := by
 rw [if_pos hw]
 unfold Oper.wp
 have he := v1t hf hname hb args w
 have hrun : (execOp a.eval o).run P w = .ok (.enter f args) w := by
  unfold execOp
  simp [hop, resolve, Deferred.ofValue, invoke, Act.eval, hargs, he]
 rw [hrun, Oper.upon_enter]
 refine h.mono fun e w'' hh => ?_
 obtain ⟨v, rfl, hk⟩ := hh
 exact hk
end
theorem k1r {W : World} {base : Nat} {v : Value} {l : List ByteArray} (h : Own W base v l) : ∃ A c, v = .slice A l.length c ∧ l.length ≤ c ∧ Kd.C Kd.string W A l.length l := by
 have hm := h
 obtain ⟨A, c, rfl, hc, hx⟩ := v3h h
 refine ⟨A, c, rfl, hc, ?_⟩
 have hl : l.length ≤ maxLen := by
  obtain ⟨hk, ⟨_, h0⟩ | ⟨g, cap, cur, e1, h1, h2, h3, h4, h5, h6⟩⟩ := hm
  · rw [h0]; exact Nat.zero_le _
  · omega
 rcases hx with rfl | ⟨b, rfl, hb, hj⟩
 · exact ⟨rfl, hl, fun h => absurd h (by simp)⟩
 · refine ⟨rfl, hl, fun _ => ⟨⟨b, 0, none⟩, rfl, fun j p hp => ⟨[.string p], rfl, rfl, fun i u hu => ?_⟩⟩⟩
   have hi : i = 0 := by
    have := (List.getElem?_eq_some_iff.1 hu).1
    simpa using this
   subst hi
   cases hu
   have := hj j p hp
   show W.cell? ((⟨b, 0, none⟩ : Addr).add (j * 1 + 0)) = some (.string p)
   rw [Nat.mul_one, Nat.add_zero]
   unfold Addr.add
   by_cases h : j = 0
   · subst h; simpa using this
   · simpa [h] using this
theorem k2a (l : List ByteArray) (x : ByteArray) (hl : l.length ≤ 1000000) : ∀ (d i : Nat), l.length - i = d → i ≤ l.length → ∃ r : Int, Ev (fun k => q0n.l0 k l x (l.length : Int) (i : Int)) r ∧ decide (r ≥ 0) = (l.drop i).any (fun y => decide (y = x)) := by
 intro d
 induction d with
 | zero =>
  intro i hd hi
  refine ⟨-1, Ev.step (fun k => by unfold q0n.l0; rfl) (Ev.q1l (by omega) (Ev.const rfl)), ?_⟩
  rw [List.drop_eq_nil_of_le (by omega)]; rfl
 | succ d ih =>
  intro i hd hi
  have he : i < l.length := by omega
  have e : q7o ByteArray.empty l (i : Int) = l[i] := by simp [q7o, List.getD_eq_getElem?_getD, List.getElem?_eq_getElem he]
  have hw : wrap64 ((i : Int) + 1) = ((i + 1 : Nat) : Int) := by unfold wrap64; omega
  rw [List.drop_eq_getElem_cons he, List.any_cons]
  by_cases hx : l[i] = x
  · refine ⟨(i : Int), Ev.step (fun k => by unfold q0n.l0; rfl) (Ev.q0x (by omega) (Ev.q0x (by omega) (Ev.q0x (by omega) (Ev.q0x (by rw [e, hx]) (Ev.const rfl))))), ?_⟩
    rw [decide_eq_true hx, decide_eq_true (by omega)]; rfl
  · obtain ⟨r, h1, h2⟩ := ih (i + 1) (by omega) (by omega)
    refine ⟨r, Ev.step (fun k => by unfold q0n.l0; rfl) (Ev.q0x (by omega) (Ev.q0x (by omega) (Ev.q0x (by omega) (Ev.q1l (by rw [e]; exact fun h => hx (Base.toList_inj.1 h).symm) (by rw [hw]; exact h1))))), ?_⟩
    rw [decide_eq_false hx, h2]; rfl
theorem z5y (A : Option Addr) (c : Nat) (l : List ByteArray) (x : ByteArray) (w : World) (hC : Kd.C Kd.string w A l.length l) (hc : l.length ≤ c) (hl : l.length ≤ 1000000) :
 Calls Tryz.prog 182 #[.slice A l.length c, .string x] w fun e w' => e = .returned (.bool (l.any fun y => decide (y = x))) ∧ q0k w w' := by
 obtain ⟨r, h1, h2⟩ := k2a l x hl l.length 0 rfl (Nat.zero_le _)
 have h3 : Ev (fun k => q1t.f k l x) (l.any fun y => decide (y = x)) := by
  unfold q1t.f q0n.f
  refine Ev.bind h1 (Ev.const ?_)
  rw [h2]; rfl
 obtain ⟨k, hk⟩ := h3
 exact q1t.calls k A c l x _ w hC hc (hk k (Nat.le_refl _))
theorem q6x {g : Nat} {W W1 : World} (h : Put g W W1) : q0j W W1 g none := ⟨by rw [h.size]; exact Nat.le_refl _, fun i _ hi _ => h.far i hi⟩
def v8y (W : World) (g : Nat) : Nat := j1a ((W.cell? ⟨g, 0, none⟩).getD undef)
theorem z6d {W : World} {g : Nat} {s : RS} {A : Option Addr} {n c : Nat} {e : Int} (h : W.heap[g]? = some (RB s A n c e)) : v8y W g = n := by
 unfold v8y
 rw [q0a h 0]
 rfl
theorem v3k {w0 w W1 W2 W3 W4 : World} {g : Nat} {e : Int} {s1 s2 : RS} {A2 : Option Addr} {c2 : Nat} {m : List Pc} {v v3 : Value} {acc L3 : List ByteArray} (hg : w0.heap.size ≤ g) (hK1 : q0j w W1 g none) (hK2 : q0j W1 W2 g none) (hV : q4y w v) (hO2 : Own W2 w0.heap.size v acc) (hR2 : W2.heap[g]? = some (RB s1 A2 m.length c2 e)) (hc2 : m.length ≤ c2)
 (hG3 : W2.grownBy W3 v.ownBlock) (hP3 : PG W3 A2 m) (hB3 : Below w0.heap.size w0 W3) (hO3 : Own W3 w0.heap.size v3 L3) (hR3 : W3.heap[g]? = some (RB s1 A2 m.length c2 e)) (hat : v3.ownBlock = v.ownBlock ∨ ∃ b, v3.ownBlock = some b ∧ W2.heap.size ≤ b) (hp : Put g W3 W4) (hk : W4.heap[g]? = some (RB s2 A2 m.length c2 e)) :
 Own W4 w0.heap.size v3 L3 ∧ q4y w v3 ∧ q7g w0 w W4 g e s2 m := by
 have k2 := hK1.trans hK2 (.inl rfl)
 have k3 : q0j w W3 g none := k2.trans (q0j.z2s hG3 g) hV.row
 refine ⟨z2k hO3 hR3 (by decide) (q6x hp), hV.app k2.1 hat, ⟨A2, c2, hc2, hk, hP3.keep hR3 (q6x hp)⟩, Put.below hp hB3 hg, k3.trans (q6x hp) (.inl rfl)⟩
def k3j (w0 w : World) (g : Nat) (e : Int) (s : RS) (r : Except (Int × Int) (List ByteArray × List Pc)) (e' : Ending) (w' : World) : Prop :=
 (∃ x, r = .error x ∧ v2w w0 w w' g x e') ∨ (∃ v, r = .ok v ∧ e' = .returned (.tuple #[]) ∧ ∃ vV, Own w' w0.heap.size vV v.1 ∧ q4y w vV ∧ q7g w0 w w' g e { s with vV := vV } v.2)
theorem v5g {acc : List ByteArray} {x : Pc} {m : List Pc} (h : ¬ (q3u x.2 && q6u x.2) = true) : q5d acc (x :: m) = .ok (acc, x :: m) := by
 conv => lhs; unfold q5d
 exact if_neg h
theorem v8q {acc : List ByteArray} {x : Pc} {m : List Pc} (h : (q3u x.2 && q6u x.2) = true) (hd : acc.any (fun y => decide (y = x.2)) = true) : q5d acc (x :: m) = .error (x.1, 11) := by
 conv => lhs; unfold q5d
 rw [if_pos h, if_pos hd]
theorem k1k {acc : List ByteArray} {x : Pc} {m : List Pc} (h : (q3u x.2 && q6u x.2) = true) (hd : acc.any (fun y => decide (y = x.2)) = false) : q5d acc (x :: m) = q5d (acc ++ [x.2]) m := by
 conv => lhs; unfold q5d
 rw [if_pos h, if_neg (by rw [hd]; decide)]
theorem z1a (g : Nat) (A : Option Addr) (c : Nat) (e : Int) (s : RS) (l : List Pc) (w0 w : World) (hB : Below w0.heap.size w0 w) (hg : w0.heap.size ≤ g) (hc : l.length ≤ c) (hR : w.heap[g]? = some (RB s A l.length c e)) (hP : PG w A l) (hl : l.length ≤ 1000000) (hV0 : s.vV = .slice none 0 0) :
 Calls Tryz.prog 128 #[.pointer (some ⟨g, 0, none⟩)] w fun e' w' => k3j w0 w g e s (q5d [] l) e' w' := by
 have hL : q7g w0 w w g e { s with vV := .slice none 0 0 } l := ⟨⟨A, c, hc, by rw [← hV0]; exact hR, hP⟩, hB, q0j.refl w g none⟩
 have HL0 := aq hL
 obtain ⟨r, hr⟩ : ∃ r, r = q5d [] l := ⟨_, rfl⟩
 rw [← hr]
 have HRR := aq hr
 clear hB hc hR hP hL hr hV0
 go_enter Tryz.func128, Tryz.ntmps128
 refine wp_block ?_
 go_loopw [] (fun wr => ∃ (acc : List ByteArray) (m : List Pc) (vV : Value), q0c (Own wr w0.heap.size vV acc) ∧ q0c (q4y w vV) ∧ q0c (q7g w0 w wr g e { s with vV := vV } m) ∧ q0c (q5d acc m = r) ∧ acc.length + m.length = l.length) (fun wr => v8y wr g)
 case atStart => exact ⟨[], l, _, ⟨q3a _ _ _ _⟩, ⟨q8v w⟩, HL0, ⟨HRR.out.symm⟩, by simp⟩
 case round =>
  clear HL0 HRR
  obtain ⟨acc, m, vV, HO, HV, HL, HE, hn⟩ := hrel
  obtain ⟨V1, d1, e1⟩ := q0u HO.out
  subst e1
  obtain ⟨⟨A1, c1, hc1, hR1, hP1⟩, hB1, hK1⟩ := HL.out
  have HR := aq hR1
  have HP := aq hP1
  have HB := aq hB1
  have HK := aq hK1
  clear hR1 hP1 hB1 hK1
  cases m with
  | nil =>
   go_wp2_with (first
    | (go_at_call 123; refine (q2s g _ c1 e _ [] _ (by exact HR.out) (by exact HP.out)).mono ?_; rintro e w' ⟨rfl, ⟨nd, rfl⟩⟩; rw [show q3s [] = ⟨#[]⟩ from rfl]))
   go_end0
   exact .inr ⟨(acc, []), HE.out.symm, rfl, _, HO.out, HV.out, ⟨A1, c1, hc1, HR.out, PG.nil _ _⟩, q0d HB.out _, q0i HK.out _⟩
  | cons x m =>
   have done : ¬ (q3u x.2 && q6u x.2) = true → r = .ok (acc, x :: m) := fun h => HE.out.symm.trans (v5g h)
   cases hs : q3u x.2 with
   | false =>
    have he := q7l (l := m) hs
    have HD := aq (done (by rw [hs]; simp))
    clear hs done
    go_wp2_with (first
     | (go_at_call 123; refine (q2s g _ c1 e _ (x :: m) _ (by exact HR.out) (by exact HP.out)).mono ?_; rintro e w' ⟨rfl, ⟨nd, rfl⟩⟩; rw [he]))
    go_end0
    exact .inr ⟨_, HD.out, rfl, _, HO.out, HV.out, ⟨A1, c1, hc1, HR.out, HP.out.keep HR.out (q0i (q0j.refl wr g none) _)⟩, q0d HB.out _, q0i HK.out _⟩
   | true =>
    have he := q7d (l := m) hs
    have q0 := z2q hs
    have h8 := (q7r hs).1
    have hF := fun W => k0t.2 x.2 W h8
    cases hf : q6u x.2 with
    | false =>
     rw [hf] at hF
     have HD := aq (done (by rw [hf]; simp))
     clear hs done h8 hf
     go_wp2_with (first
      | (go_at_call 123; refine (q2s g _ c1 e _ (x :: m) _ (by exact HR.out) (by exact HP.out)).mono ?_; rintro e w' ⟨rfl, ⟨nd, rfl⟩⟩; rw [he])
      | (with_reducible refine (hF _).mono ?_; rintro e w' ⟨rfl, ⟨nd, rfl⟩⟩))
     go_end0
     exact .inr ⟨_, HD.out, rfl, _, HO.out, HV.out, ⟨A1, c1, hc1, HR.out, HP.out.keep HR.out (q0i (q0j.refl wr g none) _)⟩, q0d HB.out _, q0i HK.out _⟩
    | true =>
     rw [hf] at hF
     have hsv : (q3u x.2 && q6u x.2) = true := by rw [hs, hf]; rfl
     have hle : acc.length ≤ 1000000 := by simp only [List.length_cons] at hn; omega
     have HLE := aq hle
     obtain ⟨V2, d2, e2, hcd, hC⟩ := k1r HO.out
     cases e2
     have HC := aq hC
     have hln := z6d HR.out
     have HLN := aq hln
     clear hs done h8 hf hle hC hln
     go_wp2_with (first
      | (go_at_call 123; refine (q2s g _ c1 e _ (x :: m) wr (by exact HR.out) (by exact HP.out)).mono ?_; rintro e w' ⟨rfl, ⟨nd, rfl⟩⟩; rw [he])
      | (go_at_call 123; refine (q2s g _ c1 e _ (x :: m) (wr.drewN nd) (by exact HR.out) (by exact HP.out)).mono ?_; rintro e w' ⟨rfl, ⟨nd1, rfl⟩⟩; rw [he])
      | (with_reducible refine (hF _).mono ?_; rintro e w' ⟨rfl, ⟨nd2, rfl⟩⟩))
     cases hdup : acc.any (fun y => decide (y = x.2)) with
     | true =>
      have HD := aq (HE.out.symm.trans (v8q hsv hdup))
      clear hsv
      refine q2w (n := 10) (S := fun w' => w'.cell? ⟨g, 6, none⟩ = some (.slice V1 acc.length d1)) (ds := [9]) (M 10 0) (by kernel_rfl) rfl rfl ((q0a HR.out 6).trans rfl) (fun hHeld => ?_)
      obtain ⟨W1, hW1⟩ : ∃ W1, W1 = (wr.drewN (nd + nd1 + nd2)).drew := ⟨_, rfl⟩
      rw [← hW1] at hHeld ⊢
      replace HR : q0c (W1.heap[g]? = some (RB { s with vV := .slice V1 acc.length d1 } A1 (x :: m).length c1 e)) := by rw [hW1]; exact HR
      replace HP : q0c (PG W1 A1 (x :: m)) := by rw [hW1]; exact HP
      replace HB : q0c (Below w0.heap.size w0 W1) := by rw [hW1]; exact ⟨q0m (q0d HB.out _)⟩
      replace HK : q0c (q0j w W1 g none) := by rw [hW1]; exact ⟨q0i (q0i HK.out _) 1⟩
      replace HO : q0c (Own W1 w0.heap.size (.slice V1 acc.length d1) acc) := by rw [hW1]; exact HO
      replace HC : q0c (Kd.C Kd.string W1 V1 acc.length acc) := ⟨(k1r HO.out).elim fun A h => h.elim fun c h => by obtain ⟨h1, h2, h3⟩ := h; cases h1; exact h3⟩
      clear hW1
      refine pw 0 10 (M 10 1) ?_
      refine pw 1 11 (M 10 3) ?_
      refine pw 2 12 (M 10 7) ?_
      refine pw 3 13 (M 10 15) ?_
      refine pw 4 14 (M 10 31) ?_
      refine pw 6 16 (M 10 95) ?_
      refine tw 5 15 (M 10 127) hHeld ?_
      refine ow 7 (some 17) (M 10 255) fun K hK => ?_
      refine gow Tryz.func123 #[.pointer (some ⟨g, 0, none⟩)] ?_
      refine (q2s g _ c1 e { s with vV := .slice V1 acc.length d1 } (x :: m) _ HR.out HP.out).mono ?_
      rintro e3 W2 ⟨rfl, ⟨nd3, rfl⟩⟩
      rw [he]
      refine ⟨_, rfl, ?_⟩
      refine hK.out _ _ ((q0a HR.out 6).trans rfl) (fun hHeld => ?_)
      clear hK K
      refine nw 17 ?_
      refine ow 8 (some 18) (M 10 511) fun K hK => ?_
      refine gow Tryz.func182 #[.slice V1 acc.length d1, .string x.2] ?_
      refine (z5y V1 d1 acc x.2 _ (by exact HC.out) hcd HLE.out).mono ?_
      rintro e3 W3 ⟨rfl, ⟨nd4, rfl⟩⟩
      rw [hdup]
      refine ⟨_, rfl, ?_⟩
      refine hK.out _ _ ((q0a HR.out 6).trans rfl) (fun hHeld => ?_)
      clear hK K
      refine nw 18 ?_
      refine z3g (i := 9) (N := some 19) (M 10 1023) rfl rfl (by kernel_rfl) (by decide) (fun K hK => ?_)
      refine k6j Tryz.func181 #[.pointer (some ⟨g, 0, none⟩), .bool true, .string ⟨#[118, 97, 114, 105, 97, 110, 116]⟩] ?_
      refine (z9h g _ c1 e { s with vV := .slice V1 acc.length d1 } _ x m w0 _ (q0d (q0d HB.out _) _) HR.out HP.out).mono ?_
      rintro e3 W4 hbad
      obtain ⟨p, he4, hr4⟩ := hbad
      refine ⟨_, he4, ?_⟩
      exact ⟨rfl, .inl ⟨_, HD.out, v2w.after ⟨p, rfl, hr4⟩ (q0i (q0i HK.out _) _)⟩⟩
     | false =>
      have HE2 := aq ((k1k hsv hdup).symm.trans HE.out)
      clear hsv
      refine q2w (n := 10) (S := fun w' => w'.cell? ⟨g, 6, none⟩ = some (.slice V1 acc.length d1)) (ds := []) (M 10 0) (by kernel_rfl) rfl rfl ((q0a HR.out 6).trans rfl) (fun hHeld => ?_)
      obtain ⟨W1, hW1⟩ : ∃ W1, W1 = (wr.drewN (nd + nd1 + nd2)).drew := ⟨_, rfl⟩
      rw [← hW1] at hHeld ⊢
      replace HR : q0c (W1.heap[g]? = some (RB { s with vV := .slice V1 acc.length d1 } A1 (x :: m).length c1 e)) := by rw [hW1]; exact HR
      replace HP : q0c (PG W1 A1 (x :: m)) := by rw [hW1]; exact HP
      replace HB : q0c (Below w0.heap.size w0 W1) := by rw [hW1]; exact ⟨q0m (q0d HB.out _)⟩
      replace HK : q0c (q0j w W1 g none) := by rw [hW1]; exact ⟨q0i (q0i HK.out _) 1⟩
      replace HO : q0c (Own W1 w0.heap.size (.slice V1 acc.length d1) acc) := by rw [hW1]; exact HO
      replace HC : q0c (Kd.C Kd.string W1 V1 acc.length acc) := ⟨(k1r HO.out).elim fun A h => h.elim fun c h => by obtain ⟨h1, h2, h3⟩ := h; cases h1; exact h3⟩
      clear hW1
      refine pw 0 10 (M 10 1) ?_
      refine pw 1 11 (M 10 3) ?_
      refine pw 2 12 (M 10 7) ?_
      refine pw 3 13 (M 10 15) ?_
      refine pw 4 14 (M 10 31) ?_
      refine pw 6 16 (M 10 95) ?_
      refine tw 5 15 (M 10 127) hHeld ?_
      refine ow 7 (some 17) (M 10 255) fun K hK => ?_
      refine gow Tryz.func123 #[.pointer (some ⟨g, 0, none⟩)] ?_
      refine (q2s g _ c1 e { s with vV := .slice V1 acc.length d1 } (x :: m) _ HR.out HP.out).mono ?_
      rintro e3 W2 ⟨rfl, ⟨nd3, rfl⟩⟩
      rw [he]
      refine ⟨_, rfl, ?_⟩
      refine hK.out _ _ ((q0a HR.out 6).trans rfl) (fun hHeld => ?_)
      clear hK K
      refine nw 17 ?_
      refine ow 8 (some 18) (M 10 511) fun K hK => ?_
      refine gow Tryz.func182 #[.slice V1 acc.length d1, .string x.2] ?_
      refine (z5y V1 d1 acc x.2 _ (by exact HC.out) hcd HLE.out).mono ?_
      rintro e3 W3 ⟨rfl, ⟨nd4, rfl⟩⟩
      rw [hdup]
      refine ⟨_, rfl, ?_⟩
      refine hK.out _ _ ((q0a HR.out 6).trans rfl) (fun hHeld => ?_)
      clear hK K
      refine nw 18 ?_
      refine ow 9 (some 19) (M 10 1023) fun K hK => ?_
      refine gow Tryz.func181 #[.pointer (some ⟨g, 0, none⟩), .bool false, .string ⟨#[118, 97, 114, 105, 97, 110, 116]⟩] ?_
      refine (v3f g _ _).mono ?_
      rintro e3 W4 ⟨rfl, hW4⟩
      rw [hW4]
      refine ⟨_, rfl, ?_⟩
      obtain ⟨W5, hW5⟩ : ∃ W5, W5 = (W1.drewN nd3).drewN nd4 := ⟨_, rfl⟩
      rw [← hW5]
      replace HR : q0c (W5.heap[g]? = some (RB { s with vV := .slice V1 acc.length d1 } A1 (x :: m).length c1 e)) := by rw [hW5]; exact HR
      replace HP : q0c (PG W5 A1 (x :: m)) := by rw [hW5]; exact HP
      replace HB : q0c (Below w0.heap.size w0 W5) := by rw [hW5]; exact ⟨q0d (q0d HB.out _) _⟩
      replace HK : q0c (q0j w W5 g none) := by rw [hW5]; exact ⟨q0i (q0i HK.out _) _⟩
      replace HO : q0c (Own W5 w0.heap.size (.slice V1 acc.length d1) acc) := by rw [hW5]; exact HO
      clear hW5 hW4
      refine hK.out _ _ ((q0a HR.out 6).trans rfl) (fun hHeld => ?_)
      clear hK K
      refine nw 19 ?_
      refine q4t (by kernel_rfl) ?_
      go_wp2
      refine q2w (n := 14) (S := fun w' => w'.cell? ⟨g, 6, none⟩ = some (.slice V1 acc.length d1)) (ds := [13]) (M 14 0) (by kernel_rfl) rfl rfl ((q0a HR.out 6).trans rfl) (fun hHeld => ?_)
      obtain ⟨W1, hW1⟩ : ∃ W1, W1 = W5.drew := ⟨_, rfl⟩
      rw [← hW1] at hHeld ⊢
      replace HR : q0c (W1.heap[g]? = some (RB { s with vV := .slice V1 acc.length d1 } A1 (x :: m).length c1 e)) := by rw [hW1]; exact HR
      replace HP : q0c (PG W1 A1 (x :: m)) := by rw [hW1]; exact HP
      replace HB : q0c (Below w0.heap.size w0 W1) := by rw [hW1]; exact ⟨q0m HB.out⟩
      replace HK : q0c (q0j w W1 g none) := by rw [hW1]; exact ⟨q0i HK.out 1⟩
      replace HO : q0c (Own W1 w0.heap.size (.slice V1 acc.length d1) acc) := by rw [hW1]; exact HO
      clear hW1
      refine pw 0 20 (M 14 1) ?_
      refine pw 1 21 (M 14 3) ?_
      refine pw 2 22 (M 14 7) ?_
      refine pw 3 23 (M 14 15) ?_
      refine pw 4 24 (M 14 31) ?_
      refine pw 6 26 (M 14 95) ?_
      refine tw 5 25 (M 14 127) hHeld ?_
      refine ow 7 (some 27) (M 14 255) fun K hK => ?_
      refine gow Tryz.func130 #[.pointer (some ⟨g, 0, none⟩)] ?_
      refine (z1s g _ c1 e { s with vV := .slice V1 acc.length d1 } x m w0 _ HB.out hg hc1 HR.out HP.out).mono ?_
      rintro e3 W2 ⟨rfl, ⟨A2, c2, hc2, hR2, hP2⟩, hB2, hK2⟩
      rw [he]
      have HR2 := aq hR2
      have HP2 := aq hP2
      have HB2 := aq hB2
      have HK2 := aq hK2
      have HO2 := aq (show Own W2 w0.heap.size (.slice V1 acc.length d1) acc from z2k HO.out HR.out (by decide) HK2.out)
      clear hR2 hP2 hB2 hK2
      refine ⟨_, rfl, ?_⟩
      refine hK.out _ _ ((q0a HR2.out 6).trans rfl) (fun hHeld => ?_)
      clear hK K
      refine nw 27 ?_
      refine ow 8 (some 28) (M 14 511) fun K hK => ?_
      refine q2x (w1 := ?_) (v := ?_) (by rfl) rfl ?_ ?_
      rotate_left 2
      · go_simp
        constructor
        · rfl
        · rfl
      refine hK.out _ _ ((q0a (aN HR2.out) 6).trans rfl) (fun hHeld => ?_)
      clear hK K
      refine nw 28 ?_
      refine ow 9 (some 29) (M 14 1023) fun K hK => ?_
      refine k8t (w0 := w0) w0.heap.size (by rfl) (.tmp 25) (.tmp 28) rfl (.slice V1 acc.length d1) acc x.2 rfl rfl HO2.out HB2.out HB2.out.size HLE.out ?_
      intro v3 W3 hO3 hB3 hG3 hat
      obtain ⟨V3, d3, e3⟩ := q0u hO3
      subst e3
      have HO3 := aq hO3
      have HB3 := aq hB3
      have HG3 := aq hG3
      have HAT := aq hat
      have HR3 := aq ((hG3.block g (Array.getElem?_eq_some_iff.1 HR2.out).1 (own_ne HO2.out HR2.out (by decide))).trans HR2.out)
      have HP3 := aq (HP2.out.grown HO2.out (by decide) hG3)
      clear hO3 hB3 hG3 hat
      refine hK.out _ _ ((q0a HR3.out 6).trans rfl) (fun hHeld => ?_)
      clear hK K
      refine nw 29 ?_
      refine pw 10 30 (M 14 2047) ?_
      refine pw 11 31 (M 14 4095) ?_
      refine pw 12 32 (M 14 8191) ?_
      refine z3g (i := 13) (N := none) (M 14 16383) rfl rfl (by kernel_rfl) (by decide) (fun K hK => ?_)
      refine q2d (g := g) (off := 6) (cur := { s with vV := .slice V1 acc.length d1 }.cells A2 m.length c2 e) (new := { s with vV := .slice V3 (acc ++ [x.2]).length d3 }.cells A2 m.length c2 e) (seg := [.slice V3 (acc ++ [x.2]).length d3]) (u := .slice V3 (acc ++ [x.2]).length d3) rfl rfl rfl rfl rfl rfl (by rfl) (by kernel_rfl) rfl rfl (Nat.le_of_ble_eq_true rfl) HR3.out ?_
      intro W4 hk hp
      refine hK.out _ _ ?_
      clear hK K
      refine q4t (by kernel_rfl) ?_
      have hend := v3k hg HK.out HK2.out HV.out HO2.out HR2.out hc2 HG3.out HP3.out HB3.out HO3.out HR3.out HAT.out hp hk
      have HEND := aq hend
      go_roundw
      case rel => exact ⟨_, _, _, _, _, _, _, _, _, _, _, _, _, _, _, _, _, _, _, _, _, _, _, _, _, _, _, _, _, _, _, ⟨acc ++ [x.2], m, _, ⟨HEND.out.1⟩, ⟨HEND.out.2.1⟩, ⟨HEND.out.2.2⟩, HE2, by simp only [List.length_append, List.length_cons, List.length_nil] at hn ⊢; omega⟩, rfl⟩
      case measure => rw [z6d hk, HLN.out]; simp
end Go.Proofs.YtpmcfckechjppaaGreatDoor.Ps
namespace Go.Proofs.YtpmcfckechjppaaGreatDoor.Ps
open Go.RowKit Go.Shelf Go.Proofs.YtpmcfckechjppaaGreatDoorW.PrintWords Go.Proofs.YtpmcfckechjppaaGreatDoorW.PrintLast Go.Proofs.YtpmcfckechjppaaGreatDoorW.PrintMore Go.Proofs.YtpmcfckechjppaaGreatDoor.P Go.Proofs.YtpmcfckechjppaaGreatDoor.LikW
attribute [local go_sem] Oper.semAt_some
theorem z4d (f : ByteArray → Bool) (l : List Pc) : ((q5m f l).1 = ⟨#[]⟩ ∧ (q5m f l).2 = l) ∨ (q3u (q5m f l).1 = true ∧ f (q5m f l).1 = true ∧ (q5m f l).2.length + 1 = l.length) := by
 cases l with
 | nil => exact .inl ⟨rfl, rfl⟩
 | cons x m =>
  by_cases h : (q3u x.2 && f x.2) = true
  · rw [one_pos h]
    rw [Bool.and_eq_true] at h
    exact .inr ⟨h.1, h.2, rfl⟩
  · rw [q9t h]
    exact .inl ⟨rfl, rfl⟩
theorem v5v {n : Nat} {x : Pc} {m : List Pc} (h : ¬ (q3u x.2 && q5v x.2) = true) : q4o n (x :: m) = ([], x :: m) := by
 cases n with
 | zero => rfl
 | succ n =>
  conv => lhs; unfold q4o
  exact if_neg h
theorem v6n (n : Nat) : q4o n [] = ([], []) := by cases n <;> rfl
theorem k1c {n : Nat} {x : Pc} {m : List Pc} (h : (q3u x.2 && q5v x.2) = true) : q4o (n + 1) (x :: m) = (x.2 :: (q4o n m).1, (q4o n m).2) := by
 conv => lhs; unfold q4o
 exact if_pos h
theorem z6c (W : World) : Calls Tryz.prog 177 #[.string ⟨#[]⟩] W fun e w' => e = .returned (.bool false) ∧ q0k W w' := v0a.2 ⟨#[]⟩ W (by decide)
theorem k2d (g : Nat) (A : Option Addr) (c : Nat) (e : Int) (s : RS) (l : List Pc) (w0 w : World) (hB : Below w0.heap.size w0 w) (hg : w0.heap.size ≤ g) (hc : l.length ≤ c) (hR : w.heap[g]? = some (RB s A l.length c e)) (hP : PG w A l) (hl : l.length ≤ 1000000) (ha : (q5m q2t l).1.size = 0) :
 Calls Tryz.prog 124 #[.pointer (some ⟨g, 0, none⟩)] w fun e' w' => v2w w0 w w' g (q4r e l, 10) e' := by
 obtain ⟨h1, h2⟩ : (q5m q2t l).1 = ⟨#[]⟩ ∧ (q5m q2t l).2 = l := by
  rcases z4d q2t l with h | ⟨h, _, _⟩
  · exact h
  · exact absurd ha (q7r h).2
 have HC := z9l _ _ z8q g A c e s l w0 w hB hg hc hR hP
 rw [h1, h2] at HC
 replace HC := aq HC
 clear hB hc hR hP h1 h2 ha
 go_enter Tryz.func124, Tryz.ntmps124
 go_wp2_with (first
  | (go_at_call 125; refine (by exact HC.out : Calls _ _ _ _ _).mono ?_; rintro e1 w1 ⟨rfl, ⟨A1, c1, hc1, hR1, hP1⟩, hB1, hK1⟩; obtain ⟨y0, y1, y2, y3, y4, y5, y6, y7, y8, y9⟩ := z2a hR1; obtain ⟨f0, f1, f2, -⟩ := v0i hR1; have HR := aq (show (w1.setCell ⟨g, 2, none⟩ (.string ⟨#[]⟩)).heap[g]? = some (RB { s with lang := ⟨#[]⟩ } A1 l.length c1 e) from q0l hR1 2 _ rfl); have HP := aq (hP1.keep hR1 ((q0j.refl w1 g none).q8c 2 (.string ⟨#[]⟩))); have HB := aq (q0r (j := 2) (v := .string ⟨#[]⟩) hB1 hg); have HK := aq (hK1.trans ((q0j.refl w1 g none).q8c 2 (.string ⟨#[]⟩)) (.inl rfl)); clear hR1 hP1 hB1 hK1)
  | (go_at_call 133; refine (v3b g A1 c1 e { s with lang := ⟨#[]⟩ } l w0 _ HB.out HR.out HP.out).mono ?_; rintro e2 w2 hbad; have HBad := aq (hbad.after HK.out); clear hbad; obtain ⟨p, he, -⟩ := HBad.out; subst he))
 exact ⟨rfl, HBad.out⟩
theorem z4u (g : Nat) (A : Option Addr) (c : Nat) (e : Int) (s : RS) (l : List Pc) (w0 w : World) (hB : Below w0.heap.size w0 w) (hg : w0.heap.size ≤ g) (hc : l.length ≤ c) (hR : w.heap[g]? = some (RB s A l.length c e)) (hP : PG w A l) (hl : l.length ≤ 1000000) (hE0 : s.vE = .slice none 0 0) (ha : (q5m q2t l).1.size ≠ 0) :
 Calls Tryz.prog 124 #[.pointer (some ⟨g, 0, none⟩)] w fun e' w' => e' = .returned (.tuple #[]) ∧ ∃ vE, Own w' w0.heap.size vE (exl (q5m q2t l).1 (q5m q2t l).2).1 ∧ q4y w vE ∧ q7g w0 w w' g e { s with lang := (q5m q2t l).1, vE := vE } (exl (q5m q2t l).1 (q5m q2t l).2).2 := by
 have HC := z9l _ _ z8q g A c e s l w0 w hB hg hc hR hP
 have hlen : (q5m q2t l).2.length ≤ l.length := by
  rcases z4d q2t l with ⟨_, h⟩ | ⟨_, _, h⟩
  · rw [h]; exact Nat.le_refl _
  · omega
 obtain ⟨a, ha1⟩ : ∃ a, a = (q5m q2t l).1 := ⟨_, rfl⟩
 obtain ⟨m0, hm0⟩ : ∃ m0, m0 = (q5m q2t l).2 := ⟨_, rfl⟩
 rw [← ha1, ← hm0] at HC ⊢
 rw [← ha1] at ha
 rw [← hm0] at hlen
 have q0 : a.toList.isEmpty = false := full fun h => ha (by rw [h]; rfl)
 replace HC := aq HC
 obtain ⟨L, hLL⟩ : ∃ L, L = exl a m0 := ⟨_, rfl⟩
 rw [← hLL]
 have HLL := aq hLL
 have HL0 := aq hlen
 clear hB hc hR hP ha ha1 hm0 hLL hlen
 by_cases hz : a.size = 2 ∨ a.size = 3
 · have hz2 : (((a.size : Int) == 2) = true) ∨ (((a.size : Int) == 2) = false ∧ ((a.size : Int) == 3) = true) := by
    rcases hz with h | h
    · exact .inl (by rw [h]; rfl)
    · exact .inr (by rw [h]; exact ⟨rfl, rfl⟩)
   have hL3 : q4o 3 m0 = L := by rw [HLL.out]; unfold exl; rw [if_pos hz]
   have HL3 := aq hL3
   clear HLL hL3 hz
   rcases hz2 with hz | ⟨hz, hz3⟩
   all_goals
    go_enter Tryz.func124, Tryz.ntmps124
    go_wp2_with (first
     | (go_at_call 125; refine (by exact HC.out : Calls _ _ _ _ _).mono ?_; rintro e1 w1 ⟨rfl, ⟨A1, c1, hc1, hR1, hP1⟩, hB1, hK1⟩; obtain ⟨y0, y1, y2, y3, y4, y5, y6, y7, y8, y9⟩ := z2a hR1; obtain ⟨f0, f1, f2, -⟩ := v0i hR1; have HS := aq (show q7g w0 w (w1.setCell ⟨g, 2, none⟩ (.string a)) g e { s with lang := a, vE := .slice none 0 0 } m0 from ⟨⟨A1, c1, hc1, by rw [← hE0]; exact q0l hR1 2 _ rfl, hP1.keep hR1 ((q0j.refl w1 g none).q8c 2 (.string a))⟩, q0r (j := 2) (v := .string a) hB1 hg, hK1.trans ((q0j.refl w1 g none).q8c 2 (.string a)) (.inl rfl)⟩); clear hR1 hP1 hB1 hK1))
    clear HC
    go_loopw [] (fun wr => ∃ (acc : List ByteArray) (m : List Pc) (vE : Value), q0c (Own wr w0.heap.size vE acc) ∧ q0c (q4y w vE) ∧ q0c (q7g w0 w wr g e { s with lang := a, vE := vE } m) ∧ q0c (acc ++ (q4o (3 - acc.length) m).1 = L.1 ∧ (q4o (3 - acc.length) m).2 = L.2) ∧ acc.length ≤ 3 ∧ m.length ≤ l.length) (fun wr => v8y wr g)
    case atStart => exact ⟨[], m0, _, ⟨q3a _ _ _ _⟩, ⟨q8v w⟩, HS, ⟨by rw [← HL3.out]; exact ⟨rfl, rfl⟩⟩, by simp, HL0.out⟩
    case round =>
     clear HS HL3 HL0
     obtain ⟨acc, m, vE, HO, HV, HL, HE, h3, hn⟩ := hrel
     obtain ⟨V1, d1, e1⟩ := q0u HO.out
     subst e1
     obtain ⟨⟨A1, c1, hc1, hR1, hP1⟩, hB1, hK1⟩ := HL.out
     have HR := aq hR1
     have HP := aq hP1
     have HB := aq hB1
     have HK := aq hK1
     obtain ⟨y0, y1, y2, y3, y4, y5, y6, y7, y8, y9⟩ := z2a hR1
     clear hR1 hP1 hB1 hK1 y0 y1 y2 y4 y5 y6 y7 y8 y9
     by_cases h33 : acc.length < 3
     · have d3 : decide ((acc.length : Int) < 3) = true := decide_eq_true (by omega)
       cases m with
       | nil =>
        have HD := aq (show acc = L.1 ∧ [] = L.2 by have he := HE.out; rw [v6n] at he; simpa using he)
        go_wp2_with (first
         | (go_at_call 123; refine (q2s g _ c1 e _ [] _ (by exact HR.out) (by exact HP.out)).mono ?_; rintro e w' ⟨rfl, ⟨nd, rfl⟩⟩; rw [show q3s [] = ⟨#[]⟩ from rfl])
         | (with_reducible refine (z6c _).mono ?_; rintro e w' ⟨rfl, ⟨nd, rfl⟩⟩))
        go_end0
        exact ⟨rfl, _, by rw [← HD.out.1]; exact HO.out, HV.out, by rw [← HD.out.2]; exact ⟨⟨A1, c1, hc1, HR.out, PG.nil _ _⟩, q0d HB.out _, q0i HK.out _⟩⟩
       | cons x m =>
        have done : ¬ (q3u x.2 && q5v x.2) = true → acc = L.1 ∧ x :: m = L.2 := fun h => by have he := HE.out; rw [v5v h] at he; simpa using he
        cases hs : q3u x.2 with
        | false =>
         have he := q7l (l := m) hs
         have HD := aq (done (by rw [hs]; simp))
         clear hs done
         go_wp2_with (first
          | (go_at_call 123; refine (q2s g _ c1 e _ (x :: m) _ (by exact HR.out) (by exact HP.out)).mono ?_; rintro e w' ⟨rfl, ⟨nd, rfl⟩⟩; rw [he])
          | (with_reducible refine (z6c _).mono ?_; rintro e w' ⟨rfl, ⟨nd, rfl⟩⟩))
         go_end0
         exact ⟨rfl, _, by rw [← HD.out.1]; exact HO.out, HV.out, by rw [← HD.out.2]; exact ⟨⟨A1, c1, hc1, HR.out, HP.out.keep HR.out (q0i (q0j.refl wr g none) _)⟩, q0d HB.out _, q0i HK.out _⟩⟩
        | true =>
         have he := q7d (l := m) hs
         have h8 := (q7r hs).1
         have hF := fun W => v0a.2 x.2 W h8
         cases hf : q5v x.2 with
         | false =>
          rw [hf] at hF
          have HD := aq (done (by rw [hf]; simp))
          clear hs done h8 hf
          go_wp2_with (first
           | (go_at_call 123; refine (q2s g _ c1 e _ (x :: m) _ (by exact HR.out) (by exact HP.out)).mono ?_; rintro e w' ⟨rfl, ⟨nd, rfl⟩⟩; rw [he])
           | (with_reducible refine (hF _).mono ?_; rintro e w' ⟨rfl, ⟨nd, rfl⟩⟩))
          go_end0
          exact ⟨rfl, _, by rw [← HD.out.1]; exact HO.out, HV.out, by rw [← HD.out.2]; exact ⟨⟨A1, c1, hc1, HR.out, HP.out.keep HR.out (q0i (q0j.refl wr g none) _)⟩, q0d HB.out _, q0i HK.out _⟩⟩
         | true =>
          rw [hf] at hF
          have he2 : (acc ++ [x.2]) ++ (q4o (3 - (acc ++ [x.2]).length) m).1 = L.1 ∧ (q4o (3 - (acc ++ [x.2]).length) m).2 = L.2 := by
           have h1 := HE.out
           rw [show 3 - acc.length = (3 - (acc ++ [x.2]).length) + 1 by simp; omega, k1c (by rw [hs, hf]; rfl)] at h1
           simpa using h1
          have HE2 := aq he2
          have HLE := aq (show acc.length ≤ 1000000 by omega)
          have HLN := aq (z6d HR.out)
          clear hs done h8 hf he2
          go_wp2_with (first
           | (go_at_call 123; refine (q2s g _ c1 e _ (x :: m) wr (by exact HR.out) (by exact HP.out)).mono ?_; rintro e w' ⟨rfl, ⟨nd, rfl⟩⟩; rw [he])
           | (with_reducible refine (hF _).mono ?_; rintro e w' ⟨rfl, ⟨nd2, rfl⟩⟩))
          refine q2w (n := 14) (S := fun w' => w'.cell? ⟨g, 3, none⟩ = some (.slice V1 acc.length d1)) (ds := [13]) (M 14 0) (by kernel_rfl) rfl rfl ((q0a HR.out 3).trans rfl) (fun hHeld => ?_)
          obtain ⟨W1, hW1⟩ : ∃ W1, W1 = (wr.drewN (nd + nd2)).drew := ⟨_, rfl⟩
          rw [← hW1] at hHeld ⊢
          replace HR : q0c (W1.heap[g]? = some (RB { s with lang := a, vE := .slice V1 acc.length d1 } A1 (x :: m).length c1 e)) := by rw [hW1]; exact HR
          replace HP : q0c (PG W1 A1 (x :: m)) := by rw [hW1]; exact HP
          replace HB : q0c (Below w0.heap.size w0 W1) := by rw [hW1]; exact ⟨q0m (q0d HB.out _)⟩
          replace HK : q0c (q0j w W1 g none) := by rw [hW1]; exact ⟨q0i (q0i HK.out _) 1⟩
          replace HO : q0c (Own W1 w0.heap.size (.slice V1 acc.length d1) acc) := by rw [hW1]; exact HO
          clear hW1
          refine pw 0 38 (M 14 1) ?_
          refine pw 1 39 (M 14 3) ?_
          refine pw 2 40 (M 14 7) ?_
          refine pw 3 41 (M 14 15) ?_
          refine pw 4 42 (M 14 31) ?_
          refine pw 6 44 (M 14 95) ?_
          refine tw 5 43 (M 14 127) hHeld ?_
          refine ow 7 (some 45) (M 14 255) fun K hK => ?_
          refine gow Tryz.func130 #[.pointer (some ⟨g, 0, none⟩)] ?_
          refine (z1s g _ c1 e { s with lang := a, vE := .slice V1 acc.length d1 } x m w0 _ HB.out hg hc1 HR.out HP.out).mono ?_
          rintro e3 W2 ⟨rfl, ⟨A2, c2, hc2, hR2, hP2⟩, hB2, hK2⟩
          rw [he]
          have HR2 := aq hR2
          have HP2 := aq hP2
          have HB2 := aq hB2
          have HK2 := aq hK2
          have HO2 := aq (show Own W2 w0.heap.size (.slice V1 acc.length d1) acc from z2k HO.out HR.out (by decide) HK2.out)
          clear hR2 hP2 hB2 hK2
          refine ⟨_, rfl, ?_⟩
          refine hK.out _ _ ((q0a HR2.out 3).trans rfl) (fun hHeld => ?_)
          clear hK K
          refine nw 45 ?_
          refine ow 8 (some 46) (M 14 511) fun K hK => ?_
          refine q2x (w1 := ?_) (v := ?_) (by rfl) rfl ?_ ?_
          rotate_left 2
          · go_simp
            constructor
            · rfl
            · rfl
          refine hK.out _ _ ((q0a (aN HR2.out) 3).trans rfl) (fun hHeld => ?_)
          clear hK K
          refine nw 46 ?_
          refine ow 9 (some 47) (M 14 1023) fun K hK => ?_
          refine k8t (w0 := w0) w0.heap.size (by rfl) (.tmp 43) (.tmp 46) rfl (.slice V1 acc.length d1) acc x.2 rfl rfl HO2.out HB2.out HB2.out.size HLE.out ?_
          intro v3 W3 hO3 hB3 hG3 hat
          obtain ⟨V3, d3, e3⟩ := q0u hO3
          subst e3
          have HO3 := aq hO3
          have HB3 := aq hB3
          have HG3 := aq hG3
          have HAT := aq hat
          have HR3 := aq ((hG3.block g (Array.getElem?_eq_some_iff.1 HR2.out).1 (own_ne HO2.out HR2.out (by decide))).trans HR2.out)
          have HP3 := aq (HP2.out.grown HO2.out (by decide) hG3)
          clear hO3 hB3 hG3 hat
          refine hK.out _ _ ((q0a HR3.out 3).trans rfl) (fun hHeld => ?_)
          clear hK K
          refine nw 47 ?_
          refine pw 10 48 (M 14 2047) ?_
          refine pw 11 49 (M 14 4095) ?_
          refine pw 12 50 (M 14 8191) ?_
          refine z3g (i := 13) (N := none) (M 14 16383) rfl rfl (by kernel_rfl) (by decide) (fun K hK => ?_)
          refine q2d (g := g) (off := 3) (cur := { s with lang := a, vE := .slice V1 acc.length d1 }.cells A2 m.length c2 e) (new := { s with lang := a, vE := .slice V3 (acc ++ [x.2]).length d3 }.cells A2 m.length c2 e) (seg := [.slice V3 (acc ++ [x.2]).length d3]) (u := .slice V3 (acc ++ [x.2]).length d3) rfl rfl rfl rfl rfl rfl (by rfl) (by kernel_rfl) rfl rfl (Nat.le_of_ble_eq_true rfl) HR3.out ?_
          intro W4 hk hp
          refine hK.out _ _ ?_
          clear hK K
          refine q4t (by kernel_rfl) ?_
          have hend := v3k hg HK.out HK2.out HV.out HO2.out HR2.out hc2 HG3.out HP3.out HB3.out HO3.out HR3.out HAT.out hp hk
          have HEND := aq hend
          go_roundw
          case rel => exact ⟨_, _, _, _, _, _, _, _, _, _, _, _, _, _, _, _, _, _, _, _, _, _, _, _, _, ⟨acc ++ [x.2], m, _, ⟨HEND.out.1⟩, ⟨HEND.out.2.1⟩, ⟨HEND.out.2.2⟩, HE2, by simp only [List.length_append, List.length_cons, List.length_nil]; omega, by simp only [List.length_cons] at hn; omega⟩, rfl⟩
          case measure => rw [z6d hk, HLN.out]; simp
     · have d3 : decide ((acc.length : Int) < 3) = false := decide_eq_false (by omega)
       have HD := aq (show acc = L.1 ∧ m = L.2 by have he := HE.out; rw [show 3 - acc.length = 0 by omega] at he; simpa [q4o] using he)
       go_wp2
       go_end0
       exact ⟨rfl, _, by rw [← HD.out.1]; exact HO.out, HV.out, by rw [← HD.out.2]; exact ⟨⟨A1, c1, hc1, HR.out, HP.out⟩, HB.out, HK.out⟩⟩
 · have hz2 : ((a.size : Int) == 2) = false := beq_eq_false_iff_ne.2 fun h => hz (.inl (by omega))
   have hz3 : ((a.size : Int) == 3) = false := beq_eq_false_iff_ne.2 fun h => hz (.inr (by omega))
   have HD := aq (show ([], m0) = L by rw [HLL.out]; unfold exl; rw [if_neg hz])
   clear HLL hz
   go_enter Tryz.func124, Tryz.ntmps124
   go_wp2_with (first
    | (go_at_call 125; refine (by exact HC.out : Calls _ _ _ _ _).mono ?_; rintro e1 w1 ⟨rfl, ⟨A1, c1, hc1, hR1, hP1⟩, hB1, hK1⟩; obtain ⟨y0, y1, y2, y3, y4, y5, y6, y7, y8, y9⟩ := z2a hR1; obtain ⟨f0, f1, f2, -⟩ := v0i hR1; have HS := aq (show q7g w0 w (w1.setCell ⟨g, 2, none⟩ (.string a)) g e { s with lang := a, vE := .slice none 0 0 } m0 from ⟨⟨A1, c1, hc1, by rw [← hE0]; exact q0l hR1 2 _ rfl, hP1.keep hR1 ((q0j.refl w1 g none).q8c 2 (.string a))⟩, q0r (j := 2) (v := .string a) hB1 hg, hK1.trans ((q0j.refl w1 g none).q8c 2 (.string a)) (.inl rfl)⟩); clear hR1 hP1 hB1 hK1))
   go_end0
   rw [← HD.out]
   exact ⟨rfl, _, q3a _ _ _ _, q8v w, HS.out⟩
end Go.Proofs.YtpmcfckechjppaaGreatDoor.Ps
