/- Made by a program of this seat's own (shake.py, merge.py): what the claim leans on: Rd3, Case, Split, Spl, Jn, Rd4. -/
import Derived.Test.YtpmcfckechjppaaGreatDoorTb05
import Derived.Test.YtpmcfckechjppaaGreatDoorTb06
namespace Go.Proofs.YtpmcfckechjppaaGreatDoor.Ps
open Go.RowKit Go.Shelf Go.Proofs.YtpmcfckechjppaaGreatDoorW.PrintWords Go.Proofs.YtpmcfckechjppaaGreatDoorW.PrintLast Go.Proofs.YtpmcfckechjppaaGreatDoorW.PrintMore Go.Proofs.YtpmcfckechjppaaGreatDoor.P Go.Proofs.YtpmcfckechjppaaGreatDoor.LikW
attribute [local go_sem] Oper.semAt_some
set_option linter.unusedVariables false
set_option linter.unusedSimpArgs false
set_option maxRecDepth 100000
set_option maxHeartbeats 8000000
def FreshV (w : World) (v : Value) : Prop := ∀ k, v.ownBlock = some k → w.heap.size ≤ k
theorem fresh_nil (w : World) : FreshV w (.slice none 0 0) := fun k h => by cases h
theorem FreshV.app {w W : World} {v v1 : Value} (h : FreshV w v) (hw : w.heap.size ≤ W.heap.size) (hat : v1.ownBlock = v.ownBlock ∨ ∃ b, v1.ownBlock = some b ∧ W.heap.size ≤ b) : FreshV w v1 := fun k hk => by
 rcases hat with e | ⟨b, e, hb⟩
 · exact h k (by rw [← e]; exact hk)
 · rw [e] at hk; cases hk; exact Nat.le_trans hw hb
theorem FreshV.row {w : World} {v : Value} (h : FreshV w v) : v.ownBlock = none ∨ ∃ b, v.ownBlock = some b ∧ w.heap.size ≤ b := by
 cases e : v.ownBlock with
 | none => exact .inl rfl
 | some b => exact .inr ⟨b, rfl, h b e⟩
theorem ownK {W W1 : World} {g base n size : Nat} {e : TypeId} {v : Value} {xs : List Value} {cs : Array Value} (h : W.ownsRow base e size v n xs) (hR : W.heap[g]? = some (.cells cs TR (0, 0))) (he : e ≠ TR) (hk : KeepBut W W1 g none) : W1.ownsRow base e size v n xs :=
 own_move h fun k hv => hk.2 k (own_lt h k hv) (fun x => own_ne h hR he (by rw [hv, x])) (by simp)
theorem PG.grown {W W1 : World} {A : Option Addr} {l : List Pc} (h : PG W A l) {base n size : Nat} {e : TypeId} {v : Value} {xs : List Value} (ho : W.ownsRow base e size v n xs) (he : e ≠ 92) (hg : W.grownBy W1 v.ownBlock) : PG W1 A l :=
 h.move fun b cs hb => hg.block b (Array.getElem?_eq_some_iff.1 hb).1 (own_ne ho hb he)
section
variable {ops : Array Oper} {rest : List Oper} {o : Oper} {a : Act} {Q : Exit → Act → World → Prop}
theorem app_o {w0 W : World} (base : Nat) (hgd : o.guard = none) (s x : Operand) (ho : o.op = .call { callee := .builtin .append, args := #[s, x], argTypes := #[26, 26] }) (v : Value) (L : List ByteArray) (t : ByteArray) (hs : a.eval s = v) (hx : a.eval x = .slice (some ⟨W.heap.size, 0, none⟩) 1 1) (HO : Own W base v L) (HB : Below base w0 W) (hbase : base ≤ W.heap.size) (hl : L.length ≤ 1000000)
 (h : ∀ v1 w1, Own w1 base v1 (L ++ [t]) → Below base w0 w1 → W.grownBy w1 v.ownBlock → (v1.ownBlock = v.ownBlock ∨ ∃ b, v1.ownBlock = some b ∧ W.heap.size ≤ b) → wpList Tryz.prog ops Q rest (a.put o.dst v1) w1) :
 wpList Tryz.prog ops Q (o :: rest) a (W.alloc (.cells #[.string t] 9)) := by
 refine print_append_cells (w0 := w0) base hgd s x 26 9 (.string ⟨#[]⟩) 1 16 ho Tryz.underlying26 (by kernel_rfl) rfl (by decide) (by decide) v L.length (L.map Value.string) [.string t] hs hx rfl (by simp [Value.oneCell']) HO HB hbase (by omega) ?_
 intro v1 w1 ho hb hg hat
 exact h v1 w1 (by unfold Own; rw [List.length_append, List.map_append]; exact ho) hb hg hat
end
def lenV : Value → Nat
 | .slice _ n _ => n
 | _ => 0
theorem own_len {W : World} {base : Nat} {v : Value} {l : List ByteArray} (h : Own W base v l) : lenV v = l.length := by
 obtain ⟨A, c, rfl⟩ := own_slice h
 rfl
theorem row_len (f : ByteArray → Bool) : ∀ l : List Pc, (rowP f l).1.length + (rowP f l).2.length = l.length
 | [] => rfl
 | x :: l => by
  unfold rowP
  split
  · simp only [List.length_cons]; have := row_len f l; omega
  · simp
theorem row_pos {f : ByteArray → Bool} {x : Pc} {l : List Pc} (h : (subB x.2 && f x.2) = true) : rowP f (x :: l) = (x.2 :: (rowP f l).1, (rowP f l).2) := by
 conv => lhs; unfold rowP
 exact if_pos h
theorem row_neg {f : ByteArray → Bool} {x : Pc} {l : List Pc} (h : ¬ (subB x.2 && f x.2) = true) : rowP f (x :: l) = ([], x :: l) := by
 conv => lhs; unfold rowP
 exact if_neg h
theorem row_g (F : FuncId) (f : ByteArray → Bool) (hF : TellsD F f) (g : Nat) (A : Option Addr) (c : Nat) (e : Int) (s : RS) (l : List Pc) (w0 w : World) (hB : Below w0.heap.size w0 w) (hg : w0.heap.size ≤ g) (hc : l.length ≤ c) (hR : w.heap[g]? = some (RB s A l.length c e)) (hP : PG w A l) (hl : l.length ≤ 1000000) :
 Calls Tryz.prog 187 #[.pointer (some ⟨g, 0, none⟩), .func (.func F) #[] #[]] w fun e' w' => ∃ v, e' = .returned v ∧ Own w' w0.heap.size v (rowP f l).1 ∧ FreshV w v ∧ LeftG w0 w w' g e s (rowP f l).2 := by
 have hL : LeftG w0 w w g e s l := ⟨⟨A, c, hc, hR, hP⟩, hB, KeepBut.refl w g none⟩
 have HL0 := Aside0.mk hL
 have HW := Aside0.mk hB.size
 obtain ⟨eF, hF⟩ := hF
 unfold Go.Proofs.Enters at eF
 obtain ⟨L, hLL⟩ : ∃ L, L = rowP f l := ⟨_, rfl⟩
 rw [← hLL]
 have HLL := Aside0.mk hLL
 clear hB hc hR hP hL hLL
 go_enter Tryz.func187, Tryz.ntmps187
 go_wp2
 go_loopw [5] (fun vo wr => ∃ (acc : List ByteArray) (m : List Pc), Aside0 (Own wr w0.heap.size vo acc) ∧ Aside0 (FreshV w vo) ∧ Aside0 (LeftG w0 w wr g e s m) ∧ Aside0 (acc ++ (rowP f m).1 = L.1 ∧ (rowP f m).2 = L.2) ∧ acc.length + m.length = l.length) (fun vo _ => l.length - lenV vo)
 case atStart => exact ⟨[], l, ⟨own_nil _ _ _ _⟩, ⟨fresh_nil w⟩, HL0, ⟨by rw [HLL.out]; exact ⟨rfl, rfl⟩⟩, by simp⟩
 case round =>
  clear HL0 HLL
  obtain ⟨acc, m, HO, HV, HL, HE, hn⟩ := hrel
  obtain ⟨V1, d1, e1⟩ := own_slice HO.out
  subst e1
  obtain ⟨⟨A1, c1, hc1, hR1, hP1⟩, hB1, hK1⟩ := HL.out
  have HR := Aside0.mk hR1
  have HP := Aside0.mk hP1
  have HB := Aside0.mk hB1
  have HK := Aside0.mk hK1
  clear hR1 hP1 hB1 hK1
  cases m with
  | nil =>
   have he := HE.out
   have hd : acc = L.1 ∧ [] = L.2 := by simpa [rowP] using he
   have HD := Aside0.mk hd
   clear he hd
   go_wp2_with (first
    | (go_at_call 123; refine (here_g g _ c1 e s [] _ (by exact HR.out) (by exact HP.out)).mono ?_; rintro e w' ⟨rfl, ⟨nd, rfl⟩⟩; rw [show hereP [] = ⟨#[]⟩ from rfl]))
   go_ret
   refine ⟨_, rfl, ?_, HV.out, ?_⟩
   · rw [← HD.out.1]; exact HO.out
   · rw [← HD.out.2]; exact ⟨⟨A1, c1, hc1, HR.out, PG.nil _ _⟩, pw_below_drewN HB.out _, keep_drewN HK.out _⟩
  | cons x m =>
   have done : ¬ (subB x.2 && f x.2) = true → acc = L.1 ∧ x :: m = L.2 := fun h => by
    have he := HE.out
    rw [row_neg h] at he
    simpa using he
   cases hs : subB x.2 with
   | false =>
    have he := hereP_none (l := m) hs
    have HD := Aside0.mk (done (by rw [hs]; simp))
    clear hs done hF eF
    go_wp2_with (first
     | (go_at_call 123; refine (here_g g _ c1 e s (x :: m) _ (by exact HR.out) (by exact HP.out)).mono ?_; rintro e w' ⟨rfl, ⟨nd, rfl⟩⟩; rw [he]))
    go_ret
    refine ⟨_, rfl, ?_, HV.out, ?_⟩
    · rw [← HD.out.1]; exact HO.out
    · rw [← HD.out.2]; exact ⟨⟨A1, c1, hc1, HR.out, HP.out.keep HR.out (keep_drewN (KeepBut.refl wr g none) _)⟩, pw_below_drewN HB.out _, keep_drewN HK.out _⟩
   | true =>
    have he := hereP_some (l := m) hs
    have q0 := sub_full hs
    have h8 := (sub_size hs).1
    have HF := fun W => hF x.2 W h8
    cases hf : f x.2 with
    | false =>
     rw [hf] at HF
     have HD := Aside0.mk (done (by rw [hf]; simp))
     clear hs done hF h8 hf
     go_wp2_with (first
      | (go_at_call 123; refine (here_g g _ c1 e s (x :: m) _ (by exact HR.out) (by exact HP.out)).mono ?_; rintro e w' ⟨rfl, ⟨nd, rfl⟩⟩; rw [he])
      | (with_reducible refine (HF _).mono ?_; rintro e w' ⟨rfl, ⟨nd, rfl⟩⟩))
     go_ret
     refine ⟨_, rfl, ?_, HV.out, ?_⟩
     · rw [← HD.out.1]; exact HO.out
     · rw [← HD.out.2]; exact ⟨⟨A1, c1, hc1, HR.out, HP.out.keep HR.out (keep_drewN (KeepBut.refl wr g none) _)⟩, pw_below_drewN HB.out _, keep_drewN HK.out _⟩
    | true =>
     rw [hf] at HF
     have hpos := row_pos (l := m) (show (subB x.2 && f x.2) = true by rw [hs, hf]; rfl)
     have he2 : acc ++ [x.2] ++ (rowP f m).1 = L.1 ∧ (rowP f m).2 = L.2 := by
      have he := HE.out
      rw [hpos] at he
      simpa using he
     have HE2 := Aside0.mk he2
     have hle : acc.length ≤ 1000000 := by simp only [List.length_cons] at hn; omega
     have HLE := Aside0.mk hle
     clear hs done hF h8 hf hpos he2 hle
     go_wp2_with (first
      | (go_at_call 123; refine (here_g g _ c1 e s (x :: m) _ (by exact HR.out) (by exact HP.out)).mono ?_; rintro e w' ⟨rfl, ⟨nd, rfl⟩⟩; rw [he])
      | (with_reducible refine (HF _).mono ?_; rintro e w' ⟨rfl, ⟨nd, rfl⟩⟩)
      | (go_at_call 130; refine (take_g g _ c1 e s x m w0 _ (by exact pw_below_drewN HB.out _) hg hc1 (by exact HR.out) (by exact HP.out)).mono ?_; rintro e w2 ⟨rfl, ⟨A2, c2, hc2, hR2, hP2⟩, hB2, hK2⟩; rw [he]; have HR2 := Aside0.mk hR2; have HP2 := Aside0.mk hP2; have HB2 := Aside0.mk hB2; have HK2 := Aside0.mk ((keep_drewN (KeepBut.refl wr g none) _).trans hK2 (.inl rfl)); have HO2 := Aside0.mk (show Own w2 w0.heap.size (.slice V1 acc.length d1) acc from ownK HO.out HR.out (by decide) HK2.out); clear hR2 hP2 hB2 hK2)
      | ((with_reducible refine gate_builtin (b := .append) (xs := #[.tmp 15, .tmp 18]) rfl ?_); at_builtin; refine app_o (w0 := w0) w0.heap.size rfl (.tmp 15) (.tmp 18) rfl (.slice V1 acc.length d1) acc x.2 rfl rfl HO2.out HB2.out HB2.out.size HLE.out ?_; intro v3 w3 hO3 hB3 hG3 hat; have HO3 := Aside0.mk hO3; have HB3 := Aside0.mk hB3; have HG3 := Aside0.mk hG3; have HAT := Aside0.mk hat; clear hO3 hB3 hG3 hat))
     go_roundw
     case rel =>
      have hw2 : w.heap.size ≤ w2.heap.size := Nat.le_trans HK.out.1 HK2.out.1
      have hk2 : KeepBut w w2 g none := HK.out.trans HK2.out (.inl rfl)
      refine ⟨acc ++ [x.2], m, HO3, ⟨HV.out.app hw2 HAT.out⟩, ⟨⟨A2, c2, hc2, ?_, ?_⟩, HB3.out, ?_⟩, HE2, by simp only [List.length_append, List.length_cons, List.length_nil] at hn ⊢; omega⟩
      · exact (HG3.out.block g (Array.getElem?_eq_some_iff.1 HR2.out).1 (own_ne HO2.out HR2.out (by decide))).trans HR2.out
      · exact HP2.out.grown HO2.out (by decide) HG3.out
      · exact hk2.trans (KeepBut.of_grown HG3.out g) HV.out.row
     case measure =>
      have h1 := own_len HO.out
      have h2 := own_len HO3.out
      rw [List.length_append] at h2
      simp only [List.length_cons, List.length_nil] at hn h2
      show l.length - lenV v3 < l.length - acc.length
      omega
theorem BadG.after {w0 w w1 w' : World} {g : Nat} {x : Int × Int} {e' : Ending} (h : BadG w0 w1 w' g x e') (hk : KeepBut w w1 g none) : BadG w0 w w' g x e' := by
 obtain ⟨p, he, hf, hp, hb, hk2⟩ := h
 exact ⟨p, he, hf, Nat.le_trans hk.1 hp, hb, hk.trans hk2 (.inl rfl)⟩
theorem some_yes (F : FuncId) (f : ByteArray → Bool) (hF : TellsD F f) (g : Nat) (A : Option Addr) (c : Nat) (e : Int) (s : RS) (l : List Pc) (w0 w : World) (hB : Below w0.heap.size w0 w) (hg : w0.heap.size ≤ g) (hc : l.length ≤ c) (hR : w.heap[g]? = some (RB s A l.length c e)) (hP : PG w A l) (hl : l.length ≤ 1000000) (hy : (rowP f l).1 ≠ []) :
 Calls Tryz.prog 131 #[.pointer (some ⟨g, 0, none⟩), .func (.func F) #[] #[]] w fun e' w' => ∃ v, e' = .returned v ∧ Own w' w0.heap.size v (rowP f l).1 ∧ FreshV w v ∧ LeftG w0 w w' g e s (rowP f l).2 := by
 have HC := Aside0.mk (row_g F f hF g A c e s l w0 w hB hg hc hR hP hl)
 have hn : (((rowP f l).1.length : Int) == 0) = false := beq_eq_false_iff_ne.2 fun h => hy (List.eq_nil_of_length_eq_zero (by omega))
 obtain ⟨L, hLL⟩ : ∃ L, L = rowP f l := ⟨_, rfl⟩
 rw [← hLL] at hn HC ⊢
 clear hB hg hc hR hP hl hF hy hLL
 go_enter Tryz.func131, Tryz.ntmps131
 go_wp2_with (first
  | (go_at_call 187; refine (by exact HC.out : Calls _ _ _ _ _).mono ?_; rintro e w1 ⟨v, rfl, hO, hV, hL⟩; obtain ⟨V, c1, e1⟩ := own_slice hO; subst e1; have HO := Aside0.mk hO; have HV := Aside0.mk hV; have HL := Aside0.mk hL; clear hO hV hL))
 go_ret
 exact ⟨_, rfl, HO.out, HV.out, HL.out⟩
theorem some_no (F : FuncId) (f : ByteArray → Bool) (hF : TellsD F f) (g : Nat) (A : Option Addr) (c : Nat) (e : Int) (s : RS) (l : List Pc) (w0 w : World) (hB : Below w0.heap.size w0 w) (hg : w0.heap.size ≤ g) (hc : l.length ≤ c) (hR : w.heap[g]? = some (RB s A l.length c e)) (hP : PG w A l) (hl : l.length ≤ 1000000) (hy : (rowP f l).1 = []) :
 Calls Tryz.prog 131 #[.pointer (some ⟨g, 0, none⟩), .func (.func F) #[] #[]] w fun e' w' => BadG w0 w w' g (stopAt e (rowP f l).2, 10) e' := by
 have HC := Aside0.mk (row_g F f hF g A c e s l w0 w hB hg hc hR hP hl)
 have hn : (((rowP f l).1.length : Int) == 0) = true := by rw [hy]; rfl
 obtain ⟨L, hLL⟩ : ∃ L, L = rowP f l := ⟨_, rfl⟩
 rw [← hLL] at hn HC ⊢
 clear hB hg hc hR hP hl hF hy hLL
 go_enter Tryz.func131, Tryz.ntmps131
 go_wp2_with (first
  | (go_at_call 187; refine (by exact HC.out : Calls _ _ _ _ _).mono ?_; rintro e w1 ⟨v, rfl, hO, hV, ⟨A1, c2, hc2, hR1, hP1⟩, hB1, hK1⟩; obtain ⟨V, c1, e1⟩ := own_slice hO; subst e1; have HR := Aside0.mk hR1; have HP := Aside0.mk hP1; have HB := Aside0.mk hB1; have HK := Aside0.mk hK1; clear hO hV hR1 hP1 hB1 hK1)
  | (go_at_call 133; refine (stop_g g A1 c2 _ s L.2 w0 w1 HB.out HR.out HP.out).mono ?_; rintro e' w2 hbad; have HBad := Aside0.mk (hbad.after HK.out); clear hbad; obtain ⟨p, he, -⟩ := HBad.out; subst he))
 exact ⟨rfl, HBad.out⟩
def caseStep (st : Bool × List ByteArray) (x : Int × ByteArray) : Option (Bool × List ByteArray) :=
 (ascii_Lower.f x.2).bind fun low =>
  if (decide (0 < x.1) && !(st.1 || ((x.2.size : Int) == 1))) = true then
   (if (low.size : Int) = 2 then (ascii_Upper.f low).bind fun u => some (st.1 || ((x.2.size : Int) == 1), st.2 ++ [u])
    else if (low.size : Int) = 4 then (ascii_Title.f low).bind fun u => some (st.1 || ((x.2.size : Int) == 1), st.2 ++ [u])
    else some (st.1 || ((x.2.size : Int) == 1), st.2 ++ [low]))
  else some (st.1 || ((x.2.size : Int) == 1), st.2 ++ [low])
def caseL : List (Int × ByteArray) → Bool × List ByteArray → Option (Bool × List ByteArray)
 | [], st => some st
 | x :: l, st => (caseStep st x).bind (caseL l)
theorem caseL_snoc : ∀ (l : List (Int × ByteArray)) (x : Int × ByteArray) (st st' : Bool × List ByteArray), caseL l st = some st' → caseL (l ++ [x]) st = caseStep st' x
 | [], x, st, st', h => by cases h; simp only [List.nil_append, caseL]; cases caseStep st x <;> rfl
 | y :: l, x, st, st', h => by
  simp only [caseL, List.cons_append] at h ⊢
  obtain ⟨s2, h2, h⟩ := Option.bind_eq_some_iff.1 h
  rw [h2, Option.bind_some]
  exact caseL_snoc l x s2 st' h
def caseOk (x : Int × ByteArray) : Bool := match ascii_Lower.f x.2 with | some q => (ascii_Upper.f q).isSome && (ascii_Title.f q).isSome | none => false
theorem caseOk_mem {l : List (Int × ByteArray)} (h : l.all caseOk = true) {x : Int × ByteArray} (hx : x ∈ l) : ∃ q u y, ascii_Lower.f x.2 = some q ∧ ascii_Upper.f q = some u ∧ ascii_Title.f q = some y := by
 have := List.all_eq_true.1 h x hx
 unfold caseOk at this
 split at this
 · rename_i q hq
   simp only [Bool.and_eq_true, Option.isSome_iff_exists] at this
   obtain ⟨⟨u, hu⟩, y, hy⟩ := this
   exact ⟨q, u, y, hq, hu, hy⟩
 · cases this
theorem caseStep_len {st st' : Bool × List ByteArray} {x : Int × ByteArray} (h : caseStep st x = some st') : st'.2.length = st.2.length + 1 := by
 unfold caseStep at h
 obtain ⟨low, _, h⟩ := Option.bind_eq_some_iff.1 h
 split at h
 · split at h
   · obtain ⟨_, _, h⟩ := Option.bind_eq_some_iff.1 h; cases h; simp
   · split at h
     · obtain ⟨_, _, h⟩ := Option.bind_eq_some_iff.1 h; cases h; simp
     · cases h; simp
 · cases h; simp
theorem caseL_len : ∀ (l : List (Int × ByteArray)) (st : Bool × List ByteArray) (a : Bool) (b : List ByteArray), caseL l st = some (a, b) → b.length = st.2.length + l.length
 | [], st, a, b, h => by cases h; simp
 | x :: l, st, a, b, h => by
  unfold caseL at h
  obtain ⟨s2, h2, h⟩ := Option.bind_eq_some_iff.1 h
  have := caseL_len l s2 a b h
  have := caseStep_len h2
  simp
  omega
def casesE : Array MapEntry := #[{ key := .int .i64 2, val := .func (.func 76) #[] #[], born := 0 }, { key := .int .i64 4, val := .func (.func 77) #[] #[], born := 1 }]
def casesV (k : Int) : Value := if k = 2 then .func (.func 76) #[] #[] else if k = 4 then .func (.func 77) #[] #[] else .nilFunc
structure CI (M : Nat) (W0 : World) (s : ByteArray) (v : Value) (sg : Bool) (out : List ByteArray) (W : World) : Prop where
 m : W.heap[M]? = some (.map casesE 2)
 a : W.heap[M + 1]? = some (.cells #[.map (some M)] 109 (0, 0))
 b : W.heap[M + 1 + 1]? = some (.cells #[v] 26 (0, 0))
 c : W.heap[M + 1 + 1 + 1]? = some (.cells #[.bool sg] 4 (0, 0))
 d : W.heap[M + 1 + 1 + 1 + 1]? = some (.cells #[.string s] 9 (0, 0))
 o : Own W (M + 5) v out
 B : Below M W0 W
theorem CI.ne {M : Nat} {W0 W : World} {s : ByteArray} {v : Value} {sg : Bool} {out : List ByteArray} (h : CI M W0 s v sg out W) {j : Nat} (hj : j < M + 5) : some j ≠ v.ownBlock := fun e => by have := own_base h.o j e.symm; omega
theorem CI.set3 {M : Nat} {W0 W : World} {s : ByteArray} {v : Value} {sg : Bool} {out : List ByteArray} (h : CI M W0 s v sg out W) (sg' : Bool) : CI M W0 s v sg' out (W.setCell ⟨M + 1 + 1 + 1, 0, none⟩ (.bool sg')) :=
 ⟨(Below.heap_setCell W _ _ M (by show M ≠ M + 1 + 1 + 1; omega)).trans h.m, blk_far h.a (by simp) _, blk_far h.b (by simp) _, blk_put h.c 0 _ rfl, blk_far h.d (by simp) _, own_move h.o fun k hv => Below.heap_setCell _ _ _ _ (fun e => h.ne (j := k) (by rw [e]; simp) hv.symm), h.B.setCell (by simp; omega) _⟩
theorem CI.below {M : Nat} {W0 W W1 : World} {s : ByteArray} {v : Value} {sg : Bool} {out : List ByteArray} (h : CI M W0 s v sg out W) (hb : Below W.heap.size W W1) : CI M W0 s v sg out W1 :=
 ⟨(hb.block _ (lt_blk h.m)).trans h.m, (hb.block _ (lt_blk h.a)).trans h.a, (hb.block _ (lt_blk h.b)).trans h.b, (hb.block _ (lt_blk h.c)).trans h.c, (hb.block _ (lt_blk h.d)).trans h.d, pw_own_below h.o hb, h.B.trans (hb.mono (Nat.le_of_lt (lt_blk h.m)))⟩
theorem CI.app {M : Nat} {W0 W W1 : World} {s : ByteArray} {v v1 : Value} {sg : Bool} {out out1 : List ByteArray} (h : CI M W0 s v sg out W) (ho : Own W1 (M + 5) v1 out1) (hg : W.grownBy W1 v.ownBlock) : CI M W0 s v1 sg out1 (W1.setCell ⟨M + 1 + 1, 0, none⟩ v1) := by
 have b1 := blk_grown h.b hg (h.ne (by omega))
 exact ⟨(Below.heap_setCell W1 _ _ M (by show M ≠ M + 1 + 1; omega)).trans ((hg.block _ (lt_blk h.m) (h.ne (by omega))).trans h.m), blk_far (blk_grown h.a hg (h.ne (by omega))) (by show M + 1 ≠ M + 1 + 1; omega) _, blk_put b1 0 _ rfl, blk_far (blk_grown h.c hg (h.ne (by omega))) (by show _ ≠ M + 1 + 1; omega) _, blk_far (blk_grown h.d hg (h.ne (by omega))) (by show _ ≠ M + 1 + 1; omega) _, own_move ho fun k hv => Below.heap_setCell _ _ _ _ (fun e => by have := own_base ho k hv; have e : k = M + 1 + 1 := e; omega), (h.B.grown hg (Nat.le_of_lt (lt_blk h.m)) (fun r e => by have := own_base h.o r e; omega)).setCell (by show M ≤ M + 1 + 1; omega) _⟩
theorem CI.ko {M : Nat} {W0 W W1 W2 : World} {s : ByteArray} {v : Value} {sg : Bool} {out : List ByteArray} (h : CI M W0 s v sg out W1) (k : KeepsOthers W W1) (hg : W1.grownBy W2 v.ownBlock) : KeepsOthers W W2 :=
 k.trans (KeepsOthers.of_grownBy hg (fun k o e ho2 => by obtain ⟨cur, hc⟩ := own_blk h.o k e; rw [hc] at ho2; cases ho2; rfl))
theorem cases_now (k : Int) : ∃ r, Instr.findNow (.int .i64) (.int .i64 k) casesE.toList 0 = some r ∧ ansF r = casesV k := by
 by_cases h1 : k = 2
 · subst h1; exact ⟨_, rfl, rfl⟩
 by_cases h2 : k = 4
 · subst h2; exact ⟨_, rfl, rfl⟩
 have e1 : (k == 2) = false := by simpa using h1
 have e2 : (k == 4) = false := by simpa using h2
 refine ⟨none, by simp [casesE, Instr.findNow, Instr.sameNow, e1, e2], ?_⟩
 show Value.nilFunc = _
 unfold casesV
 rw [if_neg h1, if_neg h2]
theorem cases_look {W : World} {b : Nat} (h : W.heap[b]? = some (.map casesE 2)) (k : Int) : (Instr.lookup 109 (.map (some b)) (.int .i64 k) false).run Tryz.prog W = .ok (casesV k) W := by
 obtain ⟨r, h1, h2⟩ := cases_now k
 rw [← h2]
 exact run_lookG Tryz.underlying109 Tryz.underlying3 (by simp [MapKept.IsKey]) (by kernel_rfl) h r h1
theorem case_c (s : ByteArray) (hs : s.size ≤ 900000) (sg : Bool) (out : List ByteArray) (ht : (eachP s).all caseOk = true) (ho : caseL (eachP s) (false, []) = some (sg, out)) (hj : (Lib.join (out.map (·.data.toList)) [45]).length ≤ 140737488355328) (w : World) :
 Calls Tryz.prog 45 #[.string s] w fun e w' => e = .returned (.string (joinS out)) ∧ Below w.heap.size w w' := by
 have hm : ∀ W : World, (Instr.makeMap 109 none).run Tryz.prog W = .ok (.map (some W.heap.size)) (W.alloc (.map #[] 0)) := fun W => run_makeMap_plain W _
 have h0 : (w.alloc (.map #[] 0)).heap[w.heap.size]? = some (.map #[] 0) := World.alloc_heap_new w _
 have B0 : Below w.heap.size w (w.alloc (.map #[] 0)) := (Below.refl _ w).alloc (Nat.le_refl _) _
 obtain ⟨W1, u1, h1, B1, z1, -⟩ := step_updG (b := w.heap.size) Tryz.underlying109 Tryz.underlying3 h0 B0 (Nat.le_refl _) (.int .i64 2) (.func (.func 76) #[] #[]) (by simp [MapKept.IsKey]) rfl
 obtain ⟨W2, u2, h2, B2, z2, -⟩ := step_updG (b := w.heap.size) Tryz.underlying109 Tryz.underlying3 h1 B1 (Nat.le_refl _) (.int .i64 4) (.func (.func 77) #[] #[]) (by simp [MapKept.IsKey]) rfl
 have H2 := Aside0.mk h2
 have HB2 := Aside0.mk B2
 have s2 : W2.heap.size = w.heap.size + 1 := by rw [z2, z1]; simp
 clear h0 B0 h1 B1 h2 B2 z1 z2
 refine (callsIn_wide (n := 4)).1 ?_
 refine callsIn_of_wp_marks Tryz.func45 rfl trivial ?_ rfl
 simp only [Tryz.ntmps45, List.size_toArray, List.length_cons, List.length_nil, Nat.reduceAdd, Nat.reduceSub, Array.replicate_succ, Array.replicate_zero, List.push_toArray, List.append_toArray, List.nil_append, List.cons_append]
 gi_wp2_with (first
  | (refine ⟨trivial, ?_⟩; gi_at_call 63; refine (each_in _ s _).mono ?_; rintro e w2 ⟨rfl, rfl⟩))
 obtain ⟨M, hM⟩ : ∃ M, M = w.heap.size := ⟨_, rfl⟩
 obtain ⟨W0, hW0⟩ : ∃ W0, ((((W2.alloc (.cells #[.map (some w.heap.size)] 109)).alloc (.cells #[.slice none 0 0] 26)).alloc (.cells #[.bool false] 4)).alloc (.cells #[.string s] 9)) = W0 := ⟨_, rfl⟩
 have b0 : W0.heap[M]? = some (.map casesE 2) := by rw [← hW0, hM]; exact aN (aN (aN (aN H2.out)))
 have b1 : W0.heap[M + 1]? = some (.cells #[.map (some M)] 109 (0, 0)) := by rw [← hW0, hM]; exact aN (aN (aN (aZ (by omega))))
 have b2 : W0.heap[M + 1 + 1]? = some (.cells #[.slice none 0 0] 26 (0, 0)) := by rw [← hW0, hM]; exact aN (aN (aZ (by simp; omega)))
 have b3 : W0.heap[M + 1 + 1 + 1]? = some (.cells #[.bool false] 4 (0, 0)) := by rw [← hW0, hM]; exact aN (aZ (by simp; omega))
 have b4 : W0.heap[M + 1 + 1 + 1 + 1]? = some (.cells #[.string s] 9 (0, 0)) := by rw [← hW0, hM]; exact aZ (by simp; omega)
 have B0 : Below M w W0 := by rw [← hW0, hM]; exact below_alloc (below_alloc (below_alloc (below_alloc HB2.out _) _) _) _
 rw [hW0, ← hM]
 have HM := Aside0.mk hM
 have HB0 := Aside0.mk B0
 have HO := Aside0.mk ho
 have HT := Aside0.mk ht
 clear hW0 hM H2 HB2 B0 ho ht
 refine wpIn_rangeFunc_ownG rfl (by omega) (gf := 121) (lb := #[.pointer (some ⟨M + 1 + 1 + 1 + 1, 0, none⟩)]) rfl trivial (enters_of Tryz.func121 (by kernel_rfl) rfl)
  (each_stops _ (by omega) (M + 1 + 1 + 1 + 1) s (by omega) W0 ((blk_cell b4 0).trans rfl)) KB.trans (fun W lw o o' _ h h1 _ => KB.put _ W lw o o' h h1) (Below.refl _ _) (fun _ => rfl)
  (fun (pre : List (PieceOf s)) W => ∃ v sg out, caseL (pre.map Subtype.val) (false, []) = some (sg, out) ∧ W.heap[M]? = some (.map casesE 2) ∧ W.heap[M + 1]? = some (.cells #[.map (some M)] 109 (0, 0)) ∧ W.heap[M + 1 + 1]? = some (.cells #[v] 26 (0, 0)) ∧ W.heap[M + 1 + 1 + 1]? = some (.cells #[.bool sg] 4 (0, 0)) ∧ W.heap[M + 1 + 1 + 1 + 1]? = some (.cells #[.string s] 9 (0, 0)) ∧ Own W (M + 5) v out ∧ Below M W0 W)
  (fun _ _ _ => False)
  (fun pre A B row ⟨v, sg, out, i0, i1, i2, i3, i4, i5, i6, i7⟩ hg hr => ⟨v, sg, out, i0, (hg.block M (Array.getElem?_eq_some_iff.1 i1).1 (fun e => by have h1 := (hr M e.symm).1; have h2 := (Array.getElem?_eq_some_iff.1 b4).1; omega)).trans i1, blkG i2 rfl hg (fun r e => (hr r e).2), blkG i3 rfl hg (fun r e => (hr r e).2), blkG i4 rfl hg (fun r e => (hr r e).2), blkG i5 rfl hg (fun r e => (hr r e).2), ownG i6 hg (fun r e => (hr r e).2), i7.grown hg (by have := (Array.getElem?_eq_some_iff.1 i1).1; omega) (fun r e => by have := (hr r e).1; have h2 := (Array.getElem?_eq_some_iff.1 b4).1; omega)⟩)
  (fun _ _ _ _ _ hs _ _ => hs)
  ⟨_, false, [], rfl, b0, b1, b2, b3, b4, own_nil _ _ _ _, Below.refl _ _⟩
  (fun x' : PieceOf s => let x := x'.1; { tmps := #[.string s, undef, .string ⟨#[]⟩, .pointer (some ⟨M + 1, 0, none⟩), .pointer (some ⟨M + 1 + 1, 0, none⟩), .pointer (some ⟨M + 1 + 1 + 1, 0, none⟩), .int .i64 x.1, .string x.2, undef, .map (some M), .map (some M), .string s, .func (.func 121) #[] #[.pointer (some ⟨M + 1 + 1 + 1 + 1, 0, none⟩)], .int .i64 x.1, .string x.2, undef, undef, undef, undef, undef, undef, undef, undef, undef, undef, undef, undef, undef, undef, undef, undef, undef, undef, undef, undef, undef, undef, undef, undef, undef, undef, undef, undef, undef, undef, undef], defers := [] }) ?assign ?body ?done ?stop
 case assign =>
  rintro lp ⟨x, hxm⟩ W K hK
  simp only [encP] at hK ⊢
  gi_wp2
  simpa using hK
 case body =>
  rintro lp pre ⟨x, hxm⟩ W ⟨v, sg, out', i0, i1, i2, i3, i4, i5, i6, i7⟩ hlen
  obtain ⟨A, c, rfl⟩ := own_slice i6
  have hmap := Tryz.underlying109
  refine wpIn_block ?_
  obtain ⟨q, u, y, hq, hu, hy⟩ := caseOk_mem HT.out hxm
  have K_0 := Aside0.mk i1
  have K_1 := Aside0.mk i2
  have K_2 := Aside0.mk i3
  have K_3 := Aside0.mk i4
  have K_4 := Aside0.mk i5
  have O_V := Aside0.mk i6
  have B_W := Aside0.mk i7
  have H0 := Aside0.mk i0
  have HQ := Aside0.mk hq
  have HU := Aside0.mk hu
  have HY := Aside0.mk hy
  have c3 := (blk_cell i4 0).trans rfl
  have f3 := blk_frozen i4 0
  have hk0 : out'.length ≤ 1000000 := by
   have h1 := caseL_len _ _ _ _ i0
   have h2 := eachF_len s (s.size + 1) 0
   unfold eachP at hlen
   simp at h1
   omega
  have HLN := Aside0.mk hk0
  clear i0 i1 i2 i3 i4 i5 i6 i7 hlen hk0
  obtain ⟨sg2, hs2⟩ : ∃ sg2, sg2 = (sg || ((x.2.size : Int) == 1)) := ⟨_, rfl⟩
  have hbU : ∀ W : World, (binOp .neq 29 (.func (.func 76) #[] #[]) .nilFunc).run Tryz.prog W = .ok (.bool true) W := fun W => by kernel_rfl
  have hbT : ∀ W : World, (binOp .neq 29 (.func (.func 77) #[] #[]) .nilFunc).run Tryz.prog W = .ok (.bool true) W := fun W => by kernel_rfl
  have hbN : ∀ W : World, (binOp .neq 29 .nilFunc .nilFunc).run Tryz.prog W = .ok (.bool false) W := fun W => by kernel_rfl
  obtain ⟨z, hz⟩ : ∃ z, ((x.2.size : Int) == 1) = z := ⟨_, rfl⟩
  obtain ⟨d, hd⟩ : ∃ d, decide ((0 : Int) < x.1) = d := ⟨_, rfl⟩
  have eU := enters_of Tryz.func76 (by kernel_rfl) rfl
  have eT := enters_of Tryz.func77 (by kernel_rfl) rfl
  unfold Enters at eU eT
  obtain ⟨t, v8, hst, hv8, ht⟩ : ∃ t v8, caseStep (sg, out') x = some (sg2, out' ++ [t]) ∧ casesV (q.size : Int) = v8 ∧ (((d && !sg2) = false ∧ t = q) ∨ ((d = true ∧ sg2 = false) ∧ ((v8 = .func (.func 76) #[] #[] ∧ t = u) ∨ (v8 = .func (.func 77) #[] #[] ∧ t = y) ∨ (v8 = .nilFunc ∧ t = q)))) := by
   unfold caseStep casesV
   simp only [hq, hu, hy, Option.bind_some, hd, ← hs2]
   cases d <;> cases sg2
   case true.false =>
    by_cases h2 : (q.size : Int) = 2
    · exact ⟨u, _, by simp [h2], rfl, .inr ⟨⟨rfl, rfl⟩, .inl ⟨by simp [h2], rfl⟩⟩⟩
    · by_cases h4 : (q.size : Int) = 4
      · exact ⟨y, _, by simp [h4], rfl, .inr ⟨⟨rfl, rfl⟩, .inr (.inl ⟨by simp [h4], rfl⟩)⟩⟩
      · exact ⟨q, _, by simp [h2, h4], rfl, .inr ⟨⟨rfl, rfl⟩, .inr (.inr ⟨by simp [h2, h4], rfl⟩)⟩⟩
   all_goals exact ⟨q, _, by simp, rfl, .inl ⟨rfl, rfl⟩⟩
  rw [hz] at hs2
  clear hq hu hy
  have HST := Aside0.mk hst
  clear hst
  have hlook : ∀ W, W.heap[M]? = some (.map casesE 2) → (Instr.lookup 109 (.map (some M)) (.int .i64 (q.size : Int)) false).run Tryz.prog W = .ok v8 W := fun W h => hv8 ▸ cases_look h _
  have C0 := Aside0.mk (CI.mk K_0.out K_1.out K_2.out K_3.out K_4.out O_V.out B_W.out)
  clear K_0 K_1 K_2 K_3 K_4 O_V B_W
  cases sg <;> cases z <;> cases d
  all_goals
   subst hs2
   simp only [Bool.or_true, Bool.or_false, Bool.true_or, Bool.false_or] at HST ht
   rcases ht with ⟨h0, rfl⟩ | ⟨⟨h1, h2⟩, ⟨rfl, rfl⟩ | ⟨rfl, rfl⟩ | ⟨rfl, rfl⟩⟩
  all_goals (try (exfalso; first | exact absurd h0 (by decide) | exact absurd h1 (by decide) | exact absurd h2 (by decide)))
  all_goals
   gi_wp2_with (fail)
   refine ⟨trivial, CallsIn.inRound lp (callsIn_wide.2 (Calls.mono (ascii_Lower.calls x.2 _ _ HQ.out) ?_))⟩
   rintro e w1 ⟨rfl, hb1⟩
   have C1 := Aside0.mk (CI.below (CI.set3 C0.out _) hb1)
   have KO := Aside0.mk ((KeepsOthers.setCell W _ _).trans (ko_below hb1))
   have hl := hlook w1 C1.out.m
   have c1 := (blk_cell C1.out.a 0).trans rfl
   have c2 := (blk_cell C1.out.b 0).trans rfl
   have f2 := blk_frozen C1.out.b 0
   replace c3 := (blk_cell C1.out.c 0).trans rfl
   clear hb1 f3
   gi_wp2_with (first
    | (refine ⟨trivial, CallsIn.inRound lp (callsIn_wide.2 (Calls.mono (ascii_Upper.calls _ _ _ HU.out) ?_))⟩; rintro e w2 ⟨rfl, hb2⟩; replace C1 := Aside0.mk (C1.out.below hb2); replace KO := Aside0.mk (KO.out.trans (ko_below hb2)); replace c2 := (blk_cell C1.out.b 0).trans rfl; replace f2 := blk_frozen C1.out.b 0; clear hb2 c1 c3 hl)
    | (refine ⟨trivial, CallsIn.inRound lp (callsIn_wide.2 (Calls.mono (ascii_Title.calls _ _ _ HY.out) ?_))⟩; rintro e w2 ⟨rfl, hb2⟩; replace C1 := Aside0.mk (C1.out.below hb2); replace KO := Aside0.mk (KO.out.trans (ko_below hb2)); replace c2 := (blk_cell C1.out.b 0).trans rfl; replace f2 := blk_frozen C1.out.b 0; clear hb2 c1 c3 hl)
    | (gi_at_builtin; refine Hold.on ?_))
   refine Hold.of ?_
   refine app_in (w0 := _) (M + 5) rfl (.tmp 40) (.tmp 42) rfl (.slice A out'.length c) _ _ rfl rfl C1.out.o (Below.refl _ _) (by have := lt_blk C1.out.d; omega) HLN.out ?_
   intro V2 c2 w3 ho hb hg hat
   have C2 := Aside0.mk (C1.out.app ho hg)
   have K2 := Aside0.mk ((C1.out.ko KO.out hg).trans (KeepsOthers.setCell w3 ⟨M + 1 + 1, 0, none⟩ (.slice V2 (out'.length + 1) c2)))
   have f4 := blk_frozen (blk_grown C1.out.b hg (C1.out.ne (by omega))) 0
   have cb := (blk_cell (blk_grown C1.out.b hg (C1.out.ne (by omega))) 0).trans rfl
   clear ho hb hg hat f2 C1 KO
   gi_wp2
   exact ⟨K2.out.from _, fun v hv => by
    have h1 : W.cell? ⟨M + 1 + 1 + 1 + 1, 0, none⟩ = some (.string s) := (blk_cell C0.out.d 0).trans rfl
    rw [h1] at hv
    exact ((blk_cell C2.out.d 0).trans rfl).trans hv, _, _, _, by rw [List.map_append]; exact (caseL_snoc _ _ _ _ H0.out).trans HST.out, C2.out.m, C2.out.a, C2.out.b, C2.out.c, C2.out.d, C2.out.o, C2.out.B⟩
 case done =>
  rintro D ys W hD hys ⟨v, sg', out', i0, i1, i2, i3, i4, i5, i6, i7⟩ hK
  rw [hys, HO.out] at i0
  cases i0
  have c2 := (blk_cell i3 0).trans rfl
  have O6 := Aside0.mk i6
  have BW := Aside0.mk (HB0.out.trans (i7.mono (by omega)))
  have hD2 := Aside0.mk hK
  have hL := Aside0.mk hj
  have HLN : Aside0 (out.length ≤ 1000000) := ⟨by
   have h1 := caseL_len _ _ _ _ HO.out
   have h2 := eachF_len s (s.size + 1) 0
   unfold eachP at h1
   simp at h1
   omega⟩
  clear i1 i2 i3 i4 i5 i6 i7 hK hj
  gi_wp2_with (first
   | (refine ⟨trivial, callsIn_wide.2 (Calls.mono (join_c (M + 5) v out _ O6.out HLN.out hL.out) ?_)⟩; rintro e w5 ⟨rfl, hb5⟩))
  have D7 := (hb5.block _ (lt_blk hD2.out)).trans hD2.out
  have B7 : Below w.heap.size w w5 := by
   rw [← HM.out]
   exact BW.out.trans (hb5.mono (by have := BW.out.size; have := HM.out; omega))
  refine ⟨by simp, .inl ⟨D, _, rfl, run_takeDeferred D7, ?_⟩⟩
  obtain ⟨W8, hW8⟩ : ∃ W8, W8 = w5.putObj D (.deferred none) := ⟨_, rfl⟩
  have B8 : Below w.heap.size w W8 := by
   rw [hW8]
   exact B7.trans (belowK_b (w := w) (Nat.le_refl _) _ D _ _ (by have h1 := HB0.out.size; have h2 := HM.out; omega) D7 rfl rfl)
  rw [← hW8]
  show ∃ v, _ ∧ _
  refine ⟨.string (joinS out), ?_, rfl, B8⟩
  simp [results, Tryz.results45, asAddr, go_sem]
 case stop =>
  rintro D c pre W _ _ h _
  exact h.elim
theorem own_low {W : World} {base base' n size : Nat} {e : TypeId} {v : Value} {xs : List Value} (h : W.ownsRow base e size v n xs) (hb : base' ≤ base) : W.ownsRow base' e size v n xs := by
 obtain ⟨hk, h | ⟨g, cap, cur, e1, h1, h⟩⟩ := h
 · exact ⟨hk, .inl h⟩
 · exact ⟨hk, .inr ⟨g, cap, cur, e1, Nat.le_trans hb h1, h⟩⟩
theorem split_c (s : ByteArray) (hs : s.size ≤ 900000) (w : World) :
 Calls Tryz.prog 84 #[.string s] w fun e w' => ∃ v, e = .returned v ∧ Own w' w.heap.size v ((eachP s).map Prod.snd) ∧ Below w.heap.size w w' := by
 refine (callsIn_wide (n := 4)).1 ?_
 refine callsIn_of_wp_marks Tryz.func84 rfl trivial ?_ rfl
 simp only [Tryz.ntmps84, List.size_toArray, List.length_cons, List.length_nil, Nat.reduceAdd, Nat.reduceSub, Array.replicate_succ, Array.replicate_zero, List.push_toArray, List.append_toArray, List.nil_append, List.cons_append]
 gi_wp2_with (first
  | (refine ⟨trivial, ?_⟩; gi_at_call 63; refine (each_in _ s _).mono ?_; rintro e w2 ⟨rfl, rfl⟩))
 obtain ⟨M, hM⟩ : ∃ M, M = w.heap.size := ⟨_, rfl⟩
 obtain ⟨W0, hW0⟩ : ∃ W0, ((w.alloc (.cells #[.slice none 0 0] 26)).alloc (.cells #[.string s] 9)) = W0 := ⟨_, rfl⟩
 have b2 : W0.heap[M]? = some (.cells #[.slice none 0 0] 26 (0, 0)) := by rw [← hW0, hM]; exact aN (aZ (by omega))
 have b4 : W0.heap[M + 1]? = some (.cells #[.string s] 9 (0, 0)) := by rw [← hW0, hM]; exact aZ (by simp)
 have B0 : Below M w W0 := by rw [← hW0, hM]; exact below_alloc (below_alloc (Below.refl _ _) _) _
 have e1 : (w.alloc (.cells #[.slice none 0 0] 26)).heap.size = M + 1 := by rw [hM]; simp
 try rw [e1]
 rw [hW0, ← hM]
 have HM := Aside0.mk hM
 have HB0 := Aside0.mk B0
 clear hW0 hM B0 e1
 refine wpIn_rangeFunc_ownG rfl (by omega) (gf := 121) (lb := #[.pointer (some ⟨M + 1, 0, none⟩)]) rfl trivial (enters_of Tryz.func121 (by kernel_rfl) rfl)
  (each_stops _ (by omega) (M + 1) s (by omega) W0 ((blk_cell b4 0).trans rfl)) KB.trans (fun W lw o o' _ h h1 _ => KB.put _ W lw o o' h h1) (Below.refl _ _) (fun _ => rfl)
  (fun (pre : List (PieceOf s)) W => ∃ v out, out = (pre.map Subtype.val).map Prod.snd ∧ W.heap[M]? = some (.cells #[v] 26 (0, 0)) ∧ W.heap[M + 1]? = some (.cells #[.string s] 9 (0, 0)) ∧ Own W (M + 2) v out ∧ Below M W0 W)
  (fun _ _ _ => False)
  (fun pre A B row ⟨v, out, i0, i3, i5, i6, i7⟩ hg hr => ⟨v, out, i0, blkG i3 rfl hg (fun r e => (hr r e).2), blkG i5 rfl hg (fun r e => (hr r e).2), ownG i6 hg (fun r e => (hr r e).2), i7.grown hg (by have := (Array.getElem?_eq_some_iff.1 i3).1; omega) (fun r e => by have := (hr r e).1; have h2 := (Array.getElem?_eq_some_iff.1 b4).1; omega)⟩)
  (fun _ _ _ _ _ hs _ _ => hs)
  ⟨_, [], rfl, b2, b4, own_nil _ _ _ _, Below.refl _ _⟩
  (fun x' : PieceOf s => let x := x'.1; { tmps := #[.string s, undef, .slice none 0 0, .pointer (some ⟨M, 0, none⟩), undef, .string x.2, .string s, .func (.func 121) #[] #[.pointer (some ⟨M + 1, 0, none⟩)], .int .i64 x.1, .string x.2, undef, undef, undef, undef, undef], defers := [] }) ?assign ?body ?done ?stop
 case assign =>
  rintro lp ⟨x, hxm⟩ W K hK
  simp only [encP] at hK ⊢
  gi_wp2
  simpa using hK
 case body =>
  rintro lp pre ⟨x, hxm⟩ W ⟨v, out, i0, i3, i5, i6, i7⟩ hlen
  obtain ⟨A, c, rfl⟩ := own_slice i6
  have c3 := (blk_cell i3 0).trans rfl
  have f3 := blk_frozen i3 0
  have hk0 : out.length ≤ 1000000 := by
   have h2 := eachF_len s (s.size + 1) 0
   unfold eachP at hlen
   rw [i0]
   simp
   omega
  have HLN := Aside0.mk hk0
  have hne : ∀ j, j < M + 2 → some j ≠ (Value.slice A out.length c).ownBlock := fun j hj e => by have := own_base i6 j e.symm; omega
  have HNE := Aside0.mk hne
  have K3 := Aside0.mk i3
  have K5 := Aside0.mk i5
  have K6 := Aside0.mk i6
  have K7 := Aside0.mk i7
  have K0 := Aside0.mk i0
  clear i0 i3 i5 i6 i7 hlen hk0 hne
  gi_wp2_with (first | (gi_at_builtin; refine Hold.on ?_))
  refine Hold.of ?_
  refine app_in (w0 := _) (M + 2) rfl (.tmp 10) (.tmp 12) rfl (.slice A out.length c) _ _ rfl rfl K6.out (Below.refl _ _) (by have := lt_blk K5.out; omega) HLN.out ?_
  intro V2 c2 w3 ho hb hg hat
  have f4 := blk_frozen (blk_grown K3.out hg (HNE.out _ (by omega))) 0
  have cb := (blk_cell (blk_grown K3.out hg (HNE.out _ (by omega))) 0).trans rfl
  have H3 := Aside0.mk (blk_grown K3.out hg (HNE.out _ (by omega)))
  have H5 := Aside0.mk (blk_grown K5.out hg (HNE.out _ (by omega)))
  have H6 := Aside0.mk ho
  have H7 := Aside0.mk (K7.out.grown hg (Nat.le_of_lt (lt_blk K3.out)) (fun r e => by have := own_base K6.out r e; omega))
  have HK : Aside0 (KeepsOthers W w3) := ⟨KeepsOthers.of_grownBy hg (fun k o e ho2 => by obtain ⟨cur, hc⟩ := own_blk K6.out k e; rw [hc] at ho2; cases ho2; rfl)⟩
  clear ho hb hg hat c3 f3
  gi_wp2
  refine ⟨(HK.out.trans (KeepsOthers.setCell w3 ⟨M, 0, none⟩ _)).from _, fun v hv => ?_, _, out ++ [x.snd], ?_, blk_put H3.out 0 _ rfl, blk_far H5.out (by show M + 1 ≠ M; omega) _, ?_, H7.out.setCell (by show M ≤ M; omega) _⟩
  · rw [show W.cell? ⟨M + 1, 0, none⟩ = some (.string s) from (blk_cell K5.out 0).trans rfl] at hv
    exact ((blk_cell (blk_far H5.out (by show M + 1 ≠ M; omega) _) 0).trans rfl).trans hv
  · rw [K0.out]; simp
  · exact own_move H6.out fun k hv => Below.heap_setCell _ _ _ _ (fun e => by have := own_base H6.out k hv; have e : k = M := e; omega)
 case done =>
  rintro D ys W hD hys ⟨v, out, i0, i3, i5, i6, i7⟩ hK
  rw [hys] at i0
  subst i0
  have c2 := (blk_cell i3 0).trans rfl
  have O6 := Aside0.mk i6
  have BW : Aside0 (Below w.heap.size w W) := ⟨by rw [← HM.out]; exact HB0.out.trans (i7.mono (by omega))⟩
  have hD2 := Aside0.mk hK
  clear i3 i5 i6 i7 hK
  gi_wp2
  refine ⟨by simp, .inl ⟨D, _, rfl, run_takeDeferred hD2.out, ?_⟩⟩
  obtain ⟨W8, hW8⟩ : ∃ W8, W8 = W.putObj D (.deferred none) := ⟨_, rfl⟩
  have hk : Below w.heap.size w W8 := by
   rw [hW8]
   exact BW.out.trans (belowK_b (w := w) (Nat.le_refl _) _ D _ _ (by have h1 := HB0.out.size; have h2 := HM.out; omega) hD2.out rfl rfl)
  have ho : Own W8 (M + 2) v ((eachP s).map Prod.snd) := by
   rw [hW8]
   exact ownsRow_putObj O6.out _ hD2.out rfl
  rw [← hW8]
  show ∃ v, _ ∧ _
  refine ⟨v, ?_, v, rfl, ?_, hk⟩
  · simp [results, Tryz.results84, asAddr, go_sem]
  · exact own_low ho (by have := HM.out; omega)
 case stop =>
  rintro D c pre W _ _ h _
  exact h.elim
end Go.Proofs.YtpmcfckechjppaaGreatDoor.Ps
namespace Go.Proofs.YtpmcfckechjppaaGreatDoor.Ps
open Go.RowKit Go.Shelf Go.Proofs.YtpmcfckechjppaaGreatDoorW.PrintWords Go.Proofs.YtpmcfckechjppaaGreatDoorW.PrintLast Go.Proofs.YtpmcfckechjppaaGreatDoorW.PrintMore Go.Proofs.YtpmcfckechjppaaGreatDoor.P Go.Proofs.YtpmcfckechjppaaGreatDoor.LikW
open Go.Proofs.YtpmcfckechjppaaGreatDoor.Each Go.Proofs.YtpmcfckechjppaaGreatDoor.Base Go.Proofs.YtpmcfckechjppaaGreatDoor.Pure
set_option linter.unusedVariables false
set_option linter.unusedSimpArgs false
set_option maxRecDepth 100000
set_option maxHeartbeats 8000000
theorem getx (s : ByteArray) (a k : Nat) (h : a + k < s.size) : (s.extract a s.size).data.toList[k]? = some (s.data[a + k]'h) := by
 rw [ByteArray.data_extract, Array.toList_extract, List.extract_eq_take_drop, List.getElem?_take]
 rw [if_pos (by omega), List.getElem?_drop, Array.getElem?_toList, Array.getElem?_eq_getElem]
theorem bt_at45 (s : ByteArray) (j : Nat) (h : j < s.size) : bt s (j : Int) = 45 ↔ s.data[j]'h = 45 := by
 have e : bt s (j : Int) = ((s[j]'h).toNat : Int) := by unfold bt; rw [dif_pos (by simpa using h)]; rfl
 rw [e]
 constructor
 · intro h1
   have h2 : (s[j]'h).toNat = 45 := by omega
   exact UInt8.toNat_inj.1 h2
 · intro h1
   show (((s.data[j]'h).toNat : Nat) : Int) = 45
   rw [h1]; rfl
theorem idx_end (s : ByteArray) (a : Nat) (hn : ∀ j : Nat, a ≤ j → j < s.size → bt s (j : Int) ≠ 45) : Lib.indexByte (s.extract a s.size).data.toList 45 < 0 := by
 by_cases h : Lib.indexByte (s.extract a s.size).data.toList 45 < 0
 · exact h
 · exfalso
   obtain ⟨m, hm⟩ := Int.eq_ofNat_of_zero_le (show 0 ≤ Lib.indexByte (s.extract a s.size).data.toList 45 by omega)
   have h1 := (Lib.indexByte_some hm).1
   by_cases ha : a ≤ s.size
   · have h2 := index_lt s a ha m hm
     rw [getx s a m h2] at h1
     exact hn (a + m) (by omega) h2 ((bt_at45 s (a + m) h2).2 (Option.some.inj h1))
   · have h3 := (List.getElem?_eq_some_iff.1 h1).1
     rw [Array.length_toList, ByteArray.data_extract, Array.size_extract] at h3
     have : s.data.size = s.size := rfl
     omega
theorem idx_at (s : ByteArray) (a i : Nat) (hai : a ≤ i) (hi : i < s.size) (h45 : bt s (i : Int) = 45) (hn : ∀ j : Nat, a ≤ j → j < i → bt s (j : Int) ≠ 45) : Lib.indexByte (s.extract a s.size).data.toList 45 = ((i - a : Nat) : Int) := by
 have hx : (s.extract a s.size).data.toList[i - a]? = some 45 := by
  rw [getx s a (i - a) (by omega)]
  congr 1
  have := (bt_at45 s i hi).1 h45
  rw [← this]
  congr 1
  omega
 have hge := Lib.indexByte_ge (s.extract a s.size).data.toList 45
 by_cases h : Lib.indexByte (s.extract a s.size).data.toList 45 = -1
 · exact absurd hx (Lib.indexByte_none h _)
 · obtain ⟨m, hm⟩ := Int.eq_ofNat_of_zero_le (show 0 ≤ Lib.indexByte (s.extract a s.size).data.toList 45 by omega)
   obtain ⟨h1, h2⟩ := Lib.indexByte_some hm
   have hlt := index_lt s a (by omega) m hm
   rw [hm]
   by_cases hc : m < i - a
   · exfalso
     rw [getx s a m hlt] at h1
     exact hn (a + m) (by omega) (by omega) ((bt_at45 s (a + m) hlt).2 (Option.some.inj h1))
   · by_cases hc2 : i - a < m
     · exact absurd hx (h2 _ hc2)
     · congr 1; omega
theorem eachF_end (s : ByteArray) (f a : Nat) (hn : ∀ j : Nat, a ≤ j → j < s.size → bt s (j : Int) ≠ 45) : eachF s (f + 1) a = [((a : Int), s.extract a s.size)] := by
 unfold eachF
 rw [if_pos (idx_end s a hn)]
theorem eachF_dash (s : ByteArray) (f a i : Nat) (hai : a ≤ i) (hi : i < s.size) (h45 : bt s (i : Int) = 45) (hn : ∀ j : Nat, a ≤ j → j < i → bt s (j : Int) ≠ 45) : eachF s (f + 1) a = ((a : Int), s.extract a i) :: eachF s f (i + 1) := by
 conv => lhs; unfold eachF
 rw [idx_at s a i hai hi h45 hn, if_neg (by omega)]
 simp only [Int.toNat_natCast]
 rw [show a + (i - a) = i by omega]
theorem each_loop (s : ByteArray) (hs : s.size ≤ 900000) : ∀ (d i a f : Nat) (acc : List S113), s.size - i = d → a ≤ i → i ≤ s.size → s.size < a + f → (∀ j : Nat, a ≤ j → j < i → bt s (j : Int) ≠ 45) → acc.length ≤ i →
 Ev (fun k => isoglossref04_Each.l0 k s acc (a : Int) (i : Int)) (acc ++ (eachF s f a).map fun x => ⟨x.1, x.2⟩) := by
 intro d
 induction d with
 | zero =>
  intro i a f acc hd hai hi hf hn hl
  obtain ⟨f, rfl⟩ : ∃ f', f = f' + 1 := ⟨f - 1, by omega⟩
  obtain rfl : i = s.size := by omega
  have hw : wrap64 ((s.size : Int) + 1) = ((s.size + 1 : Nat) : Int) := by unfold wrap64; omega
  refine Ev.step (fun k => by unfold isoglossref04_Each.l0; rfl) ?_
  refine Ev.ite_pos (by omega) ?_
  refine Ev.ite_pos (by omega) (Ev.ite_pos (by omega) (Ev.ite_pos (by omega) (Ev.ite_pos (by omega) ?_)))
  rw [eachF_end s f a hn, hw]
  refine Ev.step (fun k => by unfold isoglossref04_Each.l0; rfl) ?_
  refine Ev.ite_neg (by omega) ?_
  exact Ev.const (by simp)
 | succ d ih =>
  intro i a f acc hd hai hi hf hn hl
  obtain ⟨f, rfl⟩ : ∃ f', f = f' + 1 := ⟨f - 1, by omega⟩
  have hw : wrap64 ((i : Int) + 1) = ((i + 1 : Nat) : Int) := by unfold wrap64; omega
  refine Ev.step (fun k => by unfold isoglossref04_Each.l0; rfl) ?_
  refine Ev.ite_pos (by omega) ?_
  refine Ev.ite_neg (by omega) (Ev.ite_pos (by omega) (Ev.ite_pos (by omega) ?_))
  by_cases h45 : bt s (i : Int) = 45
  · refine Ev.ite_pos h45 (Ev.ite_pos (by omega) (Ev.ite_pos (by omega) (Ev.ite_pos (by omega) ?_)))
    rw [eachF_dash s f a i hai (by omega) h45 hn, hw]
    refine Ev.res (ih (i + 1) (i + 1) f _ (by omega) (Nat.le_refl _) (by omega) (by omega) (fun j h1 h2 => by omega) (by simp; omega)) ?_
    simp
  · refine Ev.ite_neg h45 ?_
    rw [hw]
    refine ih (i + 1) a (f + 1) acc (by omega) (by omega) (by omega) hf (fun j h1 h2 => ?_) (by omega)
    by_cases hj : j = i
    · rw [hj]; exact h45
    · exact hn j h1 (by omega)
theorem rEach_ev (s : ByteArray) (hs : s.size ≤ 900000) : Ev (fun k => isoglossref04_Each.f k s) ((eachP s).map fun x => ⟨x.1, x.2⟩) :=
 Ev.res (each_loop s hs s.size 0 0 (s.size + 1) [] (by omega) (Nat.le_refl _) (by omega) (by omega) (fun j h1 h2 => by omega) (by simp)) (by simp [eachP])
theorem split_loop (l : List S113) (hl : l.length ≤ 1000000) : ∀ (d i : Nat) (acc : List ByteArray), l.length - i = d → i ≤ l.length → acc.length = i → Ev (fun k => isoglossref04_Split.l0 k acc l (i : Int)) (acc ++ (l.drop i).map (·.f1)) := by
 intro d
 induction d with
 | zero =>
  intro i acc hd hi ha
  refine Ev.step (fun k => by unfold isoglossref04_Split.l0; rfl) ?_
  refine Ev.ite_neg (by omega) (Ev.const ?_)
  rw [List.drop_eq_nil_of_le (by omega)]; simp
 | succ d ih =>
  intro i acc hd hi ha
  have he : i < l.length := by omega
  refine Ev.step (fun k => by unfold isoglossref04_Split.l0; rfl) ?_
  refine Ev.ite_pos (by omega) (Ev.ite_pos (by omega) (Ev.ite_pos (by omega) ?_))
  have hw : wrap64 ((i : Int) + 1) = ((i + 1 : Nat) : Int) := by unfold wrap64; omega
  rw [hw]
  refine Ev.res (ih (i + 1) _ (by omega) (by omega) (by simp; omega)) ?_
  have e : rd_T113 l (i : Int) = l[i] := by simp [rd_T113, List.getD_eq_getElem?_getD, List.getElem?_eq_getElem he]
  rw [List.drop_eq_getElem_cons he, e]
  simp only [List.map_cons, List.append_assoc, List.singleton_append]
def pieceS (s : ByteArray) : List ByteArray := (eachP s).map Prod.snd
theorem rSplit_ev (s : ByteArray) (hs : s.size ≤ 900000) : Ev (fun k => isoglossref04_Split.f k s) (pieceS s) := by
 unfold isoglossref04_Split.f
 refine Ev.bind (rEach_ev s hs) ?_
 have hl : ((eachP s).map fun x => (⟨x.1, x.2⟩ : S113)).length ≤ 1000000 := by have := eachF_len s (s.size + 1) 0; simp [eachP]; omega
 refine Ev.res (split_loop _ hl _ 0 [] rfl (by omega) rfl) ?_
 simp [pieceS]
theorem pieceS_len (s : ByteArray) : (pieceS s).length ≤ s.size + 1 := by unfold pieceS eachP; rw [List.length_map]; exact eachF_len s _ _
theorem eachF_size (s : ByteArray) : ∀ f a, ∀ x ∈ eachF s f a, x.2.size ≤ s.size
 | 0, a, x, hx => by simp [eachF] at hx
 | f + 1, a, x, hx => by
  unfold eachF at hx
  split at hx
  · simp at hx; rw [hx]; simp [ByteArray.size_extract]
  · rcases List.mem_cons.1 hx with h | h
    · rw [h]; simp [ByteArray.size_extract]; omega
    · exact eachF_size s f _ x h
theorem pieceS_size (s : ByteArray) : ∀ p ∈ pieceS s, p.size ≤ s.size := fun p hp => by
 obtain ⟨x, hx, rfl⟩ := List.mem_map.1 hp
 exact eachF_size s _ _ x hx
theorem bt_cut (s : ByteArray) (n j : Nat) (hj : j < n) (hn : n ≤ s.size) : bt (s.extract 0 n) (j : Int) = bt s (j : Int) := by
 have h1 : (bytesOf s)[j]? = some (bt s (j : Int)) := by
  have := drop_at s j (by omega)
  have h2 := List.getElem?_drop (xs := bytesOf s) (i := j) (j := 0)
  rw [this] at h2
  simpa using h2.symm
 refine bt_get _ j _ ?_
 rw [bytesOf_extract, List.getElem?_take, if_pos (by omega)]
 simpa using h1
theorem cut_cut (s : ByteArray) (a n : Nat) (hn : n ≤ s.size) (m : Nat) (hm : m ≤ n) : (s.extract 0 n).extract a m = s.extract a m := by
 apply bytesOf_inj
 rw [bytesOf_extract, bytesOf_extract, bytesOf_extract]
 simp only [List.drop_zero, Nat.sub_zero]
 rw [List.drop_take, List.take_take, Nat.min_eq_left (by omega)]
theorem last_spec (s : ByteArray) : (Lib.lastIndexByte s 45 = -1 ∧ ∀ j : Nat, j < s.size → bt s (j : Int) ≠ 45) ∨ (∃ n : Nat, n < s.size ∧ Lib.lastIndexByte s 45 = n ∧ bt s (n : Int) = 45 ∧ ∀ j : Nat, n < j → j < s.size → bt s (j : Int) ≠ 45) := by
 have e : ∀ j : Nat, j < s.size → ((s.data[j]!).toNat : Int) = bt s (j : Int) := fun j hj => by
  have hj2 : j < s.data.size := hj
  rw [getElem!_pos s.data j hj2]
  have := bt_at s (j : Int) (by simpa using hj)
  rw [← this]
  rfl
 rcases Lib.lastIndexByte_spec s 45 with ⟨h1, h2⟩ | ⟨i, hi, h1, h2, h3⟩
 · exact .inl ⟨h1, fun j hj => by rw [← e j hj]; exact h2 j hj⟩
 · exact .inr ⟨i, hi, h1, by rw [← e i hi]; exact h2, fun j h4 h5 => by rw [← e j h5]; exact h3 j h4 h5⟩
theorem first_dash (s : ByteArray) (n : Nat) (h45 : bt s (n : Int) = 45) : ∀ d a, n - a = d → a ≤ n → ∃ i, a ≤ i ∧ i ≤ n ∧ bt s (i : Int) = 45 ∧ ∀ j : Nat, a ≤ j → j < i → bt s (j : Int) ≠ 45 := by
 intro d
 induction d with
 | zero => exact fun a hd ha => ⟨n, ha, Nat.le_refl _, h45, fun j h1 h2 => by omega⟩
 | succ d ih =>
  intro a hd ha
  by_cases h : bt s (a : Int) = 45
  · exact ⟨a, Nat.le_refl _, ha, h, fun j h1 h2 => by omega⟩
  · obtain ⟨i, h1, h2, h3, h4⟩ := ih (a + 1) (by omega) (by omega)
    refine ⟨i, by omega, h2, h3, fun j h5 h6 => ?_⟩
    by_cases hj : j = a
    · rw [hj]; exact h
    · exact h4 j (by omega) h6
theorem eachF_last (s : ByteArray) (n : Nat) (hn : n < s.size) (h45 : bt s (n : Int) = 45) (hlast : ∀ j : Nat, n < j → j < s.size → bt s (j : Int) ≠ 45) :
 ∀ d a f g, n - a = d → a ≤ n → s.size < a + f → n < a + g → eachF s f a = eachF (s.extract 0 n) g a ++ [(((n + 1 : Nat) : Int), s.extract (n + 1) s.size)] := by
 have hz : (s.extract 0 n).size = n := by rw [ByteArray.size_extract]; omega
 intro d
 induction d using Nat.strongRecOn with
 | _ d ih =>
  intro a f g hd ha hf hg
  obtain ⟨f, rfl⟩ : ∃ f', f = f' + 1 := ⟨f - 1, by omega⟩
  obtain ⟨g, rfl⟩ : ∃ g', g = g' + 1 := ⟨g - 1, by omega⟩
  obtain ⟨i, h1, h2, h3, h4⟩ := first_dash s n h45 (n - a) a rfl ha
  rw [eachF_dash s f a i h1 (by omega) h3 h4]
  by_cases hi : i = n
  · subst hi
    obtain ⟨f, rfl⟩ : ∃ f', f = f' + 1 := ⟨f - 1, by omega⟩
    rw [eachF_end s f (i + 1) (fun j h5 h6 => hlast j (by omega) h6)]
    rw [eachF_end (s.extract 0 i) g a (fun j h5 h6 => by rw [hz] at h6; rw [bt_cut s i j h6 (by omega)]; exact h4 j h5 h6)]
    rw [hz, cut_cut s a i (by omega) i (Nat.le_refl _)]
    rfl
  · rw [eachF_dash (s.extract 0 n) g a i h1 (by omega) (by rw [bt_cut s n i (by omega) (by omega)]; exact h3) (fun j h5 h6 => by rw [bt_cut s n j (by omega) (by omega)]; exact h4 j h5 h6)]
    rw [cut_cut s a n (by omega) i (by omega), ih (n - (i + 1)) (by omega) (i + 1) f g rfl (by omega) (by omega) (by omega)]
    rfl
theorem piece_none (s : ByteArray) (h : ∀ j : Nat, j < s.size → bt s (j : Int) ≠ 45) : pieceS s = [s] := by
 unfold pieceS eachP
 rw [eachF_end s s.size 0 (fun j _ hj => h j hj)]
 simp
theorem piece_last (s : ByteArray) (n : Nat) (hn : n < s.size) (h45 : bt s (n : Int) = 45) (hlast : ∀ j : Nat, n < j → j < s.size → bt s (j : Int) ≠ 45) : pieceS s = pieceS (s.extract 0 n) ++ [s.extract (n + 1) s.size] := by
 have hz : (s.extract 0 n).size = n := by rw [ByteArray.size_extract]; omega
 unfold pieceS eachP
 rw [eachF_last s n hn h45 hlast n 0 (s.size + 1) ((s.extract 0 n).size + 1) (by omega) (by omega) (by omega) (by omega)]
 simp
theorem pieceS_cons' (s : ByteArray) : ∃ p l, pieceS s = p :: l := by
 unfold pieceS eachP eachF
 split
 · exact ⟨_, _, rfl⟩
 · exact ⟨_, _, rfl⟩
def jn : List ByteArray → ByteArray
 | [] => ⟨#[]⟩
 | x :: l => l.foldl (fun acc y => (acc ++ (⟨#[45]⟩ : ByteArray)) ++ y) x
theorem jn_snoc (x : ByteArray) (l : List ByteArray) (y : ByteArray) : jn (x :: l ++ [y]) = (jn (x :: l) ++ (⟨#[45]⟩ : ByteArray)) ++ y := by
 simp [jn]
theorem dash_join (s : ByteArray) (n : Nat) (hn : n < s.size) (h45 : bt s (n : Int) = 45) : (s.extract 0 n ++ (⟨#[45]⟩ : ByteArray)) ++ s.extract (n + 1) s.size = s := by
 apply bytesOf_inj
 rw [bytesOf_append, bytesOf_append, bytesOf_extract, bytesOf_extract]
 have e : bytesOf (⟨#[45]⟩ : ByteArray) = [45] := by rfl
 have hd := drop_at s n hn
 rw [h45] at hd
 have hl : ((bytesOf s).drop (n + 1)).length ≤ s.size - (n + 1) := by rw [List.length_drop, bytesOf_length]; omega
 rw [e, List.drop_zero, Nat.sub_zero, List.take_of_length_le hl, List.append_assoc, List.singleton_append, ← hd, List.take_append_drop]
theorem jn_pieces : ∀ (d : Nat) (s : ByteArray), s.size = d → jn (pieceS s) = s := by
 intro d
 induction d using Nat.strongRecOn with
 | _ d ih =>
  intro s hs
  rcases last_spec s with ⟨_, h⟩ | ⟨n, hn, _, h45, hlast⟩
  · rw [piece_none s h]; rfl
  · have hz : (s.extract 0 n).size = n := by rw [ByteArray.size_extract]; omega
    rw [piece_last s n hn h45 hlast]
    obtain ⟨x, l, e⟩ := pieceS_cons' (s.extract 0 n)
    have h2 := ih n (by omega) (s.extract 0 n) hz
    rw [e] at h2
    rw [e, jn_snoc, h2, dash_join s n hn h45]
def sumS : List ByteArray → Nat
 | [] => 0
 | x :: l => x.size + 1 + sumS l
theorem rJoin_loop (l : List ByteArray) (hl : l.length ≤ 1000000) : ∀ (d i : Nat) (acc : ByteArray), l.length - i = d → 0 < i → i ≤ l.length → acc.size + sumS (l.drop i) ≤ 100000000 → Ev (fun k => isoglossref04_Join.l0 k l acc (i : Int)) ((l.drop i).foldl (fun acc y => (acc ++ (⟨#[45]⟩ : ByteArray)) ++ y) acc) := by
 intro d
 induction d with
 | zero =>
  intro i acc hd h0 hi hs
  refine Ev.step (fun k => by unfold isoglossref04_Join.l0; rfl) ?_
  refine Ev.ite_neg (by omega) (Ev.const ?_)
  rw [List.drop_eq_nil_of_le (by omega)]; rfl
 | succ d ih =>
  intro i acc hd h0 hi hs
  have he : i < l.length := by omega
  have e : rdOf ByteArray.empty l (i : Int) = l[i] := by simp [rdOf, List.getD_eq_getElem?_getD, List.getElem?_eq_getElem he]
  have hw : wrap64 ((i : Int) + 1) = ((i + 1 : Nat) : Int) := by unfold wrap64; omega
  rw [List.drop_eq_getElem_cons he] at hs ⊢
  simp only [sumS] at hs
  have s1 : (acc ++ (⟨#[45]⟩ : ByteArray)).size = acc.size + 1 := size_append _ _
  have s2 : ((acc ++ (⟨#[45]⟩ : ByteArray)) ++ l[i]).size = acc.size + 1 + l[i].size := by rw [size_append, s1]
  refine Ev.step (fun k => by unfold isoglossref04_Join.l0; rfl) ?_
  refine Ev.ite_pos (by omega) (Ev.ite_pos (by omega) (Ev.ite_pos (by omega) (Ev.ite_pos (by omega) ?_)))
  rw [e, hw]
  refine Ev.ite_pos (by rw [s1]; omega) ?_
  exact ih (i + 1) _ (by omega) (by omega) (by omega) (by rw [s2]; omega)
theorem rJoin_ev (l : List ByteArray) (hl : l.length ≤ 1000000) (hs : sumS l ≤ 100000000) : Ev (fun k => isoglossref04_Join.f k l) (jn l) := by
 unfold isoglossref04_Join.f
 refine Ev.step (fun k => by unfold isoglossref04_Join.l0; rfl) ?_
 cases l with
 | nil => exact Ev.ite_neg (by simp) (Ev.now _)
 | cons x l =>
  simp only [sumS] at hs
  have e : rdOf ByteArray.empty (x :: l) 0 = x := rfl
  refine Ev.ite_pos (by simp <;> omega) (Ev.ite_neg (by omega) (Ev.ite_pos (by omega) ?_))
  have z : (⟨#[]⟩ : ByteArray) ++ x = x := by apply bytesOf_inj; rw [bytesOf_append]; rfl
  rw [e, z]
  refine Ev.ite_pos (by show (0 : Nat) + x.size ≤ 9223372036854775807; omega) ?_
  have hw : wrap64 ((0 : Int) + 1) = ((1 : Nat) : Int) := by unfold wrap64; omega
  rw [hw]
  exact rJoin_loop (x :: l) hl _ 1 x rfl (by omega) (by simp) (by simp; omega)
end Go.Proofs.YtpmcfckechjppaaGreatDoor.Ps
namespace Go.Proofs.YtpmcfckechjppaaGreatDoor.Ps
open Go.RowKit Go.Shelf Go.Proofs.YtpmcfckechjppaaGreatDoorW.PrintWords Go.Proofs.YtpmcfckechjppaaGreatDoorW.PrintLast Go.Proofs.YtpmcfckechjppaaGreatDoorW.PrintMore Go.Proofs.YtpmcfckechjppaaGreatDoor.P Go.Proofs.YtpmcfckechjppaaGreatDoor.LikW
open Go.Proofs.YtpmcfckechjppaaGreatDoor.Each Go.Proofs.YtpmcfckechjppaaGreatDoor.Base Go.Proofs.YtpmcfckechjppaaGreatDoor.Pure
attribute [local go_sem] Oper.semAt_some
set_option linter.unusedVariables false
set_option linter.unusedSimpArgs false
set_option maxRecDepth 100000
set_option maxHeartbeats 8000000
section
variable {ops : Array Oper} {rest : List Oper} {o : Oper} {a : Act} {Q : Exit → Act → World → Prop} {K : Act → World → Prop}
theorem app_s {w0 W : World} (base : Nat) (hw : Region.wanted o (yielded ops a.tmps) = true) (s x : Operand) (ho : o.op = .call { callee := .builtin .append, args := #[s, x], argTypes := #[26, 26] }) (v : Value) (L : List ByteArray) (t : ByteArray) (hs : a.eval s = v) (hx : a.eval x = .slice (some ⟨W.heap.size, 0, none⟩) 1 1) (HO : Own W base v L) (HB : Below base w0 W) (hbase : base ≤ W.heap.size) (hl : L.length ≤ 1000000)
 (h : ∀ v1 w1, Own w1 base v1 (L ++ [t]) → Below base w0 w1 → W.grownBy w1 v.ownBlock → (v1.ownBlock = v.ownBlock ∨ ∃ b, v1.ownBlock = some b ∧ W.heap.size ≤ b) → K (a.put o.dst v1) w1) :
 if Region.wanted o (yielded ops a.tmps) = true then Oper.wp Tryz.prog o a (W.alloc (.cells #[.string t] 9)) K Q else K (a.put o.dst undef) (W.alloc (.cells #[.string t] 9)) := by
 refine step_append_cells (w0 := w0) base hw s x 26 9 (.string ⟨#[]⟩) 1 16 ho Tryz.underlying26 (by kernel_rfl) rfl (by decide) (by decide) v L.length (L.map Value.string) [.string t] hs hx rfl (by simp [Value.oneCell']) HO HB hbase (by omega) ?_
 intro v1 w1 ho hb hg hat
 exact h v1 w1 (by unfold Own; rw [List.length_append, List.map_append]; exact ho) hb hg hat
theorem goesP {P : Program} {N : Option Tmp} {w : World} {f : FuncId} {ar : Array Operand} {ts : Array TypeId} {fn : Func} (hf : P.funcs[f]? = some fn) (args : Array Value)
 (h : Calls P f args w fun e w' => ∃ ch, e = .panicked ch ∧ Q (.panic ch) a w') (hop : o.op = .call { callee := .value (.func f), args := ar, argTypes := ts } := by rfl) (hname : (fn.name == "runtime.NumGoroutine") = false := by kernel_rfl) (hb : fn.body.isSome = true := by rfl)
 (hw : Region.wanted o (yielded ops a.tmps) = true := by rfl) (hargs : ar.map a.eval = args := by (try simp only [List.map_toArray, List.map_cons, List.map_nil]); first | done | rfl) : if Region.wanted o (yielded ops a.tmps) = true then Oper.wp P o a w K Q else K (a.put N undef) w := by
 rw [if_pos hw]
 unfold Oper.wp
 have he := enters_ hf hname hb args w
 have hrun : (execOp a.eval o).run P w = .ok (.enter f args) w := by
  unfold execOp
  simp [hop, resolve, Deferred.ofValue, invoke, Act.eval, hargs, he]
 rw [hrun, Oper.upon_enter]
 refine h.mono fun e w'' hh => ?_
 obtain ⟨v, rfl, hk⟩ := hh
 exact hk
end
theorem own_C {W : World} {base : Nat} {v : Value} {l : List ByteArray} (h : Own W base v l) : ∃ A c, v = .slice A l.length c ∧ l.length ≤ c ∧ Kd.C Kd.string W A l.length l := by
 have hm := h
 obtain ⟨A, c, rfl, hc, hx⟩ := own_at h
 refine ⟨A, c, rfl, hc, ?_⟩
 have hl : l.length ≤ maxLen := by
  obtain ⟨hk, ⟨_, h0⟩ | ⟨g, cap, cur, e1, h1, h2, h3, h4, h5, h6⟩⟩ := hm
  · rw [h0]; exact Nat.zero_le _
  · omega
 rcases hx with rfl | ⟨b, rfl, hb, hj⟩
 · exact ⟨rfl, hl, fun h => absurd h (by simp)⟩
 · refine ⟨rfl, hl, fun _ => ⟨⟨b, 0, none⟩, rfl, fun j p hp => ⟨[.string p], rfl, rfl, fun i u hu => ?_⟩⟩⟩
   have hi : i = 0 := by
    have := (List.getElem?_eq_some_iff.1 hu).1
    simpa using this
   subst hi
   cases hu
   have := hj j p hp
   show W.cell? ((⟨b, 0, none⟩ : Addr).add (j * 1 + 0)) = some (.string p)
   rw [Nat.mul_one, Nat.add_zero]
   unfold Addr.add
   by_cases h : j = 0
   · subst h; simpa using this
   · simpa [h] using this
theorem index_ev (l : List ByteArray) (x : ByteArray) (hl : l.length ≤ 1000000) : ∀ (d i : Nat), l.length - i = d → i ≤ l.length → ∃ r : Int, Ev (fun k => slices_Index_string_string.l0 k l x (l.length : Int) (i : Int)) r ∧ decide (r ≥ 0) = (l.drop i).any (fun y => decide (y = x)) := by
 intro d
 induction d with
 | zero =>
  intro i hd hi
  refine ⟨-1, Ev.step (fun k => by unfold slices_Index_string_string.l0; rfl) (Ev.ite_neg (by omega) (Ev.const rfl)), ?_⟩
  rw [List.drop_eq_nil_of_le (by omega)]; rfl
 | succ d ih =>
  intro i hd hi
  have he : i < l.length := by omega
  have e : rdOf ByteArray.empty l (i : Int) = l[i] := by simp [rdOf, List.getD_eq_getElem?_getD, List.getElem?_eq_getElem he]
  have hw : wrap64 ((i : Int) + 1) = ((i + 1 : Nat) : Int) := by unfold wrap64; omega
  rw [List.drop_eq_getElem_cons he, List.any_cons]
  by_cases hx : l[i] = x
  · refine ⟨(i : Int), Ev.step (fun k => by unfold slices_Index_string_string.l0; rfl) (Ev.ite_pos (by omega) (Ev.ite_pos (by omega) (Ev.ite_pos (by omega) (Ev.ite_pos (by rw [e, hx]) (Ev.const rfl))))), ?_⟩
    rw [decide_eq_true hx, decide_eq_true (by omega)]; rfl
  · obtain ⟨r, h1, h2⟩ := ih (i + 1) (by omega) (by omega)
    refine ⟨r, Ev.step (fun k => by unfold slices_Index_string_string.l0; rfl) (Ev.ite_pos (by omega) (Ev.ite_pos (by omega) (Ev.ite_pos (by omega) (Ev.ite_neg (by rw [e]; exact fun h => hx (Base.toList_inj.1 h).symm) (by rw [hw]; exact h1))))), ?_⟩
    rw [decide_eq_false hx, h2]; rfl
theorem contains_c (A : Option Addr) (c : Nat) (l : List ByteArray) (x : ByteArray) (w : World) (hC : Kd.C Kd.string w A l.length l) (hc : l.length ≤ c) (hl : l.length ≤ 1000000) :
 Calls Tryz.prog 182 #[.slice A l.length c, .string x] w fun e w' => e = .returned (.bool (l.any fun y => decide (y = x))) ∧ Drawn0 w w' := by
 obtain ⟨r, h1, h2⟩ := index_ev l x hl l.length 0 rfl (Nat.zero_le _)
 have h3 : Ev (fun k => slices_Contains_string_string.f k l x) (l.any fun y => decide (y = x)) := by
  unfold slices_Contains_string_string.f slices_Index_string_string.f
  refine Ev.bind h1 (Ev.const ?_)
  rw [h2]; rfl
 obtain ⟨k, hk⟩ := h3
 exact slices_Contains_string_string.calls k A c l x _ w hC hc (hk k (Nat.le_refl _))
theorem keep_put {g : Nat} {W W1 : World} (h : Put g W W1) : KeepBut W W1 g none := ⟨by rw [h.size]; exact Nat.le_refl _, fun i _ hi _ => h.far i hi⟩
def leftN (W : World) (g : Nat) : Nat := lenV ((W.cell? ⟨g, 0, none⟩).getD undef)
theorem left_n {W : World} {g : Nat} {s : RS} {A : Option Addr} {n c : Nat} {e : Int} (h : W.heap[g]? = some (RB s A n c e)) : leftN W g = n := by
 unfold leftN
 rw [blk_cell h 0]
 rfl
theorem left_app {w0 w W1 W2 W3 W4 : World} {g : Nat} {e : Int} {s1 s2 : RS} {A2 : Option Addr} {c2 : Nat} {m : List Pc} {v v3 : Value} {acc L3 : List ByteArray} (hg : w0.heap.size ≤ g) (hK1 : KeepBut w W1 g none) (hK2 : KeepBut W1 W2 g none) (hV : FreshV w v) (hO2 : Own W2 w0.heap.size v acc) (hR2 : W2.heap[g]? = some (RB s1 A2 m.length c2 e)) (hc2 : m.length ≤ c2)
 (hG3 : W2.grownBy W3 v.ownBlock) (hP3 : PG W3 A2 m) (hB3 : Below w0.heap.size w0 W3) (hO3 : Own W3 w0.heap.size v3 L3) (hR3 : W3.heap[g]? = some (RB s1 A2 m.length c2 e)) (hat : v3.ownBlock = v.ownBlock ∨ ∃ b, v3.ownBlock = some b ∧ W2.heap.size ≤ b) (hp : Put g W3 W4) (hk : W4.heap[g]? = some (RB s2 A2 m.length c2 e)) :
 Own W4 w0.heap.size v3 L3 ∧ FreshV w v3 ∧ LeftG w0 w W4 g e s2 m := by
 have k2 := hK1.trans hK2 (.inl rfl)
 have k3 : KeepBut w W3 g none := k2.trans (KeepBut.of_grown hG3 g) hV.row
 refine ⟨ownK hO3 hR3 (by decide) (keep_put hp), hV.app k2.1 hat, ⟨A2, c2, hc2, hk, hP3.keep hR3 (keep_put hp)⟩, Put.below hp hB3 hg, k3.trans (keep_put hp) (.inl rfl)⟩
def VarsPost (w0 w : World) (g : Nat) (e : Int) (s : RS) (r : Except (Int × Int) (List ByteArray × List Pc)) (e' : Ending) (w' : World) : Prop :=
 (∃ x, r = .error x ∧ BadG w0 w w' g x e') ∨ (∃ v, r = .ok v ∧ e' = .returned (.tuple #[]) ∧ ∃ vV, Own w' w0.heap.size vV v.1 ∧ FreshV w vV ∧ LeftG w0 w w' g e { s with vV := vV } v.2)
theorem varsP_stop {acc : List ByteArray} {x : Pc} {m : List Pc} (h : ¬ (subB x.2 && varB x.2) = true) : varsP acc (x :: m) = .ok (acc, x :: m) := by
 conv => lhs; unfold varsP
 exact if_neg h
theorem varsP_dup {acc : List ByteArray} {x : Pc} {m : List Pc} (h : (subB x.2 && varB x.2) = true) (hd : acc.any (fun y => decide (y = x.2)) = true) : varsP acc (x :: m) = .error (x.1, 11) := by
 conv => lhs; unfold varsP
 rw [if_pos h, if_pos hd]
theorem varsP_on {acc : List ByteArray} {x : Pc} {m : List Pc} (h : (subB x.2 && varB x.2) = true) (hd : acc.any (fun y => decide (y = x.2)) = false) : varsP acc (x :: m) = varsP (acc ++ [x.2]) m := by
 conv => lhs; unfold varsP
 rw [if_pos h, if_neg (by rw [hd]; decide)]
theorem variants_g (g : Nat) (A : Option Addr) (c : Nat) (e : Int) (s : RS) (l : List Pc) (w0 w : World) (hB : Below w0.heap.size w0 w) (hg : w0.heap.size ≤ g) (hc : l.length ≤ c) (hR : w.heap[g]? = some (RB s A l.length c e)) (hP : PG w A l) (hl : l.length ≤ 1000000) (hV0 : s.vV = .slice none 0 0) :
 Calls Tryz.prog 128 #[.pointer (some ⟨g, 0, none⟩)] w fun e' w' => VarsPost w0 w g e s (varsP [] l) e' w' := by
 have hL : LeftG w0 w w g e { s with vV := .slice none 0 0 } l := ⟨⟨A, c, hc, by rw [← hV0]; exact hR, hP⟩, hB, KeepBut.refl w g none⟩
 have HL0 := Aside0.mk hL
 obtain ⟨r, hr⟩ : ∃ r, r = varsP [] l := ⟨_, rfl⟩
 rw [← hr]
 have HRR := Aside0.mk hr
 clear hB hc hR hP hL hr hV0
 go_enter Tryz.func128, Tryz.ntmps128
 refine wp_block ?_
 go_loopw [] (fun wr => ∃ (acc : List ByteArray) (m : List Pc) (vV : Value), Aside0 (Own wr w0.heap.size vV acc) ∧ Aside0 (FreshV w vV) ∧ Aside0 (LeftG w0 w wr g e { s with vV := vV } m) ∧ Aside0 (varsP acc m = r) ∧ acc.length + m.length = l.length) (fun wr => leftN wr g)
 case atStart => exact ⟨[], l, _, ⟨own_nil _ _ _ _⟩, ⟨fresh_nil w⟩, HL0, ⟨HRR.out.symm⟩, by simp⟩
 case round =>
  clear HL0 HRR
  obtain ⟨acc, m, vV, HO, HV, HL, HE, hn⟩ := hrel
  obtain ⟨V1, d1, e1⟩ := own_slice HO.out
  subst e1
  obtain ⟨⟨A1, c1, hc1, hR1, hP1⟩, hB1, hK1⟩ := HL.out
  have HR := Aside0.mk hR1
  have HP := Aside0.mk hP1
  have HB := Aside0.mk hB1
  have HK := Aside0.mk hK1
  clear hR1 hP1 hB1 hK1
  cases m with
  | nil =>
   go_wp2_with (first
    | (go_at_call 123; refine (here_g g _ c1 e _ [] _ (by exact HR.out) (by exact HP.out)).mono ?_; rintro e w' ⟨rfl, ⟨nd, rfl⟩⟩; rw [show hereP [] = ⟨#[]⟩ from rfl]))
   go_end0
   exact .inr ⟨(acc, []), HE.out.symm, rfl, _, HO.out, HV.out, ⟨A1, c1, hc1, HR.out, PG.nil _ _⟩, pw_below_drewN HB.out _, keep_drewN HK.out _⟩
  | cons x m =>
   have done : ¬ (subB x.2 && varB x.2) = true → r = .ok (acc, x :: m) := fun h => HE.out.symm.trans (varsP_stop h)
   cases hs : subB x.2 with
   | false =>
    have he := hereP_none (l := m) hs
    have HD := Aside0.mk (done (by rw [hs]; simp))
    clear hs done
    go_wp2_with (first
     | (go_at_call 123; refine (here_g g _ c1 e _ (x :: m) _ (by exact HR.out) (by exact HP.out)).mono ?_; rintro e w' ⟨rfl, ⟨nd, rfl⟩⟩; rw [he]))
    go_end0
    exact .inr ⟨_, HD.out, rfl, _, HO.out, HV.out, ⟨A1, c1, hc1, HR.out, HP.out.keep HR.out (keep_drewN (KeepBut.refl wr g none) _)⟩, pw_below_drewN HB.out _, keep_drewN HK.out _⟩
   | true =>
    have he := hereP_some (l := m) hs
    have q0 := sub_full hs
    have h8 := (sub_size hs).1
    have hF := fun W => tellsVar.2 x.2 W h8
    cases hf : varB x.2 with
    | false =>
     rw [hf] at hF
     have HD := Aside0.mk (done (by rw [hf]; simp))
     clear hs done h8 hf
     go_wp2_with (first
      | (go_at_call 123; refine (here_g g _ c1 e _ (x :: m) _ (by exact HR.out) (by exact HP.out)).mono ?_; rintro e w' ⟨rfl, ⟨nd, rfl⟩⟩; rw [he])
      | (with_reducible refine (hF _).mono ?_; rintro e w' ⟨rfl, ⟨nd, rfl⟩⟩))
     go_end0
     exact .inr ⟨_, HD.out, rfl, _, HO.out, HV.out, ⟨A1, c1, hc1, HR.out, HP.out.keep HR.out (keep_drewN (KeepBut.refl wr g none) _)⟩, pw_below_drewN HB.out _, keep_drewN HK.out _⟩
    | true =>
     rw [hf] at hF
     have hsv : (subB x.2 && varB x.2) = true := by rw [hs, hf]; rfl
     have hle : acc.length ≤ 1000000 := by simp only [List.length_cons] at hn; omega
     have HLE := Aside0.mk hle
     obtain ⟨V2, d2, e2, hcd, hC⟩ := own_C HO.out
     cases e2
     have HC := Aside0.mk hC
     have hln := left_n HR.out
     have HLN := Aside0.mk hln
     clear hs done h8 hf hle hC hln
     go_wp2_with (first
      | (go_at_call 123; refine (here_g g _ c1 e _ (x :: m) wr (by exact HR.out) (by exact HP.out)).mono ?_; rintro e w' ⟨rfl, ⟨nd, rfl⟩⟩; rw [he])
      | (go_at_call 123; refine (here_g g _ c1 e _ (x :: m) (wr.drewN nd) (by exact HR.out) (by exact HP.out)).mono ?_; rintro e w' ⟨rfl, ⟨nd1, rfl⟩⟩; rw [he])
      | (with_reducible refine (hF _).mono ?_; rintro e w' ⟨rfl, ⟨nd2, rfl⟩⟩))
     cases hdup : acc.any (fun y => decide (y = x.2)) with
     | true =>
      have HD := Aside0.mk (HE.out.symm.trans (varsP_dup hsv hdup))
      clear hsv
      refine start_ (n := 10) (S := fun w' => w'.cell? ⟨g, 6, none⟩ = some (.slice V1 acc.length d1)) (ds := [9]) (M 10 0) (by kernel_rfl) rfl rfl ((blk_cell HR.out 6).trans rfl) (fun hHeld => ?_)
      obtain ⟨W1, hW1⟩ : ∃ W1, W1 = (wr.drewN (nd + nd1 + nd2)).drew := ⟨_, rfl⟩
      rw [← hW1] at hHeld ⊢
      replace HR : Aside0 (W1.heap[g]? = some (RB { s with vV := .slice V1 acc.length d1 } A1 (x :: m).length c1 e)) := by rw [hW1]; exact HR
      replace HP : Aside0 (PG W1 A1 (x :: m)) := by rw [hW1]; exact HP
      replace HB : Aside0 (Below w0.heap.size w0 W1) := by rw [hW1]; exact ⟨below_drew1 (pw_below_drewN HB.out _)⟩
      replace HK : Aside0 (KeepBut w W1 g none) := by rw [hW1]; exact ⟨keep_drewN (keep_drewN HK.out _) 1⟩
      replace HO : Aside0 (Own W1 w0.heap.size (.slice V1 acc.length d1) acc) := by rw [hW1]; exact HO
      replace HC : Aside0 (Kd.C Kd.string W1 V1 acc.length acc) := ⟨(own_C HO.out).elim fun A h => h.elim fun c h => by obtain ⟨h1, h2, h3⟩ := h; cases h1; exact h3⟩
      clear hW1
      refine pw 0 10 (M 10 1) ?_
      refine pw 1 11 (M 10 3) ?_
      refine pw 2 12 (M 10 7) ?_
      refine pw 3 13 (M 10 15) ?_
      refine pw 4 14 (M 10 31) ?_
      refine pw 6 16 (M 10 95) ?_
      refine tw 5 15 (M 10 127) hHeld ?_
      refine ow 7 (some 17) (M 10 255) fun K hK => ?_
      refine gow Tryz.func123 #[.pointer (some ⟨g, 0, none⟩)] ?_
      refine (here_g g _ c1 e { s with vV := .slice V1 acc.length d1 } (x :: m) _ HR.out HP.out).mono ?_
      rintro e3 W2 ⟨rfl, ⟨nd3, rfl⟩⟩
      rw [he]
      refine ⟨_, rfl, ?_⟩
      refine hK.out _ _ ((blk_cell HR.out 6).trans rfl) (fun hHeld => ?_)
      clear hK K
      refine nw 17 ?_
      refine ow 8 (some 18) (M 10 511) fun K hK => ?_
      refine gow Tryz.func182 #[.slice V1 acc.length d1, .string x.2] ?_
      refine (contains_c V1 d1 acc x.2 _ (by exact HC.out) hcd HLE.out).mono ?_
      rintro e3 W3 ⟨rfl, ⟨nd4, rfl⟩⟩
      rw [hdup]
      refine ⟨_, rfl, ?_⟩
      refine hK.out _ _ ((blk_cell HR.out 6).trans rfl) (fun hHeld => ?_)
      clear hK K
      refine nw 18 ?_
      refine last_ (i := 9) (N := some 19) (M 10 1023) rfl rfl (by kernel_rfl) (by decide) (fun K hK => ?_)
      refine goesP Tryz.func181 #[.pointer (some ⟨g, 0, none⟩), .bool true, .string ⟨#[118, 97, 114, 105, 97, 110, 116]⟩] ?_
      refine (twice_yes g _ c1 e { s with vV := .slice V1 acc.length d1 } _ x m w0 _ (pw_below_drewN (pw_below_drewN HB.out _) _) HR.out HP.out).mono ?_
      rintro e3 W4 hbad
      obtain ⟨p, he4, hr4⟩ := hbad
      refine ⟨_, he4, ?_⟩
      exact ⟨rfl, .inl ⟨_, HD.out, BadG.after ⟨p, rfl, hr4⟩ (keep_drewN (keep_drewN HK.out _) _)⟩⟩
     | false =>
      have HE2 := Aside0.mk ((varsP_on hsv hdup).symm.trans HE.out)
      clear hsv
      refine start_ (n := 10) (S := fun w' => w'.cell? ⟨g, 6, none⟩ = some (.slice V1 acc.length d1)) (ds := []) (M 10 0) (by kernel_rfl) rfl rfl ((blk_cell HR.out 6).trans rfl) (fun hHeld => ?_)
      obtain ⟨W1, hW1⟩ : ∃ W1, W1 = (wr.drewN (nd + nd1 + nd2)).drew := ⟨_, rfl⟩
      rw [← hW1] at hHeld ⊢
      replace HR : Aside0 (W1.heap[g]? = some (RB { s with vV := .slice V1 acc.length d1 } A1 (x :: m).length c1 e)) := by rw [hW1]; exact HR
      replace HP : Aside0 (PG W1 A1 (x :: m)) := by rw [hW1]; exact HP
      replace HB : Aside0 (Below w0.heap.size w0 W1) := by rw [hW1]; exact ⟨below_drew1 (pw_below_drewN HB.out _)⟩
      replace HK : Aside0 (KeepBut w W1 g none) := by rw [hW1]; exact ⟨keep_drewN (keep_drewN HK.out _) 1⟩
      replace HO : Aside0 (Own W1 w0.heap.size (.slice V1 acc.length d1) acc) := by rw [hW1]; exact HO
      replace HC : Aside0 (Kd.C Kd.string W1 V1 acc.length acc) := ⟨(own_C HO.out).elim fun A h => h.elim fun c h => by obtain ⟨h1, h2, h3⟩ := h; cases h1; exact h3⟩
      clear hW1
      refine pw 0 10 (M 10 1) ?_
      refine pw 1 11 (M 10 3) ?_
      refine pw 2 12 (M 10 7) ?_
      refine pw 3 13 (M 10 15) ?_
      refine pw 4 14 (M 10 31) ?_
      refine pw 6 16 (M 10 95) ?_
      refine tw 5 15 (M 10 127) hHeld ?_
      refine ow 7 (some 17) (M 10 255) fun K hK => ?_
      refine gow Tryz.func123 #[.pointer (some ⟨g, 0, none⟩)] ?_
      refine (here_g g _ c1 e { s with vV := .slice V1 acc.length d1 } (x :: m) _ HR.out HP.out).mono ?_
      rintro e3 W2 ⟨rfl, ⟨nd3, rfl⟩⟩
      rw [he]
      refine ⟨_, rfl, ?_⟩
      refine hK.out _ _ ((blk_cell HR.out 6).trans rfl) (fun hHeld => ?_)
      clear hK K
      refine nw 17 ?_
      refine ow 8 (some 18) (M 10 511) fun K hK => ?_
      refine gow Tryz.func182 #[.slice V1 acc.length d1, .string x.2] ?_
      refine (contains_c V1 d1 acc x.2 _ (by exact HC.out) hcd HLE.out).mono ?_
      rintro e3 W3 ⟨rfl, ⟨nd4, rfl⟩⟩
      rw [hdup]
      refine ⟨_, rfl, ?_⟩
      refine hK.out _ _ ((blk_cell HR.out 6).trans rfl) (fun hHeld => ?_)
      clear hK K
      refine nw 18 ?_
      refine ow 9 (some 19) (M 10 1023) fun K hK => ?_
      refine gow Tryz.func181 #[.pointer (some ⟨g, 0, none⟩), .bool false, .string ⟨#[118, 97, 114, 105, 97, 110, 116]⟩] ?_
      refine (twice_no g _ _).mono ?_
      rintro e3 W4 ⟨rfl, hW4⟩
      rw [hW4]
      refine ⟨_, rfl, ?_⟩
      obtain ⟨W5, hW5⟩ : ∃ W5, W5 = (W1.drewN nd3).drewN nd4 := ⟨_, rfl⟩
      rw [← hW5]
      replace HR : Aside0 (W5.heap[g]? = some (RB { s with vV := .slice V1 acc.length d1 } A1 (x :: m).length c1 e)) := by rw [hW5]; exact HR
      replace HP : Aside0 (PG W5 A1 (x :: m)) := by rw [hW5]; exact HP
      replace HB : Aside0 (Below w0.heap.size w0 W5) := by rw [hW5]; exact ⟨pw_below_drewN (pw_below_drewN HB.out _) _⟩
      replace HK : Aside0 (KeepBut w W5 g none) := by rw [hW5]; exact ⟨keep_drewN (keep_drewN HK.out _) _⟩
      replace HO : Aside0 (Own W5 w0.heap.size (.slice V1 acc.length d1) acc) := by rw [hW5]; exact HO
      clear hW5 hW4
      refine hK.out _ _ ((blk_cell HR.out 6).trans rfl) (fun hHeld => ?_)
      clear hK K
      refine nw 19 ?_
      refine done_ (by kernel_rfl) ?_
      go_wp2
      refine start_ (n := 14) (S := fun w' => w'.cell? ⟨g, 6, none⟩ = some (.slice V1 acc.length d1)) (ds := [13]) (M 14 0) (by kernel_rfl) rfl rfl ((blk_cell HR.out 6).trans rfl) (fun hHeld => ?_)
      obtain ⟨W1, hW1⟩ : ∃ W1, W1 = W5.drew := ⟨_, rfl⟩
      rw [← hW1] at hHeld ⊢
      replace HR : Aside0 (W1.heap[g]? = some (RB { s with vV := .slice V1 acc.length d1 } A1 (x :: m).length c1 e)) := by rw [hW1]; exact HR
      replace HP : Aside0 (PG W1 A1 (x :: m)) := by rw [hW1]; exact HP
      replace HB : Aside0 (Below w0.heap.size w0 W1) := by rw [hW1]; exact ⟨below_drew1 HB.out⟩
      replace HK : Aside0 (KeepBut w W1 g none) := by rw [hW1]; exact ⟨keep_drewN HK.out 1⟩
      replace HO : Aside0 (Own W1 w0.heap.size (.slice V1 acc.length d1) acc) := by rw [hW1]; exact HO
      clear hW1
      refine pw 0 20 (M 14 1) ?_
      refine pw 1 21 (M 14 3) ?_
      refine pw 2 22 (M 14 7) ?_
      refine pw 3 23 (M 14 15) ?_
      refine pw 4 24 (M 14 31) ?_
      refine pw 6 26 (M 14 95) ?_
      refine tw 5 25 (M 14 127) hHeld ?_
      refine ow 7 (some 27) (M 14 255) fun K hK => ?_
      refine gow Tryz.func130 #[.pointer (some ⟨g, 0, none⟩)] ?_
      refine (take_g g _ c1 e { s with vV := .slice V1 acc.length d1 } x m w0 _ HB.out hg hc1 HR.out HP.out).mono ?_
      rintro e3 W2 ⟨rfl, ⟨A2, c2, hc2, hR2, hP2⟩, hB2, hK2⟩
      rw [he]
      have HR2 := Aside0.mk hR2
      have HP2 := Aside0.mk hP2
      have HB2 := Aside0.mk hB2
      have HK2 := Aside0.mk hK2
      have HO2 := Aside0.mk (show Own W2 w0.heap.size (.slice V1 acc.length d1) acc from ownK HO.out HR.out (by decide) HK2.out)
      clear hR2 hP2 hB2 hK2
      refine ⟨_, rfl, ?_⟩
      refine hK.out _ _ ((blk_cell HR2.out 6).trans rfl) (fun hHeld => ?_)
      clear hK K
      refine nw 27 ?_
      refine ow 8 (some 28) (M 14 511) fun K hK => ?_
      refine value_ (w1 := ?_) (v := ?_) (by rfl) rfl ?_ ?_
      rotate_left 2
      · go_simp
        constructor
        · rfl
        · rfl
      refine hK.out _ _ ((blk_cell (aN HR2.out) 6).trans rfl) (fun hHeld => ?_)
      clear hK K
      refine nw 28 ?_
      refine ow 9 (some 29) (M 14 1023) fun K hK => ?_
      refine app_s (w0 := w0) w0.heap.size (by rfl) (.tmp 25) (.tmp 28) rfl (.slice V1 acc.length d1) acc x.2 rfl rfl HO2.out HB2.out HB2.out.size HLE.out ?_
      intro v3 W3 hO3 hB3 hG3 hat
      obtain ⟨V3, d3, e3⟩ := own_slice hO3
      subst e3
      have HO3 := Aside0.mk hO3
      have HB3 := Aside0.mk hB3
      have HG3 := Aside0.mk hG3
      have HAT := Aside0.mk hat
      have HR3 := Aside0.mk ((hG3.block g (Array.getElem?_eq_some_iff.1 HR2.out).1 (own_ne HO2.out HR2.out (by decide))).trans HR2.out)
      have HP3 := Aside0.mk (HP2.out.grown HO2.out (by decide) hG3)
      clear hO3 hB3 hG3 hat
      refine hK.out _ _ ((blk_cell HR3.out 6).trans rfl) (fun hHeld => ?_)
      clear hK K
      refine nw 29 ?_
      refine pw 10 30 (M 14 2047) ?_
      refine pw 11 31 (M 14 4095) ?_
      refine pw 12 32 (M 14 8191) ?_
      refine last_ (i := 13) (N := none) (M 14 16383) rfl rfl (by kernel_rfl) (by decide) (fun K hK => ?_)
      refine put_step (g := g) (off := 6) (cur := { s with vV := .slice V1 acc.length d1 }.cells A2 m.length c2 e) (new := { s with vV := .slice V3 (acc ++ [x.2]).length d3 }.cells A2 m.length c2 e) (seg := [.slice V3 (acc ++ [x.2]).length d3]) (u := .slice V3 (acc ++ [x.2]).length d3) rfl rfl rfl rfl rfl rfl (by rfl) (by kernel_rfl) rfl rfl (Nat.le_of_ble_eq_true rfl) HR3.out ?_
      intro W4 hk hp
      refine hK.out _ _ ?_
      clear hK K
      refine done_ (by kernel_rfl) ?_
      have hend := left_app hg HK.out HK2.out HV.out HO2.out HR2.out hc2 HG3.out HP3.out HB3.out HO3.out HR3.out HAT.out hp hk
      have HEND := Aside0.mk hend
      go_roundw
      case rel => exact ⟨_, _, _, _, _, _, _, _, _, _, _, _, _, _, _, _, _, _, _, _, _, _, _, _, _, _, _, _, _, _, _, ⟨acc ++ [x.2], m, _, ⟨HEND.out.1⟩, ⟨HEND.out.2.1⟩, ⟨HEND.out.2.2⟩, HE2, by simp only [List.length_append, List.length_cons, List.length_nil] at hn ⊢; omega⟩, rfl⟩
      case measure => rw [left_n hk, HLN.out]; simp
end Go.Proofs.YtpmcfckechjppaaGreatDoor.Ps
