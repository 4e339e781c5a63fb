/- isoglossref13.Made always comes to an image, whose rules cost from 0 to 100. -/
import Derived.Test.YtdjbanhoejegjaaDqP5
import Derived.Test.YtdjbanhoejegjaaDqP2
import Derived.Test.YtdjbanhoejegjaaDqP3
import Derived.Test.YtdjbanhoejegjaaDqP4
import Derived.Test.YtdjbanhoejegjaaDqP11
import Derived.Test.YtdjbanhoejegjaaDqLikely13
import Derived.Test.YtdjbanhoejegjaaDqMade12
namespace Go.Proofs.Ytdjbanhoejegjaa.LikW
open Go.RowKit Go.Proofs.YtdjbanhoejegjaaW.PrintWords Go.Proofs.YtdjbanhoejegjaaW.PrintLast Go.Proofs.Ytdjbanhoejegjaa.P
set_option linter.unusedVariables false
set_option linter.unusedSimpArgs false

def Ev {α : Type} (F : Nat → Option α) (r : α) : Prop := ∃ K, ∀ k, K ≤ k → F k = some r
theorem Ev.succ {α : Type} {F G : Nat → Option α} {r : α} (h : ∀ k, F (k + 1) = G k) (g : Ev G r) : Ev F r := by
  obtain ⟨K, hK⟩ := g
  refine ⟨K + 1, fun k hk => ?_⟩
  obtain ⟨m, rfl⟩ : ∃ m, k = m + 1 := ⟨k - 1, by omega⟩
  rw [h]
  exact hK m (by omega)
abbrev R13 := List S59 × List S66 × List S53 × List S69 × Int × Int
def OkR (r : R13) : Prop := r.2.2.1.length ≤ 1000 ∧ ∀ x ∈ r.2.2.1, 0 ≤ x.f1 ∧ x.f1 ≤ 100
def Gd (F : Nat → Option R13) : Prop := ∃ r, Ev F r ∧ OkR r
theorem Gd.succ {F G : Nat → Option R13} (g : Gd G) (h : ∀ k, F (k + 1) = G k) : Gd F := by
  obtain ⟨r, e, o⟩ := g
  exact ⟨r, e.succ h, o⟩
theorem Gd.bind {α : Type} {A : Nat → Option α} {a : α} {B : Nat → α → Option R13} (h : Ev A a) (g : Gd (fun k => B k a)) : Gd (fun k => (A k).bind (B k)) := by
  obtain ⟨r, ⟨K, e⟩, o⟩ := g
  obtain ⟨J, hJ⟩ := h
  refine ⟨r, ⟨max J K, fun k hk => ?_⟩, o⟩
  show (A k).bind (B k) = some r
  rw [hJ k (by omega)]
  exact e k (by omega)
theorem w1 (x : Int) (h0 : 0 ≤ x) (h1 : x ≤ 100000) : wrap64 (x + 1) = x + 1 := by unfold wrap64; omega
theorem rule_ev (a : Int) : ∃ t, Ev (fun k => isoglossref13_rule.f k a) t ∧ 0 ≤ t.2.1 ∧ t.2.1 ≤ 100 := by
  obtain ⟨q, h1, b1, b2⟩ := rest13_some a 9 (by omega) (by omega)
  obtain ⟨c, h2, c1, c2⟩ := rest13_some (wrap64 (Int.tdiv a 9)) 101 (by omega) (by omega)
  obtain ⟨o, h3, o1, o2⟩ := rest13_some (wrap64 (Int.tdiv a 3)) 2 (by omega) (by omega)
  have key : ∃ t, (∀ k, isoglossref13_rule.f (k + 2) a = some t) ∧ t.2.1 = c := by
    unfold isoglossref13_rule.f
    rw [h1, h2, h3]
    simp only [Option.bind_some]
    obtain rfl | rfl | rfl | rfl | rfl | rfl | rfl | rfl | rfl : q = 0 ∨ q = 1 ∨ q = 2 ∨ q = 3 ∨ q = 4 ∨ q = 5 ∨ q = 6 ∨ q = 7 ∨ q = 8 := by omega
    · exact ⟨(1, c, o == 1, ⟨#[110, 111]⟩, ⟨#[]⟩, ⟨#[]⟩, ⟨#[100, 101]⟩, ⟨#[]⟩, ⟨#[]⟩), fun k => by kernel_rfl, rfl⟩
    · exact ⟨(1, c, o == 1, ⟨#[101, 110]⟩, ⟨#[]⟩, ⟨#[]⟩, ⟨#[42]⟩, ⟨#[]⟩, ⟨#[]⟩), fun k => by kernel_rfl, rfl⟩
    · exact ⟨(1, c, o == 1, ⟨#[115, 114]⟩, ⟨#[]⟩, ⟨#[]⟩, ⟨#[114, 117]⟩, ⟨#[]⟩, ⟨#[]⟩), fun k => by kernel_rfl, rfl⟩
    · exact ⟨(2, c, o == 1, ⟨#[42]⟩, ⟨#[104, 97, 110, 116]⟩, ⟨#[]⟩, ⟨#[122, 104]⟩, ⟨#[104, 97, 110, 115]⟩, ⟨#[]⟩), fun k => by kernel_rfl, rfl⟩
    · exact ⟨(2, c, o == 1, ⟨#[42]⟩, ⟨#[104, 97, 110, 116]⟩, ⟨#[]⟩, ⟨#[122, 104]⟩, ⟨#[42]⟩, ⟨#[]⟩), fun k => by kernel_rfl, rfl⟩
    · exact ⟨(3, c, o == 1, ⟨#[42]⟩, ⟨#[42]⟩, ⟨#[36, 101, 117]⟩, ⟨#[42]⟩, ⟨#[108, 97, 116, 110]⟩, ⟨#[33, 101, 117]⟩), fun k => by kernel_rfl, rfl⟩
    · exact ⟨(3, c, o == 1, ⟨#[42]⟩, ⟨#[42]⟩, ⟨#[117, 115]⟩, ⟨#[42]⟩, ⟨#[108, 97, 116, 110]⟩, ⟨#[36, 101, 117]⟩), fun k => by kernel_rfl, rfl⟩
    · exact ⟨(3, c, o == 1, ⟨#[101, 110]⟩, ⟨#[42]⟩, ⟨#[103, 98]⟩, ⟨#[101, 110]⟩, ⟨#[42]⟩, ⟨#[33, 101, 117]⟩), fun k => by kernel_rfl, rfl⟩
    · exact ⟨(3, c, o == 1, ⟨#[101, 110]⟩, ⟨#[42]⟩, ⟨#[103, 98]⟩, ⟨#[101, 110]⟩, ⟨#[42]⟩, ⟨#[33, 101, 117]⟩), fun k => by kernel_rfl, rfl⟩
  obtain ⟨t, ht, hc⟩ := key
  refine ⟨t, ⟨2, fun k hk => ?_⟩, by omega, by omega⟩
  obtain ⟨m, rfl⟩ : ∃ m, k = m + 2 := ⟨k - 2, by omega⟩
  exact ht m
theorem order_some (a b : ByteArray) : ∃ c, isoglossref12_order.f a b = some c := by
  unfold isoglossref12_order.f
  (repeat' split) <;> exact ⟨_, rfl⟩
theorem comp_some (a0 : Int) (a1 a2 a3 a4 a5 : ByteArray) (b0 : Int) (b1 b2 b3 b4 b5 : ByteArray) : ∃ c, isoglossref12_Compare.f a0 a1 a2 a3 a4 a5 b0 b1 b2 b3 b4 b5 = some c := by
  obtain ⟨c, hc⟩ := order_some a1 b1
  obtain ⟨d, hd⟩ := order_some a2 b2
  unfold isoglossref12_Compare.f
  rw [hc, hd]
  simp only [Option.bind_some]
  (repeat' split) <;> exact ⟨_, rfl⟩
theorem spoilt_ok (xs0 : List S59) (xs1 : List S66) (xs2 : List S53) (xs3 : List S69) (a b o : Int) (h0 : xs0.length ≤ 100) (h1 : xs1.length ≤ 100) (h2 : xs2.length ≤ 100) (h2p : 1 ≤ xs2.length) (h3 : xs3.length ≤ 100) (hc : ∀ x ∈ xs2, 0 ≤ x.f1 ∧ x.f1 ≤ 100) :
    ∃ r, isoglossref13_spoilt.f xs0 xs1 xs2 xs3 a b o = some r ∧ OkR r := by
  have ok : ∀ (l : List S53), l.length ≤ 1000 → (∀ x ∈ l, x ∈ xs2 ∨ x.f1 = 0) → ∀ x0 x1 x3 x4 x5, OkR (x0, x1, l, x3, x4, x5) := fun l hl hm x0 x1 x3 x4 x5 => ⟨hl, fun x hx => (hm x hx).elim (hc x) (fun e => by omega)⟩
  have w2 : wrap64 ((xs2.length : Int) - 1) = (xs2.length : Int) - 1 := by unfold wrap64; omega
  unfold isoglossref13_spoilt.f
  by_cases e1 : o = 1
  · rw [if_pos e1]
    simp only [Option.bind_some]
    rw [if_pos (by simp only [List.length_cons, List.length_nil]; omega)]
    exact ⟨_, rfl, ok _ (by omega) (fun x hx => .inl hx) _ _ _ _ _⟩
  rw [if_neg e1]
  by_cases e2 : o = 2
  · rw [if_pos e2, if_pos (by omega)]
    exact ⟨_, rfl, ok _ (by omega) (fun x hx => .inl hx) _ _ _ _ _⟩
  rw [if_neg e2]
  by_cases e3 : o = 3
  · rw [if_pos e3, if_pos (by omega)]
    refine ⟨_, rfl, ok _ (by simp; omega) (fun x hx => ?_) _ _ _ _ _⟩
    rcases List.mem_append.1 hx with h | h
    · exact .inl h
    · rw [List.mem_singleton] at h
      exact .inr (by rw [h])
  rw [if_neg e3]
  by_cases e4 : o = 4
  · rw [if_pos e4, if_pos (by omega)]
    exact ⟨_, rfl, ok _ (by omega) (fun x hx => .inl hx) _ _ _ _ _⟩
  rw [if_neg e4]
  by_cases e5 : o = 5
  · rw [if_pos e5]
    exact ⟨_, rfl, ok _ (by omega) (fun x hx => .inl hx) _ _ _ _ _⟩
  rw [if_neg e5]
  by_cases e6 : o = 6
  · rw [if_pos e6, if_pos (by omega)]
    exact ⟨_, rfl, ok _ (by omega) (fun x hx => .inl hx) _ _ _ _ _⟩
  rw [if_neg e6]
  by_cases e7 : o = 7
  · rw [if_pos e7, w2, if_pos (by omega), if_pos (by omega)]
    exact ⟨_, rfl, ok _ (by rw [List.length_take]; omega) (fun x hx => .inl (List.mem_of_mem_take hx)) _ _ _ _ _⟩
  rw [if_neg e7]
  by_cases e8 : o = 8
  · rw [if_pos e8]
    simp only [Option.bind_some]
    rw [if_pos (by simp only [List.length_cons, List.length_nil]; omega)]
    refine ⟨_, rfl, ok _ (by simp; omega) (fun x hx => ?_) _ _ _ _ _⟩
    rcases List.mem_append.1 hx with h | h
    · rw [List.mem_singleton] at h
      exact .inr (by rw [h])
    · exact .inl h
  rw [if_neg e8]
  exact ⟨_, rfl, ok _ (by omega) (fun x hx => .inl hx) _ _ _ _ _⟩
section
variable (q0 : List S62) (q1 q2 q3 : List Int) (th de od : Int)
open isoglossref13_Made
theorem g7 (xs0 : List S59) (xs1 : List S66) (xs2 : List S53) (xs3 : List S69) (a b x15 : Int) (x16 : ByteArray) (hl : xs3.length ≤ 100)
    (H : ∀ ys : List S69, ys.length ≤ xs3.length + 1 → Gd fun k => l6 k (wrap64 (x15 + 1)) q0 q1 q2 q3 th de od xs0 xs1 xs2 ys a b) :
    ∀ (d : Nat) (x17 : Bool) (x18 : Int), 0 ≤ x18 → x18 + d = xs3.length → Gd fun k => l7 k x15 x16 x17 x18 q0 q1 q2 q3 th de od xs0 xs1 xs2 xs3 a b
  | 0, true, x18, h0, h => (H xs3 (by omega)).succ fun k => by rw [l7, if_neg (by omega), if_pos rfl]
  | 0, false, x18, h0, h => (H (xs3 ++ [⟨⟨#[101, 117]⟩, x16⟩]) (by simp)).succ fun k => by rw [l7, if_neg (by omega), if_neg (by simp), if_pos (by omega)]
  | d + 1, true, x18, h0, h => (g7 xs0 xs1 xs2 xs3 a b x15 x16 hl H d true (x18 + 1) (by omega) (by omega)).succ fun k => by rw [l7, if_pos (by omega), if_pos rfl, w1 x18 h0 (by omega)]
  | d + 1, false, x18, h0, h => (g7 xs0 xs1 xs2 xs3 a b x15 x16 hl H d _ (x18 + 1) (by omega) (by omega)).succ fun k => by rw [l7, if_pos (by omega), if_neg (by simp), if_pos h0, w1 x18 h0 (by omega)]
theorem g6 (xs0 : List S59) (xs1 : List S66) (xs2 : List S53) (a b : Int) (h0 : xs0.length ≤ 100) (h1 : xs1.length ≤ 100) (h2 : xs2.length ≤ 100) (h2p : 1 ≤ xs2.length) (hc : ∀ x ∈ xs2, 0 ≤ x.f1 ∧ x.f1 ≤ 100) :
    ∀ (d : Nat) (x15 : Int) (xs3 : List S69), 0 ≤ x15 → x15 + d = 6 → xs3.length ≤ 1 + x15.toNat → Gd fun k => l6 k x15 q0 q1 q2 q3 th de od xs0 xs1 xs2 xs3 a b := by
  have last : ∀ (x15 : Int) (xs3 : List S69), xs3.length ≤ 100 → Gd fun k => j10 k x15 false q0 q1 q2 q3 th de od xs0 xs1 xs2 xs3 a b := by
    intro x15 xs3 h3
    obtain ⟨q, hq, _, _⟩ := rest13_some od 12 (by omega) (by omega)
    obtain ⟨r, hr, hk⟩ := spoilt_ok xs0 xs1 xs2 xs3 a b q h0 h1 h2 h2p h3 hc
    refine ⟨r, ⟨1, fun k hk => ?_⟩, hk⟩
    obtain ⟨m, rfl⟩ : ∃ m, k = m + 1 := ⟨k - 1, by omega⟩
    show j10 (m + 1) _ _ _ _ _ _ _ _ _ _ _ _ _ _ _ = _
    rw [j10, if_neg (by simp), hq]
    simp only [Option.bind_some]
    rw [hr]
    rfl
  intro d
  induction d with
  | zero =>
    intro x15 xs3 hx0 hd h3
    have : x15 = 6 := by omega
    subst this
    by_cases hl : (6 : Int) < (q3.length : Int)
    · exact (last 6 xs3 (by omega)).succ fun k => by rw [l6, if_pos hl, show decide ((6 : Int) < 6) = false from rfl]
    · exact (last 6 xs3 (by omega)).succ fun k => by rw [l6, if_neg hl]
  | succ d ih =>
    intro x15 xs3 hx0 hd h3
    by_cases hl : x15 < (q3.length : Int)
    · obtain ⟨x16, _, hp⟩ := pick_mem [⟨#[102, 114]⟩, ⟨#[103, 98]⟩, ⟨#[117, 115]⟩, ⟨#[52, 49, 57]⟩, ⟨#[114, 111]⟩] (by decide) (by decide) (rd q3 x15)
      have hj : Gd fun k => j10 k x15 true q0 q1 q2 q3 th de od xs0 xs1 xs2 xs3 a b := by
        refine (g7 q0 q1 q2 q3 th de od xs0 xs1 xs2 xs3 a b x15 x16 (by omega) (fun ys hy => ?_) xs3.length false 0 (by omega) (by omega)).succ fun k => ?_
        · rw [w1 x15 hx0 (by omega)]
          exact ih (x15 + 1) ys (by omega) (by omega) (by omega)
        · rw [j10, if_pos rfl, if_pos hx0, if_pos hl, hp]
          rfl
      exact hj.succ fun k => by rw [l6, if_pos hl, decide_eq_true (by omega)]
    · exact (last x15 xs3 (by omega)).succ fun k => by rw [l6, if_neg hl]
theorem g8 (xs0 : List S59) (xs1 : List S66) (xs2 : List S53) (a b : Int) (h0 : xs0.length ≤ 100) (h1 : xs1.length ≤ 100) (h2 : xs2.length ≤ 50) (hc : ∀ x ∈ xs2, 0 ≤ x.f1 ∧ x.f1 ≤ 100) : Gd fun k => j8 k q0 q1 q2 q3 th de od xs0 xs1 xs2 a b := by
  have hg := fun (ys : List S53) (hy : ys.length = 3) (hz : ∀ x ∈ ys, 0 ≤ x.f1 ∧ x.f1 ≤ 100) => g6 q0 q1 q2 q3 th de od xs0 xs1 (xs2 ++ ys) a b h0 h1 (by rw [List.length_append]; omega) (by rw [List.length_append]; omega) (fun x hx => (List.mem_append.1 hx).elim (hc x) (hz x)) 6 0 [⟨⟨#[101, 117]⟩, ⟨#[100, 101]⟩⟩] (by omega) (by omega) (by simp)
  refine (hg [⟨1, 80, false, ⟨⟨#[42]⟩, ⟨#[]⟩, ⟨#[]⟩⟩, ⟨⟨#[42]⟩, ⟨#[]⟩, ⟨#[]⟩⟩⟩, ⟨2, 50, false, ⟨⟨#[42]⟩, ⟨#[42]⟩, ⟨#[]⟩⟩, ⟨⟨#[42]⟩, ⟨#[42]⟩, ⟨#[]⟩⟩⟩, ⟨3, 4, false, ⟨⟨#[42]⟩, ⟨#[42]⟩, ⟨#[42]⟩⟩, ⟨⟨#[42]⟩, ⟨#[42]⟩, ⟨#[42]⟩⟩⟩] rfl (by simp)).succ fun k => ?_
  rw [j8]
  simp only [Option.bind_some]
  rw [if_pos (by simp only [List.length_cons, List.length_nil]; omega), if_pos (by simp)]
  rfl
theorem g5 (xs0 : List S59) (xs1 : List S66) (a b : Int) (h0 : xs0.length ≤ 100) (h1 : xs1.length ≤ 100) :
    ∀ (d : Nat) (x14 : Int) (xs2 : List S53), 0 ≤ x14 → x14 + d = 8 → xs2.length ≤ x14.toNat → (∀ x ∈ xs2, 0 ≤ x.f1 ∧ x.f1 ≤ 100) → Gd fun k => l5 k x14 q0 q1 q2 q3 th de od xs0 xs1 xs2 a b := by
  intro d
  induction d with
  | zero =>
    intro x14 xs2 hx0 hd h2 hc
    by_cases hl : x14 < (q2.length : Int)
    · exact (g8 q0 q1 q2 q3 th de od xs0 xs1 xs2 a b h0 h1 (by omega) hc).succ fun k => by rw [l5, if_pos hl, if_neg (by omega)]
    · exact (g8 q0 q1 q2 q3 th de od xs0 xs1 xs2 a b h0 h1 (by omega) hc).succ fun k => by rw [l5, if_neg hl]
  | succ d ih =>
    intro x14 xs2 hx0 hd h2 hc
    by_cases hl : x14 < (q2.length : Int)
    · obtain ⟨t, ht, t0, t1⟩ := rule_ev (rd q2 x14)
      have hn := ih (x14 + 1) (xs2 ++ [⟨t.1, t.2.1, t.2.2.1, ⟨t.2.2.2.1, t.2.2.2.2.1, t.2.2.2.2.2.1⟩, ⟨t.2.2.2.2.2.2.1, t.2.2.2.2.2.2.2.1, t.2.2.2.2.2.2.2.2⟩⟩]) (by omega) (by omega) (by rw [List.length_append]; simp; omega)
        (fun x hx => (List.mem_append.1 hx).elim (hc x) (fun h => by rw [List.mem_singleton] at h; rw [h]; exact ⟨t0, t1⟩))
      have hb := Gd.bind (B := fun k bt => if xs2.length < 1172812402961 then l5 k (wrap64 (x14 + 1)) q0 q1 q2 q3 th de od xs0 xs1 (xs2 ++ [⟨bt.1, bt.2.1, bt.2.2.1, ⟨bt.2.2.2.1, bt.2.2.2.2.1, bt.2.2.2.2.2.1⟩, ⟨bt.2.2.2.2.2.2.1, bt.2.2.2.2.2.2.2.1, bt.2.2.2.2.2.2.2.2⟩⟩]) a b else none) ht (by
        rw [w1 x14 hx0 (by omega)]
        simp only [if_pos (show xs2.length < 1172812402961 by omega)]
        exact hn)
      exact hb.succ fun k => by rw [l5, if_pos hl, if_pos (by omega), if_pos hx0]
    · exact (g8 q0 q1 q2 q3 th de od xs0 xs1 xs2 a b h0 h1 (by omega) hc).succ fun k => by rw [l5, if_neg hl]
theorem g4 (xs0 : List S59) (xs1 x9 : List S66) (a b x8 x10 : Int) (hl : xs1.length ≤ 100) (h9 : x10 < x9.length) (h10 : 0 ≤ x10)
    (H : ∀ ys : List S66, ys.length ≤ xs1.length + 1 → Gd fun k => l3 k x8 x9 (wrap64 (x10 + 1)) q0 q1 q2 q3 th de od xs0 ys a b) :
    ∀ (d : Nat) (x11 : Bool) (x12 : Int), 0 ≤ x12 → x12 + d = xs1.length → Gd fun k => l4 k x8 x9 x10 x11 x12 q0 q1 q2 q3 th de od xs0 xs1 a b
  | 0, true, x12, h0, h => (H xs1 (by omega)).succ fun k => by rw [l4, if_neg (by omega), if_pos rfl]
  | 0, false, x12, h0, h => (H (xs1 ++ [⟨(rd_T66 x9 x10).f0, (rd_T66 x9 x10).f1, (rd_T66 x9 x10).f2, (rd_T66 x9 x10).f3, (rd_T66 x9 x10).f4, (rd_T66 x9 x10).f5⟩]) (by simp)).succ fun k => by rw [l4, if_neg (by omega), if_neg (by simp), if_pos h10, if_pos h9, if_pos (by omega)]
  | d + 1, true, x12, h0, h => (g4 xs0 xs1 x9 a b x8 x10 hl h9 h10 H d true (x12 + 1) (by omega) (by omega)).succ fun k => by rw [l4, if_pos (by omega), if_pos h0, if_pos rfl, w1 x12 h0 (by omega)]
  | d + 1, false, x12, h0, h => by
    by_cases e0 : ((rd_T66 xs1 x12).f0).toList = ((rd_T66 x9 x10).f0).toList
    · by_cases e1 : ((rd_T66 xs1 x12).f1).toList = ((rd_T66 x9 x10).f1).toList
      · exact (g4 xs0 xs1 x9 a b x8 x10 hl h9 h10 H d _ (x12 + 1) (by omega) (by omega)).succ fun k => by rw [l4, if_pos (by omega), if_pos h0, if_neg (by simp), if_pos h10, if_pos h9, if_pos e0, if_pos e1, w1 x12 h0 (by omega)]
      · exact (g4 xs0 xs1 x9 a b x8 x10 hl h9 h10 H d _ (x12 + 1) (by omega) (by omega)).succ fun k => by rw [l4, if_pos (by omega), if_pos h0, if_neg (by simp), if_pos h10, if_pos h9, if_pos e0, if_neg e1, w1 x12 h0 (by omega)]
    · exact (g4 xs0 xs1 x9 a b x8 x10 hl h9 h10 H d _ (x12 + 1) (by omega) (by omega)).succ fun k => by rw [l4, if_pos (by omega), if_pos h0, if_neg (by simp), if_pos h10, if_pos h9, if_neg e0, w1 x12 h0 (by omega)]
theorem g3 (xs0 : List S59) (x9 : List S66) (a b x8 : Int) (n : Nat) (hn : n ≤ 50) (h9 : x9.length ≤ 2)
    (H : ∀ ys : List S66, ys.length ≤ n + 2 → Gd fun k => l2 k (wrap64 (x8 + 1)) q0 q1 q2 q3 th de od xs0 ys a b) :
    ∀ (d : Nat) (x10 : Int) (xs1 : List S66), 0 ≤ x10 → x10 + d = x9.length → xs1.length ≤ n + x10.toNat → Gd fun k => l3 k x8 x9 x10 q0 q1 q2 q3 th de od xs0 xs1 a b := by
  intro d
  induction d with
  | zero =>
    intro x10 xs1 h0 h hl
    exact (H xs1 (by omega)).succ fun k => by rw [l3, if_neg (by omega)]
  | succ d ih =>
    intro x10 xs1 h0 h hl
    refine (g4 q0 q1 q2 q3 th de od xs0 xs1 x9 a b x8 x10 (by omega) (by omega) h0 (fun ys hy => ?_) xs1.length false 0 (by omega) (by omega)).succ fun k => by rw [l3, if_pos (by omega)]
    rw [w1 x10 h0 (by omega)]
    exact ih (x10 + 1) ys (by omega) (by omega) (by omega)
theorem g2 (xs0 : List S59) (a b : Int) (hx : xs0.length ≤ 100) :
    ∀ (d : Nat) (x8 : Int) (xs1 : List S66), 0 ≤ x8 → x8 + d = 8 → xs1.length ≤ 2 * x8.toNat → Gd fun k => l2 k x8 q0 q1 q2 q3 th de od xs0 xs1 a b := by
  have last : ∀ (x8 : Int) (xs1 : List S66), xs1.length ≤ 100 → Gd fun k => j4 k x8 false q0 q1 q2 q3 th de od xs0 xs1 a b := fun x8 xs1 h1 =>
    (g5 q0 q1 q2 q3 th de od xs0 xs1 a b hx h1 8 0 [] (by omega) (by omega) (by simp) (by simp)).succ fun k => by rw [j4, if_neg (by simp)]
  intro d
  induction d with
  | zero =>
    intro x8 xs1 hx0 hd h1
    have : x8 = 8 := by omega
    subst this
    by_cases hl : (8 : Int) < (q1.length : Int)
    · exact (last 8 xs1 (by omega)).succ fun k => by rw [l2, if_pos hl, show decide ((8 : Int) < 8) = false from rfl]
    · exact (last 8 xs1 (by omega)).succ fun k => by rw [l2, if_neg hl]
  | succ d ih =>
    intro x8 xs1 hx0 hd h1
    by_cases hl : x8 < (q1.length : Int)
    · obtain ⟨x9, hp, h9⟩ := isoglossref13_likely.some_ (rd q1 x8)
      have hj : Gd fun k => j4 k x8 true q0 q1 q2 q3 th de od xs0 xs1 a b := by
        refine (g3 q0 q1 q2 q3 th de od xs0 x9 a b x8 xs1.length (by omega) h9 (fun ys hy => ?_) x9.length 0 xs1 (by omega) (by omega) (by omega)).succ fun k => ?_
        · rw [w1 x8 hx0 (by omega)]
          exact ih (x8 + 1) ys (by omega) (by omega) (by omega)
        · rw [j4, if_pos rfl, if_pos hx0, if_pos hl, hp]
          rfl
      exact hj.succ fun k => by rw [l2, if_pos hl, decide_eq_true (by omega)]
    · exact (last x8 xs1 (by omega)).succ fun k => by rw [l2, if_neg hl]
theorem g1 (xs0 : List S59) (a b x4 t0 : Int) (t1 t2 t3 t4 t5 : ByteArray) (hl : xs0.length ≤ 100)
    (H : ∀ ys : List S59, ys.length ≤ xs0.length + 1 → Gd fun k => l0 k (wrap64 (x4 + 1)) q0 q1 q2 q3 th de od ys a b) :
    ∀ (d : Nat) (x6 : Bool) (x7 : Int), 0 ≤ x7 → x7 + d = xs0.length → Gd fun k => l1 k x4 x6 x7 q0 q1 q2 q3 th de od xs0 a b t0 t1 t2 t3 t4 t5
  | 0, true, x7, h0, h => (H xs0 (by omega)).succ fun k => by rw [l1, if_neg (by omega), if_pos rfl]
  | 0, false, x7, h0, h => (H (xs0 ++ [⟨t0, t1, t2, t3, t4, t5⟩]) (by simp)).succ fun k => by rw [l1, if_neg (by omega), if_neg (by simp), if_pos (by omega)]
  | d + 1, true, x7, h0, h => (g1 xs0 a b x4 t0 t1 t2 t3 t4 t5 hl H d true (x7 + 1) (by omega) (by omega)).succ fun k => by rw [l1, if_pos (by omega), if_pos rfl, w1 x7 h0 (by omega)]
  | d + 1, false, x7, h0, h => by
    obtain ⟨c, hc⟩ := comp_some (rd_T59 xs0 x7).f0 (rd_T59 xs0 x7).f1 (rd_T59 xs0 x7).f2 (rd_T59 xs0 x7).f3 (rd_T59 xs0 x7).f4 (rd_T59 xs0 x7).f5 t0 t1 t2 t3 t4 t5
    exact (g1 xs0 a b x4 t0 t1 t2 t3 t4 t5 hl H d (c == 0) (x7 + 1) (by omega) (by omega)).succ fun k => by rw [l1, if_pos (by omega), if_neg (by simp), if_pos h0, hc, w1 x7 h0 (by omega)]; rfl
theorem g0 (a b : Int) :
    ∀ (d : Nat) (x4 : Int) (xs0 : List S59), 0 ≤ x4 → x4 + d = 8 → xs0.length ≤ x4.toNat → Gd fun k => l0 k x4 q0 q1 q2 q3 th de od xs0 a b := by
  have last : ∀ (x4 : Int) (xs0 : List S59), xs0.length ≤ 100 → Gd fun k => j1 k x4 false q0 q1 q2 q3 th de od xs0 a b := fun x4 xs0 h1 =>
    (g2 q0 q1 q2 q3 th de od xs0 a b h1 8 0 [] (by omega) (by omega) (by simp)).succ fun k => by rw [j1, if_neg (by simp)]
  intro d
  induction d with
  | zero =>
    intro x4 xs0 hx0 hd h1
    have : x4 = 8 := by omega
    subst this
    by_cases hl : (8 : Int) < (q0.length : Int)
    · exact (last 8 xs0 (by omega)).succ fun k => by rw [l0, if_pos hl, show decide ((8 : Int) < 8) = false from rfl]
    · exact (last 8 xs0 (by omega)).succ fun k => by rw [l0, if_neg hl]
  | succ d ih =>
    intro x4 xs0 hx0 hd h1
    by_cases hl : x4 < (q0.length : Int)
    · obtain ⟨t, hp⟩ := isoglossref12_Made.some_ (rd_T62 q0 x4).f0 (rd_T62 q0 x4).f1 (rd_T62 q0 x4).f2 (rd_T62 q0 x4).f3 (rd_T62 q0 x4).f4 (rd_T62 q0 x4).f5 (rd_T62 q0 x4).f6
      have hj : Gd fun k => j1 k x4 true q0 q1 q2 q3 th de od xs0 a b := by
        refine (g1 q0 q1 q2 q3 th de od xs0 a b x4 t.1 t.2.1 t.2.2.1 t.2.2.2.1 t.2.2.2.2.1 t.2.2.2.2.2 (by omega) (fun ys hy => ?_) xs0.length false 0 (by omega) (by omega)).succ fun k => ?_
        · rw [w1 x4 hx0 (by omega)]
          exact ih (x4 + 1) ys (by omega) (by omega) (by omega)
        · rw [j1, if_pos rfl, if_pos hx0, if_pos hl, hp]
          rfl
      exact hj.succ fun k => by rw [l0, if_pos hl, decide_eq_true (by omega)]
    · exact (last x4 xs0 (by omega)).succ fun k => by rw [l0, if_neg hl]
end
theorem made13_some (q0 : List S62) (q1 q2 q3 : List Int) (th de od : Int) : ∃ k r, isoglossref13_Made.f k q0 q1 q2 q3 th de od = some r ∧ OkR r := by
  obtain ⟨a, ha, _, _⟩ := rest13_some th 256 (by omega) (by omega)
  obtain ⟨b, hb, _, _⟩ := rest13_some de 30 (by omega) (by omega)
  obtain ⟨r, ⟨K, hK⟩, ok⟩ := g0 q0 q1 q2 q3 th de od a b 8 0 [] (by omega) (by omega) (by simp)
  refine ⟨K, r, ?_, ok⟩
  unfold isoglossref13_Made.f
  rw [ha, hb]
  exact hK K (Nat.le_refl _)
theorem plain_some (a b c : Int) : ∃ d0 d1 d2, isoglosslaw22_plain.f a b c = some (d0, d1, d2) ∧ d0 ≠ ⟨#[113, 113, 113]⟩ := by
  unfold isoglosslaw22_plain.f
  obtain ⟨x, hm, hx⟩ := pick_mem [⟨#[101, 110]⟩, ⟨#[122, 104]⟩, ⟨#[115, 114]⟩, ⟨#[110, 98]⟩, ⟨#[100, 97]⟩, ⟨#[110, 111]⟩, ⟨#[100, 101]⟩, ⟨#[114, 117]⟩, ⟨#[104, 97, 110, 116]⟩, ⟨#[101, 115]⟩, ⟨#[105, 100]⟩, ⟨#[109, 115]⟩] (by decide) (by decide) a
  obtain ⟨y, _, hy⟩ := pick_mem [⟨#[108, 97, 116, 110]⟩, ⟨#[104, 97, 110, 115]⟩, ⟨#[104, 97, 110, 116]⟩, ⟨#[99, 121, 114, 108]⟩, ⟨#[]⟩] (by decide) (by decide) b
  obtain ⟨z, _, hz⟩ := pick_mem [⟨#[117, 115]⟩, ⟨#[103, 98]⟩, ⟨#[100, 101]⟩, ⟨#[102, 114]⟩, ⟨#[52, 49, 57]⟩, ⟨#[109, 120]⟩, ⟨#[114, 111]⟩, ⟨#[112, 114]⟩, ⟨#[]⟩] (by decide) (by decide) c
  rw [hx, hy, hz]
  refine ⟨x, y, z, rfl, fun e => ?_⟩
  have h : ([⟨#[101, 110]⟩, ⟨#[122, 104]⟩, ⟨#[115, 114]⟩, ⟨#[110, 98]⟩, ⟨#[100, 97]⟩, ⟨#[110, 111]⟩, ⟨#[100, 101]⟩, ⟨#[114, 117]⟩, ⟨#[104, 97, 110, 116]⟩, ⟨#[101, 115]⟩, ⟨#[105, 100]⟩, ⟨#[109, 115]⟩].all fun s : ByteArray => !(s == ⟨#[113, 113, 113]⟩)) = true := by kernel_rfl
  have := List.all_eq_true.1 h x hm
  rw [e] at this
  revert this
  decide
end Go.Proofs.Ytdjbanhoejegjaa.LikW
