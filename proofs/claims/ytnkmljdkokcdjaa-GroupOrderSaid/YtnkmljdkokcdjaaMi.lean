/-
  What raft promises, in plain Lean: what is known of nodes and messages goes on with each step.
-/
import Derived.Test.YtnkmljdkokcdjaaMh
set_option linter.unusedVariables false
set_option linter.unusedSimpArgs false
namespace Fed
open Go Go.RowKit
set_option linter.unusedVariables false

/-- Two logs are the same up to c, and both reach it. -/
def agree (l L : List Entry) (c : Nat) : Prop := c ≤ l.length ∧ c ≤ L.length ∧ l.take c = L.take c
namespace agree
variable {a b d x : List Entry} {c e : Nat}
theorem refl (h : c ≤ a.length) : agree a a c := ⟨h, h, rfl⟩
theorem symm (h : agree a b c) : agree b a c := ⟨h.2.1, h.1, h.2.2.symm⟩
theorem trans (h : agree a b c) (h' : agree b d c) : agree a d c := ⟨h.1, h'.2.1, h.2.2.trans h'.2.2⟩
theorem mono (h : agree a b c) (he : e ≤ c) : agree a b e := by
  refine ⟨Nat.le_trans he h.1, Nat.le_trans he h.2.1, ?_⟩
  have := congrArg (List.take e) h.2.2
  rwa [List.take_take, List.take_take, Nat.min_eq_left he] at this
theorem zero : agree a b 0 := ⟨Nat.zero_le _, Nat.zero_le _, by simp⟩
theorem appl (h : agree a b c) : agree (a ++ x) b c := by
  refine ⟨by rw [List.length_append]; exact Nat.le_trans h.1 (Nat.le_add_right _ _), h.2.1, ?_⟩
  rw [List.take_append_of_le_length h.1]
  exact h.2.2
theorem appr (h : agree a b c) : agree a (b ++ x) c := h.symm.appl.symm
theorem of_appl (h : agree (a ++ x) b c) (hc : c ≤ a.length) : agree a b c := by
  refine ⟨hc, h.2.1, ?_⟩
  have := h.2.2
  rwa [List.take_append_of_le_length hc] at this
theorem of_appr (h : agree a (b ++ x) c) (hc : c ≤ b.length) : agree a b c := (h.symm.of_appl hc).symm
theorem get (h : agree a b c) {k : Nat} (hk : k < c) : a[k]? = b[k]? := by
  have := congrArg (fun l => l[k]?) h.2.2
  simpa [List.getElem?_take, hk] using this
end agree
theorem termAt_eq {l : List Entry} {k : Nat} (h1 : 1 ≤ k) (h2 : k ≤ l.length) : termAt l (k : Int) = ((l[k - 1]?).map (·.term)).getD 0 := by
  unfold termAt
  rw [if_pos ⟨by omega, by omega⟩, show ((k : Int) - 1).toNat = k - 1 from by omega]
theorem termAt_zero (l : List Entry) : termAt l ((0 : Nat) : Int) = 0 := by
  unfold termAt
  rw [if_neg (by omega)]
theorem agree.term {a b : List Entry} {c k : Nat} (h : agree a b c) (h1 : 1 ≤ k) (hk : k ≤ c) : termAt a (k : Int) = termAt b (k : Int) := by
  rw [termAt_eq h1 (Nat.le_trans hk h.1), termAt_eq h1 (Nat.le_trans hk h.2.1), h.get (show k - 1 < c by omega)]
theorem termAt_append {l x : List Entry} {k : Nat} (h : k ≤ l.length) : termAt (l ++ x) (k : Int) = termAt l (k : Int) := by
  by_cases h1 : 1 ≤ k
  · exact ((agree.refl (a := l) h).appl (x := x)).term h1 (Nat.le_refl _)
  · obtain rfl : k = 0 := by omega
    rw [termAt_zero, termAt_zero]
theorem termAt_new {l x : List Entry} {k : Nat} {t : Int} (hx : ∀ e, e ∈ x → e.term = t) (h1 : l.length < k) (h2 : k ≤ (l ++ x).length) : termAt (l ++ x) (k : Int) = t := by
  rw [termAt_eq (by omega) h2, List.getElem?_append_right (by omega)]
  rw [List.length_append] at h2
  rw [List.getElem?_eq_getElem (by omega)]
  exact hx _ (List.getElem_mem _)

/-- What is remembered: who voted for whom in a term, with which log one stood, who led, his log, who was counted, how far each has what the leader has. -/
structure Ghost where
  V : Int → Nat → Option Nat
  Cd : Int → Nat → Option (List Entry)
  Ldr : Int → Option Nat
  LL : Int → List Entry
  Q : Int → List Bool
  A : Int → Nat → Nat
/-- Each entry stands in a log of the leader of its term, with what is ahead of it. -/
def WF (G : Ghost) (l : List Entry) : Prop := ∀ k : Nat, 1 ≤ k → k ≤ l.length → 1 ≤ termAt l (k : Int) ∧ (∃ a, G.Ldr (termAt l (k : Int)) = some a) ∧ agree l (G.LL (termAt l (k : Int))) k
def Maj (k : Nat) (q : List Bool) : Prop := q.length = k ∧ k < 2 * countT q
/-- A majority has what the leader of t has, up to c. -/
def Cmt (k : Nat) (G : Ghost) (t : Int) (c : Nat) : Prop := (∃ a, G.Ldr t = some a) ∧ 1 ≤ c ∧ c ≤ (G.LL t).length ∧ termAt (G.LL t) (c : Int) = t ∧ ∃ q, Maj k q ∧ ∀ j, q.getD j false = true → c ≤ G.A t j
/-- A later leader has something else. -/
def Over (G : Ghost) (t u' : Int) (c : Nat) : Prop := ∃ u, t < u ∧ u ≤ u' ∧ (∃ a, G.Ldr u = some a) ∧ ¬ agree (G.LL u) (G.LL t) c
def CmOk (k : Nat) (G : Ghost) (T : Int) (l : List Entry) (c : Nat) : Prop := c = 0 ∨ ∃ t c', t ≤ T ∧ Cmt k G t c' ∧ c ≤ c' ∧ agree l (G.LL t) c
structure GInv (k : Nat) (G : Ghost) : Prop where
  ll : ∀ t a, G.Ldr t = some a → WF G (G.LL t) ∧ 1 ≤ t ∧ ∀ x : Nat, 1 ≤ x → x ≤ (G.LL t).length → termAt (G.LL t) (x : Int) ≤ t
  ldr : ∀ t a, G.Ldr t = some a → Maj k (G.Q t) ∧ ∀ j, (G.Q t).getD j false = true → G.V t j = some a ∧ ∀ t0 c, t0 < t → 1 ≤ c → c ≤ G.A t0 j → termAt (G.LL t0) (c : Int) = t0 → agree (G.LL t) (G.LL t0) c ∨ Over G t0 (t - 1) c
  cd : ∀ t i l, G.Cd t i = some l → WF G l ∧ 1 ≤ t ∧ ∀ x : Nat, 1 ≤ x → x ≤ l.length → termAt l (x : Int) < t
  vt : ∀ t j i, G.V t j = some i → ∃ l, G.Cd t i = some l ∧ ∀ t0 c, t0 < t → 1 ≤ c → c ≤ G.A t0 j → termAt (G.LL t0) (c : Int) = t0 → agree l (G.LL t0) c ∨ Over G t0 t c
  a : ∀ t j, 1 ≤ G.A t j → (∃ a, G.Ldr t = some a) ∧ G.A t j ≤ (G.LL t).length
/-- What is remembered grows, of one node i. -/
structure Ext (i : Nat) (G G' : Ghost) : Prop where
  ld : ∀ t a, G.Ldr t = some a → G'.Ldr t = some a
  ld' : ∀ t a, G'.Ldr t = some a → G.Ldr t = some a ∨ a = i
  ll : ∀ t a, G.Ldr t = some a → ∃ x, G'.LL t = G.LL t ++ x ∧ ∀ e, e ∈ x → e.term = t
  ll' : ∀ t a, G.Ldr t = some a → a ≠ i → G'.LL t = G.LL t
  v : ∀ t j a, G.V t j = some a → G'.V t j = some a
  v' : ∀ t j, j ≠ i → G'.V t j = G.V t j
  cd : ∀ t j l, G.Cd t j = some l → G'.Cd t j = some l
  cd' : ∀ t j, j ≠ i → G'.Cd t j = G.Cd t j
  a : ∀ t j, G.A t j ≤ G'.A t j
  a' : ∀ t j, j ≠ i → G'.A t j = G.A t j
namespace Ext
variable {i k : Nat} {G G' G2 : Ghost} {l : List Entry} {c : Nat} {t u T : Int}
theorem refl (i : Nat) (G : Ghost) : Ext i G G := ⟨fun _ _ h => h, fun _ _ h => .inl h, fun _ _ _ => ⟨[], by simp, by simp⟩, fun _ _ _ _ => rfl, fun _ _ _ h => h, fun _ _ _ => rfl, fun _ _ _ h => h, fun _ _ _ => rfl, fun _ _ => Nat.le_refl _, fun _ _ _ => rfl⟩
theorem trans (h : Ext i G G') (h' : Ext i G' G2) : Ext i G G2 where
  ld t a e := h'.ld t a (h.ld t a e)
  ld' t a e := by
    rcases h'.ld' t a e with e | e
    · exact h.ld' t a e
    · exact .inr e
  ll t a e := by
    obtain ⟨x, e1, e2⟩ := h.ll t a e
    obtain ⟨y, e3, e4⟩ := h'.ll t a (h.ld t a e)
    exact ⟨x ++ y, by rw [e3, e1, List.append_assoc], fun z hz => by rcases List.mem_append.1 hz with hz | hz; exact e2 z hz; exact e4 z hz⟩
  ll' t a e q := (h'.ll' t a (h.ld t a e) q).trans (h.ll' t a e q)
  v t j a e := h'.v t j a (h.v t j a e)
  v' t j e := (h'.v' t j e).trans (h.v' t j e)
  cd t j l e := h'.cd t j l (h.cd t j l e)
  cd' t j e := (h'.cd' t j e).trans (h.cd' t j e)
  a t j := Nat.le_trans (h.a t j) (h'.a t j)
  a' t j e := (h'.a' t j e).trans (h.a' t j e)
theorem agree (h : Ext i G G') (hl : ∃ a, G.Ldr t = some a) (ha : Fed.agree l (G.LL t) c) : Fed.agree l (G'.LL t) c := by
  obtain ⟨a, hl⟩ := hl
  obtain ⟨x, e, _⟩ := h.ll t a hl
  rw [e]
  exact ha.appr
theorem agree2 (h : Ext i G G') (hl : ∃ a, G.Ldr u = some a) (hl' : ∃ a, G.Ldr t = some a) (ha : Fed.agree (G.LL u) (G.LL t) c) : Fed.agree (G'.LL u) (G'.LL t) c := (h.agree hl (h.agree hl' ha).symm).symm
theorem wf (h : Ext i G G') (hw : WF G l) : WF G' l := fun x h1 h2 => by
  obtain ⟨k1, ⟨a, k2⟩, k3⟩ := hw x h1 h2
  exact ⟨k1, ⟨a, h.ld _ _ k2⟩, h.agree ⟨a, k2⟩ k3⟩
theorem len (h : Ext i G G') (hl : ∃ a, G.Ldr t = some a) : (G.LL t).length ≤ (G'.LL t).length := by
  obtain ⟨a, hl⟩ := hl
  obtain ⟨x, e, _⟩ := h.ll t a hl
  rw [e, List.length_append]
  exact Nat.le_add_right _ _
theorem term (h : Ext i G G') (hl : ∃ a, G.Ldr t = some a) (hc : c ≤ (G.LL t).length) : termAt (G'.LL t) (c : Int) = termAt (G.LL t) (c : Int) := by
  obtain ⟨a, hl⟩ := hl
  obtain ⟨x, e, _⟩ := h.ll t a hl
  rw [e, termAt_append hc]
theorem nagree (h : Ext i G G') (hg : GInv k G) (hu : ∃ a, G.Ldr u = some a) (ht : ∃ a, G.Ldr t = some a) (htu : t < u) (hc : c ≤ (G.LL t).length) (hn : ¬ Fed.agree (G.LL u) (G.LL t) c) : ¬ Fed.agree (G'.LL u) (G'.LL t) c := by
  intro ha
  obtain ⟨a, hu⟩ := hu
  obtain ⟨b, ht⟩ := ht
  obtain ⟨x, e1, e2⟩ := h.ll u a hu
  obtain ⟨y, e3, _⟩ := h.ll t b ht
  rw [e1, e3] at ha
  have hb := ha.of_appr hc
  by_cases hcu : c ≤ (G.LL u).length
  · exact hn (hb.of_appl hcu)
  · have h1 := hb.1
    have h2 := termAt_new (l := G.LL u) (x := x) (k := (G.LL u).length + 1) (t := u) e2 (by omega) (by omega)
    have h3 := hb.term (k := (G.LL u).length + 1) (by omega) (by omega)
    have h4 := (hg.ll t b ht).2.2 ((G.LL u).length + 1) (by omega) (by omega)
    rw [h2] at h3
    omega
theorem over (h : Ext i G G') (hg : GInv k G) (ht : ∃ a, G.Ldr t = some a) (hc : c ≤ (G.LL t).length) (ho : Over G t u c) : Over G' t u c := by
  obtain ⟨v, h1, h2, h3, h4⟩ := ho
  exact ⟨v, h1, h2, by obtain ⟨a, h3⟩ := h3; exact ⟨a, h.ld _ _ h3⟩, h.nagree hg h3 ht h1 hc h4⟩
theorem cmt (h : Ext i G G') (hc : Cmt k G t c) : Cmt k G' t c := by
  obtain ⟨h0, h1, h2, h3, q, h4, h5⟩ := hc
  exact ⟨by obtain ⟨a, h0⟩ := h0; exact ⟨a, h.ld _ _ h0⟩, h1, Nat.le_trans h2 (h.len h0), by rw [h.term h0 h2, h3], q, h4, fun j hj => Nat.le_trans (h5 j hj) (h.a t j)⟩
theorem cmOk (h : Ext i G G') (hc : CmOk k G T l c) : CmOk k G' T l c := by
  rcases hc with hc | ⟨t, c', h1, h2, h3, h4⟩
  · exact .inl hc
  · exact .inr ⟨t, c', h1, h.cmt h2, h3, h.agree h2.1 h4⟩
end Ext
theorem Over.mono {G : Ghost} {t u u' : Int} {c : Nat} (h : Over G t u c) (hu : u ≤ u') : Over G t u' c := by
  obtain ⟨v, h1, h2, h3, h4⟩ := h
  exact ⟨v, h1, by omega, h3, h4⟩
/-- Two majorities have one in common. -/
theorem count_both : ∀ {a b : List Bool}, a.length = b.length → a.length < countT a + countT b → ∃ j, a.getD j false = true ∧ b.getD j false = true
  | [], b, h, h' => by
    have h1 := countT_le b
    have h2 : countT ([] : List Bool) = 0 := rfl
    have h3 : ([] : List Bool).length = 0 := rfl
    omega
  | x :: a, [], h, h' => by simp at h
  | x :: a, y :: b, h, h' => by
    have hl : a.length = b.length := by simpa using h
    by_cases hxy : x = true ∧ y = true
    · exact ⟨0, by simp [hxy.1], by simp [hxy.2]⟩
    · have hlt : a.length < countT a + countT b := by
        revert h' hxy
        cases x <;> cases y <;> simp [countT] <;> omega
      obtain ⟨j, h1, h2⟩ := count_both hl hlt
      exact ⟨j + 1, by simpa using h1, by simpa using h2⟩
theorem Maj.both {k : Nat} {a b : List Bool} (h : Maj k a) (h' : Maj k b) : ∃ j, a.getD j false = true ∧ b.getD j false = true :=
  count_both (h.1.trans h'.1.symm) (by have := h.1; have := h.2; have := h'.2; omega)
/-- Each later leader has what a majority has. -/
theorem complete {k : Nat} {G : Ghost} (hg : GInv k G) {t : Int} {c : Nat} (hc : Cmt k G t c) : ∀ (d : Nat) (u : Int), u - t ≤ d → t < u → (∃ a, G.Ldr u = some a) → agree (G.LL u) (G.LL t) c
  | 0, u, h1, h2, _ => by omega
  | d + 1, u, h1, h2, ⟨a, h3⟩ => by
    obtain ⟨h4, h5, h6, h7, q, h8, h9⟩ := hc
    obtain ⟨m, hq⟩ := hg.ldr u a h3
    obtain ⟨j, j1, j2⟩ := m.both h8
    rcases (hq j j1).2 t c h2 h5 (h9 j j2) h7 with h | ⟨v, v1, v2, v3, v4⟩
    · exact h
    · exact absurd (complete hg ⟨h4, h5, h6, h7, q, h8, h9⟩ d v (by omega) v1 v3) v4
theorem Cmt.later {k : Nat} {G : Ghost} {t : Int} {c : Nat} (hc : Cmt k G t c) (hg : GInv k G) {u : Int} (hu : t < u) (hl : ∃ a, G.Ldr u = some a) : agree (G.LL u) (G.LL t) c := complete hg hc (u - t).toNat u (by omega) hu hl

/-- What is known of a node. -/
structure NInv (k : Nat) (G : Ghost) (j : Nat) (n : Node) : Prop where
  id : n.id = j
  jk : j < k
  v : n.votes.length = k
  x : n.nxt.length = k
  m : n.mtch.length = k
  f : n.forms.length = k
  wf : WF G n.log
  lt : ∀ x : Nat, 1 ≤ x → x ≤ n.log.length → termAt n.log (x : Int) ≤ n.term
  t0 : 0 ≤ n.term
  vn : n.vote = -1 → G.V n.term j = none
  vs : n.vote ≠ -1 → 0 ≤ n.vote ∧ G.V n.term j = some n.vote.toNat
  top : ∀ t, n.term < t → G.V t j = none ∧ G.Cd t j = none
  cand : n.role = 1 → G.Cd n.term j = some n.log ∧ ∀ x, n.votes.getD x false = true → G.V n.term x = some j
  ld : ∀ t, G.Ldr t = some j → t ≤ n.term ∧ (t = n.term → n.role ≠ 1)
  lead : n.role = 2 → G.Ldr n.term = some j ∧ n.log = G.LL n.term ∧ ∀ x, x < k → (1 ≤ n.nxt.getD x 0 ∧ n.nxt.getD x 0 ≤ n.log.length + 1) ∧ 0 ≤ n.mtch.getD x 0 ∧ n.mtch.getD x 0 ≤ G.A n.term x
  ack : ∀ t c, 1 ≤ c → c ≤ G.A t j → t ≤ n.term ∧ (agree n.log (G.LL t) c ∨ Over G t n.term c)
  cm : 0 ≤ n.commit ∧ CmOk k G n.term n.log n.commit.toNat
/-- What is known of a message. -/
structure MInv (k : Nat) (G : Ghost) (m : Msg) : Prop where
  k0 : 1 ≤ m.kind
  k1 : m.kind ≤ 4
  f0 : 0 ≤ m.frm
  f1 : m.frm < k
  t0 : 0 ≤ m.to
  t1 : m.to < k
  i0 : 0 ≤ m.index
  ne : m.to ≠ m.frm
  ask : m.kind = 1 → ∃ l, G.Cd m.term m.frm.toNat = some l ∧ m.index = l.length ∧ m.logTerm = termAt l l.length
  vote : m.kind = 2 → m.ok = true → G.V m.term m.frm.toNat = some m.to.toNat
  app : m.kind = 3 → G.Ldr m.term = some m.frm.toNat ∧ m.to ≠ m.frm ∧ m.index.toNat + m.entries.length ≤ (G.LL m.term).length ∧ m.entries = ((G.LL m.term).drop m.index.toNat).take m.entries.length ∧ (0 < m.index → m.logTerm = termAt (G.LL m.term) m.index) ∧ 0 ≤ m.commit ∧ CmOk k G m.term (G.LL m.term) m.commit.toNat
  ack : m.kind = 4 → m.ok = true → m.index.toNat ≤ G.A m.term m.frm.toNat
/-- Another node keeps what is known of it. -/
theorem NInv.other {k i j : Nat} {G G' : Ghost} {n : Node} (h : NInv k G j n) (hg : GInv k G) (e : Ext i G G') (hj : j ≠ i) : NInv k G' j n where
  id := h.id
  jk := h.jk
  v := h.v
  x := h.x
  m := h.m
  f := h.f
  wf := e.wf h.wf
  lt := h.lt
  t0 := h.t0
  vn q := by rw [e.v' _ _ hj]; exact h.vn q
  vs q := by rw [e.v' _ _ hj]; exact h.vs q
  top t q := by rw [e.v' _ _ hj, e.cd' _ _ hj]; exact h.top t q
  cand q := ⟨e.cd _ _ _ (h.cand q).1, fun x hx => e.v _ _ _ ((h.cand q).2 x hx)⟩
  ld t q := by
    rcases e.ld' t j q with q | q
    · exact h.ld t q
    · exact absurd q hj
  lead q := by
    obtain ⟨h1, h2, h3⟩ := h.lead q
    refine ⟨e.ld _ _ h1, ?_, fun x hx => ⟨(h3 x hx).1, (h3 x hx).2.1, ?_⟩⟩
    · rw [e.ll' _ _ h1 hj]; exact h2
    · have := (h3 x hx).2.2
      have := e.a n.term x
      omega
  ack t c q1 q2 := by
    rw [e.a' _ _ hj] at q2
    obtain ⟨h1, h2⟩ := h.ack t c q1 q2
    have ha := hg.a t j (by omega)
    refine ⟨h1, ?_⟩
    rcases h2 with h2 | h2
    · exact .inl (e.agree ha.1 h2)
    · exact .inr (e.over hg ha.1 (by omega) h2)
  cm := ⟨h.cm.1, e.cmOk h.cm.2⟩
/-- What was sent keeps what is known of it. -/
theorem MInv.grow {k i : Nat} {G G' : Ghost} {m : Msg} (h : MInv k G m) (e : Ext i G G') : MInv k G' m where
  k0 := h.k0
  k1 := h.k1
  f0 := h.f0
  f1 := h.f1
  t0 := h.t0
  t1 := h.t1
  i0 := h.i0
  ne := h.ne
  ask q := by
    obtain ⟨l, h1, h2⟩ := h.ask q
    exact ⟨l, e.cd _ _ _ h1, h2⟩
  vote q q' := e.v _ _ _ (h.vote q q')
  app q := by
    obtain ⟨h1, h2, h3, h4, h5, h6, h7⟩ := h.app q
    obtain ⟨x, e1, e2⟩ := e.ll _ _ h1
    refine ⟨e.ld _ _ h1, h2, by rw [e1, List.length_append]; omega, ?_, fun q9 => ?_, h6, ?_⟩
    · rw [e1, List.drop_append_of_le_length (by omega), List.take_append_of_le_length (by rw [List.length_drop]; omega)]
      exact h4
    · rw [h5 q9, e1]
      have := termAt_append (l := (G.LL m.term)) (x := x) (k := m.index.toNat) (by omega)
      rw [Int.toNat_of_nonneg h.i0] at this
      exact this.symm
    · rcases e.cmOk h7 with h8 | ⟨t, c, h8, h9, h10, h11⟩
      · exact .inl h8
      · exact .inr ⟨t, c, h8, h9, h10, by rw [e1]; exact h11.appl⟩
  ack q q' := Nat.le_trans (h.ack q q') (e.a _ _)
/-- One step of what is remembered, of node i in term T. -/
theorem GInv.grow {k i : Nat} {G G' : Ghost} (hg : GInv k G) (e : Ext i G G') (T : Int)
    (hV : ∀ t, t ≠ T → G'.V t i = G.V t i) (hA : ∀ t, t ≠ T → G'.A t i = G.A t i) (hL : ∀ t, t ≠ T → G'.Ldr t = G.Ldr t ∧ G'.LL t = G.LL t) (hQ : ∀ t a, G.Ldr t = some a → G'.Q t = G.Q t) (hC : ∀ t, t ≠ T → G'.Cd t i = G.Cd t i)
    (top : ∀ t, T < t → G.V t i = none)
    (nll : ∀ a, G'.Ldr T = some a → WF G' (G'.LL T) ∧ 1 ≤ T ∧ ∀ x : Nat, 1 ≤ x → x ≤ (G'.LL T).length → termAt (G'.LL T) (x : Int) ≤ T)
    (nldr : ∀ a, G.Ldr T = none → G'.Ldr T = some a → Maj k (G'.Q T) ∧ ∀ j, (G'.Q T).getD j false = true → G'.V T j = some a ∧ ∀ t0 c, t0 < T → 1 ≤ c → c ≤ G.A t0 j → termAt (G.LL t0) (c : Int) = t0 → agree (G'.LL T) (G.LL t0) c ∨ Over G t0 (T - 1) c)
    (ncd : ∀ l, G.Cd T i = none → G'.Cd T i = some l → WF G l ∧ 1 ≤ T ∧ ∀ x : Nat, 1 ≤ x → x ≤ l.length → termAt l (x : Int) < T)
    (nvt : ∀ a, G.V T i = none → G'.V T i = some a → ∃ l, G'.Cd T a = some l ∧ ∀ t0 c, t0 < T → 1 ≤ c → c ≤ G.A t0 i → termAt (G.LL t0) (c : Int) = t0 → agree l (G.LL t0) c ∨ Over G t0 T c)
    (na : 1 ≤ G'.A T i → (∃ a, G'.Ldr T = some a) ∧ G'.A T i ≤ (G'.LL T).length) : GInv k G' where
  ll t a h := by
    by_cases ht : t = T
    · subst ht; exact nll a h
    · obtain ⟨h1, h2⟩ := hL t ht
      rw [h1] at h
      obtain ⟨k1, k2, k3⟩ := hg.ll t a h
      rw [h2]
      exact ⟨e.wf k1, k2, k3⟩
  ldr t a h := by
    cases hgl : G.Ldr t with
    | some b =>
      have hb := e.ld t b hgl
      rw [h] at hb
      injection hb with hb
      subst hb
      obtain ⟨h1, h2⟩ := hg.ldr t a hgl
      rw [hQ t a hgl]
      refine ⟨h1, fun j hj => ?_⟩
      obtain ⟨h3, h4⟩ := h2 j hj
      refine ⟨e.v _ _ _ h3, fun t0 c q1 q2 q3 q4 => ?_⟩
      have hAj : G'.A t0 j = G.A t0 j := by
        by_cases hji : j = i
        · subst hji
          by_cases ht0 : t0 = T
          · subst ht0
            rw [top t q1] at h3
            cases h3
          · exact hA t0 ht0
        · exact e.a' _ _ hji
      rw [hAj] at q3
      obtain ⟨l1, l2⟩ := hg.a t0 j (by omega)
      rw [e.term l1 (by omega)] at q4
      rcases h4 t0 c q1 q2 q3 q4 with h5 | h5
      · exact .inl (e.agree2 ⟨a, hgl⟩ l1 h5)
      · exact .inr (e.over hg l1 (by omega) h5)
    | none =>
      have ht : t = T := Classical.byContradiction fun ht => by
        rw [(hL t ht).1, hgl] at h
        cases h
      subst ht
      obtain ⟨h1, h2⟩ := nldr a hgl h
      refine ⟨h1, fun j hj => ?_⟩
      obtain ⟨h3, h4⟩ := h2 j hj
      refine ⟨h3, fun t0 c q1 q2 q3 q4 => ?_⟩
      have hAj : G'.A t0 j = G.A t0 j := by
        by_cases hji : j = i
        · subst hji; exact hA t0 (by omega)
        · exact e.a' _ _ hji
      rw [hAj] at q3
      obtain ⟨l1, l2⟩ := hg.a t0 j (by omega)
      rw [(hL t0 (by omega)).2] at q4 ⊢
      rcases h4 t0 c q1 q2 q3 q4 with h5 | h5
      · exact .inl h5
      · exact .inr (e.over hg l1 (by omega) h5)
  cd t j l h := by
    by_cases hji : j = i
    · subst hji
      cases hgc : G.Cd t j with
      | some l' =>
        have hb := e.cd t j l' hgc
        rw [h] at hb
        injection hb with hb
        subst hb
        obtain ⟨h1, h2, h3⟩ := hg.cd t j l hgc
        exact ⟨e.wf h1, h2, h3⟩
      | none =>
        have ht : t = T := Classical.byContradiction fun ht => by
          rw [hC t ht, hgc] at h
          cases h
        subst ht
        obtain ⟨h1, h2, h3⟩ := ncd l hgc h
        exact ⟨e.wf h1, h2, h3⟩
    · rw [e.cd' _ _ hji] at h
      obtain ⟨h1, h2, h3⟩ := hg.cd t j l h
      exact ⟨e.wf h1, h2, h3⟩
  vt t j a h := by
    have old : G.V t j = some a → ∃ l, G'.Cd t a = some l ∧ ∀ t0 c, t0 < t → 1 ≤ c → c ≤ G'.A t0 j → termAt (G'.LL t0) (c : Int) = t0 → agree l (G'.LL t0) c ∨ Over G' t0 t c := fun h9 => by
      obtain ⟨l, h1, h2⟩ := hg.vt t j a h9
      refine ⟨l, e.cd _ _ _ h1, fun t0 c q1 q2 q3 q4 => ?_⟩
      have hAj : G'.A t0 j = G.A t0 j := by
        by_cases hji : j = i
        · subst hji
          by_cases ht0 : t0 = T
          · subst ht0
            rw [top t q1] at h9
            cases h9
          · exact hA t0 ht0
        · exact e.a' _ _ hji
      rw [hAj] at q3
      obtain ⟨l1, l2⟩ := hg.a t0 j (by omega)
      rw [e.term l1 (by omega)] at q4
      rcases h2 t0 c q1 q2 q3 q4 with h5 | h5
      · exact .inl (e.agree l1 h5)
      · exact .inr (e.over hg l1 (by omega) h5)
    by_cases hji : j = i
    · subst hji
      cases hgv : G.V t j with
      | some b =>
        have hb := e.v t j b hgv
        rw [h] at hb
        injection hb with hb
        subst hb
        exact old hgv
      | none =>
        have ht : t = T := Classical.byContradiction fun ht => by
          rw [hV t ht, hgv] at h
          cases h
        subst ht
        obtain ⟨l, h1, h2⟩ := nvt a hgv h
        refine ⟨l, h1, fun t0 c q1 q2 q3 q4 => ?_⟩
        rw [hA t0 (by omega)] at q3
        obtain ⟨l1, l2⟩ := hg.a t0 j (by omega)
        rw [e.term l1 (by omega)] at q4
        rcases h2 t0 c q1 q2 q3 q4 with h5 | h5
        · exact .inl (e.agree l1 h5)
        · exact .inr (e.over hg l1 (by omega) h5)
    · rw [e.v' _ _ hji] at h
      exact old h
  a t j h := by
    by_cases hji : j = i
    · subst hji
      by_cases ht : t = T
      · subst ht; exact na h
      · rw [hA t ht] at h ⊢
        obtain ⟨l1, l2⟩ := hg.a t j h
        exact ⟨by obtain ⟨a, l1⟩ := l1; exact ⟨a, e.ld _ _ l1⟩, Nat.le_trans l2 (e.len l1)⟩
    · rw [e.a' _ _ hji] at h ⊢
      obtain ⟨l1, l2⟩ := hg.a t j h
      exact ⟨by obtain ⟨a, l1⟩ := l1; exact ⟨a, e.ld _ _ l1⟩, Nat.le_trans l2 (e.len l1)⟩
end Fed
namespace Fed
open Go Go.RowKit
set_option linter.unusedVariables false
variable {k i : Nat} {G : Ghost} {n : Node}

theorem WF.of_agree {l L : List Entry} (h : WF G L) (ha : agree l L l.length) : WF G l := fun x h1 h2 => by
  have e := ha.term h1 h2
  obtain ⟨k1, k2, k3⟩ := h x h1 (Nat.le_trans h2 ha.2.1)
  rw [← e] at k1 k2 k3
  exact ⟨k1, k2, (ha.mono h2).trans k3⟩
theorem WF.nil : WF G [] := fun x h1 h2 => by simp at h2; omega
theorem NInv.ackE {G' : Ghost} (h : NInv k G i n) (hg : GInv k G) (e : Ext i G G') : ∀ t c, 1 ≤ c → c ≤ G.A t i → t ≤ n.term ∧ (agree n.log (G'.LL t) c ∨ Over G' t n.term c) := fun t c q1 q2 => by
  obtain ⟨h1, h2⟩ := h.ack t c q1 q2
  have ha := hg.a t i (by omega)
  refine ⟨h1, ?_⟩
  rcases h2 with h2 | h2
  · exact .inl (e.agree ha.1 h2)
  · exact .inr (e.over hg ha.1 (by omega) h2)
/-- The clock goes on; when it is due; forms. -/
theorem NInv.clock (h : NInv k G i n) (c d : Int) : NInv k G i { n with clock := c, due := d } := ⟨h.id, h.jk, h.v, h.x, h.m, h.f, h.wf, h.lt, h.t0, h.vn, h.vs, h.top, h.cand, h.ld, h.lead, h.ack, h.cm⟩
theorem NInv.formsSet (h : NInv k G i n) (a : Nat) (x : Int) : NInv k G i { n with forms := n.forms.set a x } := ⟨h.id, h.jk, h.v, h.x, h.m, by rw [List.length_set]; exact h.f, h.wf, h.lt, h.t0, h.vn, h.vs, h.top, h.cand, h.ld, h.lead, h.ack, h.cm⟩
theorem NInv.follow (h : NInv k G i n) (d : Int) : NInv k G i { n with role := 0, due := d } := ⟨h.id, h.jk, h.v, h.x, h.m, h.f, h.wf, h.lt, h.t0, h.vn, h.vs, h.top, fun q => absurd q (by decide : (0 : Int) ≠ 1), fun t q => ⟨(h.ld t q).1, fun _ => (by decide : (0 : Int) ≠ 1)⟩, fun q => absurd q (by decide : (0 : Int) ≠ 2), h.ack, h.cm⟩
theorem CmOk.mono {T T' : Int} {l : List Entry} {c : Nat} (h : CmOk k G T l c) (hT : T ≤ T') : CmOk k G T' l c := by
  rcases h with h | ⟨t, c', h1, h2⟩
  · exact .inl h
  · exact .inr ⟨t, c', by omega, h2⟩
theorem NInv.bump (h : NInv k G i n) (m : Msg) : NInv k G i (bump n m) := by
  unfold Fed.bump
  split
  · rename_i ht
    exact ⟨h.id, h.jk, h.v, h.x, h.m, h.f, h.wf, fun x a b => by have := h.lt x a b; show termAt n.log (x : Int) ≤ m.term; omega, by have := h.t0; show 0 ≤ m.term; omega, fun _ => (h.top m.term ht).1, fun q => absurd rfl q, fun t q => h.top t (by have : m.term < t := q; omega), fun q => absurd q (by decide : (0 : Int) ≠ 1), fun t q => ⟨by have := (h.ld t q).1; show t ≤ m.term; omega, fun _ => (by decide : (0 : Int) ≠ 1)⟩, fun q => absurd q (by decide : (0 : Int) ≠ 2), fun t c q1 q2 => by
      obtain ⟨h1, h2⟩ := h.ack t c q1 q2
      refine ⟨by show t ≤ m.term; omega, ?_⟩
      rcases h2 with h2 | h2
      · exact .inl h2
      · exact .inr (h2.mono (by show n.term ≤ m.term; omega)), ⟨h.cm.1, h.cm.2.mono (by show n.term ≤ m.term; omega)⟩⟩
  · exact h
theorem NInv.restart (h : NInv k G i n) (form : Int) : NInv k G i (restartN n form) :=
  ⟨h.id, h.jk, by simp [restartN, h.v], by simp [restartN, h.v], by simp [restartN, h.v], by simp [restartN, h.v], h.wf, h.lt, h.t0, h.vn, h.vs, h.top, fun q => absurd q (by decide : (0 : Int) ≠ 1), fun t q => ⟨(h.ld t q).1, fun _ => (by decide : (0 : Int) ≠ 1)⟩, fun q => absurd q (by decide : (0 : Int) ≠ 2), h.ack, ⟨Int.le_refl _, .inl rfl⟩⟩

/-- What one who votes has, the one that he votes for has too. -/
theorem NInv.up (hg : GInv k G) (h : NInv k G i n) {a : Nat} {l : List Entry} (hl : G.Cd n.term a = some l) (up : termAt n.log (n.log.length : Int) < termAt l (l.length : Int) ∨ (termAt l (l.length : Int) = termAt n.log (n.log.length : Int) ∧ n.log.length ≤ l.length)) :
    ∀ t0 c, t0 < n.term → 1 ≤ c → c ≤ G.A t0 i → termAt (G.LL t0) (c : Int) = t0 → agree l (G.LL t0) c ∨ Over G t0 n.term c := by
  intro t0 c q1 q2 q3 q4
  obtain ⟨wl, l1, l2⟩ := hg.cd _ _ _ hl
  rcases (h.ack t0 c q2 q3).2 with h2 | h2
  · have hn : 1 ≤ n.log.length := Nat.le_trans q2 h2.1
    have v1 := h.wf n.log.length hn (Nat.le_refl _)
    have e1 : termAt n.log (c : Int) = t0 := (h2.term q2 (Nat.le_refl _)).trans q4
    have e2 : t0 ≤ termAt n.log (n.log.length : Int) := by
      rw [← e1, v1.2.2.term q2 h2.1]
      obtain ⟨b, hb⟩ := v1.2.1
      exact (hg.ll _ b hb).2.2 c q2 (Nat.le_trans h2.1 v1.2.2.2.1)
    rcases up with up | ⟨up1, up2⟩
    · have hl1 : 1 ≤ l.length := Classical.byContradiction fun hc => by
        have h0 : l.length = 0 := by omega
        rw [h0, termAt_zero] at up
        have := v1.1
        omega
      have w1 := wl l.length hl1 (Nat.le_refl _)
      by_cases ha : agree (G.LL (termAt l (l.length : Int))) (G.LL t0) c
      · by_cases hc : c ≤ l.length
        · exact .inl ((w1.2.2.mono hc).trans ha)
        · exfalso
          have k1 := ha.term (k := l.length) hl1 (by omega)
          have k2 := w1.2.2.term (k := l.length) hl1 (Nat.le_refl _)
          obtain ⟨b, hb⟩ := (hg.a t0 i (by omega)).1
          have k3 := (hg.ll t0 b hb).2.2 l.length hl1 (by have := ha.2.1; omega)
          omega
      · exact .inr ⟨termAt l (l.length : Int), by omega, by have := l2 l.length hl1 (Nat.le_refl _); omega, w1.2.1, ha⟩
    · have hl1 : 1 ≤ l.length := by omega
      have w1 := wl l.length hl1 (Nat.le_refl _)
      rw [up1] at w1
      exact .inl ((((w1.2.2.mono up2).trans v1.2.2.symm).mono h2.1).trans h2)
  · exact .inr h2
/-- A vote is given. -/
theorem vote_step (hg : GInv k G) (h : NInv k G i n) {m : Msg} (hm : MInv k G m) (hk : m.kind = 1) (ok : voteOk n m = true) :
    ∃ G', Ext i G G' ∧ GInv k G' ∧ NInv k G' i (voteN n m) ∧ G'.V n.term i = some m.frm.toNat := by
  simp only [voteOk, Bool.and_eq_true, Bool.or_eq_true, decide_eq_true_eq] at ok
  obtain ⟨⟨o1, o2⟩, o3⟩ := ok
  obtain ⟨l, l1, l2, l3⟩ := hm.ask hk
  have hf := hm.f0
  rw [o1] at l1
  have up : termAt n.log (n.log.length : Int) < termAt l (l.length : Int) ∨ (termAt l (l.length : Int) = termAt n.log (n.log.length : Int) ∧ n.log.length ≤ l.length) := by
    rw [← l3]
    rcases o3 with o3 | ⟨o3, o4⟩
    · exact .inl o3
    · exact .inr ⟨o3, by omega⟩
  by_cases hv : n.vote = -1
  · have e : Ext i G { G with V := fun t j => if t = n.term ∧ j = i then some m.frm.toNat else G.V t j } := by
      refine ⟨fun _ _ h => h, fun _ _ h => .inl h, fun _ _ _ => ⟨[], by simp, by simp⟩, fun _ _ _ _ => rfl, fun t j a q => ?_, fun t j q => if_neg (fun c => q c.2), fun _ _ _ h => h, fun _ _ _ => rfl, fun _ _ => Nat.le_refl _, fun _ _ _ => rfl⟩
      show (if t = n.term ∧ j = i then some m.frm.toNat else G.V t j) = some a
      rw [if_neg]
      · exact q
      · rintro ⟨rfl, rfl⟩
        rw [h.vn hv] at q
        cases q
    have hg' : GInv k { G with V := fun t j => if t = n.term ∧ j = i then some m.frm.toNat else G.V t j } := by
      refine hg.grow e n.term (fun t q => if_neg (fun c => q c.1)) (fun _ _ => rfl) (fun _ _ => ⟨rfl, rfl⟩) (fun _ _ _ => rfl) (fun _ _ => rfl) (fun t q => (h.top t q).1) (fun a q => ?_) (fun a q1 q2 => ?_) (fun l q1 q2 => ?_) (fun a q1 q2 => ?_) (fun q => ?_)
      · obtain ⟨h1, h2⟩ := hg.ll _ _ q
        exact ⟨e.wf h1, h2⟩
      · rw [show G.Ldr n.term = some a from q2] at q1; cases q1
      · rw [show G.Cd n.term i = some l from q2] at q1; cases q1
      · have q3 : (if n.term = n.term ∧ i = i then some m.frm.toNat else G.V n.term i) = some a := q2
        rw [if_pos ⟨rfl, rfl⟩] at q3
        injection q3 with q3
        subst q3
        exact ⟨l, l1, h.up hg l1 up⟩
      · exact hg.a _ _ q
    refine ⟨_, e, hg', ⟨h.id, h.jk, h.v, h.x, h.m, h.f, e.wf h.wf, h.lt, h.t0, fun q => ?_, fun _ => ⟨hf, if_pos ⟨rfl, rfl⟩⟩, fun t q => ⟨?_, (h.top t q).2⟩, fun q => ⟨e.cd _ _ _ (h.cand q).1, fun x hx => e.v _ _ _ ((h.cand q).2 x hx)⟩, h.ld, h.lead, h.ackE hg e, ⟨h.cm.1, e.cmOk h.cm.2⟩⟩, if_pos ⟨rfl, rfl⟩⟩
    · have : m.frm = -1 := q
      omega
    · show (if t = n.term ∧ i = i then some m.frm.toNat else G.V t i) = none
      rw [if_neg (fun c => by have : n.term < t := q; omega)]
      exact (h.top t q).1
  · have hv2 : n.vote = m.frm := by rcases o2 with o2 | o2; exact absurd o2 hv; exact o2
    refine ⟨G, Ext.refl _ _, hg, ?_, ?_⟩
    · have : voteN n m = { n with clock := n.clock, due := n.clock + 5 + 2 * n.id } := by unfold voteN; rw [← hv2]
      rw [this]
      exact h.clock _ _
    · rw [← hv2]
      exact (h.vs hv).2
/-- It stands. -/
theorem stand_step (hg : GInv k G) (h : NInv k G i n) : ∃ G', Ext i G G' ∧ GInv k G' ∧ NInv k G' i (standN n) ∧ G'.Cd (n.term + 1) i = some n.log := by
  have htop := h.top (n.term + 1) (by omega)
  have e : Ext i G { G with V := fun t j => if t = n.term + 1 ∧ j = i then some i else G.V t j, Cd := fun t j => if t = n.term + 1 ∧ j = i then some n.log else G.Cd t j } := by
    refine ⟨fun _ _ h => h, fun _ _ h => .inl h, fun _ _ _ => ⟨[], by simp, by simp⟩, fun _ _ _ _ => rfl, fun t j a q => ?_, fun t j q => if_neg (fun c => q c.2), fun t j a q => ?_, fun t j q => if_neg (fun c => q c.2), fun _ _ => Nat.le_refl _, fun _ _ _ => rfl⟩
    · show (if t = n.term + 1 ∧ j = i then some i else G.V t j) = some a
      rw [if_neg]
      · exact q
      · rintro ⟨rfl, rfl⟩
        rw [htop.1] at q
        cases q
    · show (if t = n.term + 1 ∧ j = i then some n.log else G.Cd t j) = some a
      rw [if_neg]
      · exact q
      · rintro ⟨rfl, rfl⟩
        rw [htop.2] at q
        cases q
  have hg' : GInv k { G with V := fun t j => if t = n.term + 1 ∧ j = i then some i else G.V t j, Cd := fun t j => if t = n.term + 1 ∧ j = i then some n.log else G.Cd t j } := by
    refine hg.grow e (n.term + 1) (fun t q => if_neg (fun c => q c.1)) (fun _ _ => rfl) (fun _ _ => ⟨rfl, rfl⟩) (fun _ _ _ => rfl) (fun t q => if_neg (fun c => q c.1)) (fun t q => (h.top t (by omega)).1) (fun a q => ?_) (fun a q1 q2 => ?_) (fun l q1 q2 => ?_) (fun a q1 q2 => ?_) (fun q => ?_)
    · obtain ⟨h1, h2⟩ := hg.ll _ _ q
      exact ⟨e.wf h1, h2⟩
    · rw [show G.Ldr (n.term + 1) = some a from q2] at q1; cases q1
    · have q3 : (if n.term + 1 = n.term + 1 ∧ i = i then some n.log else G.Cd (n.term + 1) i) = some l := q2
      rw [if_pos ⟨rfl, rfl⟩] at q3
      injection q3 with q3
      subst q3
      exact ⟨h.wf, by have := h.t0; omega, fun x h1 h2 => by have := h.lt x h1 h2; omega⟩
    · have q3 : (if n.term + 1 = n.term + 1 ∧ i = i then some i else G.V (n.term + 1) i) = some a := q2
      rw [if_pos ⟨rfl, rfl⟩] at q3
      injection q3 with q3
      subst q3
      refine ⟨n.log, if_pos ⟨rfl, rfl⟩, fun t0 c p1 p2 p3 p4 => ?_⟩
      rcases (h.ack t0 c p2 p3).2 with h2 | h2
      · exact .inl h2
      · exact .inr (h2.mono (by omega))
    · exact hg.a _ _ q
  refine ⟨_, e, hg', ⟨h.id, h.jk, by simp [standN, h.v], h.x, h.m, h.f, e.wf h.wf, fun x a b => by have := h.lt x a b; show termAt n.log (x : Int) ≤ n.term + 1; omega, by have := h.t0; show 0 ≤ n.term + 1; omega, fun q => ?_, fun q => ?_, fun t q => ?_, fun q => ⟨if_pos ⟨rfl, rfl⟩, fun x hx => ?_⟩, fun t q => ?_, fun q => absurd q (by decide : (1 : Int) ≠ 2), fun t c q1 q2 => ?_, ⟨h.cm.1, (e.cmOk h.cm.2).mono (by show n.term ≤ n.term + 1; omega)⟩⟩, if_pos ⟨rfl, rfl⟩⟩
  · have q' : n.id = -1 := q
    have := h.id
    omega
  · have := h.id
    refine ⟨by show 0 ≤ n.id; omega, ?_⟩
    show (if n.term + 1 = n.term + 1 ∧ i = i then some i else G.V (n.term + 1) i) = some n.id.toNat
    rw [if_pos ⟨rfl, rfl⟩, h.id]
    rfl
  · have q' : n.term + 1 < t := q
    have h9 := h.top t (by omega)
    refine ⟨?_, ?_⟩
    · show (if t = n.term + 1 ∧ i = i then some i else G.V t i) = none
      rw [if_neg (fun c => by omega)]; exact h9.1
    · show (if t = n.term + 1 ∧ i = i then some n.log else G.Cd t i) = none
      rw [if_neg (fun c => by omega)]; exact h9.2
  · have hxi : x = i := by
      have hx' : ((List.replicate n.votes.length false).set n.id.toNat true).getD x false = true := hx
      rw [h.id] at hx'
      by_cases hxi : x = i
      · exact hxi
      · rw [List.getD_eq_getElem?_getD, show ((i : Int).toNat) = i from rfl, List.getElem?_set_ne (Ne.symm hxi)] at hx'
        simp [List.getElem?_replicate] at hx'
        split at hx' <;> simp at hx'
    rw [hxi]
    exact if_pos ⟨rfl, rfl⟩
  · have h9 := (h.ld t q).1
    refine ⟨by show t ≤ n.term + 1; omega, fun h8 => ?_⟩
    have h8' : t = n.term + 1 := h8
    omega
  · obtain ⟨h1, h2⟩ := h.ackE hg e t c q1 q2
    refine ⟨by show t ≤ n.term + 1; omega, ?_⟩
    rcases h2 with h2 | h2
    · exact .inl h2
    · exact .inr (h2.mono (by show n.term ≤ n.term + 1; omega))
end Fed
namespace Fed
open Go Go.RowKit
set_option linter.unusedVariables false
variable {k i : Nat} {G : Ghost} {n : Node}

theorem getD_set {α : Type} {l : List α} {a x : Nat} {v d : α} : (l.set a v).getD x d = if a = x ∧ a < l.length then v else l.getD x d := by
  rw [List.getD_eq_getElem?_getD, List.getElem?_set, List.getD_eq_getElem?_getD]
  by_cases h : a = x
  · subst h
    by_cases h2 : a < l.length
    · rw [if_pos rfl, if_pos h2, if_pos ⟨rfl, h2⟩]; rfl
    · rw [if_pos rfl, if_neg h2, if_neg (fun c => h2 c.2), List.getElem?_eq_none (by omega)]
  · rw [if_neg h, if_neg (fun c => h c.1)]
theorem getD_rep {α : Type} {m x : Nat} {v : α} {d : α} (h : x < m) : (List.replicate m v).getD x d = v := by
  rw [List.getD_eq_getElem?_getD, List.getElem?_replicate, if_pos h]; rfl
theorem maj_one : Maj 1 [true] := ⟨rfl, by decide⟩
/-- A log, one entry of its term longer, is the leader's. -/
theorem wf_put {G' : Ghost} {l : List Entry} {d : ByteArray} {T : Int} {a : Nat} (h : WF G' l) (h1 : 1 ≤ T) (h2 : G'.Ldr T = some a) (h3 : G'.LL T = l ++ [⟨T, d⟩]) : WF G' (l ++ [⟨T, d⟩]) := fun x x1 x2 => by
  by_cases hx : x ≤ l.length
  · rw [termAt_append hx]
    obtain ⟨k1, k2, k3⟩ := h x x1 hx
    exact ⟨k1, k2, k3.appl⟩
  · rw [termAt_new (t := T) (fun e he => by rw [List.mem_singleton.1 he]) (by omega) x2]
    exact ⟨h1, ⟨a, h2⟩, by rw [h3]; exact agree.refl x2⟩
theorem lt_put {l : List Entry} {d : ByteArray} {T : Int} (h : ∀ x : Nat, 1 ≤ x → x ≤ l.length → termAt l (x : Int) ≤ T) : ∀ x : Nat, 1 ≤ x → x ≤ (l ++ [(⟨T, d⟩ : Entry)]).length → termAt (l ++ [(⟨T, d⟩ : Entry)]) (x : Int) ≤ T := fun x x1 x2 => by
  by_cases hx : x ≤ l.length
  · rw [termAt_append hx]; exact h x x1 hx
  · rw [termAt_new (t := T) (fun e he => by rw [List.mem_singleton.1 he]) (by omega) x2]
    exact Int.le_refl _
/-- It leads: it has an entry of its term. -/
theorem lead_step (hg : GInv k G) (h : NInv k G i n) (hr : n.role = 1) (hm : n.votes.length < 2 * countT n.votes) (d : ByteArray) :
    ∃ G', Ext i G G' ∧ GInv k G' ∧ NInv k G' i (putN (leadN n) d) := by
  obtain ⟨c1, c2⟩ := h.cand hr
  have hmj : Maj k n.votes := ⟨h.v, by have := h.v; omega⟩
  have hnone : G.Ldr n.term = none := by
    cases hl : G.Ldr n.term with
    | none => rfl
    | some a =>
      exfalso
      obtain ⟨m1, m2⟩ := hg.ldr _ _ hl
      obtain ⟨j, j1, j2⟩ := m1.both hmj
      have e1 := (m2 j j1).1
      rw [c2 j j2] at e1
      injection e1 with e1
      subst e1
      exact (h.ld _ hl).2 rfl hr
  have hA : ∀ j, G.A n.term j = 0 := fun j => Classical.byContradiction fun hc => by
    obtain ⟨b, hb⟩ := (hg.a n.term j (by omega)).1
    rw [hnone] at hb
    cases hb
  have hcd := hg.cd _ _ _ c1
  let L : List Entry := n.log ++ [⟨n.term, d⟩]
  let G' : Ghost := { G with Ldr := fun t => if t = n.term then some i else G.Ldr t, LL := fun t => if t = n.term then L else G.LL t, Q := fun t => if t = n.term then n.votes else G.Q t, A := fun t j => if t = n.term ∧ j = i then L.length else G.A t j }
  have gl : G'.Ldr n.term = some i := if_pos rfl
  have gL : G'.LL n.term = L := if_pos rfl
  have e : Ext i G G' := by
    refine ⟨fun t a q => ?_, fun t a q => ?_, fun t a q => ⟨[], ?_, by simp⟩, fun t a q _ => ?_, fun _ _ _ q => q, fun _ _ _ => rfl, fun _ _ _ q => q, fun _ _ _ => rfl, fun t j => ?_, fun t j q => if_neg (fun c => q c.2)⟩
    · show (if t = n.term then some i else G.Ldr t) = some a
      rw [if_neg]
      · exact q
      · rintro rfl; rw [hnone] at q; cases q
    · by_cases ht : t = n.term
      · have q' : (if t = n.term then some i else G.Ldr t) = some a := q
        rw [if_pos ht] at q'
        injection q' with q'
        exact .inr q'.symm
      · have q' : (if t = n.term then some i else G.Ldr t) = some a := q
        rw [if_neg ht] at q'
        exact .inl q'
    · show (if t = n.term then L else G.LL t) = G.LL t ++ []
      rw [if_neg (by rintro rfl; rw [hnone] at q; cases q), List.append_nil]
    · show (if t = n.term then L else G.LL t) = G.LL t
      rw [if_neg (by rintro rfl; rw [hnone] at q; cases q)]
    · show G.A t j ≤ (if t = n.term ∧ j = i then L.length else G.A t j)
      split
      · rename_i hc
        rw [hc.1, hA]
        exact Nat.zero_le _
      · exact Nat.le_refl _
  have hwf : WF G' L := wf_put (e.wf h.wf) hcd.2.1 gl gL
  have hlt := lt_put (d := d) h.lt
  have hAi : G'.A n.term i = L.length := if_pos ⟨rfl, rfl⟩
  have hg' : GInv k G' := by
    refine hg.grow e n.term (fun _ _ => rfl) (fun t q => if_neg (fun c => q c.1)) (fun t q => ⟨if_neg q, if_neg q⟩) (fun t a q => if_neg (by rintro rfl; rw [hnone] at q; cases q)) (fun _ _ => rfl) (fun t q => (h.top t q).1) (fun a q => ?_) (fun a q1 q2 => ?_) (fun l q1 q2 => ?_) (fun a q1 q2 => ?_) (fun q => ?_)
    · rw [gL]
      exact ⟨hwf, hcd.2.1, hlt⟩
    · rw [gl] at q2
      injection q2 with q2
      subst q2
      have hQ : G'.Q n.term = n.votes := if_pos rfl
      rw [hQ, gL]
      refine ⟨hmj, fun j hj => ⟨c2 j hj, fun t0 c p1 p2 p3 p4 => ?_⟩⟩
      obtain ⟨l, l1, l2⟩ := hg.vt _ _ _ (c2 j hj)
      rw [c1] at l1
      injection l1 with l1
      subst l1
      rcases l2 t0 c p1 p2 p3 p4 with h5 | ⟨u, u1, u2, ⟨b, u3⟩, u4⟩
      · exact .inl h5.appl
      · refine .inr ⟨u, u1, ?_, ⟨b, u3⟩, u4⟩
        have : u ≠ n.term := by rintro rfl; rw [hnone] at u3; cases u3
        omega
    · rw [show G.Cd n.term i = some l from q2] at q1; cases q1
    · rw [show G.V n.term i = some a from q2] at q1; cases q1
    · exact ⟨⟨i, gl⟩, by rw [hAi, gL]; exact Nat.le_refl _⟩
  have hlen : L.length = n.log.length + 1 := by simp [L]
  refine ⟨G', e, hg', ⟨h.id, h.jk, h.v, by simp [putN, leadN, h.v], by simp [putN, leadN, h.v], h.f, hwf, hlt, h.t0, h.vn, h.vs, h.top, fun q => absurd q (by decide : (2 : Int) ≠ 1), fun t q => ?_, fun _ => ⟨gl, gL.symm, fun x hx => ?_⟩, fun t c q1 q2 => ?_, ?_⟩⟩
  · rcases Classical.em (t = n.term) with ht | ht
    · subst ht; exact ⟨Int.le_refl _, fun _ => (by decide : (2 : Int) ≠ 1)⟩
    · have q' : (if t = n.term then some i else G.Ldr t) = some i := q
      rw [if_neg ht] at q'
      exact ⟨(h.ld t q').1, fun q9 => absurd q9 ht⟩
  · show (1 ≤ (List.replicate n.votes.length ((n.log.length : Int) + 1)).getD x 0 ∧ (List.replicate n.votes.length ((n.log.length : Int) + 1)).getD x 0 ≤ (L.length : Int) + 1) ∧ 0 ≤ ((List.replicate n.votes.length (0 : Int)).set n.id.toNat ((n.log.length : Int) + 1)).getD x 0 ∧ ((List.replicate n.votes.length (0 : Int)).set n.id.toNat ((n.log.length : Int) + 1)).getD x 0 ≤ (G'.A n.term x : Int)
    have hxv : x < n.votes.length := by rw [h.v]; exact hx
    rw [getD_rep hxv, getD_set, getD_rep hxv, hlen]
    refine ⟨⟨by omega, by omega⟩, ?_⟩
    split
    · rename_i hc
      have hxi : x = i := by rw [← hc.1, h.id]; rfl
      rw [hxi, hAi, hlen]
      omega
    · omega
  · by_cases ht : t = n.term
    · subst ht
      refine ⟨Int.le_refl _, .inl ?_⟩
      rw [gL]
      rw [hAi] at q2
      exact agree.refl q2
    · have hAo : G'.A t i = G.A t i := if_neg (fun c => ht c.1)
      rw [hAo] at q2
      obtain ⟨h1, h2⟩ := h.ackE hg e t c q1 q2
      refine ⟨h1, ?_⟩
      rcases h2 with h2 | h2
      · exact .inl h2.appl
      · exact .inr h2
  · show 0 ≤ (if n.votes.length = 1 then ((n.log.length : Int) + 1) else n.commit) ∧ CmOk k G' n.term L (if n.votes.length = 1 then ((n.log.length : Int) + 1) else n.commit).toNat
    split
    · rename_i h1
      refine ⟨by omega, .inr ⟨n.term, L.length, Int.le_refl _, ⟨⟨i, gl⟩, by omega, by rw [gL]; exact Nat.le_refl _, ?_, ?_⟩, by omega, ?_⟩⟩
      · rw [gL]
        exact termAt_new (t := n.term) (fun e he => by rw [List.mem_singleton.1 he]) (by omega) (Nat.le_refl _)
      · have hk : k = 1 := by rw [← h.v, h1]
        refine ⟨[true], by rw [hk]; exact maj_one, fun j hj => ?_⟩
        have hj0 : j = i := by
          have hi := h.jk
          cases j with
          | zero => omega
          | succ j => simp at hj
        rw [hj0, hAi]
        exact Nat.le_refl _
      · rw [gL]
        exact agree.refl (by omega)
    · refine ⟨h.cm.1, ?_⟩
      rcases e.cmOk h.cm.2 with h5 | ⟨t, c', h5, h6, h7, h8⟩
      · exact .inl h5
      · exact .inr ⟨t, c', h5, h6, h7, h8.appl⟩
/-- A leader has one more entry. -/
theorem put_step (hg : GInv k G) (h : NInv k G i n) (hr : n.role = 2) (d : ByteArray) :
    ∃ G', Ext i G G' ∧ GInv k G' ∧ NInv k G' i (putN n d) := by
  obtain ⟨c1, c2, c3⟩ := h.lead hr
  obtain ⟨l1, l2, l3⟩ := hg.ll _ _ c1
  have hAl : G.A n.term i ≤ (G.LL n.term).length := by
    by_cases h0 : G.A n.term i = 0
    · omega
    · exact (hg.a n.term i (by omega)).2
  let L : List Entry := n.log ++ [⟨n.term, d⟩]
  have hlen : L.length = n.log.length + 1 := by simp [L]
  let G' : Ghost := { G with LL := fun t => if t = n.term then L else G.LL t, A := fun t j => if t = n.term ∧ j = i then L.length else G.A t j }
  have gL : G'.LL n.term = L := if_pos rfl
  have e : Ext i G G' := by
    refine ⟨fun _ _ q => q, fun _ _ q => .inl q, fun t a q => ?_, fun t a q q' => ?_, fun _ _ _ q => q, fun _ _ _ => rfl, fun _ _ _ q => q, fun _ _ _ => rfl, fun t j => ?_, fun t j q => if_neg (fun c => q c.2)⟩
    · by_cases ht : t = n.term
      · subst ht
        exact ⟨[⟨n.term, d⟩], by rw [gL, ← c2], fun e he => by rw [List.mem_singleton.1 he]⟩
      · exact ⟨[], by rw [List.append_nil]; exact if_neg ht, by simp⟩
    · refine if_neg ?_
      rintro rfl
      rw [c1] at q
      injection q with q
      exact q' q.symm
    · show G.A t j ≤ (if t = n.term ∧ j = i then L.length else G.A t j)
      split
      · rename_i hc
        rw [hc.1, hc.2, hlen]
        rw [← c2] at hAl
        omega
      · exact Nat.le_refl _
  have hwf : WF G' L := wf_put (e.wf h.wf) l2 (a := i) c1 gL
  have hlt := lt_put (d := d) h.lt
  have hAi : G'.A n.term i = L.length := if_pos ⟨rfl, rfl⟩
  have hg' : GInv k G' := by
    refine hg.grow e n.term (fun _ _ => rfl) (fun t q => if_neg (fun c => q c.1)) (fun t q => ⟨rfl, if_neg q⟩) (fun _ _ _ => rfl) (fun _ _ => rfl) (fun t q => (h.top t q).1) (fun a q => ?_) (fun a q1 q2 => ?_) (fun l q1 q2 => ?_) (fun a q1 q2 => ?_) (fun q => ?_)
    · rw [gL]
      exact ⟨hwf, l2, hlt⟩
    · rw [show G.Ldr n.term = some a from q2] at q1; cases q1
    · rw [show G.Cd n.term i = some l from q2] at q1; cases q1
    · rw [show G.V n.term i = some a from q2] at q1; cases q1
    · exact ⟨⟨i, c1⟩, by rw [hAi, gL]; exact Nat.le_refl _⟩
  refine ⟨G', e, hg', ⟨h.id, h.jk, h.v, h.x, by simp [putN, h.m], h.f, hwf, hlt, h.t0, h.vn, h.vs, h.top, fun q => ?_, h.ld, fun _ => ⟨c1, gL.symm, fun x hx => ?_⟩, fun t c q1 q2 => ?_, ?_⟩⟩
  · have q' : n.role = 1 := q
    omega
  · obtain ⟨⟨x1, x2⟩, x3, x4⟩ := c3 x hx
    have h9 := e.a n.term x
    show (1 ≤ n.nxt.getD x 0 ∧ n.nxt.getD x 0 ≤ (L.length : Int) + 1) ∧ 0 ≤ (n.mtch.set n.id.toNat ((n.log.length : Int) + 1)).getD x 0 ∧ (n.mtch.set n.id.toNat ((n.log.length : Int) + 1)).getD x 0 ≤ (G'.A n.term x : Int)
    rw [getD_set, hlen]
    refine ⟨⟨x1, by omega⟩, ?_⟩
    split
    · rename_i hc
      have hxi : x = i := by rw [← hc.1, h.id]; rfl
      rw [hxi, hAi, hlen]
      omega
    · omega
  · by_cases ht : t = n.term
    · subst ht
      refine ⟨Int.le_refl _, .inl ?_⟩
      rw [gL]
      rw [hAi] at q2
      exact agree.refl q2
    · have hAo : G'.A t i = G.A t i := if_neg (fun c => ht c.1)
      rw [hAo] at q2
      obtain ⟨h1, h2⟩ := h.ackE hg e t c q1 q2
      refine ⟨h1, ?_⟩
      rcases h2 with h2 | h2
      · exact .inl h2.appl
      · exact .inr h2
  · show 0 ≤ (if n.votes.length = 1 then ((n.log.length : Int) + 1) else n.commit) ∧ CmOk k G' n.term L (if n.votes.length = 1 then ((n.log.length : Int) + 1) else n.commit).toNat
    split
    · rename_i h1
      refine ⟨by omega, .inr ⟨n.term, L.length, Int.le_refl _, ⟨⟨i, c1⟩, by omega, by rw [gL]; exact Nat.le_refl _, ?_, ?_⟩, by omega, ?_⟩⟩
      · rw [gL]
        exact termAt_new (t := n.term) (fun e he => by rw [List.mem_singleton.1 he]) (by omega) (Nat.le_refl _)
      · have hk : k = 1 := by rw [← h.v, h1]
        refine ⟨[true], by rw [hk]; exact maj_one, fun j hj => ?_⟩
        have hj0 : j = i := by
          have hi := h.jk
          cases j with
          | zero => omega
          | succ j => simp at hj
        rw [hj0, hAi]
        exact Nat.le_refl _
      · rw [gL]
        exact agree.refl (by omega)
    · refine ⟨h.cm.1, ?_⟩
      rcases e.cmOk h.cm.2 with h5 | ⟨t, c', h5, h6, h7, h8⟩
      · exact .inl h5
      · exact .inr ⟨t, c', h5, h6, h7, h8.appl⟩
/-- Entries that are taken behind a front of a log. -/
theorem takeL_front {L : List Entry} : ∀ (es : List Entry) (q : Nat), q + es.length ≤ L.length → es = (L.drop q).take es.length → takeL (L.take q) q es = L.take (q + es.length)
  | [], q, _, _ => rfl
  | e :: es, q, h1, h2 => by
    simp only [List.length_cons] at h1
    have hq : q < L.length := by omega
    have hd : L.drop q = L[q] :: L.drop (q + 1) := (List.drop_eq_getElem_cons hq)
    rw [hd, List.length_cons, List.take_succ_cons] at h2
    injection h2 with h3 h4
    unfold takeL
    rw [if_neg (by rw [List.length_take]; omega), List.take_take, Nat.min_self, h3]
    have : L.take q ++ [L[q]] = L.take (q + 1) := by rw [List.take_add_one, List.getElem?_eq_getElem hq]; rfl
    rw [this, takeL_front es (q + 1) (by omega) h4, List.length_cons]
    congr 1
    omega
theorem takeL_two {l L : List Entry} (hs : ∀ x : Nat, 1 ≤ x → x ≤ l.length → x ≤ L.length → termAt l (x : Int) = termAt L (x : Int) → agree l L x) : ∀ (es : List Entry) (p : Nat), p + es.length ≤ L.length → es = (L.drop p).take es.length → agree l L p →
    (takeL l p es = l ∧ agree l L (p + es.length)) ∨ (takeL l p es = L.take (p + es.length) ∧ ¬ agree l L (p + es.length))
  | [], p, _, _, h => .inl ⟨rfl, h⟩
  | e :: es, p, h1, h2, h => by
    simp only [List.length_cons] at h1
    have hq : p < L.length := by omega
    have hd : L.drop p = L[p] :: L.drop (p + 1) := (List.drop_eq_getElem_cons hq)
    rw [hd, List.length_cons, List.take_succ_cons] at h2
    injection h2 with h3 h4
    have ht : termAt L ((p + 1 : Nat) : Int) = e.term := by
      rw [termAt_eq (by omega) (by omega), Nat.add_sub_cancel, List.getElem?_eq_getElem hq, h3]
      rfl
    have hn : p + (es.length + 1) = p + 1 + es.length := by omega
    unfold takeL
    by_cases hc : termAt l ((p + 1 : Nat) : Int) = e.term ∧ p + 1 ≤ l.length
    · rw [if_pos hc, List.length_cons, hn]
      exact takeL_two hs es (p + 1) (by omega) h4 (hs (p + 1) (by omega) hc.2 (by omega) (hc.1.trans ht.symm))
    · rw [if_neg hc, List.length_cons, hn]
      refine .inr ⟨?_, fun ha => hc ?_⟩
      · have e1 : l.take p ++ [e] = L.take (p + 1) := by rw [h.2.2, List.take_add_one, List.getElem?_eq_getElem hq, h3]; rfl
        rw [e1, takeL_front es (p + 1) (by omega) h4]
      · exact ⟨(ha.term (k := p + 1) (by omega) (by omega)).trans ht, by have := ha.1; omega⟩
/-- Entries are taken. -/
theorem append_step (hg : GInv k G) (h : NInv k G i n) {m : Msg} (hm : MInv k G m) (hk : m.kind = 3) (hto : m.to = i) (ht : m.term = n.term) (hf : fits n m = true) :
    ∃ G', Ext i G G' ∧ GInv k G' ∧ NInv k G' i (appendN n m) ∧ (m.index + m.entries.length).toNat ≤ G'.A n.term i := by
  obtain ⟨a1, a2, a3, a4, a5, a6, a7⟩ := hm.app hk
  rw [ht] at a1 a3 a4 a5 a7
  obtain ⟨l1, l2, l3⟩ := hg.ll _ _ a1
  have hi0 := hm.i0
  have hix : (mx m.index 0).toNat = m.index.toNat := by unfold mx; split <;> omega
  have hs : ∀ x : Nat, 1 ≤ x → x ≤ n.log.length → x ≤ (G.LL n.term).length → termAt n.log (x : Int) = termAt (G.LL n.term) (x : Int) → agree n.log (G.LL n.term) x := fun x x1 x2 x3 x4 => by
    have w1 := (h.wf x x1 x2).2.2
    have w2 := (l1 x x1 x3).2.2
    rw [x4] at w1
    exact w1.trans w2.symm
  have hp : agree n.log (G.LL n.term) m.index.toNat := by
    by_cases h0 : m.index = 0
    · rw [h0]; exact agree.zero
    · simp only [fits, Bool.not_eq_true', Bool.or_eq_false_iff, decide_eq_false_iff_not, Bool.and_eq_false_iff] at hf
      obtain ⟨f1, f2⟩ := hf
      have e1 : termAt n.log m.index = m.logTerm := by
        rcases f2 with f2 | f2
        · omega
        · exact Classical.not_not.1 f2
      have e2 := a5 (by omega)
      have ec : ((m.index.toNat : Nat) : Int) = m.index := Int.toNat_of_nonneg hi0
      exact hs m.index.toNat (by omega) (by omega) (by omega) (by rw [ec, e1, e2])
  have h2 := takeL_two hs m.entries m.index.toNat a3 a4 hp
  obtain ⟨q, hq⟩ : ∃ q, q = m.index.toNat + m.entries.length := ⟨_, rfl⟩
  rw [← hq] at h2 a3
  have hq2 : (m.index + m.entries.length).toNat = q := by omega
  obtain ⟨l', hl'⟩ : ∃ l', l' = takeL n.log m.index.toNat m.entries := ⟨_, rfl⟩
  rw [← hl'] at h2
  have f1 : agree l' (G.LL n.term) q := by
    rcases h2 with ⟨e1, e2⟩ | ⟨e1, e2⟩
    · rw [e1]; exact e2
    · rw [e1]
      refine ⟨by rw [List.length_take]; omega, a3, ?_⟩
      rw [List.take_take, Nat.min_self]
  have f2 : ∀ c, agree n.log (G.LL n.term) c → agree l' (G.LL n.term) c := fun c hc => by
    rcases h2 with ⟨e1, e2⟩ | ⟨e1, e2⟩
    · rw [e1]; exact hc
    · by_cases hcq : q ≤ c
      · exact absurd (hc.mono hcq) e2
      · exact f1.mono (by omega)
  have f3 : ∀ t c, t < n.term → (∃ a, G.Ldr t = some a) → agree n.log (G.LL t) c → agree l' (G.LL t) c ∨ ¬ agree (G.LL n.term) (G.LL t) c := fun t c t1 t2 hc => by
    by_cases hl : agree (G.LL n.term) (G.LL t) c
    · exact .inl ((f2 c (hc.trans hl.symm)).trans hl)
    · exact .inr hl
  have hwf : WF G l' := by
    rcases h2 with ⟨e1, e2⟩ | ⟨e1, e2⟩
    · rw [e1]; exact h.wf
    · refine l1.of_agree ?_
      rw [e1]
      refine ⟨Nat.le_refl _, by rw [List.length_take]; omega, ?_⟩
      rw [List.take_take, List.length_take]
      congr 1
      omega
  have hlt : ∀ x : Nat, 1 ≤ x → x ≤ l'.length → termAt l' (x : Int) ≤ n.term := by
    rcases h2 with ⟨e1, e2⟩ | ⟨e1, e2⟩
    · rw [e1]; exact h.lt
    · intro x x1 x2
      have hlq : l'.length = q := by rw [e1, List.length_take]; omega
      rw [f1.term x1 (by omega)]
      exact l3 x x1 (by omega)
  let G' : Ghost := { G with A := fun t j => if t = n.term ∧ j = i then max (G.A n.term i) q else G.A t j }
  have hAi : G'.A n.term i = max (G.A n.term i) q := if_pos ⟨rfl, rfl⟩
  have e : Ext i G G' := by
    refine ⟨fun _ _ q => q, fun _ _ q => .inl q, fun t a q => ⟨[], by simp [G'], by simp⟩, fun _ _ _ _ => rfl, fun _ _ _ q => q, fun _ _ _ => rfl, fun _ _ _ q => q, fun _ _ _ => rfl, fun t j => ?_, fun t j q => if_neg (fun c => q c.2)⟩
    show G.A t j ≤ (if t = n.term ∧ j = i then max (G.A n.term i) q else G.A t j)
    split
    · rename_i hc
      rw [hc.1, hc.2]
      omega
    · exact Nat.le_refl _
  have hAl : G.A n.term i ≤ (G.LL n.term).length := by
    by_cases h0 : G.A n.term i = 0
    · omega
    · exact (hg.a n.term i (by omega)).2
  have hg' : GInv k G' := by
    refine hg.grow e n.term (fun _ _ => rfl) (fun t q => if_neg (fun c => q c.1)) (fun t q => ⟨rfl, rfl⟩) (fun _ _ _ => rfl) (fun _ _ => rfl) (fun t q => (h.top t q).1) (fun a q => ?_) (fun a q1 q2 => ?_) (fun l q1 q2 => ?_) (fun a q1 q2 => ?_) (fun _ => ?_)
    · exact ⟨e.wf l1, l2, l3⟩
    · rw [show G.Ldr n.term = some a from q2] at q1; cases q1
    · rw [show G.Cd n.term i = some l from q2] at q1; cases q1
    · rw [show G.V n.term i = some a from q2] at q1; cases q1
    · refine ⟨⟨_, a1⟩, ?_⟩
      rw [hAi]
      show max (G.A n.term i) q ≤ (G.LL n.term).length
      omega
  have hlog : (appendN n m).log = l' := by rw [hl', ← hix]; rfl
  refine ⟨G', e, hg', ⟨h.id, h.jk, h.v, h.x, h.m, h.f, by rw [hlog]; exact e.wf hwf, by rw [hlog]; exact hlt, h.t0, h.vn, h.vs, h.top, fun q => absurd q (by decide : (0 : Int) ≠ 1), fun t q => ⟨(h.ld t q).1, fun _ => (by decide : (0 : Int) ≠ 1)⟩, fun q => absurd q (by decide : (0 : Int) ≠ 2), fun t c q1 q2 => ?_, ?_⟩, ?_⟩
  · rw [hlog]
    show t ≤ n.term ∧ (agree l' (G.LL t) c ∨ Over G t n.term c)
    by_cases htt : t = n.term
    · subst htt
      refine ⟨Int.le_refl _, .inl ?_⟩
      rw [hAi] at q2
      by_cases hcq : c ≤ q
      · exact f1.mono hcq
      · rcases (h.ack n.term c q1 (by omega)).2 with h5 | ⟨u, u1, u2, _⟩
        · exact f2 c h5
        · omega
    · have hAo : G'.A t i = G.A t i := if_neg (fun c => htt c.1)
      rw [hAo] at q2
      obtain ⟨h5, h6⟩ := h.ack t c q1 q2
      refine ⟨h5, ?_⟩
      rcases h6 with h6 | h6
      · rcases f3 t c (by omega) (hg.a t i (by omega)).1 h6 with h7 | h7
        · exact .inl h7
        · exact .inr ⟨n.term, by omega, Int.le_refl _, ⟨_, a1⟩, h7⟩
      · exact .inr h6
  · have hold : ∀ c : Nat, CmOk k G n.term n.log c → CmOk k G n.term l' c := fun c hc => by
      rcases hc with hc | ⟨t, c', t1, t2, t3, t4⟩
      · exact .inl hc
      · refine .inr ⟨t, c', t1, t2, t3, ?_⟩
        by_cases htt : t = n.term
        · subst htt; exact f2 c t4
        · rcases f3 t c (by omega) t2.1 t4 with h7 | h7
          · exact h7
          · exact absurd ((t2.later hg (by omega) ⟨_, a1⟩).mono t3) h7
    have hnew : ∀ c : Nat, c ≤ q → c ≤ m.commit.toNat → CmOk k G n.term l' c := fun c c1 c2 => by
      rcases a7 with h5 | ⟨t, c', t1, t2, t3, t4⟩
      · exact .inl (by omega)
      · exact .inr ⟨t, c', t1, t2, by omega, (f1.mono c1).trans (t4.mono c2)⟩
    have hcm : (appendN n m).commit = mx n.commit (mn m.commit (m.index + m.entries.length)) := rfl
    rw [hcm, hlog]
    have h5 := h.cm.1
    rw [mx_eq, mn_eq]
    refine ⟨by omega, e.cmOk ?_⟩
    show CmOk k G n.term l' _
    by_cases hw : min m.commit (m.index + m.entries.length) ≤ n.commit
    · rw [Int.max_eq_left hw]
      exact hold _ h.cm.2
    · rw [Int.max_eq_right (by omega)]
      exact hnew _ (by omega) (by omega)
  · rw [hq2, hAi]
    omega
end Fed
namespace Fed
open Go Go.RowKit Go.Proofs.Ytnkmljdkokcdjaa
set_option linter.unusedVariables false
variable {k i : Nat} {G : Ghost} {n : Node}

theorem reachedFrom_spec (n : Node) : ∀ c : Nat, reachedFrom n c = n.commit ∨ ∃ x : Nat, 1 ≤ x ∧ x ≤ c ∧ n.commit < x ∧ reachedFrom n c = x ∧ termAt n.log (x : Int) = n.term ∧ n.votes.length < 2 * countG n.mtch (x : Int)
  | 0 => .inl rfl
  | c + 1 => by
    unfold reachedFrom
    split
    · exact .inl rfl
    · split
      · rename_i h1 h2
        exact .inr ⟨c + 1, by omega, by omega, by omega, rfl, h2.1, h2.2⟩
      · rcases reachedFrom_spec n c with h | ⟨x, h1, h2, h3, h4, h5, h6⟩
        · exact .inl h
        · exact .inr ⟨x, h1, by omega, h3, h4, h5, h6⟩
theorem countG_map (l : List Int) (x : Int) : countT (l.map fun y => decide (x ≤ y)) = countG l x := by
  unfold countT countG
  induction l with
  | nil => rfl
  | cons y l ih =>
    rw [List.map_cons, List.filter_cons, List.filter_cons]
    by_cases h : x ≤ y
    · simp [h] at ih ⊢; exact ih
    · simp [h] at ih ⊢; exact ih
/-- One tells how far it has what the leader has. -/
theorem NInv.matchYes (hg : GInv k G) (h : NInv k G i n) {m : Msg} (hm : MInv k G m) (hk : m.kind = 4) (ok : m.ok = true) (hr : n.role = 2) (ht : m.term = n.term) : NInv k G i (matchYes n m) := by
  obtain ⟨c1, c2, c3⟩ := h.lead hr
  have ha := hm.ack hk ok
  rw [ht] at ha
  have hAl : ∀ j, G.A n.term j ≤ n.log.length := fun j => by
    rw [c2]
    by_cases h0 : G.A n.term j = 0
    · omega
    · exact (hg.a n.term j (by omega)).2
  have hf0 := hm.f0
  have hf1 := hm.f1
  have hi0 := hm.i0
  have hfk : m.frm.toNat < k := by omega
  have h3 := c3 m.frm.toNat hfk
  have hnew : ∀ x, x < k → 0 ≤ (matchN1 n m).mtch.getD x 0 ∧ (matchN1 n m).mtch.getD x 0 ≤ (G.A n.term x : Int) := fun x hx => by
    show 0 ≤ (n.mtch.set m.frm.toNat (mx (n.mtch.getD m.frm.toNat 0) m.index)).getD x 0 ∧ (n.mtch.set m.frm.toNat (mx (n.mtch.getD m.frm.toNat 0) m.index)).getD x 0 ≤ (G.A n.term x : Int)
    rw [getD_set]
    split
    · rename_i hc
      rw [← hc.1, mx_eq]
      have := h3.2
      omega
    · exact (c3 x hx).2
  refine ⟨h.id, h.jk, h.v, by simp [Fed.matchYes, matchN1, matchN0, h.x], by simp [Fed.matchYes, matchN1, matchN0, h.m], by simp [Fed.matchYes, matchN1, matchN0, h.f], h.wf, h.lt, h.t0, h.vn, h.vs, h.top, fun q => ?_, h.ld, fun _ => ⟨c1, c2, fun x hx => ⟨?_, hnew x hx⟩⟩, h.ack, ?_⟩
  · have q' : n.role = 1 := q
    omega
  · show 1 ≤ (n.nxt.set m.frm.toNat (mx (n.mtch.getD m.frm.toNat 0) m.index + 1)).getD x 0 ∧ (n.nxt.set m.frm.toNat (mx (n.mtch.getD m.frm.toNat 0) m.index + 1)).getD x 0 ≤ (n.log.length : Int) + 1
    rw [getD_set]
    split
    · rename_i hc
      rw [mx_eq]
      have := h3.2
      have := hAl m.frm.toNat
      omega
    · exact (c3 x hx).1
  · show 0 ≤ reachedFrom (matchN1 n m) n.log.length ∧ CmOk k G n.term n.log (reachedFrom (matchN1 n m) n.log.length).toNat
    rcases reachedFrom_spec (matchN1 n m) n.log.length with h5 | ⟨x, x1, x2, x3, x4, x5, x6⟩
    · rw [h5]; exact h.cm
    · rw [x4]
      refine ⟨by omega, .inr ⟨n.term, x, Int.le_refl _, ⟨⟨i, c1⟩, x1, by rw [← c2]; exact x2, by rw [← c2]; exact x5, (matchN1 n m).mtch.map fun y => decide ((x : Int) ≤ y), ⟨?_, ?_⟩, fun j hj => ?_⟩, by omega, ?_⟩⟩
      · simp [matchN1, h.m]
      · rw [countG_map]
        have x6' : n.votes.length < 2 * countG (matchN1 n m).mtch (x : Int) := x6
        rw [h.v] at x6'
        exact x6'
      · have hml : (matchN1 n m).mtch.length = k := by simp [matchN1, h.m]
        rw [List.getD_eq_getElem?_getD, List.getElem?_map] at hj
        by_cases hjk : j < k
        · have h7 := hnew j hjk
          rw [List.getD_eq_getElem?_getD, List.getElem?_eq_getElem (by omega)] at h7
          rw [List.getElem?_eq_getElem (by omega)] at hj
          simp at hj h7
          omega
        · rw [List.getElem?_eq_none (by omega)] at hj
          simp at hj
      · rw [← c2]
        exact agree.refl (by omega)
theorem NInv.matchNo (h : NInv k G i n) {m : Msg} (hm : MInv k G m) (hr : n.role = 2) : NInv k G i (matchNo n m) := by
  obtain ⟨c1, c2, c3⟩ := h.lead hr
  have hf0 := hm.f0
  have hf1 := hm.f1
  have h3 := c3 m.frm.toNat (by omega)
  refine ⟨h.id, h.jk, h.v, by simp [Fed.matchNo, matchN0, h.x], h.m, by simp [Fed.matchNo, matchN0, h.f], h.wf, h.lt, h.t0, h.vn, h.vs, h.top, fun q => ?_, h.ld, fun _ => ⟨c1, c2, fun x hx => ⟨?_, (c3 x hx).2⟩⟩, h.ack, h.cm⟩
  · have q' : n.role = 1 := q
    omega
  · show 1 ≤ (n.nxt.set m.frm.toNat (mx 1 (mn (n.nxt.getD m.frm.toNat 0 - 2) m.index + 1))).getD x 0 ∧ (n.nxt.set m.frm.toNat (mx 1 (mn (n.nxt.getD m.frm.toNat 0 - 2) m.index + 1))).getD x 0 ≤ (n.log.length : Int) + 1
    rw [getD_set]
    split
    · rw [mx_eq, mn_eq]
      have := h3.1
      omega
    · exact (c3 x hx).1
theorem NInv.voted (h : NInv k G i n) {m : Msg} (hv : G.V n.term m.frm.toNat = some i) : NInv k G i (votedN n m) := by
  refine ⟨h.id, h.jk, by simp [votedN, h.v], h.x, h.m, h.f, h.wf, h.lt, h.t0, h.vn, h.vs, h.top, fun q => ⟨(h.cand q).1, fun x hx => ?_⟩, h.ld, h.lead, h.ack, h.cm⟩
  have hx' : (n.votes.set m.frm.toNat true).getD x false = true := hx
  rw [getD_set] at hx'
  by_cases hc : m.frm.toNat = x ∧ m.frm.toNat < n.votes.length
  · rw [← hc.1]; exact hv
  · rw [if_neg hc] at hx'
    exact (h.cand q).2 x hx'
/-- What a leader sends. -/
theorem NInv.entriesMsg (h : NInv k G i n) (hr : n.role = 2) {to : Int} (t0 : 0 ≤ to) (t1 : to < k) (hne : to ≠ i) : MInv k G (entriesMsg n to) := by
  obtain ⟨c1, c2, c3⟩ := h.lead hr
  have hid := h.id
  have hjk := h.jk
  have h3 := (c3 to.toNat (by omega)).1
  have hat : entriesAt n to = n.nxt.getD to.toNat 0 - 1 := by
    unfold entriesAt
    rw [mx_eq, mn_eq]
    omega
  have ha0 : 0 ≤ entriesAt n to := by omega
  have hal : entriesAt n to ≤ n.log.length := by omega
  obtain ⟨p, hp⟩ : ∃ p : Nat, entriesAt n to = p := ⟨(entriesAt n to).toNat, by omega⟩
  have hl : ((n.log.drop p).take ((mn ((p : Int) + 5) n.log.length).toNat - p)).length = (mn ((p : Int) + 5) n.log.length).toNat - p := by
    rw [List.length_take, List.length_drop, mn_eq]
    omega
  refine ⟨by show (1 : Int) ≤ 3; decide, by show (3 : Int) ≤ 4; decide, by show 0 ≤ n.id; omega, by show n.id < k; omega, t0, t1, ha0, by show to ≠ n.id; omega, fun q => absurd q (by decide : (3 : Int) ≠ 1), fun q => absurd q (by decide : (3 : Int) ≠ 2), fun _ => ?_, fun q => absurd q (by decide : (3 : Int) ≠ 4)⟩
  have e1 : (Fed.entriesMsg n to).index = (p : Int) := hp
  have e2 : (Fed.entriesMsg n to).entries = (n.log.drop p).take ((mn ((p : Int) + 5) n.log.length).toNat - p) := by
    unfold Fed.entriesMsg
    rw [hp]
    rfl
  rw [e1, e2, hl]
  show G.Ldr n.term = some n.id.toNat ∧ to ≠ n.id ∧ _ ≤ (G.LL n.term).length ∧ _ = ((G.LL n.term).drop (p : Int).toNat).take _ ∧ ((0 : Int) < p → termAt n.log (entriesAt n to) = termAt (G.LL n.term) (p : Int)) ∧ 0 ≤ n.commit ∧ CmOk k G n.term (G.LL n.term) n.commit.toNat
  rw [← c2, hid, hp]
  refine ⟨c1, hne, ?_, rfl, fun _ => rfl, h.cm⟩
  rw [mn_eq]
  omega
theorem mem_spread {n : Node} {k : Nat} {m : Msg} (h : m ∈ spreadMsgs n k) : ∃ j : Nat, j < k ∧ (j : Int) ≠ n.id ∧ m = entriesMsg n j := by
  unfold spreadMsgs at h
  obtain ⟨j, h1, h2⟩ := List.mem_map.1 h
  obtain ⟨h3, h4⟩ := List.mem_filter.1 h1
  exact ⟨j, List.mem_range.1 h3, by simpa using h4, h2.symm⟩
theorem mem_ask {n : Node} {k : Nat} {m : Msg} (h : m ∈ askMsgs n k) : ∃ j : Nat, j < k ∧ (j : Int) ≠ n.id ∧ m = voteMsg n j := by
  unfold askMsgs at h
  obtain ⟨j, h1, h2⟩ := List.mem_map.1 h
  obtain ⟨h3, h4⟩ := List.mem_filter.1 h1
  exact ⟨j, List.mem_range.1 h3, by simpa using h4, h2.symm⟩
theorem NInv.spread (h : NInv k G i n) (hr : n.role = 2) {m : Msg} (hm : m ∈ spreadMsgs n n.votes.length) : MInv k G m := by
  obtain ⟨j, h1, h2, rfl⟩ := mem_spread hm
  rw [h.v] at h1
  rw [h.id] at h2
  exact h.entriesMsg hr (by omega) (by omega) h2
theorem NInv.asks (h : NInv k G i n) {l : Nat} (hl : l = k) (hr : G.Cd n.term i = some n.log) {m : Msg} (hm : m ∈ askMsgs n l) : MInv k G m := by
  obtain ⟨j, h1, h2, rfl⟩ := mem_ask hm
  have hid := h.id
  have hjk := h.jk
  refine ⟨by show (1 : Int) ≤ 1; decide, by show (1 : Int) ≤ 4; decide, by show 0 ≤ n.id; omega, by show n.id < k; omega, by show 0 ≤ (j : Int); omega, by show (j : Int) < k; omega, by show 0 ≤ (n.log.length : Int); omega, h2, fun _ => ⟨n.log, ?_, rfl, rfl⟩, fun q => absurd q (by decide : (1 : Int) ≠ 2), fun q => absurd q (by decide : (1 : Int) ≠ 3), fun q => absurd q (by decide : (1 : Int) ≠ 4)⟩
  show G.Cd n.term n.id.toNat = some n.log
  rw [hid]
  exact hr
theorem NInv.votedMsg (h : NInv k G i n) {to : Int} {ok : Bool} (t0 : 0 ≤ to) (t1 : to < k) (hne : to ≠ i) (hv : ok = true → G.V n.term i = some to.toNat) : MInv k G (votedMsg n to ok) := by
  have hid := h.id
  have hjk := h.jk
  refine ⟨by show (1 : Int) ≤ 2; decide, by show (2 : Int) ≤ 4; decide, by show 0 ≤ n.id; omega, by show n.id < k; omega, t0, t1, by show (0 : Int) ≤ 0; decide, by show to ≠ n.id; omega, fun q => absurd q (by decide : (2 : Int) ≠ 1), fun _ q => ?_, fun q => absurd q (by decide : (2 : Int) ≠ 3), fun q => absurd q (by decide : (2 : Int) ≠ 4)⟩
  show G.V n.term n.id.toNat = some to.toNat
  rw [hid]
  exact hv q
theorem NInv.matchMsg (h : NInv k G i n) {to index : Int} {ok : Bool} (t0 : 0 ≤ to) (t1 : to < k) (hne : to ≠ i) (i0 : 0 ≤ index) (hv : ok = true → index.toNat ≤ G.A n.term i) : MInv k G (matchMsg n to index ok) := by
  have hid := h.id
  have hjk := h.jk
  refine ⟨by show (1 : Int) ≤ 4; decide, by show (4 : Int) ≤ 4; decide, by show 0 ≤ n.id; omega, by show n.id < k; omega, t0, t1, i0, by show to ≠ n.id; omega, fun q => absurd q (by decide : (4 : Int) ≠ 1), fun q => absurd q (by decide : (4 : Int) ≠ 2), fun q => absurd q (by decide : (4 : Int) ≠ 3), fun _ q => ?_⟩
  show index.toNat ≤ G.A n.term n.id.toNat
  rw [hid]
  exact hv q
theorem putN_votes (n : Node) (d : ByteArray) : (putN n d).votes = n.votes := rfl
/-- One step of a node: what is known goes on. -/
def Steps (k i : Nat) (G : Ghost) (s : NS) : Prop := ∃ G', Ext i G G' ∧ GInv k G' ∧ NInv k G' i s.n ∧ ∀ m, m ∈ s.out → MInv k G' m
theorem lead_steps (hg : GInv k G) (h : NInv k G i n) (hr : n.role = 1) (hm : n.votes.length < 2 * countT n.votes) {out : List Msg} (ho : ∀ m, m ∈ out → MInv k G m) : Steps k i G (leadS ⟨n, out⟩) := by
  obtain ⟨G', e, g', h'⟩ := lead_step hg h hr hm ⟨#[]⟩
  refine ⟨G', e, g', h', fun m hm => ?_⟩
  have hm' : m ∈ out ++ spreadMsgs (putN (leadN n) ⟨#[]⟩) n.votes.length := hm
  rcases List.mem_append.1 hm' with hm' | hm'
  · exact (ho m hm').grow e
  · exact h'.spread rfl hm'
theorem prop_steps (hg : GInv k G) (h : NInv k G i n) (d : ByteArray) : Steps k i G (proposeS n d) := by
  unfold proposeS
  split
  · rename_i hr
    obtain ⟨G', e, g', h'⟩ := put_step hg h hr.1 d
    refine ⟨G', e, g', h', fun m hm => ?_⟩
    have hm' : m ∈ [] ++ spreadMsgs (putN n d) n.votes.length := hm
    rw [List.nil_append] at hm'
    exact h'.spread hr.1 hm'
  · exact ⟨G, Ext.refl _ _, hg, h, by simp⟩
theorem tick_steps (hg : GInv k G) (h : NInv k G i n) : Steps k i G (tickS n) := by
  have h1 : NInv k G i { n with clock := n.clock + 1 } := h.clock _ n.due
  unfold tickS
  split
  · exact ⟨G, Ext.refl _ _, hg, h1, by simp⟩
  split
  · rename_i hr
    split
    · exact ⟨G, Ext.refl _ _, hg, h1, fun m hm => h1.spread hr hm⟩
    · exact ⟨G, Ext.refl _ _, hg, h1, by simp⟩
  split
  · obtain ⟨G', e, g', h', hc⟩ := stand_step hg h1
    have hl : ∀ m, m ∈ [] ++ askMsgs (standN { n with clock := n.clock + 1 }) n.votes.length → MInv k G' m := fun m hm => by
      rw [List.nil_append] at hm
      exact h'.asks h.v hc hm
    unfold standS
    split
    · rename_i hv
      have hv' : n.votes.length = 1 := hv
      have hk := h.v
      have hjk := h.jk
      have hid := h.id
      obtain ⟨G2, e2, r2⟩ := lead_steps g' h' rfl (by
        show ((List.replicate n.votes.length false).set n.id.toNat true).length < 2 * countT ((List.replicate n.votes.length false).set n.id.toNat true)
        have hi0 : n.id.toNat = 0 := by omega
        rw [hv', hi0]
        decide) hl
      exact ⟨G2, e.trans e2, r2⟩
    · exact ⟨G', e, g', h', hl⟩
  · exact ⟨G, Ext.refl _ _, hg, h1, by simp⟩
theorem hand_steps (hg : GInv k G) (h0 : NInv k G i n) {m : Msg} (hm : MInv k G m) (hto : m.to = i) : Steps k i G (handleS n m) := by
  unfold handleS
  split
  · have h := h0.bump m
    have hid := h.id
    have hjk := h.jk
    have hf0 := hm.f0
    have hf1 := hm.f1
    have hfi : m.frm ≠ i := fun c => hm.ne (by omega)
    generalize Fed.bump n m = n at h hid ⊢
    unfold handleIn
    split
    · rename_i hk
      unfold voteS
      split
      · rename_i ok
        obtain ⟨G', e, g', h', hv⟩ := vote_step hg h hm hk ok
        refine ⟨G', e, g', h', fun x hx => ?_⟩
        rw [List.mem_singleton.1 (show x ∈ [Fed.votedMsg (voteN n m) m.frm true] from hx)]
        exact h'.votedMsg hf0 hf1 hfi (fun _ => hv)
      · refine ⟨G, Ext.refl _ _, hg, h, fun x hx => ?_⟩
        rw [List.mem_singleton.1 (show x ∈ [Fed.votedMsg n m.frm false] from hx)]
        exact h.votedMsg hf0 hf1 hfi (fun q => by cases q)
    split
    · rename_i hk
      unfold votedS
      split
      · exact ⟨G, Ext.refl _ _, hg, h, by simp⟩
      · rename_i hc
        obtain ⟨r1, r2, r3⟩ : n.role = 1 ∧ m.term = n.term ∧ m.ok = true := ⟨Classical.byContradiction fun c => hc (.inl c), Classical.byContradiction fun c => hc (.inr (.inl c)), by
          cases hok : m.ok with
          | true => rfl
          | false => exact absurd (.inr (.inr hok)) hc⟩
        have hv := hm.vote hk r3
        rw [r2, hto] at hv
        have h' := h.voted (m := m) hv
        split
        · rename_i hmj
          exact lead_steps hg h' r1 (by
            have : (votedN n m).votes.length = n.votes.length := by simp [votedN]
            rw [this]
            exact hmj) (by simp)
        · exact ⟨G, Ext.refl _ _, hg, h', by simp⟩
    split
    · rename_i hk
      unfold appendS
      split
      · refine ⟨G, Ext.refl _ _, hg, h, fun x hx => ?_⟩
        rw [List.mem_singleton.1 (show x ∈ [Fed.matchMsg n m.frm n.log.length false] from hx)]
        exact h.matchMsg hf0 hf1 hfi (by omega) (fun q => by cases q)
      · rename_i ht
        have ht' : m.term = n.term := Classical.not_not.1 ht
        split
        · rename_i hf
          have h' := h.follow (n.clock + 5 + 2 * n.id)
          refine ⟨G, Ext.refl _ _, hg, h', fun x hx => ?_⟩
          rw [List.mem_singleton.1 (show x ∈ [Fed.matchMsg n m.frm (mn n.log.length (m.index - 1)) false] from hx)]
          refine h.matchMsg hf0 hf1 hfi ?_ (fun q => by cases q)
          have hi0 := hm.i0
          have hf' : fits n m = false := hf
          simp only [fits, Bool.not_eq_false', Bool.or_eq_true, Bool.and_eq_true, decide_eq_true_eq] at hf'
          rw [mn_eq]
          omega
        · rename_i hf
          have hf' : fits n m = true := by
            cases hq : fits n m with
            | true => rfl
            | false => exact absurd hq hf
          obtain ⟨G', e, g', h', ha⟩ := append_step hg h hm hk hto ht' hf'
          refine ⟨G', e, g', h', fun x hx => ?_⟩
          rw [List.mem_singleton.1 (show x ∈ [Fed.matchMsg (appendN n m) m.frm (m.index + m.entries.length) true] from hx)]
          exact h'.matchMsg hf0 hf1 hfi (by have := hm.i0; omega) (fun _ => ha)
    split
    · rename_i hk
      unfold matchS
      split
      · exact ⟨G, Ext.refl _ _, hg, h, by simp⟩
      · rename_i hc
        obtain ⟨r1, r2⟩ : n.role = 2 ∧ m.term = n.term := ⟨Classical.byContradiction fun c => hc (.inl c), Classical.byContradiction fun c => hc (.inr c)⟩
        split
        · have h' := h.matchNo hm r1
          refine ⟨G, Ext.refl _ _, hg, h', fun x hx => ?_⟩
          rw [List.mem_singleton.1 (show x ∈ [Fed.entriesMsg (Fed.matchNo n m) m.frm] from hx)]
          exact h'.entriesMsg r1 hf0 hf1 hfi
        · rename_i hok
          exact ⟨G, Ext.refl _ _, hg, h.matchYes hg hm hk (by simpa using hok) r1 r2, by simp⟩
    · exact ⟨G, Ext.refl _ _, hg, h, by simp⟩
  · exact ⟨G, Ext.refl _ _, hg, h0, by simp⟩
theorem restart_steps (hg : GInv k G) (h : NInv k G i n) (form : Int) : Steps k i G ⟨restartN n form, []⟩ := ⟨G, Ext.refl _ _, hg, h.restart form, by simp⟩
end Fed
namespace Fed
open Go Go.RowKit Go.Proofs.Ytnkmljdkokcdjaa
set_option linter.unusedVariables false
variable {k i b : Nat} {G : Ghost} {n : Node}

structure NBd (b : Nat) (n : Node) : Prop where
  l : n.log.length ≤ b
  t : n.term ≤ b
  c0 : 0 ≤ n.clock
  c : n.clock ≤ b
  x : ∀ j, 0 ≤ n.nxt.getD j 0 ∧ n.nxt.getD j 0 ≤ b + 1
  m : ∀ j, 0 ≤ n.mtch.getD j 0 ∧ n.mtch.getD j 0 ≤ b
structure MBd (b : Nat) (m : Msg) : Prop where
  t : m.term ≤ b
  e : m.index + m.entries.length ≤ b
def SBd (b : Nat) (s : NS) : Prop := NBd b s.n ∧ ∀ m, m ∈ s.out → MBd b m
theorem NBd.mono {b b' : Nat} (h : NBd b n) (hb : b ≤ b') : NBd b' n := ⟨by have := h.l; omega, by have := h.t; omega, h.c0, by have := h.c; omega, fun j => by have := h.x j; omega, fun j => by have := h.m j; omega⟩
theorem MBd.mono {b b' : Nat} {m : Msg} (h : MBd b m) (hb : b ≤ b') : MBd b' m := ⟨by have := h.t; omega, by have := h.e; omega⟩
theorem MBd.entriesMsg (h : NBd b n) (to : Int) : MBd b (entriesMsg n to) := by
  have hl := h.l
  refine ⟨h.t, ?_⟩
  show entriesAt n to + ((n.log.drop (entriesAt n to).toNat).take ((mn (entriesAt n to + 5) n.log.length).toNat - (entriesAt n to).toNat)).length ≤ b
  rw [List.length_take, List.length_drop, mn_eq]
  have : 0 ≤ entriesAt n to ∧ entriesAt n to ≤ n.log.length := by unfold entriesAt; rw [mx_eq, mn_eq]; omega
  omega
theorem MBd.spread (h : NBd b n) {l : Nat} {m : Msg} (hm : m ∈ spreadMsgs n l) : MBd b m := by
  obtain ⟨j, h1, h2, rfl⟩ := mem_spread hm
  exact MBd.entriesMsg h _
theorem MBd.asks (h : NBd b n) {l : Nat} {m : Msg} (hm : m ∈ askMsgs n l) : MBd b m := by
  obtain ⟨j, h1, h2, rfl⟩ := mem_ask hm
  have := h.l
  exact ⟨h.t, by show (n.log.length : Int) + (0 : Nat) ≤ b; omega⟩
theorem getD_replicate_le {m x : Nat} {v : Int} {B : Int} (h0 : 0 ≤ v) (h : v ≤ B) (hB : 0 ≤ B) : 0 ≤ (List.replicate m v).getD x 0 ∧ (List.replicate m v).getD x 0 ≤ B := by
  rw [List.getD_eq_getElem?_getD, List.getElem?_replicate]
  split
  · exact ⟨h0, h⟩
  · exact ⟨Int.le_refl _, hB⟩
theorem NBd.putN (h : NBd b n) (d : ByteArray) : NBd (b + 1) (putN n d) := by
  refine ⟨by have := h.l; simp [Fed.putN]; omega, by have := h.t; show n.term ≤ _; omega, h.c0, by have := h.c; show n.clock ≤ _; omega, fun j => by have := h.x j; show 0 ≤ n.nxt.getD j 0 ∧ n.nxt.getD j 0 ≤ _; omega, fun j => ?_⟩
  show 0 ≤ (n.mtch.set n.id.toNat ((n.log.length : Int) + 1)).getD j 0 ∧ (n.mtch.set n.id.toNat ((n.log.length : Int) + 1)).getD j 0 ≤ _
  rw [getD_set]
  have := h.l
  split
  · omega
  · have := h.m j; omega
theorem NBd.leadN (h : NBd b n) : NBd b (leadN n) := by
  have hl := h.l
  exact ⟨h.l, h.t, h.c0, h.c, fun j => getD_replicate_le (by omega) (by omega) (by omega), fun j => getD_replicate_le (Int.le_refl _) (by omega) (by omega)⟩
theorem NBd.leadS (h : NBd b n) {out : List Msg} (ho : ∀ m, m ∈ out → MBd b m) : SBd (b + 1) (leadS ⟨n, out⟩) := by
  have h' := h.leadN.putN ⟨#[]⟩
  refine ⟨h', fun m hm => ?_⟩
  have hm' : m ∈ out ++ spreadMsgs (Fed.putN (Fed.leadN n) ⟨#[]⟩) n.votes.length := hm
  rcases List.mem_append.1 hm' with hm' | hm'
  · exact (ho m hm').mono (by omega)
  · exact MBd.spread h' hm'
theorem prop_bd (h : NBd b n) (d : ByteArray) : SBd (b + 1) (proposeS n d) := by
  unfold proposeS
  split
  · refine ⟨h.putN d, fun m hm => ?_⟩
    have hm' : m ∈ [] ++ spreadMsgs (Fed.putN n d) n.votes.length := hm
    rw [List.nil_append] at hm'
    exact MBd.spread (h.putN d) hm'
  · exact ⟨h.mono (by omega), by simp⟩
theorem NBd.tick (h : NBd b n) : NBd (b + 1) { n with clock := n.clock + 1 } := ⟨by have := h.l; show n.log.length ≤ _; omega, by have := h.t; show n.term ≤ _; omega, by have := h.c0; show 0 ≤ n.clock + 1; omega, by have := h.c; show n.clock + 1 ≤ _; omega, fun j => by have := h.x j; show 0 ≤ n.nxt.getD j 0 ∧ n.nxt.getD j 0 ≤ _; omega, fun j => by have := h.m j; show 0 ≤ n.mtch.getD j 0 ∧ n.mtch.getD j 0 ≤ _; omega⟩
theorem NBd.stand (h : NBd b n) : NBd (b + 1) (standN n) := ⟨by have := h.l; show n.log.length ≤ _; omega, by have := h.t; show n.term + 1 ≤ _; omega, h.c0, by have := h.c; show n.clock ≤ _; omega, fun j => by have := h.x j; show 0 ≤ n.nxt.getD j 0 ∧ n.nxt.getD j 0 ≤ _; omega, fun j => by have := h.m j; show 0 ≤ n.mtch.getD j 0 ∧ n.mtch.getD j 0 ≤ _; omega⟩
theorem tick_bd (h : NBd b n) : SBd (b + 2) (tickS n) := by
  have h1 := h.tick
  unfold tickS
  split
  · exact ⟨h1.mono (by omega), by simp⟩
  split
  · split
    · exact ⟨h1.mono (by omega), fun m hm => (MBd.spread h1 hm).mono (by omega)⟩
    · exact ⟨h1.mono (by omega), by simp⟩
  split
  · have h2 : NBd (b + 1) (standN { n with clock := n.clock + 1 }) := ⟨by have := h.l; show n.log.length ≤ _; omega, by have := h.t; show n.term + 1 ≤ _; omega, h1.c0, h1.c, h1.x, h1.m⟩
    have ho : ∀ m, m ∈ [] ++ askMsgs (standN { n with clock := n.clock + 1 }) n.votes.length → MBd (b + 1) m := fun m hm => by
      rw [List.nil_append] at hm
      exact MBd.asks h2 hm
    unfold standS
    split
    · exact h2.leadS ho
    · exact ⟨h2.mono (by omega), fun m hm => (ho m hm).mono (by omega)⟩
  · exact ⟨h1.mono (by omega), by simp⟩
theorem NBd.bump (h : NBd b n) {m : Msg} (hm : MBd b m) : NBd b (bump n m) := by
  unfold Fed.bump
  split
  · exact ⟨h.l, hm.t, h.c0, h.c, h.x, h.m⟩
  · exact h
theorem hand_bd (h0 : NBd b n) {m : Msg} (hm : MBd b m) (i0 : 0 ≤ m.index) : SBd (b + 1) (handleS n m) := by
  unfold handleS
  split
  · have h := h0.bump hm
    generalize Fed.bump n m = n at h ⊢
    have hme := hm.e
    have hl := h.l
    unfold handleIn
    split
    · unfold voteS
      split
      · refine ⟨⟨by show n.log.length ≤ _; omega, by have := h.t; show n.term ≤ _; omega, h.c0, by have := h.c; show n.clock ≤ _; omega, fun j => by have := h.x j; show 0 ≤ n.nxt.getD j 0 ∧ n.nxt.getD j 0 ≤ _; omega, fun j => by have := h.m j; show 0 ≤ n.mtch.getD j 0 ∧ n.mtch.getD j 0 ≤ _; omega⟩, fun x hx => ?_⟩
        rw [List.mem_singleton.1 (show x ∈ [votedMsg (voteN n m) m.frm true] from hx)]
        exact ⟨by have := h.t; show n.term ≤ _; omega, by show (0 : Int) + (0 : Nat) ≤ _; omega⟩
      · refine ⟨h.mono (by omega), fun x hx => ?_⟩
        rw [List.mem_singleton.1 (show x ∈ [votedMsg n m.frm false] from hx)]
        exact ⟨by have := h.t; show n.term ≤ _; omega, by show (0 : Int) + (0 : Nat) ≤ _; omega⟩
    split
    · unfold votedS
      split
      · exact ⟨h.mono (by omega), by simp⟩
      · have h' : NBd b (votedN n m) := ⟨h.l, h.t, h.c0, h.c, h.x, h.m⟩
        split
        · exact h'.leadS (by simp)
        · exact ⟨h'.mono (by omega), by simp⟩
    split
    · unfold appendS
      split
      · refine ⟨h.mono (by omega), fun x hx => ?_⟩
        rw [List.mem_singleton.1 (show x ∈ [matchMsg n m.frm n.log.length false] from hx)]
        exact ⟨by have := h.t; show n.term ≤ _; omega, by show (n.log.length : Int) + (0 : Nat) ≤ _; omega⟩
      · split
        · have h' : NBd b (appendN0 n) := ⟨h.l, h.t, h.c0, h.c, h.x, h.m⟩
          refine ⟨h'.mono (by omega), fun x hx => ?_⟩
          rw [List.mem_singleton.1 (show x ∈ [matchMsg n m.frm (mn n.log.length (m.index - 1)) false] from hx)]
          exact ⟨by have := h.t; show n.term ≤ _; omega, by show mn n.log.length (m.index - 1) + (0 : Nat) ≤ _; rw [mn_eq]; omega⟩
        · rename_i hf
          have hf' : fits n m = true := by
            cases hq : fits n m with
            | true => rfl
            | false => exact absurd hq hf
          have hix : m.index ≤ n.log.length := by
            simp only [fits, Bool.not_eq_true', Bool.or_eq_false_iff, decide_eq_false_iff_not] at hf'
            omega
          have hix2 : (mx m.index 0).toNat = m.index.toNat := by unfold mx; split <;> omega
          have htl := (takeL_len m.entries n.log m.index.toNat (by omega)).2
          have h' : NBd b (appendN n m) := ⟨by show (takeL n.log (mx m.index 0).toNat m.entries).length ≤ b; rw [hix2]; omega, h.t, h.c0, h.c, h.x, h.m⟩
          refine ⟨h'.mono (by omega), fun x hx => ?_⟩
          rw [List.mem_singleton.1 (show x ∈ [matchMsg (appendN n m) m.frm (m.index + m.entries.length) true] from hx)]
          exact ⟨by have := h.t; show n.term ≤ _; omega, by show m.index + m.entries.length + (0 : Nat) ≤ _; omega⟩
    split
    · unfold matchS
      split
      · exact ⟨h.mono (by omega), by simp⟩
      · split
        · have h' : NBd b (matchNo n m) := ⟨h.l, h.t, h.c0, h.c, fun j => by
            show 0 ≤ (n.nxt.set m.frm.toNat (mx 1 (mn (n.nxt.getD m.frm.toNat 0 - 2) m.index + 1))).getD j 0 ∧ (n.nxt.set m.frm.toNat (mx 1 (mn (n.nxt.getD m.frm.toNat 0 - 2) m.index + 1))).getD j 0 ≤ _
            rw [getD_set, mx_eq, mn_eq]
            have := h.x m.frm.toNat
            split
            · omega
            · exact h.x j, h.m⟩
          refine ⟨h'.mono (by omega), fun x hx => ?_⟩
          rw [List.mem_singleton.1 (show x ∈ [entriesMsg (matchNo n m) m.frm] from hx)]
          exact (MBd.entriesMsg h' _).mono (by omega)
        · refine ⟨NBd.mono (b := b) ⟨h.l, h.t, h.c0, h.c, fun j => ?_, fun j => ?_⟩ (by omega), by simp⟩
          · show 0 ≤ (n.nxt.set m.frm.toNat (mx (n.mtch.getD m.frm.toNat 0) m.index + 1)).getD j 0 ∧ (n.nxt.set m.frm.toNat (mx (n.mtch.getD m.frm.toNat 0) m.index + 1)).getD j 0 ≤ _
            rw [getD_set, mx_eq]
            have := h.m m.frm.toNat
            split
            · omega
            · exact h.x j
          · show 0 ≤ (n.mtch.set m.frm.toNat (mx (n.mtch.getD m.frm.toNat 0) m.index)).getD j 0 ∧ (n.mtch.set m.frm.toNat (mx (n.mtch.getD m.frm.toNat 0) m.index)).getD j 0 ≤ _
            rw [getD_set, mx_eq]
            have := h.m m.frm.toNat
            split
            · omega
            · exact h.m j
    · exact ⟨h.mono (by omega), by simp⟩
  · exact ⟨h0.mono (by omega), by simp⟩
theorem restart_bd (h : NBd b n) (form : Int) : NBd b (restartN n form) := ⟨h.l, h.t, Int.le_refl _, by show (0 : Int) ≤ b; omega, fun j => getD_replicate_le (by decide) (by omega) (by omega), fun j => getD_replicate_le (by decide) (by omega) (by omega)⟩

/-- The law's nodes and messages, as they may be. -/
structure Sys (k b : Nat) (s : PS) : Prop where
  len : s.ns.length = k
  fl : s.f.length ≤ 40 + b
  inv : ∃ G, GInv k G ∧ (∀ j n, s.ns[j]? = some n → NInv k G j n) ∧ ∀ m, m ∈ s.f → MInv k G m
  nb : ∀ n, n ∈ s.ns → NBd b n
  mb : ∀ m, m ∈ s.f → MBd b m
def noGhost : Ghost := ⟨fun _ _ => none, fun _ _ => none, fun _ => none, fun _ => [], fun _ => [], fun _ _ => 0⟩
theorem noGhost_inv (k : Nat) : GInv k noGhost := ⟨fun _ _ h => (by cases h), fun _ _ h => (by cases h), fun _ _ _ h => (by cases h), fun _ _ _ h => (by cases h), fun _ _ h => (by have : (1 : Nat) ≤ 0 := h; omega)⟩
theorem newN_inv {k j : Nat} (hj : j < k) (form : Int) : NInv k noGhost j (newN j k form) := by
  unfold newN
  exact ⟨rfl, hj, by simp, by simp, by simp, by simp, WF.nil, fun x h1 h2 => (by simp at h2; omega), Int.le_refl _, fun _ => rfl, fun q => absurd rfl q, fun _ _ => ⟨rfl, rfl⟩, fun q => absurd q (by decide : (0 : Int) ≠ 1), fun _ q => (by cases q), fun q => absurd q (by decide : (0 : Int) ≠ 2), fun _ c h1 h2 => (by have : c ≤ 0 := h2; omega), ⟨Int.le_refl _, .inl rfl⟩⟩
theorem newN_bd (j k : Nat) (form : Int) : NBd 0 (newN j k form) := by
  unfold newN
  exact ⟨by simp, Int.le_refl _, Int.le_refl _, Int.le_refl _, fun j => getD_replicate_le (by decide) (by decide) (by decide), fun j => getD_replicate_le (by decide) (by decide) (by decide)⟩
theorem trim_mem {l : List Msg} {m : Msg} (h : m ∈ trim l) : m ∈ l := List.mem_of_mem_drop h
theorem trim_len (l : List Msg) : (trim l).length ≤ 40 := by unfold trim; rw [List.length_drop]; omega
/-- One node goes on. -/
theorem Sys.fin {s : PS} {f : List Msg} {r : NS} {id b b' : Nat} (h : Sys k b s) (hb : b ≤ b') (hf : ∀ m, m ∈ f → m ∈ s.f) (hid : id < k)
    (hr : ∀ G, GInv k G → NInv k G id (nodeAt s id) → (∀ m, m ∈ s.f → MInv k G m) → Steps k id G r) (hbd : NBd b (nodeAt s id) → SBd b' r) : Sys k b' (pfin ⟨s.ns, f⟩ id r) := by
  obtain ⟨G, g, hn, hm⟩ := h.inv
  have hlt : id < s.ns.length := by rw [h.len]; exact hid
  have hat : s.ns[id]? = some (nodeAt s id) := by
    unfold nodeAt
    rw [List.getD_eq_getElem?_getD, List.getElem?_eq_getElem hlt]; rfl
  obtain ⟨G', e, g', n', m'⟩ := hr G g (hn id _ hat) hm
  obtain ⟨b1, b2⟩ := hbd (h.nb _ (List.mem_of_getElem? hat))
  refine ⟨by simp [pfin, h.len], by have := trim_len (f ++ r.out); show (trim (f ++ r.out)).length ≤ _; omega, ⟨G', g', fun j n q => ?_, fun m q => ?_⟩, fun n q => ?_, fun m q => ?_⟩
  · have q' : (s.ns.set id r.n)[j]? = some n := q
    rw [List.getElem?_set] at q'
    by_cases hj : id = j
    · subst hj
      rw [if_pos rfl, if_pos hlt] at q'
      injection q' with q'
      subst q'
      exact n'
    · rw [if_neg hj] at q'
      exact (hn j n q').other g e (fun c => hj c.symm)
  · rcases List.mem_append.1 (trim_mem (show m ∈ trim (f ++ r.out) from q)) with q' | q'
    · exact (hm m (hf m q')).grow e
    · exact m' m q'
  · have q' : n ∈ s.ns.set id r.n := q
    rcases List.mem_or_eq_of_mem_set q' with q' | q'
    · exact (h.nb n q').mono hb
    · rw [q']; exact b1
  · rcases List.mem_append.1 (trim_mem (show m ∈ trim (f ++ r.out) from q)) with q' | q'
    · exact (h.mb m (hf m q')).mono hb
    · exact b2 m q'
theorem Sys.mono {s : PS} {b b' : Nat} (h : Sys k b s) (hb : b ≤ b') : Sys k b' s := ⟨h.len, by have := h.fl; omega, h.inv, fun n q => (h.nb n q).mono hb, fun m q => (h.mb m q).mono hb⟩
theorem getD_mem {l : List Msg} {a : Nat} (h : a < l.length) : l.getD a noMsg ∈ l := by
  rw [List.getD_eq_getElem?_getD, List.getElem?_eq_getElem h]
  exact List.getElem_mem h
theorem Sys.step {s : PS} {b : Nat} (h : Sys k b s) (hk : 0 < k) (q : Nat) : Sys k (b + 2) (pstep tickS handleS proposeS k q s) := by
  unfold pstep
  have hid : q / 12 % k < k := Nat.mod_lt _ hk
  split
  · exact h.fin (by omega) (fun _ hm => hm) hid (fun G g n _ => tick_steps g n) (fun n => tick_bd n)
  split
  · split
    · exact h.mono (by omega)
    · rename_i hf
      have hlt : q / 12 % min s.f.length 4 < s.f.length := by
        have := Nat.mod_lt (q / 12) (show 0 < min s.f.length 4 by omega)
        omega
      have hmm := getD_mem hlt
      generalize s.f.getD (q / 12 % min s.f.length 4) noMsg = m at hmm ⊢
      have hto : m.to.toNat < k := by
        obtain ⟨G, g, hn, hm⟩ := h.inv
        have := (hm m hmm).t0
        have := (hm m hmm).t1
        omega
      refine h.fin (b' := b + 2) (by omega) (fun _ hm => List.mem_of_mem_eraseIdx hm) hto (fun G g n hm => ?_) (fun n => ?_)
      · exact hand_steps g n (hm m hmm) (Int.toNat_of_nonneg (hm m hmm).t0).symm
      · obtain ⟨G, g, hn, hm⟩ := h.inv
        have h9 := hand_bd n (h.mb m hmm) (hm m hmm).i0
        exact ⟨h9.1.mono (by omega), fun x hx => (h9.2 x hx).mono (by omega)⟩
  split
  · split
    · rename_i hf
      have hlt : q / 12 % s.f.length < s.f.length := Nat.mod_lt _ hf
      have hmm := getD_mem hlt
      have hsub : ∀ m, m ∈ s.f ++ [s.f.getD (q / 12 % s.f.length) noMsg] → m ∈ s.f := fun m hm => by
        rcases List.mem_append.1 hm with hm | hm
        · exact hm
        · rw [List.mem_singleton.1 hm]; exact hmm
      obtain ⟨G, g, hn, hm⟩ := h.inv
      exact ⟨h.len, by have := h.fl; simp; omega, ⟨G, g, hn, fun m q => hm m (hsub m q)⟩, fun n q => (h.nb n q).mono (by omega), fun m q => (h.mb m (hsub m q)).mono (by omega)⟩
    · exact h.mono (by omega)
  split
  · refine h.fin (b' := b + 2) (by omega) (fun _ hm => hm) hid (fun G g n _ => prop_steps g n _) (fun n => ?_)
    have h9 := prop_bd n (letter (q / 36 % 8))
    exact ⟨h9.1.mono (by omega), fun x hx => (h9.2 x hx).mono (by omega)⟩
  split
  · exact h.fin (b' := b + 2) (by omega) (fun _ hm => hm) hid (fun G g n _ => restart_steps g n _) (fun n => ⟨(restart_bd n _).mono (by omega), by simp⟩)
  · exact h.fin (b' := b + 2) (by omega) (fun _ hm => List.mem_of_mem_drop hm) hid (fun G g n _ => ⟨G, Ext.refl _ _, g, n, by simp⟩) (fun n => ⟨n.mono (by omega), by simp⟩)
theorem Sys.init (k : Nat) : Sys k 0 ⟨initN k k, []⟩ := by
  have hl := initN_len k k
  have hg : ∀ j n, (initN k k)[j]? = some n → j < k ∧ n = newN (j : Int) k (1 + (j : Int) % 2) := fun j n hj => by
    unfold initN at hj
    rw [List.getElem?_map] at hj
    by_cases h : j < k
    · rw [List.getElem?_range h] at hj
      exact ⟨h, by injection hj with hj; exact hj.symm⟩
    · rw [List.getElem?_eq_none (by simpa using h)] at hj
      cases hj
  refine ⟨hl, by show (0 : Nat) ≤ _; omega, ⟨noGhost, noGhost_inv k, fun j n hj => ?_, fun m hm => by simp at hm⟩, fun n hn => ?_, fun m hm => by simp at hm⟩
  · obtain ⟨h1, rfl⟩ := hg j n hj
    exact newN_inv h1 _
  · obtain ⟨j, hj⟩ := List.getElem?_of_mem hn
    obtain ⟨h1, rfl⟩ := hg j n hj
    exact newN_bd _ _ _
theorem Sys.states {k : Nat} (hk : 0 < k) (l : List Int) : ∀ i, Sys k (2 * i) (pstates k l i)
  | 0 => Sys.init k
  | i + 1 => (Sys.states hk l i).step hk _
theorem Sys.good {s : PS} {b : Nat} (h : Sys k b s) (hb : b ≤ 900) : Good k s := by
  obtain ⟨G, g, hn, hm⟩ := h.inv
  refine ⟨h.len, fun n q => ?_, by have := h.fl; omega, fun m q => ?_⟩
  · obtain ⟨j, hj⟩ := List.getElem?_of_mem q
    have h1 := hn j n hj
    have h2 := h.nb n q
    have e1 := h1.id
    have e2 := h1.jk
    exact ⟨h1.v, h1.x, h1.m, h1.f, by omega, by omega, by have := h2.l; omega, h1.t0, by have := h2.t; omega, h2.c0, by have := h2.c; omega, h1.cm.1, fun i _ => by have := h2.x i; omega, fun i _ => by have := h2.m i; omega, fun hr i hi => ((h1.lead hr).2.2 i hi).1⟩
  · have h1 := hm m q
    have h2 := h.mb m q
    have h3 := h1.i0
    have h4 := h2.e
    exact ⟨h1.k0, h1.k1, h1.f0, h1.f1, h1.t0, h1.t1, by omega, h1.i0, by omega⟩
theorem good_states {k : Nat} (hk : 0 < k) (l : List Int) (i : Nat) (hi : i ≤ 400) : Good k (pstates k l i) := (Sys.states hk l i).good (by omega)
end Fed
namespace Fed
open Go Go.RowKit Go.Proofs.Ytnkmljdkokcdjaa
set_option linter.unusedVariables false
variable {k : Nat} {G : Ghost} {n m : Node} {i j : Nat}

/-- Two logs that have an entry of one number and term are the same up to it. -/
theorem NInv.same (h : NInv k G i n) (h' : NInv k G j m) {c : Nat} (c1 : 1 ≤ c) (c2 : c ≤ n.log.length) (c3 : c ≤ m.log.length) (ht : termAt n.log (c : Int) = termAt m.log (c : Int)) : n.log.take c = m.log.take c := by
  have w1 := (h.wf c c1 c2).2.2
  have w2 := (h'.wf c c1 c3).2.2
  rw [ht] at w1
  exact (w1.trans w2.symm).2.2
/-- What is committed is the same. -/
theorem NInv.commits (hg : GInv k G) (h : NInv k G i n) (h' : NInv k G j m) {c : Nat} (c1 : (c : Int) ≤ n.commit) (c2 : (c : Int) ≤ m.commit) : n.log.take c = m.log.take c := by
  rcases h.cm.2 with e1 | ⟨t, x, t1, t2, t3, t4⟩
  · have : c = 0 := by have := h.cm.1; omega
    subst this
    simp
  rcases h'.cm.2 with e1 | ⟨u, y, u1, u2, u3, u4⟩
  · have : c = 0 := by have := h'.cm.1; omega
    subst this
    simp
  have a1 := t4.mono (show c ≤ n.commit.toNat by omega)
  have a2 := u4.mono (show c ≤ m.commit.toNat by omega)
  rcases Int.lt_trichotomy t u with hlt | heq | hgt
  · have := (t2.later hg hlt u2.1).mono (show c ≤ x by omega)
    exact ((a1.trans this.symm).trans a2.symm).2.2
  · subst heq
    exact (a1.trans a2.symm).2.2
  · have := (u2.later hg hgt t2.1).mono (show c ≤ y by omega)
    exact ((a1.trans this).trans a2.symm).2.2
/-- In a term one leads at most. -/
theorem NInv.one (h : NInv k G i n) (h' : NInv k G j m) (r : n.role = 2) (r' : m.role = 2) (ht : n.term = m.term) : i = j := by
  have e1 := (h.lead r).1
  have e2 := (h'.lead r').1
  rw [ht, e2] at e1
  injection e1 with e1
  exact e1.symm
theorem NInv.commit_le (h : NInv k G i n) : n.commit ≤ n.log.length := by
  rcases h.cm.2 with e1 | ⟨t, x, t1, t2, t3, t4⟩
  · have := h.cm.1; omega
  · have := t4.1; have := h.cm.1; omega
end Fed
