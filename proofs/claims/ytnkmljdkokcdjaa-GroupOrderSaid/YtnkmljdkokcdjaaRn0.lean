/-
  A node by value whose rows are its own; a node in a variable: what stays, what is stored.
-/
import Derived.Test.YtnkmljdkokcdjaaMl
import Derived.Test.YtnkmljdkokcdjaaMc
set_option linter.unusedVariables false
set_option linter.unusedSimpArgs false
namespace Go.Proofs.Ytnkmljdkokcdjaa
open Go Go.RowKit Fed
set_option linter.unusedVariables false

/-- The world that a goal ends in gets a name, with what is known of it. -/
theorem name_world {G : World → Prop} {F : World → Prop} (w : World) (f : F w) (h : ∀ W, F W → G W) : G w := h w f

/-- The blocks of a node's rows. -/
structure O5 where
  l : Option Nat
  v : Option Nat
  n : Option Nat
  m : Option Nat
  f : Option Nat
/-- A node whose rows are its own, newer than B. -/
structure NodeOs (w : World) (B : Nat) (n : Fed.Node) (σ : Sl5) (ω : O5) : Prop where
  hl : MM.Row w B 40 2 (.slice σ.A3 n.log.length σ.k3) n.log.length (entsC n.log) ω.l
  hv : MM.Row w B 4 1 (.slice σ.A7 n.votes.length σ.k7) n.votes.length (boolsC n.votes) ω.v
  hn : MM.Row w B 3 1 (.slice σ.A8 n.nxt.length σ.k8) n.nxt.length (intsC n.nxt) ω.n
  hm : MM.Row w B 3 1 (.slice σ.A9 n.mtch.length σ.k9) n.mtch.length (intsC n.mtch) ω.m
  hf : MM.Row w B 3 1 (.slice σ.A10 n.forms.length σ.k10) n.forms.length (intsC n.forms) ω.f
  nm : ∀ k, ω.n = some k → ω.m ≠ some k
  nf : ∀ k, ω.n = some k → ω.f ≠ some k
  mf : ∀ k, ω.m = some k → ω.f ≠ some k
namespace NodeOs
variable {w w1 : World} {B B' : Nat} {n : Fed.Node} {σ : Sl5} {ω : O5}
theorem step (h : NodeOs w B n σ ω) (hm : ∀ k, B ≤ k → k < w.heap.size → w1.heap[k]? = w.heap[k]?) : NodeOs w1 B n σ ω :=
  ⟨h.hl.step fun k hk hlt => hm k (h.hl.lt k hk).1 hlt, h.hv.step fun k hk hlt => hm k (h.hv.lt k hk).1 hlt, h.hn.step fun k hk hlt => hm k (h.hn.lt k hk).1 hlt, h.hm.step fun k hk hlt => hm k (h.hm.lt k hk).1 hlt, h.hf.step fun k hk hlt => hm k (h.hf.lt k hk).1 hlt, h.nm, h.nf, h.mf⟩
theorem below (h : NodeOs w B n σ ω) (hb : Below w.heap.size w w1) : NodeOs w1 B n σ ω := h.step fun k _ hk => hb.block k hk
theorem alloc (h : NodeOs w B n σ ω) (o : Obj) : NodeOs (w.alloc o) B n σ ω := h.step fun k _ hk => Below.heap_alloc w o k hk
theorem drew (h : NodeOs w B n σ ω) : NodeOs w.drew B n σ ω := h.step fun _ _ _ => rfl
theorem lower (h : NodeOs w B n σ ω) (hb : B' ≤ B) : NodeOs w B' n σ ω := ⟨h.hl.lower hb, h.hv.lower hb, h.hn.lower hb, h.hm.lower hb, h.hf.lower hb, h.nm, h.nf, h.mf⟩
theorem toV (h : NodeOs w B n σ ω) : NodeVs w (fun k => B ≤ k) n σ :=
  ⟨h.hl.rd.mono fun k hk _ => (h.hl.lt k hk).1, h.hv.rd.mono fun k hk _ => (h.hv.lt k hk).1, h.hn.rd.mono fun k hk _ => (h.hn.lt k hk).1, h.hm.rd.mono fun k hk _ => (h.hm.lt k hk).1, h.hf.rd.mono fun k hk _ => (h.hf.lt k hk).1⟩
/-- Blocks of other types may change. -/
theorem types (h : NodeOs w B n σ ω) (hm : ∀ k t, MM.Ty w k t → t = 40 ∨ t = 4 ∨ t = 3 → w1.heap[k]? = w.heap[k]?) : NodeOs w1 B n σ ω :=
  ⟨h.hl.step fun k hk _ => hm k _ (h.hl.ty k hk) (.inl rfl), h.hv.step fun k hk _ => hm k _ (h.hv.ty k hk) (.inr (.inl rfl)), h.hn.step fun k hk _ => hm k _ (h.hn.ty k hk) (.inr (.inr rfl)), h.hm.step fun k hk _ => hm k _ (h.hm.ty k hk) (.inr (.inr rfl)), h.hf.step fun k hk _ => hm k _ (h.hf.ty k hk) (.inr (.inr rfl)), h.nm, h.nf, h.mf⟩
theorem set_m {b i : Nat} {x : Int} (h : NodeOs w B n σ ω) (hb : ω.m = some b) (hi : i < n.mtch.length) : NodeOs (w.setCell ⟨b, i, none⟩ (.int .i64 x)) B { n with mtch := n.mtch.set i x } σ ω := by
  have hr := h.hm
  rw [hb] at hr
  refine ⟨h.hl.far (fun k hk => ty_ne (h.hl.ty k hk) (hr.ty b rfl) (by decide)) _, h.hv.far (fun k hk => ty_ne (h.hv.ty k hk) (hr.ty b rfl) (by decide)) _, h.hn.far (fun k hk e => h.nm k hk (by rw [hb, e])) _, ?_, h.hf.far (fun k hk e => h.mf b hb (by rw [hk, e])) _, h.nm, h.nf, h.mf⟩
  have := hr.set (i := i) (u := .int .i64 x) hi
  rw [hb]
  simpa [intsC, List.map_set] using this
theorem set_n {b i : Nat} {x : Int} (h : NodeOs w B n σ ω) (hb : ω.n = some b) (hi : i < n.nxt.length) : NodeOs (w.setCell ⟨b, i, none⟩ (.int .i64 x)) B { n with nxt := n.nxt.set i x } σ ω := by
  have hr := h.hn
  rw [hb] at hr
  refine ⟨h.hl.far (fun k hk => ty_ne (h.hl.ty k hk) (hr.ty b rfl) (by decide)) _, h.hv.far (fun k hk => ty_ne (h.hv.ty k hk) (hr.ty b rfl) (by decide)) _, ?_, h.hm.far (fun k hk e => h.nm b hb (by rw [hk, e])) _, h.hf.far (fun k hk e => h.nf b hb (by rw [hk, e])) _, h.nm, h.nf, h.mf⟩
  have := hr.set (i := i) (u := .int .i64 x) hi
  rw [hb]
  simpa [intsC, List.map_set] using this
theorem set_f {b i : Nat} {x : Int} (h : NodeOs w B n σ ω) (hb : ω.f = some b) (hi : i < n.forms.length) : NodeOs (w.setCell ⟨b, i, none⟩ (.int .i64 x)) B { n with forms := n.forms.set i x } σ ω := by
  have hr := h.hf
  rw [hb] at hr
  refine ⟨h.hl.far (fun k hk => ty_ne (h.hl.ty k hk) (hr.ty b rfl) (by decide)) _, h.hv.far (fun k hk => ty_ne (h.hv.ty k hk) (hr.ty b rfl) (by decide)) _, h.hn.far (fun k hk e => h.nf k hk (by rw [hb, e])) _, h.hm.far (fun k hk e => h.mf k hk (by rw [hb, e])) _, ?_, h.nm, h.nf, h.mf⟩
  have := hr.set (i := i) (u := .int .i64 x) hi
  rw [hb]
  simpa [intsC, List.map_set] using this
theorem set_v {b i : Nat} {x : Bool} (h : NodeOs w B n σ ω) (hb : ω.v = some b) (hi : i < n.votes.length) : NodeOs (w.setCell ⟨b, i, none⟩ (.bool x)) B { n with votes := n.votes.set i x } σ ω := by
  have hr := h.hv
  rw [hb] at hr
  have tb := hr.ty b rfl
  refine ⟨h.hl.far (fun k hk => ty_ne (h.hl.ty k hk) tb (by decide)) _, ?_, h.hn.far (fun k hk => ty_ne (h.hn.ty k hk) tb (by decide)) _, h.hm.far (fun k hk => ty_ne (h.hm.ty k hk) tb (by decide)) _, h.hf.far (fun k hk => ty_ne (h.hf.ty k hk) tb (by decide)) _, h.nm, h.nf, h.mf⟩
  have := hr.set (i := i) (u := .bool x) hi
  rw [hb]
  simpa [boolsC, List.map_set] using this
end NodeOs

/-- A node in a variable's block b, with rows of its own. -/
structure NB (w : World) (B b : Nat) (n : Fed.Node) (σ : Sl5) (ω : O5) : Prop where
  hB : B ≤ b
  blk : w.heap[b]? = some (.cells #[.int .i64 n.id, .int .i64 n.term, .int .i64 n.vote, .slice σ.A3 n.log.length σ.k3, .int .i64 n.form, .int .i64 n.role, .int .i64 n.commit, .slice σ.A7 n.votes.length σ.k7, .slice σ.A8 n.nxt.length σ.k8, .slice σ.A9 n.mtch.length σ.k9, .slice σ.A10 n.forms.length σ.k10, .int .i64 n.clock, .int .i64 n.due] 28 (0, 0))
  rows : NodeOs w B n σ ω
namespace NB
variable {w w1 : World} {B B' b : Nat} {n : Fed.Node} {σ : Sl5} {ω : O5}
theorem lt (h : NB w B b n σ ω) : b < w.heap.size := MM.blk_lt h.blk
theorem ty (h : NB w B b n σ ω) : MM.Ty w b 28 := ⟨_, _, h.blk⟩
theorem c (h : NB w B b n σ ω) (i : Nat) (u : Value) (hi : (#[.int .i64 n.id, .int .i64 n.term, .int .i64 n.vote, .slice σ.A3 n.log.length σ.k3, .int .i64 n.form, .int .i64 n.role, .int .i64 n.commit, .slice σ.A7 n.votes.length σ.k7, .slice σ.A8 n.nxt.length σ.k8, .slice σ.A9 n.mtch.length σ.k9, .slice σ.A10 n.forms.length σ.k10, .int .i64 n.clock, .int .i64 n.due] : Array Value)[i]? = some u) : w.cell? ⟨b, i, none⟩ = some u := MM.cell_blk h.blk hi
theorem fr (h : NB w B b n σ ω) (i : Nat) : w.frozen? ⟨b, i, none⟩ = false := MM.free_blk h.blk
theorem step (h : NB w B b n σ ω) (hm : ∀ k, B ≤ k → k < w.heap.size → w1.heap[k]? = w.heap[k]?) : NB w1 B b n σ ω := ⟨h.hB, (hm b h.hB h.lt).trans h.blk, h.rows.step hm⟩
theorem below (h : NB w B b n σ ω) (hb : Below w.heap.size w w1) : NB w1 B b n σ ω := h.step fun k _ hk => hb.block k hk
theorem alloc (h : NB w B b n σ ω) (o : Obj) : NB (w.alloc o) B b n σ ω := h.step fun k _ hk => Below.heap_alloc w o k hk
theorem drew (h : NB w B b n σ ω) : NB w.drew B b n σ ω := h.step fun _ _ _ => rfl
theorem lower (h : NB w B b n σ ω) (hb : B' ≤ B) : NB w B' b n σ ω := ⟨Nat.le_trans hb h.hB, h.blk, h.rows.lower hb⟩
/-- A store into another block, of none of the rows' types. -/
theorem far (h : NB w B b n σ ω) {p : Addr} {t : Nat} (ht : MM.Ty w p.block t) (hp : p.block ≠ b) (h1 : t ≠ 40) (h2 : t ≠ 4) (h3 : t ≠ 3) (u : Value) : NB (w.setCell p u) B b n σ ω :=
  ⟨h.hB, (Below.heap_setCell w p u b (Ne.symm hp)).trans h.blk, h.rows.types fun k t' hk ht' => Below.heap_setCell w p u k (ty_ne hk ht (by rcases ht' with rfl | rfl | rfl <;> first | exact Ne.symm h1 | exact Ne.symm h2 | exact Ne.symm h3))⟩
/-- A store into a field that is no row. -/
theorem set (h : NB w B b n σ ω) {n' : Fed.Node} {i : Nat} {u : Value}
    (hc : (#[.int .i64 n.id, .int .i64 n.term, .int .i64 n.vote, .slice σ.A3 n.log.length σ.k3, .int .i64 n.form, .int .i64 n.role, .int .i64 n.commit, .slice σ.A7 n.votes.length σ.k7, .slice σ.A8 n.nxt.length σ.k8, .slice σ.A9 n.mtch.length σ.k9, .slice σ.A10 n.forms.length σ.k10, .int .i64 n.clock, .int .i64 n.due] : Array Value).setIfInBounds i u = #[.int .i64 n'.id, .int .i64 n'.term, .int .i64 n'.vote, .slice σ.A3 n'.log.length σ.k3, .int .i64 n'.form, .int .i64 n'.role, .int .i64 n'.commit, .slice σ.A7 n'.votes.length σ.k7, .slice σ.A8 n'.nxt.length σ.k8, .slice σ.A9 n'.mtch.length σ.k9, .slice σ.A10 n'.forms.length σ.k10, .int .i64 n'.clock, .int .i64 n'.due])
    (e : n'.log = n.log ∧ n'.votes = n.votes ∧ n'.nxt = n.nxt ∧ n'.mtch = n.mtch ∧ n'.forms = n.forms) : NB (w.setCell ⟨b, i, none⟩ u) B b n' σ ω := by
  have hr := h.rows.types (w1 := w.setCell ⟨b, i, none⟩ u) fun k t hk ht => Below.heap_setCell w _ u k (ty_ne hk h.ty (by rcases ht with rfl | rfl | rfl <;> decide))
  obtain ⟨e1, e2, e3, e4, e5⟩ := e
  refine ⟨h.hB, by rw [setCell_blk u h.blk, hc], ?_, ?_, ?_, ?_, ?_, h.rows.nm, h.rows.nf, h.rows.mf⟩
  · rw [e1]; exact hr.hl
  · rw [e2]; exact hr.hv
  · rw [e3]; exact hr.hn
  · rw [e4]; exact hr.hm
  · rw [e5]; exact hr.hf
/-- A new log, and its row in its field. -/
theorem put_log (h : NB w B b n σ ω) {l : List Fed.Entry} {A : Option Addr} {k : Nat} {ob : Option Nat} (hr : MM.Row w B 40 2 (.slice A l.length k) l.length (entsC l) ob) : NB (w.setCell ⟨b, 3, none⟩ (.slice A l.length k)) B b { n with log := l } { σ with A3 := A, k3 := k } { ω with l := ob } := by
  have hr' := h.rows.types (w1 := w.setCell ⟨b, 3, none⟩ (.slice A l.length k)) fun k t hk ht => Below.heap_setCell w _ _ k (ty_ne hk h.ty (by rcases ht with rfl | rfl | rfl <;> decide))
  refine ⟨h.hB, by rw [setCell_blk _ h.blk]; rfl, hr.far (fun k hk => ty_ne (hr.ty k hk) h.ty (by decide)) _, hr'.hv, hr'.hn, hr'.hm, hr'.hf, h.rows.nm, h.rows.nf, h.rows.mf⟩
theorem set_m {p i : Nat} {x : Int} (h : NB w B b n σ ω) (hb : ω.m = some p) (hi : i < n.mtch.length) : NB (w.setCell ⟨p, i, none⟩ (.int .i64 x)) B b { n with mtch := n.mtch.set i x } σ ω :=
  ⟨h.hB, by rw [List.length_set]; exact (Below.heap_setCell w _ _ b (ty_ne h.ty (h.rows.hm.ty p hb) (by decide))).trans h.blk, h.rows.set_m hb hi⟩
theorem set_n {p i : Nat} {x : Int} (h : NB w B b n σ ω) (hb : ω.n = some p) (hi : i < n.nxt.length) : NB (w.setCell ⟨p, i, none⟩ (.int .i64 x)) B b { n with nxt := n.nxt.set i x } σ ω :=
  ⟨h.hB, by rw [List.length_set]; exact (Below.heap_setCell w _ _ b (ty_ne h.ty (h.rows.hn.ty p hb) (by decide))).trans h.blk, h.rows.set_n hb hi⟩
theorem set_f {p i : Nat} {x : Int} (h : NB w B b n σ ω) (hb : ω.f = some p) (hi : i < n.forms.length) : NB (w.setCell ⟨p, i, none⟩ (.int .i64 x)) B b { n with forms := n.forms.set i x } σ ω :=
  ⟨h.hB, by rw [List.length_set]; exact (Below.heap_setCell w _ _ b (ty_ne h.ty (h.rows.hf.ty p hb) (by decide))).trans h.blk, h.rows.set_f hb hi⟩
theorem set_v {p i : Nat} {x : Bool} (h : NB w B b n σ ω) (hb : ω.v = some p) (hi : i < n.votes.length) : NB (w.setCell ⟨p, i, none⟩ (.bool x)) B b { n with votes := n.votes.set i x } σ ω :=
  ⟨h.hB, by rw [List.length_set]; exact (Below.heap_setCell w _ _ b (ty_ne h.ty (h.rows.hv.ty p hb) (by decide))).trans h.blk, h.rows.set_v hb hi⟩
theorem toV (h : NB w B b n σ ω) : NodeVs w (fun k => B ≤ k) n σ := h.rows.toV
end NB
end Go.Proofs.Ytnkmljdkokcdjaa
