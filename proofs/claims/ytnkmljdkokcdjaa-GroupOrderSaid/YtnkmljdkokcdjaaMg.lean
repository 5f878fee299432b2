/-
  Nodes in a block of their own, one behind the other; nodes that are gathered.
-/
import Derived.Test.YtnkmljdkokcdjaaMl
import Derived.Test.YtnkmljdkokcdjaaMc
import Derived.Test.YtnkmljdkokcdjaaRe0
import Derived.WalkKit
import Derived.WalkSpells
import Derived.Lib.Hide
import Derived.Outline
import Derived.Test.YtnkmljdkokcdjaaChecked
import Derived.Test.YtnkmljdkokcdjaaMn
import Derived.Test.YtnkmljdkokcdjaaMem
import Derived.Test.YtnkmljdkokcdjaaFed
import Derived.Deep.DeepCutAuto
import Derived.Deep.CutBlock
import Derived.Deep.OwnRows
import Derived.IntWalk
set_option linter.unusedVariables false
set_option linter.unusedSimpArgs false
namespace Go.Proofs.Ytnkmljdkokcdjaa
open Go Go.RowKit Fed
set_option linter.unusedVariables false

/-- Values, stored one behind the other from a place on. -/
def putL (w : World) (b o : Nat) : List Value → World
  | [] => w
  | u :: us => putL (w.setCell ⟨b, o, none⟩ u) b (o + 1) us
theorem putL_far {b : Nat} : ∀ {us : List Value} {w : World} {o k : Nat}, k ≠ b → (putL w b o us).heap[k]? = w.heap[k]?
  | [], _, _, _, _ => rfl
  | u :: us, w, o, k, h => (putL_far (us := us) h).trans (Below.heap_setCell w _ u k h)
theorem putL_blk {b t : Nat} {f : Nat × Nat} : ∀ {us : List Value} {w : World} {o : Nat} {c : Array Value}, w.heap[b]? = some (.cells c t f) → o + us.length ≤ c.size →
    ∃ c', (putL w b o us).heap[b]? = some (.cells c' t f) ∧ c'.size = c.size ∧ ∀ k, c'[k]? = if o ≤ k ∧ k < o + us.length then us[k - o]? else c[k]?
  | [], w, o, c, h, _ => ⟨c, h, rfl, fun k => by rw [if_neg (by simp only [List.length_nil]; omega)]⟩
  | u :: us, w, o, c, h, hs => by
    simp only [List.length_cons] at hs
    obtain ⟨c', h1, h2, h3⟩ := putL_blk (us := us) (w := w.setCell ⟨b, o, none⟩ u) (o := o + 1) (setCell_blk u h) (by simp; omega)
    refine ⟨c', h1, by simpa using h2, fun k => ?_⟩
    rw [h3 k]
    by_cases hk : o + 1 ≤ k ∧ k < o + 1 + us.length
    · rw [if_pos hk, if_pos (by simp only [List.length_cons]; omega), show k - o = (k - (o + 1)) + 1 from by omega]
      simp
    · rw [if_neg hk, Array.getElem?_setIfInBounds]
      by_cases e : o = k
      · subst e
        rw [if_pos rfl, if_pos (by omega), if_pos (by simp only [List.length_cons]; omega)]
        simp
      · rw [if_neg e, if_neg (by simp only [List.length_cons]; omega)]
theorem putL_size {b : Nat} : ∀ {us : List Value} {w : World} {o : Nat}, (putL w b o us).heap.size = w.heap.size
  | [], _, _ => rfl
  | u :: us, w, o => by rw [putL, putL_size]; simp [World.setCell]
theorem putL_below {n b : Nat} {w0 : World} : ∀ {us : List Value} {w : World} {o : Nat}, Below n w0 w → n ≤ b → Below n w0 (putL w b o us)
  | [], _, _, h, _ => h
  | u :: us, w, o, h, hb => putL_below (us := us) (h.setCell hb u) hb

def nodeL (n : Fed.Node) (σ : Sl5) : List Value := [.int .i64 n.id, .int .i64 n.term, .int .i64 n.vote, .slice σ.A3 n.log.length σ.k3, .int .i64 n.form, .int .i64 n.role, .int .i64 n.commit, .slice σ.A7 n.votes.length σ.k7, .slice σ.A8 n.nxt.length σ.k8, .slice σ.A9 n.mtch.length σ.k9, .slice σ.A10 n.forms.length σ.k10, .int .i64 n.clock, .int .i64 n.due]
theorem nodeL_len (n : Fed.Node) (σ : Sl5) : (nodeL n σ).length = 13 := rfl
/-- Nodes in a block of their own, one behind the other; their rows elsewhere. -/
structure NodesAt (w : World) (ok : Nat → Prop) (b : Nat) (ns : List Fed.Node) : Prop where
  blk : ∃ c : Array Value, w.heap[b]? = some (.cells c 28 (0, 0)) ∧ ns.length * 13 ≤ c.size
  no : ∀ k, ok k → k ≠ b
  at_ : ∀ i n, ns[i]? = some n → ∃ σ, NodeVs w ok n σ ∧ ∀ j u, (nodeL n σ)[j]? = some u → w.cell? ⟨b, i * 13 + j, none⟩ = some u
namespace NodesAt
variable {w w1 : World} {ok ok' : Nat → Prop} {b : Nat} {ns : List Fed.Node}
theorem lt (h : NodesAt w ok b ns) : b < w.heap.size := by obtain ⟨c, h1, _⟩ := h.blk; exact MM.blk_lt h1
theorem free (h : NodesAt w ok b ns) (j : Nat) : w.frozen? ⟨b, j, none⟩ = false := by obtain ⟨c, h1, _⟩ := h.blk; exact MM.free_blk h1
theorem ty (h : NodesAt w ok b ns) : MM.Ty w b 28 := by obtain ⟨c, h1, _⟩ := h.blk; exact ⟨c, _, h1⟩
/-- What was there stays, but perhaps blocks that it does not lead to. -/
theorem step (h : NodesAt w ok b ns) (hb : w1.heap[b]? = w.heap[b]?) (hm : ∀ k, ok k → k < w.heap.size → w1.heap[k]? = w.heap[k]?) : NodesAt w1 ok b ns := by
  obtain ⟨c, h1, h2⟩ := h.blk
  refine ⟨⟨c, hb.trans h1, h2⟩, h.no, fun i n hi => ?_⟩
  obtain ⟨σ, v, hc⟩ := h.at_ i n hi
  exact ⟨σ, v.step hm, fun j u hj => (World.cell?_of_block (a := ⟨b, i * 13 + j, none⟩) hb).trans (hc j u hj)⟩
theorem below (h : NodesAt w ok b ns) (hb : Below w.heap.size w w1) : NodesAt w1 ok b ns := h.step (hb.block b h.lt) fun k _ hk => hb.block k hk
theorem drew (h : NodesAt w ok b ns) : NodesAt w.drew ok b ns := h.step rfl fun _ _ _ => rfl
theorem mono (h : NodesAt w ok b ns) (hok : ∀ k, ok k → k < w.heap.size → ok' k) (hno : ∀ k, ok' k → k ≠ b) : NodesAt w ok' b ns :=
  ⟨h.blk, hno, fun i n hi => by obtain ⟨σ, v, hc⟩ := h.at_ i n hi; exact ⟨σ, v.mono hok, hc⟩⟩
/-- One node is replaced. -/
theorem set (h : NodesAt w ok b ns) {i : Nat} (hi : i < ns.length) {n : Fed.Node} {σ : Sl5} (hn : NodeVs w ok n σ) : NodesAt (putL w b (i * 13) (nodeL n σ)) ok b (ns.set i n) := by
  obtain ⟨c, h1, h2⟩ := h.blk
  obtain ⟨c', k1, k2, k3⟩ := putL_blk (us := nodeL n σ) (o := i * 13) h1 (by rw [nodeL_len]; omega)
  have far : ∀ k, ok k → (putL w b (i * 13) (nodeL n σ)).heap[k]? = w.heap[k]? := fun k hk => putL_far (h.no k hk)
  refine ⟨⟨c', k1, by rw [List.length_set, k2]; exact h2⟩, h.no, fun i' n' hi' => ?_⟩
  have cell : ∀ k, (putL w b (i * 13) (nodeL n σ)).cell? ⟨b, k, none⟩ = c'[k]? := fun k => by simp [World.cell?, k1]
  have cell0 : ∀ k, w.cell? ⟨b, k, none⟩ = c[k]? := fun k => by simp [World.cell?, h1]
  rw [List.getElem?_set] at hi'
  by_cases e : i = i'
  · subst e
    rw [if_pos rfl, if_pos hi] at hi'
    injection hi' with hi'
    subst hi'
    refine ⟨σ, hn.step fun k hk _ => far k hk, fun j u hj => ?_⟩
    have hjl := (List.getElem?_eq_some_iff.1 hj).1
    rw [cell, k3, if_pos ⟨by omega, by omega⟩, show i * 13 + j - i * 13 = j from by omega]
    exact hj
  · rw [if_neg e] at hi'
    obtain ⟨τ, v, hc⟩ := h.at_ i' n' hi'
    refine ⟨τ, v.step fun k hk _ => far k hk, fun j u hj => ?_⟩
    have hjl := (List.getElem?_eq_some_iff.1 hj).1
    rw [nodeL_len] at hjl
    rw [cell, k3, if_neg (by rw [nodeL_len]; omega), ← cell0]
    exact hc j u hj
end NodesAt
/-- Messages stay when 13 cells of a block of another type are stored. -/
theorem MsgsV.far {w : World} {ok : Nat → Prop} {v : Value} {ms : List Fed.Msg} {b o : Nat} {us : List Value} (h : MsgsV w ok v ms) (hb : ∀ k, ok k → k ≠ b) : MsgsV (putL w b o us) ok v ms :=
  h.step fun k hk _ => putL_far (hb k hk)
end Go.Proofs.Ytnkmljdkokcdjaa
namespace Go.Proofs.Ytnkmljdkokcdjaa
open Go.RowKit Fed
set_option linter.unusedVariables false
attribute [local go_sem high] Fed.max2_int Fed.min2_int

theorem info28 : (Try.prog.info? 28).map (fun i => (i.zero, i.size, i.bytes)) = some (some (.agg #[.int .i64 0, .int .i64 0, .int .i64 0, .slice none 0 0, .int .i64 0, .int .i64 0, .int .i64 0, .slice none 0 0, .slice none 0 0, .slice none 0 0, .slice none 0 0, .int .i64 0, .int .i64 0]), 13, 184) := by kernel_rfl
/-- Nodes that are gathered in a row of one's own. -/
def NodesOut (w : World) (B : Nat) (v : Value) (ns : List Fed.Node) (ob : Option Nat) (ok : Nat → Prop) : Prop :=
  ∃ cs, MM.Row w B 28 13 v ns.length cs ob ∧ ∀ i n, ns[i]? = some n → ∃ σ, NodeVs w ok n σ ∧ ∀ j u, (nodeL n σ)[j]? = some u → cs[i * 13 + j]? = some u
namespace NodesOut
variable {w w1 : World} {B : Nat} {v : Value} {ns : List Fed.Node} {ob : Option Nat} {ok ok' : Nat → Prop}
theorem nil (w : World) (B : Nat) (A : Option Addr) (ok : Nat → Prop) : NodesOut w B (.slice A 0 0) [] none ok := ⟨[], MM.Row.nil _ _ _ _ _, fun i n h => by simp at h⟩
theorem step (h : NodesOut w B v ns ob ok) (hr : ∀ k, ob = some k → w1.heap[k]? = w.heap[k]?) (hm : ∀ k, ok k → k < w.heap.size → w1.heap[k]? = w.heap[k]?) : NodesOut w1 B v ns ob ok := by
  obtain ⟨cs, h1, h2⟩ := h
  exact ⟨cs, h1.step fun k hk _ => hr k hk, fun i n hi => by obtain ⟨σ, q, hc⟩ := h2 i n hi; exact ⟨σ, q.step hm, hc⟩⟩
theorem below (h : NodesOut w B v ns ob ok) (hb : Below w.heap.size w w1) : NodesOut w1 B v ns ob ok := by
  obtain ⟨cs, h1, h2⟩ := h
  exact ⟨cs, h1.below hb, fun i n hi => by obtain ⟨σ, q, hc⟩ := h2 i n hi; exact ⟨σ, q.below hb, hc⟩⟩
theorem mono (h : NodesOut w B v ns ob ok) (hok : ∀ k, ok k → k < w.heap.size → ok' k) : NodesOut w B v ns ob ok' := by
  obtain ⟨cs, h1, h2⟩ := h
  exact ⟨cs, h1, fun i n hi => by obtain ⟨σ, q, hc⟩ := h2 i n hi; exact ⟨σ, q.mono hok, hc⟩⟩
theorem slice (h : NodesOut w B v ns ob ok) : ∃ A c, v = .slice A ns.length c ∧ ns.length ≤ c ∧ c ≤ maxLen := by
  obtain ⟨cs, h1, _⟩ := h
  exact h1.slice
theorem lt (h : NodesOut w B v ns ob ok) : ∀ k, ob = some k → B ≤ k ∧ k < w.heap.size := by
  obtain ⟨cs, h1, _⟩ := h
  exact h1.lt
end NodesOut
theorem nodeL_one (n : Fed.Node) (σ : Sl5) : ∀ u ∈ nodeL n σ, u.oneCell' = true := by
  intro u hu
  simp only [nodeL, List.mem_cons, List.not_mem_nil, or_false] at hu
  rcases hu with rfl | rfl | rfl | rfl | rfl | rfl | rfl | rfl | rfl | rfl | rfl | rfl | rfl <;> rfl
/-- One more node is appended. -/
theorem append_node {ops : Array Oper} {rest : List Oper} {o : Oper} {a : Act} {Q : Exit → Act → World → Prop} (w : World) (hgd : o.guard = none) (s x : Operand)
    (ho : o.op = .call { callee := .builtin .append, args := #[s, x], argTypes := #[48, 48] }) (hty : o.type = 48)
    (B : Nat) (v : Value) (ns : List Fed.Node) (ob : Option Nat) (ok : Nat → Prop) (hs : a.eval s = v) (h : NodesOut w B v ns ob ok) (hno : ∀ k, ok k → ob ≠ some k)
    (b : Nat) (n : Fed.Node) (σ : Sl5) (hx : a.eval x = .slice (some ⟨b, 0, none⟩) 1 1) (hb : w.heap[b]? = some (.cells #[.int .i64 n.id, .int .i64 n.term, .int .i64 n.vote, .slice σ.A3 n.log.length σ.k3, .int .i64 n.form, .int .i64 n.role, .int .i64 n.commit, .slice σ.A7 n.votes.length σ.k7, .slice σ.A8 n.nxt.length σ.k8, .slice σ.A9 n.mtch.length σ.k9, .slice σ.A10 n.forms.length σ.k10, .int .i64 n.clock, .int .i64 n.due] 28 (0, 0)))
    (hn : NodeVs w ok n σ) (hl : ns.length ≤ 1000) (hB : B ≤ w.heap.size)
    (hK : ∀ A' c' w' ob', NodesOut w' B (.slice A' (ns.length + 1) c') (ns ++ [n]) ob' (fun k => ok k ∧ k < w.heap.size) → (∀ k, k < w.heap.size → ob ≠ some k → w'.heap[k]? = w.heap[k]?) → (ob' = ob ∨ ∃ b, ob' = some b ∧ w.heap.size ≤ b) → Below B w w' → wpList Try.prog ops Q rest (a.put o.dst (.slice A' (ns.length + 1) c')) w') : wpList Try.prog ops Q (o :: rest) a w := by
  obtain ⟨i0, hi, hz0, hz1, hz2⟩ := info_parts info28
  obtain ⟨cs, h1, h2⟩ := h
  refine MM.wpList_append_row _ hgd s x 48 ho B 28 i0 _ 13 184 Try.underlying48 hi hz0 hz1 hz2 rfl (by decide) v ns.length cs ob hs h1 (fun _ => True) _ 1 (nodeL n σ) hx (MM.Rd.lit hb trivial rfl (Nat.le_refl _) (by simp [maxLen]) rfl) (nodeL_one n σ) (by simp only [maxLen]; omega) (by omega) hB ?_
  intro v' w' ob' hr hg hob
  obtain ⟨A', c', rfl, _, _⟩ := hr.slice
  have kp : ∀ k, k < w.heap.size → ob ≠ some k → w'.heap[k]? = w.heap[k]? := fun k hk hne => hg.block k hk (fun e => hne e.symm)
  have vs : ∀ {n : Fed.Node} {σ : Sl5}, NodeVs w ok n σ → NodeVs w' (fun k => ok k ∧ k < w.heap.size) n σ := fun q => (q.mono (ok' := fun k => ok k ∧ k < w.heap.size) fun k hk hl => ⟨hk, hl⟩).step fun k hk _ => kp k hk.2 (hno k hk.1)
  refine hK A' c' w' ob' ⟨cs ++ nodeL n σ, by simpa using hr, fun i m hi => ?_⟩ kp hob ((Below.refl B w).grown hg hB (fun k hk => (h1.lt k hk).1))
  have hcl : cs.length = ns.length * 13 := h1.len
  by_cases hin : i < ns.length
  · rw [List.getElem?_append_left hin] at hi
    obtain ⟨τ, q, hc⟩ := h2 i m hi
    exact ⟨τ, vs q, fun j u hj => by
      have h9 := hc j u hj
      have hlt := (List.getElem?_eq_some_iff.1 h9).1
      rw [List.getElem?_append_left hlt]
      exact h9⟩
  · rw [List.getElem?_append_right (by omega)] at hi
    have hie : i - ns.length = 0 := by
      have := (List.getElem?_eq_some_iff.1 hi).1
      simp at this
      omega
    rw [hie] at hi
    simp at hi
    subst hi
    exact ⟨σ, vs hn, fun j u hj => by
      rw [List.getElem?_append_right (by omega), hcl, show i * 13 + j - ns.length * 13 = j from by omega]
      exact hj⟩
theorem put13 {w : World} {b o : Nat} {u0 u1 u2 u3 u4 u5 u6 u7 u8 u9 u10 u11 u12 : Value} : (((((((((((((w.setCell ⟨b, o, none⟩ u0).setCell ⟨b, o + 1, none⟩ u1).setCell ⟨b, o + 2, none⟩ u2).setCell ⟨b, o + 3, none⟩ u3).setCell ⟨b, o + 4, none⟩ u4).setCell ⟨b, o + 5, none⟩ u5).setCell ⟨b, o + 6, none⟩ u6).setCell ⟨b, o + 7, none⟩ u7).setCell ⟨b, o + 8, none⟩ u8).setCell ⟨b, o + 9, none⟩ u9).setCell ⟨b, o + 10, none⟩ u10).setCell ⟨b, o + 11, none⟩ u11).setCell ⟨b, o + 12, none⟩ u12) = putL w b o [u0, u1, u2, u3, u4, u5, u6, u7, u8, u9, u10, u11, u12] := rfl
theorem far13o {w : World} {b o k : Nat} {u0 u1 u2 u3 u4 u5 u6 u7 u8 u9 u10 u11 u12 : Value} (h : k ≠ b) : (((((((((((((w.setCell ⟨b, o, none⟩ u0).setCell ⟨b, o + 1, none⟩ u1).setCell ⟨b, o + 2, none⟩ u2).setCell ⟨b, o + 3, none⟩ u3).setCell ⟨b, o + 4, none⟩ u4).setCell ⟨b, o + 5, none⟩ u5).setCell ⟨b, o + 6, none⟩ u6).setCell ⟨b, o + 7, none⟩ u7).setCell ⟨b, o + 8, none⟩ u8).setCell ⟨b, o + 9, none⟩ u9).setCell ⟨b, o + 10, none⟩ u10).setCell ⟨b, o + 11, none⟩ u11).setCell ⟨b, o + 12, none⟩ u12).heap[k]? = w.heap[k]? := by rw [put13]; exact putL_far h
theorem below13o {n : Nat} {w0 w : World} {b o : Nat} {u0 u1 u2 u3 u4 u5 u6 u7 u8 u9 u10 u11 u12 : Value} (q : Below n w0 w) (h : n ≤ b) : Below n w0 (((((((((((((w.setCell ⟨b, o, none⟩ u0).setCell ⟨b, o + 1, none⟩ u1).setCell ⟨b, o + 2, none⟩ u2).setCell ⟨b, o + 3, none⟩ u3).setCell ⟨b, o + 4, none⟩ u4).setCell ⟨b, o + 5, none⟩ u5).setCell ⟨b, o + 6, none⟩ u6).setCell ⟨b, o + 7, none⟩ u7).setCell ⟨b, o + 8, none⟩ u8).setCell ⟨b, o + 9, none⟩ u9).setCell ⟨b, o + 10, none⟩ u10).setCell ⟨b, o + 11, none⟩ u11).setCell ⟨b, o + 12, none⟩ u12) := by rw [put13]; exact putL_below q h
theorem NodesAt.set13 {w : World} {ok : Nat → Prop} {b : Nat} {ns : List Fed.Node} (h : NodesAt w ok b ns) {i : Nat} (hi : i < ns.length) {n : Fed.Node} {σ : Sl5} (hn : NodeVs w ok n σ) : NodesAt (((((((((((((w.setCell ⟨b, i * 13, none⟩ (.int .i64 n.id)).setCell ⟨b, i * 13 + 1, none⟩ (.int .i64 n.term)).setCell ⟨b, i * 13 + 2, none⟩ (.int .i64 n.vote)).setCell ⟨b, i * 13 + 3, none⟩ (.slice σ.A3 n.log.length σ.k3)).setCell ⟨b, i * 13 + 4, none⟩ (.int .i64 n.form)).setCell ⟨b, i * 13 + 5, none⟩ (.int .i64 n.role)).setCell ⟨b, i * 13 + 6, none⟩ (.int .i64 n.commit)).setCell ⟨b, i * 13 + 7, none⟩ (.slice σ.A7 n.votes.length σ.k7)).setCell ⟨b, i * 13 + 8, none⟩ (.slice σ.A8 n.nxt.length σ.k8)).setCell ⟨b, i * 13 + 9, none⟩ (.slice σ.A9 n.mtch.length σ.k9)).setCell ⟨b, i * 13 + 10, none⟩ (.slice σ.A10 n.forms.length σ.k10)).setCell ⟨b, i * 13 + 11, none⟩ (.int .i64 n.clock)).setCell ⟨b, i * 13 + 12, none⟩ (.int .i64 n.due)) ok b (ns.set i n) := by
  rw [put13]
  exact h.set hi hn

end Go.Proofs.Ytnkmljdkokcdjaa
