/-
Where a node's rows lie; the document's Entries of the same rows; entries behind a place.
Nodes in a block of their own, one behind the other; nodes that are gathered.
A node by value whose rows are its own; a node in a variable: what stays, what is stored.
The document's entries and own copy rows. Conditions: the lengths are bounded as the theorems say.
-/
import Derived.Test.YtnkmljdkokcdjaaB1
import Derived.WalkKit
import Derived.WalkSpells
import Derived.Lib.Hide
import Derived.Outline
import Derived.Test.YtnkmljdkokcdjaaChecked
import Derived.Test.YtnkmljdkokcdjaaB0
import Derived.Test.YtnkmljdkokcdjaaB2
import Derived.Test.YtnkmljdkokcdjaaB4
import Derived.Deep.DeepCutAuto
import Derived.Deep.CutBlock
import Derived.Deep.OwnRows
import Derived.IntWalk
set_option maxRecDepth 100000
set_option maxHeartbeats 4000000
set_option linter.unusedVariables false
set_option linter.unusedSimpArgs false
namespace Go.Proofs.Ytnkmljdkokcdjaa
open Go Go.RowKit Fed Go.RT
structure Sl5 where
 A3 : Option Addr
 k3 : Nat
 A7 : Option Addr
 k7 : Nat
 A8 : Option Addr
 k8 : Nat
 A9 : Option Addr
 k9 : Nat
 A10 : Option Addr
 k10 : Nat
abbrev _root_.Fed.NA (n : Fed.Node) (s : Sl5) : Array Value := #[.int .i64 n.id, .int .i64 n.term, .int .i64 n.vote, .slice s.A3 n.log.length s.k3, .int .i64 n.form, .int .i64 n.role, .int .i64 n.commit, .slice s.A7 n.votes.length s.k7, .slice s.A8 n.nxt.length s.k8, .slice s.A9 n.mtch.length s.k9, .slice s.A10 n.forms.length s.k10, .int .i64 n.clock, .int .i64 n.due]
abbrev NodeVs (w : World) (ok : Nat → Prop) (n : Fed.Node) (σ : Sl5) : Prop := NodeV w ok n (.slice σ.A3 n.log.length σ.k3) (.slice σ.A7 n.votes.length σ.k7) (.slice σ.A8 n.nxt.length σ.k8) (.slice σ.A9 n.mtch.length σ.k9) (.slice σ.A10 n.forms.length σ.k10)
theorem alloc_new2 (w : World) (o p q : Obj) : (((w.alloc o).alloc p).alloc q).heap[w.heap.size + 2]? = some q := by
 have := MM.alloc_new ((w.alloc o).alloc p) q
 simpa using this
theorem alloc_mid (w : World) (o p q : Obj) : (((w.alloc o).alloc p).alloc q).heap[w.heap.size + 1]? = some p := by
 have h1 := MM.alloc_new1 w o p
 have h2 : w.heap.size + 1 < ((w.alloc o).alloc p).heap.size := by simp
 exact (Below.heap_alloc _ q _ h2).trans h1
theorem far3 {w : World} {b k i j l : Nat} {u v x : Value} (h : k ≠ b) : (((w.setCell ⟨b, i, none⟩ u).setCell ⟨b, j, none⟩ v).setCell ⟨b, l, none⟩ x).heap[k]? = w.heap[k]? :=
 (Below.heap_setCell _ _ _ k h).trans ((Below.heap_setCell _ _ _ k h).trans (Below.heap_setCell _ _ _ k h))
end Go.Proofs.Ytnkmljdkokcdjaa
namespace Go.Proofs.Ytnkmljdkokcdjaa
open Go.RowKit Fed Go.RT
attribute [local go_sem high] Fed.max2_int Fed.min2_int Fed.MA Fed.ZN Fed.ZM
theorem rents_same (w : World) (ok1 ok2 : Nat → Prop) (A1 A2 : Option Addr) (c1 c2 : Nat) (l : List Fed.Entry) (h1 : MM.Rd w ok1 2 (.slice A1 l.length c1) l.length (entsC l)) (h2 : MM.Rd w ok2 2 (.slice A2 l.length c2) l.length (entsC l)) :
  Calls Try.prog 28 #[.slice A1 l.length c1, .slice A2 l.length c2] w fun e w' => e = .returned (.bool true) ∧ Below w.heap.size w w' := by
 have H1 := Hd h1
 have H2 := Hd h2
 have hlm : l.length ≤ maxLen := by obtain ⟨_, _, _, _, q1, q2, _⟩ := h1; omega
 unfold maxLen at hlm
 clear h1 h2
 go_enter Try.func28, Try.ntmps28
 have hbq : ((l.length : Int) != (l.length : Int)) = false := by simp
 go_wp2_with fail
 go_loopw [5] (fun t5 wr => ∃ i : Nat, i ≤ l.length ∧ t5 = .int .i64 i ∧ Hid (Below w.heap.size w wr)) (fun t5 _ => l.length - (intOf t5).toNat)
 case atStart => exact ⟨0, by omega, rfl, Hd (Below.refl _ _)⟩
 case round =>
  obtain ⟨i, hi, rfl, HB⟩ := hrel
  by_cases hlt : i < l.length
  ·have hltb : decide ((i : Int) < (l.length : Int)) = true := decide_eq_true (by omega)
   obtain ⟨x, hx⟩ : ∃ x, l[i]? = some x := ⟨_, List.getElem?_eq_getElem hlt⟩
   obtain ⟨_, A1', c1', ea, _, _, r1⟩ := H1.out.mono (ok' := fun _ => True) (fun _ _ _ => trivial) |>.below (w1 := wr) HB.out
   injection ea with ea1 _ ea2
   subst ea1 ea2
   obtain ⟨b1, o1, rfl, _, _, g1⟩ := r1 (by omega)
   obtain ⟨_, A2', c2', ea, _, _, r2⟩ := H2.out.mono (ok' := fun _ => True) (fun _ _ _ => trivial) |>.below (w1 := wr) HB.out
   injection ea with ea1 _ ea2
   subst ea1 ea2
   obtain ⟨b2, o2, rfl, _, _, g2⟩ := r2 (by omega)
   have x1 : wr.cell? ⟨b1, o1 + i * 2, none⟩ = some (.int .i64 x.term) := g1 _ _ (entsC_get hx).1
   have x2 : wr.cell? ⟨b1, o1 + i * 2 + 1, none⟩ = some (.string x.data) := g1 _ _ (entsC_get hx).2
   have y1 : wr.cell? ⟨b2, o2 + i * 2, none⟩ = some (.int .i64 x.term) := g2 _ _ (entsC_get hx).1
   have y2 : wr.cell? ⟨b2, o2 + i * 2 + 1, none⟩ = some (.string x.data) := g2 _ _ (entsC_get hx).2
   clear g1 g2 r1 r2 hx
   go_wp2_with fail
   refine wT (.p 0 (.p 1 (.p 2 (.s 3 (.p 4 (.p 5 (.p 6 (.s 7 (.p 8 .nil))))))))) (by kernel_rfl) (by kernel_rfl) ?_
   repeat ((first | refine sP rfl fun K hK => ?_ | refine sS rfl fun K hK => ?_); go_simp; refine hK _ ?_; clear hK K)
   refine sN ?_
   go_wp2_with fail
   go_roundw
   case rel => exact ⟨i + 1, by omega, by go_num, Hd HB.out.drew⟩
   case measure => simp [intOf]; omega
  ·obtain rfl : i = l.length := by omega
   have hltb : decide ((l.length : Int) < (l.length : Int)) = false := by simp
   go_wp2_with fail
   go_ret
   exact ⟨rfl, HB.out⟩
end Go.Proofs.Ytnkmljdkokcdjaa
namespace Go.Proofs.Ytnkmljdkokcdjaa
open Go Go.RowKit Fed Go.RT
theorem termAt_get {l : List Fed.Entry} {i : Nat} {e : Fed.Entry} (h : l[i]? = some e) : termAt l ((i + 1 : Nat) : Int) = e.term := by
 have hl : i < l.length := (List.getElem?_eq_some_iff.1 h).1
 unfold termAt
 rw [if_pos ⟨by omega, by omega⟩, show ((((i + 1 : Nat) : Int)) - 1).toNat = i from by omega, h]
 rfl
end Go.Proofs.Ytnkmljdkokcdjaa
namespace Go.Proofs.Ytnkmljdkokcdjaa
open Go Go.RowKit Fed
def putL (w : World) (b o : Nat) : List Value → World
 | [] => w
 | u :: us => putL (w.setCell ⟨b, o, none⟩ u) b (o + 1) us
theorem putL_far {b : Nat} : ∀ {us : List Value} {w : World} {o k : Nat}, k ≠ b → (putL w b o us).heap[k]? = w.heap[k]?
 | [], _, _, _, _ => rfl
 | u :: us, w, o, k, h => (putL_far (us := us) h).trans (Below.heap_setCell w _ u k h)
theorem putL_blk {b t : Nat} {f : Nat × Nat} : ∀ {us : List Value} {w : World} {o : Nat} {c : Array Value}, w.heap[b]? = some (.cells c t f) → o + us.length ≤ c.size →
  ∃ c', (putL w b o us).heap[b]? = some (.cells c' t f) ∧ c'.size = c.size ∧ ∀ k, c'[k]? = if o ≤ k ∧ k < o + us.length then us[k - o]? else c[k]?
 | [], w, o, c, h, _ => ⟨c, h, rfl, fun k => by rw [if_neg (by simp only [List.length_nil]; omega)]⟩
 | u :: us, w, o, c, h, hs => by
  simp only [List.length_cons] at hs
  obtain ⟨c', h1, h2, h3⟩ := putL_blk (us := us) (w := w.setCell ⟨b, o, none⟩ u) (o := o + 1) (setCell_blk u h) (by simp; omega)
  refine ⟨c', h1, by simpa using h2, fun k => ?_⟩
  rw [h3 k]
  by_cases hk : o + 1 ≤ k ∧ k < o + 1 + us.length
  ·rw [if_pos hk, if_pos (by simp only [List.length_cons]; omega), show k - o = (k - (o + 1)) + 1 from by omega]
   simp
  ·rw [if_neg hk, Array.getElem?_setIfInBounds]
   by_cases e : o = k
   ·subst e
    rw [if_pos rfl, if_pos (by omega), if_pos (by simp only [List.length_cons]; omega)]
    simp
   ·rw [if_neg e, if_neg (by simp only [List.length_cons]; omega)]
theorem putL_size {b : Nat} : ∀ {us : List Value} {w : World} {o : Nat}, (putL w b o us).heap.size = w.heap.size
 | [], _, _ => rfl
 | u :: us, w, o => by rw [putL, putL_size]; simp [World.setCell]
theorem putL_below {n b : Nat} {w0 : World} : ∀ {us : List Value} {w : World} {o : Nat}, Below n w0 w → n ≤ b → Below n w0 (putL w b o us)
 | [], _, _, h, _ => h
 | u :: us, w, o, h, hb => putL_below (us := us) (h.setCell hb u) hb
def nodeL (n : Fed.Node) (σ : Sl5) : List Value := [.int .i64 n.id, .int .i64 n.term, .int .i64 n.vote, .slice σ.A3 n.log.length σ.k3, .int .i64 n.form, .int .i64 n.role, .int .i64 n.commit, .slice σ.A7 n.votes.length σ.k7, .slice σ.A8 n.nxt.length σ.k8, .slice σ.A9 n.mtch.length σ.k9, .slice σ.A10 n.forms.length σ.k10, .int .i64 n.clock, .int .i64 n.due]
theorem nodeL_len (n : Fed.Node) (σ : Sl5) : (nodeL n σ).length = 13 := rfl
structure NodesAt (w : World) (ok : Nat → Prop) (b : Nat) (ns : List Fed.Node) : Prop where
 blk : ∃ c : Array Value, w.heap[b]? = some (.cells c 28 (0, 0)) ∧ ns.length * 13 ≤ c.size
 no : ∀ k, ok k → k ≠ b
 at_ : ∀ i n, ns[i]? = some n → ∃ σ, NodeVs w ok n σ ∧ ∀ j u, (nodeL n σ)[j]? = some u → w.cell? ⟨b, i * 13 + j, none⟩ = some u
namespace NodesAt
variable {w w1 : World} {ok ok' : Nat → Prop} {b : Nat} {ns : List Fed.Node}
end NodesAt
theorem MsgsV.far {w : World} {ok : Nat → Prop} {v : Value} {ms : List Fed.Msg} {b o : Nat} {us : List Value} (h : MsgsV w ok v ms) (hb : ∀ k, ok k → k ≠ b) : MsgsV (putL w b o us) ok v ms :=
 h.step fun k hk _ => putL_far (hb k hk)
end Go.Proofs.Ytnkmljdkokcdjaa
namespace Go.Proofs.Ytnkmljdkokcdjaa
open Go.RowKit Fed
attribute [local go_sem high] Fed.max2_int Fed.min2_int Fed.MA Fed.ZN Fed.ZM Fed.NA
theorem info28 : (Try.prog.info? 28).map (fun i => (i.zero, i.size, i.bytes)) = some (some (.agg ZN), 13, 184) := by kernel_rfl
def NodesOut (w : World) (B : Nat) (v : Value) (ns : List Fed.Node) (ob : Option Nat) (ok : Nat → Prop) : Prop :=
 ∃ cs, MM.Row w B 28 13 v ns.length cs ob ∧ ∀ i n, ns[i]? = some n → ∃ σ, NodeVs w ok n σ ∧ ∀ j u, (nodeL n σ)[j]? = some u → cs[i * 13 + j]? = some u
namespace NodesOut
variable {w w1 : World} {B : Nat} {v : Value} {ns : List Fed.Node} {ob : Option Nat} {ok ok' : Nat → Prop}
theorem nil (w : World) (B : Nat) (A : Option Addr) (ok : Nat → Prop) : NodesOut w B (.slice A 0 0) [] none ok := ⟨[], MM.Row.nil _ _ _ _ _, fun i n h => by simp at h⟩
theorem step (h : NodesOut w B v ns ob ok) (hr : ∀ k, ob = some k → w1.heap[k]? = w.heap[k]?) (hm : ∀ k, ok k → k < w.heap.size → w1.heap[k]? = w.heap[k]?) : NodesOut w1 B v ns ob ok := by
 obtain ⟨cs, h1, h2⟩ := h
 exact ⟨cs, h1.step fun k hk _ => hr k hk, fun i n hi => by obtain ⟨σ, q, hc⟩ := h2 i n hi; exact ⟨σ, q.step hm, hc⟩⟩
theorem below (h : NodesOut w B v ns ob ok) (hb : Below w.heap.size w w1) : NodesOut w1 B v ns ob ok := by
 obtain ⟨cs, h1, h2⟩ := h
 exact ⟨cs, h1.below hb, fun i n hi => by obtain ⟨σ, q, hc⟩ := h2 i n hi; exact ⟨σ, q.below hb, hc⟩⟩
theorem mono (h : NodesOut w B v ns ob ok) (hok : ∀ k, ok k → k < w.heap.size → ok' k) : NodesOut w B v ns ob ok' := by
 obtain ⟨cs, h1, h2⟩ := h
 exact ⟨cs, h1, fun i n hi => by obtain ⟨σ, q, hc⟩ := h2 i n hi; exact ⟨σ, q.mono hok, hc⟩⟩
theorem slice (h : NodesOut w B v ns ob ok) : ∃ A c, v = .slice A ns.length c ∧ ns.length ≤ c ∧ c ≤ maxLen := by
 obtain ⟨cs, h1, _⟩ := h
 exact h1.slice
theorem lt (h : NodesOut w B v ns ob ok) : ∀ k, ob = some k → B ≤ k ∧ k < w.heap.size := by
 obtain ⟨cs, h1, _⟩ := h
 exact h1.lt
end NodesOut
theorem nodeL_one (n : Fed.Node) (σ : Sl5) : ∀ u ∈ nodeL n σ, u.oneCell' = true := by
 intro u hu
 simp only [nodeL, List.mem_cons, List.not_mem_nil, or_false] at hu
 rcases hu with rfl | rfl | rfl | rfl | rfl | rfl | rfl | rfl | rfl | rfl | rfl | rfl | rfl <;> rfl
theorem append_node {ops : Array Oper} {rest : List Oper} {o : Oper} {a : Act} {Q : Exit → Act → World → Prop} (w : World) (hgd : o.guard = none) (s x : Operand)
  (ho : o.op = .call { callee := .builtin .append, args := #[s, x], argTypes := #[48, 48] }) (hty : o.type = 48)
  (B : Nat) (v : Value) (ns : List Fed.Node) (ob : Option Nat) (ok : Nat → Prop) (hs : a.eval s = v) (h : NodesOut w B v ns ob ok) (hno : ∀ k, ok k → ob ≠ some k)
  (b : Nat) (n : Fed.Node) (σ : Sl5) (hx : a.eval x = .slice (some ⟨b, 0, none⟩) 1 1) (hb : w.heap[b]? = some (.cells (NA n σ) 28 (0, 0)))
  (hn : NodeVs w ok n σ) (hl : ns.length ≤ 1000) (hB : B ≤ w.heap.size)
  (hK : ∀ A' c' w' ob', NodesOut w' B (.slice A' (ns.length + 1) c') (ns ++ [n]) ob' (fun k => ok k ∧ k < w.heap.size) → (∀ k, k < w.heap.size → ob ≠ some k → w'.heap[k]? = w.heap[k]?) → (ob' = ob ∨ ∃ b, ob' = some b ∧ w.heap.size ≤ b) → Below B w w' → wpList Try.prog ops Q rest (a.put o.dst (.slice A' (ns.length + 1) c')) w') : wpList Try.prog ops Q (o :: rest) a w := by
 obtain ⟨i0, hi, hz0, hz1, hz2⟩ := info_parts info28
 obtain ⟨cs, h1, h2⟩ := h
 refine MM.wpList_append_row _ hgd s x 48 ho B 28 i0 _ 13 184 Try.underlying48 hi hz0 hz1 hz2 rfl (by decide) v ns.length cs ob hs h1 (fun _ => True) _ 1 (nodeL n σ) hx (MM.Rd.lit hb trivial rfl (Nat.le_refl _) (by simp [maxLen]) rfl) (nodeL_one n σ) (by simp only [maxLen]; omega) (by omega) hB ?_
 intro v' w' ob' hr hg hob
 obtain ⟨A', c', rfl, _, _⟩ := hr.slice
 have kp : ∀ k, k < w.heap.size → ob ≠ some k → w'.heap[k]? = w.heap[k]? := fun k hk hne => hg.block k hk (fun e => hne e.symm)
 have vs : ∀ {n : Fed.Node} {σ : Sl5}, NodeVs w ok n σ → NodeVs w' (fun k => ok k ∧ k < w.heap.size) n σ := fun q => (q.mono (ok' := fun k => ok k ∧ k < w.heap.size) fun k hk hl => ⟨hk, hl⟩).step fun k hk _ => kp k hk.2 (hno k hk.1)
 refine hK A' c' w' ob' ⟨cs ++ nodeL n σ, by simpa using hr, fun i m hi => ?_⟩ kp hob ((Below.refl B w).grown hg hB (fun k hk => (h1.lt k hk).1))
 have hcl : cs.length = ns.length * 13 := h1.len
 by_cases hin : i < ns.length
 ·rw [List.getElem?_append_left hin] at hi
  obtain ⟨τ, q, hc⟩ := h2 i m hi
  exact ⟨τ, vs q, fun j u hj => by
   have h9 := hc j u hj
   have hlt := (List.getElem?_eq_some_iff.1 h9).1
   rw [List.getElem?_append_left hlt]
   exact h9⟩
 ·rw [List.getElem?_append_right (by omega)] at hi
  have hie : i - ns.length = 0 := by
   have := (List.getElem?_eq_some_iff.1 hi).1
   simp at this
   omega
  rw [hie] at hi
  simp at hi
  subst hi
  exact ⟨σ, vs hn, fun j u hj => by
   rw [List.getElem?_append_right (by omega), hcl, show i * 13 + j - ns.length * 13 = j from by omega]
   exact hj⟩
theorem put13 {w : World} {b o : Nat} {u0 u1 u2 u3 u4 u5 u6 u7 u8 u9 u10 u11 u12 : Value} : (((((((((((((w.setCell ⟨b, o, none⟩ u0).setCell ⟨b, o + 1, none⟩ u1).setCell ⟨b, o + 2, none⟩ u2).setCell ⟨b, o + 3, none⟩ u3).setCell ⟨b, o + 4, none⟩ u4).setCell ⟨b, o + 5, none⟩ u5).setCell ⟨b, o + 6, none⟩ u6).setCell ⟨b, o + 7, none⟩ u7).setCell ⟨b, o + 8, none⟩ u8).setCell ⟨b, o + 9, none⟩ u9).setCell ⟨b, o + 10, none⟩ u10).setCell ⟨b, o + 11, none⟩ u11).setCell ⟨b, o + 12, none⟩ u12) = putL w b o [u0, u1, u2, u3, u4, u5, u6, u7, u8, u9, u10, u11, u12] := rfl
theorem far13o {w : World} {b o k : Nat} {u0 u1 u2 u3 u4 u5 u6 u7 u8 u9 u10 u11 u12 : Value} (h : k ≠ b) : (((((((((((((w.setCell ⟨b, o, none⟩ u0).setCell ⟨b, o + 1, none⟩ u1).setCell ⟨b, o + 2, none⟩ u2).setCell ⟨b, o + 3, none⟩ u3).setCell ⟨b, o + 4, none⟩ u4).setCell ⟨b, o + 5, none⟩ u5).setCell ⟨b, o + 6, none⟩ u6).setCell ⟨b, o + 7, none⟩ u7).setCell ⟨b, o + 8, none⟩ u8).setCell ⟨b, o + 9, none⟩ u9).setCell ⟨b, o + 10, none⟩ u10).setCell ⟨b, o + 11, none⟩ u11).setCell ⟨b, o + 12, none⟩ u12).heap[k]? = w.heap[k]? := by rw [put13]; exact putL_far h
end Go.Proofs.Ytnkmljdkokcdjaa
namespace Go.Proofs.Ytnkmljdkokcdjaa
open Go Go.RowKit Fed
theorem name_world {G : World → Prop} {F : World → Prop} (w : World) (f : F w) (h : ∀ W, F W → G W) : G w := h w f
structure O5 where
 l : Option Nat
 v : Option Nat
 n : Option Nat
 m : Option Nat
 f : Option Nat
structure NodeOs (w : World) (B : Nat) (n : Fed.Node) (σ : Sl5) (ω : O5) : Prop where
 hl : MM.Row w B 40 2 (.slice σ.A3 n.log.length σ.k3) n.log.length (entsC n.log) ω.l
 hv : MM.Row w B 4 1 (.slice σ.A7 n.votes.length σ.k7) n.votes.length (boolsC n.votes) ω.v
 hn : MM.Row w B 3 1 (.slice σ.A8 n.nxt.length σ.k8) n.nxt.length (intsC n.nxt) ω.n
 hm : MM.Row w B 3 1 (.slice σ.A9 n.mtch.length σ.k9) n.mtch.length (intsC n.mtch) ω.m
 hf : MM.Row w B 3 1 (.slice σ.A10 n.forms.length σ.k10) n.forms.length (intsC n.forms) ω.f
 nm : ∀ k, ω.n = some k → ω.m ≠ some k
 nf : ∀ k, ω.n = some k → ω.f ≠ some k
 mf : ∀ k, ω.m = some k → ω.f ≠ some k
namespace NodeOs
variable {w w1 : World} {B B' : Nat} {n : Fed.Node} {σ : Sl5} {ω : O5}
theorem step (h : NodeOs w B n σ ω) (hm : ∀ k, B ≤ k → k < w.heap.size → w1.heap[k]? = w.heap[k]?) : NodeOs w1 B n σ ω :=
 ⟨h.hl.step fun k hk hlt => hm k (h.hl.lt k hk).1 hlt, h.hv.step fun k hk hlt => hm k (h.hv.lt k hk).1 hlt, h.hn.step fun k hk hlt => hm k (h.hn.lt k hk).1 hlt, h.hm.step fun k hk hlt => hm k (h.hm.lt k hk).1 hlt, h.hf.step fun k hk hlt => hm k (h.hf.lt k hk).1 hlt, h.nm, h.nf, h.mf⟩
theorem below (h : NodeOs w B n σ ω) (hb : Below w.heap.size w w1) : NodeOs w1 B n σ ω := h.step fun k _ hk => hb.block k hk
theorem alloc (h : NodeOs w B n σ ω) (o : Obj) : NodeOs (w.alloc o) B n σ ω := h.step fun k _ hk => Below.heap_alloc w o k hk
theorem drew (h : NodeOs w B n σ ω) : NodeOs w.drew B n σ ω := h.step fun _ _ _ => rfl
theorem lower (h : NodeOs w B n σ ω) (hb : B' ≤ B) : NodeOs w B' n σ ω := ⟨h.hl.lower hb, h.hv.lower hb, h.hn.lower hb, h.hm.lower hb, h.hf.lower hb, h.nm, h.nf, h.mf⟩
theorem toV (h : NodeOs w B n σ ω) : NodeVs w (fun k => B ≤ k) n σ :=
 ⟨h.hl.rd.mono fun k hk _ => (h.hl.lt k hk).1, h.hv.rd.mono fun k hk _ => (h.hv.lt k hk).1, h.hn.rd.mono fun k hk _ => (h.hn.lt k hk).1, h.hm.rd.mono fun k hk _ => (h.hm.lt k hk).1, h.hf.rd.mono fun k hk _ => (h.hf.lt k hk).1⟩
theorem types (h : NodeOs w B n σ ω) (hm : ∀ k t, MM.Ty w k t → t = 40 ∨ t = 4 ∨ t = 3 → w1.heap[k]? = w.heap[k]?) : NodeOs w1 B n σ ω :=
 ⟨h.hl.step fun k hk _ => hm k _ (h.hl.ty k hk) (.inl rfl), h.hv.step fun k hk _ => hm k _ (h.hv.ty k hk) (.inr (.inl rfl)), h.hn.step fun k hk _ => hm k _ (h.hn.ty k hk) (.inr (.inr rfl)), h.hm.step fun k hk _ => hm k _ (h.hm.ty k hk) (.inr (.inr rfl)), h.hf.step fun k hk _ => hm k _ (h.hf.ty k hk) (.inr (.inr rfl)), h.nm, h.nf, h.mf⟩
theorem set_m {b i : Nat} {x : Int} (h : NodeOs w B n σ ω) (hb : ω.m = some b) (hi : i < n.mtch.length) : NodeOs (w.setCell ⟨b, i, none⟩ (.int .i64 x)) B { n with mtch := n.mtch.set i x } σ ω := by
 have hr := h.hm
 rw [hb] at hr
 refine ⟨h.hl.far (fun k hk => ty_ne (h.hl.ty k hk) (hr.ty b rfl) (by decide)) _, h.hv.far (fun k hk => ty_ne (h.hv.ty k hk) (hr.ty b rfl) (by decide)) _, h.hn.far (fun k hk e => h.nm k hk (by rw [hb, e])) _, ?_, h.hf.far (fun k hk e => h.mf b hb (by rw [hk, e])) _, h.nm, h.nf, h.mf⟩
 have := hr.set (i := i) (u := .int .i64 x) hi
 rw [hb]
 simpa [intsC, List.map_set] using this
theorem set_n {b i : Nat} {x : Int} (h : NodeOs w B n σ ω) (hb : ω.n = some b) (hi : i < n.nxt.length) : NodeOs (w.setCell ⟨b, i, none⟩ (.int .i64 x)) B { n with nxt := n.nxt.set i x } σ ω := by
 have hr := h.hn
 rw [hb] at hr
 refine ⟨h.hl.far (fun k hk => ty_ne (h.hl.ty k hk) (hr.ty b rfl) (by decide)) _, h.hv.far (fun k hk => ty_ne (h.hv.ty k hk) (hr.ty b rfl) (by decide)) _, ?_, h.hm.far (fun k hk e => h.nm b hb (by rw [hk, e])) _, h.hf.far (fun k hk e => h.nf b hb (by rw [hk, e])) _, h.nm, h.nf, h.mf⟩
 have := hr.set (i := i) (u := .int .i64 x) hi
 rw [hb]
 simpa [intsC, List.map_set] using this
theorem set_f {b i : Nat} {x : Int} (h : NodeOs w B n σ ω) (hb : ω.f = some b) (hi : i < n.forms.length) : NodeOs (w.setCell ⟨b, i, none⟩ (.int .i64 x)) B { n with forms := n.forms.set i x } σ ω := by
 have hr := h.hf
 rw [hb] at hr
 refine ⟨h.hl.far (fun k hk => ty_ne (h.hl.ty k hk) (hr.ty b rfl) (by decide)) _, h.hv.far (fun k hk => ty_ne (h.hv.ty k hk) (hr.ty b rfl) (by decide)) _, h.hn.far (fun k hk e => h.nf k hk (by rw [hb, e])) _, h.hm.far (fun k hk e => h.mf k hk (by rw [hb, e])) _, ?_, h.nm, h.nf, h.mf⟩
 have := hr.set (i := i) (u := .int .i64 x) hi
 rw [hb]
 simpa [intsC, List.map_set] using this
theorem set_v {b i : Nat} {x : Bool} (h : NodeOs w B n σ ω) (hb : ω.v = some b) (hi : i < n.votes.length) : NodeOs (w.setCell ⟨b, i, none⟩ (.bool x)) B { n with votes := n.votes.set i x } σ ω := by
 have hr := h.hv
 rw [hb] at hr
 have tb := hr.ty b rfl
 refine ⟨h.hl.far (fun k hk => ty_ne (h.hl.ty k hk) tb (by decide)) _, ?_, h.hn.far (fun k hk => ty_ne (h.hn.ty k hk) tb (by decide)) _, h.hm.far (fun k hk => ty_ne (h.hm.ty k hk) tb (by decide)) _, h.hf.far (fun k hk => ty_ne (h.hf.ty k hk) tb (by decide)) _, h.nm, h.nf, h.mf⟩
 have := hr.set (i := i) (u := .bool x) hi
 rw [hb]
 simpa [boolsC, List.map_set] using this
end NodeOs
structure NB (w : World) (B b : Nat) (n : Fed.Node) (σ : Sl5) (ω : O5) : Prop where
 hB : B ≤ b
 blk : w.heap[b]? = some (.cells #[.int .i64 n.id, .int .i64 n.term, .int .i64 n.vote, .slice σ.A3 n.log.length σ.k3, .int .i64 n.form, .int .i64 n.role, .int .i64 n.commit, .slice σ.A7 n.votes.length σ.k7, .slice σ.A8 n.nxt.length σ.k8, .slice σ.A9 n.mtch.length σ.k9, .slice σ.A10 n.forms.length σ.k10, .int .i64 n.clock, .int .i64 n.due] 28 (0, 0))
 rows : NodeOs w B n σ ω
namespace NB
variable {w w1 : World} {B B' b : Nat} {n : Fed.Node} {σ : Sl5} {ω : O5}
theorem lt (h : NB w B b n σ ω) : b < w.heap.size := MM.blk_lt h.blk
theorem ty (h : NB w B b n σ ω) : MM.Ty w b 28 := ⟨_, _, h.blk⟩
theorem c (h : NB w B b n σ ω) (i : Nat) (u : Value) (hi : (#[.int .i64 n.id, .int .i64 n.term, .int .i64 n.vote, .slice σ.A3 n.log.length σ.k3, .int .i64 n.form, .int .i64 n.role, .int .i64 n.commit, .slice σ.A7 n.votes.length σ.k7, .slice σ.A8 n.nxt.length σ.k8, .slice σ.A9 n.mtch.length σ.k9, .slice σ.A10 n.forms.length σ.k10, .int .i64 n.clock, .int .i64 n.due] : Array Value)[i]? = some u) : w.cell? ⟨b, i, none⟩ = some u := MM.cell_blk h.blk hi
theorem fr (h : NB w B b n σ ω) (i : Nat) : w.frozen? ⟨b, i, none⟩ = false := MM.free_blk h.blk
theorem step (h : NB w B b n σ ω) (hm : ∀ k, B ≤ k → k < w.heap.size → w1.heap[k]? = w.heap[k]?) : NB w1 B b n σ ω := ⟨h.hB, (hm b h.hB h.lt).trans h.blk, h.rows.step hm⟩
theorem below (h : NB w B b n σ ω) (hb : Below w.heap.size w w1) : NB w1 B b n σ ω := h.step fun k _ hk => hb.block k hk
theorem alloc (h : NB w B b n σ ω) (o : Obj) : NB (w.alloc o) B b n σ ω := h.step fun k _ hk => Below.heap_alloc w o k hk
theorem drew (h : NB w B b n σ ω) : NB w.drew B b n σ ω := h.step fun _ _ _ => rfl
theorem lower (h : NB w B b n σ ω) (hb : B' ≤ B) : NB w B' b n σ ω := ⟨Nat.le_trans hb h.hB, h.blk, h.rows.lower hb⟩
theorem far (h : NB w B b n σ ω) {p : Addr} {t : Nat} (ht : MM.Ty w p.block t) (hp : p.block ≠ b) (h1 : t ≠ 40) (h2 : t ≠ 4) (h3 : t ≠ 3) (u : Value) : NB (w.setCell p u) B b n σ ω :=
 ⟨h.hB, (Below.heap_setCell w p u b (Ne.symm hp)).trans h.blk, h.rows.types fun k t' hk ht' => Below.heap_setCell w p u k (ty_ne hk ht (by rcases ht' with rfl | rfl | rfl <;> first | exact Ne.symm h1 | exact Ne.symm h2 | exact Ne.symm h3))⟩
theorem set (h : NB w B b n σ ω) {n' : Fed.Node} {i : Nat} {u : Value}
  (hc : (#[.int .i64 n.id, .int .i64 n.term, .int .i64 n.vote, .slice σ.A3 n.log.length σ.k3, .int .i64 n.form, .int .i64 n.role, .int .i64 n.commit, .slice σ.A7 n.votes.length σ.k7, .slice σ.A8 n.nxt.length σ.k8, .slice σ.A9 n.mtch.length σ.k9, .slice σ.A10 n.forms.length σ.k10, .int .i64 n.clock, .int .i64 n.due] : Array Value).setIfInBounds i u = #[.int .i64 n'.id, .int .i64 n'.term, .int .i64 n'.vote, .slice σ.A3 n'.log.length σ.k3, .int .i64 n'.form, .int .i64 n'.role, .int .i64 n'.commit, .slice σ.A7 n'.votes.length σ.k7, .slice σ.A8 n'.nxt.length σ.k8, .slice σ.A9 n'.mtch.length σ.k9, .slice σ.A10 n'.forms.length σ.k10, .int .i64 n'.clock, .int .i64 n'.due])
  (e : n'.log = n.log ∧ n'.votes = n.votes ∧ n'.nxt = n.nxt ∧ n'.mtch = n.mtch ∧ n'.forms = n.forms) : NB (w.setCell ⟨b, i, none⟩ u) B b n' σ ω := by
 have hr := h.rows.types (w1 := w.setCell ⟨b, i, none⟩ u) fun k t hk ht => Below.heap_setCell w _ u k (ty_ne hk h.ty (by rcases ht with rfl | rfl | rfl <;> decide))
 obtain ⟨e1, e2, e3, e4, e5⟩ := e
 refine ⟨h.hB, by rw [setCell_blk u h.blk, hc], ?_, ?_, ?_, ?_, ?_, h.rows.nm, h.rows.nf, h.rows.mf⟩
 ·rw [e1]; exact hr.hl
 ·rw [e2]; exact hr.hv
 ·rw [e3]; exact hr.hn
 ·rw [e4]; exact hr.hm
 ·rw [e5]; exact hr.hf
theorem put_log (h : NB w B b n σ ω) {l : List Fed.Entry} {A : Option Addr} {k : Nat} {ob : Option Nat} (hr : MM.Row w B 40 2 (.slice A l.length k) l.length (entsC l) ob) : NB (w.setCell ⟨b, 3, none⟩ (.slice A l.length k)) B b { n with log := l } { σ with A3 := A, k3 := k } { ω with l := ob } := by
 have hr' := h.rows.types (w1 := w.setCell ⟨b, 3, none⟩ (.slice A l.length k)) fun k t hk ht => Below.heap_setCell w _ _ k (ty_ne hk h.ty (by rcases ht with rfl | rfl | rfl <;> decide))
 refine ⟨h.hB, by rw [setCell_blk _ h.blk]; rfl, hr.far (fun k hk => ty_ne (hr.ty k hk) h.ty (by decide)) _, hr'.hv, hr'.hn, hr'.hm, hr'.hf, h.rows.nm, h.rows.nf, h.rows.mf⟩
theorem set_m {p i : Nat} {x : Int} (h : NB w B b n σ ω) (hb : ω.m = some p) (hi : i < n.mtch.length) : NB (w.setCell ⟨p, i, none⟩ (.int .i64 x)) B b { n with mtch := n.mtch.set i x } σ ω :=
 ⟨h.hB, by rw [List.length_set]; exact (Below.heap_setCell w _ _ b (ty_ne h.ty (h.rows.hm.ty p hb) (by decide))).trans h.blk, h.rows.set_m hb hi⟩
theorem set_n {p i : Nat} {x : Int} (h : NB w B b n σ ω) (hb : ω.n = some p) (hi : i < n.nxt.length) : NB (w.setCell ⟨p, i, none⟩ (.int .i64 x)) B b { n with nxt := n.nxt.set i x } σ ω :=
 ⟨h.hB, by rw [List.length_set]; exact (Below.heap_setCell w _ _ b (ty_ne h.ty (h.rows.hn.ty p hb) (by decide))).trans h.blk, h.rows.set_n hb hi⟩
theorem set_f {p i : Nat} {x : Int} (h : NB w B b n σ ω) (hb : ω.f = some p) (hi : i < n.forms.length) : NB (w.setCell ⟨p, i, none⟩ (.int .i64 x)) B b { n with forms := n.forms.set i x } σ ω :=
 ⟨h.hB, by rw [List.length_set]; exact (Below.heap_setCell w _ _ b (ty_ne h.ty (h.rows.hf.ty p hb) (by decide))).trans h.blk, h.rows.set_f hb hi⟩
theorem set_v {p i : Nat} {x : Bool} (h : NB w B b n σ ω) (hb : ω.v = some p) (hi : i < n.votes.length) : NB (w.setCell ⟨p, i, none⟩ (.bool x)) B b { n with votes := n.votes.set i x } σ ω :=
 ⟨h.hB, by rw [List.length_set]; exact (Below.heap_setCell w _ _ b (ty_ne h.ty (h.rows.hv.ty p hb) (by decide))).trans h.blk, h.rows.set_v hb hi⟩
theorem toV (h : NB w B b n σ ω) : NodeVs w (fun k => B ≤ k) n σ := h.rows.toV
end NB
end Go.Proofs.Ytnkmljdkokcdjaa
namespace Go.Proofs.Ytnkmljdkokcdjaa
open Go.RowKit Fed
attribute [local go_sem high] Fed.max2_int Fed.min2_int Fed.MA Fed.ZN Fed.ZM Fed.NA
theorem rentries (w : World) (ok : Nat → Prop) (A : Option Addr) (c n : Nat) (xs : List Value) (h : MM.Rd w ok 2 (.slice A n c) n xs) (h1 : ∀ u ∈ xs, u.oneCell' = true) (hn : n * 24 ≤ 140737488355328) :
  Calls Try.prog 118 #[.slice A n c] w fun e w' => ∃ A' c' ob, e = .returned (.slice A' n c') ∧ MM.Row w' w.heap.size 40 2 (.slice A' n c') n xs ob ∧ Below w.heap.size w w' := by
 obtain ⟨i0, hi, hz0, hz1, hz2⟩ := info_parts info40
 have hmax : 0 + n ≤ maxLen := by obtain ⟨_, _, _, _, q1, q2, _⟩ := h; omega
 have hby : (0 + n) * 24 ≤ 140737488355328 := by omega
 have H := Hd h
 have H1 := Hd h1
 clear h h1 hn
 go_enter Try.func118, Try.ntmps118
 go_wp2_with (at_builtin; refine MM.wpList_append_row _ rfl (.tmp 3) (.tmp 4) 24 rfl w.heap.size 40 i0 (.agg #[.int .i64 0, .string ByteArray.empty]) 2 24 Try.underlying24 hi hz0 hz1 hz2 rfl (by decide) _ 0 [] none rfl (MM.Row.nil _ _ _ _ _) ok _ n xs rfl ?_ H1.out hmax hby ?_ ?_)
 ·exact H.out.alloc _
 ·simp
 ·intro v' w' ob' hr hg _
  obtain ⟨A', c', rfl, _, _⟩ := hr.slice
  go_wp2
  go_ret
  exact ⟨A', c', ob', rfl, hr, ((Below.refl _ _).alloc (Nat.le_refl _) _).grown hg (by simp) (by simp)⟩
theorem rown_any (w : World) (ok : Nat → Prop) (n : Fed.Node) (σ : Sl5) (h : NodeVs w ok n σ) (l1 : n.log.length ≤ 1000000) (l2 : n.votes.length ≤ 1000000) (l3 : n.nxt.length ≤ 1000000) (l4 : n.mtch.length ≤ 1000000) (l5 : n.forms.length ≤ 1000000) :
  Calls Try.prog 109 #[.agg (NA n σ)] w fun e w' => ∃ (τ : Sl5) (ω : O5), e = .returned (.agg (NA n τ)) ∧ NodeOs w' w.heap.size n τ ω ∧ Below w.heap.size w w' := by
 obtain ⟨i4, hi4, hz40, hz41, hz42⟩ := info_parts info4
 obtain ⟨i3, hi3, hz30, hz31, hz32⟩ := info_parts info3
 have H := Hd (h.mono (ok' := fun k => k < w.heap.size) (fun k _ hk => hk))
 clear h
 go_enter Try.func109, Try.ntmps109
 go_upto_region 1 with (fail)
 refine name_world (F := fun W => Hid (W.heap[w.heap.size]? = some (.cells (NA n σ) 28 (0, 0))) ∧ Hid (W.heap[w.heap.size + 1]? = some (.cells ZN 28 (0, 0))) ∧ Hid (NodeVs W (fun k => k < w.heap.size) n σ) ∧ Hid (Below w.heap.size w W)) _ ⟨Hd ((Below.heap_alloc _ _ _ (by simp)).trans (MM.alloc_new w _)), Hd (MM.alloc_new1 w _ _), Hd (H.out.step (fun k hk _ => (Below.heap_alloc _ _ k (by simp; omega)).trans (Below.heap_alloc w _ k hk))), Hd (((Below.refl _ w).alloc (Nat.le_refl _) _).alloc (by simp) _)⟩ ?_
 clear H
 intro w1 ⟨X, Y, V, HB⟩
 have s0 : w.heap.size < w1.heap.size := by have := MM.blk_lt Y.out; omega
 have t0 : w.heap.size + 2 ≤ w1.heap.size := by have := MM.blk_lt Y.out; omega
 have c3 : w1.cell? ⟨w.heap.size, 3, none⟩ = some (.slice σ.A3 n.log.length σ.k3) := MM.cell_blk X.out rfl
 have g3 : w1.frozen? ⟨w.heap.size, 3, none⟩ = false := MM.free_blk X.out
 go_wp2_with fail
 refine (rentries _ _ _ _ _ _ V.out.hl (entsC_one _) (by omega)).mono ?_
 rintro e v1 ⟨a3, p3, o3, rfl, hr, hb⟩
 have X1 := Hd ((hb.block _ (MM.blk_lt X.out)).trans X.out)
 have Y1 := Hd ((hb.block _ (MM.blk_lt Y.out)).trans Y.out)
 have HR := Hd hr
 have HBB := Hd hb
 clear hr hb c3 g3
 have g3 : v1.frozen? ⟨w.heap.size, 3, none⟩ = false := MM.free_blk X1.out
 have c3' : v1.cell? ⟨w.heap.size, 3, none⟩ = some (.slice σ.A3 n.log.length σ.k3) := MM.cell_blk X1.out rfl
 go_upto_region 2 with (fail)
 refine name_world (F := fun W => Hid (W.heap[w.heap.size]? = some (.cells #[.int .i64 n.id, .int .i64 n.term, .int .i64 n.vote, .slice a3 n.log.length p3, .int .i64 n.form, .int .i64 n.role, .int .i64 n.commit, .slice σ.A7 n.votes.length σ.k7, .slice σ.A8 n.nxt.length σ.k8, .slice σ.A9 n.mtch.length σ.k9, .slice σ.A10 n.forms.length σ.k10, .int .i64 n.clock, .int .i64 n.due] 28 (0, 0))) ∧ Hid (W.heap[w.heap.size + 1]? = some (.cells ZN 28 (0, 0))) ∧ Hid (NodeVs W (fun k => k < w.heap.size) n σ) ∧ Hid (Below w.heap.size w W) ∧ Hid (MM.Row W w1.heap.size 40 2 (.slice a3 n.log.length p3) n.log.length (entsC n.log) o3) ∧ Hid (∀ k, o3 = some k → k < W.heap.size) ∧ Hid (w1.heap.size ≤ W.heap.size)) _ ⟨Hd ((setCell_blk _ X1.out).trans rfl), Hd ((Below.heap_setCell _ _ _ _ (by show w.heap.size + 1 ≠ w.heap.size; omega)).trans Y1.out), Hd (V.out.step (fun k hk hlt => (Below.heap_setCell _ _ _ k (by show k ≠ w.heap.size; omega)).trans (HBB.out.block k hlt))), Hd ((HB.out.trans (HBB.out.mono (by omega))).setCell (Nat.le_refl _) _), Hd (HR.out.far (fun k hk => by have := (HR.out.lt k hk).1; show k ≠ w.heap.size; omega) _), Hd (fun k hk => by have := (HR.out.lt k hk).2; simpa [World.setCell] using this), Hd (by have := HBB.out.size; simpa [World.setCell] using this)⟩ ?_
 clear X1 Y1 HR c3' g3
 intro w2 ⟨X, Y, V, HB, R3, L3, Z3⟩
 have s1 : w.heap.size < w2.heap.size := by have := MM.blk_lt Y.out; omega
 have t1 : w.heap.size + 2 ≤ w2.heap.size := by have := MM.blk_lt Y.out; omega
 have c7 : w2.cell? ⟨w.heap.size, 7, none⟩ = some (.slice σ.A7 n.votes.length σ.k7) := MM.cell_blk X.out rfl
 have g7 : w2.frozen? ⟨w.heap.size, 7, none⟩ = false := MM.free_blk X.out
 go_wp2_with (at_builtin; refine MM.wpList_append_row _ rfl (.tmp 7) (.tmp 9) 25 rfl w2.heap.size 4 i4 (.bool false) 1 1 Try.underlying25 hi4 hz40 hz41 hz42 rfl (by decide) _ 0 [] none rfl (MM.Row.nil _ _ _ _ _) _ _ n.votes.length (boolsC n.votes) rfl (V.out.hv.alloc _) (boolsC_one _) (by unfold maxLen; omega) (by omega) (by simp) ?_)
 intro v' v1 o7 hr hg _
 obtain ⟨a7, p7, rfl, _, _⟩ := hr.slice
 have hb := (((Below.refl _ w2).alloc (Nat.le_refl _) _).grown hg (by simp) (by simp) : Below w2.heap.size w2 v1)
 have X1 := Hd ((hb.block _ (MM.blk_lt X.out)).trans X.out)
 have Y1 := Hd ((hb.block _ (MM.blk_lt Y.out)).trans Y.out)
 have HR := Hd hr
 have HBB := Hd hb
 clear hr hb hg c7 g7
 have g7 : v1.frozen? ⟨w.heap.size, 7, none⟩ = false := MM.free_blk X1.out
 have c7' : v1.cell? ⟨w.heap.size, 7, none⟩ = some (.slice σ.A7 n.votes.length σ.k7) := MM.cell_blk X1.out rfl
 go_upto_region 3 with (fail)
 refine name_world (F := fun W => Hid (W.heap[w.heap.size]? = some (.cells #[.int .i64 n.id, .int .i64 n.term, .int .i64 n.vote, .slice a3 n.log.length p3, .int .i64 n.form, .int .i64 n.role, .int .i64 n.commit, .slice a7 n.votes.length p7, .slice σ.A8 n.nxt.length σ.k8, .slice σ.A9 n.mtch.length σ.k9, .slice σ.A10 n.forms.length σ.k10, .int .i64 n.clock, .int .i64 n.due] 28 (0, 0))) ∧ Hid (W.heap[w.heap.size + 1]? = some (.cells ZN 28 (0, 0))) ∧ Hid (NodeVs W (fun k => k < w.heap.size) n σ) ∧ Hid (Below w.heap.size w W) ∧ Hid (MM.Row W w1.heap.size 40 2 (.slice a3 n.log.length p3) n.log.length (entsC n.log) o3) ∧ Hid (MM.Row W w2.heap.size 4 1 (.slice a7 n.votes.length p7) n.votes.length (boolsC n.votes) o7) ∧ Hid (∀ k, o7 = some k → k < W.heap.size) ∧ Hid (w2.heap.size ≤ W.heap.size)) _ ⟨Hd ((setCell_blk _ X1.out).trans rfl), Hd ((Below.heap_setCell _ _ _ _ (by show w.heap.size + 1 ≠ w.heap.size; omega)).trans Y1.out), Hd (V.out.step (fun k hk hlt => (Below.heap_setCell _ _ _ k (by show k ≠ w.heap.size; omega)).trans (HBB.out.block k hlt))), Hd ((HB.out.trans (HBB.out.mono (by omega))).setCell (Nat.le_refl _) _), Hd ((R3.out.below HBB.out).far (fun k hk => by have := (R3.out.lt k hk).1; show k ≠ w.heap.size; omega) _), Hd (HR.out.far (fun k hk => by have := (HR.out.lt k hk).1; show k ≠ w.heap.size; omega) _), Hd (fun k hk => by have := (HR.out.lt k hk).2; simpa [World.setCell] using this), Hd (by have := HBB.out.size; simpa [World.setCell] using this)⟩ ?_
 clear X1 Y1 HR c7' g7
 intro w3 ⟨X, Y, V, HB, R3, R7, L7, Z7⟩
 have s2 : w.heap.size < w3.heap.size := by have := MM.blk_lt Y.out; omega
 have t2 : w.heap.size + 2 ≤ w3.heap.size := by have := MM.blk_lt Y.out; omega
 have c8 : w3.cell? ⟨w.heap.size, 8, none⟩ = some (.slice σ.A8 n.nxt.length σ.k8) := MM.cell_blk X.out rfl
 have g8 : w3.frozen? ⟨w.heap.size, 8, none⟩ = false := MM.free_blk X.out
 go_wp2_with (at_builtin; refine MM.wpList_append_row _ rfl (.tmp 12) (.tmp 14) 26 rfl w3.heap.size 3 i3 (.int .i64 0) 1 8 Try.underlying26 hi3 hz30 hz31 hz32 rfl (by decide) _ 0 [] none rfl (MM.Row.nil _ _ _ _ _) _ _ n.nxt.length (intsC n.nxt) rfl (V.out.hn.alloc _) (intsC_one _) (by unfold maxLen; omega) (by omega) (by simp) ?_)
 intro v' v1 o8 hr hg _
 obtain ⟨a8, p8, rfl, _, _⟩ := hr.slice
 have hb := (((Below.refl _ w3).alloc (Nat.le_refl _) _).grown hg (by simp) (by simp) : Below w3.heap.size w3 v1)
 have X1 := Hd ((hb.block _ (MM.blk_lt X.out)).trans X.out)
 have Y1 := Hd ((hb.block _ (MM.blk_lt Y.out)).trans Y.out)
 have HR := Hd hr
 have HBB := Hd hb
 clear hr hb hg c8 g8
 have g8 : v1.frozen? ⟨w.heap.size, 8, none⟩ = false := MM.free_blk X1.out
 have c8' : v1.cell? ⟨w.heap.size, 8, none⟩ = some (.slice σ.A8 n.nxt.length σ.k8) := MM.cell_blk X1.out rfl
 go_upto_region 4 with (fail)
 refine name_world (F := fun W => Hid (W.heap[w.heap.size]? = some (.cells #[.int .i64 n.id, .int .i64 n.term, .int .i64 n.vote, .slice a3 n.log.length p3, .int .i64 n.form, .int .i64 n.role, .int .i64 n.commit, .slice a7 n.votes.length p7, .slice a8 n.nxt.length p8, .slice σ.A9 n.mtch.length σ.k9, .slice σ.A10 n.forms.length σ.k10, .int .i64 n.clock, .int .i64 n.due] 28 (0, 0))) ∧ Hid (W.heap[w.heap.size + 1]? = some (.cells ZN 28 (0, 0))) ∧ Hid (NodeVs W (fun k => k < w.heap.size) n σ) ∧ Hid (Below w.heap.size w W) ∧ Hid (MM.Row W w1.heap.size 40 2 (.slice a3 n.log.length p3) n.log.length (entsC n.log) o3) ∧ Hid (MM.Row W w2.heap.size 4 1 (.slice a7 n.votes.length p7) n.votes.length (boolsC n.votes) o7) ∧ Hid (MM.Row W w3.heap.size 3 1 (.slice a8 n.nxt.length p8) n.nxt.length (intsC n.nxt) o8) ∧ Hid (∀ k, o8 = some k → k < W.heap.size) ∧ Hid (w3.heap.size ≤ W.heap.size)) _ ⟨Hd ((setCell_blk _ X1.out).trans rfl), Hd ((Below.heap_setCell _ _ _ _ (by show w.heap.size + 1 ≠ w.heap.size; omega)).trans Y1.out), Hd (V.out.step (fun k hk hlt => (Below.heap_setCell _ _ _ k (by show k ≠ w.heap.size; omega)).trans (HBB.out.block k hlt))), Hd ((HB.out.trans (HBB.out.mono (by omega))).setCell (Nat.le_refl _) _), Hd ((R3.out.below HBB.out).far (fun k hk => by have := (R3.out.lt k hk).1; show k ≠ w.heap.size; omega) _), Hd ((R7.out.below HBB.out).far (fun k hk => by have := (R7.out.lt k hk).1; show k ≠ w.heap.size; omega) _), Hd (HR.out.far (fun k hk => by have := (HR.out.lt k hk).1; show k ≠ w.heap.size; omega) _), Hd (fun k hk => by have := (HR.out.lt k hk).2; simpa [World.setCell] using this), Hd (by have := HBB.out.size; simpa [World.setCell] using this)⟩ ?_
 clear X1 Y1 HR c8' g8
 intro w4 ⟨X, Y, V, HB, R3, R7, R8, L8, Z8⟩
 have s3 : w.heap.size < w4.heap.size := by have := MM.blk_lt Y.out; omega
 have t3 : w.heap.size + 2 ≤ w4.heap.size := by have := MM.blk_lt Y.out; omega
 have c9 : w4.cell? ⟨w.heap.size, 9, none⟩ = some (.slice σ.A9 n.mtch.length σ.k9) := MM.cell_blk X.out rfl
 have g9 : w4.frozen? ⟨w.heap.size, 9, none⟩ = false := MM.free_blk X.out
 go_wp2_with (at_builtin; refine MM.wpList_append_row _ rfl (.tmp 17) (.tmp 19) 26 rfl w4.heap.size 3 i3 (.int .i64 0) 1 8 Try.underlying26 hi3 hz30 hz31 hz32 rfl (by decide) _ 0 [] none rfl (MM.Row.nil _ _ _ _ _) _ _ n.mtch.length (intsC n.mtch) rfl (V.out.hm.alloc _) (intsC_one _) (by unfold maxLen; omega) (by omega) (by simp) ?_)
 intro v' v1 o9 hr hg _
 obtain ⟨a9, p9, rfl, _, _⟩ := hr.slice
 have hb := (((Below.refl _ w4).alloc (Nat.le_refl _) _).grown hg (by simp) (by simp) : Below w4.heap.size w4 v1)
 have X1 := Hd ((hb.block _ (MM.blk_lt X.out)).trans X.out)
 have Y1 := Hd ((hb.block _ (MM.blk_lt Y.out)).trans Y.out)
 have HR := Hd hr
 have HBB := Hd hb
 clear hr hb hg c9 g9
 have g9 : v1.frozen? ⟨w.heap.size, 9, none⟩ = false := MM.free_blk X1.out
 have c9' : v1.cell? ⟨w.heap.size, 9, none⟩ = some (.slice σ.A9 n.mtch.length σ.k9) := MM.cell_blk X1.out rfl
 go_upto_region 5 with (fail)
 refine name_world (F := fun W => Hid (W.heap[w.heap.size]? = some (.cells #[.int .i64 n.id, .int .i64 n.term, .int .i64 n.vote, .slice a3 n.log.length p3, .int .i64 n.form, .int .i64 n.role, .int .i64 n.commit, .slice a7 n.votes.length p7, .slice a8 n.nxt.length p8, .slice a9 n.mtch.length p9, .slice σ.A10 n.forms.length σ.k10, .int .i64 n.clock, .int .i64 n.due] 28 (0, 0))) ∧ Hid (W.heap[w.heap.size + 1]? = some (.cells ZN 28 (0, 0))) ∧ Hid (NodeVs W (fun k => k < w.heap.size) n σ) ∧ Hid (Below w.heap.size w W) ∧ Hid (MM.Row W w1.heap.size 40 2 (.slice a3 n.log.length p3) n.log.length (entsC n.log) o3) ∧ Hid (MM.Row W w2.heap.size 4 1 (.slice a7 n.votes.length p7) n.votes.length (boolsC n.votes) o7) ∧ Hid (MM.Row W w3.heap.size 3 1 (.slice a8 n.nxt.length p8) n.nxt.length (intsC n.nxt) o8) ∧ Hid (MM.Row W w4.heap.size 3 1 (.slice a9 n.mtch.length p9) n.mtch.length (intsC n.mtch) o9) ∧ Hid (∀ k, o9 = some k → k < W.heap.size) ∧ Hid (w4.heap.size ≤ W.heap.size)) _ ⟨Hd ((setCell_blk _ X1.out).trans rfl), Hd ((Below.heap_setCell _ _ _ _ (by show w.heap.size + 1 ≠ w.heap.size; omega)).trans Y1.out), Hd (V.out.step (fun k hk hlt => (Below.heap_setCell _ _ _ k (by show k ≠ w.heap.size; omega)).trans (HBB.out.block k hlt))), Hd ((HB.out.trans (HBB.out.mono (by omega))).setCell (Nat.le_refl _) _), Hd ((R3.out.below HBB.out).far (fun k hk => by have := (R3.out.lt k hk).1; show k ≠ w.heap.size; omega) _), Hd ((R7.out.below HBB.out).far (fun k hk => by have := (R7.out.lt k hk).1; show k ≠ w.heap.size; omega) _), Hd ((R8.out.below HBB.out).far (fun k hk => by have := (R8.out.lt k hk).1; show k ≠ w.heap.size; omega) _), Hd (HR.out.far (fun k hk => by have := (HR.out.lt k hk).1; show k ≠ w.heap.size; omega) _), Hd (fun k hk => by have := (HR.out.lt k hk).2; simpa [World.setCell] using this), Hd (by have := HBB.out.size; simpa [World.setCell] using this)⟩ ?_
 clear X1 Y1 HR c9' g9
 intro w5 ⟨X, Y, V, HB, R3, R7, R8, R9, L9, Z9⟩
 have s4 : w.heap.size < w5.heap.size := by have := MM.blk_lt Y.out; omega
 have t4 : w.heap.size + 2 ≤ w5.heap.size := by have := MM.blk_lt Y.out; omega
 have c10 : w5.cell? ⟨w.heap.size, 10, none⟩ = some (.slice σ.A10 n.forms.length σ.k10) := MM.cell_blk X.out rfl
 have g10 : w5.frozen? ⟨w.heap.size, 10, none⟩ = false := MM.free_blk X.out
 go_wp2_with (at_builtin; refine MM.wpList_append_row _ rfl (.tmp 22) (.tmp 24) 26 rfl w5.heap.size 3 i3 (.int .i64 0) 1 8 Try.underlying26 hi3 hz30 hz31 hz32 rfl (by decide) _ 0 [] none rfl (MM.Row.nil _ _ _ _ _) _ _ n.forms.length (intsC n.forms) rfl (V.out.hf.alloc _) (intsC_one _) (by unfold maxLen; omega) (by omega) (by simp) ?_)
 intro v' v1 o10 hr hg _
 obtain ⟨a10, p10, rfl, _, _⟩ := hr.slice
 have hb := (((Below.refl _ w5).alloc (Nat.le_refl _) _).grown hg (by simp) (by simp) : Below w5.heap.size w5 v1)
 have X1 := Hd ((hb.block _ (MM.blk_lt X.out)).trans X.out)
 have Y1 := Hd ((hb.block _ (MM.blk_lt Y.out)).trans Y.out)
 have HR := Hd hr
 have HBB := Hd hb
 clear hr hb hg c10 g10
 have g10 : v1.frozen? ⟨w.heap.size, 10, none⟩ = false := MM.free_blk X1.out
 have c10' : v1.cell? ⟨w.heap.size, 10, none⟩ = some (.slice σ.A10 n.forms.length σ.k10) := MM.cell_blk X1.out rfl
 go_upto_region 6 with (fail)
 refine name_world (F := fun W => Hid (W.heap[w.heap.size]? = some (.cells #[.int .i64 n.id, .int .i64 n.term, .int .i64 n.vote, .slice a3 n.log.length p3, .int .i64 n.form, .int .i64 n.role, .int .i64 n.commit, .slice a7 n.votes.length p7, .slice a8 n.nxt.length p8, .slice a9 n.mtch.length p9, .slice a10 n.forms.length p10, .int .i64 n.clock, .int .i64 n.due] 28 (0, 0))) ∧ Hid (W.heap[w.heap.size + 1]? = some (.cells ZN 28 (0, 0))) ∧ Hid (NodeVs W (fun k => k < w.heap.size) n σ) ∧ Hid (Below w.heap.size w W) ∧ Hid (MM.Row W w1.heap.size 40 2 (.slice a3 n.log.length p3) n.log.length (entsC n.log) o3) ∧ Hid (MM.Row W w2.heap.size 4 1 (.slice a7 n.votes.length p7) n.votes.length (boolsC n.votes) o7) ∧ Hid (MM.Row W w3.heap.size 3 1 (.slice a8 n.nxt.length p8) n.nxt.length (intsC n.nxt) o8) ∧ Hid (MM.Row W w4.heap.size 3 1 (.slice a9 n.mtch.length p9) n.mtch.length (intsC n.mtch) o9) ∧ Hid (MM.Row W w5.heap.size 3 1 (.slice a10 n.forms.length p10) n.forms.length (intsC n.forms) o10) ∧ Hid (∀ k, o10 = some k → k < W.heap.size) ∧ Hid (w5.heap.size ≤ W.heap.size)) _ ⟨Hd ((setCell_blk _ X1.out).trans rfl), Hd ((Below.heap_setCell _ _ _ _ (by show w.heap.size + 1 ≠ w.heap.size; omega)).trans Y1.out), Hd (V.out.step (fun k hk hlt => (Below.heap_setCell _ _ _ k (by show k ≠ w.heap.size; omega)).trans (HBB.out.block k hlt))), Hd ((HB.out.trans (HBB.out.mono (by omega))).setCell (Nat.le_refl _) _), Hd ((R3.out.below HBB.out).far (fun k hk => by have := (R3.out.lt k hk).1; show k ≠ w.heap.size; omega) _), Hd ((R7.out.below HBB.out).far (fun k hk => by have := (R7.out.lt k hk).1; show k ≠ w.heap.size; omega) _), Hd ((R8.out.below HBB.out).far (fun k hk => by have := (R8.out.lt k hk).1; show k ≠ w.heap.size; omega) _), Hd ((R9.out.below HBB.out).far (fun k hk => by have := (R9.out.lt k hk).1; show k ≠ w.heap.size; omega) _), Hd (HR.out.far (fun k hk => by have := (HR.out.lt k hk).1; show k ≠ w.heap.size; omega) _), Hd (fun k hk => by have := (HR.out.lt k hk).2; simpa [World.setCell] using this), Hd (by have := HBB.out.size; simpa [World.setCell] using this)⟩ ?_
 clear X1 Y1 HR c10' g10
 intro w6 ⟨X, Y, V, HB, R3, R7, R8, R9, R10, L10, Z10⟩
 obtain ⟨c0, c1, c2, c3, c4, c5, c6, c7, c8, c9, c10, c11, c12⟩ := MM.cells13 X.out
 obtain ⟨y0, y1, y2, y3, y4, y5, y6, y7, y8, y9, y10, y11, y12⟩ := MM.cells13 Y.out
 obtain ⟨z0, z1, z2, z3, z4, z5, z6, z7, z8, z9, z10, z11, z12⟩ := MM.frees13 Y.out
 go_wp2_with fail
 refine name_world (F := fun W => Hid (W.heap[w.heap.size + 1]? = some (.cells #[.int .i64 n.id, .int .i64 n.term, .int .i64 n.vote, .slice a3 n.log.length p3, .int .i64 n.form, .int .i64 n.role, .int .i64 n.commit, .slice a7 n.votes.length p7, .slice a8 n.nxt.length p8, .slice a9 n.mtch.length p9, .slice a10 n.forms.length p10, .int .i64 n.clock, .int .i64 n.due] 28 (0, 0))) ∧ Hid (Below w.heap.size w W) ∧ Hid (MM.Row W w1.heap.size 40 2 (.slice a3 n.log.length p3) n.log.length (entsC n.log) o3) ∧ Hid (MM.Row W w2.heap.size 4 1 (.slice a7 n.votes.length p7) n.votes.length (boolsC n.votes) o7) ∧ Hid (MM.Row W w3.heap.size 3 1 (.slice a8 n.nxt.length p8) n.nxt.length (intsC n.nxt) o8) ∧ Hid (MM.Row W w4.heap.size 3 1 (.slice a9 n.mtch.length p9) n.mtch.length (intsC n.mtch) o9) ∧ Hid (MM.Row W w5.heap.size 3 1 (.slice a10 n.forms.length p10) n.forms.length (intsC n.forms) o10)) _ ⟨Hd ((set13 Y.out).trans rfl), Hd (below13 HB.out (by omega)), Hd (R3.out.step (fun k hk _ => far13 (by have := (R3.out.lt k hk).1; show k ≠ w.heap.size + 1; omega))), Hd (R7.out.step (fun k hk _ => far13 (by have := (R7.out.lt k hk).1; show k ≠ w.heap.size + 1; omega))), Hd (R8.out.step (fun k hk _ => far13 (by have := (R8.out.lt k hk).1; show k ≠ w.heap.size + 1; omega))), Hd (R9.out.step (fun k hk _ => far13 (by have := (R9.out.lt k hk).1; show k ≠ w.heap.size + 1; omega))), Hd (R10.out.step (fun k hk _ => far13 (by have := (R10.out.lt k hk).1; show k ≠ w.heap.size + 1; omega)))⟩ ?_
 clear X Y V HB
 intro wf ⟨Y2, HB2, R3f, R7f, R8f, R9f, R10f⟩
 obtain ⟨u0, u1, u2, u3, u4, u5, u6, u7, u8, u9, u10, u11, u12⟩ := MM.cells13 Y2.out
 refine bodyPost_ret (v := .agg #[.int .i64 n.id, .int .i64 n.term, .int .i64 n.vote, .slice a3 n.log.length p3, .int .i64 n.form, .int .i64 n.role, .int .i64 n.commit, .slice a7 n.votes.length p7, .slice a8 n.nxt.length p8, .slice a9 n.mtch.length p9, .slice a10 n.forms.length p10, .int .i64 n.clock, .int .i64 n.due]) (by simp [results, Try.results109, go_sem, u0, u1, u2, u3, u4, u5, u6, u7, u8, u9, u10, u11, u12]) rfl ⟨⟨a3, p3, a7, p7, a8, p8, a9, p9, a10, p10⟩, ⟨o3, o7, o8, o9, o10⟩, rfl, ⟨R3f.out.lower (by omega), R7f.out.lower (by omega), R8f.out.lower (by omega), R9f.out.lower (by omega), R10f.out.lower (by omega), ?_, ?_, ?_⟩, HB2.out⟩
 ·intro k h1 h2
  have z9 := Z9.out
  have z10 := Z10.out
  have q1 := L8.out k h1
  have q2 := (R9.out.lt k h2).1
  omega
 ·intro k h1 h2
  have z9 := Z9.out
  have z10 := Z10.out
  have q1 := L8.out k h1
  have q2 := (R10.out.lt k h2).1
  omega
 ·intro k h1 h2
  have z9 := Z9.out
  have z10 := Z10.out
  have q1 := L9.out k h1
  have q2 := (R10.out.lt k h2).1
  omega
end Go.Proofs.Ytnkmljdkokcdjaa
