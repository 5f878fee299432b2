/-
  The document's term, matched, send answer as the plain functions say. Conditions: the lengths and numbers are bounded as the theorems say.
-/
import Derived.WalkKit
import Derived.WalkSpells
import Derived.Lib.Hide
import Derived.Outline
import Derived.Test.YtnkmljdkokcdjaaChecked
import Derived.Test.YtnkmljdkokcdjaaMn
import Derived.Test.YtnkmljdkokcdjaaMem
import Derived.Test.YtnkmljdkokcdjaaFed
import Derived.Test.YtnkmljdkokcdjaaRn1
import Derived.Deep.DeepCutAuto
import Derived.Deep.CutBlock
import Derived.Deep.OwnRows
import Derived.IntWalk
set_option linter.unusedVariables false
set_option linter.unusedSimpArgs false
namespace Go.Proofs.Ytnkmljdkokcdjaa
open Go.RowKit Fed
set_option linter.unusedVariables false
attribute [local go_sem high] Fed.max2_int Fed.min2_int

theorem mk_add (b o j : Nat) : (⟨b, o, none⟩ : Addr).add j = ⟨b, o + j, none⟩ := Addr.add_lit b o j
set_option maxRecDepth 100000 in
set_option maxHeartbeats 40000000 in
theorem rterm_any (w : World) (ok : Nat → Prop) (l : List Fed.Entry) (v0 v1 v2 v4 v5 v6 v7 v8 v9 v10 v11 v12 : Value) (A3 : Option Addr) (k3 : Nat) (k : Int) (hk9 : -1000000000 ≤ k) (hk : k ≤ 1000000000) (h : MM.Rd w ok 2 (.slice A3 l.length k3) l.length (entsC l)) :
    Calls Try.prog 112 #[.agg #[v0, v1, v2, .slice A3 l.length k3, v4, v5, v6, v7, v8, v9, v10, v11, v12], .int .i64 k] w fun e w' => e = .returned (.int .i64 (termAt l k)) ∧ Below w.heap.size w w' := by
  by_cases h1 : 1 ≤ k ∧ k ≤ l.length
  · obtain ⟨h1, h2⟩ := h1
    obtain ⟨_, A', c', ea, _, _, r1⟩ := h.alloc (.cells #[v0, v1, v2, .slice A3 l.length k3, v4, v5, v6, v7, v8, v9, v10, v11, v12] 28 (0, 0))
    injection ea with ea1 _ ea2
    subst ea1 ea2
    obtain ⟨b, o, rfl, _, _, g1⟩ := r1 (by omega)
    have hlt : (k - 1).toNat < l.length := by omega
    obtain ⟨x, hx⟩ : ∃ x, l[(k - 1).toNat]? = some x := ⟨_, List.getElem?_eq_getElem hlt⟩
    have ce := g1 _ _ (entsC_get hx).1
    rw [show (k - 1).toNat = k.toNat - 1 from by omega] at ce
    have ht : x.term = termAt l k := by unfold termAt; rw [if_pos ⟨h1, h2⟩, hx]; rfl
    have HT := Lib.hid ht
    clear ht h hx g1 r1
    have d1 : decide (k < 1) = false := by simp; omega
    have d2 : decide ((l.length : Int) < k) = false := by simp; omega
    go_enter Try.func112, Try.ntmps112
    go_wp2
    go_ret
    exact ⟨MM.ret_int HT.out, (Below.refl _ _).alloc (Nat.le_refl _) _⟩
  · have ht : (0 : Int) = termAt l k := by unfold termAt; rw [if_neg h1]
    have HT := Lib.hid ht
    clear ht h
    by_cases h2 : k < 1
    · have d1 : decide (k < 1) = true := by simpa using h2
      clear h1
      go_enter Try.func112, Try.ntmps112
      go_wp2
      go_ret
      exact ⟨MM.ret_int HT.out, (Below.refl _ _).alloc (Nat.le_refl _) _⟩
    · have d1 : decide (k < 1) = false := by simpa using h2
      have h3 : (l.length : Int) < k := by omega
      clear h1 h2
      go_enter Try.func112, Try.ntmps112
      go_wp2
      go_ret
      exact ⟨MM.ret_int HT.out, (Below.refl _ _).alloc (Nat.le_refl _) _⟩
set_option maxRecDepth 100000 in
set_option maxHeartbeats 40000000 in
/-- A row of one message. -/
theorem rd_msg1 {w : World} {b : Nat} {m : Fed.Msg} {A : Option Addr} {c : Nat} {ok : Nat → Prop} (h : w.heap[b]? = some (.cells #[.int .i64 m.kind, .int .i64 m.frm, .int .i64 m.to, .int .i64 m.term, .int .i64 m.index, .int .i64 m.logTerm, .bool m.ok, .slice A m.entries.length c, .int .i64 m.commit, .int .i64 m.form] 34 (0, 0))) (hok : ok b) (he : MM.Rd w ok 2 (.slice A m.entries.length c) m.entries.length (entsC m.entries)) :
    MsgsV w ok (.slice (some ⟨b, 0, none⟩) 1 1) [m] :=
  ⟨msgC m (.slice A m.entries.length c), MM.Rd.lit h hok (by simp [msgC]) (Nat.le_refl _) (by simp [maxLen]) (by simp [msgC]), MsgsR.one he⟩
theorem matched_any (w : World) (n : Fed.Node) (σ : Sl5) (dst index : Int) (ok : Bool) :
    Calls Try.prog 122 #[.agg #[.int .i64 n.id, .int .i64 n.term, .int .i64 n.vote, .slice σ.A3 n.log.length σ.k3, .int .i64 n.form, .int .i64 n.role, .int .i64 n.commit, .slice σ.A7 n.votes.length σ.k7, .slice σ.A8 n.nxt.length σ.k8, .slice σ.A9 n.mtch.length σ.k9, .slice σ.A10 n.forms.length σ.k10, .int .i64 n.clock, .int .i64 n.due], .int .i64 dst, .int .i64 index, .bool ok] w fun e w' => ∃ b, e = .returned (.slice (some ⟨b, 0, none⟩) 1 1) ∧ MsgsV w' (fun k => w.heap.size ≤ k) (.slice (some ⟨b, 0, none⟩) 1 1) [matchMsg n dst index ok] ∧ Below w.heap.size w w' := by
  go_enter Try.func122, Try.ntmps122
  go_wp2
  go_ret
  refine ⟨_, rfl, rd_msg1 (m := matchMsg n dst index ok) (A := none) (c := 0) (MM.alloc_new1 w _ _) (by simp) (MM.Rd.nil _ _ _ _ _ (by simp [maxLen])), ((Below.refl _ w).alloc (Nat.le_refl _) _).alloc (by simp) _⟩
theorem set10 {w : World} {b t : Nat} {f : Nat × Nat} {a0 a1 a2 a3 a4 a5 a6 a7 a8 a9 u0 u1 u2 u3 u4 u5 u6 u7 u8 u9 : Value} (q : w.heap[b]? = some (.cells #[a0, a1, a2, a3, a4, a5, a6, a7, a8, a9] t f)) : ((((((((((w.setCell ⟨b, 0, none⟩ u0).setCell ⟨b, 1, none⟩ u1).setCell ⟨b, 2, none⟩ u2).setCell ⟨b, 3, none⟩ u3).setCell ⟨b, 4, none⟩ u4).setCell ⟨b, 5, none⟩ u5).setCell ⟨b, 6, none⟩ u6).setCell ⟨b, 7, none⟩ u7).setCell ⟨b, 8, none⟩ u8).setCell ⟨b, 9, none⟩ u9).heap[b]? = some (.cells #[u0, u1, u2, u3, u4, u5, u6, u7, u8, u9] t f) := by
  replace q : (w.setCell ⟨b, 0, none⟩ u0).heap[b]? = some (.cells #[u0, a1, a2, a3, a4, a5, a6, a7, a8, a9] t f) := setCell_blk u0 q
  generalize w.setCell ⟨b, 0, none⟩ u0 = w0 at q ⊢
  replace q : (w0.setCell ⟨b, 1, none⟩ u1).heap[b]? = some (.cells #[u0, u1, a2, a3, a4, a5, a6, a7, a8, a9] t f) := setCell_blk u1 q
  generalize w0.setCell ⟨b, 1, none⟩ u1 = w1 at q ⊢
  replace q : (w1.setCell ⟨b, 2, none⟩ u2).heap[b]? = some (.cells #[u0, u1, u2, a3, a4, a5, a6, a7, a8, a9] t f) := setCell_blk u2 q
  generalize w1.setCell ⟨b, 2, none⟩ u2 = w2 at q ⊢
  replace q : (w2.setCell ⟨b, 3, none⟩ u3).heap[b]? = some (.cells #[u0, u1, u2, u3, a4, a5, a6, a7, a8, a9] t f) := setCell_blk u3 q
  generalize w2.setCell ⟨b, 3, none⟩ u3 = w3 at q ⊢
  replace q : (w3.setCell ⟨b, 4, none⟩ u4).heap[b]? = some (.cells #[u0, u1, u2, u3, u4, a5, a6, a7, a8, a9] t f) := setCell_blk u4 q
  generalize w3.setCell ⟨b, 4, none⟩ u4 = w4 at q ⊢
  replace q : (w4.setCell ⟨b, 5, none⟩ u5).heap[b]? = some (.cells #[u0, u1, u2, u3, u4, u5, a6, a7, a8, a9] t f) := setCell_blk u5 q
  generalize w4.setCell ⟨b, 5, none⟩ u5 = w5 at q ⊢
  replace q : (w5.setCell ⟨b, 6, none⟩ u6).heap[b]? = some (.cells #[u0, u1, u2, u3, u4, u5, u6, a7, a8, a9] t f) := setCell_blk u6 q
  generalize w5.setCell ⟨b, 6, none⟩ u6 = w6 at q ⊢
  replace q : (w6.setCell ⟨b, 7, none⟩ u7).heap[b]? = some (.cells #[u0, u1, u2, u3, u4, u5, u6, u7, a8, a9] t f) := setCell_blk u7 q
  generalize w6.setCell ⟨b, 7, none⟩ u7 = w7 at q ⊢
  replace q : (w7.setCell ⟨b, 8, none⟩ u8).heap[b]? = some (.cells #[u0, u1, u2, u3, u4, u5, u6, u7, u8, a9] t f) := setCell_blk u8 q
  generalize w7.setCell ⟨b, 8, none⟩ u8 = w8 at q ⊢
  replace q : (w8.setCell ⟨b, 9, none⟩ u9).heap[b]? = some (.cells #[u0, u1, u2, u3, u4, u5, u6, u7, u8, u9] t f) := setCell_blk u9 q
  exact q
theorem below10 {n b : Nat} {w0 w : World} {u0 u1 u2 u3 u4 u5 u6 u7 u8 u9 : Value} (q : Below n w0 w) (h : n ≤ b) : Below n w0 ((((((((((w.setCell ⟨b, 0, none⟩ u0).setCell ⟨b, 1, none⟩ u1).setCell ⟨b, 2, none⟩ u2).setCell ⟨b, 3, none⟩ u3).setCell ⟨b, 4, none⟩ u4).setCell ⟨b, 5, none⟩ u5).setCell ⟨b, 6, none⟩ u6).setCell ⟨b, 7, none⟩ u7).setCell ⟨b, 8, none⟩ u8).setCell ⟨b, 9, none⟩ u9) := Below.setCell (Below.setCell (Below.setCell (Below.setCell (Below.setCell (Below.setCell (Below.setCell (Below.setCell (Below.setCell (Below.setCell (q) h _) h _) h _) h _) h _) h _) h _) h _) h _) h _
theorem far10 {b k : Nat} {w : World} {u0 u1 u2 u3 u4 u5 u6 u7 u8 u9 : Value} (h : k ≠ b) : ((((((((((w.setCell ⟨b, 0, none⟩ u0).setCell ⟨b, 1, none⟩ u1).setCell ⟨b, 2, none⟩ u2).setCell ⟨b, 3, none⟩ u3).setCell ⟨b, 4, none⟩ u4).setCell ⟨b, 5, none⟩ u5).setCell ⟨b, 6, none⟩ u6).setCell ⟨b, 7, none⟩ u7).setCell ⟨b, 8, none⟩ u8).setCell ⟨b, 9, none⟩ u9).heap[k]? = w.heap[k]? := (Below.heap_setCell _ _ _ k h).trans ((Below.heap_setCell _ _ _ k h).trans ((Below.heap_setCell _ _ _ k h).trans ((Below.heap_setCell _ _ _ k h).trans ((Below.heap_setCell _ _ _ k h).trans ((Below.heap_setCell _ _ _ k h).trans ((Below.heap_setCell _ _ _ k h).trans ((Below.heap_setCell _ _ _ k h).trans ((Below.heap_setCell _ _ _ k h).trans ((Below.heap_setCell _ _ _ k h).trans (rfl))))))))))
theorem bcell {W w1 : World} (hb : Below W.heap.size W w1) : (∀ b o, b < W.heap.size → w1.cell? ⟨b, o, none⟩ = W.cell? ⟨b, o, none⟩) ∧ (∀ b o, b < W.heap.size → w1.frozen? ⟨b, o, none⟩ = W.frozen? ⟨b, o, none⟩) :=
  ⟨fun b o h => hb.cell (p := ⟨b, o, none⟩) h, fun b o h => hb.frozen (p := ⟨b, o, none⟩) h⟩
set_option maxRecDepth 100000 in
set_option maxHeartbeats 40000000 in
theorem rsend_any (w : World) (ok : Nat → Prop) (n : Fed.Node) (σ : Sl5) (h : NodeVs w ok n σ) (dst : Nat) (l1 : n.log.length ≤ 1000000) (ht : dst < n.nxt.length) (hx0 : 1 ≤ n.nxt.getD dst 0) (hx1 : n.nxt.getD dst 0 ≤ n.log.length + 1) :
    Calls Try.prog 121 #[.agg #[.int .i64 n.id, .int .i64 n.term, .int .i64 n.vote, .slice σ.A3 n.log.length σ.k3, .int .i64 n.form, .int .i64 n.role, .int .i64 n.commit, .slice σ.A7 n.votes.length σ.k7, .slice σ.A8 n.nxt.length σ.k8, .slice σ.A9 n.mtch.length σ.k9, .slice σ.A10 n.forms.length σ.k10, .int .i64 n.clock, .int .i64 n.due], .int .i64 dst] w fun e w' => ∃ A c, e = .returned (.agg #[.int .i64 (entriesMsg n dst).kind, .int .i64 (entriesMsg n dst).frm, .int .i64 (entriesMsg n dst).to, .int .i64 (entriesMsg n dst).term, .int .i64 (entriesMsg n dst).index, .int .i64 (entriesMsg n dst).logTerm, .bool (entriesMsg n dst).ok, .slice A (entriesMsg n dst).entries.length c, .int .i64 (entriesMsg n dst).commit, .int .i64 (entriesMsg n dst).form]) ∧ MM.Rd w' (fun k => w.heap.size ≤ k ∧ MM.Ty w' k 40) 2 (.slice A (entriesMsg n dst).entries.length c) (entriesMsg n dst).entries.length (entsC (entriesMsg n dst).entries) ∧ Below w.heap.size w w' := by
  obtain ⟨x, hx⟩ : ∃ x, x = n.nxt.getD dst 0 := ⟨_, rfl⟩
  rw [← hx] at hx0 hx1
  obtain ⟨ix, rfl⟩ : ∃ ix : Nat, x = ix + 1 := ⟨(x - 1).toNat, by omega⟩
  have hxl : ix ≤ n.log.length := by omega
  have hlen : ((n.log.drop ix).take (min n.log.length (ix + 5) - ix)).length = min n.log.length (ix + 5) - ix := by rw [List.length_take, List.length_drop]; omega
  have HE := Lib.hid (show entriesMsg n dst = ⟨3, n.id, dst, n.term, ix, termAt n.log ix, false, (n.log.drop ix).take (min n.log.length (ix + 5) - ix), n.commit, 0⟩ from by
    have e1 : entriesAt n dst = ix := by unfold entriesAt; rw [Int.toNat_natCast, ← hx]; unfold mx mn; omega
    unfold entriesMsg
    rw [e1, show ((mn ((ix : Int) + 5) n.log.length).toNat - (ix : Int).toNat) = min n.log.length (ix + 5) - ix from by unfold mn; omega, Int.toNat_natCast])
  have HLEN := Lib.hid hlen
  have HX := Lib.hid hx
  have H := Lib.hid (h.mono (ok' := fun k => k < w.heap.size) (fun k _ hk => hk))
  clear h hlen hx hx0 hx1
  go_enter Try.func121, Try.ntmps121
  go_upto_region 1 with (fail)
  refine name_world (F := fun W => Hid (W.heap[w.heap.size]? = some (.cells #[.int .i64 n.id, .int .i64 n.term, .int .i64 n.vote, .slice σ.A3 n.log.length σ.k3, .int .i64 n.form, .int .i64 n.role, .int .i64 n.commit, .slice σ.A7 n.votes.length σ.k7, .slice σ.A8 n.nxt.length σ.k8, .slice σ.A9 n.mtch.length σ.k9, .slice σ.A10 n.forms.length σ.k10, .int .i64 n.clock, .int .i64 n.due] 28 (0, 0))) ∧ Hid (W.heap[w.heap.size + 1]? = some (.cells #[.int .i64 0, .int .i64 0, .int .i64 0, .int .i64 0, .int .i64 0, .int .i64 0, .bool false, .slice none 0 0, .int .i64 0, .int .i64 0] 34 (0, 0))) ∧ Hid (NodeVs W (fun k => k < w.heap.size) n σ) ∧ Hid (Below w.heap.size w W)) _ ⟨Lib.hid ((Below.heap_alloc _ _ _ (by simp)).trans (MM.alloc_new w _)), Lib.hid (MM.alloc_new1 w _ _), Lib.hid (H.out.step (fun k hk _ => (Below.heap_alloc _ _ k (by simp; omega)).trans (Below.heap_alloc w _ k hk))), Lib.hid (((Below.refl _ w).alloc (Nat.le_refl _) _).alloc (by simp) _)⟩ ?_
  clear H
  intro w1 ⟨X, Y, V, HB⟩
  have ht1 : w.heap.size + 1 < w1.heap.size := MM.blk_lt Y.out
  obtain ⟨_, A8', c8', ea, q81, _, r1⟩ := V.out.hn
  injection ea with ea1 _ ea2
  subst ea2
  obtain ⟨b8, o8, e8, _, _, g8⟩ := r1 (by omega)
  rw [e8] at ea1
  have ce := g8 _ _ (intsC_get ht)
  rw [← HX.out] at ce
  clear g8 r1 e8
  obtain ⟨_, A3', c3', ea, q31, _, _⟩ := V.out.hl
  injection ea with ea3 _ ea4
  subst ea3 ea4
  have c0 : w1.cell? ⟨w.heap.size, 0, none⟩ = some (.int .i64 n.id) := MM.cell_blk X.out rfl
  have c1 : w1.cell? ⟨w.heap.size, 1, none⟩ = some (.int .i64 n.term) := MM.cell_blk X.out rfl
  have c2 : w1.cell? ⟨w.heap.size, 2, none⟩ = some (.int .i64 n.vote) := MM.cell_blk X.out rfl
  have c3 : w1.cell? ⟨w.heap.size, 3, none⟩ = some (.slice σ.A3 n.log.length σ.k3) := MM.cell_blk X.out rfl
  have c4 : w1.cell? ⟨w.heap.size, 4, none⟩ = some (.int .i64 n.form) := MM.cell_blk X.out rfl
  have c5 : w1.cell? ⟨w.heap.size, 5, none⟩ = some (.int .i64 n.role) := MM.cell_blk X.out rfl
  have c6 : w1.cell? ⟨w.heap.size, 6, none⟩ = some (.int .i64 n.commit) := MM.cell_blk X.out rfl
  have c7 : w1.cell? ⟨w.heap.size, 7, none⟩ = some (.slice σ.A7 n.votes.length σ.k7) := MM.cell_blk X.out rfl
  have c9 : w1.cell? ⟨w.heap.size, 9, none⟩ = some (.slice σ.A9 n.mtch.length σ.k9) := MM.cell_blk X.out rfl
  have c10 : w1.cell? ⟨w.heap.size, 10, none⟩ = some (.slice σ.A10 n.forms.length σ.k10) := MM.cell_blk X.out rfl
  have c11 : w1.cell? ⟨w.heap.size, 11, none⟩ = some (.int .i64 n.clock) := MM.cell_blk X.out rfl
  have c12 : w1.cell? ⟨w.heap.size, 12, none⟩ = some (.int .i64 n.due) := MM.cell_blk X.out rfl
  have c8 : w1.cell? ⟨w.heap.size, 8, none⟩ = some (.slice (some ⟨b8, o8, none⟩) n.nxt.length σ.k8) := by rw [← ea1]; exact MM.cell_blk X.out rfl
  have EA := Lib.hid ea1
  clear ea1
  obtain ⟨y0, y1, y2, y3, y4, y5, y6, y7, y8, y9⟩ := MM.cells10 Y.out
  have z0 : w1.frozen? ⟨w.heap.size + 1, 0, none⟩ = false := MM.free_blk Y.out
  have z1 : w1.frozen? ⟨w.heap.size + 1, 1, none⟩ = false := MM.free_blk Y.out
  have z2 : w1.frozen? ⟨w.heap.size + 1, 2, none⟩ = false := MM.free_blk Y.out
  have z3 : w1.frozen? ⟨w.heap.size + 1, 3, none⟩ = false := MM.free_blk Y.out
  have z4 : w1.frozen? ⟨w.heap.size + 1, 4, none⟩ = false := MM.free_blk Y.out
  have z5 : w1.frozen? ⟨w.heap.size + 1, 5, none⟩ = false := MM.free_blk Y.out
  have z6 : w1.frozen? ⟨w.heap.size + 1, 6, none⟩ = false := MM.free_blk Y.out
  have z7 : w1.frozen? ⟨w.heap.size + 1, 7, none⟩ = false := MM.free_blk Y.out
  have z8 : w1.frozen? ⟨w.heap.size + 1, 8, none⟩ = false := MM.free_blk Y.out
  have z9 : w1.frozen? ⟨w.heap.size + 1, 9, none⟩ = false := MM.free_blk Y.out
  have s1 : (ix : Int) ≤ mn (n.log.length : Int) ((ix : Int) + 5) := by unfold mn; omega
  have s4 : mn (n.log.length : Int) ((ix : Int) + 5) ≤ (σ.k3 : Int) := by unfold mn; omega
  have s3 : 0 ≤ mn (n.log.length : Int) ((ix : Int) + 5) := by unfold mn; omega
  have S2 := Lib.hid (show (mn (n.log.length : Int) ((ix : Int) + 5)).toNat = min n.log.length (ix + 5) by unfold mn; omega)
  have hcut := V.out.hl.cut (lo := ix) (hi := min n.log.length (ix + 5)) (m := σ.k3) (by omega) (by omega) (by omega) (Nat.le_refl _)
  rw [entsC_drop, entsC_take] at hcut
  obtain ⟨AA, hAA⟩ : ∃ AA, (if σ.k3 = ix then σ.A3 else Option.map (fun x => x.add (ix * 2)) σ.A3) = AA := ⟨_, rfl⟩
  rw [hAA] at hcut
  have HCUT := Lib.hid hcut
  clear hcut
  go_wp2_with fail
  rw [S2.out]
  clear s1 s3 s4
  have VL := Lib.hid V.out.hl
  refine Go.RT.wp_region_tree [0, 1, 0, 0, 8, 0, 0, 0, 192, 0, 960, 0, 2048, 8191, 16383] (.p 0 (.s 1 (.p 2 (.p 3 (.s 4 (.p 5 (.s 6 (.p 7 (.p 9 (.p 11 (.s 12 (.w 8 [1, 4, 12] (.w 10 [1, 4, 12] (.p 13 (.w 14 [] .nil .stop)) .stop) .stop)))))))))))) (by kernel_rfl) (by kernel_rfl) ?_
  repeat (first | (refine Go.RT.step_p rfl (fun K hK => ?_); go_simp; refine hK _ ?_; clear hK K) | (refine Go.RT.step_s rfl (fun K hK => ?_); go_simp; refine hK _ ?_; clear hK K))
  (refine Go.RT.step_w rfl rfl (fun K hK => ?_) Go.RT.step_stop)
  go_wp2_with fail
  refine (rterm_any _ _ n.log _ _ _ _ _ _ _ _ _ _ _ _ σ.A3 σ.k3 (ix : Int) (by omega) (by omega) VL.out.drew).mono ?_
  rintro e v2 ⟨rfl, hb2⟩
  have HB2 := Lib.hid hb2
  have X2 := Lib.hid ((hb2.block _ (MM.blk_lt X.out)).trans X.out)
  have cc0 : v2.cell? ⟨w.heap.size, 0, none⟩ = some (.int .i64 n.id) := MM.cell_blk X2.out rfl
  have cc1 : v2.cell? ⟨w.heap.size, 1, none⟩ = some (.int .i64 n.term) := MM.cell_blk X2.out rfl
  have cc6 : v2.cell? ⟨w.heap.size, 6, none⟩ = some (.int .i64 n.commit) := MM.cell_blk X2.out rfl
  clear hb2
  go_wp2_with fail
  refine Go.RT.QK_normal _ _ _ _ (hK _ _ ?_ ?_) <;> clear hK K
  · repeat (first | exact Go.RT.again_nil | (refine Go.RT.again_not rfl rfl ?_) | (refine Go.RT.again_one rfl (by go_simp <;> rfl) ?_))
  (refine Go.RT.step_w rfl rfl (fun K hK => ?_) Go.RT.step_stop)
  go_wp2_with fail
  refine (rentries _ _ _ _ _ _ (HCUT.out.drew.below HB2.out) (entsC_one _) (by omega)).mono ?_
  rintro e v3 ⟨A', c', ob, rfl, hr, hb3⟩
  have HB3 := Lib.hid (HB.out.drew.trans ((HB2.out.trans (hb3.mono HB2.out.size)).mono HB.out.size))
  have Y3 := Lib.hid ((hb3.block _ (MM.blk_lt ((HB2.out.block _ (MM.blk_lt Y.out)).trans Y.out))).trans ((HB2.out.block _ (MM.blk_lt Y.out)).trans Y.out))
  have HS2 : w.heap.size + 2 ≤ v2.heap.size := by have := HB2.out.size; have e : w1.drew.heap.size = w1.heap.size := rfl; omega
  have HR := Lib.hid hr
  have X3 := Lib.hid ((hb3.block _ (MM.blk_lt X2.out)).trans X2.out)
  have cd0 : v3.cell? ⟨w.heap.size, 0, none⟩ = some (.int .i64 n.id) := MM.cell_blk X3.out rfl
  have cd1 : v3.cell? ⟨w.heap.size, 1, none⟩ = some (.int .i64 n.term) := MM.cell_blk X3.out rfl
  have cd6 : v3.cell? ⟨w.heap.size, 6, none⟩ = some (.int .i64 n.commit) := MM.cell_blk X3.out rfl
  obtain ⟨ya0, ya1, ya2, ya3, ya4, ya5, ya6, ya7, ya8, ya9⟩ := MM.cells10 Y3.out
  have za0 : v3.frozen? ⟨w.heap.size + 1, 0, none⟩ = false := MM.free_blk Y3.out
  have za1 : v3.frozen? ⟨w.heap.size + 1, 1, none⟩ = false := MM.free_blk Y3.out
  have za2 : v3.frozen? ⟨w.heap.size + 1, 2, none⟩ = false := MM.free_blk Y3.out
  have za3 : v3.frozen? ⟨w.heap.size + 1, 3, none⟩ = false := MM.free_blk Y3.out
  have za4 : v3.frozen? ⟨w.heap.size + 1, 4, none⟩ = false := MM.free_blk Y3.out
  have za5 : v3.frozen? ⟨w.heap.size + 1, 5, none⟩ = false := MM.free_blk Y3.out
  have za6 : v3.frozen? ⟨w.heap.size + 1, 6, none⟩ = false := MM.free_blk Y3.out
  have za7 : v3.frozen? ⟨w.heap.size + 1, 7, none⟩ = false := MM.free_blk Y3.out
  have za8 : v3.frozen? ⟨w.heap.size + 1, 8, none⟩ = false := MM.free_blk Y3.out
  have za9 : v3.frozen? ⟨w.heap.size + 1, 9, none⟩ = false := MM.free_blk Y3.out
  clear hb3 hr
  go_wp2_with fail
  refine Go.RT.QK_normal _ _ _ _ (hK _ _ ?_ ?_) <;> clear hK K
  · repeat (first | exact Go.RT.again_nil | (refine Go.RT.again_not rfl rfl ?_) | (refine Go.RT.again_one rfl (by go_simp <;> rfl) ?_))
  repeat (first | (refine Go.RT.step_p rfl (fun K hK => ?_); go_simp; refine hK _ ?_; clear hK K) | (refine Go.RT.step_s rfl (fun K hK => ?_); go_simp; refine hK _ ?_; clear hK K))
  (refine Go.RT.step_w rfl rfl (fun K hK => ?_) Go.RT.step_stop)
  go_wp2
  refine Go.RT.QK_normal _ _ _ _ (hK _ _ ?_ ?_) <;> clear hK K
  · repeat (first | exact Go.RT.again_nil | (refine Go.RT.again_not rfl rfl ?_) | (refine Go.RT.again_one rfl (by go_simp <;> rfl) ?_))
  refine Go.RT.step_nil ?_
  go_wp2_with fail
  refine name_world (F := fun W => Hid (W.heap[w.heap.size + 1]? = some (.cells #[.int .i64 3, .int .i64 n.id, .int .i64 dst, .int .i64 n.term, .int .i64 ix, .int .i64 (termAt n.log ix), .bool false, .slice A' (min n.log.length (ix + 5) - ix) c', .int .i64 n.commit, .int .i64 0] 34 (0, 0))) ∧ Hid (MM.Rd W (fun k => w.heap.size ≤ k ∧ MM.Ty W k 40) 2 (.slice A' (min n.log.length (ix + 5) - ix) c') (min n.log.length (ix + 5) - ix) (entsC ((n.log.drop ix).take (min n.log.length (ix + 5) - ix)))) ∧ Hid (Below w.heap.size w W)) _ (by
    exact ⟨Lib.hid ((set10 Y3.out).trans rfl), Lib.hid ((HR.out.step (fun k hk _ => far10 (by have := (HR.out.lt k hk).1; omega))).rd.mono (fun k hk _ => ⟨by have := (HR.out.lt k hk).1; omega, (HR.out.step (fun k hk _ => far10 (by have := (HR.out.lt k hk).1; omega))).ty k hk⟩)), Lib.hid (below10 HB3.out (by omega))⟩) ?_
  intro wf ⟨Y9, R9, B9⟩
  obtain ⟨u0, u1, u2, u3, u4, u5, u6, u7, u8, u9⟩ := MM.cells10 Y9.out
  refine bodyPost_ret (v := .agg #[.int .i64 3, .int .i64 n.id, .int .i64 dst, .int .i64 n.term, .int .i64 ix, .int .i64 (termAt n.log ix), .bool false, .slice A' (min n.log.length (ix + 5) - ix) c', .int .i64 n.commit, .int .i64 0]) (by simp [results, Try.results121, go_sem, u0, u1, u2, u3, u4, u5, u6, u7, u8, u9]) rfl ?_
  have hl := HLEN.out
  rw [HE.out]
  refine ⟨A', c', ?_, ?_, B9.out⟩
  · show _ = Ending.returned (Value.agg #[.int .i64 3, .int .i64 n.id, .int .i64 dst, .int .i64 n.term, .int .i64 ix, .int .i64 (termAt n.log ix), .bool false, .slice A' ((n.log.drop ix).take (min n.log.length (ix + 5) - ix)).length c', .int .i64 n.commit, .int .i64 0])
    rw [hl]
  · show MM.Rd wf (fun k => w.heap.size ≤ k ∧ MM.Ty wf k 40) 2 (.slice A' ((n.log.drop ix).take (min n.log.length (ix + 5) - ix)).length c') ((n.log.drop ix).take (min n.log.length (ix + 5) - ix)).length (entsC ((n.log.drop ix).take (min n.log.length (ix + 5) - ix)))
    rw [hl]
    exact R9.out

end Go.Proofs.Ytnkmljdkokcdjaa
