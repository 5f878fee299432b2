/-
  Tick answers as the plain function tickS. Conditions: lengths and numbers are bounded as the theorem says.
-/
import Derived.WalkKit
import Derived.WalkSpells
import Derived.Lib.Hide
import Derived.Outline
import Derived.Test.YtnkmljdkokcdjaaChecked
import Derived.Test.YtnkmljdkokcdjaaMn
import Derived.Test.YtnkmljdkokcdjaaMem
import Derived.Test.YtnkmljdkokcdjaaFed
import Derived.Test.YtnkmljdkokcdjaaMd
set_option linter.unusedVariables false
set_option linter.unusedSimpArgs false
namespace Go.Proofs.Ytnkmljdkokcdjaa
open Go.RowKit Fed
set_option linter.unusedVariables false
attribute [local go_sem high] Fed.max2_int Fed.min2_int

theorem end_shape (w : World) (B g : Nat) (s : NS) (μ : NM) (h : NodeAt w B g s μ) (ho : s.out.length ≤ 1000000) :
    Calls Try.prog 64 #[.pointer (some ⟨g, 0, none⟩)] w
      fun e w' => ∃ A3 k3 A7 k7 A8 k8 A9 k9 A10 k10 Ao ko, e = .returned (.tuple #[.agg #[.int .i64 s.n.id, .int .i64 s.n.term, .int .i64 s.n.vote, .slice A3 s.n.log.length k3, .int .i64 s.n.form, .int .i64 s.n.role, .int .i64 s.n.commit, .slice A7 s.n.votes.length k7, .slice A8 s.n.nxt.length k8, .slice A9 s.n.mtch.length k9, .slice A10 s.n.forms.length k10, .int .i64 s.n.clock, .int .i64 s.n.due], .slice Ao s.out.length ko]) ∧ NodeV w' (fun j => B ≤ j) s.n (.slice A3 s.n.log.length k3) (.slice A7 s.n.votes.length k7) (.slice A8 s.n.nxt.length k8) (.slice A9 s.n.mtch.length k9) (.slice A10 s.n.forms.length k10) ∧ MsgsV w' (fun j => B ≤ j) (.slice Ao s.out.length ko) s.out ∧ Below w.heap.size w w' := by
  refine (end_any w B g s μ h ho).mono ?_
  rintro e w' ⟨vo, rfl, hnv, hms, hb⟩
  obtain ⟨⟨vl, ol⟩, ⟨vv, ov⟩, ⟨vn, on⟩, ⟨vm, om⟩, ⟨vf, of⟩, o⟩ := μ
  simp only at hnv ⊢
  obtain ⟨A3, k3, rfl, _, _⟩ := hnv.hl.slice
  obtain ⟨A7, k7, rfl, _, _⟩ := hnv.hv.slice
  obtain ⟨A8, k8, rfl, _, _⟩ := hnv.hn.slice
  obtain ⟨A9, k9, rfl, _, _⟩ := hnv.hm.slice
  obtain ⟨A10, k10, rfl, _, _⟩ := hnv.hf.slice
  obtain ⟨cs, hr, hm⟩ := hms
  obtain ⟨Ao, ko, rfl, _, _⟩ := hr.slice
  exact ⟨A3, k3, A7, k7, A8, k8, A9, k9, A10, k10, Ao, ko, rfl, hnv, ⟨cs, hr, hm⟩, hb⟩

@[irreducible] def tickS (n : Fed.Node) : NS :=
  if decide (0 ≤ n.id ∧ n.id < n.votes.length) = false then ⟨{ n with clock := n.clock + 1 }, []⟩
  else if n.role = 2 then (if (n.clock + 1).tmod 2 = 0 then ⟨{ n with clock := n.clock + 1 }, spreadMsgs { n with clock := n.clock + 1 } n.votes.length⟩ else ⟨{ n with clock := n.clock + 1 }, []⟩)
  else if n.due ≤ n.clock + 1 then standS ⟨{ n with clock := n.clock + 1 }, []⟩ else ⟨{ n with clock := n.clock + 1 }, []⟩
theorem standS_out (n : Fed.Node) (hv : n.votes.length ≤ 1000) : (standS ⟨n, []⟩).out.length ≤ 1000000 := by
  have h1 := askMsgs_le (standN n) n.votes.length
  unfold standS
  split
  · have hvl : ((List.replicate n.votes.length false).set n.id.toNat true).length = n.votes.length := by simp
    have h2 := spreadMsgs_le (putN (leadN (standN n)) ⟨#[]⟩) n.votes.length
    simp only [leadS, putS, List.length_append, List.nil_append]
    have h3 : (leadN (standN n)).votes.length = n.votes.length := hvl
    rw [h3]
    omega
  · simp only [List.nil_append]; omega
set_option maxRecDepth 100000 in
set_option maxHeartbeats 4000000 in
theorem tick_any (w : World) (ok : Nat → Prop) (n : Fed.Node) (vl vv vn vm vf : Value) (h : NodeV w ok n vl vv vn vm vf) (l1 : n.log.length ≤ 800000) (l2 : n.votes.length ≤ 1000) (l3 : n.nxt.length = n.votes.length) (l4 : n.mtch.length ≤ 1000) (l5 : n.forms.length ≤ 1000)
    (ht0 : -1000000000 ≤ n.term) (ht1 : n.term ≤ 1000000000) (hc0 : -999999999 ≤ n.clock) (hc1 : n.clock ≤ 999999999) (hx : ∀ i, i < n.nxt.length → -1000000000 ≤ n.nxt.getD i 0 ∧ n.nxt.getD i 0 ≤ 1000000000) :
    Calls Try.prog 25 #[.agg (nodeC n vl vv vn vm vf)] w
      fun e w' => ∃ A3 k3 A7 k7 A8 k8 A9 k9 A10 k10 Ao ko, e = .returned (.tuple #[.agg #[.int .i64 (tickS n).n.id, .int .i64 (tickS n).n.term, .int .i64 (tickS n).n.vote, .slice A3 (tickS n).n.log.length k3, .int .i64 (tickS n).n.form, .int .i64 (tickS n).n.role, .int .i64 (tickS n).n.commit, .slice A7 (tickS n).n.votes.length k7, .slice A8 (tickS n).n.nxt.length k8, .slice A9 (tickS n).n.mtch.length k9, .slice A10 (tickS n).n.forms.length k10, .int .i64 (tickS n).n.clock, .int .i64 (tickS n).n.due], .slice Ao (tickS n).out.length ko]) ∧ NodeV w' (fun j => w.heap.size ≤ j) (tickS n).n (.slice A3 (tickS n).n.log.length k3) (.slice A7 (tickS n).n.votes.length k7) (.slice A8 (tickS n).n.nxt.length k8) (.slice A9 (tickS n).n.mtch.length k9) (.slice A10 (tickS n).n.forms.length k10) ∧ MsgsV w' (fun j => w.heap.size ≤ j) (.slice Ao (tickS n).out.length ko) (tickS n).out ∧ Below w.heap.size w w' := by
  have HS := Lib.hid (show tickS n = _ from by unfold tickS; rfl)
  generalize tickS n = s1 at HS ⊢
  have HX := Lib.hid hx
  clear hx
  have L3 := Lib.hid l3
  clear l3
  obtain ⟨Al0, kl0, rfl, _, _⟩ := h.hl.slice
  obtain ⟨Av0, kv0, rfl, _, _⟩ := h.hv.slice
  obtain ⟨An0, kn0, rfl, _, _⟩ := h.hn.slice
  obtain ⟨Am0, km0, rfl, _, _⟩ := h.hm.slice
  obtain ⟨Af0, kf0, rfl, _, _⟩ := h.hf.slice
  unfold nodeC
  have HV := Lib.hid (NodeV.below h (((Below.refl _ w).alloc (Nat.le_refl _) (.cells #[.int .i64 n.id, .int .i64 n.term, .int .i64 n.vote, .slice Al0 n.log.length kl0, .int .i64 n.form, .int .i64 n.role, .int .i64 n.commit, .slice Av0 n.votes.length kv0, .slice An0 n.nxt.length kn0, .slice Am0 n.mtch.length km0, .slice Af0 n.forms.length kf0, .int .i64 n.clock, .int .i64 n.due] 28)).alloc (by simp) (.cells #[.int .i64 0, .int .i64 0, .int .i64 0, .slice none 0 0, .int .i64 0, .int .i64 0, .int .i64 0, .slice none 0 0, .slice none 0 0, .slice none 0 0, .slice none 0 0, .int .i64 0, .int .i64 0] 28)))
  clear h
  go_enter Try.func25, Try.ntmps25
  go_wp2_with fail
  refine (begin_any _ ok n _ _ _ _ _ HV.out (by omega) l2 (by rw [L3.out]; exact l2) l4 l5).mono ?_
  rintro e w1 ⟨g, μ, rfl, hn1, hb1⟩
  have hY1 := (hb1.block (w.heap.size + 1) (by simp)).trans (MM.alloc_new1 w _ _)
  have hB1 : Below w.heap.size w w1 := (((Below.refl _ w).alloc (Nat.le_refl _) _).alloc (by simp) _).trans (hb1.mono (by simp; omega))
  have hn1 : NodeAt w1 (w.heap.size + 2) g ⟨n, []⟩ μ := by rw [World.size_alloc, World.size_alloc] at hn1; exact hn1
  have c11 : w1.cell? ⟨g, 11, none⟩ = some (.int .i64 n.clock) := hn1.c 11 _ rfl
  have fr11 := hn1.fr 11
  have c0 : w1.cell? ⟨g, 0, none⟩ = some (.int .i64 n.id) := hn1.c 0 _ rfl
  have HN1 := Lib.hid hn1
  have HB1 := Lib.hid hB1
  have HY1 := Lib.hid hY1
  clear hn1 hB1 hY1 hb1
  go_wp2_with fail
  have hN2 : NodeAt (w1.setCell ⟨g, 11, none⟩ (.int .i64 (n.clock + 1))) (w.heap.size + 2) g ⟨{ n with clock := n.clock + 1 }, []⟩ μ := HN1.out.setg (i := 11) (u := .int .i64 (n.clock + 1)) rfl rfl rfl rfl rfl rfl rfl
  have hB2 : Below w.heap.size w (w1.setCell ⟨g, 11, none⟩ (.int .i64 (n.clock + 1))) := HB1.out.setCell (by have := HN1.out.hB; show w.heap.size ≤ g; omega) _
  have hY2 := (Below.heap_setCell w1 ⟨g, 11, none⟩ (.int .i64 (n.clock + 1)) (w.heap.size + 1) (by have := HN1.out.hB; show w.heap.size + 1 ≠ g; omega)).trans HY1.out
  obtain ⟨w2, hw2⟩ : ∃ W, W = w1.setCell ⟨g, 11, none⟩ (.int .i64 (n.clock + 1)) := ⟨_, rfl⟩
  rw [← hw2] at hN2 hB2 hY2 ⊢
  have HN2 := Lib.hid hN2
  have HB2 := Lib.hid hB2
  have HY2 := Lib.hid hY2
  clear hw2 c0 c11 fr11 hN2 hB2 hY2 HN1 HB1 HY1
  have c0 : w2.cell? ⟨g, 0, none⟩ = some (.int .i64 n.id) := HN2.out.c 0 _ rfl
  have c5 : w2.cell? ⟨g, 5, none⟩ = some (.int .i64 n.role) := HN2.out.c 5 _ rfl
  have c11 : w2.cell? ⟨g, 11, none⟩ = some (.int .i64 (n.clock + 1)) := HN2.out.c 11 _ rfl
  have c12 : w2.cell? ⟨g, 12, none⟩ = some (.int .i64 n.due) := HN2.out.c 12 _ rfl
  go_wp2_with fail
  refine (within_any _ (w.heap.size + 2) g _ _ n.id HN2.out).mono ?_
  rintro e w3 ⟨rfl, rfl⟩
  by_cases hin : 0 ≤ n.id ∧ n.id < (n.votes.length : Int)
  · have hb : decide (0 ≤ n.id ∧ n.id < ((⟨{ n with clock := n.clock + 1 }, []⟩ : NS).n.votes.length : Int)) = true := by simpa using hin
    have HIN := Lib.hid hin
    have hin2 := Lib.hid (show ¬ (decide (0 ≤ n.id ∧ n.id < (n.votes.length : Int)) = false) from by simpa using hin)
    clear hin
    by_cases hr : n.role = 2
    · have hrb : (n.role == 2) = true := by simp [hr]
      have HR := Lib.hid hr
      clear hr
      by_cases he : (n.clock + 1).tmod 2 = 0
      · have heb : ((n.clock + 1).tmod 2 == 0) = true := by simp [he]
        have HE := Lib.hid he
        clear he
        obtain rfl : s1 = ⟨{ n with clock := n.clock + 1 }, spreadMsgs { n with clock := n.clock + 1 } n.votes.length⟩ := by rw [HS.out, if_neg hin2.out, if_pos HR.out, if_pos HE.out]
        go_wp2_with fail
        refine (others_entries _ (w.heap.size + 2) g _ _ HN2.out (by simp) (by show n.log.length ≤ 1000000; omega) l2 L3.out HX.out).mono ?_
        rintro e w4 ⟨o4, rfl, hn4, hb4⟩
        have HN4 := Lib.hid (show NodeAt w4 (w.heap.size + 2) g ⟨{ n with clock := n.clock + 1 }, spreadMsgs { n with clock := n.clock + 1 } n.votes.length⟩ _ from hn4)
        have HY4 := Lib.hid ((hb4.block (w.heap.size + 1) (by omega)).trans HY2.out)
        have HB4 := Lib.hid (HB2.out.trans (hb4.mono (by omega)))
        clear hn4 hb4
        go_wp2_with fail
        refine (end_shape _ (w.heap.size + 2) g _ _ HN4.out (by have := spreadMsgs_le { n with clock := n.clock + 1 } n.votes.length; show (spreadMsgs { n with clock := n.clock + 1 } n.votes.length).length ≤ 1000000; omega)).mono ?_
        rintro e we ⟨A3, k3, A7, k7, A8, k8, A9, k9, A10, k10, Ao, ko, rfl, hnv, hms, hbe⟩
        have hYe := (hbe.block (w.heap.size + 1) (by have := MM.blk_lt HY4.out; omega)).trans HY4.out
        have hBe := HB4.out.trans (hbe.mono (by have := HN4.out.Bsize; omega))
        clear hbe
        obtain ⟨y0, y1, y2, y3, y4, y5, y6, y7, y8, y9, y10, y11, y12⟩ := MM.cells13 hYe
        obtain ⟨g0, g1, g2, g3, g4, g5, g6, g7, g8, g9, g10, g11, g12⟩ := MM.frees13 hYe
        have HYE := Lib.hid hYe
        have HBE := Lib.hid hBe
        have HNV := Lib.hid hnv
        have HMS := Lib.hid hms
        clear hYe hBe hnv hms
        go_wp2_with fail
        have hYf : ((((((((((((((we).setCell ⟨w.heap.size + 1, 0, none⟩ (.int .i64 (⟨{ n with clock := n.clock + 1 }, spreadMsgs { n with clock := n.clock + 1 } n.votes.length⟩ : NS).n.id)).setCell ⟨w.heap.size + 1, 1, none⟩ (.int .i64 (⟨{ n with clock := n.clock + 1 }, spreadMsgs { n with clock := n.clock + 1 } n.votes.length⟩ : NS).n.term)).setCell ⟨w.heap.size + 1, 2, none⟩ (.int .i64 (⟨{ n with clock := n.clock + 1 }, spreadMsgs { n with clock := n.clock + 1 } n.votes.length⟩ : NS).n.vote)).setCell ⟨w.heap.size + 1, 3, none⟩ (.slice A3 (⟨{ n with clock := n.clock + 1 }, spreadMsgs { n with clock := n.clock + 1 } n.votes.length⟩ : NS).n.log.length k3)).setCell ⟨w.heap.size + 1, 4, none⟩ (.int .i64 (⟨{ n with clock := n.clock + 1 }, spreadMsgs { n with clock := n.clock + 1 } n.votes.length⟩ : NS).n.form)).setCell ⟨w.heap.size + 1, 5, none⟩ (.int .i64 (⟨{ n with clock := n.clock + 1 }, spreadMsgs { n with clock := n.clock + 1 } n.votes.length⟩ : NS).n.role)).setCell ⟨w.heap.size + 1, 6, none⟩ (.int .i64 (⟨{ n with clock := n.clock + 1 }, spreadMsgs { n with clock := n.clock + 1 } n.votes.length⟩ : NS).n.commit)).setCell ⟨w.heap.size + 1, 7, none⟩ (.slice A7 (⟨{ n with clock := n.clock + 1 }, spreadMsgs { n with clock := n.clock + 1 } n.votes.length⟩ : NS).n.votes.length k7)).setCell ⟨w.heap.size + 1, 8, none⟩ (.slice A8 (⟨{ n with clock := n.clock + 1 }, spreadMsgs { n with clock := n.clock + 1 } n.votes.length⟩ : NS).n.nxt.length k8)).setCell ⟨w.heap.size + 1, 9, none⟩ (.slice A9 (⟨{ n with clock := n.clock + 1 }, spreadMsgs { n with clock := n.clock + 1 } n.votes.length⟩ : NS).n.mtch.length k9)).setCell ⟨w.heap.size + 1, 10, none⟩ (.slice A10 (⟨{ n with clock := n.clock + 1 }, spreadMsgs { n with clock := n.clock + 1 } n.votes.length⟩ : NS).n.forms.length k10)).setCell ⟨w.heap.size + 1, 11, none⟩ (.int .i64 (⟨{ n with clock := n.clock + 1 }, spreadMsgs { n with clock := n.clock + 1 } n.votes.length⟩ : NS).n.clock)).setCell ⟨w.heap.size + 1, 12, none⟩ (.int .i64 (⟨{ n with clock := n.clock + 1 }, spreadMsgs { n with clock := n.clock + 1 } n.votes.length⟩ : NS).n.due)).heap[w.heap.size + 1]? = some (.cells #[.int .i64 (⟨{ n with clock := n.clock + 1 }, spreadMsgs { n with clock := n.clock + 1 } n.votes.length⟩ : NS).n.id, .int .i64 (⟨{ n with clock := n.clock + 1 }, spreadMsgs { n with clock := n.clock + 1 } n.votes.length⟩ : NS).n.term, .int .i64 (⟨{ n with clock := n.clock + 1 }, spreadMsgs { n with clock := n.clock + 1 } n.votes.length⟩ : NS).n.vote, .slice A3 (⟨{ n with clock := n.clock + 1 }, spreadMsgs { n with clock := n.clock + 1 } n.votes.length⟩ : NS).n.log.length k3, .int .i64 (⟨{ n with clock := n.clock + 1 }, spreadMsgs { n with clock := n.clock + 1 } n.votes.length⟩ : NS).n.form, .int .i64 (⟨{ n with clock := n.clock + 1 }, spreadMsgs { n with clock := n.clock + 1 } n.votes.length⟩ : NS).n.role, .int .i64 (⟨{ n with clock := n.clock + 1 }, spreadMsgs { n with clock := n.clock + 1 } n.votes.length⟩ : NS).n.commit, .slice A7 (⟨{ n with clock := n.clock + 1 }, spreadMsgs { n with clock := n.clock + 1 } n.votes.length⟩ : NS).n.votes.length k7, .slice A8 (⟨{ n with clock := n.clock + 1 }, spreadMsgs { n with clock := n.clock + 1 } n.votes.length⟩ : NS).n.nxt.length k8, .slice A9 (⟨{ n with clock := n.clock + 1 }, spreadMsgs { n with clock := n.clock + 1 } n.votes.length⟩ : NS).n.mtch.length k9, .slice A10 (⟨{ n with clock := n.clock + 1 }, spreadMsgs { n with clock := n.clock + 1 } n.votes.length⟩ : NS).n.forms.length k10, .int .i64 (⟨{ n with clock := n.clock + 1 }, spreadMsgs { n with clock := n.clock + 1 } n.votes.length⟩ : NS).n.clock, .int .i64 (⟨{ n with clock := n.clock + 1 }, spreadMsgs { n with clock := n.clock + 1 } n.votes.length⟩ : NS).n.due] 28 (0, 0)) := set13 HYE.out
        have far : ∀ j, w.heap.size + 2 ≤ j → ((((((((((((((we).setCell ⟨w.heap.size + 1, 0, none⟩ (.int .i64 (⟨{ n with clock := n.clock + 1 }, spreadMsgs { n with clock := n.clock + 1 } n.votes.length⟩ : NS).n.id)).setCell ⟨w.heap.size + 1, 1, none⟩ (.int .i64 (⟨{ n with clock := n.clock + 1 }, spreadMsgs { n with clock := n.clock + 1 } n.votes.length⟩ : NS).n.term)).setCell ⟨w.heap.size + 1, 2, none⟩ (.int .i64 (⟨{ n with clock := n.clock + 1 }, spreadMsgs { n with clock := n.clock + 1 } n.votes.length⟩ : NS).n.vote)).setCell ⟨w.heap.size + 1, 3, none⟩ (.slice A3 (⟨{ n with clock := n.clock + 1 }, spreadMsgs { n with clock := n.clock + 1 } n.votes.length⟩ : NS).n.log.length k3)).setCell ⟨w.heap.size + 1, 4, none⟩ (.int .i64 (⟨{ n with clock := n.clock + 1 }, spreadMsgs { n with clock := n.clock + 1 } n.votes.length⟩ : NS).n.form)).setCell ⟨w.heap.size + 1, 5, none⟩ (.int .i64 (⟨{ n with clock := n.clock + 1 }, spreadMsgs { n with clock := n.clock + 1 } n.votes.length⟩ : NS).n.role)).setCell ⟨w.heap.size + 1, 6, none⟩ (.int .i64 (⟨{ n with clock := n.clock + 1 }, spreadMsgs { n with clock := n.clock + 1 } n.votes.length⟩ : NS).n.commit)).setCell ⟨w.heap.size + 1, 7, none⟩ (.slice A7 (⟨{ n with clock := n.clock + 1 }, spreadMsgs { n with clock := n.clock + 1 } n.votes.length⟩ : NS).n.votes.length k7)).setCell ⟨w.heap.size + 1, 8, none⟩ (.slice A8 (⟨{ n with clock := n.clock + 1 }, spreadMsgs { n with clock := n.clock + 1 } n.votes.length⟩ : NS).n.nxt.length k8)).setCell ⟨w.heap.size + 1, 9, none⟩ (.slice A9 (⟨{ n with clock := n.clock + 1 }, spreadMsgs { n with clock := n.clock + 1 } n.votes.length⟩ : NS).n.mtch.length k9)).setCell ⟨w.heap.size + 1, 10, none⟩ (.slice A10 (⟨{ n with clock := n.clock + 1 }, spreadMsgs { n with clock := n.clock + 1 } n.votes.length⟩ : NS).n.forms.length k10)).setCell ⟨w.heap.size + 1, 11, none⟩ (.int .i64 (⟨{ n with clock := n.clock + 1 }, spreadMsgs { n with clock := n.clock + 1 } n.votes.length⟩ : NS).n.clock)).setCell ⟨w.heap.size + 1, 12, none⟩ (.int .i64 (⟨{ n with clock := n.clock + 1 }, spreadMsgs { n with clock := n.clock + 1 } n.votes.length⟩ : NS).n.due)).heap[j]? = we.heap[j]? := fun j hj => far13 (by omega)
        obtain ⟨wf, hwf⟩ : ∃ W, W = (((((((((((((we).setCell ⟨w.heap.size + 1, 0, none⟩ (.int .i64 (⟨{ n with clock := n.clock + 1 }, spreadMsgs { n with clock := n.clock + 1 } n.votes.length⟩ : NS).n.id)).setCell ⟨w.heap.size + 1, 1, none⟩ (.int .i64 (⟨{ n with clock := n.clock + 1 }, spreadMsgs { n with clock := n.clock + 1 } n.votes.length⟩ : NS).n.term)).setCell ⟨w.heap.size + 1, 2, none⟩ (.int .i64 (⟨{ n with clock := n.clock + 1 }, spreadMsgs { n with clock := n.clock + 1 } n.votes.length⟩ : NS).n.vote)).setCell ⟨w.heap.size + 1, 3, none⟩ (.slice A3 (⟨{ n with clock := n.clock + 1 }, spreadMsgs { n with clock := n.clock + 1 } n.votes.length⟩ : NS).n.log.length k3)).setCell ⟨w.heap.size + 1, 4, none⟩ (.int .i64 (⟨{ n with clock := n.clock + 1 }, spreadMsgs { n with clock := n.clock + 1 } n.votes.length⟩ : NS).n.form)).setCell ⟨w.heap.size + 1, 5, none⟩ (.int .i64 (⟨{ n with clock := n.clock + 1 }, spreadMsgs { n with clock := n.clock + 1 } n.votes.length⟩ : NS).n.role)).setCell ⟨w.heap.size + 1, 6, none⟩ (.int .i64 (⟨{ n with clock := n.clock + 1 }, spreadMsgs { n with clock := n.clock + 1 } n.votes.length⟩ : NS).n.commit)).setCell ⟨w.heap.size + 1, 7, none⟩ (.slice A7 (⟨{ n with clock := n.clock + 1 }, spreadMsgs { n with clock := n.clock + 1 } n.votes.length⟩ : NS).n.votes.length k7)).setCell ⟨w.heap.size + 1, 8, none⟩ (.slice A8 (⟨{ n with clock := n.clock + 1 }, spreadMsgs { n with clock := n.clock + 1 } n.votes.length⟩ : NS).n.nxt.length k8)).setCell ⟨w.heap.size + 1, 9, none⟩ (.slice A9 (⟨{ n with clock := n.clock + 1 }, spreadMsgs { n with clock := n.clock + 1 } n.votes.length⟩ : NS).n.mtch.length k9)).setCell ⟨w.heap.size + 1, 10, none⟩ (.slice A10 (⟨{ n with clock := n.clock + 1 }, spreadMsgs { n with clock := n.clock + 1 } n.votes.length⟩ : NS).n.forms.length k10)).setCell ⟨w.heap.size + 1, 11, none⟩ (.int .i64 (⟨{ n with clock := n.clock + 1 }, spreadMsgs { n with clock := n.clock + 1 } n.votes.length⟩ : NS).n.clock)).setCell ⟨w.heap.size + 1, 12, none⟩ (.int .i64 (⟨{ n with clock := n.clock + 1 }, spreadMsgs { n with clock := n.clock + 1 } n.votes.length⟩ : NS).n.due) := ⟨_, rfl⟩
        rw [← hwf] at hYf far ⊢
        have hBf : Below w.heap.size w wf := by rw [hwf]; exact below13 HBE.out (by omega)
        clear hwf
        obtain ⟨z0, z1, z2, z3, z4, z5, z6, z7, z8, z9, z10, z11, z12⟩ := MM.cells13 hYf
        refine bodyPost_ret (v := .tuple #[.agg #[.int .i64 (⟨{ n with clock := n.clock + 1 }, spreadMsgs { n with clock := n.clock + 1 } n.votes.length⟩ : NS).n.id, .int .i64 (⟨{ n with clock := n.clock + 1 }, spreadMsgs { n with clock := n.clock + 1 } n.votes.length⟩ : NS).n.term, .int .i64 (⟨{ n with clock := n.clock + 1 }, spreadMsgs { n with clock := n.clock + 1 } n.votes.length⟩ : NS).n.vote, .slice A3 (⟨{ n with clock := n.clock + 1 }, spreadMsgs { n with clock := n.clock + 1 } n.votes.length⟩ : NS).n.log.length k3, .int .i64 (⟨{ n with clock := n.clock + 1 }, spreadMsgs { n with clock := n.clock + 1 } n.votes.length⟩ : NS).n.form, .int .i64 (⟨{ n with clock := n.clock + 1 }, spreadMsgs { n with clock := n.clock + 1 } n.votes.length⟩ : NS).n.role, .int .i64 (⟨{ n with clock := n.clock + 1 }, spreadMsgs { n with clock := n.clock + 1 } n.votes.length⟩ : NS).n.commit, .slice A7 (⟨{ n with clock := n.clock + 1 }, spreadMsgs { n with clock := n.clock + 1 } n.votes.length⟩ : NS).n.votes.length k7, .slice A8 (⟨{ n with clock := n.clock + 1 }, spreadMsgs { n with clock := n.clock + 1 } n.votes.length⟩ : NS).n.nxt.length k8, .slice A9 (⟨{ n with clock := n.clock + 1 }, spreadMsgs { n with clock := n.clock + 1 } n.votes.length⟩ : NS).n.mtch.length k9, .slice A10 (⟨{ n with clock := n.clock + 1 }, spreadMsgs { n with clock := n.clock + 1 } n.votes.length⟩ : NS).n.forms.length k10, .int .i64 (⟨{ n with clock := n.clock + 1 }, spreadMsgs { n with clock := n.clock + 1 } n.votes.length⟩ : NS).n.clock, .int .i64 (⟨{ n with clock := n.clock + 1 }, spreadMsgs { n with clock := n.clock + 1 } n.votes.length⟩ : NS).n.due], .slice Ao (⟨{ n with clock := n.clock + 1 }, spreadMsgs { n with clock := n.clock + 1 } n.votes.length⟩ : NS).out.length ko]) (by simp [results, Try.results25, go_sem, z0, z1, z2, z3, z4, z5, z6, z7, z8, z9, z10, z11, z12]) rfl ⟨A3, k3, A7, k7, A8, k8, A9, k9, A10, k10, Ao, ko, rfl, (HNV.out.step fun j hj _ => far j hj).mono fun j hj _ => (by have : w.heap.size + 2 ≤ j := hj; omega), (HMS.out.step fun j hj _ => far j hj).mono fun j hj _ => (by have : w.heap.size + 2 ≤ j := hj; omega), hBf⟩
      · have heb : ((n.clock + 1).tmod 2 == 0) = false := by simp [he]
        have HE := Lib.hid he
        clear he
        obtain rfl : s1 = ⟨{ n with clock := n.clock + 1 }, []⟩ := by rw [HS.out, if_neg hin2.out, if_pos HR.out, if_neg HE.out]
        go_wp2_with fail
        refine (end_shape _ (w.heap.size + 2) g _ _ HN2.out (by simp)).mono ?_
        rintro e we ⟨A3, k3, A7, k7, A8, k8, A9, k9, A10, k10, Ao, ko, rfl, hnv, hms, hbe⟩
        have hYe := (hbe.block (w.heap.size + 1) (by have := MM.blk_lt HY2.out; omega)).trans HY2.out
        have hBe := HB2.out.trans (hbe.mono (by have := HN2.out.Bsize; omega))
        clear hbe
        obtain ⟨y0, y1, y2, y3, y4, y5, y6, y7, y8, y9, y10, y11, y12⟩ := MM.cells13 hYe
        obtain ⟨g0, g1, g2, g3, g4, g5, g6, g7, g8, g9, g10, g11, g12⟩ := MM.frees13 hYe
        have HYE := Lib.hid hYe
        have HBE := Lib.hid hBe
        have HNV := Lib.hid hnv
        have HMS := Lib.hid hms
        clear hYe hBe hnv hms
        go_wp2_with fail
        have hYf : ((((((((((((((we).setCell ⟨w.heap.size + 1, 0, none⟩ (.int .i64 (⟨{ n with clock := n.clock + 1 }, []⟩ : NS).n.id)).setCell ⟨w.heap.size + 1, 1, none⟩ (.int .i64 (⟨{ n with clock := n.clock + 1 }, []⟩ : NS).n.term)).setCell ⟨w.heap.size + 1, 2, none⟩ (.int .i64 (⟨{ n with clock := n.clock + 1 }, []⟩ : NS).n.vote)).setCell ⟨w.heap.size + 1, 3, none⟩ (.slice A3 (⟨{ n with clock := n.clock + 1 }, []⟩ : NS).n.log.length k3)).setCell ⟨w.heap.size + 1, 4, none⟩ (.int .i64 (⟨{ n with clock := n.clock + 1 }, []⟩ : NS).n.form)).setCell ⟨w.heap.size + 1, 5, none⟩ (.int .i64 (⟨{ n with clock := n.clock + 1 }, []⟩ : NS).n.role)).setCell ⟨w.heap.size + 1, 6, none⟩ (.int .i64 (⟨{ n with clock := n.clock + 1 }, []⟩ : NS).n.commit)).setCell ⟨w.heap.size + 1, 7, none⟩ (.slice A7 (⟨{ n with clock := n.clock + 1 }, []⟩ : NS).n.votes.length k7)).setCell ⟨w.heap.size + 1, 8, none⟩ (.slice A8 (⟨{ n with clock := n.clock + 1 }, []⟩ : NS).n.nxt.length k8)).setCell ⟨w.heap.size + 1, 9, none⟩ (.slice A9 (⟨{ n with clock := n.clock + 1 }, []⟩ : NS).n.mtch.length k9)).setCell ⟨w.heap.size + 1, 10, none⟩ (.slice A10 (⟨{ n with clock := n.clock + 1 }, []⟩ : NS).n.forms.length k10)).setCell ⟨w.heap.size + 1, 11, none⟩ (.int .i64 (⟨{ n with clock := n.clock + 1 }, []⟩ : NS).n.clock)).setCell ⟨w.heap.size + 1, 12, none⟩ (.int .i64 (⟨{ n with clock := n.clock + 1 }, []⟩ : NS).n.due)).heap[w.heap.size + 1]? = some (.cells #[.int .i64 (⟨{ n with clock := n.clock + 1 }, []⟩ : NS).n.id, .int .i64 (⟨{ n with clock := n.clock + 1 }, []⟩ : NS).n.term, .int .i64 (⟨{ n with clock := n.clock + 1 }, []⟩ : NS).n.vote, .slice A3 (⟨{ n with clock := n.clock + 1 }, []⟩ : NS).n.log.length k3, .int .i64 (⟨{ n with clock := n.clock + 1 }, []⟩ : NS).n.form, .int .i64 (⟨{ n with clock := n.clock + 1 }, []⟩ : NS).n.role, .int .i64 (⟨{ n with clock := n.clock + 1 }, []⟩ : NS).n.commit, .slice A7 (⟨{ n with clock := n.clock + 1 }, []⟩ : NS).n.votes.length k7, .slice A8 (⟨{ n with clock := n.clock + 1 }, []⟩ : NS).n.nxt.length k8, .slice A9 (⟨{ n with clock := n.clock + 1 }, []⟩ : NS).n.mtch.length k9, .slice A10 (⟨{ n with clock := n.clock + 1 }, []⟩ : NS).n.forms.length k10, .int .i64 (⟨{ n with clock := n.clock + 1 }, []⟩ : NS).n.clock, .int .i64 (⟨{ n with clock := n.clock + 1 }, []⟩ : NS).n.due] 28 (0, 0)) := set13 HYE.out
        have far : ∀ j, w.heap.size + 2 ≤ j → ((((((((((((((we).setCell ⟨w.heap.size + 1, 0, none⟩ (.int .i64 (⟨{ n with clock := n.clock + 1 }, []⟩ : NS).n.id)).setCell ⟨w.heap.size + 1, 1, none⟩ (.int .i64 (⟨{ n with clock := n.clock + 1 }, []⟩ : NS).n.term)).setCell ⟨w.heap.size + 1, 2, none⟩ (.int .i64 (⟨{ n with clock := n.clock + 1 }, []⟩ : NS).n.vote)).setCell ⟨w.heap.size + 1, 3, none⟩ (.slice A3 (⟨{ n with clock := n.clock + 1 }, []⟩ : NS).n.log.length k3)).setCell ⟨w.heap.size + 1, 4, none⟩ (.int .i64 (⟨{ n with clock := n.clock + 1 }, []⟩ : NS).n.form)).setCell ⟨w.heap.size + 1, 5, none⟩ (.int .i64 (⟨{ n with clock := n.clock + 1 }, []⟩ : NS).n.role)).setCell ⟨w.heap.size + 1, 6, none⟩ (.int .i64 (⟨{ n with clock := n.clock + 1 }, []⟩ : NS).n.commit)).setCell ⟨w.heap.size + 1, 7, none⟩ (.slice A7 (⟨{ n with clock := n.clock + 1 }, []⟩ : NS).n.votes.length k7)).setCell ⟨w.heap.size + 1, 8, none⟩ (.slice A8 (⟨{ n with clock := n.clock + 1 }, []⟩ : NS).n.nxt.length k8)).setCell ⟨w.heap.size + 1, 9, none⟩ (.slice A9 (⟨{ n with clock := n.clock + 1 }, []⟩ : NS).n.mtch.length k9)).setCell ⟨w.heap.size + 1, 10, none⟩ (.slice A10 (⟨{ n with clock := n.clock + 1 }, []⟩ : NS).n.forms.length k10)).setCell ⟨w.heap.size + 1, 11, none⟩ (.int .i64 (⟨{ n with clock := n.clock + 1 }, []⟩ : NS).n.clock)).setCell ⟨w.heap.size + 1, 12, none⟩ (.int .i64 (⟨{ n with clock := n.clock + 1 }, []⟩ : NS).n.due)).heap[j]? = we.heap[j]? := fun j hj => far13 (by omega)
        obtain ⟨wf, hwf⟩ : ∃ W, W = (((((((((((((we).setCell ⟨w.heap.size + 1, 0, none⟩ (.int .i64 (⟨{ n with clock := n.clock + 1 }, []⟩ : NS).n.id)).setCell ⟨w.heap.size + 1, 1, none⟩ (.int .i64 (⟨{ n with clock := n.clock + 1 }, []⟩ : NS).n.term)).setCell ⟨w.heap.size + 1, 2, none⟩ (.int .i64 (⟨{ n with clock := n.clock + 1 }, []⟩ : NS).n.vote)).setCell ⟨w.heap.size + 1, 3, none⟩ (.slice A3 (⟨{ n with clock := n.clock + 1 }, []⟩ : NS).n.log.length k3)).setCell ⟨w.heap.size + 1, 4, none⟩ (.int .i64 (⟨{ n with clock := n.clock + 1 }, []⟩ : NS).n.form)).setCell ⟨w.heap.size + 1, 5, none⟩ (.int .i64 (⟨{ n with clock := n.clock + 1 }, []⟩ : NS).n.role)).setCell ⟨w.heap.size + 1, 6, none⟩ (.int .i64 (⟨{ n with clock := n.clock + 1 }, []⟩ : NS).n.commit)).setCell ⟨w.heap.size + 1, 7, none⟩ (.slice A7 (⟨{ n with clock := n.clock + 1 }, []⟩ : NS).n.votes.length k7)).setCell ⟨w.heap.size + 1, 8, none⟩ (.slice A8 (⟨{ n with clock := n.clock + 1 }, []⟩ : NS).n.nxt.length k8)).setCell ⟨w.heap.size + 1, 9, none⟩ (.slice A9 (⟨{ n with clock := n.clock + 1 }, []⟩ : NS).n.mtch.length k9)).setCell ⟨w.heap.size + 1, 10, none⟩ (.slice A10 (⟨{ n with clock := n.clock + 1 }, []⟩ : NS).n.forms.length k10)).setCell ⟨w.heap.size + 1, 11, none⟩ (.int .i64 (⟨{ n with clock := n.clock + 1 }, []⟩ : NS).n.clock)).setCell ⟨w.heap.size + 1, 12, none⟩ (.int .i64 (⟨{ n with clock := n.clock + 1 }, []⟩ : NS).n.due) := ⟨_, rfl⟩
        rw [← hwf] at hYf far ⊢
        have hBf : Below w.heap.size w wf := by rw [hwf]; exact below13 HBE.out (by omega)
        clear hwf
        obtain ⟨z0, z1, z2, z3, z4, z5, z6, z7, z8, z9, z10, z11, z12⟩ := MM.cells13 hYf
        refine bodyPost_ret (v := .tuple #[.agg #[.int .i64 (⟨{ n with clock := n.clock + 1 }, []⟩ : NS).n.id, .int .i64 (⟨{ n with clock := n.clock + 1 }, []⟩ : NS).n.term, .int .i64 (⟨{ n with clock := n.clock + 1 }, []⟩ : NS).n.vote, .slice A3 (⟨{ n with clock := n.clock + 1 }, []⟩ : NS).n.log.length k3, .int .i64 (⟨{ n with clock := n.clock + 1 }, []⟩ : NS).n.form, .int .i64 (⟨{ n with clock := n.clock + 1 }, []⟩ : NS).n.role, .int .i64 (⟨{ n with clock := n.clock + 1 }, []⟩ : NS).n.commit, .slice A7 (⟨{ n with clock := n.clock + 1 }, []⟩ : NS).n.votes.length k7, .slice A8 (⟨{ n with clock := n.clock + 1 }, []⟩ : NS).n.nxt.length k8, .slice A9 (⟨{ n with clock := n.clock + 1 }, []⟩ : NS).n.mtch.length k9, .slice A10 (⟨{ n with clock := n.clock + 1 }, []⟩ : NS).n.forms.length k10, .int .i64 (⟨{ n with clock := n.clock + 1 }, []⟩ : NS).n.clock, .int .i64 (⟨{ n with clock := n.clock + 1 }, []⟩ : NS).n.due], .slice Ao (⟨{ n with clock := n.clock + 1 }, []⟩ : NS).out.length ko]) (by simp [results, Try.results25, go_sem, z0, z1, z2, z3, z4, z5, z6, z7, z8, z9, z10, z11, z12]) rfl ⟨A3, k3, A7, k7, A8, k8, A9, k9, A10, k10, Ao, ko, rfl, (HNV.out.step fun j hj _ => far j hj).mono fun j hj _ => (by have : w.heap.size + 2 ≤ j := hj; omega), (HMS.out.step fun j hj _ => far j hj).mono fun j hj _ => (by have : w.heap.size + 2 ≤ j := hj; omega), hBf⟩
    · have hrb : (n.role == 2) = false := by simp [hr]
      have HR := Lib.hid hr
      clear hr
      go_wp2_with fail
      refine Go.RT.wp_region_tree [0, 1, 3, 7, 15, 0, 32, 96, 224, 480, 1023, 2047] (.p 0 (.p 1 (.p 2 (.p 3 (.s 4 (.p 5 (.p 6 (.p 7 (.p 8 (.s 9 (.p 10 (.w 11 [] .nil .stop)))))))))))) (by kernel_rfl) (by kernel_rfl) ?_
      (refine Go.RT.step_p rfl (fun K hK => ?_); go_simp; refine hK _ ?_; clear hK K)
      (refine Go.RT.step_p rfl (fun K hK => ?_); go_simp; refine hK _ ?_; clear hK K)
      (refine Go.RT.step_p rfl (fun K hK => ?_); go_simp; refine hK _ ?_; clear hK K)
      (refine Go.RT.step_p rfl (fun K hK => ?_); go_simp; refine hK _ ?_; clear hK K)
      (refine Go.RT.step_s rfl (fun K hK => ?_); go_simp; refine hK _ ?_; clear hK K)
      (refine Go.RT.step_p rfl (fun K hK => ?_); go_simp; refine hK _ ?_; clear hK K)
      (refine Go.RT.step_p rfl (fun K hK => ?_); go_simp; refine hK _ ?_; clear hK K)
      (refine Go.RT.step_p rfl (fun K hK => ?_); go_simp; refine hK _ ?_; clear hK K)
      (refine Go.RT.step_p rfl (fun K hK => ?_); go_simp; refine hK _ ?_; clear hK K)
      (refine Go.RT.step_s rfl (fun K hK => ?_); go_simp; refine hK _ ?_; clear hK K)
      (refine Go.RT.step_p rfl (fun K hK => ?_); go_simp; refine hK _ ?_; clear hK K)
      (refine Go.RT.step_w rfl rfl (fun K hK => ?_) Go.RT.step_stop)
      go_wp2
      refine Go.RT.QK_normal _ _ _ _ (hK _ _ ?_ ?_) <;> clear hK K
      · exact Go.RT.again_nil
      refine Go.RT.step_nil ?_
      have hN3 := HN2.out.drew
      have hB3 := HB2.out.drew
      have hY3 : (w2.drew).heap[w.heap.size + 1]? = _ := HY2.out
      obtain ⟨w3, hw3⟩ : ∃ W, W = w2.drew := ⟨_, rfl⟩
      rw [← hw3] at hN3 hB3 hY3 ⊢
      have HN3 := Lib.hid hN3
      have HB3 := Lib.hid hB3
      have HY3 := Lib.hid hY3
      clear hw3 hN3 hB3 hY3 c0 c5 c11 c12
      by_cases hd : n.due ≤ n.clock + 1
      · have hdb : decide (n.due ≤ n.clock + 1) = true := by simpa using hd
        have HD := Lib.hid hd
        obtain rfl : s1 = standS ⟨{ n with clock := n.clock + 1 }, []⟩ := by rw [HS.out, if_neg hin2.out, if_neg HR.out, if_pos HD.out]
        go_wp2_with fail
        clear hd
        refine (stand_any _ (w.heap.size + 2) g _ _ HN3.out (by simp) (by show n.log.length ≤ 900000; omega) l2 HIN.out.1 HIN.out.2 ht0 ht1 (by show -1000000000 ≤ n.clock + 1; omega) (by show n.clock + 1 ≤ 1000000000; omega)).mono ?_
        rintro e w4 ⟨μ4, rfl, hn4, hb4⟩
        have HN4 := Lib.hid hn4
        have HY4 := Lib.hid ((hb4.block (w.heap.size + 1) (by omega)).trans HY3.out)
        have HB4 := Lib.hid (HB3.out.trans (hb4.mono (by omega)))
        clear hn4 hb4
        go_wp2_with fail
        refine (end_shape _ (w.heap.size + 2) g _ _ HN4.out (standS_out { n with clock := n.clock + 1 } l2)).mono ?_
        rintro e we ⟨A3, k3, A7, k7, A8, k8, A9, k9, A10, k10, Ao, ko, rfl, hnv, hms, hbe⟩
        have hYe := (hbe.block (w.heap.size + 1) (by have := MM.blk_lt HY4.out; omega)).trans HY4.out
        have hBe := HB4.out.trans (hbe.mono (by have := HN4.out.Bsize; omega))
        clear hbe
        obtain ⟨y0, y1, y2, y3, y4, y5, y6, y7, y8, y9, y10, y11, y12⟩ := MM.cells13 hYe
        obtain ⟨g0, g1, g2, g3, g4, g5, g6, g7, g8, g9, g10, g11, g12⟩ := MM.frees13 hYe
        have HYE := Lib.hid hYe
        have HBE := Lib.hid hBe
        have HNV := Lib.hid hnv
        have HMS := Lib.hid hms
        clear hYe hBe hnv hms
        go_wp2_with fail
        have hYf : ((((((((((((((we).setCell ⟨w.heap.size + 1, 0, none⟩ (.int .i64 (standS ⟨{ n with clock := n.clock + 1 }, []⟩).n.id)).setCell ⟨w.heap.size + 1, 1, none⟩ (.int .i64 (standS ⟨{ n with clock := n.clock + 1 }, []⟩).n.term)).setCell ⟨w.heap.size + 1, 2, none⟩ (.int .i64 (standS ⟨{ n with clock := n.clock + 1 }, []⟩).n.vote)).setCell ⟨w.heap.size + 1, 3, none⟩ (.slice A3 (standS ⟨{ n with clock := n.clock + 1 }, []⟩).n.log.length k3)).setCell ⟨w.heap.size + 1, 4, none⟩ (.int .i64 (standS ⟨{ n with clock := n.clock + 1 }, []⟩).n.form)).setCell ⟨w.heap.size + 1, 5, none⟩ (.int .i64 (standS ⟨{ n with clock := n.clock + 1 }, []⟩).n.role)).setCell ⟨w.heap.size + 1, 6, none⟩ (.int .i64 (standS ⟨{ n with clock := n.clock + 1 }, []⟩).n.commit)).setCell ⟨w.heap.size + 1, 7, none⟩ (.slice A7 (standS ⟨{ n with clock := n.clock + 1 }, []⟩).n.votes.length k7)).setCell ⟨w.heap.size + 1, 8, none⟩ (.slice A8 (standS ⟨{ n with clock := n.clock + 1 }, []⟩).n.nxt.length k8)).setCell ⟨w.heap.size + 1, 9, none⟩ (.slice A9 (standS ⟨{ n with clock := n.clock + 1 }, []⟩).n.mtch.length k9)).setCell ⟨w.heap.size + 1, 10, none⟩ (.slice A10 (standS ⟨{ n with clock := n.clock + 1 }, []⟩).n.forms.length k10)).setCell ⟨w.heap.size + 1, 11, none⟩ (.int .i64 (standS ⟨{ n with clock := n.clock + 1 }, []⟩).n.clock)).setCell ⟨w.heap.size + 1, 12, none⟩ (.int .i64 (standS ⟨{ n with clock := n.clock + 1 }, []⟩).n.due)).heap[w.heap.size + 1]? = some (.cells #[.int .i64 (standS ⟨{ n with clock := n.clock + 1 }, []⟩).n.id, .int .i64 (standS ⟨{ n with clock := n.clock + 1 }, []⟩).n.term, .int .i64 (standS ⟨{ n with clock := n.clock + 1 }, []⟩).n.vote, .slice A3 (standS ⟨{ n with clock := n.clock + 1 }, []⟩).n.log.length k3, .int .i64 (standS ⟨{ n with clock := n.clock + 1 }, []⟩).n.form, .int .i64 (standS ⟨{ n with clock := n.clock + 1 }, []⟩).n.role, .int .i64 (standS ⟨{ n with clock := n.clock + 1 }, []⟩).n.commit, .slice A7 (standS ⟨{ n with clock := n.clock + 1 }, []⟩).n.votes.length k7, .slice A8 (standS ⟨{ n with clock := n.clock + 1 }, []⟩).n.nxt.length k8, .slice A9 (standS ⟨{ n with clock := n.clock + 1 }, []⟩).n.mtch.length k9, .slice A10 (standS ⟨{ n with clock := n.clock + 1 }, []⟩).n.forms.length k10, .int .i64 (standS ⟨{ n with clock := n.clock + 1 }, []⟩).n.clock, .int .i64 (standS ⟨{ n with clock := n.clock + 1 }, []⟩).n.due] 28 (0, 0)) := set13 HYE.out
        have far : ∀ j, w.heap.size + 2 ≤ j → ((((((((((((((we).setCell ⟨w.heap.size + 1, 0, none⟩ (.int .i64 (standS ⟨{ n with clock := n.clock + 1 }, []⟩).n.id)).setCell ⟨w.heap.size + 1, 1, none⟩ (.int .i64 (standS ⟨{ n with clock := n.clock + 1 }, []⟩).n.term)).setCell ⟨w.heap.size + 1, 2, none⟩ (.int .i64 (standS ⟨{ n with clock := n.clock + 1 }, []⟩).n.vote)).setCell ⟨w.heap.size + 1, 3, none⟩ (.slice A3 (standS ⟨{ n with clock := n.clock + 1 }, []⟩).n.log.length k3)).setCell ⟨w.heap.size + 1, 4, none⟩ (.int .i64 (standS ⟨{ n with clock := n.clock + 1 }, []⟩).n.form)).setCell ⟨w.heap.size + 1, 5, none⟩ (.int .i64 (standS ⟨{ n with clock := n.clock + 1 }, []⟩).n.role)).setCell ⟨w.heap.size + 1, 6, none⟩ (.int .i64 (standS ⟨{ n with clock := n.clock + 1 }, []⟩).n.commit)).setCell ⟨w.heap.size + 1, 7, none⟩ (.slice A7 (standS ⟨{ n with clock := n.clock + 1 }, []⟩).n.votes.length k7)).setCell ⟨w.heap.size + 1, 8, none⟩ (.slice A8 (standS ⟨{ n with clock := n.clock + 1 }, []⟩).n.nxt.length k8)).setCell ⟨w.heap.size + 1, 9, none⟩ (.slice A9 (standS ⟨{ n with clock := n.clock + 1 }, []⟩).n.mtch.length k9)).setCell ⟨w.heap.size + 1, 10, none⟩ (.slice A10 (standS ⟨{ n with clock := n.clock + 1 }, []⟩).n.forms.length k10)).setCell ⟨w.heap.size + 1, 11, none⟩ (.int .i64 (standS ⟨{ n with clock := n.clock + 1 }, []⟩).n.clock)).setCell ⟨w.heap.size + 1, 12, none⟩ (.int .i64 (standS ⟨{ n with clock := n.clock + 1 }, []⟩).n.due)).heap[j]? = we.heap[j]? := fun j hj => far13 (by omega)
        obtain ⟨wf, hwf⟩ : ∃ W, W = (((((((((((((we).setCell ⟨w.heap.size + 1, 0, none⟩ (.int .i64 (standS ⟨{ n with clock := n.clock + 1 }, []⟩).n.id)).setCell ⟨w.heap.size + 1, 1, none⟩ (.int .i64 (standS ⟨{ n with clock := n.clock + 1 }, []⟩).n.term)).setCell ⟨w.heap.size + 1, 2, none⟩ (.int .i64 (standS ⟨{ n with clock := n.clock + 1 }, []⟩).n.vote)).setCell ⟨w.heap.size + 1, 3, none⟩ (.slice A3 (standS ⟨{ n with clock := n.clock + 1 }, []⟩).n.log.length k3)).setCell ⟨w.heap.size + 1, 4, none⟩ (.int .i64 (standS ⟨{ n with clock := n.clock + 1 }, []⟩).n.form)).setCell ⟨w.heap.size + 1, 5, none⟩ (.int .i64 (standS ⟨{ n with clock := n.clock + 1 }, []⟩).n.role)).setCell ⟨w.heap.size + 1, 6, none⟩ (.int .i64 (standS ⟨{ n with clock := n.clock + 1 }, []⟩).n.commit)).setCell ⟨w.heap.size + 1, 7, none⟩ (.slice A7 (standS ⟨{ n with clock := n.clock + 1 }, []⟩).n.votes.length k7)).setCell ⟨w.heap.size + 1, 8, none⟩ (.slice A8 (standS ⟨{ n with clock := n.clock + 1 }, []⟩).n.nxt.length k8)).setCell ⟨w.heap.size + 1, 9, none⟩ (.slice A9 (standS ⟨{ n with clock := n.clock + 1 }, []⟩).n.mtch.length k9)).setCell ⟨w.heap.size + 1, 10, none⟩ (.slice A10 (standS ⟨{ n with clock := n.clock + 1 }, []⟩).n.forms.length k10)).setCell ⟨w.heap.size + 1, 11, none⟩ (.int .i64 (standS ⟨{ n with clock := n.clock + 1 }, []⟩).n.clock)).setCell ⟨w.heap.size + 1, 12, none⟩ (.int .i64 (standS ⟨{ n with clock := n.clock + 1 }, []⟩).n.due) := ⟨_, rfl⟩
        rw [← hwf] at hYf far ⊢
        have hBf : Below w.heap.size w wf := by rw [hwf]; exact below13 HBE.out (by omega)
        clear hwf
        obtain ⟨z0, z1, z2, z3, z4, z5, z6, z7, z8, z9, z10, z11, z12⟩ := MM.cells13 hYf
        refine bodyPost_ret (v := .tuple #[.agg #[.int .i64 (standS ⟨{ n with clock := n.clock + 1 }, []⟩).n.id, .int .i64 (standS ⟨{ n with clock := n.clock + 1 }, []⟩).n.term, .int .i64 (standS ⟨{ n with clock := n.clock + 1 }, []⟩).n.vote, .slice A3 (standS ⟨{ n with clock := n.clock + 1 }, []⟩).n.log.length k3, .int .i64 (standS ⟨{ n with clock := n.clock + 1 }, []⟩).n.form, .int .i64 (standS ⟨{ n with clock := n.clock + 1 }, []⟩).n.role, .int .i64 (standS ⟨{ n with clock := n.clock + 1 }, []⟩).n.commit, .slice A7 (standS ⟨{ n with clock := n.clock + 1 }, []⟩).n.votes.length k7, .slice A8 (standS ⟨{ n with clock := n.clock + 1 }, []⟩).n.nxt.length k8, .slice A9 (standS ⟨{ n with clock := n.clock + 1 }, []⟩).n.mtch.length k9, .slice A10 (standS ⟨{ n with clock := n.clock + 1 }, []⟩).n.forms.length k10, .int .i64 (standS ⟨{ n with clock := n.clock + 1 }, []⟩).n.clock, .int .i64 (standS ⟨{ n with clock := n.clock + 1 }, []⟩).n.due], .slice Ao (standS ⟨{ n with clock := n.clock + 1 }, []⟩).out.length ko]) (by simp [results, Try.results25, go_sem, z0, z1, z2, z3, z4, z5, z6, z7, z8, z9, z10, z11, z12]) rfl ⟨A3, k3, A7, k7, A8, k8, A9, k9, A10, k10, Ao, ko, rfl, (HNV.out.step fun j hj _ => far j hj).mono fun j hj _ => (by have : w.heap.size + 2 ≤ j := hj; omega), (HMS.out.step fun j hj _ => far j hj).mono fun j hj _ => (by have : w.heap.size + 2 ≤ j := hj; omega), hBf⟩
      · have hdb : decide (n.due ≤ n.clock + 1) = false := by simpa using hd
        have HD := Lib.hid hd
        clear hd
        obtain rfl : s1 = ⟨{ n with clock := n.clock + 1 }, []⟩ := by rw [HS.out, if_neg hin2.out, if_neg HR.out, if_neg HD.out]
        go_wp2_with fail
        refine (end_shape _ (w.heap.size + 2) g _ _ HN3.out (by simp)).mono ?_
        rintro e we ⟨A3, k3, A7, k7, A8, k8, A9, k9, A10, k10, Ao, ko, rfl, hnv, hms, hbe⟩
        have hYe := (hbe.block (w.heap.size + 1) (by have := MM.blk_lt HY3.out; omega)).trans HY3.out
        have hBe := HB3.out.trans (hbe.mono (by have := HN3.out.Bsize; omega))
        clear hbe
        obtain ⟨y0, y1, y2, y3, y4, y5, y6, y7, y8, y9, y10, y11, y12⟩ := MM.cells13 hYe
        obtain ⟨g0, g1, g2, g3, g4, g5, g6, g7, g8, g9, g10, g11, g12⟩ := MM.frees13 hYe
        have HYE := Lib.hid hYe
        have HBE := Lib.hid hBe
        have HNV := Lib.hid hnv
        have HMS := Lib.hid hms
        clear hYe hBe hnv hms
        go_wp2_with fail
        have hYf : ((((((((((((((we).setCell ⟨w.heap.size + 1, 0, none⟩ (.int .i64 (⟨{ n with clock := n.clock + 1 }, []⟩ : NS).n.id)).setCell ⟨w.heap.size + 1, 1, none⟩ (.int .i64 (⟨{ n with clock := n.clock + 1 }, []⟩ : NS).n.term)).setCell ⟨w.heap.size + 1, 2, none⟩ (.int .i64 (⟨{ n with clock := n.clock + 1 }, []⟩ : NS).n.vote)).setCell ⟨w.heap.size + 1, 3, none⟩ (.slice A3 (⟨{ n with clock := n.clock + 1 }, []⟩ : NS).n.log.length k3)).setCell ⟨w.heap.size + 1, 4, none⟩ (.int .i64 (⟨{ n with clock := n.clock + 1 }, []⟩ : NS).n.form)).setCell ⟨w.heap.size + 1, 5, none⟩ (.int .i64 (⟨{ n with clock := n.clock + 1 }, []⟩ : NS).n.role)).setCell ⟨w.heap.size + 1, 6, none⟩ (.int .i64 (⟨{ n with clock := n.clock + 1 }, []⟩ : NS).n.commit)).setCell ⟨w.heap.size + 1, 7, none⟩ (.slice A7 (⟨{ n with clock := n.clock + 1 }, []⟩ : NS).n.votes.length k7)).setCell ⟨w.heap.size + 1, 8, none⟩ (.slice A8 (⟨{ n with clock := n.clock + 1 }, []⟩ : NS).n.nxt.length k8)).setCell ⟨w.heap.size + 1, 9, none⟩ (.slice A9 (⟨{ n with clock := n.clock + 1 }, []⟩ : NS).n.mtch.length k9)).setCell ⟨w.heap.size + 1, 10, none⟩ (.slice A10 (⟨{ n with clock := n.clock + 1 }, []⟩ : NS).n.forms.length k10)).setCell ⟨w.heap.size + 1, 11, none⟩ (.int .i64 (⟨{ n with clock := n.clock + 1 }, []⟩ : NS).n.clock)).setCell ⟨w.heap.size + 1, 12, none⟩ (.int .i64 (⟨{ n with clock := n.clock + 1 }, []⟩ : NS).n.due)).heap[w.heap.size + 1]? = some (.cells #[.int .i64 (⟨{ n with clock := n.clock + 1 }, []⟩ : NS).n.id, .int .i64 (⟨{ n with clock := n.clock + 1 }, []⟩ : NS).n.term, .int .i64 (⟨{ n with clock := n.clock + 1 }, []⟩ : NS).n.vote, .slice A3 (⟨{ n with clock := n.clock + 1 }, []⟩ : NS).n.log.length k3, .int .i64 (⟨{ n with clock := n.clock + 1 }, []⟩ : NS).n.form, .int .i64 (⟨{ n with clock := n.clock + 1 }, []⟩ : NS).n.role, .int .i64 (⟨{ n with clock := n.clock + 1 }, []⟩ : NS).n.commit, .slice A7 (⟨{ n with clock := n.clock + 1 }, []⟩ : NS).n.votes.length k7, .slice A8 (⟨{ n with clock := n.clock + 1 }, []⟩ : NS).n.nxt.length k8, .slice A9 (⟨{ n with clock := n.clock + 1 }, []⟩ : NS).n.mtch.length k9, .slice A10 (⟨{ n with clock := n.clock + 1 }, []⟩ : NS).n.forms.length k10, .int .i64 (⟨{ n with clock := n.clock + 1 }, []⟩ : NS).n.clock, .int .i64 (⟨{ n with clock := n.clock + 1 }, []⟩ : NS).n.due] 28 (0, 0)) := set13 HYE.out
        have far : ∀ j, w.heap.size + 2 ≤ j → ((((((((((((((we).setCell ⟨w.heap.size + 1, 0, none⟩ (.int .i64 (⟨{ n with clock := n.clock + 1 }, []⟩ : NS).n.id)).setCell ⟨w.heap.size + 1, 1, none⟩ (.int .i64 (⟨{ n with clock := n.clock + 1 }, []⟩ : NS).n.term)).setCell ⟨w.heap.size + 1, 2, none⟩ (.int .i64 (⟨{ n with clock := n.clock + 1 }, []⟩ : NS).n.vote)).setCell ⟨w.heap.size + 1, 3, none⟩ (.slice A3 (⟨{ n with clock := n.clock + 1 }, []⟩ : NS).n.log.length k3)).setCell ⟨w.heap.size + 1, 4, none⟩ (.int .i64 (⟨{ n with clock := n.clock + 1 }, []⟩ : NS).n.form)).setCell ⟨w.heap.size + 1, 5, none⟩ (.int .i64 (⟨{ n with clock := n.clock + 1 }, []⟩ : NS).n.role)).setCell ⟨w.heap.size + 1, 6, none⟩ (.int .i64 (⟨{ n with clock := n.clock + 1 }, []⟩ : NS).n.commit)).setCell ⟨w.heap.size + 1, 7, none⟩ (.slice A7 (⟨{ n with clock := n.clock + 1 }, []⟩ : NS).n.votes.length k7)).setCell ⟨w.heap.size + 1, 8, none⟩ (.slice A8 (⟨{ n with clock := n.clock + 1 }, []⟩ : NS).n.nxt.length k8)).setCell ⟨w.heap.size + 1, 9, none⟩ (.slice A9 (⟨{ n with clock := n.clock + 1 }, []⟩ : NS).n.mtch.length k9)).setCell ⟨w.heap.size + 1, 10, none⟩ (.slice A10 (⟨{ n with clock := n.clock + 1 }, []⟩ : NS).n.forms.length k10)).setCell ⟨w.heap.size + 1, 11, none⟩ (.int .i64 (⟨{ n with clock := n.clock + 1 }, []⟩ : NS).n.clock)).setCell ⟨w.heap.size + 1, 12, none⟩ (.int .i64 (⟨{ n with clock := n.clock + 1 }, []⟩ : NS).n.due)).heap[j]? = we.heap[j]? := fun j hj => far13 (by omega)
        obtain ⟨wf, hwf⟩ : ∃ W, W = (((((((((((((we).setCell ⟨w.heap.size + 1, 0, none⟩ (.int .i64 (⟨{ n with clock := n.clock + 1 }, []⟩ : NS).n.id)).setCell ⟨w.heap.size + 1, 1, none⟩ (.int .i64 (⟨{ n with clock := n.clock + 1 }, []⟩ : NS).n.term)).setCell ⟨w.heap.size + 1, 2, none⟩ (.int .i64 (⟨{ n with clock := n.clock + 1 }, []⟩ : NS).n.vote)).setCell ⟨w.heap.size + 1, 3, none⟩ (.slice A3 (⟨{ n with clock := n.clock + 1 }, []⟩ : NS).n.log.length k3)).setCell ⟨w.heap.size + 1, 4, none⟩ (.int .i64 (⟨{ n with clock := n.clock + 1 }, []⟩ : NS).n.form)).setCell ⟨w.heap.size + 1, 5, none⟩ (.int .i64 (⟨{ n with clock := n.clock + 1 }, []⟩ : NS).n.role)).setCell ⟨w.heap.size + 1, 6, none⟩ (.int .i64 (⟨{ n with clock := n.clock + 1 }, []⟩ : NS).n.commit)).setCell ⟨w.heap.size + 1, 7, none⟩ (.slice A7 (⟨{ n with clock := n.clock + 1 }, []⟩ : NS).n.votes.length k7)).setCell ⟨w.heap.size + 1, 8, none⟩ (.slice A8 (⟨{ n with clock := n.clock + 1 }, []⟩ : NS).n.nxt.length k8)).setCell ⟨w.heap.size + 1, 9, none⟩ (.slice A9 (⟨{ n with clock := n.clock + 1 }, []⟩ : NS).n.mtch.length k9)).setCell ⟨w.heap.size + 1, 10, none⟩ (.slice A10 (⟨{ n with clock := n.clock + 1 }, []⟩ : NS).n.forms.length k10)).setCell ⟨w.heap.size + 1, 11, none⟩ (.int .i64 (⟨{ n with clock := n.clock + 1 }, []⟩ : NS).n.clock)).setCell ⟨w.heap.size + 1, 12, none⟩ (.int .i64 (⟨{ n with clock := n.clock + 1 }, []⟩ : NS).n.due) := ⟨_, rfl⟩
        rw [← hwf] at hYf far ⊢
        have hBf : Below w.heap.size w wf := by rw [hwf]; exact below13 HBE.out (by omega)
        clear hwf
        obtain ⟨z0, z1, z2, z3, z4, z5, z6, z7, z8, z9, z10, z11, z12⟩ := MM.cells13 hYf
        refine bodyPost_ret (v := .tuple #[.agg #[.int .i64 (⟨{ n with clock := n.clock + 1 }, []⟩ : NS).n.id, .int .i64 (⟨{ n with clock := n.clock + 1 }, []⟩ : NS).n.term, .int .i64 (⟨{ n with clock := n.clock + 1 }, []⟩ : NS).n.vote, .slice A3 (⟨{ n with clock := n.clock + 1 }, []⟩ : NS).n.log.length k3, .int .i64 (⟨{ n with clock := n.clock + 1 }, []⟩ : NS).n.form, .int .i64 (⟨{ n with clock := n.clock + 1 }, []⟩ : NS).n.role, .int .i64 (⟨{ n with clock := n.clock + 1 }, []⟩ : NS).n.commit, .slice A7 (⟨{ n with clock := n.clock + 1 }, []⟩ : NS).n.votes.length k7, .slice A8 (⟨{ n with clock := n.clock + 1 }, []⟩ : NS).n.nxt.length k8, .slice A9 (⟨{ n with clock := n.clock + 1 }, []⟩ : NS).n.mtch.length k9, .slice A10 (⟨{ n with clock := n.clock + 1 }, []⟩ : NS).n.forms.length k10, .int .i64 (⟨{ n with clock := n.clock + 1 }, []⟩ : NS).n.clock, .int .i64 (⟨{ n with clock := n.clock + 1 }, []⟩ : NS).n.due], .slice Ao (⟨{ n with clock := n.clock + 1 }, []⟩ : NS).out.length ko]) (by simp [results, Try.results25, go_sem, z0, z1, z2, z3, z4, z5, z6, z7, z8, z9, z10, z11, z12]) rfl ⟨A3, k3, A7, k7, A8, k8, A9, k9, A10, k10, Ao, ko, rfl, (HNV.out.step fun j hj _ => far j hj).mono fun j hj _ => (by have : w.heap.size + 2 ≤ j := hj; omega), (HMS.out.step fun j hj _ => far j hj).mono fun j hj _ => (by have : w.heap.size + 2 ≤ j := hj; omega), hBf⟩
  · have hb : decide (0 ≤ n.id ∧ n.id < ((⟨{ n with clock := n.clock + 1 }, []⟩ : NS).n.votes.length : Int)) = false := by simpa using hin
    obtain rfl : s1 = ⟨{ n with clock := n.clock + 1 }, []⟩ := by rw [HS.out, if_pos (by simpa using hin)]
    have hin' := Lib.hid hin
    clear hin
    go_wp2_with fail
    refine (end_shape _ (w.heap.size + 2) g _ _ HN2.out (by simp)).mono ?_
    rintro e we ⟨A3, k3, A7, k7, A8, k8, A9, k9, A10, k10, Ao, ko, rfl, hnv, hms, hbe⟩
    have hYe := (hbe.block (w.heap.size + 1) (by have := MM.blk_lt HY2.out; omega)).trans HY2.out
    have hBe := HB2.out.trans (hbe.mono (by have := HN2.out.Bsize; omega))
    clear hbe
    obtain ⟨y0, y1, y2, y3, y4, y5, y6, y7, y8, y9, y10, y11, y12⟩ := MM.cells13 hYe
    obtain ⟨g0, g1, g2, g3, g4, g5, g6, g7, g8, g9, g10, g11, g12⟩ := MM.frees13 hYe
    have HYE := Lib.hid hYe
    have HBE := Lib.hid hBe
    have HNV := Lib.hid hnv
    have HMS := Lib.hid hms
    clear hYe hBe hnv hms
    go_wp2_with fail
    have hYf : ((((((((((((((we).setCell ⟨w.heap.size + 1, 0, none⟩ (.int .i64 (⟨{ n with clock := n.clock + 1 }, []⟩ : NS).n.id)).setCell ⟨w.heap.size + 1, 1, none⟩ (.int .i64 (⟨{ n with clock := n.clock + 1 }, []⟩ : NS).n.term)).setCell ⟨w.heap.size + 1, 2, none⟩ (.int .i64 (⟨{ n with clock := n.clock + 1 }, []⟩ : NS).n.vote)).setCell ⟨w.heap.size + 1, 3, none⟩ (.slice A3 (⟨{ n with clock := n.clock + 1 }, []⟩ : NS).n.log.length k3)).setCell ⟨w.heap.size + 1, 4, none⟩ (.int .i64 (⟨{ n with clock := n.clock + 1 }, []⟩ : NS).n.form)).setCell ⟨w.heap.size + 1, 5, none⟩ (.int .i64 (⟨{ n with clock := n.clock + 1 }, []⟩ : NS).n.role)).setCell ⟨w.heap.size + 1, 6, none⟩ (.int .i64 (⟨{ n with clock := n.clock + 1 }, []⟩ : NS).n.commit)).setCell ⟨w.heap.size + 1, 7, none⟩ (.slice A7 (⟨{ n with clock := n.clock + 1 }, []⟩ : NS).n.votes.length k7)).setCell ⟨w.heap.size + 1, 8, none⟩ (.slice A8 (⟨{ n with clock := n.clock + 1 }, []⟩ : NS).n.nxt.length k8)).setCell ⟨w.heap.size + 1, 9, none⟩ (.slice A9 (⟨{ n with clock := n.clock + 1 }, []⟩ : NS).n.mtch.length k9)).setCell ⟨w.heap.size + 1, 10, none⟩ (.slice A10 (⟨{ n with clock := n.clock + 1 }, []⟩ : NS).n.forms.length k10)).setCell ⟨w.heap.size + 1, 11, none⟩ (.int .i64 (⟨{ n with clock := n.clock + 1 }, []⟩ : NS).n.clock)).setCell ⟨w.heap.size + 1, 12, none⟩ (.int .i64 (⟨{ n with clock := n.clock + 1 }, []⟩ : NS).n.due)).heap[w.heap.size + 1]? = some (.cells #[.int .i64 (⟨{ n with clock := n.clock + 1 }, []⟩ : NS).n.id, .int .i64 (⟨{ n with clock := n.clock + 1 }, []⟩ : NS).n.term, .int .i64 (⟨{ n with clock := n.clock + 1 }, []⟩ : NS).n.vote, .slice A3 (⟨{ n with clock := n.clock + 1 }, []⟩ : NS).n.log.length k3, .int .i64 (⟨{ n with clock := n.clock + 1 }, []⟩ : NS).n.form, .int .i64 (⟨{ n with clock := n.clock + 1 }, []⟩ : NS).n.role, .int .i64 (⟨{ n with clock := n.clock + 1 }, []⟩ : NS).n.commit, .slice A7 (⟨{ n with clock := n.clock + 1 }, []⟩ : NS).n.votes.length k7, .slice A8 (⟨{ n with clock := n.clock + 1 }, []⟩ : NS).n.nxt.length k8, .slice A9 (⟨{ n with clock := n.clock + 1 }, []⟩ : NS).n.mtch.length k9, .slice A10 (⟨{ n with clock := n.clock + 1 }, []⟩ : NS).n.forms.length k10, .int .i64 (⟨{ n with clock := n.clock + 1 }, []⟩ : NS).n.clock, .int .i64 (⟨{ n with clock := n.clock + 1 }, []⟩ : NS).n.due] 28 (0, 0)) := set13 HYE.out
    have far : ∀ j, w.heap.size + 2 ≤ j → ((((((((((((((we).setCell ⟨w.heap.size + 1, 0, none⟩ (.int .i64 (⟨{ n with clock := n.clock + 1 }, []⟩ : NS).n.id)).setCell ⟨w.heap.size + 1, 1, none⟩ (.int .i64 (⟨{ n with clock := n.clock + 1 }, []⟩ : NS).n.term)).setCell ⟨w.heap.size + 1, 2, none⟩ (.int .i64 (⟨{ n with clock := n.clock + 1 }, []⟩ : NS).n.vote)).setCell ⟨w.heap.size + 1, 3, none⟩ (.slice A3 (⟨{ n with clock := n.clock + 1 }, []⟩ : NS).n.log.length k3)).setCell ⟨w.heap.size + 1, 4, none⟩ (.int .i64 (⟨{ n with clock := n.clock + 1 }, []⟩ : NS).n.form)).setCell ⟨w.heap.size + 1, 5, none⟩ (.int .i64 (⟨{ n with clock := n.clock + 1 }, []⟩ : NS).n.role)).setCell ⟨w.heap.size + 1, 6, none⟩ (.int .i64 (⟨{ n with clock := n.clock + 1 }, []⟩ : NS).n.commit)).setCell ⟨w.heap.size + 1, 7, none⟩ (.slice A7 (⟨{ n with clock := n.clock + 1 }, []⟩ : NS).n.votes.length k7)).setCell ⟨w.heap.size + 1, 8, none⟩ (.slice A8 (⟨{ n with clock := n.clock + 1 }, []⟩ : NS).n.nxt.length k8)).setCell ⟨w.heap.size + 1, 9, none⟩ (.slice A9 (⟨{ n with clock := n.clock + 1 }, []⟩ : NS).n.mtch.length k9)).setCell ⟨w.heap.size + 1, 10, none⟩ (.slice A10 (⟨{ n with clock := n.clock + 1 }, []⟩ : NS).n.forms.length k10)).setCell ⟨w.heap.size + 1, 11, none⟩ (.int .i64 (⟨{ n with clock := n.clock + 1 }, []⟩ : NS).n.clock)).setCell ⟨w.heap.size + 1, 12, none⟩ (.int .i64 (⟨{ n with clock := n.clock + 1 }, []⟩ : NS).n.due)).heap[j]? = we.heap[j]? := fun j hj => far13 (by omega)
    obtain ⟨wf, hwf⟩ : ∃ W, W = (((((((((((((we).setCell ⟨w.heap.size + 1, 0, none⟩ (.int .i64 (⟨{ n with clock := n.clock + 1 }, []⟩ : NS).n.id)).setCell ⟨w.heap.size + 1, 1, none⟩ (.int .i64 (⟨{ n with clock := n.clock + 1 }, []⟩ : NS).n.term)).setCell ⟨w.heap.size + 1, 2, none⟩ (.int .i64 (⟨{ n with clock := n.clock + 1 }, []⟩ : NS).n.vote)).setCell ⟨w.heap.size + 1, 3, none⟩ (.slice A3 (⟨{ n with clock := n.clock + 1 }, []⟩ : NS).n.log.length k3)).setCell ⟨w.heap.size + 1, 4, none⟩ (.int .i64 (⟨{ n with clock := n.clock + 1 }, []⟩ : NS).n.form)).setCell ⟨w.heap.size + 1, 5, none⟩ (.int .i64 (⟨{ n with clock := n.clock + 1 }, []⟩ : NS).n.role)).setCell ⟨w.heap.size + 1, 6, none⟩ (.int .i64 (⟨{ n with clock := n.clock + 1 }, []⟩ : NS).n.commit)).setCell ⟨w.heap.size + 1, 7, none⟩ (.slice A7 (⟨{ n with clock := n.clock + 1 }, []⟩ : NS).n.votes.length k7)).setCell ⟨w.heap.size + 1, 8, none⟩ (.slice A8 (⟨{ n with clock := n.clock + 1 }, []⟩ : NS).n.nxt.length k8)).setCell ⟨w.heap.size + 1, 9, none⟩ (.slice A9 (⟨{ n with clock := n.clock + 1 }, []⟩ : NS).n.mtch.length k9)).setCell ⟨w.heap.size + 1, 10, none⟩ (.slice A10 (⟨{ n with clock := n.clock + 1 }, []⟩ : NS).n.forms.length k10)).setCell ⟨w.heap.size + 1, 11, none⟩ (.int .i64 (⟨{ n with clock := n.clock + 1 }, []⟩ : NS).n.clock)).setCell ⟨w.heap.size + 1, 12, none⟩ (.int .i64 (⟨{ n with clock := n.clock + 1 }, []⟩ : NS).n.due) := ⟨_, rfl⟩
    rw [← hwf] at hYf far ⊢
    have hBf : Below w.heap.size w wf := by rw [hwf]; exact below13 HBE.out (by omega)
    clear hwf
    obtain ⟨z0, z1, z2, z3, z4, z5, z6, z7, z8, z9, z10, z11, z12⟩ := MM.cells13 hYf
    refine bodyPost_ret (v := .tuple #[.agg #[.int .i64 (⟨{ n with clock := n.clock + 1 }, []⟩ : NS).n.id, .int .i64 (⟨{ n with clock := n.clock + 1 }, []⟩ : NS).n.term, .int .i64 (⟨{ n with clock := n.clock + 1 }, []⟩ : NS).n.vote, .slice A3 (⟨{ n with clock := n.clock + 1 }, []⟩ : NS).n.log.length k3, .int .i64 (⟨{ n with clock := n.clock + 1 }, []⟩ : NS).n.form, .int .i64 (⟨{ n with clock := n.clock + 1 }, []⟩ : NS).n.role, .int .i64 (⟨{ n with clock := n.clock + 1 }, []⟩ : NS).n.commit, .slice A7 (⟨{ n with clock := n.clock + 1 }, []⟩ : NS).n.votes.length k7, .slice A8 (⟨{ n with clock := n.clock + 1 }, []⟩ : NS).n.nxt.length k8, .slice A9 (⟨{ n with clock := n.clock + 1 }, []⟩ : NS).n.mtch.length k9, .slice A10 (⟨{ n with clock := n.clock + 1 }, []⟩ : NS).n.forms.length k10, .int .i64 (⟨{ n with clock := n.clock + 1 }, []⟩ : NS).n.clock, .int .i64 (⟨{ n with clock := n.clock + 1 }, []⟩ : NS).n.due], .slice Ao (⟨{ n with clock := n.clock + 1 }, []⟩ : NS).out.length ko]) (by simp [results, Try.results25, go_sem, z0, z1, z2, z3, z4, z5, z6, z7, z8, z9, z10, z11, z12]) rfl ⟨A3, k3, A7, k7, A8, k8, A9, k9, A10, k10, Ao, ko, rfl, (HNV.out.step fun j hj _ => far j hj).mono fun j hj _ => (by have : w.heap.size + 2 ≤ j := hj; omega), (HMS.out.step fun j hj _ => far j hj).mono fun j hj _ => (by have : w.heap.size + 2 ≤ j := hj; omega), hBf⟩

end Go.Proofs.Ytnkmljdkokcdjaa
