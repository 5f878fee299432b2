/-
  The document's put of an entry. Conditions: the lengths and numbers are bounded as the theorem says.
-/
import Derived.WalkKit
import Derived.WalkSpells
import Derived.Lib.Hide
import Derived.Outline
import Derived.Test.YtnkmljdkokcdjaaChecked
import Derived.Test.YtnkmljdkokcdjaaMn
import Derived.Test.YtnkmljdkokcdjaaMem
import Derived.Test.YtnkmljdkokcdjaaFed
import Derived.Test.YtnkmljdkokcdjaaRn1
import Derived.Test.YtnkmljdkokcdjaaClone
import Derived.Test.YtnkmljdkokcdjaaRe0
import Derived.Deep.DeepCutAuto
import Derived.Deep.CutBlock
import Derived.Deep.OwnRows
import Derived.IntWalk
set_option linter.unusedVariables false
set_option linter.unusedSimpArgs false
namespace Go.Proofs.Ytnkmljdkokcdjaa
open Go.RowKit Fed
set_option linter.unusedVariables false
attribute [local go_sem high] Fed.max2_int Fed.min2_int

theorem NB.far13' {w : World} {B b r : Nat} {n : Fed.Node} {σ : Sl5} {ω : O5} {u0 u1 u2 u3 u4 u5 u6 u7 u8 u9 u10 u11 u12 : Value} (h : NB w B b n σ ω) (ht : MM.Ty w r 28) (hne : r ≠ b) : NodeOs (((((((((((((w.setCell ⟨r, 0, none⟩ u0).setCell ⟨r, 1, none⟩ u1).setCell ⟨r, 2, none⟩ u2).setCell ⟨r, 3, none⟩ u3).setCell ⟨r, 4, none⟩ u4).setCell ⟨r, 5, none⟩ u5).setCell ⟨r, 6, none⟩ u6).setCell ⟨r, 7, none⟩ u7).setCell ⟨r, 8, none⟩ u8).setCell ⟨r, 9, none⟩ u9).setCell ⟨r, 10, none⟩ u10).setCell ⟨r, 11, none⟩ u11).setCell ⟨r, 12, none⟩ u12) B n σ ω :=
  h.rows.types fun k t hk ht' => far13 (ty_ne hk ht (by rcases ht' with rfl | rfl | rfl <;> decide))
/-- Blocks of other types than int and bool stay. -/
def Kp (w w' : World) : Prop := ∀ k t, MM.Ty w k t → t ≠ 3 → t ≠ 4 → w'.heap[k]? = w.heap[k]?
theorem Ty_lt {w : World} {k t : Nat} (h : MM.Ty w k t) : k < w.heap.size := by obtain ⟨_, _, hc⟩ := h; exact MM.blk_lt hc
theorem Kp.old {w w' : World} (h : ∀ k, k < w.heap.size → w'.heap[k]? = w.heap[k]?) : Kp w w' := fun k t hk _ _ => h k (Ty_lt hk)
theorem Kp.trans {w w1 w2 : World} (h : Kp w w1) (h' : Kp w1 w2) : Kp w w2 := fun k t hk h3 h4 => (h' k t (by obtain ⟨c, f, hc⟩ := hk; exact ⟨c, f, (h k t ⟨c, f, hc⟩ h3 h4).trans hc⟩) h3 h4).trans (h k t hk h3 h4)
theorem Kp.set {w w1 : World} {p : Addr} {t : Nat} (h : Kp w w1) (ht : MM.Ty w1 p.block t) (h34 : t = 3 ∨ t = 4) (u : Value) : Kp w (w1.setCell p u) := fun k t' hk h3 h4 =>
  (Below.heap_setCell w1 p u k (ty_ne (by obtain ⟨c, f, hc⟩ := hk; exact ⟨c, f, (h k t' ⟨c, f, hc⟩ h3 h4).trans hc⟩) ht (by rcases h34 with rfl | rfl; exact h3; exact h4))).trans (h k t' hk h3 h4)
theorem Kp.new {w w1 : World} {p : Addr} (h : Kp w w1) (hp : w.heap.size ≤ p.block) (u : Value) : Kp w (w1.setCell p u) := fun k t' hk h3 h4 =>
  (Below.heap_setCell w1 p u k (by have := Ty_lt hk; omega)).trans (h k t' hk h3 h4)
theorem Kp.new13 {w w1 : World} {r : Nat} {u0 u1 u2 u3 u4 u5 u6 u7 u8 u9 u10 u11 u12 : Value} (h : Kp w w1) (hp : w.heap.size ≤ r) : Kp w (((((((((((((w1.setCell ⟨r, 0, none⟩ u0).setCell ⟨r, 1, none⟩ u1).setCell ⟨r, 2, none⟩ u2).setCell ⟨r, 3, none⟩ u3).setCell ⟨r, 4, none⟩ u4).setCell ⟨r, 5, none⟩ u5).setCell ⟨r, 6, none⟩ u6).setCell ⟨r, 7, none⟩ u7).setCell ⟨r, 8, none⟩ u8).setCell ⟨r, 9, none⟩ u9).setCell ⟨r, 10, none⟩ u10).setCell ⟨r, 11, none⟩ u11).setCell ⟨r, 12, none⟩ u12) := fun k t' hk h3 h4 =>
  (far13 (by have := Ty_lt hk; omega)).trans (h k t' hk h3 h4)
theorem Kp.blk {w w' : World} {k : Nat} {c : Array Value} {t : Nat} {f : Nat × Nat} (h : Kp w w') (hb : w.heap[k]? = some (.cells c t f)) (h3 : t ≠ 3) (h4 : t ≠ 4) : w'.heap[k]? = some (.cells c t f) := (h k t ⟨c, f, hb⟩ h3 h4).trans hb
set_option maxRecDepth 100000 in
set_option maxHeartbeats 4000000 in
theorem rput_any (w : World) (B : Nat) (n : Fed.Node) (σ : Sl5) (ω : O5) (d : ByteArray) (h : NodeOs w B n σ ω) (hB : B ≤ w.heap.size) (l1 : n.log.length ≤ 1000000) (l2 : n.votes.length ≤ 1000) (hi0 : 0 ≤ n.id) (hi1 : n.id < n.mtch.length) :
    Calls Try.prog 117 #[.agg #[.int .i64 n.id, .int .i64 n.term, .int .i64 n.vote, .slice σ.A3 n.log.length σ.k3, .int .i64 n.form, .int .i64 n.role, .int .i64 n.commit, .slice σ.A7 n.votes.length σ.k7, .slice σ.A8 n.nxt.length σ.k8, .slice σ.A9 n.mtch.length σ.k9, .slice σ.A10 n.forms.length σ.k10, .int .i64 n.clock, .int .i64 n.due], .string d] w fun e w' => ∃ τ υ, e = .returned (.agg #[.int .i64 (putN n d).id, .int .i64 (putN n d).term, .int .i64 (putN n d).vote, .slice τ.A3 (putN n d).log.length τ.k3, .int .i64 (putN n d).form, .int .i64 (putN n d).role, .int .i64 (putN n d).commit, .slice τ.A7 (putN n d).votes.length τ.k7, .slice τ.A8 (putN n d).nxt.length τ.k8, .slice τ.A9 (putN n d).mtch.length τ.k9, .slice τ.A10 (putN n d).forms.length τ.k10, .int .i64 (putN n d).clock, .int .i64 (putN n d).due]) ∧ NodeOs w' B (putN n d) τ υ ∧ Below B w w' ∧ Kp w w' := by
  have H := Lib.hid h
  clear h
  go_enter Try.func117, Try.ntmps117
  go_upto_region 1 with (fail)
  refine name_world (F := fun W => Hid (NB W B w.heap.size n σ ω) ∧ Hid (W.heap[w.heap.size + 1]? = some (.cells #[.int .i64 0, .int .i64 0, .int .i64 0, .slice none 0 0, .int .i64 0, .int .i64 0, .int .i64 0, .slice none 0 0, .slice none 0 0, .slice none 0 0, .slice none 0 0, .int .i64 0, .int .i64 0] 28 (0, 0))) ∧ Hid (Below B w W) ∧ Hid (∀ k, k < w.heap.size → W.heap[k]? = w.heap[k]?)) _ ⟨Lib.hid (⟨hB, (Below.heap_alloc _ _ _ (by simp)).trans (MM.alloc_new w _), (H.out.alloc _).alloc _⟩), Lib.hid (MM.alloc_new1 w _ _), Lib.hid (((Below.refl B w).alloc hB _).alloc (by simp; omega) _), Lib.hid (fun k hk => (Below.heap_alloc _ _ k (by simp; omega)).trans (Below.heap_alloc w _ k hk))⟩ ?_
  clear H
  intro w1 ⟨N1, Y, HB, K1⟩
  go_cut [] (fun wc => ∃ (τ : Sl5) (υ : O5), Hid (NB wc B w.heap.size { n with log := n.log ++ [Fed.Entry.mk n.term d] } τ υ) ∧ Hid (wc.heap[w.heap.size + 1]? = some (.cells #[.int .i64 0, .int .i64 0, .int .i64 0, .slice none 0 0, .int .i64 0, .int .i64 0, .int .i64 0, .slice none 0 0, .slice none 0 0, .slice none 0 0, .slice none 0 0, .int .i64 0, .int .i64 0] 28 (0, 0))) ∧ Hid (Below B w wc) ∧ Hid (Kp w wc))
  case first =>
    have hs1 : w.heap.size + 1 < w1.heap.size := MM.blk_lt Y.out
    have hB1 : B ≤ w1.heap.size := Nat.le_trans hB HB.out.size
    have hs0 : w.heap.size < w1.heap.size := by omega
    have c1 : w1.cell? ⟨w.heap.size, 1, none⟩ = some (.int .i64 n.term) := MM.cell_blk N1.out.blk rfl
    have c3 : w1.cell? ⟨w.heap.size, 3, none⟩ = some (.slice σ.A3 n.log.length σ.k3) := MM.cell_blk N1.out.blk rfl
    refine Go.RT.wp_region_tree [0, 1, 3, 0, 8, 0, 56, 120, 255, 511, 1023] (.p 0 (.s 1 (.p 3 (.s 4 (.p 5 (.p 6 (.w 2 [4] (.w 7 [1] (.w 8 [] (.p 9 (.w 10 [] .nil .stop)) .stop) .stop) (.w 7 [1] (.w 2 [4] (.w 8 [] (.p 9 (.w 10 [] .nil .stop)) .stop) .stop) .stop)))))))) (by kernel_rfl) (by kernel_rfl) ?_
    repeat (first | (refine Go.RT.step_p rfl (fun K hK => ?_); go_simp; refine hK _ ?_; clear hK K) | (refine Go.RT.step_s rfl (fun K hK => ?_); go_simp; refine hK _ ?_; clear hK K))
    (refine Go.RT.step_w rfl rfl (fun K hK => ?_) ?_)
    · go_wp2_with fail
      refine (rentries _ _ _ _ _ _ (N1.out.rows.hl.rd.drew) (entsC_one _) (by omega)).mono ?_
      rintro e w3 ⟨A', c', ob, rfl, hr, hb3⟩
      have HR := Lib.hid hr
      have HB3 := Lib.hid hb3
      clear hr hb3
      have X3 := Lib.hid (show w3.heap[w.heap.size]? = some (.cells #[.int .i64 n.id, .int .i64 n.term, .int .i64 n.vote, .slice σ.A3 n.log.length σ.k3, .int .i64 n.form, .int .i64 n.role, .int .i64 n.commit, .slice σ.A7 n.votes.length σ.k7, .slice σ.A8 n.nxt.length σ.k8, .slice σ.A9 n.mtch.length σ.k9, .slice σ.A10 n.forms.length σ.k10, .int .i64 n.clock, .int .i64 n.due] 28 (0, 0)) from ((HB3.out.block _ (by first | exact MM.blk_lt N1.out.blk | exact MM.blk_lt ((N1.out.drew.alloc _).blk))).trans (by first | exact N1.out.blk | exact (N1.out.drew.alloc _).blk)))
      have ca1 : w3.cell? ⟨w.heap.size, 1, none⟩ = some (.int .i64 n.term) := MM.cell_blk X3.out rfl
      have ca3 : w3.cell? ⟨w.heap.size, 3, none⟩ = some (.slice σ.A3 n.log.length σ.k3) := MM.cell_blk X3.out rfl
      have cf3 : w3.frozen? ⟨w.heap.size, 3, none⟩ = false := MM.free_blk X3.out
      have hs3 : w.heap.size < w3.heap.size := MM.blk_lt X3.out
      go_wp2_with fail
      refine Go.RT.QK_normal _ _ _ _ (hK _ _ ?_ ?_) <;> clear hK K
      · repeat (first | exact Go.RT.again_nil | (refine Go.RT.again_not rfl rfl ?_) | (refine Go.RT.again_one rfl (by go_simp <;> rfl) ?_))
      (refine Go.RT.step_w rfl rfl (fun K hK => ?_) Go.RT.step_stop)
      go_wp2_with fail
      
      refine Go.RT.QK_normal _ _ _ _ (hK _ _ ?_ ?_) <;> clear hK K
      · repeat (first | exact Go.RT.again_nil | (refine Go.RT.again_not rfl rfl ?_) | (refine Go.RT.again_one rfl (by go_simp <;> rfl) ?_))
      (refine Go.RT.step_w rfl rfl (fun K hK => ?_) Go.RT.step_stop)
      refine name_world (F := fun W => Hid (∀ k, k < w1.heap.size → W.heap[k]? = w1.heap[k]?) ∧ Hid (w1.heap.size ≤ W.heap.size) ∧ Hid (Below B w W) ∧ Hid (MM.Row W w1.heap.size 40 2 (.slice A' n.log.length c') n.log.length (entsC n.log) ob) ∧ Hid (W.heap[w3.heap.size]? = some (.cells #[.int .i64 n.term, .string d] 40 (0, 0)))) _ ⟨Lib.hid (fun k hk => (Below.heap_alloc _ _ k (Nat.lt_of_lt_of_le hk HB3.out.size)).trans (HB3.out.block k hk)), Lib.hid (by have := HB3.out.size; have e : w1.drew.heap.size = w1.heap.size := rfl; simp; omega), Lib.hid ((HB.out.drew.trans (HB3.out.mono hB1)).alloc (Nat.le_trans hB1 HB3.out.size) _), Lib.hid ((HR.out.alloc _)), Lib.hid (MM.alloc_new w3 _)⟩ ?_
      intro w5 ⟨K5, S5, HB5, R5, L5⟩
      obtain ⟨i0, hi, hz0, hz1, hz2⟩ := info_parts info40
      refine MM.wpList_append_row _ rfl (.tmp 7) (.tmp 12) 24 rfl w1.heap.size 40 i0 _ 2 24 Try.underlying24 hi hz0 hz1 hz2 rfl (by decide) _ n.log.length (entsC n.log) ob rfl R5.out (fun _ => True) _ 1 [.int .i64 n.term, .string d] rfl (MM.Rd.lit L5.out trivial rfl (Nat.le_refl _) (by simp [maxLen]) rfl) (by intro u hu; simp at hu; rcases hu with rfl | rfl <;> rfl) (by simp only [maxLen]; omega) (by omega) S5.out ?_
      intro v' w6 ob' hr' hg hob
      obtain ⟨A6, k6, rfl, _, _⟩ := hr'.slice
      have K6 := Lib.hid (show ∀ k, k < w1.heap.size → w6.heap[k]? = w1.heap[k]? from fun k hk => (hg.block k (Nat.lt_of_lt_of_le hk S5.out) (fun e => by have := (R5.out.lt k e.symm).1; omega)).trans (K5.out k hk))
      have N6 := Lib.hid (N1.out.step (fun k _ hk => K6.out k hk))
      have HB6 := Lib.hid (HB5.out.grown hg (Nat.le_trans hB1 S5.out) (fun k hk => Nat.le_trans hB1 (R5.out.lt k hk).1))
      have HR6 := Lib.hid (show MM.Row w6 B 40 2 (.slice A6 (n.log ++ [(Entry.mk n.term d)]).length k6) (n.log ++ [(Entry.mk n.term d)]).length (entsC (n.log ++ [(Entry.mk n.term d)])) ob' from by rw [entsC_append]; simpa [entsC, entC] using hr'.lower hB1)
      clear hr' hg hob
      have cb3 : w6.cell? ⟨w.heap.size, 3, none⟩ = some (.slice σ.A3 n.log.length σ.k3) := MM.cell_blk N6.out.blk rfl
      have cg3 : w6.frozen? ⟨w.heap.size, 3, none⟩ = false := MM.free_blk N6.out.blk
      go_wp2_with fail
      refine Go.RT.QK_normal _ _ _ _ (hK _ _ ?_ ?_) <;> clear hK K
      · repeat (first | exact Go.RT.again_nil | (refine Go.RT.again_not rfl rfl ?_) | (refine Go.RT.again_one rfl (by go_simp <;> rfl) ?_))
      repeat (first | (refine Go.RT.step_p rfl (fun K hK => ?_); go_simp; refine hK _ ?_; clear hK K) | (refine Go.RT.step_s rfl (fun K hK => ?_); go_simp; refine hK _ ?_; clear hK K))
      (refine Go.RT.step_w rfl rfl (fun K hK => ?_) Go.RT.step_stop)
      go_wp2
      refine Go.RT.QK_normal _ _ _ _ (hK _ _ ?_ ?_) <;> clear hK K
      · repeat (first | exact Go.RT.again_nil | (refine Go.RT.again_not rfl rfl ?_) | (refine Go.RT.again_one rfl (by go_simp <;> rfl) ?_))
      refine Go.RT.step_nil ?_
      go_wp2_with fail
      have FN := Lib.hid (show NB (w6.setCell ⟨w.heap.size, 3, none⟩ (.slice A6 (n.log.length + 1) k6)) B w.heap.size { n with log := n.log ++ [Fed.Entry.mk n.term d] } { σ with A3 := A6, k3 := k6 } { ω with l := ob' } from by
        have hlen : (n.log ++ [(Entry.mk n.term d)]).length = n.log.length + 1 := by simp
        have q := N6.out.put_log HR6.out
        rw [hlen] at q
        exact q)
      go_meet
      case rel => exact ⟨_, _, FN, Lib.hid ((Below.heap_setCell _ _ _ _ (by show w.heap.size + 1 ≠ w.heap.size; omega)).trans ((K6.out _ hs1).trans Y.out)), Lib.hid (HB6.out.setCell hB _), Lib.hid ((Kp.old (fun k hk => (K6.out k (by omega)).trans (K1.out k hk))).new (Nat.le_refl _) _)⟩
    (refine Go.RT.step_w rfl rfl (fun K hK => ?_) Go.RT.step_stop)
    go_wp2_with fail
    
    refine Go.RT.QK_normal _ _ _ _ (hK _ _ ?_ ?_) <;> clear hK K
    · repeat (first | exact Go.RT.again_nil | (refine Go.RT.again_not rfl rfl ?_) | (refine Go.RT.again_one rfl (by go_simp <;> rfl) ?_))
    (refine Go.RT.step_w rfl rfl (fun K hK => ?_) Go.RT.step_stop)
    go_wp2_with fail
    refine (rentries _ _ _ _ _ _ (N1.out.rows.hl.rd.drew.alloc _) (entsC_one _) (by omega)).mono ?_
    rintro e w3 ⟨A', c', ob, rfl, hr, hb3⟩
    have HR := Lib.hid hr
    have HB3 := Lib.hid hb3
    clear hr hb3
    have X3 := Lib.hid (show w3.heap[w.heap.size]? = some (.cells #[.int .i64 n.id, .int .i64 n.term, .int .i64 n.vote, .slice σ.A3 n.log.length σ.k3, .int .i64 n.form, .int .i64 n.role, .int .i64 n.commit, .slice σ.A7 n.votes.length σ.k7, .slice σ.A8 n.nxt.length σ.k8, .slice σ.A9 n.mtch.length σ.k9, .slice σ.A10 n.forms.length σ.k10, .int .i64 n.clock, .int .i64 n.due] 28 (0, 0)) from ((HB3.out.block _ (by first | exact MM.blk_lt N1.out.blk | exact MM.blk_lt ((N1.out.drew.alloc _).blk))).trans (by first | exact N1.out.blk | exact (N1.out.drew.alloc _).blk)))
    have ca1 : w3.cell? ⟨w.heap.size, 1, none⟩ = some (.int .i64 n.term) := MM.cell_blk X3.out rfl
    have ca3 : w3.cell? ⟨w.heap.size, 3, none⟩ = some (.slice σ.A3 n.log.length σ.k3) := MM.cell_blk X3.out rfl
    have cf3 : w3.frozen? ⟨w.heap.size, 3, none⟩ = false := MM.free_blk X3.out
    have hs3 : w.heap.size < w3.heap.size := MM.blk_lt X3.out
    have hs4 : w1.heap.size < w3.heap.size := by have := HB3.out.size; simp at this; exact this
    go_wp2_with fail
    refine Go.RT.QK_normal _ _ _ _ (hK _ _ ?_ ?_) <;> clear hK K
    · repeat (first | exact Go.RT.again_nil | (refine Go.RT.again_not rfl rfl ?_) | (refine Go.RT.again_one rfl (by go_simp <;> rfl) ?_))
    (refine Go.RT.step_w rfl rfl (fun K hK => ?_) Go.RT.step_stop)
    refine name_world (F := fun W => Hid (∀ k, k < w1.heap.size → W.heap[k]? = w1.heap[k]?) ∧ Hid (w1.heap.size ≤ W.heap.size) ∧ Hid (Below B w W) ∧ Hid (MM.Row W w1.heap.size 40 2 (.slice A' n.log.length c') n.log.length (entsC n.log) ob) ∧ Hid (W.heap[w1.heap.size]? = some (.cells #[.int .i64 n.term, .string d] 40 (0, 0)))) _ ⟨Lib.hid (fun k hk => (HB3.out.block k (by simp; omega)).trans (Below.heap_alloc w1.drew _ k hk)), Lib.hid (by have := HB3.out.size; simp at this; omega), Lib.hid ((HB.out.drew.alloc hB1 _).trans (HB3.out.mono (by simp; omega))), Lib.hid (HR.out.lower (by simp)), Lib.hid ((HB3.out.block _ (by simp)).trans (MM.alloc_new w1.drew _))⟩ ?_
    intro w5 ⟨K5, S5, HB5, R5, L5⟩
    obtain ⟨i0, hi, hz0, hz1, hz2⟩ := info_parts info40
    refine MM.wpList_append_row _ rfl (.tmp 7) (.tmp 12) 24 rfl w1.heap.size 40 i0 _ 2 24 Try.underlying24 hi hz0 hz1 hz2 rfl (by decide) _ n.log.length (entsC n.log) ob rfl R5.out (fun _ => True) _ 1 [.int .i64 n.term, .string d] rfl (MM.Rd.lit L5.out trivial rfl (Nat.le_refl _) (by simp [maxLen]) rfl) (by intro u hu; simp at hu; rcases hu with rfl | rfl <;> rfl) (by simp only [maxLen]; omega) (by omega) S5.out ?_
    intro v' w6 ob' hr' hg hob
    obtain ⟨A6, k6, rfl, _, _⟩ := hr'.slice
    have K6 := Lib.hid (show ∀ k, k < w1.heap.size → w6.heap[k]? = w1.heap[k]? from fun k hk => (hg.block k (Nat.lt_of_lt_of_le hk S5.out) (fun e => by have := (R5.out.lt k e.symm).1; omega)).trans (K5.out k hk))
    have N6 := Lib.hid (N1.out.step (fun k _ hk => K6.out k hk))
    have HB6 := Lib.hid (HB5.out.grown hg (Nat.le_trans hB1 S5.out) (fun k hk => Nat.le_trans hB1 (R5.out.lt k hk).1))
    have HR6 := Lib.hid (show MM.Row w6 B 40 2 (.slice A6 (n.log ++ [(Entry.mk n.term d)]).length k6) (n.log ++ [(Entry.mk n.term d)]).length (entsC (n.log ++ [(Entry.mk n.term d)])) ob' from by rw [entsC_append]; simpa [entsC, entC] using hr'.lower hB1)
    clear hr' hg hob
    have cb3 : w6.cell? ⟨w.heap.size, 3, none⟩ = some (.slice σ.A3 n.log.length σ.k3) := MM.cell_blk N6.out.blk rfl
    have cg3 : w6.frozen? ⟨w.heap.size, 3, none⟩ = false := MM.free_blk N6.out.blk
    go_wp2_with fail
    refine Go.RT.QK_normal _ _ _ _ (hK _ _ ?_ ?_) <;> clear hK K
    · repeat (first | exact Go.RT.again_nil | (refine Go.RT.again_not rfl rfl ?_) | (refine Go.RT.again_one rfl (by go_simp <;> rfl) ?_))
    repeat (first | (refine Go.RT.step_p rfl (fun K hK => ?_); go_simp; refine hK _ ?_; clear hK K) | (refine Go.RT.step_s rfl (fun K hK => ?_); go_simp; refine hK _ ?_; clear hK K))
    (refine Go.RT.step_w rfl rfl (fun K hK => ?_) Go.RT.step_stop)
    go_wp2
    refine Go.RT.QK_normal _ _ _ _ (hK _ _ ?_ ?_) <;> clear hK K
    · repeat (first | exact Go.RT.again_nil | (refine Go.RT.again_not rfl rfl ?_) | (refine Go.RT.again_one rfl (by go_simp <;> rfl) ?_))
    refine Go.RT.step_nil ?_
    go_wp2_with fail
    have FN := Lib.hid (show NB (w6.setCell ⟨w.heap.size, 3, none⟩ (.slice A6 (n.log.length + 1) k6)) B w.heap.size { n with log := n.log ++ [Fed.Entry.mk n.term d] } { σ with A3 := A6, k3 := k6 } { ω with l := ob' } from by
      have hlen : (n.log ++ [(Entry.mk n.term d)]).length = n.log.length + 1 := by simp
      have q := N6.out.put_log HR6.out
      rw [hlen] at q
      exact q)
    go_meet
    case rel => exact ⟨_, _, FN, Lib.hid ((Below.heap_setCell _ _ _ _ (by show w.heap.size + 1 ≠ w.heap.size; omega)).trans ((K6.out _ hs1).trans Y.out)), Lib.hid (HB6.out.setCell hB _), Lib.hid ((Kp.old (fun k hk => (K6.out k (by omega)).trans (K1.out k hk))).new (Nat.le_refl _) _)⟩
  case rest =>
    obtain ⟨τ, υ, N, Y, HB, HK⟩ := hcut
    clear N1 K1
    obtain ⟨n1, hn1⟩ : ∃ x : Fed.Node, x = { n with log := n.log ++ [Fed.Entry.mk n.term d] } := ⟨_, rfl⟩
    rw [← hn1] at N
    have HEn1 := Lib.hid hn1
    clear hn1
    have m0 : 0 ≤ n1.id := by rw [HEn1.out]; exact hi0
    have m1 : n1.id < (n1.mtch.length : Int) := by rw [HEn1.out]; exact hi1
    have m2 : n1.log.length = n.log.length + 1 := by rw [HEn1.out]; simp
    have M2 := Lib.hid m2
    have ml : n1.log.length ≤ 1000001 := by omega
    clear m2
    obtain ⟨p9, hp9⟩ := N.out.rows.hm.some_of (by omega)
    have hr9 := N.out.rows.hm
    rw [hp9] at hr9
    obtain ⟨cap9, e9, q91, q92⟩ := hr9.form
    have c9 : wc.cell? ⟨w.heap.size, 9, none⟩ = some (.slice (some ⟨p9, 0, none⟩) n1.mtch.length cap9) := N.out.c 9 _ (congrArg some e9)
    have HP9 := Lib.hid hp9
    have HR9 := Lib.hid hr9
    clear e9 hp9 hr9
    have ce9 : wc.cell? ⟨p9, n1.id.toNat, none⟩ = some (.int .i64 (n1.mtch.getD (n1.id.toNat) 0)) := HR9.out.cell (intsC_get (by omega))
    have fe9 : wc.frozen? ⟨p9, n1.id.toNat, none⟩ = false := HR9.out.free _
    have c0 : wc.cell? ⟨w.heap.size, 0, none⟩ = some (.int .i64 n1.id) := N.out.c 0 _ rfl
    have c3 : wc.cell? ⟨w.heap.size, 3, none⟩ = some (.slice τ.A3 n1.log.length τ.k3) := N.out.c 3 _ rfl
    go_upto_region 3 with (fail)
    refine name_world (F := fun W => Hid (NB W B w.heap.size { n1 with mtch := n1.mtch.set n1.id.toNat n1.log.length } τ υ) ∧ Hid (W.heap[w.heap.size + 1]? = some (.cells #[.int .i64 0, .int .i64 0, .int .i64 0, .slice none 0 0, .int .i64 0, .int .i64 0, .int .i64 0, .slice none 0 0, .slice none 0 0, .slice none 0 0, .slice none 0 0, .int .i64 0, .int .i64 0] 28 (0, 0))) ∧ Hid (Below B w W) ∧ Hid (Kp w W)) _ ⟨Lib.hid (N.out.set_m HP9.out (by omega)), Lib.hid ((Below.heap_setCell _ _ _ _ (ty_ne ⟨_, _, Y.out⟩ (HR9.out.ty _ rfl) (by decide))).trans Y.out), Lib.hid (HB.out.setCell (HR9.out.lt _ rfl).1 _), Lib.hid (HK.out.set (HR9.out.ty _ rfl) (.inl rfl) _)⟩ ?_
    clear N Y HB HK c9 ce9 fe9 c0 c3 HR9 HP9
    intro w3 ⟨N3, Y3, HB3, HK3⟩
    obtain ⟨n2, hn2⟩ : ∃ x : Fed.Node, x = { n1 with mtch := n1.mtch.set n1.id.toNat n1.log.length } := ⟨_, rfl⟩
    rw [← hn2] at N3
    have HEn2 := Lib.hid hn2
    clear hn2
    have v2 : n2.votes.length = n.votes.length := by rw [HEn2.out]; show n1.votes.length = _; rw [HEn1.out]
    have g2 : n2.log.length ≤ 1000001 := by rw [HEn2.out]; exact ml
    have HP := Lib.hid (show putN n d = if n.votes.length = 1 then { n2 with commit := n2.log.length } else n2 from by
      unfold putN
      rw [HEn2.out, HEn1.out]
      split <;> simp)
    have V2 := Lib.hid v2
    have hs3 : w.heap.size + 1 < w3.heap.size := MM.blk_lt Y3.out
    have c7 : w3.cell? ⟨w.heap.size, 7, none⟩ = some (.slice τ.A7 n2.votes.length τ.k7) := N3.out.c 7 _ rfl
    have c6 : w3.cell? ⟨w.heap.size, 6, none⟩ = some (.int .i64 n2.commit) := N3.out.c 6 _ rfl
    have c3 : w3.cell? ⟨w.heap.size, 3, none⟩ = some (.slice τ.A3 n2.log.length τ.k3) := N3.out.c 3 _ rfl
    have g6 : w3.frozen? ⟨w.heap.size, 6, none⟩ = false := N3.out.fr 6
    clear v2
    by_cases hv : n.votes.length = 1
    · have hvb : ((n2.votes.length : Int) == 1) = true := by rw [V2.out, hv]; rfl
      have HP2 := Lib.hid (HP.out.trans (if_pos hv))
      clear hv
      go_upto_region 5 with (fail)
      refine name_world (F := fun W => Hid (NB W B w.heap.size { n2 with commit := n2.log.length } τ υ) ∧ Hid (W.heap[w.heap.size + 1]? = some (.cells #[.int .i64 0, .int .i64 0, .int .i64 0, .slice none 0 0, .int .i64 0, .int .i64 0, .int .i64 0, .slice none 0 0, .slice none 0 0, .slice none 0 0, .slice none 0 0, .int .i64 0, .int .i64 0] 28 (0, 0))) ∧ Hid (Below B w W) ∧ Hid (Kp w W)) _ ⟨Lib.hid (N3.out.set rfl ⟨rfl, rfl, rfl, rfl, rfl⟩), Lib.hid ((Below.heap_setCell _ _ _ _ (by show w.heap.size + 1 ≠ w.heap.size; omega)).trans Y3.out), Lib.hid (HB3.out.setCell hB _), Lib.hid (HK3.out.new (Nat.le_refl _) _)⟩ ?_
      clear N3 Y3 HB3 HK3 c7 c6 c3 g6
      intro w4 ⟨N4, Y4, HB4, HK4⟩
      obtain ⟨n3, hn3⟩ : ∃ x : Fed.Node, x = { n2 with commit := n2.log.length } := ⟨_, rfl⟩
      rw [← hn3] at N4 HP2
      have HEn3 := Lib.hid hn3
      clear hn3
      obtain ⟨c0, c1, c2, c3, c4, c5, c6, c7, c8, c9, c10, c11, c12⟩ := MM.cells13 N4.out.blk
      obtain ⟨y0, y1, y2, y3, y4, y5, y6, y7, y8, y9, y10, y11, y12⟩ := MM.cells13 Y4.out
      obtain ⟨z0, z1, z2, z3, z4, z5, z6, z7, z8, z9, z10, z11, z12⟩ := MM.frees13 Y4.out
      go_wp2_with fail
      refine name_world (F := fun W => Hid (W.heap[w.heap.size + 1]? = some (.cells #[.int .i64 n3.id, .int .i64 n3.term, .int .i64 n3.vote, .slice τ.A3 n3.log.length τ.k3, .int .i64 n3.form, .int .i64 n3.role, .int .i64 n3.commit, .slice τ.A7 n3.votes.length τ.k7, .slice τ.A8 n3.nxt.length τ.k8, .slice τ.A9 n3.mtch.length τ.k9, .slice τ.A10 n3.forms.length τ.k10, .int .i64 n3.clock, .int .i64 n3.due] 28 (0, 0))) ∧ Hid (NodeOs W B n3 τ υ) ∧ Hid (Below B w W) ∧ Hid (Kp w W)) _ ⟨Lib.hid ((set13 Y4.out).trans rfl), Lib.hid (N4.out.rows.types (fun k t hk ht' => far13 (ty_ne hk ⟨_, _, Y4.out⟩ (by rcases ht' with rfl | rfl | rfl <;> decide)))), Lib.hid (below13 HB4.out (by omega)), Lib.hid (HK4.out.new13 (by omega))⟩ ?_
      intro wf ⟨Y9, N9, B9, K9⟩
      obtain ⟨u0, u1, u2, u3, u4, u5, u6, u7, u8, u9, u10, u11, u12⟩ := MM.cells13 Y9.out
      refine bodyPost_ret (v := .agg #[.int .i64 n3.id, .int .i64 n3.term, .int .i64 n3.vote, .slice τ.A3 n3.log.length τ.k3, .int .i64 n3.form, .int .i64 n3.role, .int .i64 n3.commit, .slice τ.A7 n3.votes.length τ.k7, .slice τ.A8 n3.nxt.length τ.k8, .slice τ.A9 n3.mtch.length τ.k9, .slice τ.A10 n3.forms.length τ.k10, .int .i64 n3.clock, .int .i64 n3.due]) (by simp [results, Try.results117, go_sem, u0, u1, u2, u3, u4, u5, u6, u7, u8, u9, u10, u11, u12]) rfl ?_
      exact ⟨τ, υ, by rw [HP2.out], by rw [HP2.out]; exact N9.out, B9.out, K9.out⟩
    · have hvb : ((n2.votes.length : Int) == 1) = false := by rw [V2.out]; simp only [beq_eq_false_iff_ne, ne_eq]; omega
      have HP2 := Lib.hid (HP.out.trans (if_neg hv))
      clear hv
      go_upto_region 5 with (fail)
      obtain ⟨c0, c1, c2, c3, c4, c5, c6, c7, c8, c9, c10, c11, c12⟩ := MM.cells13 N3.out.blk
      obtain ⟨y0, y1, y2, y3, y4, y5, y6, y7, y8, y9, y10, y11, y12⟩ := MM.cells13 Y3.out
      obtain ⟨z0, z1, z2, z3, z4, z5, z6, z7, z8, z9, z10, z11, z12⟩ := MM.frees13 Y3.out
      go_wp2_with fail
      refine name_world (F := fun W => Hid (W.heap[w.heap.size + 1]? = some (.cells #[.int .i64 n2.id, .int .i64 n2.term, .int .i64 n2.vote, .slice τ.A3 n2.log.length τ.k3, .int .i64 n2.form, .int .i64 n2.role, .int .i64 n2.commit, .slice τ.A7 n2.votes.length τ.k7, .slice τ.A8 n2.nxt.length τ.k8, .slice τ.A9 n2.mtch.length τ.k9, .slice τ.A10 n2.forms.length τ.k10, .int .i64 n2.clock, .int .i64 n2.due] 28 (0, 0))) ∧ Hid (NodeOs W B n2 τ υ) ∧ Hid (Below B w W) ∧ Hid (Kp w W)) _ ⟨Lib.hid ((set13 Y3.out).trans rfl), Lib.hid (N3.out.rows.types (fun k t hk ht' => far13 (ty_ne hk ⟨_, _, Y3.out⟩ (by rcases ht' with rfl | rfl | rfl <;> decide)))), Lib.hid (below13 HB3.out (by omega)), Lib.hid (HK3.out.new13 (by omega))⟩ ?_
      intro wf ⟨Y9, N9, B9, K9⟩
      obtain ⟨u0, u1, u2, u3, u4, u5, u6, u7, u8, u9, u10, u11, u12⟩ := MM.cells13 Y9.out
      refine bodyPost_ret (v := .agg #[.int .i64 n2.id, .int .i64 n2.term, .int .i64 n2.vote, .slice τ.A3 n2.log.length τ.k3, .int .i64 n2.form, .int .i64 n2.role, .int .i64 n2.commit, .slice τ.A7 n2.votes.length τ.k7, .slice τ.A8 n2.nxt.length τ.k8, .slice τ.A9 n2.mtch.length τ.k9, .slice τ.A10 n2.forms.length τ.k10, .int .i64 n2.clock, .int .i64 n2.due]) (by simp [results, Try.results117, go_sem, u0, u1, u2, u3, u4, u5, u6, u7, u8, u9, u10, u11, u12]) rfl ?_
      exact ⟨τ, υ, by rw [HP2.out], by rw [HP2.out]; exact N9.out, B9.out, K9.out⟩

end Go.Proofs.Ytnkmljdkokcdjaa
