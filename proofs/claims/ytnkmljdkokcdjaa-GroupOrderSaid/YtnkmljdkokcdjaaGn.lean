/-
  The group's Node answers as the plain function. Condition: the group may be walked.
-/
import Derived.WalkKit
import Derived.WalkSpells
import Derived.Lib.Hide
import Derived.Outline
import Derived.Test.YtnkmljdkokcdjaaChecked
import Derived.Test.YtnkmljdkokcdjaaMn
import Derived.Test.YtnkmljdkokcdjaaMem
import Derived.Test.YtnkmljdkokcdjaaFed
import Derived.Test.YtnkmljdkokcdjaaGg
import Derived.Test.YtnkmljdkokcdjaaClone
import Derived.Deep.DeepCutAuto
import Derived.Deep.CutBlock
import Derived.Deep.OwnRows
import Derived.IntWalk
set_option linter.unusedVariables false
set_option linter.unusedSimpArgs false
namespace Go.Proofs.Ytnkmljdkokcdjaa
open Go.RowKit Fed
set_option linter.unusedVariables false
attribute [local go_sem high] Fed.max2_int Fed.min2_int

/-- What 'Node' answers. -/
def NodeSays (w w' : World) (s : GS) (id : Int) (e : Ending) : Prop :=
  (∃ i : Nat, id = i ∧ i < s.ns.length ∧ ∃ τ, e = .returned (.tuple #[.agg #[.int .i64 (s.node id).id, .int .i64 (s.node id).term, .int .i64 (s.node id).vote, .slice τ.A3 (s.node id).log.length τ.k3, .int .i64 (s.node id).form, .int .i64 (s.node id).role, .int .i64 (s.node id).commit, .slice τ.A7 (s.node id).votes.length τ.k7, .slice τ.A8 (s.node id).nxt.length τ.k8, .slice τ.A9 (s.node id).mtch.length τ.k9, .slice τ.A10 (s.node id).forms.length τ.k10, .int .i64 (s.node id).clock, .int .i64 (s.node id).due], .bool true]) ∧ NodeVs w' (fun k => w.heap.size ≤ k) (s.node id) τ) ∨ (¬ (0 ≤ id ∧ id < s.ns.length) ∧ e = .returned (.tuple #[.agg #[.int .i64 0, .int .i64 0, .int .i64 0, .slice none 0 0, .int .i64 0, .int .i64 0, .int .i64 0, .slice none 0 0, .slice none 0 0, .slice none 0 0, .slice none 0 0, .int .i64 0, .int .i64 0], .bool false]))
theorem far5 {w : World} {b k : Nat} {u3 u7 u8 u9 u10 : Value} (h : k ≠ b) : (((((w.setCell ⟨b, 3, none⟩ u3).setCell ⟨b, 7, none⟩ u7).setCell ⟨b, 8, none⟩ u8).setCell ⟨b, 9, none⟩ u9).setCell ⟨b, 10, none⟩ u10).heap[k]? = w.heap[k]? :=
  (Below.heap_setCell _ _ _ k h).trans ((Below.heap_setCell _ _ _ k h).trans ((Below.heap_setCell _ _ _ k h).trans ((Below.heap_setCell _ _ _ k h).trans (Below.heap_setCell _ _ _ k h))))
theorem set5 {w : World} {b t : Nat} {f : Nat × Nat} {a0 a1 a2 a3 a4 a5 a6 a7 a8 a9 a10 a11 a12 u3 u7 u8 u9 u10 : Value} (h : w.heap[b]? = some (.cells #[a0, a1, a2, a3, a4, a5, a6, a7, a8, a9, a10, a11, a12] t f)) : (((((w.setCell ⟨b, 3, none⟩ u3).setCell ⟨b, 7, none⟩ u7).setCell ⟨b, 8, none⟩ u8).setCell ⟨b, 9, none⟩ u9).setCell ⟨b, 10, none⟩ u10).heap[b]? = some (.cells #[a0, a1, a2, u3, a4, a5, a6, u7, u8, u9, u10, a11, a12] t f) := by
  exact (setCell_blk _ (setCell_blk _ (setCell_blk _ (setCell_blk _ (setCell_blk _ h))))).trans rfl
theorem below5 {n b : Nat} {w0 w : World} {u3 u7 u8 u9 u10 : Value} (q : Below n w0 w) (h : n ≤ b) : Below n w0 (((((w.setCell ⟨b, 3, none⟩ u3).setCell ⟨b, 7, none⟩ u7).setCell ⟨b, 8, none⟩ u8).setCell ⟨b, 9, none⟩ u9).setCell ⟨b, 10, none⟩ u10) :=
  ((((q.setCell (p := ⟨b, 3, none⟩) h _).setCell (p := ⟨b, 7, none⟩) h _).setCell (p := ⟨b, 8, none⟩) h _).setCell (p := ⟨b, 9, none⟩) h _).setCell (p := ⟨b, 10, none⟩) h _
set_option maxRecDepth 100000 in
set_option maxHeartbeats 40000000 in
theorem gNode_any (w : World) (B g : Nat) (s : GS) (μ : GM) (ok : Nat → Prop) (h : GroupAt w B g s μ ok) (K : Nat) (G : GoodG K s) (hK : K ≤ 1000) (id : Int) :
    Calls Try.prog 48 #[.pointer (some ⟨g, 0, none⟩), .int .i64 id] w fun e w' => NodeSays w w' s id e ∧ Below w.heap.size w w' := by
  have c0 := h.c0
  have hg := h.lt
  by_cases hin : 0 ≤ id ∧ id < s.ns.length
  · obtain ⟨i, rfl⟩ := Int.eq_ofNat_of_zero_le hin.1
    have hi : i < s.ns.length := by omega
    have h0b : decide ((i : Int) < 0) = false := decide_eq_false (by omega)
    have h1b : decide ((s.ns.length : Int) ≤ (i : Int)) = false := decide_eq_false (by omega)
    obtain ⟨pb, hp, ea, _, _, _, σ, hv, hc⟩ := h.place hi
    have gx := G.node hi
    have l1 : (s.node (i : Int)).log.length ≤ 100000 := gx.l
    have l2 : (s.node (i : Int)).votes.length ≤ 1000 := by rw [gx.v]; exact hK
    have l3 : (s.node (i : Int)).nxt.length ≤ 1000 := by rw [gx.x]; exact hK
    have l4 : (s.node (i : Int)).mtch.length ≤ 1000 := by rw [gx.m]; exact hK
    have l5 : (s.node (i : Int)).forms.length ≤ 1000 := by rw [gx.f]; exact hK
    rw [ea] at c0
    have hpl := (h.ltp pb hp).2
    have V := Lib.hid (hv.mono (ok' := fun k => k < w.heap.size) (fun k _ hl => hl))
    have HS := Lib.hid (show ∀ (w' : World) (τ : Sl5), NodeVs w' (fun k => w.heap.size ≤ k) (s.node (i : Int)) τ → NodeSays w w' s (i : Int) (.returned (.tuple #[.agg #[.int .i64 (s.node (i : Int)).id, .int .i64 (s.node (i : Int)).term, .int .i64 (s.node (i : Int)).vote, .slice τ.A3 (s.node (i : Int)).log.length τ.k3, .int .i64 (s.node (i : Int)).form, .int .i64 (s.node (i : Int)).role, .int .i64 (s.node (i : Int)).commit, .slice τ.A7 (s.node (i : Int)).votes.length τ.k7, .slice τ.A8 (s.node (i : Int)).nxt.length τ.k8, .slice τ.A9 (s.node (i : Int)).mtch.length τ.k9, .slice τ.A10 (s.node (i : Int)).forms.length τ.k10, .int .i64 (s.node (i : Int)).clock, .int .i64 (s.node (i : Int)).due], .bool true])) from fun w' τ q => .inl ⟨i, rfl, hi, τ, rfl, q⟩)
    clear h G gx hin hp ea
    generalize s.node (i : Int) = n at *
    obtain ⟨ok, hok⟩ : ∃ ok : Nat → Prop, ok = fun k => k < w.heap.size := ⟨_, rfl⟩
    rw [← hok] at V
    have HOK := Lib.hid hok
    clear hok hv
    have x0 : w.cell? ⟨pb, i * 14, none⟩ = some (.int .i64 n.id) := hc 0 _ rfl
    have x1 : w.cell? ⟨pb, i * 14 + 1, none⟩ = some (.int .i64 n.term) := hc 1 _ rfl
    have x2 : w.cell? ⟨pb, i * 14 + 2, none⟩ = some (.int .i64 n.vote) := hc 2 _ rfl
    have x3 : w.cell? ⟨pb, i * 14 + 3, none⟩ = some (.slice σ.A3 n.log.length σ.k3) := hc 3 _ rfl
    have x4 : w.cell? ⟨pb, i * 14 + 4, none⟩ = some (.int .i64 n.form) := hc 4 _ rfl
    have x5 : w.cell? ⟨pb, i * 14 + 5, none⟩ = some (.int .i64 n.role) := hc 5 _ rfl
    have x6 : w.cell? ⟨pb, i * 14 + 6, none⟩ = some (.int .i64 n.commit) := hc 6 _ rfl
    have x7 : w.cell? ⟨pb, i * 14 + 7, none⟩ = some (.slice σ.A7 n.votes.length σ.k7) := hc 7 _ rfl
    have x8 : w.cell? ⟨pb, i * 14 + 8, none⟩ = some (.slice σ.A8 n.nxt.length σ.k8) := hc 8 _ rfl
    have x9 : w.cell? ⟨pb, i * 14 + 9, none⟩ = some (.slice σ.A9 n.mtch.length σ.k9) := hc 9 _ rfl
    have x10 : w.cell? ⟨pb, i * 14 + 10, none⟩ = some (.slice σ.A10 n.forms.length σ.k10) := hc 10 _ rfl
    have x11 : w.cell? ⟨pb, i * 14 + 11, none⟩ = some (.int .i64 n.clock) := hc 11 _ rfl
    have x12 : w.cell? ⟨pb, i * 14 + 12, none⟩ = some (.int .i64 n.due) := hc 12 _ rfl
    clear hc
    go_enter Try.func48, Try.ntmps48
    go_upto_region 4 with (fail)
    refine name_world (F := fun W => Hid (W.heap[w.heap.size]? = some (.cells #[.int .i64 0, .int .i64 0, .int .i64 0, .slice none 0 0, .int .i64 0, .int .i64 0, .int .i64 0, .slice none 0 0, .slice none 0 0, .slice none 0 0, .slice none 0 0, .int .i64 0, .int .i64 0] 28 (0, 0))) ∧ Hid (W.heap[w.heap.size + 1]? = some (.cells #[.int .i64 n.id, .int .i64 n.term, .int .i64 n.vote, .slice σ.A3 n.log.length σ.k3, .int .i64 n.form, .int .i64 n.role, .int .i64 n.commit, .slice σ.A7 n.votes.length σ.k7, .slice σ.A8 n.nxt.length σ.k8, .slice σ.A9 n.mtch.length σ.k9, .slice σ.A10 n.forms.length σ.k10, .int .i64 n.clock, .int .i64 n.due] 28 (0, 0))) ∧ Hid (NodeVs W ok n σ) ∧ Hid (Below w.heap.size w W)) _ (by exact ⟨Lib.hid ((Below.heap_alloc _ _ _ (by simp)).trans (MM.alloc_new w _)), Lib.hid (MM.alloc_new1 w _ _), Lib.hid (V.out.step (fun x _ hl => (Below.heap_alloc _ _ x (by simp; omega)).trans (Below.heap_alloc _ _ x hl))), Lib.hid (((Below.refl _ w).alloc (Nat.le_refl _) _).alloc (by simp) _)⟩) ?_
    clear V x0 x1 x2 x3 x4 x5 x6 x7 x8 x9 x10 x11 x12
    intro w0 ⟨Z0, X0, V0, HB0⟩
    have HZ0 := Lib.hid (show w.heap.size + 2 ≤ w0.heap.size from MM.blk_lt X0.out)
    have x0_3 : w0.cell? ⟨w.heap.size + 1, 3, none⟩ = some (.slice σ.A3 n.log.length σ.k3) := MM.cell_blk X0.out rfl
    have x0_7 : w0.cell? ⟨w.heap.size + 1, 7, none⟩ = some (.slice σ.A7 n.votes.length σ.k7) := MM.cell_blk X0.out rfl
    have x0_8 : w0.cell? ⟨w.heap.size + 1, 8, none⟩ = some (.slice σ.A8 n.nxt.length σ.k8) := MM.cell_blk X0.out rfl
    have x0_9 : w0.cell? ⟨w.heap.size + 1, 9, none⟩ = some (.slice σ.A9 n.mtch.length σ.k9) := MM.cell_blk X0.out rfl
    have x0_10 : w0.cell? ⟨w.heap.size + 1, 10, none⟩ = some (.slice σ.A10 n.forms.length σ.k10) := MM.cell_blk X0.out rfl
    refine Go.RT.wp_region_tree [0, 1, 3, 0, 8, 31, 0, 64, 255, 0, 512, 2047, 0, 4096, 16383, 14047, 65535, 131071, 262143, 524287, 1048575, 2097151, 4194303, 8388607, 16777215] (.p 0 (.s 1 (.p 3 (.s 4 (.p 6 (.s 7 (.p 9 (.s 10 (.p 12 (.s 13 (.w 2 [4, 7, 10, 13] (.p 15 (.w 5 [7, 10, 13] (.w 8 [10, 13] (.w 11 [13] (.w 14 [] (.w 16 [] (.p 17 (.w 18 [] (.p 19 (.w 20 [] (.p 21 (.w 22 [] (.p 23 (.w 24 [] .nil .stop)) .stop)) .stop)) .stop)) .stop) .stop) .stop) .stop) .stop)) .stop))))))))))) (by kernel_rfl) (by kernel_rfl) ?_
    repeat (first | (refine Go.RT.step_p rfl (fun K hK => ?_); go_simp; refine hK _ ?_; clear hK K) | (refine Go.RT.step_s rfl (fun K hK => ?_); go_simp; refine hK _ ?_; clear hK K))
    (refine Go.RT.step_w rfl rfl (fun K hK => ?_) Go.RT.step_stop)
    go_wp2_with fail
    refine (clone_entry _ ok _ _ _ (MM.Rd.drew V0.out.hl) (entsC_one _) (by omega)).mono ?_
    rintro e w1 ⟨c1, o1, rfl, hr1, hb1⟩
    have V1 := Lib.hid (V0.out.step (w1 := w1) (fun x _ hl => hb1.block x hl))
    have X1 := Lib.hid ((hb1.block _ (MM.blk_lt X0.out)).trans X0.out)
    have Z1 := Lib.hid ((hb1.block _ (MM.blk_lt Z0.out)).trans Z0.out)
    have HB1 := Lib.hid (HB0.out.drew.trans (hb1.mono HB0.out.size))
    obtain ⟨A1, k1, rfl, _, _⟩ := hr1.slice
    have R1_1 := Lib.hid (hr1.rd.mono (ok' := (fun k => w.heap.size + 2 ≤ k)) (fun x hx _ => by have h1 := (hr1.lt x hx).1; have h2 := HZ0.out; have h3 : w0.heap.size ≤ x := h1; omega))
    have HZ1 := Lib.hid (show w.heap.size + 2 ≤ w1.heap.size from by have h1 := HZ0.out; have h2 := hb1.size; have h3 : w0.heap.size ≤ w1.heap.size := h2; omega)
    clear hr1 hb1
    have x1_3 : w1.cell? ⟨w.heap.size + 1, 3, none⟩ = some (.slice σ.A3 n.log.length σ.k3) := MM.cell_blk X1.out rfl
    have x1_7 : w1.cell? ⟨w.heap.size + 1, 7, none⟩ = some (.slice σ.A7 n.votes.length σ.k7) := MM.cell_blk X1.out rfl
    have x1_8 : w1.cell? ⟨w.heap.size + 1, 8, none⟩ = some (.slice σ.A8 n.nxt.length σ.k8) := MM.cell_blk X1.out rfl
    have x1_9 : w1.cell? ⟨w.heap.size + 1, 9, none⟩ = some (.slice σ.A9 n.mtch.length σ.k9) := MM.cell_blk X1.out rfl
    have x1_10 : w1.cell? ⟨w.heap.size + 1, 10, none⟩ = some (.slice σ.A10 n.forms.length σ.k10) := MM.cell_blk X1.out rfl
    go_wp2_with fail
    refine Go.RT.QK_normal _ _ _ _ (hK _ _ ?_ ?_) <;> clear hK K
    · repeat (first | exact Go.RT.again_nil | (refine Go.RT.again_not rfl rfl ?_) | (refine Go.RT.again_one rfl (by go_simp <;> rfl) ?_))
    repeat (first | (refine Go.RT.step_p rfl (fun K hK => ?_); go_simp; refine hK _ ?_; clear hK K) | (refine Go.RT.step_s rfl (fun K hK => ?_); go_simp; refine hK _ ?_; clear hK K))
    (refine Go.RT.step_w rfl rfl (fun K hK => ?_) Go.RT.step_stop)
    go_wp2_with fail
    refine (clone_bool _ ok _ _ _ V1.out.hv (boolsC_one _) (by omega)).mono ?_
    rintro e w2 ⟨c2, o2, rfl, hr2, hb2⟩
    have V2 := Lib.hid (V1.out.step (w1 := w2) (fun x _ hl => hb2.block x hl))
    have X2 := Lib.hid ((hb2.block _ (MM.blk_lt X1.out)).trans X1.out)
    have Z2 := Lib.hid ((hb2.block _ (MM.blk_lt Z1.out)).trans Z1.out)
    have HB2 := Lib.hid (HB1.out.trans (hb2.mono HB1.out.size))
    obtain ⟨A2, k2, rfl, _, _⟩ := hr2.slice
    have R2_2 := Lib.hid (hr2.rd.mono (ok' := (fun k => w.heap.size + 2 ≤ k)) (fun x hx _ => by have h1 := (hr2.lt x hx).1; have h2 := HZ1.out; skip; omega))
    have HZ2 := Lib.hid (show w.heap.size + 2 ≤ w2.heap.size from by have h1 := HZ1.out; have h2 := hb2.size; skip; omega)
    have R1_2 := Lib.hid (R1_1.out.below hb2)
    clear hr2 hb2 x1_3 x1_7 x1_8 x1_9 x1_10
    have x2_3 : w2.cell? ⟨w.heap.size + 1, 3, none⟩ = some (.slice σ.A3 n.log.length σ.k3) := MM.cell_blk X2.out rfl
    have x2_7 : w2.cell? ⟨w.heap.size + 1, 7, none⟩ = some (.slice σ.A7 n.votes.length σ.k7) := MM.cell_blk X2.out rfl
    have x2_8 : w2.cell? ⟨w.heap.size + 1, 8, none⟩ = some (.slice σ.A8 n.nxt.length σ.k8) := MM.cell_blk X2.out rfl
    have x2_9 : w2.cell? ⟨w.heap.size + 1, 9, none⟩ = some (.slice σ.A9 n.mtch.length σ.k9) := MM.cell_blk X2.out rfl
    have x2_10 : w2.cell? ⟨w.heap.size + 1, 10, none⟩ = some (.slice σ.A10 n.forms.length σ.k10) := MM.cell_blk X2.out rfl
    go_wp2_with fail
    refine Go.RT.QK_normal _ _ _ _ (hK _ _ ?_ ?_) <;> clear hK K
    · repeat (first | exact Go.RT.again_nil | (refine Go.RT.again_not rfl rfl ?_) | (refine Go.RT.again_one rfl (by go_simp <;> rfl) ?_))
    (refine Go.RT.step_w rfl rfl (fun K hK => ?_) Go.RT.step_stop)
    go_wp2_with fail
    refine (clone_int _ ok _ _ _ V2.out.hn (intsC_one _) (by omega)).mono ?_
    rintro e w3 ⟨c3, o3, rfl, hr3, hb3⟩
    have V3 := Lib.hid (V2.out.step (w1 := w3) (fun x _ hl => hb3.block x hl))
    have X3 := Lib.hid ((hb3.block _ (MM.blk_lt X2.out)).trans X2.out)
    have Z3 := Lib.hid ((hb3.block _ (MM.blk_lt Z2.out)).trans Z2.out)
    have HB3 := Lib.hid (HB2.out.trans (hb3.mono HB2.out.size))
    obtain ⟨A3, k3, rfl, _, _⟩ := hr3.slice
    have R3_3 := Lib.hid (hr3.rd.mono (ok' := (fun k => w.heap.size + 2 ≤ k)) (fun x hx _ => by have h1 := (hr3.lt x hx).1; have h2 := HZ2.out; skip; omega))
    have HZ3 := Lib.hid (show w.heap.size + 2 ≤ w3.heap.size from by have h1 := HZ2.out; have h2 := hb3.size; skip; omega)
    have R1_3 := Lib.hid (R1_2.out.below hb3)
    have R2_3 := Lib.hid (R2_2.out.below hb3)
    clear hr3 hb3 x2_3 x2_7 x2_8 x2_9 x2_10
    have x3_3 : w3.cell? ⟨w.heap.size + 1, 3, none⟩ = some (.slice σ.A3 n.log.length σ.k3) := MM.cell_blk X3.out rfl
    have x3_7 : w3.cell? ⟨w.heap.size + 1, 7, none⟩ = some (.slice σ.A7 n.votes.length σ.k7) := MM.cell_blk X3.out rfl
    have x3_8 : w3.cell? ⟨w.heap.size + 1, 8, none⟩ = some (.slice σ.A8 n.nxt.length σ.k8) := MM.cell_blk X3.out rfl
    have x3_9 : w3.cell? ⟨w.heap.size + 1, 9, none⟩ = some (.slice σ.A9 n.mtch.length σ.k9) := MM.cell_blk X3.out rfl
    have x3_10 : w3.cell? ⟨w.heap.size + 1, 10, none⟩ = some (.slice σ.A10 n.forms.length σ.k10) := MM.cell_blk X3.out rfl
    go_wp2_with fail
    refine Go.RT.QK_normal _ _ _ _ (hK _ _ ?_ ?_) <;> clear hK K
    · repeat (first | exact Go.RT.again_nil | (refine Go.RT.again_not rfl rfl ?_) | (refine Go.RT.again_one rfl (by go_simp <;> rfl) ?_))
    (refine Go.RT.step_w rfl rfl (fun K hK => ?_) Go.RT.step_stop)
    go_wp2_with fail
    refine (clone_int _ ok _ _ _ V3.out.hm (intsC_one _) (by omega)).mono ?_
    rintro e w4 ⟨c4, o4, rfl, hr4, hb4⟩
    have V4 := Lib.hid (V3.out.step (w1 := w4) (fun x _ hl => hb4.block x hl))
    have X4 := Lib.hid ((hb4.block _ (MM.blk_lt X3.out)).trans X3.out)
    have Z4 := Lib.hid ((hb4.block _ (MM.blk_lt Z3.out)).trans Z3.out)
    have HB4 := Lib.hid (HB3.out.trans (hb4.mono HB3.out.size))
    obtain ⟨A4, k4, rfl, _, _⟩ := hr4.slice
    have R4_4 := Lib.hid (hr4.rd.mono (ok' := (fun k => w.heap.size + 2 ≤ k)) (fun x hx _ => by have h1 := (hr4.lt x hx).1; have h2 := HZ3.out; skip; omega))
    have HZ4 := Lib.hid (show w.heap.size + 2 ≤ w4.heap.size from by have h1 := HZ3.out; have h2 := hb4.size; skip; omega)
    have R1_4 := Lib.hid (R1_3.out.below hb4)
    have R2_4 := Lib.hid (R2_3.out.below hb4)
    have R3_4 := Lib.hid (R3_3.out.below hb4)
    clear hr4 hb4 x3_3 x3_7 x3_8 x3_9 x3_10
    have x4_3 : w4.cell? ⟨w.heap.size + 1, 3, none⟩ = some (.slice σ.A3 n.log.length σ.k3) := MM.cell_blk X4.out rfl
    have x4_7 : w4.cell? ⟨w.heap.size + 1, 7, none⟩ = some (.slice σ.A7 n.votes.length σ.k7) := MM.cell_blk X4.out rfl
    have x4_8 : w4.cell? ⟨w.heap.size + 1, 8, none⟩ = some (.slice σ.A8 n.nxt.length σ.k8) := MM.cell_blk X4.out rfl
    have x4_9 : w4.cell? ⟨w.heap.size + 1, 9, none⟩ = some (.slice σ.A9 n.mtch.length σ.k9) := MM.cell_blk X4.out rfl
    have x4_10 : w4.cell? ⟨w.heap.size + 1, 10, none⟩ = some (.slice σ.A10 n.forms.length σ.k10) := MM.cell_blk X4.out rfl
    go_wp2_with fail
    refine Go.RT.QK_normal _ _ _ _ (hK _ _ ?_ ?_) <;> clear hK K
    · repeat (first | exact Go.RT.again_nil | (refine Go.RT.again_not rfl rfl ?_) | (refine Go.RT.again_one rfl (by go_simp <;> rfl) ?_))
    (refine Go.RT.step_w rfl rfl (fun K hK => ?_) Go.RT.step_stop)
    go_wp2_with fail
    refine (clone_int _ ok _ _ _ V4.out.hf (intsC_one _) (by omega)).mono ?_
    rintro e w5 ⟨c5, o5, rfl, hr5, hb5⟩
    have V5 := Lib.hid (V4.out.step (w1 := w5) (fun x _ hl => hb5.block x hl))
    have X5 := Lib.hid ((hb5.block _ (MM.blk_lt X4.out)).trans X4.out)
    have Z5 := Lib.hid ((hb5.block _ (MM.blk_lt Z4.out)).trans Z4.out)
    have HB5 := Lib.hid (HB4.out.trans (hb5.mono HB4.out.size))
    obtain ⟨A5, k5, rfl, _, _⟩ := hr5.slice
    have R5_5 := Lib.hid (hr5.rd.mono (ok' := (fun k => w.heap.size + 2 ≤ k)) (fun x hx _ => by have h1 := (hr5.lt x hx).1; have h2 := HZ4.out; skip; omega))
    have HZ5 := Lib.hid (show w.heap.size + 2 ≤ w5.heap.size from by have h1 := HZ4.out; have h2 := hb5.size; skip; omega)
    have R1_5 := Lib.hid (R1_4.out.below hb5)
    have R2_5 := Lib.hid (R2_4.out.below hb5)
    have R3_5 := Lib.hid (R3_4.out.below hb5)
    have R4_5 := Lib.hid (R4_4.out.below hb5)
    clear hr5 hb5 x4_3 x4_7 x4_8 x4_9 x4_10
    have x5_3 : w5.cell? ⟨w.heap.size + 1, 3, none⟩ = some (.slice σ.A3 n.log.length σ.k3) := MM.cell_blk X5.out rfl
    have x5_7 : w5.cell? ⟨w.heap.size + 1, 7, none⟩ = some (.slice σ.A7 n.votes.length σ.k7) := MM.cell_blk X5.out rfl
    have x5_8 : w5.cell? ⟨w.heap.size + 1, 8, none⟩ = some (.slice σ.A8 n.nxt.length σ.k8) := MM.cell_blk X5.out rfl
    have x5_9 : w5.cell? ⟨w.heap.size + 1, 9, none⟩ = some (.slice σ.A9 n.mtch.length σ.k9) := MM.cell_blk X5.out rfl
    have x5_10 : w5.cell? ⟨w.heap.size + 1, 10, none⟩ = some (.slice σ.A10 n.forms.length σ.k10) := MM.cell_blk X5.out rfl
    obtain ⟨q0, q1, q2, q3, q4, q5, q6, q7, q8, q9, q10, q11, q12⟩ := MM.cells13 X5.out
    obtain ⟨y0, y1, y2, y3, y4, y5, y6, y7, y8, y9, y10, y11, y12⟩ := MM.frees13 X5.out
    go_wp2_with fail
    refine Go.RT.QK_normal _ _ _ _ (hK _ _ ?_ ?_) <;> clear hK K
    · repeat (first | exact Go.RT.again_nil | (refine Go.RT.again_not rfl rfl ?_) | (refine Go.RT.again_one rfl (by go_simp <;> rfl) ?_))
    (refine Go.RT.step_w rfl rfl (fun K hK => ?_) Go.RT.step_stop)
    go_wp2
    refine Go.RT.QK_normal _ _ _ _ (hK _ _ ?_ ?_) <;> clear hK K
    · repeat (first | exact Go.RT.again_nil | (refine Go.RT.again_not rfl rfl ?_) | (refine Go.RT.again_one rfl (by go_simp <;> rfl) ?_))
    repeat (first | (refine Go.RT.step_p rfl (fun K hK => ?_); go_simp; refine hK _ ?_; clear hK K) | (refine Go.RT.step_s rfl (fun K hK => ?_); go_simp; refine hK _ ?_; clear hK K))
    (refine Go.RT.step_w rfl rfl (fun K hK => ?_) Go.RT.step_stop)
    go_wp2
    refine Go.RT.QK_normal _ _ _ _ (hK _ _ ?_ ?_) <;> clear hK K
    · repeat (first | exact Go.RT.again_nil | (refine Go.RT.again_not rfl rfl ?_) | (refine Go.RT.again_one rfl (by go_simp <;> rfl) ?_))
    repeat (first | (refine Go.RT.step_p rfl (fun K hK => ?_); go_simp; refine hK _ ?_; clear hK K) | (refine Go.RT.step_s rfl (fun K hK => ?_); go_simp; refine hK _ ?_; clear hK K))
    (refine Go.RT.step_w rfl rfl (fun K hK => ?_) Go.RT.step_stop)
    go_wp2
    refine Go.RT.QK_normal _ _ _ _ (hK _ _ ?_ ?_) <;> clear hK K
    · repeat (first | exact Go.RT.again_nil | (refine Go.RT.again_not rfl rfl ?_) | (refine Go.RT.again_one rfl (by go_simp <;> rfl) ?_))
    repeat (first | (refine Go.RT.step_p rfl (fun K hK => ?_); go_simp; refine hK _ ?_; clear hK K) | (refine Go.RT.step_s rfl (fun K hK => ?_); go_simp; refine hK _ ?_; clear hK K))
    (refine Go.RT.step_w rfl rfl (fun K hK => ?_) Go.RT.step_stop)
    go_wp2
    refine Go.RT.QK_normal _ _ _ _ (hK _ _ ?_ ?_) <;> clear hK K
    · repeat (first | exact Go.RT.again_nil | (refine Go.RT.again_not rfl rfl ?_) | (refine Go.RT.again_one rfl (by go_simp <;> rfl) ?_))
    repeat (first | (refine Go.RT.step_p rfl (fun K hK => ?_); go_simp; refine hK _ ?_; clear hK K) | (refine Go.RT.step_s rfl (fun K hK => ?_); go_simp; refine hK _ ?_; clear hK K))
    (refine Go.RT.step_w rfl rfl (fun K hK => ?_) Go.RT.step_stop)
    go_wp2
    refine Go.RT.QK_normal _ _ _ _ (hK _ _ ?_ ?_) <;> clear hK K
    · repeat (first | exact Go.RT.again_nil | (refine Go.RT.again_not rfl rfl ?_) | (refine Go.RT.again_one rfl (by go_simp <;> rfl) ?_))
    refine Go.RT.step_nil ?_
    go_upto_region 5 with (fail)
    refine name_world (F := fun W => Hid (W.heap[w.heap.size + 1]? = some (.cells #[.int .i64 n.id, .int .i64 n.term, .int .i64 n.vote, .slice A1 n.log.length k1, .int .i64 n.form, .int .i64 n.role, .int .i64 n.commit, .slice A2 n.votes.length k2, .slice A3 n.nxt.length k3, .slice A4 n.mtch.length k4, .slice A5 n.forms.length k5, .int .i64 n.clock, .int .i64 n.due] 28 (0, 0))) ∧ Hid (W.heap[w.heap.size]? = some (.cells #[.int .i64 0, .int .i64 0, .int .i64 0, .slice none 0 0, .int .i64 0, .int .i64 0, .int .i64 0, .slice none 0 0, .slice none 0 0, .slice none 0 0, .slice none 0 0, .int .i64 0, .int .i64 0] 28 (0, 0))) ∧ Hid (NodeVs W (fun k => w.heap.size + 2 ≤ k) n ⟨A1, k1, A2, k2, A3, k3, A4, k4, A5, k5⟩) ∧ Hid (Below w.heap.size w W)) _ (by exact ⟨Lib.hid ((set5 X5.out).trans rfl), Lib.hid ((far5 (by omega)).trans Z5.out), Lib.hid (⟨R1_5.out.step (fun x hx _ => far5 (by have h1 : w.heap.size + 2 ≤ x := hx; omega)), R2_5.out.step (fun x hx _ => far5 (by have h1 : w.heap.size + 2 ≤ x := hx; omega)), R3_5.out.step (fun x hx _ => far5 (by have h1 : w.heap.size + 2 ≤ x := hx; omega)), R4_5.out.step (fun x hx _ => far5 (by have h1 : w.heap.size + 2 ≤ x := hx; omega)), R5_5.out.step (fun x hx _ => far5 (by have h1 : w.heap.size + 2 ≤ x := hx; omega))⟩), Lib.hid (below5 HB5.out (by omega))⟩) ?_
    intro w6 ⟨X6, Z6, N6, HB6⟩
    obtain ⟨e0, e1, e2, e3, e4, e5, e6, e7, e8, e9, e10, e11, e12⟩ := MM.cells13 X6.out
    obtain ⟨f0, f1, f2, f3, f4, f5, f6, f7, f8, f9, f10, f11, f12⟩ := MM.cells13 Z6.out
    obtain ⟨g0, g1, g2, g3, g4, g5, g6, g7, g8, g9, g10, g11, g12⟩ := MM.frees13 Z6.out
    go_wp2_with fail
    refine name_world (F := fun W => Hid (W.heap[w.heap.size]? = some (.cells #[.int .i64 n.id, .int .i64 n.term, .int .i64 n.vote, .slice A1 n.log.length k1, .int .i64 n.form, .int .i64 n.role, .int .i64 n.commit, .slice A2 n.votes.length k2, .slice A3 n.nxt.length k3, .slice A4 n.mtch.length k4, .slice A5 n.forms.length k5, .int .i64 n.clock, .int .i64 n.due] 28 (0, 0))) ∧ Hid (NodeVs W (fun k => w.heap.size + 2 ≤ k) n ⟨A1, k1, A2, k2, A3, k3, A4, k4, A5, k5⟩) ∧ Hid (Below w.heap.size w W)) _ (by exact ⟨Lib.hid ((set13 Z6.out).trans rfl), Lib.hid (N6.out.step (fun x hx _ => far13 (by have h1 : w.heap.size + 2 ≤ x := hx; omega))), Lib.hid (below13 HB6.out (Nat.le_refl _))⟩) ?_
    intro w7 ⟨Z7, N7, HB7⟩
    obtain ⟨u0, u1, u2, u3, u4, u5, u6, u7, u8, u9, u10, u11, u12⟩ := MM.cells13 Z7.out
    refine bodyPost_ret (v := .tuple #[.agg #[.int .i64 n.id, .int .i64 n.term, .int .i64 n.vote, .slice A1 n.log.length k1, .int .i64 n.form, .int .i64 n.role, .int .i64 n.commit, .slice A2 n.votes.length k2, .slice A3 n.nxt.length k3, .slice A4 n.mtch.length k4, .slice A5 n.forms.length k5, .int .i64 n.clock, .int .i64 n.due], .bool true]) (by simp [results, Try.results48, go_sem, u0, u1, u2, u3, u4, u5, u6, u7, u8, u9, u10, u11, u12]) rfl ?_
    exact ⟨HS.out _ ⟨A1, k1, A2, k2, A3, k3, A4, k4, A5, k5⟩ (N7.out.mono (fun x hx _ => by have h1 : w.heap.size + 2 ≤ x := hx; omega)), HB7.out⟩
  · have HS := Lib.hid (show ∀ w', NodeSays w w' s id (.returned (.tuple #[.agg #[.int .i64 0, .int .i64 0, .int .i64 0, .slice none 0 0, .int .i64 0, .int .i64 0, .int .i64 0, .slice none 0 0, .slice none 0 0, .slice none 0 0, .slice none 0 0, .int .i64 0, .int .i64 0], .bool false])) from fun _ => .inr ⟨hin, rfl⟩)
    by_cases h0 : id < 0
    · have h0b : decide (id < 0) = true := decide_eq_true h0
      clear h G hin
      go_enter Try.func48, Try.ntmps48
      go_wp2_with fail
      refine name_world (F := fun W => Hid (W.heap[w.heap.size]? = some (.cells #[.int .i64 0, .int .i64 0, .int .i64 0, .slice none 0 0, .int .i64 0, .int .i64 0, .int .i64 0, .slice none 0 0, .slice none 0 0, .slice none 0 0, .slice none 0 0, .int .i64 0, .int .i64 0] 28 (0, 0))) ∧ Hid (Below w.heap.size w W)) _ (by exact ⟨Lib.hid (MM.alloc_new _ _), Lib.hid ((Below.refl _ w).alloc (Nat.le_refl _) _)⟩) ?_
      intro wz ⟨Z, HB⟩
      obtain ⟨u0, u1, u2, u3, u4, u5, u6, u7, u8, u9, u10, u11, u12⟩ := MM.cells13 Z.out
      refine bodyPost_ret (v := .tuple #[.agg #[.int .i64 0, .int .i64 0, .int .i64 0, .slice none 0 0, .int .i64 0, .int .i64 0, .int .i64 0, .slice none 0 0, .slice none 0 0, .slice none 0 0, .slice none 0 0, .int .i64 0, .int .i64 0], .bool false]) (by simp [results, Try.results48, go_sem, u0, u1, u2, u3, u4, u5, u6, u7, u8, u9, u10, u11, u12]) rfl ?_
      exact ⟨HS.out _, HB.out⟩
    · have h0b : decide (id < 0) = false := decide_eq_false h0
      have h1b : decide ((s.ns.length : Int) ≤ id) = true := decide_eq_true (by omega)
      clear h G hin
      go_enter Try.func48, Try.ntmps48
      go_wp2_with fail
      refine name_world (F := fun W => Hid (W.heap[w.heap.size]? = some (.cells #[.int .i64 0, .int .i64 0, .int .i64 0, .slice none 0 0, .int .i64 0, .int .i64 0, .int .i64 0, .slice none 0 0, .slice none 0 0, .slice none 0 0, .slice none 0 0, .int .i64 0, .int .i64 0] 28 (0, 0))) ∧ Hid (Below w.heap.size w W)) _ (by exact ⟨Lib.hid (MM.alloc_new _ _), Lib.hid ((Below.refl _ w).alloc (Nat.le_refl _) _)⟩) ?_
      intro wz ⟨Z, HB⟩
      obtain ⟨u0, u1, u2, u3, u4, u5, u6, u7, u8, u9, u10, u11, u12⟩ := MM.cells13 Z.out
      refine bodyPost_ret (v := .tuple #[.agg #[.int .i64 0, .int .i64 0, .int .i64 0, .slice none 0 0, .int .i64 0, .int .i64 0, .int .i64 0, .slice none 0 0, .slice none 0 0, .slice none 0 0, .slice none 0 0, .int .i64 0, .int .i64 0], .bool false]) (by simp [results, Try.results48, go_sem, u0, u1, u2, u3, u4, u5, u6, u7, u8, u9, u10, u11, u12]) rfl ?_
      exact ⟨HS.out _, HB.out⟩

end Go.Proofs.Ytnkmljdkokcdjaa
