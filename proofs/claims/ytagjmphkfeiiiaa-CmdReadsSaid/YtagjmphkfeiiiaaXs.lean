/-
  Words beside the print's: steps that a printed walk takes again and again, each as one word with what shows its side conditions; conditions: none.
-/
import Derived.Test.YtagjmphkfeiiiaaWAll
import Derived.Test.YtagjmphkfeiiiaaWTab
import Derived.KernelRfl
import Derived.Tactics
namespace Go.Proofs.YtagjmphkfeiiiaaW.PrintWords
open Go.RowKit Go.Proofs.YtagjmphkfeiiiaaW.PrintLast
theorem am {p : Prop} (h : p) : Aside0 p := ⟨h⟩
theorem an_b {B : Nat} {w W W' : World} (_ : Below B w W) (h : Below B w W') : Below B w W' := h
theorem an_k {w W W' : World} {g : Nat} {r : Option Nat} (_ : KeepBut w W g r) (h : KeepBut w W' g r) : KeepBut w W' g r := h
theorem an_q {w W W' : World} {S : Nat → Prop} (_ : Kept w W S) (h : Kept w W' S) : Kept w W' S := h
theorem an_h {w w' : World} {g : Nat} {o : Obj} (_ : w.heap[g]? = some o) (h : w'.heap[g]? = some o) : w'.heap[g]? = some o := h
theorem z2 {p0 p1 : Prop} (h0 : p0) (h1 : p1) : Aside0 p0 ∧ Aside0 p1 := ⟨⟨h0⟩, ⟨h1⟩⟩
theorem z3 {p0 p1 p2 : Prop} (h0 : p0) (h1 : p1) (h2 : p2) : Aside0 p0 ∧ Aside0 p1 ∧ Aside0 p2 := ⟨⟨h0⟩, ⟨h1⟩, ⟨h2⟩⟩
theorem z4 {p0 p1 p2 p3 : Prop} (h0 : p0) (h1 : p1) (h2 : p2) (h3 : p3) : Aside0 p0 ∧ Aside0 p1 ∧ Aside0 p2 ∧ Aside0 p3 := ⟨⟨h0⟩, ⟨h1⟩, ⟨h2⟩, ⟨h3⟩⟩
theorem z5 {p0 p1 p2 p3 p4 : Prop} (h0 : p0) (h1 : p1) (h2 : p2) (h3 : p3) (h4 : p4) : Aside0 p0 ∧ Aside0 p1 ∧ Aside0 p2 ∧ Aside0 p3 ∧ Aside0 p4 := ⟨⟨h0⟩, ⟨h1⟩, ⟨h2⟩, ⟨h3⟩, ⟨h4⟩⟩
theorem z6 {p0 p1 p2 p3 p4 p5 : Prop} (h0 : p0) (h1 : p1) (h2 : p2) (h3 : p3) (h4 : p4) (h5 : p5) : Aside0 p0 ∧ Aside0 p1 ∧ Aside0 p2 ∧ Aside0 p3 ∧ Aside0 p4 ∧ Aside0 p5 := ⟨⟨h0⟩, ⟨h1⟩, ⟨h2⟩, ⟨h3⟩, ⟨h4⟩, ⟨h5⟩⟩
theorem z7 {p0 p1 p2 p3 p4 p5 p6 : Prop} (h0 : p0) (h1 : p1) (h2 : p2) (h3 : p3) (h4 : p4) (h5 : p5) (h6 : p6) : Aside0 p0 ∧ Aside0 p1 ∧ Aside0 p2 ∧ Aside0 p3 ∧ Aside0 p4 ∧ Aside0 p5 ∧ Aside0 p6 := ⟨⟨h0⟩, ⟨h1⟩, ⟨h2⟩, ⟨h3⟩, ⟨h4⟩, ⟨h5⟩, ⟨h6⟩⟩
theorem z8 {p0 p1 p2 p3 p4 p5 p6 p7 : Prop} (h0 : p0) (h1 : p1) (h2 : p2) (h3 : p3) (h4 : p4) (h5 : p5) (h6 : p6) (h7 : p7) : Aside0 p0 ∧ Aside0 p1 ∧ Aside0 p2 ∧ Aside0 p3 ∧ Aside0 p4 ∧ Aside0 p5 ∧ Aside0 p6 ∧ Aside0 p7 := ⟨⟨h0⟩, ⟨h1⟩, ⟨h2⟩, ⟨h3⟩, ⟨h4⟩, ⟨h5⟩, ⟨h6⟩, ⟨h7⟩⟩
theorem z10 {p0 p1 p2 p3 p4 p5 p6 p7 p8 p9 : Prop} (h0 : p0) (h1 : p1) (h2 : p2) (h3 : p3) (h4 : p4) (h5 : p5) (h6 : p6) (h7 : p7) (h8 : p8) (h9 : p9) : Aside0 p0 ∧ Aside0 p1 ∧ Aside0 p2 ∧ Aside0 p3 ∧ Aside0 p4 ∧ Aside0 p5 ∧ Aside0 p6 ∧ Aside0 p7 ∧ Aside0 p8 ∧ Aside0 p9 := ⟨⟨h0⟩, ⟨h1⟩, ⟨h2⟩, ⟨h3⟩, ⟨h4⟩, ⟨h5⟩, ⟨h6⟩, ⟨h7⟩, ⟨h8⟩, ⟨h9⟩⟩
theorem z11 {p0 p1 p2 p3 p4 p5 p6 p7 p8 p9 p10 : Prop} (h0 : p0) (h1 : p1) (h2 : p2) (h3 : p3) (h4 : p4) (h5 : p5) (h6 : p6) (h7 : p7) (h8 : p8) (h9 : p9) (h10 : p10) : Aside0 p0 ∧ Aside0 p1 ∧ Aside0 p2 ∧ Aside0 p3 ∧ Aside0 p4 ∧ Aside0 p5 ∧ Aside0 p6 ∧ Aside0 p7 ∧ Aside0 p8 ∧ Aside0 p9 ∧ Aside0 p10 := ⟨⟨h0⟩, ⟨h1⟩, ⟨h2⟩, ⟨h3⟩, ⟨h4⟩, ⟨h5⟩, ⟨h6⟩, ⟨h7⟩, ⟨h8⟩, ⟨h9⟩, ⟨h10⟩⟩
theorem bel {p : Prop} (h : p := by refine an_b HB.out ?_; repeat (first | (with_reducible first | exact HB.out | apply below_alloc | apply pw_below_drewN | apply below_drew1 | refine below_set ?_ (Aside0.out (by assumption)) | refine below_set ?_ (IsS60.ge HI0.out) | refine below_set ?_ (IsS65.ge HI0.out)) | exact HB.out)) : p := h
theorem bk {p q : Prop} (x : p) (h : p → q := by intro x_; refine an_h x_ ?_; (with_reducible repeat (first | apply blk_drewN | apply blk_drew | apply blk_alloc | refine blk_far ?_ (Aside0.out (by assumption)) _)); exact x_) : q := h x
theorem an_p {w w' : World} {g t : Nat} {cs cs' : Array Value} (_ : w.heap[g]? = some (.cells cs t (0, 0))) (h : w'.heap[g]? = some (.cells cs' t (0, 0))) : w'.heap[g]? = some (.cells cs' t (0, 0)) := h
theorem bp {p q : Prop} (x : p) (h : p → q := by intro x_; refine an_p x_ ?_; (with_reducible repeat (first | exact x_ | apply blk_drewN | apply blk_drew | apply blk_alloc | (focus (apply blk_far; (rotate_left; exact Aside0.out (by assumption)))) | apply blk_put)); (all_goals first | exact x_ | rfl)) : q := h x
theorem kr {p q : Prop} (x : p) (h : p → q := by intro x_; (with_reducible repeat (first | apply Kd.R_alloc | apply Kd.R_drewN | apply Kd.R_drew)); exact x_) : q := h x
theorem kp {p : Prop} (h : p := by refine an_k HK.out ?_; repeat (first | (with_reducible first | exact HK.out | apply KeepBut.set_ | apply keep_drewN | apply keep_drew | apply keep_alloc | refine keep_far ?_ (Aside0.out (by assumption)) _) | exact HK.out)) : p := h
theorem kq {p : Prop} (h : p := by refine an_q HK.out ?_; repeat (first | (with_reducible first | exact HK.out | apply Kept.alloc | apply Kept.drewN | apply Kept.drew | refine Kept.setCell ?_ (.inr (Aside0.out (by assumption))) _) | exact HK.out)) : p := h
theorem iz {p : Prop} (h : p := by repeat (first | (with_reducible first | exact HI0.out | apply IsS60.alloc | apply IsS60.drewN | apply IsS60.drew | apply IsS60.set_0 | apply IsS60.set_1 | refine IsS60.far ?_ (Aside0.out (by assumption)) _) | exact HI0.out)) : p := h
theorem iy {p : Prop} (h : p := by repeat (first | (with_reducible first | exact HI0.out | apply IsS65.alloc | apply IsS65.drewN | apply IsS65.drew | apply IsS65.set_0 | apply IsS65.set_1 | refine IsS65.far ?_ (Aside0.out (by assumption)) _) | exact HI0.out)) : p := h
theorem er {p : Prop} (h : p := by first | rfl | (simp [errW_none, errW_some] <;> rfl) | (simp [*, errW_none, errW_some] <;> rfl)) : p := h
theorem ar {p : Prop} (h : p := by (try simp only [List.map_toArray, List.map_cons, List.map_nil]); first | done | rfl | (simp only [List.length_drop, List.length_take]; rfl)) : p := h
section
variable {P : Program} {ops : Array Oper} {Q : Exit → Act → World → Prop} {md : Region.Mode} {S : World → Prop} {ds : List Nat} {oi : Oper} {v : Value} {fuel : Nat} {l : Array Bool} {a a' : Act} {w : World}
theorem pu (i : Nat) (N : Option Tmp) (l' : Array Bool) (h : wpAnyLast P md ops Q S ds fuel l' a' w) (hi : ops[i]? = some oi := by exact rfl) (hN : oi.dst = N := by exact rfl) (hc : anyB md ops l l' i = true := by exact any_of HT_.out (by kernel_rfl))
    (hQ : ∀ c a w, Q (.panic c) (a.put oi.dst v) w → Q (.panic c) a w := by exact fun _ _ _ h => h) (hy : Yields P ops oi v a := by refine Or.inl ⟨by rfl, ?_⟩; intro w'; go_simp; with_reducible rfl) (ha : a.put N v = a' := by simp only [Act.put, List.setIfInBounds_toArray, List.set_cons_zero, List.set_cons_succ, i64_w, i32_w]; rfl) :
    wpAnyLast P md ops Q S ds (fuel + 1) l a w := pure_ l' hi hN hc hQ hy ha h
theorem ta (i : Nat) (N : Option Tmp) (l' : Array Bool) (h : wpAnyLast P md ops Q S ds fuel l' a' w) (hi : ops[i]? = some oi := by exact rfl) (hN : oi.dst = N := by exact rfl) (hc : takeB md ops ds l l' i = true := by exact take_ofW HT_.out HW_.out (by kernel_rfl))
    (hQ : ∀ c a w, Q (.panic c) (a.put oi.dst v) w → Q (.panic c) a w := by exact fun _ _ _ h => h) (hy : YieldsIf P ops S oi v a := by refine Or.inl ⟨by rfl, ?_⟩; intro w' hs_; (repeat (first | (obtain ⟨s_, hs_⟩ := hs_))); go_simp; with_reducible rfl) (hS : S w := by exact hHeld) (ha : a.put N v = a' := by simp only [Act.put, List.setIfInBounds_toArray, List.set_cons_zero, List.set_cons_succ, i64_w, i32_w]; rfl) :
    wpAnyLast P md ops Q S ds (fuel + 1) l a w := take_ l' hi hN hc hQ hy hS ha h
theorem on (i : Nat) (N : Option Tmp) (l' : Array Bool)
    (h : ∀ K : Act → World → Prop, Shut (∀ a' w', S w' → (S w' → wpAnyLast P md ops Q S ds fuel l' a' w') → K a' w') → if Region.wanted oi (yielded ops a.tmps) = true then Oper.wp P oi a w K Q else K (a.put N undef) w)
    (hi : ops[i]? = some oi := by exact rfl) (hN : oi.dst = N := by exact rfl) (hc : readyB md ops l l' i = true := by exact one_of HT_.out (by kernel_rfl)) (hd : i ∉ ds := by decide) : wpAnyLast P md ops Q S ds (fuel + 1) l a w := one_ l' hi hN hc hd h
theorem no (N : Tmp) {b : Act} (h : wpAnyLast P md ops Q S ds fuel l a' w) (hb : a = Act.put b (some N) v := by exact rfl) (ha : Act.put b (some N) v = a' := by simp only [Act.put, List.setIfInBounds_toArray, List.set_cons_zero, List.set_cons_succ, i64_w, i32_w]; rfl) : wpAnyLast P md ops Q S ds fuel l a w := norm_ (hb.trans ha) h
theorem nq (h : wpAnyLast P md ops Q S ds fuel l a' w) (ha : a = a' := by simp only [putAll, Act.put, List.setIfInBounds_toArray, List.set_cons_zero, List.set_cons_succ]; rfl) : wpAnyLast P md ops Q S ds fuel l a w := norm_ ha h
end
section
variable {P : Program} {ops : Array Oper} {rest : List Oper} {o : Oper} {a : Act} {Q : Exit → Act → World → Prop} {W : World}
theorem bx (N : Tmp) (t : TypeId) {cs : Array Value}
    (h : ∀ g, g = W.heap.size → ∀ w1, w1.heap[g]? = some (.cells cs t (0, 0)) → Below W.heap.size W w1 → wpList P ops Q rest (a.put o.dst (.pointer (some ⟨g, 0, none⟩))) w1)
    (hd : o.dst = some N := by rfl) (hgd : o.guard = none := by rfl)
    (hrun : (execOp a.eval o).run P W = .ok (.value (.pointer (some ⟨W.heap.size, 0, none⟩))) (W.alloc (.cells cs t (0, 0))) := by first | (go_simp; done) | (go_simp; rfl)) : wpList P ops Q (o :: rest) a W := box_event hgd hd hrun h
end
end Go.Proofs.YtagjmphkfeiiiaaW.PrintWords
