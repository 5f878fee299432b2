/- One function's walk, or a law's, by the text that a program of this session prints; what each theorem says stands in it. -/
import Derived.Test.YtagjmphkfeiiiaaQx0
import Derived.Test.YtagjmphkfeiiiaaXs
namespace Go.Proofs.Ytagjmphkfeiiiaa.Q
open Go.RowKit Go.Proofs.YtagjmphkfeiiiaaW.PrintWords Go.Proofs.YtagjmphkfeiiiaaW.PrintLast Go.Proofs.YtagjmphkfeiiiaaW.PrintMore
attribute [local go_sem] min2_int min_two
set_option linter.unusedVariables false
set_option linter.unusedSimpArgs false
def IsS65 (w0 W : World) (g : Nat) (f0 : ByteArray) (f1 : Bool) : Prop := W.heap[g]? = some (.cells #[.string f0, .bool f1] 65 (0, 0)) ∧ w0.heap.size ≤ g
theorem IsS65.grown {w0 W : World} {g : Nat} {f0 : ByteArray} {f1 : Bool} {W1 : World} {row : Option Nat} (h : IsS65 w0 W g f0 f1) (hw : W.grownBy W1 row) (hne : some g ≠ row) : IsS65 w0 W1 g f0 f1 := by
  obtain ⟨hb, hg⟩ := h
  exact ⟨blk_grown hb hw hne, hg⟩
theorem IsS65.kept {w0 W : World} {g : Nat} {f0 : ByteArray} {f1 : Bool} {W1 : World} {S : Nat → Prop} (h : IsS65 w0 W g f0 f1) (hk : Kept W W1 S) (hne : ¬ S g) : IsS65 w0 W1 g f0 f1 := by
  obtain ⟨hb, hg⟩ := h
  exact ⟨blk_kept hb hk hne, hg⟩
theorem IsS65.below {w0 W : World} {g : Nat} {f0 : ByteArray} {f1 : Bool} {W1 : World} (h : IsS65 w0 W g f0 f1) (hw : Below W.heap.size W W1) : IsS65 w0 W1 g f0 f1 := h.grown (grown_of_below hw none) (by simp)
theorem IsS65.alloc {w0 W : World} {g : Nat} {f0 : ByteArray} {f1 : Bool} (h : IsS65 w0 W g f0 f1) (o : Obj) : IsS65 w0 (W.alloc o) g f0 f1 := h.below (below_alloc (Below.refl _ _) o)
theorem IsS65.drewN {w0 W : World} {g : Nat} {f0 : ByteArray} {f1 : Bool} (h : IsS65 w0 W g f0 f1) (m : Nat) : IsS65 w0 (W.drewN m) g f0 f1 := h
theorem IsS65.drew {w0 W : World} {g : Nat} {f0 : ByteArray} {f1 : Bool} (h : IsS65 w0 W g f0 f1) : IsS65 w0 W.drew g f0 f1 := h
theorem IsS65.at_ {w0 W : World} {g : Nat} {f0 : ByteArray} {f1 : Bool} {w' : World} {m : Nat} (hq : W.drewN m = w') (h : IsS65 w0 W g f0 f1) : IsS65 w0 w' g f0 f1 := by subst hq; exact IsS65.drewN h m
theorem IsS65.apart {w0 W : World} {g : Nat} {f0 : ByteArray} {f1 : Bool} {α : Type} {d : Kd α} {e : Nat} {base : Nat} {ok : Nat → Prop} {v : Value} {xs : List α} (h : IsS65 w0 W g f0 f1) (ho : d.R e W base ok v xs) (ht : ∀ q, q ∈ e :: d.E → q ≠ 65) : d.R e W base (fun k => ok k ∧ k ≠ g) v xs := by
  obtain ⟨hb, hg⟩ := h
  exact Kd.R_types ho hb ht
theorem IsS65.own_ne {w0 W : World} {g : Nat} {f0 : ByteArray} {f1 : Bool} {α : Type} {d : Kd α} {e : Nat} {base : Nat} {ok : Nat → Prop} {v : Value} {xs : List α} (h : IsS65 w0 W g f0 f1) (ho : d.R e W base ok v xs) (ht : e ≠ 65) : some g ≠ v.ownBlock := by
  obtain ⟨hb, hg⟩ := h
  exact Kd.R_ne ho hb ht
theorem IsS65.lt {w0 W : World} {g : Nat} {f0 : ByteArray} {f1 : Bool} (h : IsS65 w0 W g f0 f1) : g < W.heap.size := by
  obtain ⟨hb, hg⟩ := h
  exact blk_lt hb
theorem IsS65.ge {w0 W : World} {g : Nat} {f0 : ByteArray} {f1 : Bool} (h : IsS65 w0 W g f0 f1) : w0.heap.size ≤ g := by
  obtain ⟨hb, hg⟩ := h
  exact hg
theorem IsS65.ne_blk {w0 W : World} {g : Nat} {f0 : ByteArray} {f1 : Bool} {a : Nat} {cs : Array Value} {t : TypeId} {fr : Nat × Nat} (h : IsS65 w0 W g f0 f1) (hb2 : W.heap[a]? = some (.cells cs t fr)) (ht : t ≠ 65) : g ≠ a := by
  obtain ⟨hb, hg⟩ := h
  rintro rfl
  rw [hb] at hb2
  injection hb2 with hb2
  injection hb2 with _ ht2
  exact ht ht2.symm
theorem IsS65.from_ {w0 W W1 : World} {g : Nat} {f0 : ByteArray} {f1 : Bool} (_ : IsS65 w0 W g f0 f1) (h : IsS65 w0 W1 g f0 f1) : IsS65 w0 W1 g f0 f1 := h
theorem IsS65.far {w0 W : World} {g : Nat} {f0 : ByteArray} {f1 : Bool} {p : Addr} (h : IsS65 w0 W g f0 f1) (hne : g ≠ p.block) (u : Value) : IsS65 w0 (W.setCell p u) g f0 f1 := by
  obtain ⟨hb, hg⟩ := h
  exact ⟨blk_far hb hne u, hg⟩
theorem cellS65_0 {W : World} {g : Nat} {f0 : ByteArray} {f1 : Bool} (h : W.heap[g]? = some (.cells #[.string f0, .bool f1] 65 (0, 0))) : W.cell? ⟨g, 0, none⟩ = some (.string f0) := (blk_cell h 0).trans rfl
theorem IsS65.set_0 {w0 W : World} {g : Nat} {f0 : ByteArray} {f1 : Bool} (h : IsS65 w0 W g f0 f1) (x : ByteArray) : IsS65 w0 (W.setCell ⟨g, 0, none⟩ (.string x)) g x f1 := by
  obtain ⟨hb, hg⟩ := h
  exact ⟨by simpa using blk_set hb 0 (.string x), hg⟩
theorem cellS65_1 {W : World} {g : Nat} {f0 : ByteArray} {f1 : Bool} (h : W.heap[g]? = some (.cells #[.string f0, .bool f1] 65 (0, 0))) : W.cell? ⟨g, 1, none⟩ = some (.bool f1) := (blk_cell h 1).trans rfl
theorem IsS65.set_1 {w0 W : World} {g : Nat} {f0 : ByteArray} {f1 : Bool} (h : IsS65 w0 W g f0 f1) (x : Bool) : IsS65 w0 (W.setCell ⟨g, 1, none⟩ (.bool x)) g f0 x := by
  obtain ⟨hb, hg⟩ := h
  exact ⟨by simpa using blk_set hb 1 (.bool x), hg⟩
def federationref7_reader_fixed.l0 : Nat → Int → Int → Int → ByteArray → Bool → Option (Int × ByteArray × Bool)
  | 0, _, _, _, _, _ => none
  | k + 1, x1, x5, x6, x1000, x1001 => if x6 < x1 then (if 0 ≤ x6 then (if x6 < (x1000.size : Int) then (federationref7_reader_fixed.l0 k x1 (Go.bits .or .i64 (wrap64 (x5 * 256)) (wrap64 (bt x1000 x6))) (wrap64 (x6 + 1)) x1000 x1001) else (none)) else (none)) else (if 0 ≤ x1 then (if x1 ≤ (x1000.size : Int) then (some (x5, x1000.extract (x1 : Int).toNat x1000.size, x1001)) else (none)) else (none))
def federationref7_reader_fixed.f (k : Nat) (s0_0 : ByteArray) (s0_1 : Bool) (a1 : Int) : Option (Int × ByteArray × Bool) := if (s0_0.size : Int) < a1 then (some (0, (⟨#[]⟩ : ByteArray), true)) else (federationref7_reader_fixed.l0 k a1 0 0 s0_0 s0_1)
theorem federationref7_reader_fixed.mono_l : ∀ k, (∀ y0 y1 y2 y3 y4, LeO (federationref7_reader_fixed.l0 k y0 y1 y2 y3 y4) (federationref7_reader_fixed.l0 (k + 1) y0 y1 y2 y3 y4))
  | 0 => fun _ _ _ _ _ r h => by simp [federationref7_reader_fixed.l0] at h
  | k + 1 => by
    have ih0 := federationref7_reader_fixed.mono_l k
    · intro y0 y1 y2 y3 y4
      unfold federationref7_reader_fixed.l0
      repeat' first
      | (with_reducible exact ih0 _ _ _ _ _)
      | (with_reducible exact LeO.refl _)
      | (with_reducible exact LeO.none _)
      | (with_reducible refine LeO.ite ?_ ?_)
      | (with_reducible refine LeO.bind ?_ (fun _ => ?_))
theorem federationref7_reader_fixed.mono : ∀ a0 a1 a2 k, LeO (federationref7_reader_fixed.f k a0 a1 a2) (federationref7_reader_fixed.f (k + 1) a0 a1 a2) := by
  intro a0 a1 a2 k
  have ih0 := federationref7_reader_fixed.mono_l k
  unfold federationref7_reader_fixed.f
  repeat' first
      | (with_reducible exact ih0 _ _ _ _ _)
      | (with_reducible exact LeO.refl _)
      | (with_reducible exact LeO.none _)
      | (with_reducible refine LeO.ite ?_ ?_)
      | (with_reducible refine LeO.bind ?_ (fun _ => ?_))
set_option maxHeartbeats 8000000 in
set_option maxRecDepth 100000 in
theorem federationref7_reader_fixed.calls (k : Nat) (g : Nat) (s0_0 : ByteArray) (s0_1 : Bool) (a1 : Int) (r1 : Int) (r2 : ByteArray) (r3 : Bool) (w0 w : World) (hI : IsS65 w0 w g s0_0 s0_1) (hB : Below w0.heap.size w0 w) (h : federationref7_reader_fixed.f k s0_0 s0_1 a1 = some (r1, r2, r3)) :
  Calls Try.prog 55 #[.pointer (some ⟨g, 0, none⟩), .int .i64 a1] w fun e w' => e = .returned (.int .i64 r1) ∧ IsS65 w0 w' g r2 r3 ∧ Below w0.heap.size w0 w' ∧ KeepBut w w' g none := by
 have HI0 := am hI
 have HK := am (KeepBut.refl w g none)
 have HL := am hB.size
 clear hI
 have HW0 := am hB.size
 have HB := am hB
 clear hB
 have H : (if (s0_0.size : Int) < a1 then (some (0, (⟨#[]⟩ : ByteArray), true)) else (federationref7_reader_fixed.l0 k a1 0 0 s0_0 s0_1)) = some (r1, r2, r3) := h
 clear h
 by_cases c3 : (s0_0.size : Int) < a1
 ·rw [if_pos c3] at H
  have c3b0 : decide ((s0_0.size : Int) < a1) = true := decide_eq_true c3
  clear c3
  simp only [Option.some.injEq, Prod.mk.injEq] at H
  obtain ⟨rfl, rfl, rfl⟩ := H
  obtain ⟨HGz4, hgz4⟩ := HI0.out
  have hcz4_0 := cellS65_0 HGz4
  have hcz4_1 := cellS65_1 HGz4
  have hfz4_0 := blk_frozen HGz4 0
  have hfz4_1 := blk_frozen HGz4 1
  clear HGz4 hgz4
  go_enter Try.func55, Try.ntmps55
  go_wp2
  go_ret
  exact ⟨er, iy, bel, kp⟩
 ·rw [if_neg c3] at H
  have c3b0 : decide ((s0_0.size : Int) < a1) = false := decide_eq_false c3
  clear c3
  have H' := am H
  clear H
  obtain ⟨HGz5, hgz5⟩ := HI0.out
  have hcz5_0 := cellS65_0 HGz5
  have hcz5_1 := cellS65_1 HGz5
  have hfz5_0 := blk_frozen HGz5 0
  have hfz5_1 := blk_frozen HGz5 1
  clear HGz5 hgz5
  go_enter Try.func55, Try.ntmps55
  go_wp2
  go_loopg [5, 6] k (fun kq v5 v6 w' => ∃ (x5_1 : Int) (x6_1 : Int), v5 = .int .i64 x5_1 ∧ v6 = .int .i64 x6_1 ∧ Aside0 (federationref7_reader_fixed.l0 kq a1 x5_1 x6_1 s0_0 s0_1 = some (r1, r2, r3)) ∧ Aside0 (kq ≤ k) ∧ Aside0 (IsS65 w0 w' g s0_0 s0_1) ∧ Aside0 (KeepBut w w' g none) ∧ Aside0 (Below w0.heap.size w0 w'))
  case atStart => exact ⟨(0), (0), (by first | rfl | (simp; done) | (simp [*]; done)), (by first | rfl | (simp; done) | (simp [*]; done)), H', ⟨Nat.le_refl _⟩, ⟨iy⟩, ⟨kp⟩, ⟨bel⟩⟩
  case round =>
   clear H'
   try clear p2
   try clear c3
   try clear c3b0
   try clear c5
   try clear hcz4_0 hcz4_1
   try clear hcz5_0 hcz5_1
   try clear hfz4_0 hfz4_1
   try clear hfz5_0 hfz5_1
   obtain ⟨x5_1, x6_1, rfl, rfl, HA, HK1, HI0, HK, HB⟩ := hrel
   cases gk with
   | zero => exact absurd HA.out (by simp [federationref7_reader_fixed.l0])
   | succ k1 =>
    have H := HA.out
    clear HA
    simp only [federationref7_reader_fixed.l0] at H
    by_cases c6 : x6_1 < a1
    ·rw [if_pos c6] at H
     have c6b0 : decide (x6_1 < a1) = true := decide_eq_true c6
     clear c6
     by_cases c7 : 0 ≤ x6_1
     ·rw [if_pos c7] at H
      have c7b0 : decide (0 ≤ x6_1) = true := decide_eq_true c7
      clear c7
      by_cases c8 : x6_1 < (s0_0.size : Int)
      ·rw [if_pos c8] at H
       have c8b0 : decide (x6_1 < (s0_0.size : Int)) = true := decide_eq_true c8
       clear c8
       have H' := am H
       clear H
       obtain ⟨HGz10, hgz10⟩ := HI0.out
       have hcz10_0 := cellS65_0 HGz10
       have hcz10_1 := cellS65_1 HGz10
       have hfz10_0 := blk_frozen HGz10 0
       have hfz10_1 := blk_frozen HGz10 1
       clear HGz10 hgz10
       have p9 : 0 ≤ (x6_1 : Int) := of_decide_eq_true (by first | (with_reducible assumption) | assumption)
       have q9 : x6_1 < (s0_0.size : Int) := of_decide_eq_true (by first | (with_reducible assumption) | assumption)
       have hx9 := bt_at s0_0 x6_1
       replace p9 := eq_true p9
       replace q9 := eq_true q9
       go_wp2
       go_roundg k1
       case measure => have := HK1.out; omega
       case rel => exact ⟨(Go.bits .or .i64 (wrap64 (x5_1 * 256)) (wrap64 (bt s0_0 x6_1))), (wrap64 (x6_1 + 1)), (by first | rfl | (simp; done) | (simp [*]; done)), (by first | rfl | (simp; done) | (simp [*]; done)), H', ⟨by have := HK1.out; omega⟩, ⟨iy⟩, ⟨kp⟩, ⟨bel⟩⟩
      ·rw [if_neg c8] at H
       exact absurd H (by simp)
     ·rw [if_neg c7] at H
      exact absurd H (by simp)
    ·rw [if_neg c6] at H
     have c6b0 : decide (x6_1 < a1) = false := decide_eq_false c6
     clear c6
     by_cases c11 : 0 ≤ a1
     ·rw [if_pos c11] at H
      have c11b0 := eq_true c11
      have c11b1 : decide (0 ≤ a1) = true := decide_eq_true c11
      clear c11
      by_cases c12 : a1 ≤ (s0_0.size : Int)
      ·rw [if_pos c12] at H
       have c12b0 := eq_true c12
       have c12b1 : decide (a1 ≤ (s0_0.size : Int)) = true := decide_eq_true c12
       clear c12
       simp only [Option.some.injEq, Prod.mk.injEq] at H
       obtain ⟨rfl, rfl, rfl⟩ := H
       obtain ⟨HGz13, hgz13⟩ := HI0.out
       have hcz13_0 := cellS65_0 HGz13
       have hcz13_1 := cellS65_1 HGz13
       have hfz13_0 := blk_frozen HGz13 0
       have hfz13_1 := blk_frozen HGz13 1
       clear HGz13 hgz13
       go_wp2
       go_ret
       exact ⟨er, iy, bel, kp⟩
      ·rw [if_neg c12] at H
       exact absurd H (by simp)
     ·rw [if_neg c11] at H
      exact absurd H (by simp)
def federationref7_reader_text.f (s0_0 : ByteArray) (s0_1 : Bool) (a1 : Int) : Option (ByteArray × ByteArray × Bool) := if a1 < 0 then (some ((⟨#[]⟩ : ByteArray), (⟨#[]⟩ : ByteArray), true)) else (if a1 > (s0_0.size : Int) then (some ((⟨#[]⟩ : ByteArray), (⟨#[]⟩ : ByteArray), true)) else (if 0 ≤ a1 then (if a1 ≤ (s0_0.size : Int) then (some (s0_0.extract 0 (a1 : Int).toNat, s0_0.extract (a1 : Int).toNat s0_0.size, s0_1)) else (none)) else (none)))
set_option maxHeartbeats 8000000 in
set_option maxRecDepth 100000 in
theorem federationref7_reader_text.calls (g : Nat) (s0_0 : ByteArray) (s0_1 : Bool) (a1 : Int) (r1 : ByteArray) (r2 : ByteArray) (r3 : Bool) (w0 w : World) (hI : IsS65 w0 w g s0_0 s0_1) (hB : Below w0.heap.size w0 w) (h : federationref7_reader_text.f s0_0 s0_1 a1 = some (r1, r2, r3)) :
  Calls Try.prog 56 #[.pointer (some ⟨g, 0, none⟩), .int .i64 a1] w fun e w' => e = .returned (.string r1) ∧ IsS65 w0 w' g r2 r3 ∧ Below w0.heap.size w0 w' ∧ KeepBut w w' g none := by
 have HI0 := am hI
 have HK := am (KeepBut.refl w g none)
 have HL := am hB.size
 clear hI
 have HW0 := am hB.size
 have HB := am hB
 clear hB
 have H : (if a1 < 0 then (some ((⟨#[]⟩ : ByteArray), (⟨#[]⟩ : ByteArray), true)) else (if a1 > (s0_0.size : Int) then (some ((⟨#[]⟩ : ByteArray), (⟨#[]⟩ : ByteArray), true)) else (if 0 ≤ a1 then (if a1 ≤ (s0_0.size : Int) then (some (s0_0.extract 0 (a1 : Int).toNat, s0_0.extract (a1 : Int).toNat s0_0.size, s0_1)) else (none)) else (none)))) = some (r1, r2, r3) := h
 clear h
 by_cases c3 : a1 < 0
 ·rw [if_pos c3] at H
  have c3b0 : decide (a1 < 0) = true := decide_eq_true c3
  clear c3
  simp only [Option.some.injEq, Prod.mk.injEq] at H
  obtain ⟨rfl, rfl, rfl⟩ := H
  obtain ⟨HGz4, hgz4⟩ := HI0.out
  have hcz4_0 := cellS65_0 HGz4
  have hcz4_1 := cellS65_1 HGz4
  have hfz4_0 := blk_frozen HGz4 0
  have hfz4_1 := blk_frozen HGz4 1
  clear HGz4 hgz4
  go_enter Try.func56, Try.ntmps56
  go_wp2
  go_ret
  exact ⟨er, iy, bel, kp⟩
 ·rw [if_neg c3] at H
  have c3b0 : decide (a1 < 0) = false := decide_eq_false c3
  clear c3
  by_cases c5 : a1 > (s0_0.size : Int)
  ·rw [if_pos c5] at H
   have c5b0 : decide ((s0_0.size : Int) < a1) = true := decide_eq_true c5
   clear c5
   simp only [Option.some.injEq, Prod.mk.injEq] at H
   obtain ⟨rfl, rfl, rfl⟩ := H
   obtain ⟨HGz6, hgz6⟩ := HI0.out
   have hcz6_0 := cellS65_0 HGz6
   have hcz6_1 := cellS65_1 HGz6
   have hfz6_0 := blk_frozen HGz6 0
   have hfz6_1 := blk_frozen HGz6 1
   clear HGz6 hgz6
   go_enter Try.func56, Try.ntmps56
   go_wp2
   go_ret
   exact ⟨er, iy, bel, kp⟩
  ·rw [if_neg c5] at H
   have c5b0 : decide ((s0_0.size : Int) < a1) = false := decide_eq_false c5
   clear c5
   by_cases c7 : 0 ≤ a1
   ·rw [if_pos c7] at H
    have c7b0 := eq_true c7
    have c7b1 : decide (0 ≤ a1) = true := decide_eq_true c7
    clear c7
    by_cases c8 : a1 ≤ (s0_0.size : Int)
    ·rw [if_pos c8] at H
     have c8b0 := eq_true c8
     have c8b1 : decide (a1 ≤ (s0_0.size : Int)) = true := decide_eq_true c8
     clear c8
     have c9b0 := eq_true (of_decide_eq_true (by first | (with_reducible assumption) | assumption) : 0 ≤ a1)
     have c10b0 := eq_true (of_decide_eq_true (by first | (with_reducible assumption) | assumption) : a1 ≤ (s0_0.size : Int))
     simp only [Option.some.injEq, Prod.mk.injEq] at H
     obtain ⟨rfl, rfl, rfl⟩ := H
     obtain ⟨HGz11, hgz11⟩ := HI0.out
     have hcz11_0 := cellS65_0 HGz11
     have hcz11_1 := cellS65_1 HGz11
     have hfz11_0 := blk_frozen HGz11 0
     have hfz11_1 := blk_frozen HGz11 1
     clear HGz11 hgz11
     go_enter Try.func56, Try.ntmps56
     go_wp2
     go_ret
     exact ⟨er, iy, bel, kp⟩
    ·rw [if_neg c8] at H
     exact absurd H (by simp)
   ·rw [if_neg c7] at H
    exact absurd H (by simp)
mutual
def federationref7_reader_first.l0 : Nat → Int → Int → ByteArray → Bool → Int → Int → Int → Bool → List (S40) → ByteArray → Option (Int × Int × Int × Bool × (List (S40)) × ByteArray × ByteArray × Bool)
  | 0, _, _, _, _, _, _, _, _, _, _ => none
  | k + 1, x4, x5, x1000, x1001, x789000, x789001, x789002, x789003, x789004, x789005 => if x5 < x4 then (federationref7_reader_first.j1 k x4 x5 (!x1001) x1000 x1001 x789000 x789001 x789002 x789003 x789004 x789005) else (federationref7_reader_first.j1 k x4 x5 false x1000 x1001 x789000 x789001 x789002 x789003 x789004 x789005)
def federationref7_reader_first.j1 : Nat → Int → Int → Bool → ByteArray → Bool → Int → Int → Int → Bool → List (S40) → ByteArray → Option (Int × Int × Int × Bool × (List (S40)) × ByteArray × ByteArray × Bool)
  | 0, _, _, _, _, _, _, _, _, _, _, _ => none
  | k + 1, x4, x5, x31, x1000, x1001, x789000, x789001, x789002, x789003, x789004, x789005 => if x31 = true then ((federationref7_reader_fixed.f k x1000 x1001 2).bind fun bt801 => ((federationref7_reader_text.f bt801.2.1 bt801.2.2 bt801.1).bind fun bt804 => ((federationref7_reader_fixed.f k bt804.2.1 bt804.2.2 2).bind fun bt808 => ((federationref7_reader_text.f bt808.2.1 bt808.2.2 bt808.1).bind fun bt811 => ((federationref7_reader_fixed.f k bt811.2.1 bt811.2.2 1).bind fun bt814 => (if x789004.length < 3518437208883 then (federationref7_reader_first.l0 k x4 (wrap64 (x5 + 1)) bt814.2.1 bt814.2.2 x789000 x789001 x789002 x789003 (x789004 ++ [(⟨bt804.1, bt811.1, (bt814.1 == 1)⟩ : S40)]) x789005) else (none))))))) else (some (x789000, x789001, x789002, x789003, x789004, x789005, x1000, x1001))
end
def federationref7_reader_first.f (k : Nat) (s0_0 : ByteArray) (s0_1 : Bool) : Option (Int × Int × Int × Bool × (List (S40)) × ByteArray × ByteArray × Bool) := (federationref7_reader_fixed.f k s0_0 s0_1 1).bind fun bt785 => ((federationref7_reader_fixed.f k bt785.2.1 bt785.2.2 8).bind fun bt789 => ((federationref7_reader_fixed.f k bt789.2.1 bt789.2.2 8).bind fun bt792 => ((federationref7_reader_fixed.f k bt792.2.1 bt792.2.2 1).bind fun bt795 => ((federationref7_reader_fixed.f k bt795.2.1 bt795.2.2 2).bind fun bt798 => (federationref7_reader_first.l0 k bt798.1 0 bt798.2.1 bt798.2.2 bt785.1 bt789.1 bt792.1 (bt795.1 == 1) ([] : List (S40)) (⟨#[]⟩ : ByteArray))))))
theorem federationref7_reader_first.mono_l : ∀ k, (∀ y0 y1 y2 y3 y4 y5 y6 y7 y8 y9, LeO (federationref7_reader_first.l0 k y0 y1 y2 y3 y4 y5 y6 y7 y8 y9) (federationref7_reader_first.l0 (k + 1) y0 y1 y2 y3 y4 y5 y6 y7 y8 y9)) ∧ (∀ y0 y1 y2 y3 y4 y5 y6 y7 y8 y9 y10, LeO (federationref7_reader_first.j1 k y0 y1 y2 y3 y4 y5 y6 y7 y8 y9 y10) (federationref7_reader_first.j1 (k + 1) y0 y1 y2 y3 y4 y5 y6 y7 y8 y9 y10))
  | 0 => ⟨fun _ _ _ _ _ _ _ _ _ _ r h => by simp [federationref7_reader_first.l0] at h, fun _ _ _ _ _ _ _ _ _ _ _ r h => by simp [federationref7_reader_first.j1] at h⟩
  | k + 1 => by
    obtain ⟨ih0, ih1⟩ := federationref7_reader_first.mono_l k
    refine ⟨?_, ?_⟩
    · intro y0 y1 y2 y3 y4 y5 y6 y7 y8 y9
      unfold federationref7_reader_first.l0
      repeat' first
      | (with_reducible exact ih0 _ _ _ _ _ _ _ _ _ _)
      | (with_reducible exact ih1 _ _ _ _ _ _ _ _ _ _ _)
      | (with_reducible exact federationref7_reader_fixed.mono _ _ _ _)
      | (with_reducible exact LeO.refl _)
      | (with_reducible exact LeO.none _)
      | (with_reducible refine LeO.ite ?_ ?_)
      | (with_reducible refine LeO.bind ?_ (fun _ => ?_))
    · intro y0 y1 y2 y3 y4 y5 y6 y7 y8 y9 y10
      unfold federationref7_reader_first.j1
      repeat' first
      | (with_reducible exact ih0 _ _ _ _ _ _ _ _ _ _)
      | (with_reducible exact ih1 _ _ _ _ _ _ _ _ _ _ _)
      | (with_reducible exact federationref7_reader_fixed.mono _ _ _ _)
      | (with_reducible exact LeO.refl _)
      | (with_reducible exact LeO.none _)
      | (with_reducible refine LeO.ite ?_ ?_)
      | (with_reducible refine LeO.bind ?_ (fun _ => ?_))
theorem federationref7_reader_first.mono : ∀ a0 a1 k, LeO (federationref7_reader_first.f k a0 a1) (federationref7_reader_first.f (k + 1) a0 a1) := by
  intro a0 a1 k
  obtain ⟨ih0, ih1⟩ := federationref7_reader_first.mono_l k
  unfold federationref7_reader_first.f
  repeat' first
      | (with_reducible exact ih0 _ _ _ _ _ _ _ _ _ _)
      | (with_reducible exact ih1 _ _ _ _ _ _ _ _ _ _ _)
      | (with_reducible exact federationref7_reader_fixed.mono _ _ _ _)
      | (with_reducible exact LeO.refl _)
      | (with_reducible exact LeO.none _)
      | (with_reducible refine LeO.ite ?_ ?_)
      | (with_reducible refine LeO.bind ?_ (fun _ => ?_))
set_option maxHeartbeats 8000000 in
set_option maxRecDepth 100000 in
theorem federationref7_reader_first.calls (k : Nat) (g : Nat) (s0_0 : ByteArray) (s0_1 : Bool) (r1 : Int) (r2 : Int) (r3 : Int) (r4 : Bool) (r5 : List (S40)) (r6 : ByteArray) (r7 : ByteArray) (r8 : Bool) (w0 w : World) (hI : IsS65 w0 w g s0_0 s0_1) (hB : Below w0.heap.size w0 w) (h : federationref7_reader_first.f k s0_0 s0_1 = some (r1, r2, r3, r4, r5, r6, r7, r8)) :
  Calls Try.prog 33 #[.pointer (some ⟨g, 0, none⟩)] w fun e w' => ∃ v4_ : Value, e = .returned (.agg #[.int .i64 r1, .int .i64 r2, .int .i64 r3, .bool r4, v4_, .string r6]) ∧ Kd.R k40 40 w' w.heap.size (fun _ => True) v4_ r5 ∧ IsS65 w0 w' g r7 r8 ∧ Below w0.heap.size w0 w' ∧ KeepBut w w' g none := by
 have hu26 := Try.underlying26
 have hu40 := Try.underlying40
 have HI0 := am hI
 have HK := am (KeepBut.refl w g none)
 have HL := am hB.size
 clear hI
 have HW0 := am hB.size
 have HB := am hB
 clear hB
 have H : ((federationref7_reader_fixed.f k s0_0 s0_1 1).bind fun bt785 => ((federationref7_reader_fixed.f k bt785.2.1 bt785.2.2 8).bind fun bt789 => ((federationref7_reader_fixed.f k bt789.2.1 bt789.2.2 8).bind fun bt792 => ((federationref7_reader_fixed.f k bt792.2.1 bt792.2.2 1).bind fun bt795 => ((federationref7_reader_fixed.f k bt795.2.1 bt795.2.2 2).bind fun bt798 => (federationref7_reader_first.l0 k bt798.1 0 bt798.2.1 bt798.2.2 bt785.1 bt789.1 bt792.1 (bt795.1 == 1) ([] : List (S40)) (⟨#[]⟩ : ByteArray))))))) = some (r1, r2, r3, r4, r5, r6, r7, r8) := h
 clear h
 replace H := Option.bind_eq_some_iff.mp H
 obtain ⟨⟨t785, t786, t787⟩, A20, H⟩ := H
 replace H : ((federationref7_reader_fixed.f k t786 t787 8).bind fun bt789 => ((federationref7_reader_fixed.f k bt789.2.1 bt789.2.2 8).bind fun bt792 => ((federationref7_reader_fixed.f k bt792.2.1 bt792.2.2 1).bind fun bt795 => ((federationref7_reader_fixed.f k bt795.2.1 bt795.2.2 2).bind fun bt798 => (federationref7_reader_first.l0 k bt798.1 0 bt798.2.1 bt798.2.2 t785 bt789.1 bt792.1 (bt795.1 == 1) ([] : List (S40)) (⟨#[]⟩ : ByteArray)))))) = some (r1, r2, r3, r4, r5, r6, r7, r8) := H
 have A2 := am A20
 clear A20
 replace H := Option.bind_eq_some_iff.mp H
 obtain ⟨⟨t789, t790, t791⟩, A30, H⟩ := H
 replace H : ((federationref7_reader_fixed.f k t790 t791 8).bind fun bt792 => ((federationref7_reader_fixed.f k bt792.2.1 bt792.2.2 1).bind fun bt795 => ((federationref7_reader_fixed.f k bt795.2.1 bt795.2.2 2).bind fun bt798 => (federationref7_reader_first.l0 k bt798.1 0 bt798.2.1 bt798.2.2 t785 t789 bt792.1 (bt795.1 == 1) ([] : List (S40)) (⟨#[]⟩ : ByteArray))))) = some (r1, r2, r3, r4, r5, r6, r7, r8) := H
 have A3 := am A30
 clear A30
 replace H := Option.bind_eq_some_iff.mp H
 obtain ⟨⟨t792, t793, t794⟩, A40, H⟩ := H
 replace H : ((federationref7_reader_fixed.f k t793 t794 1).bind fun bt795 => ((federationref7_reader_fixed.f k bt795.2.1 bt795.2.2 2).bind fun bt798 => (federationref7_reader_first.l0 k bt798.1 0 bt798.2.1 bt798.2.2 t785 t789 t792 (bt795.1 == 1) ([] : List (S40)) (⟨#[]⟩ : ByteArray)))) = some (r1, r2, r3, r4, r5, r6, r7, r8) := H
 have A4 := am A40
 clear A40
 replace H := Option.bind_eq_some_iff.mp H
 obtain ⟨⟨t795, t796, t797⟩, A50, H⟩ := H
 replace H : ((federationref7_reader_fixed.f k t796 t797 2).bind fun bt798 => (federationref7_reader_first.l0 k bt798.1 0 bt798.2.1 bt798.2.2 t785 t789 t792 (t795 == 1) ([] : List (S40)) (⟨#[]⟩ : ByteArray))) = some (r1, r2, r3, r4, r5, r6, r7, r8) := H
 have A5 := am A50
 clear A50
 replace H := Option.bind_eq_some_iff.mp H
 obtain ⟨⟨t798, t799, t800⟩, A60, H⟩ := H
 replace H : (federationref7_reader_first.l0 k t798 0 t799 t800 t785 t789 t792 (t795 == 1) ([] : List (S40)) (⟨#[]⟩ : ByteArray)) = some (r1, r2, r3, r4, r5, r6, r7, r8) := H
 have A6 := am A60
 clear A60
 have H' := am H
 clear H
 go_enter Try.func33, Try.ntmps33
 go_wp2_with (first | ((with_reducible refine gate_dst (N := 2) rfl ?_); refine bx 2 26 (cs := #[.int .i64 0, .int .i64 0, .int .i64 0, .bool false, .slice none 0 0, .string (⟨#[]⟩ : ByteArray)]) ?_; intro gb784 hg w7 hbox hb; have n_ := z8 (IsS65.below iy hb) (KeepBut.trans kp (KeepBut.of_below hb g none) (.inl rfl)) (below_step bel hb) (hbox) ((by rw [hg]; exact (keep_size (w := w) (g := g) (row := none) kp) : w.heap.size ≤ gb784)) ((Nat.le_trans HW0.out (by rw [hg]; exact (keep_size (w := w) (g := g) (row := none) kp) : w.heap.size ≤ gb784) : w0.heap.size ≤ gb784)) ((by rw [hg]; exact Nat.ne_of_lt (IsS65.lt (show IsS65 w0 _ g s0_0 s0_1 from iy)) : g ≠ gb784)) ((by rw [hg]; exact Nat.ne_of_gt (IsS65.lt (show IsS65 w0 _ g s0_0 s0_1 from iy)) : gb784 ≠ g)); clear HI0 HK HB; obtain ⟨HI0, HK, HB, BK784, GW784, GE784, NB0_784, NB784_0⟩ := n_; clear hb hbox hg) | ((with_reducible refine gate_callee (f := 55) rfl ?_); refine goesL_ (some 8) rfl rfl Try.func55 (by kernel_rfl) rfl #[.pointer (some ⟨g, 0, none⟩), .int .i64 1] rfl ar ?_; (with_reducible refine (federationref7_reader_fixed.calls k g s0_0 s0_1 1 t785 t786 t787 w0 _ ?side1 ?side2 A2.out).mono ?_); (case side1 => exact iy); (case side2 => exact bel); rintro e w8 ⟨rfl, hi, hb, hk⟩; refine ⟨_, rfl, ?_⟩; have n_ := z4 (KeepBut.blk hk (g' := gb784) (o := .cells #[.int .i64 0, .int .i64 0, .int .i64 0, .bool false, .slice none 0 0, .string (⟨#[]⟩ : ByteArray)] 26 (0, 0)) (bk BK784.out) NB784_0.out (by simp)) (KeepBut.trans kp hk (.inl rfl)) (hb) (hi); clear BK784 HK HB HI0; obtain ⟨BK784, HK, HB, HI0⟩ := n_; (try clear hb); (try clear hb2); (try clear hk); (try clear hi)) | ((with_reducible refine gate_dst (N := 3) rfl ?_); refine bx 3 26 (cs := #[.int .i64 0, .int .i64 0, .int .i64 0, .bool false, .slice none 0 0, .string (⟨#[]⟩ : ByteArray)]) ?_; intro gb788 hg w9 hbox hb; have n_ := z11 (IsS65.below iy hb) (blk_below (bk BK784.out) hb) (KeepBut.trans kp (KeepBut.of_below hb g none) (.inl rfl)) (below_step bel hb) (hbox) ((by rw [hg]; exact (keep_size (w := w) (g := g) (row := none) kp) : w.heap.size ≤ gb788)) ((Nat.le_trans HW0.out (by rw [hg]; exact (keep_size (w := w) (g := g) (row := none) kp) : w.heap.size ≤ gb788) : w0.heap.size ≤ gb788)) ((by rw [hg]; exact Nat.ne_of_lt (blk_lt (bk BK784.out)) : gb784 ≠ gb788)) ((by rw [hg]; exact Nat.ne_of_gt (blk_lt (bk BK784.out)) : gb788 ≠ gb784)) ((by rw [hg]; exact Nat.ne_of_lt (IsS65.lt (show IsS65 w0 _ g t786 t787 from iy)) : g ≠ gb788)) ((by rw [hg]; exact Nat.ne_of_gt (IsS65.lt (show IsS65 w0 _ g t786 t787 from iy)) : gb788 ≠ g)); clear HI0 BK784 HK HB; obtain ⟨HI0, BK784, HK, HB, BK788, GW788, GE788, NB784_788, NB788_784, NB0_788, NB788_0⟩ := n_; clear hb hbox hg; have hnb10 := NB788_784.out; have hnc10 := NB784_788.out; have hnb11 := NB788_0.out; have hnc11 := NB0_788.out; obtain ⟨hcz12_0, hcz12_1, hcz12_2, hcz12_3, hcz12_4, hcz12_5⟩ := cells6 BK788.out; obtain ⟨hfz12_0, hfz12_1, hfz12_2, hfz12_3, hfz12_4, hfz12_5⟩ := froz6 BK788.out) | ((with_reducible refine gate_callee (f := 55) rfl ?_); refine goesL_ (some 11) rfl rfl Try.func55 (by kernel_rfl) rfl #[.pointer (some ⟨g, 0, none⟩), .int .i64 8] rfl ar ?_; (with_reducible refine (federationref7_reader_fixed.calls k g t786 t787 8 t789 t790 t791 w0 _ ?side1 ?side2 A3.out).mono ?_); (case side1 => exact iy); (case side2 => exact bel); rintro e w13 ⟨rfl, hi, hb, hk⟩; refine ⟨_, rfl, ?_⟩; have n_ := z5 (KeepBut.blk hk (g' := gb784) (o := .cells #[.int .i64 0, .int .i64 0, .int .i64 0, .bool false, .slice none 0 0, .string (⟨#[]⟩ : ByteArray)] 26 (0, 0)) (bk BK784.out) NB784_0.out (by simp)) (KeepBut.blk hk (g' := gb788) (o := .cells #[.int .i64 t785, .int .i64 0, .int .i64 0, .bool false, .slice none 0 0, .string (⟨#[]⟩ : ByteArray)] 26 (0, 0)) (bp BK788.out) NB788_0.out (by simp)) (KeepBut.trans kp hk (.inl rfl)) (hb) (hi); clear BK784 BK788 HK HB HI0; obtain ⟨BK784, BK788, HK, HB, HI0⟩ := n_; (try clear hb); (try clear hb2); (try clear hk); (try clear hi); obtain ⟨hcz14_0, hcz14_1, hcz14_2, hcz14_3, hcz14_4, hcz14_5⟩ := cells6 BK788.out; obtain ⟨hfz14_0, hfz14_1, hfz14_2, hfz14_3, hfz14_4, hfz14_5⟩ := froz6 BK788.out) | ((with_reducible refine gate_callee (f := 55) rfl ?_); refine goesL_ (some 14) rfl rfl Try.func55 (by kernel_rfl) rfl #[.pointer (some ⟨g, 0, none⟩), .int .i64 8] rfl ar ?_; (with_reducible refine (federationref7_reader_fixed.calls k g t790 t791 8 t792 t793 t794 w0 _ ?side1 ?side2 A4.out).mono ?_); (case side1 => exact iy); (case side2 => exact bel); rintro e w15 ⟨rfl, hi, hb, hk⟩; refine ⟨_, rfl, ?_⟩; have n_ := z5 (KeepBut.blk hk (g' := gb784) (o := .cells #[.int .i64 0, .int .i64 0, .int .i64 0, .bool false, .slice none 0 0, .string (⟨#[]⟩ : ByteArray)] 26 (0, 0)) (bk BK784.out) NB784_0.out (by simp)) (KeepBut.blk hk (g' := gb788) (o := .cells #[.int .i64 t785, .int .i64 t789, .int .i64 0, .bool false, .slice none 0 0, .string (⟨#[]⟩ : ByteArray)] 26 (0, 0)) (bp BK788.out) NB788_0.out (by simp)) (KeepBut.trans kp hk (.inl rfl)) (hb) (hi); clear BK784 BK788 HK HB HI0; obtain ⟨BK784, BK788, HK, HB, HI0⟩ := n_; (try clear hb); (try clear hb2); (try clear hk); (try clear hi); obtain ⟨hcz16_0, hcz16_1, hcz16_2, hcz16_3, hcz16_4, hcz16_5⟩ := cells6 BK788.out; obtain ⟨hfz16_0, hfz16_1, hfz16_2, hfz16_3, hfz16_4, hfz16_5⟩ := froz6 BK788.out) | ((with_reducible refine gate_callee (f := 55) rfl ?_); refine goesL_ (some 17) rfl rfl Try.func55 (by kernel_rfl) rfl #[.pointer (some ⟨g, 0, none⟩), .int .i64 1] rfl ar ?_; (with_reducible refine (federationref7_reader_fixed.calls k g t793 t794 1 t795 t796 t797 w0 _ ?side1 ?side2 A5.out).mono ?_); (case side1 => exact iy); (case side2 => exact bel); rintro e w17 ⟨rfl, hi, hb, hk⟩; refine ⟨_, rfl, ?_⟩; have n_ := z5 (KeepBut.blk hk (g' := gb784) (o := .cells #[.int .i64 0, .int .i64 0, .int .i64 0, .bool false, .slice none 0 0, .string (⟨#[]⟩ : ByteArray)] 26 (0, 0)) (bk BK784.out) NB784_0.out (by simp)) (KeepBut.blk hk (g' := gb788) (o := .cells #[.int .i64 t785, .int .i64 t789, .int .i64 t792, .bool false, .slice none 0 0, .string (⟨#[]⟩ : ByteArray)] 26 (0, 0)) (bp BK788.out) NB788_0.out (by simp)) (KeepBut.trans kp hk (.inl rfl)) (hb) (hi); clear BK784 BK788 HK HB HI0; obtain ⟨BK784, BK788, HK, HB, HI0⟩ := n_; (try clear hb); (try clear hb2); (try clear hk); (try clear hi); obtain ⟨hcz18_0, hcz18_1, hcz18_2, hcz18_3, hcz18_4, hcz18_5⟩ := cells6 BK788.out; obtain ⟨hfz18_0, hfz18_1, hfz18_2, hfz18_3, hfz18_4, hfz18_5⟩ := froz6 BK788.out) | ((with_reducible refine gate_callee (f := 55) rfl ?_); refine goesL_ (some 21) rfl rfl Try.func55 (by kernel_rfl) rfl #[.pointer (some ⟨g, 0, none⟩), .int .i64 2] rfl ar ?_; (with_reducible refine (federationref7_reader_fixed.calls k g t796 t797 2 t798 t799 t800 w0 _ ?side1 ?side2 A6.out).mono ?_); (case side1 => exact iy); (case side2 => exact bel); rintro e w19 ⟨rfl, hi, hb, hk⟩; refine ⟨_, rfl, ?_⟩; have n_ := z5 (KeepBut.blk hk (g' := gb784) (o := .cells #[.int .i64 0, .int .i64 0, .int .i64 0, .bool false, .slice none 0 0, .string (⟨#[]⟩ : ByteArray)] 26 (0, 0)) (bk BK784.out) NB784_0.out (by simp)) (KeepBut.blk hk (g' := gb788) (o := .cells #[.int .i64 t785, .int .i64 t789, .int .i64 t792, .bool (t795 == 1), .slice none 0 0, .string (⟨#[]⟩ : ByteArray)] 26 (0, 0)) (bp BK788.out) NB788_0.out (by simp)) (KeepBut.trans kp hk (.inl rfl)) (hb) (hi); clear BK784 BK788 HK HB HI0; obtain ⟨BK784, BK788, HK, HB, HI0⟩ := n_; (try clear hb); (try clear hb2); (try clear hk); (try clear hi)))
 go_loopg [5] k (fun kq v5 w' => ∃ (x5_1 : Int) (x1000_1 : ByteArray) (x1001_1 : Bool) (x789004_1 : List (S40)) (u789004 : Value), v5 = .int .i64 x5_1 ∧ Aside0 (federationref7_reader_first.l0 kq t798 x5_1 x1000_1 x1001_1 t785 t789 t792 (t795 == 1) x789004_1 (⟨#[]⟩ : ByteArray) = some (r1, r2, r3, r4, r5, r6, r7, r8)) ∧ Aside0 (kq ≤ k) ∧ Aside0 (Kd.R k40 40 w' w.heap.size (fun _ => True) u789004 x789004_1) ∧ Aside0 (w'.heap[gb784]? = some (.cells #[.int .i64 0, .int .i64 0, .int .i64 0, .bool false, (.slice none 0 0), .string (⟨#[]⟩ : ByteArray)] 26 (0, 0))) ∧ Aside0 (w'.heap[gb788]? = some (.cells #[.int .i64 t785, .int .i64 t789, .int .i64 t792, .bool (t795 == 1), u789004, .string (⟨#[]⟩ : ByteArray)] 26 (0, 0))) ∧ Aside0 (IsS65 w0 w' g x1000_1 x1001_1) ∧ Aside0 (KeepBut w w' g none) ∧ Aside0 (Below w0.heap.size w0 w'))
 case atStart => exact ⟨(0), (t799), (t800), (([] : List (S40))), (.slice none 0 0), (by first | rfl | (simp; done) | (simp [*]; done)), H', ⟨Nat.le_refl _⟩, ⟨by first | exact Kd.R_nil _ _ _ _ _ | exact Kd.N_nil _ _ _ _ _ | exact Kd.V_nil _ _ _ _ _ | exact Kd.Q_nil _ _ _ _ _ | exact Kd.S_nil _ _ _ _ _⟩, ⟨bk BK784.out⟩, ⟨bk BK788.out⟩, ⟨iy⟩, ⟨kp⟩, ⟨bel⟩⟩
 case round =>
  clear H'
  try clear c1
  try clear p2
  try clear c3
  try clear c5
  try clear c10
  try clear c11
  try clear hcz12_0 hcz12_1 hcz12_2 hcz12_3 hcz12_4 hcz12_5
  try clear hcz14_0 hcz14_1 hcz14_2 hcz14_3 hcz14_4 hcz14_5
  try clear hcz16_0 hcz16_1 hcz16_2 hcz16_3 hcz16_4 hcz16_5
  try clear hcz18_0 hcz18_1 hcz18_2 hcz18_3 hcz18_4 hcz18_5
  try clear hfz12_0 hfz12_1 hfz12_2 hfz12_3 hfz12_4 hfz12_5
  try clear hfz14_0 hfz14_1 hfz14_2 hfz14_3 hfz14_4 hfz14_5
  try clear hfz16_0 hfz16_1 hfz16_2 hfz16_3 hfz16_4 hfz16_5
  try clear hfz18_0 hfz18_1 hfz18_2 hfz18_3 hfz18_4 hfz18_5
  obtain ⟨x5_1, x1000_1, x1001_1, x789004_1, u789004, rfl, HA, HK1, HO_789004, BK784, BK788, HI0, HK, HB⟩ := hrel
  cases gk with
  | zero => exact absurd HA.out (by simp [federationref7_reader_first.l0])
  | succ k1 =>
   have H := HA.out
   clear HA
   simp only [federationref7_reader_first.l0] at H
   have HC20 := am H
   clear H
   go_upto_region 7 with (fail)
   go_cut [31] (fun v31 wc => ∃ (kq : Nat) (x31_19 : Bool), v31 = .bool x31_19 ∧ Aside0 (federationref7_reader_first.j1 kq t798 x5_1 x31_19 x1000_1 x1001_1 t785 t789 t792 (t795 == 1) x789004_1 (⟨#[]⟩ : ByteArray) = some (r1, r2, r3, r4, r5, r6, r7, r8)) ∧ Aside0 (kq ≤ k1) ∧ Aside0 (Kd.R k40 40 wc w.heap.size (fun _ => True) u789004 x789004_1) ∧ Aside0 (wc.heap[gb784]? = some (.cells #[.int .i64 0, .int .i64 0, .int .i64 0, .bool false, (.slice none 0 0), .string (⟨#[]⟩ : ByteArray)] 26 (0, 0))) ∧ Aside0 (wc.heap[gb788]? = some (.cells #[.int .i64 t785, .int .i64 t789, .int .i64 t792, .bool (t795 == 1), u789004, .string (⟨#[]⟩ : ByteArray)] 26 (0, 0))) ∧ Aside0 (IsS65 w0 wc g x1000_1 x1001_1) ∧ Aside0 (KeepBut w wc g none) ∧ Aside0 (Below w0.heap.size w0 wc))
   case first =>
    have H := HC20.out
    clear HC20
    by_cases c21 : x5_1 < t798
    ·rw [if_pos c21] at H
     have c21b0 : decide (x5_1 < t798) = true := decide_eq_true c21
     clear c21
     (first | rw [c21b0] | (simp only [i64_w, i32_w]; rw [c21b0]) | skip)
     have H' := am H
     clear H
     obtain ⟨HGz22, hgz22⟩ := HI0.out
     have hcz22_0 := cellS65_0 HGz22
     have hcz22_1 := cellS65_1 HGz22
     have hfz22_0 := blk_frozen HGz22 0
     have hfz22_1 := blk_frozen HGz22 1
     clear HGz22 hgz22
     go_wp2
     go_meet
     case rel => exact ⟨_, (!x1001_1), (by first | rfl | (simp; done) | (simp [*]; done)), H', ⟨by have := HK1.out; first | omega | exact Nat.le_refl _⟩, ⟨kr HO_789004.out⟩, ⟨bk BK784.out⟩, ⟨bk BK788.out⟩, ⟨iy⟩, ⟨kp⟩, ⟨bel⟩⟩
    ·rw [if_neg c21] at H
     have c21b0 : decide (x5_1 < t798) = false := decide_eq_false c21
     clear c21
     (first | rw [c21b0] | (simp only [i64_w, i32_w]; rw [c21b0]) | skip)
     have H' := am H
     clear H
     go_wp2
     go_meet
     case rel => exact ⟨_, (false), (by first | rfl | (simp; done) | (simp [*]; done)), H', ⟨by have := HK1.out; first | omega | exact Nat.le_refl _⟩, ⟨kr HO_789004.out⟩, ⟨bk BK784.out⟩, ⟨bk BK788.out⟩, ⟨iy⟩, ⟨kp⟩, ⟨bel⟩⟩
   case rest =>
    clear HC20
    try clear c1
    try clear c2
    try clear p2
    try clear c3
    try clear c5
    try clear c10
    try clear c11
    try clear c21
    try clear c21b0
    try clear hcz12_0 hcz12_1 hcz12_2 hcz12_3 hcz12_4 hcz12_5
    try clear hcz14_0 hcz14_1 hcz14_2 hcz14_3 hcz14_4 hcz14_5
    try clear hcz16_0 hcz16_1 hcz16_2 hcz16_3 hcz16_4 hcz16_5
    try clear hcz18_0 hcz18_1 hcz18_2 hcz18_3 hcz18_4 hcz18_5
    try clear hcz22_0 hcz22_1
    try clear hfz12_0 hfz12_1 hfz12_2 hfz12_3 hfz12_4 hfz12_5
    try clear hfz14_0 hfz14_1 hfz14_2 hfz14_3 hfz14_4 hfz14_5
    try clear hfz16_0 hfz16_1 hfz16_2 hfz16_3 hfz16_4 hfz16_5
    try clear hfz18_0 hfz18_1 hfz18_2 hfz18_3 hfz18_4 hfz18_5
    try clear hfz22_0 hfz22_1
    try clear p2
    obtain ⟨kq, x31_19, rfl, HA, HJ19, HO_789004, BK784, BK788, HI0, HK, HB⟩ := hcut
    cases kq with
    | zero => exact absurd HA.out (by simp [federationref7_reader_first.j1])
    | succ kj19 =>
     have H := HA.out
     clear HA
     simp only [federationref7_reader_first.j1] at H
     by_cases c23 : x31_19 = true
     ·subst c23
      have H1 : ((federationref7_reader_fixed.f kj19 x1000_1 x1001_1 2).bind fun bt801 => ((federationref7_reader_text.f bt801.2.1 bt801.2.2 bt801.1).bind fun bt804 => ((federationref7_reader_fixed.f kj19 bt804.2.1 bt804.2.2 2).bind fun bt808 => ((federationref7_reader_text.f bt808.2.1 bt808.2.2 bt808.1).bind fun bt811 => ((federationref7_reader_fixed.f kj19 bt811.2.1 bt811.2.2 1).bind fun bt814 => (if x789004_1.length < 3518437208883 then (federationref7_reader_first.l0 kj19 t798 (wrap64 (x5_1 + 1)) bt814.2.1 bt814.2.2 t785 t789 t792 (t795 == 1) (x789004_1 ++ [(⟨bt804.1, bt811.1, (bt814.1 == 1)⟩ : S40)]) (⟨#[]⟩ : ByteArray)) else (none))))))) = some (r1, r2, r3, r4, r5, r6, r7, r8) := by rw [if_pos rfl] at H; exact H
      clear H
      have H := H1
      clear H1
      replace H := Option.bind_eq_some_iff.mp H
      obtain ⟨⟨t801, t802, t803⟩, A240, H⟩ := H
      replace H : ((federationref7_reader_text.f t802 t803 t801).bind fun bt804 => ((federationref7_reader_fixed.f kj19 bt804.2.1 bt804.2.2 2).bind fun bt808 => ((federationref7_reader_text.f bt808.2.1 bt808.2.2 bt808.1).bind fun bt811 => ((federationref7_reader_fixed.f kj19 bt811.2.1 bt811.2.2 1).bind fun bt814 => (if x789004_1.length < 3518437208883 then (federationref7_reader_first.l0 kj19 t798 (wrap64 (x5_1 + 1)) bt814.2.1 bt814.2.2 t785 t789 t792 (t795 == 1) (x789004_1 ++ [(⟨bt804.1, bt811.1, (bt814.1 == 1)⟩ : S40)]) (⟨#[]⟩ : ByteArray)) else (none)))))) = some (r1, r2, r3, r4, r5, r6, r7, r8) := H
      have A24 := am A240
      clear A240
      replace H := Option.bind_eq_some_iff.mp H
      obtain ⟨⟨t804, t805, t806⟩, A250, H⟩ := H
      replace H : ((federationref7_reader_fixed.f kj19 t805 t806 2).bind fun bt808 => ((federationref7_reader_text.f bt808.2.1 bt808.2.2 bt808.1).bind fun bt811 => ((federationref7_reader_fixed.f kj19 bt811.2.1 bt811.2.2 1).bind fun bt814 => (if x789004_1.length < 3518437208883 then (federationref7_reader_first.l0 kj19 t798 (wrap64 (x5_1 + 1)) bt814.2.1 bt814.2.2 t785 t789 t792 (t795 == 1) (x789004_1 ++ [(⟨t804, bt811.1, (bt814.1 == 1)⟩ : S40)]) (⟨#[]⟩ : ByteArray)) else (none))))) = some (r1, r2, r3, r4, r5, r6, r7, r8) := H
      have A25 := am A250
      clear A250
      replace H := Option.bind_eq_some_iff.mp H
      obtain ⟨⟨t808, t809, t810⟩, A260, H⟩ := H
      replace H : ((federationref7_reader_text.f t809 t810 t808).bind fun bt811 => ((federationref7_reader_fixed.f kj19 bt811.2.1 bt811.2.2 1).bind fun bt814 => (if x789004_1.length < 3518437208883 then (federationref7_reader_first.l0 kj19 t798 (wrap64 (x5_1 + 1)) bt814.2.1 bt814.2.2 t785 t789 t792 (t795 == 1) (x789004_1 ++ [(⟨t804, bt811.1, (bt814.1 == 1)⟩ : S40)]) (⟨#[]⟩ : ByteArray)) else (none)))) = some (r1, r2, r3, r4, r5, r6, r7, r8) := H
      have A26 := am A260
      clear A260
      replace H := Option.bind_eq_some_iff.mp H
      obtain ⟨⟨t811, t812, t813⟩, A270, H⟩ := H
      replace H : ((federationref7_reader_fixed.f kj19 t812 t813 1).bind fun bt814 => (if x789004_1.length < 3518437208883 then (federationref7_reader_first.l0 kj19 t798 (wrap64 (x5_1 + 1)) bt814.2.1 bt814.2.2 t785 t789 t792 (t795 == 1) (x789004_1 ++ [(⟨t804, t811, (bt814.1 == 1)⟩ : S40)]) (⟨#[]⟩ : ByteArray)) else (none))) = some (r1, r2, r3, r4, r5, r6, r7, r8) := H
      have A27 := am A270
      clear A270
      replace H := Option.bind_eq_some_iff.mp H
      obtain ⟨⟨t814, t815, t816⟩, A280, H⟩ := H
      replace H : (if x789004_1.length < 3518437208883 then (federationref7_reader_first.l0 kj19 t798 (wrap64 (x5_1 + 1)) t815 t816 t785 t789 t792 (t795 == 1) (x789004_1 ++ [(⟨t804, t811, (t814 == 1)⟩ : S40)]) (⟨#[]⟩ : ByteArray)) else (none)) = some (r1, r2, r3, r4, r5, r6, r7, r8) := H
      have A28 := am A280
      clear A280
      by_cases c29 : x789004_1.length < 3518437208883
      ·rw [if_pos c29] at H
       have LMc29 := am c29
       clear c29
       obtain ⟨y817, hy817⟩ : ∃ y_ : List (S40), y_ = (x789004_1 ++ [(⟨t804, t811, (t814 == 1)⟩ : S40)]) := ⟨_, rfl⟩
       replace H : (federationref7_reader_first.l0 kj19 t798 (wrap64 (x5_1 + 1)) t815 t816 t785 t789 t792 (t795 == 1) y817 (⟨#[]⟩ : ByteArray)) = some (r1, r2, r3, r4, r5, r6, r7, r8) := by first | (rw [hy817]; with_reducible exact H) | (have H2_ := (Option.bind_some _ _).symm.trans H; rw [hy817]; with_reducible exact H2_) | (have H2_ := (Option.bind_some _ _).symm.trans H; with_reducible exact H2_) | with_reducible exact H | (rw [hy817]; exact H) | exact H
       have Ny817 := am hy817
       clear hy817
       have H' := am H
       clear H
       go_wp2_with (first | ((with_reducible refine gate_callee (f := 55) rfl ?_); refine goesL_ (some 36) rfl rfl Try.func55 (by kernel_rfl) rfl #[.pointer (some ⟨g, 0, none⟩), .int .i64 2] rfl ar ?_; (with_reducible refine (federationref7_reader_fixed.calls kj19 g x1000_1 x1001_1 2 t801 t802 t803 w0 _ ?side1 ?side2 A24.out).mono ?_); (case side1 => exact iy); (case side2 => exact bel); rintro e w30 ⟨rfl, hi, hb, hk⟩; refine ⟨_, rfl, ?_⟩; have n_ := z6 (Kd.R_mono (Kd.R_keep (IsS65.apart (show IsS65 w0 _ g x1000_1 x1001_1 from iy) (kr HO_789004.out) (by decide)) hk (fun _ h => h.2)) (fun _ h => h.1)) (KeepBut.blk hk (g' := gb784) (o := .cells #[.int .i64 0, .int .i64 0, .int .i64 0, .bool false, .slice none 0 0, .string (⟨#[]⟩ : ByteArray)] 26 (0, 0)) (bk BK784.out) NB784_0.out (by simp)) (KeepBut.blk hk (g' := gb788) (o := .cells #[.int .i64 t785, .int .i64 t789, .int .i64 t792, .bool (t795 == 1), u789004, .string (⟨#[]⟩ : ByteArray)] 26 (0, 0)) (bk BK788.out) NB788_0.out (by simp)) (KeepBut.trans kp hk (.inl rfl)) (hb) (hi); clear HO_789004 BK784 BK788 HK HB HI0; obtain ⟨HO_789004, BK784, BK788, HK, HB, HI0⟩ := n_; (try clear hb); (try clear hb2); (try clear hk); (try clear hi)) | ((with_reducible refine gate_callee (f := 56) rfl ?_); refine goesL_ (some 37) rfl rfl Try.func56 (by kernel_rfl) rfl #[.pointer (some ⟨g, 0, none⟩), .int .i64 t801] rfl ar ?_; (with_reducible refine (federationref7_reader_text.calls g t802 t803 t801 t804 t805 t806 w0 _ ?side1 ?side2 A25.out).mono ?_); (case side1 => exact iy); (case side2 => exact bel); rintro e w31 ⟨rfl, hi, hb, hk⟩; refine ⟨_, rfl, ?_⟩; have n_ := z6 (Kd.R_mono (Kd.R_keep (IsS65.apart (show IsS65 w0 _ g t802 t803 from iy) (kr HO_789004.out) (by decide)) hk (fun _ h => h.2)) (fun _ h => h.1)) (KeepBut.blk hk (g' := gb784) (o := .cells #[.int .i64 0, .int .i64 0, .int .i64 0, .bool false, .slice none 0 0, .string (⟨#[]⟩ : ByteArray)] 26 (0, 0)) (bk BK784.out) NB784_0.out (by simp)) (KeepBut.blk hk (g' := gb788) (o := .cells #[.int .i64 t785, .int .i64 t789, .int .i64 t792, .bool (t795 == 1), u789004, .string (⟨#[]⟩ : ByteArray)] 26 (0, 0)) (bk BK788.out) NB788_0.out (by simp)) (KeepBut.trans kp hk (.inl rfl)) (hb) (hi); clear HO_789004 BK784 BK788 HK HB HI0; obtain ⟨HO_789004, BK784, BK788, HK, HB, HI0⟩ := n_; (try clear hb); (try clear hb2); (try clear hk); (try clear hi)) | ((with_reducible refine gate_dst (N := 6) rfl ?_); refine bx 6 40 (cs := #[.string (⟨#[]⟩ : ByteArray), .string (⟨#[]⟩ : ByteArray), .bool false]) ?_; intro gb807 hg w32 hbox hb; have n0_ := am (Kd.R_below (Kd.R_elderB (kr HO_789004.out) gb807 (Nat.le_of_eq hg.symm)) hb); have n1_ := am (blk_below (bk BK784.out) hb); have n2_ := am (blk_below (bk BK788.out) hb); have n3_ := am (IsS65.below iy hb); have n4_ := am (KeepBut.trans kp (KeepBut.of_below hb g none) (.inl rfl)); have n5_ := am (below_step bel hb); have n6_ := am (hbox); have n7_ := am ((by rw [hg]; exact (keep_size (w := w) (g := g) (row := none) kp) : w.heap.size ≤ gb807)); have n8_ := am ((Nat.le_trans HW0.out (by rw [hg]; exact (keep_size (w := w) (g := g) (row := none) kp) : w.heap.size ≤ gb807) : w0.heap.size ≤ gb807)); have n9_ := am ((by rw [hg]; exact Nat.ne_of_lt (blk_lt (bk BK784.out)) : gb784 ≠ gb807)); have n10_ := am ((by rw [hg]; exact Nat.ne_of_gt (blk_lt (bk BK784.out)) : gb807 ≠ gb784)); have n11_ := am ((by rw [hg]; exact Nat.ne_of_lt (blk_lt (bk BK788.out)) : gb788 ≠ gb807)); have n12_ := am ((by rw [hg]; exact Nat.ne_of_gt (blk_lt (bk BK788.out)) : gb807 ≠ gb788)); have n13_ := am ((by rw [hg]; exact Nat.ne_of_lt (IsS65.lt (show IsS65 w0 _ g t805 t806 from iy)) : g ≠ gb807)); have n14_ := am ((by rw [hg]; exact Nat.ne_of_gt (IsS65.lt (show IsS65 w0 _ g t805 t806 from iy)) : gb807 ≠ g)); clear HO_789004 BK784 BK788 HI0 HK HB; have HO_789004 := n0_; have BK784 := n1_; have BK788 := n2_; have HI0 := n3_; have HK := n4_; have HB := n5_; have BK807 := n6_; have GW807 := n7_; have GE807 := n8_; have NB784_807 := n9_; have NB807_784 := n10_; have NB788_807 := n11_; have NB807_788 := n12_; have NB0_807 := n13_; have NB807_0 := n14_; clear n0_ n1_ n2_ n3_ n4_ n5_ n6_ n7_ n8_ n9_ n10_ n11_ n12_ n13_ n14_ hb hbox hg; have hnb33 := NB807_784.out; have hnc33 := NB784_807.out; have hnb34 := NB807_788.out; have hnc34 := NB788_807.out; have hnb35 := NB807_0.out; have hnc35 := NB0_807.out; obtain ⟨hcz36_0, hcz36_1, hcz36_2⟩ := cells3 BK807.out; obtain ⟨hfz36_0, hfz36_1, hfz36_2⟩ := froz3 BK807.out) | ((with_reducible refine gate_callee (f := 55) rfl ?_); refine goesL_ (some 41) rfl rfl Try.func55 (by kernel_rfl) rfl #[.pointer (some ⟨g, 0, none⟩), .int .i64 2] rfl ar ?_; (with_reducible refine (federationref7_reader_fixed.calls kj19 g t805 t806 2 t808 t809 t810 w0 _ ?side1 ?side2 A26.out).mono ?_); (case side1 => exact iy); (case side2 => exact bel); rintro e w37 ⟨rfl, hi, hb, hk⟩; refine ⟨_, rfl, ?_⟩; have n_ := z7 (Kd.R_mono (Kd.R_keep (IsS65.apart (show IsS65 w0 _ g t805 t806 from iy) (by (with_reducible repeat (first | apply Kd.R_alloc | apply Kd.R_drewN | apply Kd.R_drew)); exact (Kd.R_mono (Kd.R_far (p := ⟨gb807, 2, none⟩) (Kd.R_far (p := ⟨gb807, 1, none⟩) (Kd.R_far (p := ⟨gb807, 0, none⟩) (Kd.R_mono HO_789004.out (fun k_ hk => (⟨hk, hk.2⟩ : _ ∧ k_ ≠ gb807))) (fun _ hk => hk.2) (.string t804)) (fun _ hk => hk.2) (.string (⟨#[]⟩ : ByteArray))) (fun _ hk => hk.2) (.bool false)) (fun _ h_ => h_.1))) (by decide)) hk (fun _ h => h.2)) (fun _ h => h.1)) (KeepBut.blk hk (g' := gb784) (o := .cells #[.int .i64 0, .int .i64 0, .int .i64 0, .bool false, .slice none 0 0, .string (⟨#[]⟩ : ByteArray)] 26 (0, 0)) (bk BK784.out) NB784_0.out (by simp)) (KeepBut.blk hk (g' := gb788) (o := .cells #[.int .i64 t785, .int .i64 t789, .int .i64 t792, .bool (t795 == 1), u789004, .string (⟨#[]⟩ : ByteArray)] 26 (0, 0)) (bk BK788.out) NB788_0.out (by simp)) (KeepBut.blk hk (g' := gb807) (o := .cells #[.string t804, .string (⟨#[]⟩ : ByteArray), .bool false] 40 (0, 0)) (bp BK807.out) NB807_0.out (by simp)) (KeepBut.trans kp hk (.inl rfl)) (hb) (hi); clear HO_789004 BK784 BK788 BK807 HK HB HI0; obtain ⟨HO_789004, BK784, BK788, BK807, HK, HB, HI0⟩ := n_; (try clear hb); (try clear hb2); (try clear hk); (try clear hi)) | ((with_reducible refine gate_callee (f := 56) rfl ?_); refine goesL_ (some 42) rfl rfl Try.func56 (by kernel_rfl) rfl #[.pointer (some ⟨g, 0, none⟩), .int .i64 t808] rfl ar ?_; (with_reducible refine (federationref7_reader_text.calls g t809 t810 t808 t811 t812 t813 w0 _ ?side1 ?side2 A27.out).mono ?_); (case side1 => exact iy); (case side2 => exact bel); rintro e w38 ⟨rfl, hi, hb, hk⟩; refine ⟨_, rfl, ?_⟩; have n_ := z7 (Kd.R_mono (Kd.R_keep (IsS65.apart (show IsS65 w0 _ g t809 t810 from iy) (kr HO_789004.out) (by decide)) hk (fun _ h => h.2)) (fun _ h => h.1)) (KeepBut.blk hk (g' := gb784) (o := .cells #[.int .i64 0, .int .i64 0, .int .i64 0, .bool false, .slice none 0 0, .string (⟨#[]⟩ : ByteArray)] 26 (0, 0)) (bk BK784.out) NB784_0.out (by simp)) (KeepBut.blk hk (g' := gb788) (o := .cells #[.int .i64 t785, .int .i64 t789, .int .i64 t792, .bool (t795 == 1), u789004, .string (⟨#[]⟩ : ByteArray)] 26 (0, 0)) (bk BK788.out) NB788_0.out (by simp)) (KeepBut.blk hk (g' := gb807) (o := .cells #[.string t804, .string (⟨#[]⟩ : ByteArray), .bool false] 40 (0, 0)) (bk BK807.out) NB807_0.out (by simp)) (KeepBut.trans kp hk (.inl rfl)) (hb) (hi); clear HO_789004 BK784 BK788 BK807 HK HB HI0; obtain ⟨HO_789004, BK784, BK788, BK807, HK, HB, HI0⟩ := n_; (try clear hb); (try clear hb2); (try clear hk); (try clear hi); obtain ⟨hcz39_0, hcz39_1, hcz39_2⟩ := cells3 BK807.out; obtain ⟨hfz39_0, hfz39_1, hfz39_2⟩ := froz3 BK807.out) | ((with_reducible refine gate_callee (f := 55) rfl ?_); refine goesL_ (some 45) rfl rfl Try.func55 (by kernel_rfl) rfl #[.pointer (some ⟨g, 0, none⟩), .int .i64 1] rfl ar ?_; (with_reducible refine (federationref7_reader_fixed.calls kj19 g t812 t813 1 t814 t815 t816 w0 _ ?side1 ?side2 A28.out).mono ?_); (case side1 => exact iy); (case side2 => exact bel); rintro e w40 ⟨rfl, hi, hb, hk⟩; refine ⟨_, rfl, ?_⟩; have n_ := z7 (Kd.R_mono (Kd.R_keep (IsS65.apart (show IsS65 w0 _ g t812 t813 from iy) (by (with_reducible repeat (first | apply Kd.R_alloc | apply Kd.R_drewN | apply Kd.R_drew)); exact (Kd.R_mono (Kd.R_far (p := ⟨gb807, 1, none⟩) (Kd.R_mono HO_789004.out (fun k_ hk => (⟨hk, hk.2⟩ : _ ∧ k_ ≠ gb807))) (fun _ hk => hk.2) (.string t811)) (fun _ h_ => h_.1))) (by decide)) hk (fun _ h => h.2)) (fun _ h => h.1)) (KeepBut.blk hk (g' := gb784) (o := .cells #[.int .i64 0, .int .i64 0, .int .i64 0, .bool false, .slice none 0 0, .string (⟨#[]⟩ : ByteArray)] 26 (0, 0)) (bk BK784.out) NB784_0.out (by simp)) (KeepBut.blk hk (g' := gb788) (o := .cells #[.int .i64 t785, .int .i64 t789, .int .i64 t792, .bool (t795 == 1), u789004, .string (⟨#[]⟩ : ByteArray)] 26 (0, 0)) (bk BK788.out) NB788_0.out (by simp)) (KeepBut.blk hk (g' := gb807) (o := .cells #[.string t804, .string t811, .bool false] 40 (0, 0)) (bp BK807.out) NB807_0.out (by simp)) (KeepBut.trans kp hk (.inl rfl)) (hb) (hi); clear HO_789004 BK784 BK788 BK807 HK HB HI0; obtain ⟨HO_789004, BK784, BK788, BK807, HK, HB, HI0⟩ := n_; (try clear hb); (try clear hb2); (try clear hk); (try clear hi); obtain ⟨hcz41_0, hcz41_1, hcz41_2⟩ := cells3 BK807.out; obtain ⟨hfz41_0, hfz41_1, hfz41_2⟩ := froz3 BK807.out; have hnb42 := NB788_784.out; have hnc42 := NB784_788.out; have hnb43 := NB788_0.out; have hnc43 := NB0_788.out; obtain ⟨hcz44_0, hcz44_1, hcz44_2, hcz44_3, hcz44_4, hcz44_5⟩ := cells6 BK788.out; obtain ⟨hfz44_0, hfz44_1, hfz44_2, hfz44_3, hfz44_4, hfz44_5⟩ := froz6 BK788.out) | ((with_reducible refine gate_builtin (b := .append) (xs := #[.tmp 49, .tmp 51]) rfl ?_); at_builtin; refine Kd.R_append k40 w.heap.size rfl (.tmp 49) (.tmp 51) 24 40 (.agg #[(.string ⟨#[]⟩), (.string ⟨#[]⟩), (.bool false)]) 40 rfl Try.underlying24 info40 rfl (by decide) (by omega) u789004 x789004_1 (⟨t804, t811, (t814 == 1)⟩ : S40) [.string t804, .string t811, .bool (t814 == 1)] (fun k_ => k_ ≠ gb807) (fun _ => False) rfl (by first | (go_simp; done) | (go_simp; rfl)) ?aP (fun _ hk => hk.elim) ?aF ?aO (Below.refl _ _) ?aS ?aL ?_; (case aP => exact k40_mkM _ _ _ (⟨t804, t811, (t814 == 1)⟩ : S40)); (case aF => exact (fun k_ hk => Kd.freshB (g := gb807) (o := .cells #[.string t804, .string t811, .bool (t814 == 1)] 40 (0, 0)) (bp BK807.out) k_ hk)); (case aO => exact (by (with_reducible repeat (first | apply Kd.R_alloc | apply Kd.R_drewN | apply Kd.R_drew)); exact Kd.R_mono (Kd.R_far (p := ⟨gb807, 2, none⟩) (Kd.R_mono HO_789004.out (fun k_ hk => (⟨hk, hk.2⟩ : _ ∧ k_ ≠ gb807))) (fun _ hk => hk.2) (.bool (t814 == 1))) (fun _ hk => hk.1.2))); (case aS => exact (keep_size (w := w) (g := g) (row := none) kp)); (case aL => have := LMc29.out; omega); intro v818 w45 ho hb hg hat; rw [← Ny817.out] at ho; have n_ := z7 (blk_grown (bk BK784.out) hg (Kd.R_ne HO_789004.out BK784.out (by decide))) (blk_grown (bk BK788.out) hg (Kd.R_ne HO_789004.out BK788.out (by decide))) (IsS65.grown (IsS65.from_ HI0.out iy) hg (IsS65.own_ne HI0.out HO_789004.out (by decide))) (blk_grown (g := gb807) (o := .cells #[.string t804, .string t811, .bool (t814 == 1)] 40 (0, 0)) (bp BK807.out) hg (Kd.R_away HO_789004.out (fun _ hk => hk.2))) (below_weaken bel HL.out hb) (KeepBut.trans kp (KeepBut.of_grown hg g) (Kd.R_base2 HO_789004.out)) (ho); clear BK784 BK788 HI0 BK807 HB HK HO_789004; obtain ⟨BK784, BK788, HI0, BK807, HB, HK, HO819⟩ := n_; clear ho hb hg hat; obtain ⟨Ao46, co46, eo46⟩ := Kd.R_slice HO819.out; subst eo46; obtain ⟨hcz47_0, hcz47_1, hcz47_2, hcz47_3, hcz47_4, hcz47_5⟩ := cells6 BK788.out; obtain ⟨hfz47_0, hfz47_1, hfz47_2, hfz47_3, hfz47_4, hfz47_5⟩ := froz6 BK788.out))
       go_roundg kj19
       case measure => have := HK1.out; have := HJ19.out; omega
       case rel => exact ⟨(wrap64 (x5_1 + 1)), (t815), (t816), (y817), (.slice Ao46 y817.length co46), (by first | rfl | (simp; done) | (simp [*]; done)), H', ⟨by have := HK1.out; have := HJ19.out; omega⟩, ⟨by (with_reducible repeat (first | apply Kd.R_alloc | apply Kd.R_drewN | apply Kd.R_drew)); exact Kd.R_mono (Kd.R_far (p := ⟨gb788, 4, none⟩) (Kd.R_types HO819.out BK788.out (by decide)) (fun _ hk => hk.2) (.slice Ao46 y817.length co46)) (fun _ hk => trivial)⟩, ⟨bk BK784.out⟩, ⟨bp BK788.out⟩, ⟨iy⟩, ⟨kp⟩, ⟨bel⟩⟩
      ·rw [if_neg c29] at H
       exact absurd H (by simp)
     ·replace c23 := Bool.eq_false_iff.mpr c23
      subst c23
      have H1 : (some (t785, t789, t792, (t795 == 1), x789004_1, (⟨#[]⟩ : ByteArray), x1000_1, x1001_1)) = some (r1, r2, r3, r4, r5, r6, r7, r8) := by rw [if_neg (show ¬ (false = true) by decide)] at H; exact H
      clear H
      have H := H1
      clear H1
      simp only [Option.some.injEq, Prod.mk.injEq] at H
      obtain ⟨rfl, rfl, rfl, rfl, rfl, rfl, rfl, rfl⟩ := H
      have hnb48 := NB788_784.out
      have hnc48 := NB784_788.out
      have hnb49 := NB788_0.out
      have hnc49 := NB0_788.out
      obtain ⟨hcz50_0, hcz50_1, hcz50_2, hcz50_3, hcz50_4, hcz50_5⟩ := cells6 BK788.out
      obtain ⟨hfz50_0, hfz50_1, hfz50_2, hfz50_3, hfz50_4, hfz50_5⟩ := froz6 BK788.out
      have hnb51 := NB784_0.out
      have hnc51 := NB0_784.out
      obtain ⟨hcz52_0, hcz52_1, hcz52_2, hcz52_3, hcz52_4, hcz52_5⟩ := cells6 BK784.out
      obtain ⟨hfz52_0, hfz52_1, hfz52_2, hfz52_3, hfz52_4, hfz52_5⟩ := froz6 BK784.out
      obtain ⟨Ao53, co53, eo53⟩ := Kd.R_slice HO_789004.out
      subst eo53
      go_wp2
      refine bodyPost_ret (results_cell_row rfl _ _ gb784 26 #[.int .i64 t785, .int .i64 t789, .int .i64 t792, .bool (t795 == 1), .slice Ao53 x789004_1.length co53, .string (⟨#[]⟩ : ByteArray)] (0, 0) _ rfl (bp BK784.out) Try.underlying26 rfl (by kernel_rfl)) rfl ?_
      exact ⟨_, er, by (with_reducible repeat (first | apply Kd.R_alloc | apply Kd.R_drewN | apply Kd.R_drew)); exact Kd.R_mono (Kd.R_far (p := ⟨gb784, 5, none⟩) (Kd.R_far (p := ⟨gb784, 4, none⟩) (Kd.R_far (p := ⟨gb784, 3, none⟩) (Kd.R_far (p := ⟨gb784, 2, none⟩) (Kd.R_far (p := ⟨gb784, 1, none⟩) (Kd.R_far (p := ⟨gb784, 0, none⟩) (Kd.R_types HO_789004.out BK784.out (by decide)) (fun _ hk => hk.2) (.int .i64 t785)) (fun _ hk => hk.2) (.int .i64 t789)) (fun _ hk => hk.2) (.int .i64 t792)) (fun _ hk => hk.2) (.bool (t795 == 1))) (fun _ hk => hk.2) (.slice Ao53 x789004_1.length co53)) (fun _ hk => hk.2) (.string (⟨#[]⟩ : ByteArray))) (fun _ hk => trivial), iy, bel, kp⟩
mutual
def federationref7_reader_free.l0 : Nat → Int → Int → ByteArray → Bool → Option (Int × ByteArray × Bool)
  | 0, _, _, _, _ => none
  | k + 1, x3, x4, x1000, x1001 => (federationref7_reader_fixed.f k x1000 x1001 1).bind fun bt820 => (if bt820.2.2 = true then (federationref7_reader_free.j1 k x3 x4 bt820.1 true bt820.2.1 bt820.2.2) else (federationref7_reader_free.j1 k x3 x4 bt820.1 (decide (x4 > 56)) bt820.2.1 bt820.2.2))
def federationref7_reader_free.j1 : Nat → Int → Int → Int → Bool → ByteArray → Bool → Option (Int × ByteArray × Bool)
  | 0, _, _, _, _, _, _ => none
  | k + 1, x3, x4, x5, x15, x1000, x1001 => if x15 = true then (some (0, x1000, true)) else (if 0 ≤ (IntKind.u64.wrap (x4)) then (if x5 < 128 then (some (wrap64 (x3 + (shl .i64 (Int.tmod x5 128) (IntKind.u64.wrap (x4)))), x1000, x1001)) else (federationref7_reader_free.l0 k (wrap64 (x3 + (shl .i64 (Int.tmod x5 128) (IntKind.u64.wrap (x4))))) (wrap64 (x4 + 7)) x1000 x1001)) else (none))
end
def federationref7_reader_free.f (k : Nat) (s0_0 : ByteArray) (s0_1 : Bool) : Option (Int × ByteArray × Bool) := federationref7_reader_free.l0 k 0 0 s0_0 s0_1
theorem federationref7_reader_free.mono_l : ∀ k, (∀ y0 y1 y2 y3, LeO (federationref7_reader_free.l0 k y0 y1 y2 y3) (federationref7_reader_free.l0 (k + 1) y0 y1 y2 y3)) ∧ (∀ y0 y1 y2 y3 y4 y5, LeO (federationref7_reader_free.j1 k y0 y1 y2 y3 y4 y5) (federationref7_reader_free.j1 (k + 1) y0 y1 y2 y3 y4 y5))
  | 0 => ⟨fun _ _ _ _ r h => by simp [federationref7_reader_free.l0] at h, fun _ _ _ _ _ _ r h => by simp [federationref7_reader_free.j1] at h⟩
  | k + 1 => by
    obtain ⟨ih0, ih1⟩ := federationref7_reader_free.mono_l k
    refine ⟨?_, ?_⟩
    · intro y0 y1 y2 y3
      unfold federationref7_reader_free.l0
      repeat' first
      | (with_reducible exact ih0 _ _ _ _)
      | (with_reducible exact ih1 _ _ _ _ _ _)
      | (with_reducible exact federationref7_reader_fixed.mono _ _ _ _)
      | (with_reducible exact LeO.refl _)
      | (with_reducible exact LeO.none _)
      | (with_reducible refine LeO.ite ?_ ?_)
      | (with_reducible refine LeO.bind ?_ (fun _ => ?_))
    · intro y0 y1 y2 y3 y4 y5
      unfold federationref7_reader_free.j1
      repeat' first
      | (with_reducible exact ih0 _ _ _ _)
      | (with_reducible exact ih1 _ _ _ _ _ _)
      | (with_reducible exact federationref7_reader_fixed.mono _ _ _ _)
      | (with_reducible exact LeO.refl _)
      | (with_reducible exact LeO.none _)
      | (with_reducible refine LeO.ite ?_ ?_)
      | (with_reducible refine LeO.bind ?_ (fun _ => ?_))
theorem federationref7_reader_free.mono : ∀ a0 a1 k, LeO (federationref7_reader_free.f k a0 a1) (federationref7_reader_free.f (k + 1) a0 a1) := by
  intro a0 a1 k
  obtain ⟨ih0, ih1⟩ := federationref7_reader_free.mono_l k
  unfold federationref7_reader_free.f
  repeat' first
      | (with_reducible exact ih0 _ _ _ _)
      | (with_reducible exact ih1 _ _ _ _ _ _)
      | (with_reducible exact federationref7_reader_fixed.mono _ _ _ _)
      | (with_reducible exact LeO.refl _)
      | (with_reducible exact LeO.none _)
      | (with_reducible refine LeO.ite ?_ ?_)
      | (with_reducible refine LeO.bind ?_ (fun _ => ?_))
set_option maxHeartbeats 8000000 in
set_option maxRecDepth 100000 in
theorem federationref7_reader_free.calls (k : Nat) (g : Nat) (s0_0 : ByteArray) (s0_1 : Bool) (r1 : Int) (r2 : ByteArray) (r3 : Bool) (w0 w : World) (hI : IsS65 w0 w g s0_0 s0_1) (hB : Below w0.heap.size w0 w) (h : federationref7_reader_free.f k s0_0 s0_1 = some (r1, r2, r3)) :
  Calls Try.prog 57 #[.pointer (some ⟨g, 0, none⟩)] w fun e w' => e = .returned (.int .i64 r1) ∧ IsS65 w0 w' g r2 r3 ∧ Below w0.heap.size w0 w' ∧ KeepBut w w' g none := by
 have HI0 := am hI
 have HK := am (KeepBut.refl w g none)
 have HL := am hB.size
 clear hI
 have HW0 := am hB.size
 have HB := am hB
 clear hB
 have H : (federationref7_reader_free.l0 k 0 0 s0_0 s0_1) = some (r1, r2, r3) := h
 clear h
 have H' := am H
 clear H
 go_enter Try.func57, Try.ntmps57
 go_wp2
 go_loopg [3, 4] k (fun kq v3 v4 w' => ∃ (x3_1 : Int) (x4_1 : Int) (x1000_1 : ByteArray) (x1001_1 : Bool), v3 = .int .i64 x3_1 ∧ v4 = .int .i64 x4_1 ∧ Aside0 (federationref7_reader_free.l0 kq x3_1 x4_1 x1000_1 x1001_1 = some (r1, r2, r3)) ∧ Aside0 (kq ≤ k) ∧ Aside0 (IsS65 w0 w' g x1000_1 x1001_1) ∧ Aside0 (KeepBut w w' g none) ∧ Aside0 (Below w0.heap.size w0 w'))
 case atStart => exact ⟨(0), (0), (s0_0), (s0_1), (by first | rfl | (simp; done) | (simp [*]; done)), (by first | rfl | (simp; done) | (simp [*]; done)), H', ⟨Nat.le_refl _⟩, ⟨iy⟩, ⟨kp⟩, ⟨bel⟩⟩
 case round =>
  clear H'
  obtain ⟨x3_1, x4_1, x1000_1, x1001_1, rfl, rfl, HA, HK1, HI0, HK, HB⟩ := hrel
  cases gk with
  | zero => exact absurd HA.out (by simp [federationref7_reader_free.l0])
  | succ k1 =>
   have H := HA.out
   clear HA
   simp only [federationref7_reader_free.l0] at H
   replace H := Option.bind_eq_some_iff.mp H
   obtain ⟨⟨t820, t821, t822⟩, A20, H⟩ := H
   replace H : (if t822 = true then (federationref7_reader_free.j1 k1 x3_1 x4_1 t820 true t821 t822) else (federationref7_reader_free.j1 k1 x3_1 x4_1 t820 (decide (x4_1 > 56)) t821 t822)) = some (r1, r2, r3) := H
   have A2 := am A20
   clear A20
   have HC3 := am H
   clear H
   go_upto_region 3 with (first | ((with_reducible refine gate_callee (f := 55) rfl ?_); refine goesL_ (some 7) rfl rfl Try.func55 (by kernel_rfl) rfl #[.pointer (some ⟨g, 0, none⟩), .int .i64 1] rfl ar ?_; (with_reducible refine (federationref7_reader_fixed.calls k1 g x1000_1 x1001_1 1 t820 t821 t822 w0 _ ?side1 ?side2 A2.out).mono ?_); (case side1 => exact iy); (case side2 => exact bel); rintro e w4 ⟨rfl, hi, hb, hk⟩; refine ⟨_, rfl, ?_⟩; have n_ := z3 (KeepBut.trans kp hk (.inl rfl)) (hb) (hi); clear HK HB HI0; obtain ⟨HK, HB, HI0⟩ := n_; (try clear hb); (try clear hb2); (try clear hk); (try clear hi)))
   (try simp only [Act.put, List.setIfInBounds_toArray, List.set_cons_zero, List.set_cons_succ])
   go_cut [15] (fun v15 wc => ∃ (kq : Nat) (x15_2 : Bool), v15 = .bool x15_2 ∧ Aside0 (federationref7_reader_free.j1 kq x3_1 x4_1 t820 x15_2 t821 t822 = some (r1, r2, r3)) ∧ Aside0 (kq ≤ k1) ∧ Aside0 (IsS65 w0 wc g t821 t822) ∧ Aside0 (KeepBut w wc g none) ∧ Aside0 (Below w0.heap.size w0 wc))
   case first =>
    have H := HC3.out
    clear HC3
    by_cases c5 : t822 = true
    ·subst c5
     have H1 : (federationref7_reader_free.j1 k1 x3_1 x4_1 t820 true t821 true) = some (r1, r2, r3) := by rw [if_pos rfl] at H; exact H
     clear H
     have H := H1
     clear H1
     have H' := am H
     clear H
     obtain ⟨HGz6, hgz6⟩ := HI0.out
     have hcz6_0 := cellS65_0 HGz6
     have hcz6_1 := cellS65_1 HGz6
     have hfz6_0 := blk_frozen HGz6 0
     have hfz6_1 := blk_frozen HGz6 1
     clear HGz6 hgz6
     go_wp2
     go_meet
     case rel => exact ⟨_, (true), (by first | rfl | (simp; done) | (simp [*]; done)), H', ⟨by have := HK1.out; first | omega | exact Nat.le_refl _⟩, ⟨iy⟩, ⟨kp⟩, ⟨bel⟩⟩
    ·replace c5 := Bool.eq_false_iff.mpr c5
     subst c5
     have H1 : (federationref7_reader_free.j1 k1 x3_1 x4_1 t820 (decide (x4_1 > 56)) t821 false) = some (r1, r2, r3) := by rw [if_neg (show ¬ (false = true) by decide)] at H; exact H
     clear H
     have H := H1
     clear H1
     have H' := am H
     clear H
     obtain ⟨HGz7, hgz7⟩ := HI0.out
     have hcz7_0 := cellS65_0 HGz7
     have hcz7_1 := cellS65_1 HGz7
     have hfz7_0 := blk_frozen HGz7 0
     have hfz7_1 := blk_frozen HGz7 1
     clear HGz7 hgz7
     go_wp2
     go_meet
     case rel => exact ⟨_, (decide (x4_1 > 56)), (by first | rfl | (simp; done) | (simp [*]; done)), H', ⟨by have := HK1.out; first | omega | exact Nat.le_refl _⟩, ⟨iy⟩, ⟨kp⟩, ⟨bel⟩⟩
   case rest =>
    clear HC3
    try clear p2
    try clear c5
    try clear hcz6_0 hcz6_1
    try clear hcz7_0 hcz7_1
    try clear hfz6_0 hfz6_1
    try clear hfz7_0 hfz7_1
    obtain ⟨kq, x15_2, rfl, HA, HJ2, HI0, HK, HB⟩ := hcut
    cases kq with
    | zero => exact absurd HA.out (by simp [federationref7_reader_free.j1])
    | succ kj2 =>
     have H := HA.out
     clear HA
     simp only [federationref7_reader_free.j1] at H
     by_cases c8 : x15_2 = true
     ·subst c8
      have H1 : (some (0, t821, true)) = some (r1, r2, r3) := by rw [if_pos rfl] at H; exact H
      clear H
      have H := H1
      clear H1
      simp only [Option.some.injEq, Prod.mk.injEq] at H
      obtain ⟨rfl, rfl, rfl⟩ := H
      obtain ⟨HGz9, hgz9⟩ := HI0.out
      have hcz9_0 := cellS65_0 HGz9
      have hcz9_1 := cellS65_1 HGz9
      have hfz9_0 := blk_frozen HGz9 0
      have hfz9_1 := blk_frozen HGz9 1
      clear HGz9 hgz9
      go_wp2
      go_ret
      exact ⟨er, iy, bel, kp⟩
     ·replace c8 := Bool.eq_false_iff.mpr c8
      subst c8
      have H1 : (if 0 ≤ (IntKind.u64.wrap (x4_1)) then (if t820 < 128 then (some (wrap64 (x3_1 + (shl .i64 (Int.tmod t820 128) (IntKind.u64.wrap (x4_1)))), t821, t822)) else (federationref7_reader_free.l0 kj2 (wrap64 (x3_1 + (shl .i64 (Int.tmod t820 128) (IntKind.u64.wrap (x4_1))))) (wrap64 (x4_1 + 7)) t821 t822)) else (none)) = some (r1, r2, r3) := by rw [if_neg (show ¬ (false = true) by decide)] at H; exact H
      clear H
      have H := H1
      clear H1
      obtain ⟨ji10, hji10⟩ : ∃ j_ : Int, (IntKind.u64.wrap (x4_1)) = j_ := ⟨_, rfl⟩
      replace H : (if 0 ≤ (ji10) then (if t820 < 128 then (some (wrap64 (x3_1 + (shl .i64 (Int.tmod t820 128) (ji10))), t821, t822)) else (federationref7_reader_free.l0 kj2 (wrap64 (x3_1 + (shl .i64 (Int.tmod t820 128) (ji10)))) (wrap64 (x4_1 + 7)) t821 t822)) else (none)) = some (r1, r2, r3) := by first | (rw [hji10] at H; exact H) | (simp only [hji10] at H ⊢; exact H)
      by_cases c11 : 0 ≤ (ji10)
      ·rw [if_pos c11] at H
       have c11b0 := eq_true c11
       have c11b1 : decide (0 ≤ (ji10)) = true := decide_eq_true c11
       clear c11
       obtain ⟨ji12, hji12⟩ : ∃ j_ : Int, (shl .i64 (Int.tmod t820 128) (ji10)) = j_ := ⟨_, rfl⟩
       replace H : (if t820 < 128 then (some (wrap64 (x3_1 + (ji12)), t821, t822)) else (federationref7_reader_free.l0 kj2 (wrap64 (x3_1 + (ji12))) (wrap64 (x4_1 + 7)) t821 t822)) = some (r1, r2, r3) := by first | (rw [hji12] at H; exact H) | (simp only [hji12] at H ⊢; exact H)
       have hji12_ : (IntKind.i64.wrap ((Int.tmod t820 128) * 2 ^ min (ji10).toNat 64)) = ji12 := hji12
       have hji12z : (ji10) ≤ 64 → (IntKind.i64.wrap ((Int.tmod t820 128) * 2 ^ (ji10).toNat)) = ji12 := shl_small hji12
       have hji12y : (wrap64 ((Int.tmod t820 128) * 2 ^ min (ji10).toNat 64)) = ji12 := (i64_w _).symm.trans hji12_
       have hji12x : (ji10) ≤ 64 → (wrap64 ((Int.tmod t820 128) * 2 ^ (ji10).toNat)) = ji12 := fun h_ => (i64_w _).symm.trans (hji12z h_)
       by_cases c13 : t820 < 128
       ·rw [if_pos c13] at H
        have c13b0 : decide (t820 < 128) = true := decide_eq_true c13
        clear c13
        simp only [Option.some.injEq, Prod.mk.injEq] at H
        obtain ⟨rfl, rfl, rfl⟩ := H
        go_wp2
        go_ret
        exact ⟨by first | rfl | (simp [errW_none, errW_some] <;> rfl) | (simp only [← hji10, ← hji12]; first | rfl | (simp [errW_none, errW_some] <;> rfl)) | (simp [*, errW_none, errW_some] <;> rfl), iy, bel, kp⟩
       ·rw [if_neg c13] at H
        have c13b0 : decide (t820 < 128) = false := decide_eq_false c13
        clear c13
        have H' := am H
        clear H
        go_wp2
        go_roundg kj2
        case measure => have := HK1.out; have := HJ2.out; omega
        case rel => exact ⟨(wrap64 (x3_1 + (ji12))), (wrap64 (x4_1 + 7)), (t821), (t822), (by first | rfl | (simp; done) | (simp only [← hji12] <;> (first | rfl | simp)) | (simp [*]; done)), (by first | rfl | (simp; done) | (simp [*]; done)), H', ⟨by have := HK1.out; have := HJ2.out; omega⟩, ⟨iy⟩, ⟨kp⟩, ⟨bel⟩⟩
      ·rw [if_neg c11] at H
       exact absurd H (by simp)
end Go.Proofs.Ytagjmphkfeiiiaa.Q
