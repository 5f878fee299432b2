/- One function's walk, or a law's, by the text that a program of this session prints; what each theorem says stands in it. -/
import Derived.Test.YtagjmphkfeiiiaaQx0
import Derived.Test.YtagjmphkfeiiiaaXs
namespace Go.Proofs.Ytagjmphkfeiiiaa.Q
open Go.RowKit Go.Proofs.YtagjmphkfeiiiaaW.PrintWords Go.Proofs.YtagjmphkfeiiiaaW.PrintLast Go.Proofs.YtagjmphkfeiiiaaW.PrintMore
attribute [local go_sem] min2_int min_two
set_option linter.unusedVariables false
set_option linter.unusedSimpArgs false
def stringslite_HasPrefix.f (a0 : ByteArray) (a1 : ByteArray) : Option (Bool) := if (a0.size : Int) ≥ (a1.size : Int) then (if 0 ≤ (a1.size : Int) then (if (a1.size : Int) ≤ (a0.size : Int) then (some ((a0.extract 0 ((a1.size : Int) : Int).toNat).toList == a1.toList)) else (none)) else (none)) else (some false)
set_option maxHeartbeats 8000000 in
set_option maxRecDepth 100000 in
theorem stringslite_HasPrefix.calls (a0 : ByteArray) (a1 : ByteArray) (r : Bool) (w : World) (h : stringslite_HasPrefix.f a0 a1 = some r) :
  Calls Try.prog 46 #[.string a0, .string a1] w fun e w' => e = .returned (.bool r) ∧ Drawn0 w w' := by
 have H : (if (a0.size : Int) ≥ (a1.size : Int) then (if 0 ≤ (a1.size : Int) then (if (a1.size : Int) ≤ (a0.size : Int) then (some ((a0.extract 0 ((a1.size : Int) : Int).toNat).toList == a1.toList)) else (none)) else (none)) else (some false)) = some r := h
 clear h
 by_cases c3 : (a0.size : Int) ≥ (a1.size : Int)
 ·rw [if_pos c3] at H
  have c3b0 : decide ((a1.size : Int) ≤ (a0.size : Int)) = true := decide_eq_true c3
  have c3b1 : decide (a1.size ≤ a0.size) = true := decide_eq_true (Int.ofNat_le.mp c3)
  clear c3
  by_cases c4 : 0 ≤ (a1.size : Int)
  ·rw [if_pos c4] at H
   have c4b0 := eq_true c4
   have c4b1 : decide (0 ≤ (a1.size : Int)) = true := decide_eq_true c4
   clear c4
   by_cases c5 : (a1.size : Int) ≤ (a0.size : Int)
   ·rw [if_pos c5] at H
    have c5b0 := eq_true c5
    have c5b1 : decide ((a1.size : Int) ≤ (a0.size : Int)) = true := decide_eq_true c5
    clear c5
    obtain rfl := Option.some.inj H
    go_enter Try.func46, Try.ntmps46
    go_wp2
    go_ret
    exact ⟨by first | rfl | (simp; done) | (simp [*]; done), by repeat (first | exact Drawn0.refl _ | apply Drawn0.step)⟩
   ·rw [if_neg c5] at H
    exact absurd H (by simp)
  ·rw [if_neg c4] at H
   exact absurd H (by simp)
 ·rw [if_neg c3] at H
  have c3b0 : decide ((a1.size : Int) ≤ (a0.size : Int)) = false := decide_eq_false c3
  have c3b1 : decide (a1.size ≤ a0.size) = false := decide_eq_false (fun h => c3 (Int.ofNat_le.mpr h))
  clear c3
  obtain rfl := Option.some.inj H
  go_enter Try.func46, Try.ntmps46
  go_wp2
  go_ret
  exact ⟨by first | rfl | (simp; done) | (simp [*]; done), by repeat (first | exact Drawn0.refl _ | apply Drawn0.step)⟩
def strings_HasPrefix.f (a0 : ByteArray) (a1 : ByteArray) : Option (Bool) := (stringslite_HasPrefix.f a0 a1).bind fun t220 => (some t220)
set_option maxHeartbeats 8000000 in
set_option maxRecDepth 100000 in
theorem strings_HasPrefix.calls (a0 : ByteArray) (a1 : ByteArray) (r : Bool) (w : World) (h : strings_HasPrefix.f a0 a1 = some r) :
  Calls Try.prog 30 #[.string a0, .string a1] w fun e w' => e = .returned (.bool r) ∧ Drawn0 w w' := by
 have H : ((stringslite_HasPrefix.f a0 a1).bind fun t220 => (some t220)) = some r := h
 clear h
 replace H := Option.bind_eq_some_iff.mp H
 obtain ⟨t220, A30, H⟩ := H
 replace H : (some t220) = some r := H
 have A3 := am A30
 clear A30
 obtain rfl := Option.some.inj H
 go_enter Try.func30, Try.ntmps30
 go_wp2_with (first | ((with_reducible refine gate_callee (f := 46) rfl ?_); refine goesL_ (some 7) rfl rfl Try.func46 (by kernel_rfl) rfl #[.string a0, .string a1] rfl ar ?_; (with_reducible refine (stringslite_HasPrefix.calls a0 a1 t220 _ A3.out).mono ?_); rintro e w' ⟨rfl, ⟨nd, rfl⟩⟩; refine ⟨_, rfl, ?_⟩))
 go_ret
 exact ⟨by first | rfl | (simp; done) | (simp [*]; done), by repeat (first | exact Drawn0.refl _ | apply Drawn0.step)⟩
def IsS60 (w0 W : World) (g : Nat) (f0 : ByteArray) (f1 : Bool) : Prop := W.heap[g]? = some (.cells #[.string f0, .bool f1] 60 (0, 0)) ∧ w0.heap.size ≤ g
theorem IsS60.grown {w0 W : World} {g : Nat} {f0 : ByteArray} {f1 : Bool} {W1 : World} {row : Option Nat} (h : IsS60 w0 W g f0 f1) (hw : W.grownBy W1 row) (hne : some g ≠ row) : IsS60 w0 W1 g f0 f1 := by
  obtain ⟨hb, hg⟩ := h
  exact ⟨blk_grown hb hw hne, hg⟩
theorem IsS60.kept {w0 W : World} {g : Nat} {f0 : ByteArray} {f1 : Bool} {W1 : World} {S : Nat → Prop} (h : IsS60 w0 W g f0 f1) (hk : Kept W W1 S) (hne : ¬ S g) : IsS60 w0 W1 g f0 f1 := by
  obtain ⟨hb, hg⟩ := h
  exact ⟨blk_kept hb hk hne, hg⟩
theorem IsS60.below {w0 W : World} {g : Nat} {f0 : ByteArray} {f1 : Bool} {W1 : World} (h : IsS60 w0 W g f0 f1) (hw : Below W.heap.size W W1) : IsS60 w0 W1 g f0 f1 := h.grown (grown_of_below hw none) (by simp)
theorem IsS60.alloc {w0 W : World} {g : Nat} {f0 : ByteArray} {f1 : Bool} (h : IsS60 w0 W g f0 f1) (o : Obj) : IsS60 w0 (W.alloc o) g f0 f1 := h.below (below_alloc (Below.refl _ _) o)
theorem IsS60.drewN {w0 W : World} {g : Nat} {f0 : ByteArray} {f1 : Bool} (h : IsS60 w0 W g f0 f1) (m : Nat) : IsS60 w0 (W.drewN m) g f0 f1 := h
theorem IsS60.drew {w0 W : World} {g : Nat} {f0 : ByteArray} {f1 : Bool} (h : IsS60 w0 W g f0 f1) : IsS60 w0 W.drew g f0 f1 := h
theorem IsS60.at_ {w0 W : World} {g : Nat} {f0 : ByteArray} {f1 : Bool} {w' : World} {m : Nat} (hq : W.drewN m = w') (h : IsS60 w0 W g f0 f1) : IsS60 w0 w' g f0 f1 := by subst hq; exact IsS60.drewN h m
theorem IsS60.apart {w0 W : World} {g : Nat} {f0 : ByteArray} {f1 : Bool} {α : Type} {d : Kd α} {e : Nat} {base : Nat} {ok : Nat → Prop} {v : Value} {xs : List α} (h : IsS60 w0 W g f0 f1) (ho : d.R e W base ok v xs) (ht : ∀ q, q ∈ e :: d.E → q ≠ 60) : d.R e W base (fun k => ok k ∧ k ≠ g) v xs := by
  obtain ⟨hb, hg⟩ := h
  exact Kd.R_types ho hb ht
theorem IsS60.own_ne {w0 W : World} {g : Nat} {f0 : ByteArray} {f1 : Bool} {α : Type} {d : Kd α} {e : Nat} {base : Nat} {ok : Nat → Prop} {v : Value} {xs : List α} (h : IsS60 w0 W g f0 f1) (ho : d.R e W base ok v xs) (ht : e ≠ 60) : some g ≠ v.ownBlock := by
  obtain ⟨hb, hg⟩ := h
  exact Kd.R_ne ho hb ht
theorem IsS60.lt {w0 W : World} {g : Nat} {f0 : ByteArray} {f1 : Bool} (h : IsS60 w0 W g f0 f1) : g < W.heap.size := by
  obtain ⟨hb, hg⟩ := h
  exact blk_lt hb
theorem IsS60.ge {w0 W : World} {g : Nat} {f0 : ByteArray} {f1 : Bool} (h : IsS60 w0 W g f0 f1) : w0.heap.size ≤ g := by
  obtain ⟨hb, hg⟩ := h
  exact hg
theorem IsS60.ne_blk {w0 W : World} {g : Nat} {f0 : ByteArray} {f1 : Bool} {a : Nat} {cs : Array Value} {t : TypeId} {fr : Nat × Nat} (h : IsS60 w0 W g f0 f1) (hb2 : W.heap[a]? = some (.cells cs t fr)) (ht : t ≠ 60) : g ≠ a := by
  obtain ⟨hb, hg⟩ := h
  rintro rfl
  rw [hb] at hb2
  injection hb2 with hb2
  injection hb2 with _ ht2
  exact ht ht2.symm
theorem IsS60.far {w0 W : World} {g : Nat} {f0 : ByteArray} {f1 : Bool} {p : Addr} (h : IsS60 w0 W g f0 f1) (hne : g ≠ p.block) (u : Value) : IsS60 w0 (W.setCell p u) g f0 f1 := by
  obtain ⟨hb, hg⟩ := h
  exact ⟨blk_far hb hne u, hg⟩
theorem cellS60_0 {W : World} {g : Nat} {f0 : ByteArray} {f1 : Bool} (h : W.heap[g]? = some (.cells #[.string f0, .bool f1] 60 (0, 0))) : W.cell? ⟨g, 0, none⟩ = some (.string f0) := (blk_cell h 0).trans rfl
theorem IsS60.set_0 {w0 W : World} {g : Nat} {f0 : ByteArray} {f1 : Bool} (h : IsS60 w0 W g f0 f1) (x : ByteArray) : IsS60 w0 (W.setCell ⟨g, 0, none⟩ (.string x)) g x f1 := by
  obtain ⟨hb, hg⟩ := h
  exact ⟨by simpa using blk_set hb 0 (.string x), hg⟩
theorem cellS60_1 {W : World} {g : Nat} {f0 : ByteArray} {f1 : Bool} (h : W.heap[g]? = some (.cells #[.string f0, .bool f1] 60 (0, 0))) : W.cell? ⟨g, 1, none⟩ = some (.bool f1) := (blk_cell h 1).trans rfl
theorem IsS60.set_1 {w0 W : World} {g : Nat} {f0 : ByteArray} {f1 : Bool} (h : IsS60 w0 W g f0 f1) (x : Bool) : IsS60 w0 (W.setCell ⟨g, 1, none⟩ (.bool x)) g f0 x := by
  obtain ⟨hb, hg⟩ := h
  exact ⟨by simpa using blk_set hb 1 (.bool x), hg⟩
def cmd_reader_bytes.f (s0_0 : ByteArray) (s0_1 : Bool) (a1 : Int) : Option (ByteArray × ByteArray × Bool) := if a1 < 0 then (some ((⟨#[]⟩ : ByteArray), (⟨#[]⟩ : ByteArray), true)) else (if a1 > (s0_0.size : Int) then (some ((⟨#[]⟩ : ByteArray), (⟨#[]⟩ : ByteArray), true)) else (if 0 ≤ a1 then (if a1 ≤ (s0_0.size : Int) then (some (s0_0.extract 0 (a1 : Int).toNat, s0_0.extract (a1 : Int).toNat s0_0.size, s0_1)) else (none)) else (none)))
set_option maxHeartbeats 8000000 in
set_option maxRecDepth 100000 in
theorem cmd_reader_bytes.calls (g : Nat) (s0_0 : ByteArray) (s0_1 : Bool) (a1 : Int) (r1 : ByteArray) (r2 : ByteArray) (r3 : Bool) (w0 w : World) (hI : IsS60 w0 w g s0_0 s0_1) (hB : Below w0.heap.size w0 w) (h : cmd_reader_bytes.f s0_0 s0_1 a1 = some (r1, r2, r3)) :
  Calls Try.prog 54 #[.pointer (some ⟨g, 0, none⟩), .int .i64 a1] w fun e w' => e = .returned (.string r1) ∧ IsS60 w0 w' g r2 r3 ∧ Below w0.heap.size w0 w' ∧ KeepBut w w' g none := by
 have HI0 := am hI
 have HK := am (KeepBut.refl w g none)
 have HL := am hB.size
 clear hI
 have HW0 := am hB.size
 have HB := am hB
 clear hB
 have H : (if a1 < 0 then (some ((⟨#[]⟩ : ByteArray), (⟨#[]⟩ : ByteArray), true)) else (if a1 > (s0_0.size : Int) then (some ((⟨#[]⟩ : ByteArray), (⟨#[]⟩ : ByteArray), true)) else (if 0 ≤ a1 then (if a1 ≤ (s0_0.size : Int) then (some (s0_0.extract 0 (a1 : Int).toNat, s0_0.extract (a1 : Int).toNat s0_0.size, s0_1)) else (none)) else (none)))) = some (r1, r2, r3) := h
 clear h
 by_cases c3 : a1 < 0
 ·rw [if_pos c3] at H
  have c3b0 : decide (a1 < 0) = true := decide_eq_true c3
  clear c3
  simp only [Option.some.injEq, Prod.mk.injEq] at H
  obtain ⟨rfl, rfl, rfl⟩ := H
  obtain ⟨HGz4, hgz4⟩ := HI0.out
  have hcz4_0 := cellS60_0 HGz4
  have hcz4_1 := cellS60_1 HGz4
  have hfz4_0 := blk_frozen HGz4 0
  have hfz4_1 := blk_frozen HGz4 1
  clear HGz4 hgz4
  go_enter Try.func54, Try.ntmps54
  go_wp2
  go_ret
  exact ⟨er, iz, bel, kp⟩
 ·rw [if_neg c3] at H
  have c3b0 : decide (a1 < 0) = false := decide_eq_false c3
  clear c3
  by_cases c5 : a1 > (s0_0.size : Int)
  ·rw [if_pos c5] at H
   have c5b0 : decide ((s0_0.size : Int) < a1) = true := decide_eq_true c5
   clear c5
   simp only [Option.some.injEq, Prod.mk.injEq] at H
   obtain ⟨rfl, rfl, rfl⟩ := H
   obtain ⟨HGz6, hgz6⟩ := HI0.out
   have hcz6_0 := cellS60_0 HGz6
   have hcz6_1 := cellS60_1 HGz6
   have hfz6_0 := blk_frozen HGz6 0
   have hfz6_1 := blk_frozen HGz6 1
   clear HGz6 hgz6
   go_enter Try.func54, Try.ntmps54
   go_wp2
   go_ret
   exact ⟨er, iz, bel, kp⟩
  ·rw [if_neg c5] at H
   have c5b0 : decide ((s0_0.size : Int) < a1) = false := decide_eq_false c5
   clear c5
   by_cases c7 : 0 ≤ a1
   ·rw [if_pos c7] at H
    have c7b0 := eq_true c7
    have c7b1 : decide (0 ≤ a1) = true := decide_eq_true c7
    clear c7
    by_cases c8 : a1 ≤ (s0_0.size : Int)
    ·rw [if_pos c8] at H
     have c8b0 := eq_true c8
     have c8b1 : decide (a1 ≤ (s0_0.size : Int)) = true := decide_eq_true c8
     clear c8
     have c9b0 := eq_true (of_decide_eq_true (by first | (with_reducible assumption) | assumption) : 0 ≤ a1)
     have c10b0 := eq_true (of_decide_eq_true (by first | (with_reducible assumption) | assumption) : a1 ≤ (s0_0.size : Int))
     simp only [Option.some.injEq, Prod.mk.injEq] at H
     obtain ⟨rfl, rfl, rfl⟩ := H
     obtain ⟨HGz11, hgz11⟩ := HI0.out
     have hcz11_0 := cellS60_0 HGz11
     have hcz11_1 := cellS60_1 HGz11
     have hfz11_0 := blk_frozen HGz11 0
     have hfz11_1 := blk_frozen HGz11 1
     clear HGz11 hgz11
     go_enter Try.func54, Try.ntmps54
     go_wp2
     go_ret
     exact ⟨er, iz, bel, kp⟩
    ·rw [if_neg c8] at H
     exact absurd H (by simp)
   ·rw [if_neg c7] at H
    exact absurd H (by simp)
mutual
def cmd_reader_short.l0 : Nat → Int → Int → ByteArray → Bool → Option (Int × ByteArray × Bool)
  | 0, _, _, _, _ => none
  | k + 1, x3, x4, x1000, x1001 => (cmd_reader_bytes.f x1000 x1001 1).bind fun bt221 => (if bt221.1.toList = ([] : List UInt8) then (cmd_reader_short.j1 k x3 x4 bt221.1 true bt221.2.1 bt221.2.2) else (cmd_reader_short.j1 k x3 x4 bt221.1 (decide (x4 > 56)) bt221.2.1 bt221.2.2))
def cmd_reader_short.j1 : Nat → Int → Int → ByteArray → Bool → ByteArray → Bool → Option (Int × ByteArray × Bool)
  | 0, _, _, _, _, _, _ => none
  | k + 1, x3, x4, x5, x13, x1000, x1001 => if x13 = true then (some (0, x1000, true)) else (if 0 < (x5.size : Int) then (if 0 ≤ x4 then (if (bt x5 0) > 127 then (cmd_reader_short.l0 k (Go.bits .or .i64 x3 (shl .i64 (wrap64 (Go.bits .and .u8 (bt x5 0) 127)) x4)) (wrap64 (x4 + 7)) x1000 x1001) else (some (Go.bits .or .i64 x3 (shl .i64 (wrap64 (Go.bits .and .u8 (bt x5 0) 127)) x4), x1000, x1001))) else (none)) else (none))
end
def cmd_reader_short.f (k : Nat) (s0_0 : ByteArray) (s0_1 : Bool) : Option (Int × ByteArray × Bool) := cmd_reader_short.l0 k 0 0 s0_0 s0_1
theorem cmd_reader_short.mono_l : ∀ k, (∀ y0 y1 y2 y3, LeO (cmd_reader_short.l0 k y0 y1 y2 y3) (cmd_reader_short.l0 (k + 1) y0 y1 y2 y3)) ∧ (∀ y0 y1 y2 y3 y4 y5, LeO (cmd_reader_short.j1 k y0 y1 y2 y3 y4 y5) (cmd_reader_short.j1 (k + 1) y0 y1 y2 y3 y4 y5))
  | 0 => ⟨fun _ _ _ _ r h => by simp [cmd_reader_short.l0] at h, fun _ _ _ _ _ _ r h => by simp [cmd_reader_short.j1] at h⟩
  | k + 1 => by
    obtain ⟨ih0, ih1⟩ := cmd_reader_short.mono_l k
    refine ⟨?_, ?_⟩
    · intro y0 y1 y2 y3
      unfold cmd_reader_short.l0
      repeat' first
      | (with_reducible exact ih0 _ _ _ _)
      | (with_reducible exact ih1 _ _ _ _ _ _)
      | (with_reducible exact LeO.refl _)
      | (with_reducible exact LeO.none _)
      | (with_reducible refine LeO.ite ?_ ?_)
      | (with_reducible refine LeO.bind ?_ (fun _ => ?_))
    · intro y0 y1 y2 y3 y4 y5
      unfold cmd_reader_short.j1
      repeat' first
      | (with_reducible exact ih0 _ _ _ _)
      | (with_reducible exact ih1 _ _ _ _ _ _)
      | (with_reducible exact LeO.refl _)
      | (with_reducible exact LeO.none _)
      | (with_reducible refine LeO.ite ?_ ?_)
      | (with_reducible refine LeO.bind ?_ (fun _ => ?_))
theorem cmd_reader_short.mono : ∀ a0 a1 k, LeO (cmd_reader_short.f k a0 a1) (cmd_reader_short.f (k + 1) a0 a1) := by
  intro a0 a1 k
  obtain ⟨ih0, ih1⟩ := cmd_reader_short.mono_l k
  unfold cmd_reader_short.f
  repeat' first
      | (with_reducible exact ih0 _ _ _ _)
      | (with_reducible exact ih1 _ _ _ _ _ _)
      | (with_reducible exact LeO.refl _)
      | (with_reducible exact LeO.none _)
      | (with_reducible refine LeO.ite ?_ ?_)
      | (with_reducible refine LeO.bind ?_ (fun _ => ?_))
set_option maxHeartbeats 8000000 in
set_option maxRecDepth 100000 in
theorem cmd_reader_short.calls (k : Nat) (g : Nat) (s0_0 : ByteArray) (s0_1 : Bool) (r1 : Int) (r2 : ByteArray) (r3 : Bool) (w0 w : World) (hI : IsS60 w0 w g s0_0 s0_1) (hB : Below w0.heap.size w0 w) (h : cmd_reader_short.f k s0_0 s0_1 = some (r1, r2, r3)) :
  Calls Try.prog 47 #[.pointer (some ⟨g, 0, none⟩)] w fun e w' => e = .returned (.int .i64 r1) ∧ IsS60 w0 w' g r2 r3 ∧ Below w0.heap.size w0 w' ∧ KeepBut w w' g none := by
 have HI0 := am hI
 have HK := am (KeepBut.refl w g none)
 have HL := am hB.size
 clear hI
 have HW0 := am hB.size
 have HB := am hB
 clear hB
 have H : (cmd_reader_short.l0 k 0 0 s0_0 s0_1) = some (r1, r2, r3) := h
 clear h
 have H' := am H
 clear H
 go_enter Try.func47, Try.ntmps47
 go_wp2
 refine wp_scope_behind 0 (fun kq a' w' => ∃ u1 u2 u3 u4 u5 u6 u7 u8 u9 u10 u11 u12 u13 u14 u15 u16 u17 u18 u19 u20 u21 u22 u23 u24 u25 u26 u27 u28 u29 u30 : Value, a' = { tmps := #[.pointer (some ⟨g, 0, none⟩), u1, u2, u3, u4, u5, u6, u7, u8, u9, u10, u11, u12, u13, u14, u15, u16, u17, u18, u19, u20, u21, u22, u23, u24, u25, u26, u27, u28, u29, u30], defers := [] } ∧ (∃ (x3_1 : Int) (x4_1 : Int) (x1000_1 : ByteArray) (x1001_1 : Bool), u3 = .int .i64 x3_1 ∧ u4 = .int .i64 x4_1 ∧ Aside0 (cmd_reader_short.l0 kq x3_1 x4_1 x1000_1 x1001_1 = some (r1, r2, r3)) ∧ Aside0 (kq ≤ k) ∧ Aside0 (IsS60 w0 w' g x1000_1 x1001_1) ∧ Aside0 (KeepBut w w' g none) ∧ Aside0 (Below w0.heap.size w0 w'))) { tmps := #[.pointer (some ⟨g, 0, none⟩), undef, .int .i64 0, .int .i64 0, .int .i64 0, undef, undef, undef, undef, undef, undef, undef, undef, undef, undef, undef, undef, undef, undef, undef, undef, undef, undef, undef, undef, undef, undef, undef, undef, undef, undef], defers := [] } (k) rfl ?first ?run ?pass
 case first =>
  refine ⟨_, _, _, _, _, _, _, _, _, _, _, _, _, _, _, _, _, _, _, _, _, _, _, _, _, _, _, _, _, _, rfl, ?_⟩
  exact ⟨(0), (0), (s0_0), (s0_1), (by first | rfl | (simp; done) | (simp [*]; done)), (by first | rfl | (simp; done) | (simp [*]; done)), H', ⟨Nat.le_refl _⟩, ⟨iz⟩, ⟨kp⟩, ⟨bel⟩⟩
 case run =>
  go_wp2
 case pass =>
  rintro gk a' wr ⟨u1, u2, u3, u4, u5, u6, u7, u8, u9, u10, u11, u12, u13, u14, u15, u16, u17, u18, u19, u20, u21, u22, u23, u24, u25, u26, u27, u28, u29, u30, rfl, hrel⟩
  clear H'
  obtain ⟨x3_1, x4_1, x1000_1, x1001_1, rfl, rfl, HA, HK1, HI0, HK, HB⟩ := hrel
  cases gk with
  | zero => exact absurd HA.out (by simp [cmd_reader_short.l0])
  | succ k1 =>
   have H := HA.out
   clear HA
   simp only [cmd_reader_short.l0] at H
   replace H := Option.bind_eq_some_iff.mp H
   obtain ⟨⟨t221, t222, t223⟩, A20, H⟩ := H
   replace H : (if t221.toList = ([] : List UInt8) then (cmd_reader_short.j1 k1 x3_1 x4_1 t221 true t222 t223) else (cmd_reader_short.j1 k1 x3_1 x4_1 t221 (decide (x4_1 > 56)) t222 t223)) = some (r1, r2, r3) := H
   have A2 := am A20
   clear A20
   have HC3 := am H
   clear H
   go_upto_region 3 with (first | ((with_reducible refine gate_callee (f := 54) rfl ?_); refine goesL_ (some 7) rfl rfl Try.func54 (by kernel_rfl) rfl #[.pointer (some ⟨g, 0, none⟩), .int .i64 1] rfl ar ?_; (with_reducible refine (cmd_reader_bytes.calls g x1000_1 x1001_1 1 t221 t222 t223 w0 _ ?side1 ?side2 A2.out).mono ?_); (case side1 => exact iz); (case side2 => exact bel); rintro e w4 ⟨rfl, hi, hb, hk⟩; refine ⟨_, rfl, ?_⟩; have n_ := z3 (KeepBut.trans kp hk (.inl rfl)) (hb) (hi); clear HK HB HI0; obtain ⟨HK, HB, HI0⟩ := n_; (try clear hb); (try clear hb2); (try clear hk); (try clear hi)))
   (try simp only [Act.put, List.setIfInBounds_toArray, List.set_cons_zero, List.set_cons_succ])
   go_cut [13] (fun v13 wc => ∃ (kq : Nat) (x13_2 : Bool), v13 = .bool x13_2 ∧ Aside0 (cmd_reader_short.j1 kq x3_1 x4_1 t221 x13_2 t222 t223 = some (r1, r2, r3)) ∧ Aside0 (kq ≤ k1) ∧ Aside0 (IsS60 w0 wc g t222 t223) ∧ Aside0 (KeepBut w wc g none) ∧ Aside0 (Below w0.heap.size w0 wc))
   case first =>
    have H := HC3.out
    clear HC3
    by_cases c5 : t221.toList = ([] : List UInt8)
    ·rw [if_pos c5] at H
     have c5b0 : (t221.toList == ([] : List UInt8)) = true := beq_iff_eq.mpr c5
     have c5b1 : (t221.toList != ([] : List UInt8)) = false := bne_eq_false_iff_eq.mpr c5
     clear c5
     (first | rw [c5b0] | (simp only [i64_w, i32_w]; rw [c5b0]) | skip)
     have H' := am H
     clear H
     go_wp2
     go_meet
     case rel => exact ⟨_, (true), (by first | rfl | (simp; done) | (simp [*]; done)), H', ⟨by have := HK1.out; first | omega | exact Nat.le_refl _⟩, ⟨iz⟩, ⟨kp⟩, ⟨bel⟩⟩
    ·rw [if_neg c5] at H
     have c5b0 : (t221.toList == ([] : List UInt8)) = false := beq_eq_false_iff_ne.mpr c5
     have c5b1 : (t221.toList != ([] : List UInt8)) = true := bne_iff_ne.mpr c5
     (first | rw [c5b0] | (simp only [i64_w, i32_w]; rw [c5b0]) | skip)
     have H' := am H
     clear H
     go_wp2
     go_meet
     case rel => exact ⟨_, (decide (x4_1 > 56)), (by first | rfl | (simp; done) | (simp [*]; done)), H', ⟨by have := HK1.out; first | omega | exact Nat.le_refl _⟩, ⟨iz⟩, ⟨kp⟩, ⟨bel⟩⟩
   case rest =>
    clear HC3
    try clear p2
    try clear c4
    try clear c5
    try clear c5b0
    try clear c5b1
    obtain ⟨kq, x13_2, rfl, HA, HJ2, HI0, HK, HB⟩ := hcut
    cases kq with
    | zero => exact absurd HA.out (by simp [cmd_reader_short.j1])
    | succ kj2 =>
     have H := HA.out
     clear HA
     simp only [cmd_reader_short.j1] at H
     by_cases c6 : x13_2 = true
     ·subst c6
      have H1 : (some (0, t222, true)) = some (r1, r2, r3) := by rw [if_pos rfl] at H; exact H
      clear H
      have H := H1
      clear H1
      simp only [Option.some.injEq, Prod.mk.injEq] at H
      obtain ⟨rfl, rfl, rfl⟩ := H
      obtain ⟨HGz7, hgz7⟩ := HI0.out
      have hcz7_0 := cellS60_0 HGz7
      have hcz7_1 := cellS60_1 HGz7
      have hfz7_0 := blk_frozen HGz7 0
      have hfz7_1 := blk_frozen HGz7 1
      clear HGz7 hgz7
      go_wp2
      (try simp only [Exit.jump])
      go_ret
      exact ⟨er, iz, bel, kp⟩
     ·replace c6 := Bool.eq_false_iff.mpr c6
      subst c6
      have H1 : (if 0 < (t221.size : Int) then (if 0 ≤ x4_1 then (if (bt t221 0) > 127 then (cmd_reader_short.l0 kj2 (Go.bits .or .i64 x3_1 (shl .i64 (wrap64 (Go.bits .and .u8 (bt t221 0) 127)) x4_1)) (wrap64 (x4_1 + 7)) t222 t223) else (some (Go.bits .or .i64 x3_1 (shl .i64 (wrap64 (Go.bits .and .u8 (bt t221 0) 127)) x4_1), t222, t223))) else (none)) else (none)) = some (r1, r2, r3) := by rw [if_neg (show ¬ (false = true) by decide)] at H; exact H
      clear H
      have H := H1
      clear H1
      by_cases c8 : 0 < (t221.size : Int)
      ·rw [if_pos c8] at H
       have c8b0 : decide (0 < (t221.size : Int)) = true := decide_eq_true c8
       have c8b1 : decide (0 < t221.size) = true := decide_eq_true (by omega)
       clear c8
       by_cases c10 : 0 ≤ x4_1
       ·rw [if_pos c10] at H
        have c10b0 := eq_true c10
        have c10b1 : decide (0 ≤ x4_1) = true := decide_eq_true c10
        clear c10
        obtain ⟨ji11, hji11⟩ : ∃ j_ : Int, (shl .i64 (wrap64 (Go.bits .and .u8 (bt t221 0) 127)) x4_1) = j_ := ⟨_, rfl⟩
        replace H : (if (bt t221 0) > 127 then (cmd_reader_short.l0 kj2 (Go.bits .or .i64 x3_1 (ji11)) (wrap64 (x4_1 + 7)) t222 t223) else (some (Go.bits .or .i64 x3_1 (ji11), t222, t223))) = some (r1, r2, r3) := by first | (rw [hji11] at H; exact H) | (simp only [hji11] at H ⊢; exact H)
        have hji11_ : (IntKind.i64.wrap ((wrap64 (Go.bits .and .u8 (bt t221 0) 127)) * 2 ^ min x4_1.toNat 64)) = ji11 := hji11
        have hji11z : x4_1 ≤ 64 → (IntKind.i64.wrap ((wrap64 (Go.bits .and .u8 (bt t221 0) 127)) * 2 ^ x4_1.toNat)) = ji11 := shl_small hji11
        have hji11y : (wrap64 ((wrap64 (Go.bits .and .u8 (bt t221 0) 127)) * 2 ^ min x4_1.toNat 64)) = ji11 := (i64_w _).symm.trans hji11_
        have hji11x : x4_1 ≤ 64 → (wrap64 ((wrap64 (Go.bits .and .u8 (bt t221 0) 127)) * 2 ^ x4_1.toNat)) = ji11 := fun h_ => (i64_w _).symm.trans (hji11z h_)
        by_cases c13 : (bt t221 0) > 127
        ·rw [if_pos c13] at H
         have c13b0 : decide (127 < (bt t221 0)) = true := decide_eq_true c13
         clear c13
         have H' := am H
         clear H
         have p9 : 0 ≤ (0 : Int) := (by omega)
         have q9 : 0 < t221.size := (by have : (0 : Int) < (t221.size : Int) := of_decide_eq_true (by first | (with_reducible assumption) | assumption); omega)
         have hx9 : ∀ h : 0 < t221.size, ((t221[0]'h).toNat : Int) = bt t221 0 := bt_at t221 0
         clear p9
         have qi9 : (0 < (t221.size : Int)) = True := eq_true (of_decide_eq_true (by first | (with_reducible assumption) | assumption))
         replace q9 := eq_true q9
         have p12 : 0 ≤ (0 : Int) := (by omega)
         have q12 : 0 < t221.size := (by have : (0 : Int) < (t221.size : Int) := of_decide_eq_true (by first | (with_reducible assumption) | assumption); omega)
         have hx12 : ∀ h : 0 < t221.size, ((t221[0]'h).toNat : Int) = bt t221 0 := bt_at t221 0
         clear p12
         have qi12 : (0 < (t221.size : Int)) = True := eq_true (of_decide_eq_true (by first | (with_reducible assumption) | assumption))
         replace q12 := eq_true q12
         go_wp2
         go_step3
         exact ⟨rfl, kj2, by (have := HK1.out; have := HJ2.out; omega), _, _, _, _, _, _, _, _, _, _, _, _, _, _, _, _, _, _, _, _, _, _, _, _, _, _, _, _, _, _, rfl, ⟨(Go.bits .or .i64 x3_1 (ji11)), (wrap64 (x4_1 + 7)), (t222), (t223), (by first | rfl | (simp; done) | (simp only [← hji11] <;> (first | rfl | simp)) | (simp [*]; done)), (by first | rfl | (simp; done) | (simp [*]; done)), H', ⟨by have := HK1.out; have := HJ2.out; omega⟩, ⟨iz⟩, ⟨kp⟩, ⟨bel⟩⟩⟩
        ·rw [if_neg c13] at H
         have c13b0 : decide (127 < (bt t221 0)) = false := decide_eq_false c13
         clear c13
         simp only [Option.some.injEq, Prod.mk.injEq] at H
         obtain ⟨rfl, rfl, rfl⟩ := H
         have p9 : 0 ≤ (0 : Int) := (by omega)
         have q9 : 0 < t221.size := (by have : (0 : Int) < (t221.size : Int) := of_decide_eq_true (by first | (with_reducible assumption) | assumption); omega)
         have hx9 : ∀ h : 0 < t221.size, ((t221[0]'h).toNat : Int) = bt t221 0 := bt_at t221 0
         clear p9
         have qi9 : (0 < (t221.size : Int)) = True := eq_true (of_decide_eq_true (by first | (with_reducible assumption) | assumption))
         replace q9 := eq_true q9
         have p12 : 0 ≤ (0 : Int) := (by omega)
         have q12 : 0 < t221.size := (by have : (0 : Int) < (t221.size : Int) := of_decide_eq_true (by first | (with_reducible assumption) | assumption); omega)
         have hx12 : ∀ h : 0 < t221.size, ((t221[0]'h).toNat : Int) = bt t221 0 := bt_at t221 0
         clear p12
         have qi12 : (0 < (t221.size : Int)) = True := eq_true (of_decide_eq_true (by first | (with_reducible assumption) | assumption))
         replace q12 := eq_true q12
         go_wp2
         (try simp only [Exit.jump])
         go_ret
         exact ⟨by first | rfl | (simp [errW_none, errW_some] <;> rfl) | (simp only [← hji11]; first | rfl | (simp [errW_none, errW_some] <;> rfl)) | (simp [*, errW_none, errW_some] <;> rfl), iz, bel, kp⟩
       ·rw [if_neg c10] at H
        exact absurd H (by simp)
      ·rw [if_neg c8] at H
       exact absurd H (by simp)
def cmd_reader_flag.f (s0_0 : ByteArray) (s0_1 : Bool) : Option (Bool × ByteArray × Bool) := (cmd_reader_bytes.f s0_0 s0_1 1).bind fun bt224 => (some ((bt224.1.toList == ([1] : List UInt8)), bt224.2.1, bt224.2.2))
set_option maxHeartbeats 8000000 in
set_option maxRecDepth 100000 in
theorem cmd_reader_flag.calls (g : Nat) (s0_0 : ByteArray) (s0_1 : Bool) (r1 : Bool) (r2 : ByteArray) (r3 : Bool) (w0 w : World) (hI : IsS60 w0 w g s0_0 s0_1) (hB : Below w0.heap.size w0 w) (h : cmd_reader_flag.f s0_0 s0_1 = some (r1, r2, r3)) :
  Calls Try.prog 53 #[.pointer (some ⟨g, 0, none⟩)] w fun e w' => e = .returned (.bool r1) ∧ IsS60 w0 w' g r2 r3 ∧ Below w0.heap.size w0 w' ∧ KeepBut w w' g none := by
 have HI0 := am hI
 have HK := am (KeepBut.refl w g none)
 have HL := am hB.size
 clear hI
 have HW0 := am hB.size
 have HB := am hB
 clear hB
 have H : ((cmd_reader_bytes.f s0_0 s0_1 1).bind fun bt224 => (some ((bt224.1.toList == ([1] : List UInt8)), bt224.2.1, bt224.2.2))) = some (r1, r2, r3) := h
 clear h
 replace H := Option.bind_eq_some_iff.mp H
 obtain ⟨⟨t224, t225, t226⟩, A20, H⟩ := H
 replace H : (some ((t224.toList == ([1] : List UInt8)), t225, t226)) = some (r1, r2, r3) := H
 have A2 := am A20
 clear A20
 simp only [Option.some.injEq, Prod.mk.injEq] at H
 obtain ⟨rfl, rfl, rfl⟩ := H
 go_enter Try.func53, Try.ntmps53
 go_wp2_with (first | ((with_reducible refine gate_callee (f := 54) rfl ?_); refine goesL_ (some 4) rfl rfl Try.func54 (by kernel_rfl) rfl #[.pointer (some ⟨g, 0, none⟩), .int .i64 1] rfl ar ?_; (with_reducible refine (cmd_reader_bytes.calls g s0_0 s0_1 1 t224 t225 t226 w0 _ ?side1 ?side2 A2.out).mono ?_); (case side1 => exact iz); (case side2 => exact bel); rintro e w3 ⟨rfl, hi, hb, hk⟩; refine ⟨_, rfl, ?_⟩; have n_ := z3 (KeepBut.trans kp hk (.inl rfl)) (hb) (hi); clear HK HB HI0; obtain ⟨HK, HB, HI0⟩ := n_; (try clear hb); (try clear hb2); (try clear hk); (try clear hi)))
 go_ret
 exact ⟨er, iz, bel, kp⟩
def cmd_reader_newer.f (k : Nat) (s0_0 : ByteArray) (s0_1 : Bool) : Option (ByteArray × ByteArray × Bool × ByteArray × Bool) := (cmd_reader_flag.f s0_0 s0_1).bind fun bt228 => ((cmd_reader_short.f k bt228.2.1 bt228.2.2).bind fun bt232 => ((cmd_reader_bytes.f bt232.2.1 bt232.2.2 bt232.1).bind fun bt235 => (if bt228.1 = true then (some (bt235.1, (⟨#[]⟩ : ByteArray), bt228.1, bt235.2.1, bt235.2.2)) else ((cmd_reader_short.f k bt235.2.1 bt235.2.2).bind fun bt238 => ((cmd_reader_bytes.f bt238.2.1 bt238.2.2 bt238.1).bind fun bt241 => (some (bt235.1, bt241.1, bt228.1, bt241.2.1, bt241.2.2)))))))
theorem cmd_reader_newer.mono : ∀ a0 a1 k, LeO (cmd_reader_newer.f k a0 a1) (cmd_reader_newer.f (k + 1) a0 a1) := by
  intro a0 a1 k
  unfold cmd_reader_newer.f
  repeat' first
      | (with_reducible exact cmd_reader_short.mono _ _ _)
      | (with_reducible exact LeO.refl _)
      | (with_reducible exact LeO.none _)
      | (with_reducible refine LeO.ite ?_ ?_)
      | (with_reducible refine LeO.bind ?_ (fun _ => ?_))
set_option maxHeartbeats 8000000 in
set_option maxRecDepth 100000 in
theorem cmd_reader_newer.calls (k : Nat) (g : Nat) (s0_0 : ByteArray) (s0_1 : Bool) (r1 : ByteArray) (r2 : ByteArray) (r3 : Bool) (r4 : ByteArray) (r5 : Bool) (w0 w : World) (hI : IsS60 w0 w g s0_0 s0_1) (hB : Below w0.heap.size w0 w) (h : cmd_reader_newer.f k s0_0 s0_1 = some (r1, r2, r3, r4, r5)) :
  Calls Try.prog 48 #[.pointer (some ⟨g, 0, none⟩)] w fun e w' => e = .returned (.agg #[.string r1, .string r2, .bool r3]) ∧ IsS60 w0 w' g r4 r5 ∧ Below w0.heap.size w0 w' ∧ KeepBut w w' g none := by
 have hu40 := Try.underlying40
 have HI0 := am hI
 have HK := am (KeepBut.refl w g none)
 have HL := am hB.size
 clear hI
 have HW0 := am hB.size
 have HB := am hB
 clear hB
 have H : ((cmd_reader_flag.f s0_0 s0_1).bind fun bt228 => ((cmd_reader_short.f k bt228.2.1 bt228.2.2).bind fun bt232 => ((cmd_reader_bytes.f bt232.2.1 bt232.2.2 bt232.1).bind fun bt235 => (if bt228.1 = true then (some (bt235.1, (⟨#[]⟩ : ByteArray), bt228.1, bt235.2.1, bt235.2.2)) else ((cmd_reader_short.f k bt235.2.1 bt235.2.2).bind fun bt238 => ((cmd_reader_bytes.f bt238.2.1 bt238.2.2 bt238.1).bind fun bt241 => (some (bt235.1, bt241.1, bt228.1, bt241.2.1, bt241.2.2)))))))) = some (r1, r2, r3, r4, r5) := h
 clear h
 replace H := Option.bind_eq_some_iff.mp H
 obtain ⟨⟨t228, t229, t230⟩, A20, H⟩ := H
 replace H : ((cmd_reader_short.f k t229 t230).bind fun bt232 => ((cmd_reader_bytes.f bt232.2.1 bt232.2.2 bt232.1).bind fun bt235 => (if t228 = true then (some (bt235.1, (⟨#[]⟩ : ByteArray), t228, bt235.2.1, bt235.2.2)) else ((cmd_reader_short.f k bt235.2.1 bt235.2.2).bind fun bt238 => ((cmd_reader_bytes.f bt238.2.1 bt238.2.2 bt238.1).bind fun bt241 => (some (bt235.1, bt241.1, t228, bt241.2.1, bt241.2.2))))))) = some (r1, r2, r3, r4, r5) := H
 have A2 := am A20
 clear A20
 replace H := Option.bind_eq_some_iff.mp H
 obtain ⟨⟨t232, t233, t234⟩, A30, H⟩ := H
 replace H : ((cmd_reader_bytes.f t233 t234 t232).bind fun bt235 => (if t228 = true then (some (bt235.1, (⟨#[]⟩ : ByteArray), t228, bt235.2.1, bt235.2.2)) else ((cmd_reader_short.f k bt235.2.1 bt235.2.2).bind fun bt238 => ((cmd_reader_bytes.f bt238.2.1 bt238.2.2 bt238.1).bind fun bt241 => (some (bt235.1, bt241.1, t228, bt241.2.1, bt241.2.2)))))) = some (r1, r2, r3, r4, r5) := H
 have A3 := am A30
 clear A30
 replace H := Option.bind_eq_some_iff.mp H
 obtain ⟨⟨t235, t236, t237⟩, A40, H⟩ := H
 replace H : (if t228 = true then (some (t235, (⟨#[]⟩ : ByteArray), t228, t236, t237)) else ((cmd_reader_short.f k t236 t237).bind fun bt238 => ((cmd_reader_bytes.f bt238.2.1 bt238.2.2 bt238.1).bind fun bt241 => (some (t235, bt241.1, t228, bt241.2.1, bt241.2.2))))) = some (r1, r2, r3, r4, r5) := H
 have A4 := am A40
 clear A40
 by_cases c5 : t228 = true
 ·subst c5
  have H1 : (some (t235, (⟨#[]⟩ : ByteArray), true, t236, t237)) = some (r1, r2, r3, r4, r5) := by rw [if_pos rfl] at H; exact H
  clear H
  have H := H1
  clear H1
  simp only [Option.some.injEq, Prod.mk.injEq] at H
  obtain ⟨rfl, rfl, rfl, rfl, rfl⟩ := H
  go_enter Try.func48, Try.ntmps48
  go_wp2_with (first | ((with_reducible refine gate_dst (N := 2) rfl ?_); refine bx 2 40 (cs := #[.string (⟨#[]⟩ : ByteArray), .string (⟨#[]⟩ : ByteArray), .bool false]) ?_; intro gb227 hg w6 hbox hb; have n_ := z8 (IsS60.below iz hb) (KeepBut.trans kp (KeepBut.of_below hb g none) (.inl rfl)) (below_step bel hb) (hbox) ((by rw [hg]; exact (keep_size (w := w) (g := g) (row := none) kp) : w.heap.size ≤ gb227)) ((Nat.le_trans HW0.out (by rw [hg]; exact (keep_size (w := w) (g := g) (row := none) kp) : w.heap.size ≤ gb227) : w0.heap.size ≤ gb227)) ((by rw [hg]; exact Nat.ne_of_lt (IsS60.lt (show IsS60 w0 _ g s0_0 s0_1 from iz)) : g ≠ gb227)) ((by rw [hg]; exact Nat.ne_of_gt (IsS60.lt (show IsS60 w0 _ g s0_0 s0_1 from iz)) : gb227 ≠ g)); clear HI0 HK HB; obtain ⟨HI0, HK, HB, BK227, GW227, GE227, NB0_227, NB227_0⟩ := n_; clear hb hbox hg) | ((with_reducible refine gate_callee (f := 53) rfl ?_); refine goesL_ (some 5) rfl rfl Try.func53 (by kernel_rfl) rfl #[.pointer (some ⟨g, 0, none⟩)] rfl ar ?_; (with_reducible refine (cmd_reader_flag.calls g s0_0 s0_1 true t229 t230 w0 _ ?side1 ?side2 A2.out).mono ?_); (case side1 => exact iz); (case side2 => exact bel); rintro e w7 ⟨rfl, hi, hb, hk⟩; refine ⟨_, rfl, ?_⟩; have n_ := z4 (KeepBut.blk hk (g' := gb227) (o := .cells #[.string (⟨#[]⟩ : ByteArray), .string (⟨#[]⟩ : ByteArray), .bool false] 40 (0, 0)) (bk BK227.out) NB227_0.out (by simp)) (KeepBut.trans kp hk (.inl rfl)) (hb) (hi); clear BK227 HK HB HI0; obtain ⟨BK227, HK, HB, HI0⟩ := n_; (try clear hb); (try clear hb2); (try clear hk); (try clear hi)) | ((with_reducible refine gate_dst (N := 3) rfl ?_); refine bx 3 40 (cs := #[.string (⟨#[]⟩ : ByteArray), .string (⟨#[]⟩ : ByteArray), .bool false]) ?_; intro gb231 hg w8 hbox hb; have n_ := z11 (IsS60.below iz hb) (blk_below (bk BK227.out) hb) (KeepBut.trans kp (KeepBut.of_below hb g none) (.inl rfl)) (below_step bel hb) (hbox) ((by rw [hg]; exact (keep_size (w := w) (g := g) (row := none) kp) : w.heap.size ≤ gb231)) ((Nat.le_trans HW0.out (by rw [hg]; exact (keep_size (w := w) (g := g) (row := none) kp) : w.heap.size ≤ gb231) : w0.heap.size ≤ gb231)) ((by rw [hg]; exact Nat.ne_of_lt (blk_lt (bk BK227.out)) : gb227 ≠ gb231)) ((by rw [hg]; exact Nat.ne_of_gt (blk_lt (bk BK227.out)) : gb231 ≠ gb227)) ((by rw [hg]; exact Nat.ne_of_lt (IsS60.lt (show IsS60 w0 _ g t229 t230 from iz)) : g ≠ gb231)) ((by rw [hg]; exact Nat.ne_of_gt (IsS60.lt (show IsS60 w0 _ g t229 t230 from iz)) : gb231 ≠ g)); clear HI0 BK227 HK HB; obtain ⟨HI0, BK227, HK, HB, BK231, GW231, GE231, NB227_231, NB231_227, NB0_231, NB231_0⟩ := n_; clear hb hbox hg; have hnb9 := NB231_227.out; have hnc9 := NB227_231.out; have hnb10 := NB231_0.out; have hnc10 := NB0_231.out; obtain ⟨hcz11_0, hcz11_1, hcz11_2⟩ := cells3 BK231.out; obtain ⟨hfz11_0, hfz11_1, hfz11_2⟩ := froz3 BK231.out) | ((with_reducible refine gate_callee (f := 47) rfl ?_); refine goesL_ (some 9) rfl rfl Try.func47 (by kernel_rfl) rfl #[.pointer (some ⟨g, 0, none⟩)] rfl ar ?_; (with_reducible refine (cmd_reader_short.calls k g t229 t230 t232 t233 t234 w0 _ ?side1 ?side2 A3.out).mono ?_); (case side1 => exact iz); (case side2 => exact bel); rintro e w12 ⟨rfl, hi, hb, hk⟩; refine ⟨_, rfl, ?_⟩; have n_ := z5 (KeepBut.blk hk (g' := gb227) (o := .cells #[.string (⟨#[]⟩ : ByteArray), .string (⟨#[]⟩ : ByteArray), .bool false] 40 (0, 0)) (bk BK227.out) NB227_0.out (by simp)) (KeepBut.blk hk (g' := gb231) (o := .cells #[.string (⟨#[]⟩ : ByteArray), .string (⟨#[]⟩ : ByteArray), .bool true] 40 (0, 0)) (bp BK231.out) NB231_0.out (by simp)) (KeepBut.trans kp hk (.inl rfl)) (hb) (hi); clear BK227 BK231 HK HB HI0; obtain ⟨BK227, BK231, HK, HB, HI0⟩ := n_; (try clear hb); (try clear hb2); (try clear hk); (try clear hi)) | ((with_reducible refine gate_callee (f := 54) rfl ?_); refine goesL_ (some 10) rfl rfl Try.func54 (by kernel_rfl) rfl #[.pointer (some ⟨g, 0, none⟩), .int .i64 t232] rfl ar ?_; (with_reducible refine (cmd_reader_bytes.calls g t233 t234 t232 t235 t236 t237 w0 _ ?side1 ?side2 A4.out).mono ?_); (case side1 => exact iz); (case side2 => exact bel); rintro e w13 ⟨rfl, hi, hb, hk⟩; refine ⟨_, rfl, ?_⟩; have n_ := z5 (KeepBut.blk hk (g' := gb227) (o := .cells #[.string (⟨#[]⟩ : ByteArray), .string (⟨#[]⟩ : ByteArray), .bool false] 40 (0, 0)) (bk BK227.out) NB227_0.out (by simp)) (KeepBut.blk hk (g' := gb231) (o := .cells #[.string (⟨#[]⟩ : ByteArray), .string (⟨#[]⟩ : ByteArray), .bool true] 40 (0, 0)) (bk BK231.out) NB231_0.out (by simp)) (KeepBut.trans kp hk (.inl rfl)) (hb) (hi); clear BK227 BK231 HK HB HI0; obtain ⟨BK227, BK231, HK, HB, HI0⟩ := n_; (try clear hb); (try clear hb2); (try clear hk); (try clear hi); obtain ⟨hcz14_0, hcz14_1, hcz14_2⟩ := cells3 BK231.out; obtain ⟨hfz14_0, hfz14_1, hfz14_2⟩ := froz3 BK231.out; have hnb15 := NB227_0.out; have hnc15 := NB0_227.out; obtain ⟨hcz16_0, hcz16_1, hcz16_2⟩ := cells3 BK227.out; obtain ⟨hfz16_0, hfz16_1, hfz16_2⟩ := froz3 BK227.out))
  refine bodyPost_ret (results_cell_row rfl _ _ gb227 40 #[.string t235, .string (⟨#[]⟩ : ByteArray), .bool true] (0, 0) _ rfl (bp BK227.out) Try.underlying40 rfl (by kernel_rfl)) rfl ?_
  exact ⟨er, iz, bel, kp⟩
 ·replace c5 := Bool.eq_false_iff.mpr c5
  subst c5
  have H1 : ((cmd_reader_short.f k t236 t237).bind fun bt238 => ((cmd_reader_bytes.f bt238.2.1 bt238.2.2 bt238.1).bind fun bt241 => (some (t235, bt241.1, false, bt241.2.1, bt241.2.2)))) = some (r1, r2, r3, r4, r5) := by rw [if_neg (show ¬ (false = true) by decide)] at H; exact H
  clear H
  have H := H1
  clear H1
  replace H := Option.bind_eq_some_iff.mp H
  obtain ⟨⟨t238, t239, t240⟩, A170, H⟩ := H
  replace H : ((cmd_reader_bytes.f t239 t240 t238).bind fun bt241 => (some (t235, bt241.1, false, bt241.2.1, bt241.2.2))) = some (r1, r2, r3, r4, r5) := H
  have A17 := am A170
  clear A170
  replace H := Option.bind_eq_some_iff.mp H
  obtain ⟨⟨t241, t242, t243⟩, A180, H⟩ := H
  replace H : (some (t235, t241, false, t242, t243)) = some (r1, r2, r3, r4, r5) := H
  have A18 := am A180
  clear A180
  simp only [Option.some.injEq, Prod.mk.injEq] at H
  obtain ⟨rfl, rfl, rfl, rfl, rfl⟩ := H
  go_enter Try.func48, Try.ntmps48
  go_wp2_with (first | ((with_reducible refine gate_dst (N := 2) rfl ?_); refine bx 2 40 (cs := #[.string (⟨#[]⟩ : ByteArray), .string (⟨#[]⟩ : ByteArray), .bool false]) ?_; intro gb227 hg w19 hbox hb; have n_ := z8 (IsS60.below iz hb) (KeepBut.trans kp (KeepBut.of_below hb g none) (.inl rfl)) (below_step bel hb) (hbox) ((by rw [hg]; exact (keep_size (w := w) (g := g) (row := none) kp) : w.heap.size ≤ gb227)) ((Nat.le_trans HW0.out (by rw [hg]; exact (keep_size (w := w) (g := g) (row := none) kp) : w.heap.size ≤ gb227) : w0.heap.size ≤ gb227)) ((by rw [hg]; exact Nat.ne_of_lt (IsS60.lt (show IsS60 w0 _ g s0_0 s0_1 from iz)) : g ≠ gb227)) ((by rw [hg]; exact Nat.ne_of_gt (IsS60.lt (show IsS60 w0 _ g s0_0 s0_1 from iz)) : gb227 ≠ g)); clear HI0 HK HB; obtain ⟨HI0, HK, HB, BK227, GW227, GE227, NB0_227, NB227_0⟩ := n_; clear hb hbox hg) | ((with_reducible refine gate_callee (f := 53) rfl ?_); refine goesL_ (some 5) rfl rfl Try.func53 (by kernel_rfl) rfl #[.pointer (some ⟨g, 0, none⟩)] rfl ar ?_; (with_reducible refine (cmd_reader_flag.calls g s0_0 s0_1 false t229 t230 w0 _ ?side1 ?side2 A2.out).mono ?_); (case side1 => exact iz); (case side2 => exact bel); rintro e w20 ⟨rfl, hi, hb, hk⟩; refine ⟨_, rfl, ?_⟩; have n_ := z4 (KeepBut.blk hk (g' := gb227) (o := .cells #[.string (⟨#[]⟩ : ByteArray), .string (⟨#[]⟩ : ByteArray), .bool false] 40 (0, 0)) (bk BK227.out) NB227_0.out (by simp)) (KeepBut.trans kp hk (.inl rfl)) (hb) (hi); clear BK227 HK HB HI0; obtain ⟨BK227, HK, HB, HI0⟩ := n_; (try clear hb); (try clear hb2); (try clear hk); (try clear hi)) | ((with_reducible refine gate_dst (N := 3) rfl ?_); refine bx 3 40 (cs := #[.string (⟨#[]⟩ : ByteArray), .string (⟨#[]⟩ : ByteArray), .bool false]) ?_; intro gb231 hg w21 hbox hb; have n_ := z11 (IsS60.below iz hb) (blk_below (bk BK227.out) hb) (KeepBut.trans kp (KeepBut.of_below hb g none) (.inl rfl)) (below_step bel hb) (hbox) ((by rw [hg]; exact (keep_size (w := w) (g := g) (row := none) kp) : w.heap.size ≤ gb231)) ((Nat.le_trans HW0.out (by rw [hg]; exact (keep_size (w := w) (g := g) (row := none) kp) : w.heap.size ≤ gb231) : w0.heap.size ≤ gb231)) ((by rw [hg]; exact Nat.ne_of_lt (blk_lt (bk BK227.out)) : gb227 ≠ gb231)) ((by rw [hg]; exact Nat.ne_of_gt (blk_lt (bk BK227.out)) : gb231 ≠ gb227)) ((by rw [hg]; exact Nat.ne_of_lt (IsS60.lt (show IsS60 w0 _ g t229 t230 from iz)) : g ≠ gb231)) ((by rw [hg]; exact Nat.ne_of_gt (IsS60.lt (show IsS60 w0 _ g t229 t230 from iz)) : gb231 ≠ g)); clear HI0 BK227 HK HB; obtain ⟨HI0, BK227, HK, HB, BK231, GW231, GE231, NB227_231, NB231_227, NB0_231, NB231_0⟩ := n_; clear hb hbox hg; have hnb22 := NB231_227.out; have hnc22 := NB227_231.out; have hnb23 := NB231_0.out; have hnc23 := NB0_231.out; obtain ⟨hcz24_0, hcz24_1, hcz24_2⟩ := cells3 BK231.out; obtain ⟨hfz24_0, hfz24_1, hfz24_2⟩ := froz3 BK231.out) | ((with_reducible refine gate_callee (f := 47) rfl ?_); refine goesL_ (some 9) rfl rfl Try.func47 (by kernel_rfl) rfl #[.pointer (some ⟨g, 0, none⟩)] rfl ar ?_; (with_reducible refine (cmd_reader_short.calls k g t229 t230 t232 t233 t234 w0 _ ?side1 ?side2 A3.out).mono ?_); (case side1 => exact iz); (case side2 => exact bel); rintro e w25 ⟨rfl, hi, hb, hk⟩; refine ⟨_, rfl, ?_⟩; have n_ := z5 (KeepBut.blk hk (g' := gb227) (o := .cells #[.string (⟨#[]⟩ : ByteArray), .string (⟨#[]⟩ : ByteArray), .bool false] 40 (0, 0)) (bk BK227.out) NB227_0.out (by simp)) (KeepBut.blk hk (g' := gb231) (o := .cells #[.string (⟨#[]⟩ : ByteArray), .string (⟨#[]⟩ : ByteArray), .bool false] 40 (0, 0)) (bp BK231.out) NB231_0.out (by simp)) (KeepBut.trans kp hk (.inl rfl)) (hb) (hi); clear BK227 BK231 HK HB HI0; obtain ⟨BK227, BK231, HK, HB, HI0⟩ := n_; (try clear hb); (try clear hb2); (try clear hk); (try clear hi)) | ((with_reducible refine gate_callee (f := 54) rfl ?_); refine goesL_ (some 10) rfl rfl Try.func54 (by kernel_rfl) rfl #[.pointer (some ⟨g, 0, none⟩), .int .i64 t232] rfl ar ?_; (with_reducible refine (cmd_reader_bytes.calls g t233 t234 t232 t235 t236 t237 w0 _ ?side1 ?side2 A4.out).mono ?_); (case side1 => exact iz); (case side2 => exact bel); rintro e w26 ⟨rfl, hi, hb, hk⟩; refine ⟨_, rfl, ?_⟩; have n_ := z5 (KeepBut.blk hk (g' := gb227) (o := .cells #[.string (⟨#[]⟩ : ByteArray), .string (⟨#[]⟩ : ByteArray), .bool false] 40 (0, 0)) (bk BK227.out) NB227_0.out (by simp)) (KeepBut.blk hk (g' := gb231) (o := .cells #[.string (⟨#[]⟩ : ByteArray), .string (⟨#[]⟩ : ByteArray), .bool false] 40 (0, 0)) (bk BK231.out) NB231_0.out (by simp)) (KeepBut.trans kp hk (.inl rfl)) (hb) (hi); clear BK227 BK231 HK HB HI0; obtain ⟨BK227, BK231, HK, HB, HI0⟩ := n_; (try clear hb); (try clear hb2); (try clear hk); (try clear hi); obtain ⟨hcz27_0, hcz27_1, hcz27_2⟩ := cells3 BK231.out; obtain ⟨hfz27_0, hfz27_1, hfz27_2⟩ := froz3 BK231.out) | ((with_reducible refine gate_callee (f := 47) rfl ?_); refine goesL_ (some 17) rfl rfl Try.func47 (by kernel_rfl) rfl #[.pointer (some ⟨g, 0, none⟩)] rfl ar ?_; (with_reducible refine (cmd_reader_short.calls k g t236 t237 t238 t239 t240 w0 _ ?side1 ?side2 A17.out).mono ?_); (case side1 => exact iz); (case side2 => exact bel); rintro e w28 ⟨rfl, hi, hb, hk⟩; refine ⟨_, rfl, ?_⟩; have n_ := z5 (KeepBut.blk hk (g' := gb227) (o := .cells #[.string (⟨#[]⟩ : ByteArray), .string (⟨#[]⟩ : ByteArray), .bool false] 40 (0, 0)) (bk BK227.out) NB227_0.out (by simp)) (KeepBut.blk hk (g' := gb231) (o := .cells #[.string t235, .string (⟨#[]⟩ : ByteArray), .bool false] 40 (0, 0)) (bp BK231.out) NB231_0.out (by simp)) (KeepBut.trans kp hk (.inl rfl)) (hb) (hi); clear BK227 BK231 HK HB HI0; obtain ⟨BK227, BK231, HK, HB, HI0⟩ := n_; (try clear hb); (try clear hb2); (try clear hk); (try clear hi)) | ((with_reducible refine gate_callee (f := 54) rfl ?_); refine goesL_ (some 18) rfl rfl Try.func54 (by kernel_rfl) rfl #[.pointer (some ⟨g, 0, none⟩), .int .i64 t238] rfl ar ?_; (with_reducible refine (cmd_reader_bytes.calls g t239 t240 t238 t241 t242 t243 w0 _ ?side1 ?side2 A18.out).mono ?_); (case side1 => exact iz); (case side2 => exact bel); rintro e w29 ⟨rfl, hi, hb, hk⟩; refine ⟨_, rfl, ?_⟩; have n_ := z5 (KeepBut.blk hk (g' := gb227) (o := .cells #[.string (⟨#[]⟩ : ByteArray), .string (⟨#[]⟩ : ByteArray), .bool false] 40 (0, 0)) (bk BK227.out) NB227_0.out (by simp)) (KeepBut.blk hk (g' := gb231) (o := .cells #[.string t235, .string (⟨#[]⟩ : ByteArray), .bool false] 40 (0, 0)) (bk BK231.out) NB231_0.out (by simp)) (KeepBut.trans kp hk (.inl rfl)) (hb) (hi); clear BK227 BK231 HK HB HI0; obtain ⟨BK227, BK231, HK, HB, HI0⟩ := n_; (try clear hb); (try clear hb2); (try clear hk); (try clear hi); obtain ⟨hcz30_0, hcz30_1, hcz30_2⟩ := cells3 BK231.out; obtain ⟨hfz30_0, hfz30_1, hfz30_2⟩ := froz3 BK231.out; have hnb31 := NB227_0.out; have hnc31 := NB0_227.out; obtain ⟨hcz32_0, hcz32_1, hcz32_2⟩ := cells3 BK227.out; obtain ⟨hfz32_0, hfz32_1, hfz32_2⟩ := froz3 BK227.out))
  refine bodyPost_ret (results_cell_row rfl _ _ gb227 40 #[.string t235, .string t241, .bool false] (0, 0) _ rfl (bp BK227.out) Try.underlying40 rfl (by kernel_rfl)) rfl ?_
  exact ⟨er, iz, bel, kp⟩
def cmd_reader_fixed.l0 : Nat → Int → ByteArray → Int → Int → ByteArray → Bool → Option (Int × ByteArray × Bool)
  | 0, _, _, _, _, _, _ => none
  | k + 1, x5, x11, x12, x13, x1000, x1001 => if x13 < x12 then (if 0 ≤ x13 then (if x13 < (x11.size : Int) then (cmd_reader_fixed.l0 k (Go.bits .or .i64 (wrap64 (x5 * 256)) (wrap64 (bt x11 x13))) x11 x12 (wrap64 (x13 + 1)) x1000 x1001) else (none)) else (none)) else (some (x5, x1000, x1001))
def cmd_reader_fixed.f (k : Nat) (s0_0 : ByteArray) (s0_1 : Bool) (a1 : Int) : Option (Int × ByteArray × Bool) := (cmd_reader_bytes.f s0_0 s0_1 a1).bind fun bt224 => (cmd_reader_fixed.l0 k 0 bt224.1 (bt224.1.size : Int) 0 bt224.2.1 bt224.2.2)
theorem cmd_reader_fixed.mono_l : ∀ k, (∀ y0 y1 y2 y3 y4 y5, LeO (cmd_reader_fixed.l0 k y0 y1 y2 y3 y4 y5) (cmd_reader_fixed.l0 (k + 1) y0 y1 y2 y3 y4 y5))
  | 0 => fun _ _ _ _ _ _ r h => by simp [cmd_reader_fixed.l0] at h
  | k + 1 => by
    have ih0 := cmd_reader_fixed.mono_l k
    · intro y0 y1 y2 y3 y4 y5
      unfold cmd_reader_fixed.l0
      repeat' first
      | (with_reducible exact ih0 _ _ _ _ _ _)
      | (with_reducible exact LeO.refl _)
      | (with_reducible exact LeO.none _)
      | (with_reducible refine LeO.ite ?_ ?_)
      | (with_reducible refine LeO.bind ?_ (fun _ => ?_))
theorem cmd_reader_fixed.mono : ∀ a0 a1 a2 k, LeO (cmd_reader_fixed.f k a0 a1 a2) (cmd_reader_fixed.f (k + 1) a0 a1 a2) := by
  intro a0 a1 a2 k
  have ih0 := cmd_reader_fixed.mono_l k
  unfold cmd_reader_fixed.f
  repeat' first
      | (with_reducible exact ih0 _ _ _ _ _ _)
      | (with_reducible exact LeO.refl _)
      | (with_reducible exact LeO.none _)
      | (with_reducible refine LeO.ite ?_ ?_)
      | (with_reducible refine LeO.bind ?_ (fun _ => ?_))
set_option maxHeartbeats 8000000 in
set_option maxRecDepth 100000 in
theorem cmd_reader_fixed.calls (k : Nat) (g : Nat) (s0_0 : ByteArray) (s0_1 : Bool) (a1 : Int) (r1 : Int) (r2 : ByteArray) (r3 : Bool) (w0 w : World) (hI : IsS60 w0 w g s0_0 s0_1) (hB : Below w0.heap.size w0 w) (h : cmd_reader_fixed.f k s0_0 s0_1 a1 = some (r1, r2, r3)) :
  Calls Try.prog 50 #[.pointer (some ⟨g, 0, none⟩), .int .i64 a1] w fun e w' => e = .returned (.int .i64 r1) ∧ IsS60 w0 w' g r2 r3 ∧ Below w0.heap.size w0 w' ∧ KeepBut w w' g none := by
 have HI0 := am hI
 have HK := am (KeepBut.refl w g none)
 have HL := am hB.size
 clear hI
 have HW0 := am hB.size
 have HB := am hB
 clear hB
 have H : ((cmd_reader_bytes.f s0_0 s0_1 a1).bind fun bt224 => (cmd_reader_fixed.l0 k 0 bt224.1 (bt224.1.size : Int) 0 bt224.2.1 bt224.2.2)) = some (r1, r2, r3) := h
 clear h
 replace H := Option.bind_eq_some_iff.mp H
 obtain ⟨⟨t224, t225, t226⟩, A30, H⟩ := H
 replace H : (cmd_reader_fixed.l0 k 0 t224 (t224.size : Int) 0 t225 t226) = some (r1, r2, r3) := H
 have A3 := am A30
 clear A30
 have H' := am H
 clear H
 go_enter Try.func50, Try.ntmps50
 go_wp2_with (first | ((with_reducible refine gate_callee (f := 54) rfl ?_); refine goesL_ (some 10) rfl rfl Try.func54 (by kernel_rfl) rfl #[.pointer (some ⟨g, 0, none⟩), .int .i64 a1] rfl ar ?_; (with_reducible refine (cmd_reader_bytes.calls g s0_0 s0_1 a1 t224 t225 t226 w0 _ ?side1 ?side2 A3.out).mono ?_); (case side1 => exact iz); (case side2 => exact bel); rintro e w4 ⟨rfl, hi, hb, hk⟩; refine ⟨_, rfl, ?_⟩; have n_ := z3 (KeepBut.trans kp hk (.inl rfl)) (hb) (hi); clear HK HB HI0; obtain ⟨HK, HB, HI0⟩ := n_; (try clear hb); (try clear hb2); (try clear hk); (try clear hi)) | ((with_reducible refine gate_dst (N := 11) rfl ?_); refine bytes_event rfl 9 35 5 _ rfl Try.underlying9 Try.underlying35 Try.underlying5 t224 rfl ?_; intro adq w5 cq hcb hbq; have n0_ := am (IsS60.below HI0.out hbq); have n1_ := am (KeepBut.trans HK.out (KeepBut.of_below hbq g none) (.inl rfl)); have n2_ := am (below_step HB.out hbq); have HCB := am hcb; clear HI0 HK HB hbq hcb; have HI0 := n0_; have HK := n1_; have HB := n2_; clear n0_ n1_ n2_))
 go_loopg [5, 13] k (fun kq v5 v13 w' => ∃ (x5_1 : Int) (x13_1 : Int), v5 = .int .i64 x5_1 ∧ v13 = .int .i64 x13_1 ∧ Aside0 (cmd_reader_fixed.l0 kq x5_1 t224 (t224.size : Int) x13_1 t225 t226 = some (r1, r2, r3)) ∧ Aside0 (kq ≤ k) ∧ Aside0 (IsS60 w0 w' g t225 t226) ∧ Aside0 (KeepBut w w' g none) ∧ Aside0 (Below w0.heap.size w0 w') ∧ Aside0 (BytesAt w' adq t224))
 case atStart => exact ⟨(0), (0), (by first | rfl | (simp; done) | (simp [*]; done)), (by first | rfl | (simp; done) | (simp [*]; done)), H', ⟨Nat.le_refl _⟩, ⟨iz⟩, ⟨kp⟩, ⟨bel⟩, ⟨HCB.out⟩⟩
 case round =>
  clear H'
  try clear p2
  obtain ⟨x5_1, x13_1, rfl, rfl, HA, HK1, HI0, HK, HB, HCB⟩ := hrel
  cases gk with
  | zero => exact absurd HA.out (by simp [cmd_reader_fixed.l0])
  | succ k1 =>
   have H := HA.out
   clear HA
   simp only [cmd_reader_fixed.l0] at H
   by_cases c5 : x13_1 < (t224.size : Int)
   ·rw [if_pos c5] at H
    have c5b0 : decide (x13_1 < (t224.size : Int)) = true := decide_eq_true c5
    clear c5
    by_cases c6 : 0 ≤ x13_1
    ·rw [if_pos c6] at H
     have c6b0 : decide (0 ≤ x13_1) = true := decide_eq_true c6
     clear c6
     by_cases c7 : x13_1 < (t224.size : Int)
     ·rw [if_pos c7] at H
      have c7b0 : decide (x13_1 < (t224.size : Int)) = true := decide_eq_true c7
      clear c7
      have H' := am H
      clear H
      have p8 : 0 ≤ (x13_1 : Int) := of_decide_eq_true (by first | (with_reducible assumption) | assumption)
      have q8 : x13_1 < (t224.size : Int) := of_decide_eq_true (by first | (with_reducible assumption) | assumption)
      have hx8 := HCB.out.get x13_1 p8 q8
      replace p8 := eq_true p8
      replace q8 := eq_true q8
      go_wp2
      go_roundg k1
      case measure => have := HK1.out; omega
      case rel => exact ⟨(Go.bits .or .i64 (wrap64 (x5_1 * 256)) (wrap64 (bt t224 x13_1))), (wrap64 (x13_1 + 1)), (by first | rfl | (simp; done) | (simp [*]; done)), (by first | rfl | (simp; done) | (simp [*]; done)), H', ⟨by have := HK1.out; omega⟩, ⟨iz⟩, ⟨kp⟩, ⟨bel⟩, ⟨HCB.out⟩⟩
     ·rw [if_neg c7] at H
      exact absurd H (by simp)
    ·rw [if_neg c6] at H
     exact absurd H (by simp)
   ·rw [if_neg c5] at H
    have c5b0 : decide (x13_1 < (t224.size : Int)) = false := decide_eq_false c5
    clear c5
    simp only [Option.some.injEq, Prod.mk.injEq] at H
    obtain ⟨rfl, rfl, rfl⟩ := H
    go_wp2
    go_ret
    exact ⟨er, iz, bel, kp⟩
def cmd_reader_older.f (k : Nat) (s0_0 : ByteArray) (s0_1 : Bool) : Option (ByteArray × ByteArray × Bool × ByteArray × Bool) := (cmd_reader_fixed.f k s0_0 s0_1 2).bind fun bt248 => ((cmd_reader_bytes.f bt248.2.1 bt248.2.2 bt248.1).bind fun bt251 => ((cmd_reader_fixed.f k bt251.2.1 bt251.2.2 2).bind fun bt255 => ((cmd_reader_bytes.f bt255.2.1 bt255.2.2 bt255.1).bind fun bt258 => ((cmd_reader_flag.f bt258.2.1 bt258.2.2).bind fun bt261 => (some (bt251.1, bt258.1, bt261.1, bt261.2.1, bt261.2.2))))))
theorem cmd_reader_older.mono : ∀ a0 a1 k, LeO (cmd_reader_older.f k a0 a1) (cmd_reader_older.f (k + 1) a0 a1) := by
  intro a0 a1 k
  unfold cmd_reader_older.f
  repeat' first
      | (with_reducible exact cmd_reader_fixed.mono _ _ _ _)
      | (with_reducible exact LeO.refl _)
      | (with_reducible exact LeO.none _)
      | (with_reducible refine LeO.ite ?_ ?_)
      | (with_reducible refine LeO.bind ?_ (fun _ => ?_))
set_option maxHeartbeats 8000000 in
set_option maxRecDepth 100000 in
theorem cmd_reader_older.calls (k : Nat) (g : Nat) (s0_0 : ByteArray) (s0_1 : Bool) (r1 : ByteArray) (r2 : ByteArray) (r3 : Bool) (r4 : ByteArray) (r5 : Bool) (w0 w : World) (hI : IsS60 w0 w g s0_0 s0_1) (hB : Below w0.heap.size w0 w) (h : cmd_reader_older.f k s0_0 s0_1 = some (r1, r2, r3, r4, r5)) :
  Calls Try.prog 52 #[.pointer (some ⟨g, 0, none⟩)] w fun e w' => e = .returned (.agg #[.string r1, .string r2, .bool r3]) ∧ IsS60 w0 w' g r4 r5 ∧ Below w0.heap.size w0 w' ∧ KeepBut w w' g none := by
 have hu40 := Try.underlying40
 have HI0 := am hI
 have HK := am (KeepBut.refl w g none)
 have HL := am hB.size
 clear hI
 have HW0 := am hB.size
 have HB := am hB
 clear hB
 have H : ((cmd_reader_fixed.f k s0_0 s0_1 2).bind fun bt248 => ((cmd_reader_bytes.f bt248.2.1 bt248.2.2 bt248.1).bind fun bt251 => ((cmd_reader_fixed.f k bt251.2.1 bt251.2.2 2).bind fun bt255 => ((cmd_reader_bytes.f bt255.2.1 bt255.2.2 bt255.1).bind fun bt258 => ((cmd_reader_flag.f bt258.2.1 bt258.2.2).bind fun bt261 => (some (bt251.1, bt258.1, bt261.1, bt261.2.1, bt261.2.2))))))) = some (r1, r2, r3, r4, r5) := h
 clear h
 replace H := Option.bind_eq_some_iff.mp H
 obtain ⟨⟨t248, t249, t250⟩, A20, H⟩ := H
 replace H : ((cmd_reader_bytes.f t249 t250 t248).bind fun bt251 => ((cmd_reader_fixed.f k bt251.2.1 bt251.2.2 2).bind fun bt255 => ((cmd_reader_bytes.f bt255.2.1 bt255.2.2 bt255.1).bind fun bt258 => ((cmd_reader_flag.f bt258.2.1 bt258.2.2).bind fun bt261 => (some (bt251.1, bt258.1, bt261.1, bt261.2.1, bt261.2.2)))))) = some (r1, r2, r3, r4, r5) := H
 have A2 := am A20
 clear A20
 replace H := Option.bind_eq_some_iff.mp H
 obtain ⟨⟨t251, t252, t253⟩, A30, H⟩ := H
 replace H : ((cmd_reader_fixed.f k t252 t253 2).bind fun bt255 => ((cmd_reader_bytes.f bt255.2.1 bt255.2.2 bt255.1).bind fun bt258 => ((cmd_reader_flag.f bt258.2.1 bt258.2.2).bind fun bt261 => (some (t251, bt258.1, bt261.1, bt261.2.1, bt261.2.2))))) = some (r1, r2, r3, r4, r5) := H
 have A3 := am A30
 clear A30
 replace H := Option.bind_eq_some_iff.mp H
 obtain ⟨⟨t255, t256, t257⟩, A40, H⟩ := H
 replace H : ((cmd_reader_bytes.f t256 t257 t255).bind fun bt258 => ((cmd_reader_flag.f bt258.2.1 bt258.2.2).bind fun bt261 => (some (t251, bt258.1, bt261.1, bt261.2.1, bt261.2.2)))) = some (r1, r2, r3, r4, r5) := H
 have A4 := am A40
 clear A40
 replace H := Option.bind_eq_some_iff.mp H
 obtain ⟨⟨t258, t259, t260⟩, A50, H⟩ := H
 replace H : ((cmd_reader_flag.f t259 t260).bind fun bt261 => (some (t251, t258, bt261.1, bt261.2.1, bt261.2.2))) = some (r1, r2, r3, r4, r5) := H
 have A5 := am A50
 clear A50
 replace H := Option.bind_eq_some_iff.mp H
 obtain ⟨⟨t261, t262, t263⟩, A60, H⟩ := H
 replace H : (some (t251, t258, t261, t262, t263)) = some (r1, r2, r3, r4, r5) := H
 have A6 := am A60
 clear A60
 simp only [Option.some.injEq, Prod.mk.injEq] at H
 obtain ⟨rfl, rfl, rfl, rfl, rfl⟩ := H
 go_enter Try.func52, Try.ntmps52
 go_wp2_with (first | ((with_reducible refine gate_dst (N := 2) rfl ?_); refine bx 2 40 (cs := #[.string (⟨#[]⟩ : ByteArray), .string (⟨#[]⟩ : ByteArray), .bool false]) ?_; intro gb247 hg w7 hbox hb; have n_ := z8 (IsS60.below iz hb) (KeepBut.trans kp (KeepBut.of_below hb g none) (.inl rfl)) (below_step bel hb) (hbox) ((by rw [hg]; exact (keep_size (w := w) (g := g) (row := none) kp) : w.heap.size ≤ gb247)) ((Nat.le_trans HW0.out (by rw [hg]; exact (keep_size (w := w) (g := g) (row := none) kp) : w.heap.size ≤ gb247) : w0.heap.size ≤ gb247)) ((by rw [hg]; exact Nat.ne_of_lt (IsS60.lt (show IsS60 w0 _ g s0_0 s0_1 from iz)) : g ≠ gb247)) ((by rw [hg]; exact Nat.ne_of_gt (IsS60.lt (show IsS60 w0 _ g s0_0 s0_1 from iz)) : gb247 ≠ g)); clear HI0 HK HB; obtain ⟨HI0, HK, HB, BK247, GW247, GE247, NB0_247, NB247_0⟩ := n_; clear hb hbox hg) | ((with_reducible refine gate_callee (f := 50) rfl ?_); refine goesL_ (some 6) rfl rfl Try.func50 (by kernel_rfl) rfl #[.pointer (some ⟨g, 0, none⟩), .int .i64 2] rfl ar ?_; (with_reducible refine (cmd_reader_fixed.calls k g s0_0 s0_1 2 t248 t249 t250 w0 _ ?side1 ?side2 A2.out).mono ?_); (case side1 => exact iz); (case side2 => exact bel); rintro e w8 ⟨rfl, hi, hb, hk⟩; refine ⟨_, rfl, ?_⟩; have n_ := z4 (KeepBut.blk hk (g' := gb247) (o := .cells #[.string (⟨#[]⟩ : ByteArray), .string (⟨#[]⟩ : ByteArray), .bool false] 40 (0, 0)) (bk BK247.out) NB247_0.out (by simp)) (KeepBut.trans kp hk (.inl rfl)) (hb) (hi); clear BK247 HK HB HI0; obtain ⟨BK247, HK, HB, HI0⟩ := n_; (try clear hb); (try clear hb2); (try clear hk); (try clear hi)) | ((with_reducible refine gate_callee (f := 54) rfl ?_); refine goesL_ (some 7) rfl rfl Try.func54 (by kernel_rfl) rfl #[.pointer (some ⟨g, 0, none⟩), .int .i64 t248] rfl ar ?_; (with_reducible refine (cmd_reader_bytes.calls g t249 t250 t248 t251 t252 t253 w0 _ ?side1 ?side2 A3.out).mono ?_); (case side1 => exact iz); (case side2 => exact bel); rintro e w9 ⟨rfl, hi, hb, hk⟩; refine ⟨_, rfl, ?_⟩; have n_ := z4 (KeepBut.blk hk (g' := gb247) (o := .cells #[.string (⟨#[]⟩ : ByteArray), .string (⟨#[]⟩ : ByteArray), .bool false] 40 (0, 0)) (bk BK247.out) NB247_0.out (by simp)) (KeepBut.trans kp hk (.inl rfl)) (hb) (hi); clear BK247 HK HB HI0; obtain ⟨BK247, HK, HB, HI0⟩ := n_; (try clear hb); (try clear hb2); (try clear hk); (try clear hi)) | ((with_reducible refine gate_dst (N := 3) rfl ?_); refine bx 3 40 (cs := #[.string (⟨#[]⟩ : ByteArray), .string (⟨#[]⟩ : ByteArray), .bool false]) ?_; intro gb254 hg w10 hbox hb; have n_ := z11 (IsS60.below iz hb) (blk_below (bk BK247.out) hb) (KeepBut.trans kp (KeepBut.of_below hb g none) (.inl rfl)) (below_step bel hb) (hbox) ((by rw [hg]; exact (keep_size (w := w) (g := g) (row := none) kp) : w.heap.size ≤ gb254)) ((Nat.le_trans HW0.out (by rw [hg]; exact (keep_size (w := w) (g := g) (row := none) kp) : w.heap.size ≤ gb254) : w0.heap.size ≤ gb254)) ((by rw [hg]; exact Nat.ne_of_lt (blk_lt (bk BK247.out)) : gb247 ≠ gb254)) ((by rw [hg]; exact Nat.ne_of_gt (blk_lt (bk BK247.out)) : gb254 ≠ gb247)) ((by rw [hg]; exact Nat.ne_of_lt (IsS60.lt (show IsS60 w0 _ g t252 t253 from iz)) : g ≠ gb254)) ((by rw [hg]; exact Nat.ne_of_gt (IsS60.lt (show IsS60 w0 _ g t252 t253 from iz)) : gb254 ≠ g)); clear HI0 BK247 HK HB; obtain ⟨HI0, BK247, HK, HB, BK254, GW254, GE254, NB247_254, NB254_247, NB0_254, NB254_0⟩ := n_; clear hb hbox hg; have hnb11 := NB254_247.out; have hnc11 := NB247_254.out; have hnb12 := NB254_0.out; have hnc12 := NB0_254.out; obtain ⟨hcz13_0, hcz13_1, hcz13_2⟩ := cells3 BK254.out; obtain ⟨hfz13_0, hfz13_1, hfz13_2⟩ := froz3 BK254.out) | ((with_reducible refine gate_callee (f := 50) rfl ?_); refine goesL_ (some 11) rfl rfl Try.func50 (by kernel_rfl) rfl #[.pointer (some ⟨g, 0, none⟩), .int .i64 2] rfl ar ?_; (with_reducible refine (cmd_reader_fixed.calls k g t252 t253 2 t255 t256 t257 w0 _ ?side1 ?side2 A4.out).mono ?_); (case side1 => exact iz); (case side2 => exact bel); rintro e w14 ⟨rfl, hi, hb, hk⟩; refine ⟨_, rfl, ?_⟩; have n_ := z5 (KeepBut.blk hk (g' := gb247) (o := .cells #[.string (⟨#[]⟩ : ByteArray), .string (⟨#[]⟩ : ByteArray), .bool false] 40 (0, 0)) (bk BK247.out) NB247_0.out (by simp)) (KeepBut.blk hk (g' := gb254) (o := .cells #[.string t251, .string (⟨#[]⟩ : ByteArray), .bool false] 40 (0, 0)) (bp BK254.out) NB254_0.out (by simp)) (KeepBut.trans kp hk (.inl rfl)) (hb) (hi); clear BK247 BK254 HK HB HI0; obtain ⟨BK247, BK254, HK, HB, HI0⟩ := n_; (try clear hb); (try clear hb2); (try clear hk); (try clear hi)) | ((with_reducible refine gate_callee (f := 54) rfl ?_); refine goesL_ (some 12) rfl rfl Try.func54 (by kernel_rfl) rfl #[.pointer (some ⟨g, 0, none⟩), .int .i64 t255] rfl ar ?_; (with_reducible refine (cmd_reader_bytes.calls g t256 t257 t255 t258 t259 t260 w0 _ ?side1 ?side2 A5.out).mono ?_); (case side1 => exact iz); (case side2 => exact bel); rintro e w15 ⟨rfl, hi, hb, hk⟩; refine ⟨_, rfl, ?_⟩; have n_ := z5 (KeepBut.blk hk (g' := gb247) (o := .cells #[.string (⟨#[]⟩ : ByteArray), .string (⟨#[]⟩ : ByteArray), .bool false] 40 (0, 0)) (bk BK247.out) NB247_0.out (by simp)) (KeepBut.blk hk (g' := gb254) (o := .cells #[.string t251, .string (⟨#[]⟩ : ByteArray), .bool false] 40 (0, 0)) (bk BK254.out) NB254_0.out (by simp)) (KeepBut.trans kp hk (.inl rfl)) (hb) (hi); clear BK247 BK254 HK HB HI0; obtain ⟨BK247, BK254, HK, HB, HI0⟩ := n_; (try clear hb); (try clear hb2); (try clear hk); (try clear hi); obtain ⟨hcz16_0, hcz16_1, hcz16_2⟩ := cells3 BK254.out; obtain ⟨hfz16_0, hfz16_1, hfz16_2⟩ := froz3 BK254.out) | ((with_reducible refine gate_callee (f := 53) rfl ?_); refine goesL_ (some 15) rfl rfl Try.func53 (by kernel_rfl) rfl #[.pointer (some ⟨g, 0, none⟩)] rfl ar ?_; (with_reducible refine (cmd_reader_flag.calls g t259 t260 t261 t262 t263 w0 _ ?side1 ?side2 A6.out).mono ?_); (case side1 => exact iz); (case side2 => exact bel); rintro e w17 ⟨rfl, hi, hb, hk⟩; refine ⟨_, rfl, ?_⟩; have n_ := z5 (KeepBut.blk hk (g' := gb247) (o := .cells #[.string (⟨#[]⟩ : ByteArray), .string (⟨#[]⟩ : ByteArray), .bool false] 40 (0, 0)) (bk BK247.out) NB247_0.out (by simp)) (KeepBut.blk hk (g' := gb254) (o := .cells #[.string t251, .string t258, .bool false] 40 (0, 0)) (bp BK254.out) NB254_0.out (by simp)) (KeepBut.trans kp hk (.inl rfl)) (hb) (hi); clear BK247 BK254 HK HB HI0; obtain ⟨BK247, BK254, HK, HB, HI0⟩ := n_; (try clear hb); (try clear hb2); (try clear hk); (try clear hi); obtain ⟨hcz18_0, hcz18_1, hcz18_2⟩ := cells3 BK254.out; obtain ⟨hfz18_0, hfz18_1, hfz18_2⟩ := froz3 BK254.out; have hnb19 := NB247_0.out; have hnc19 := NB0_247.out; obtain ⟨hcz20_0, hcz20_1, hcz20_2⟩ := cells3 BK247.out; obtain ⟨hfz20_0, hfz20_1, hfz20_2⟩ := froz3 BK247.out))
 refine bodyPost_ret (results_cell_row rfl _ _ gb247 40 #[.string t251, .string t258, .bool t261] (0, 0) _ rfl (bp BK247.out) Try.underlying40 rfl (by kernel_rfl)) rfl ?_
 exact ⟨er, iz, bel, kp⟩
end Go.Proofs.Ytagjmphkfeiiiaa.Q
