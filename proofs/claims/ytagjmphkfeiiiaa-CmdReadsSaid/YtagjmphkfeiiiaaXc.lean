/-
  Words beside the print's: the row that '[]byte(s)' makes, read and written; conditions: it is no longer than rows may be.
-/
import Derived.Test.YtagjmphkfeiiiaaXw
namespace Go.Proofs.YtagjmphkfeiiiaaW.PrintWords
open Go.RowKit Go.Proofs.YtagjmphkfeiiiaaW.PrintLast
def own_made.f (s : ByteArray) : Option (List Int) := if s.size ≤ 140737488355328 then some (bytesOf s) else none
def RB (w : World) (base : Nat) (v : Value) (l : List Int) : Prop := ∃ g cap cur lo hi, v = .slice (some ⟨g, 0, none⟩) l.length cap ∧ base ≤ g ∧ w.heap[g]? = some (.cells cur 5 (lo, hi)) ∧ l.length ≤ lo ∧ l.length ≤ cap ∧ l.length ≤ 140737488355328 ∧ ∀ j, j < l.length → cur[j]? = some (.int .u8 (l.getD j 0))
section
variable {w w1 : World} {base : Nat} {v : Value} {l : List Int}
theorem RB.below (h : RB w base v l) (hb : Below w.heap.size w w1) : RB w1 base v l := by
  obtain ⟨g, cap, cur, lo, hi, h1, h2, h3, h4⟩ := h
  exact ⟨g, cap, cur, lo, hi, h1, h2, blk_below h3 hb, h4⟩
theorem RB.drew (h : RB w base v l) : RB w.drew base v l := h
theorem RB.drewN (h : RB w base v l) (m : Nat) : RB (w.drewN m) base v l := h
theorem RB.alloc (h : RB w base v l) (o : Obj) : RB (w.alloc o) base v l := h.below (below_alloc (Below.refl _ _) o)
theorem RB.lower {b' : Nat} (h : RB w base v l) (hb : b' ≤ base) : RB w b' v l := by
  obtain ⟨g, cap, cur, lo, hi, h1, h2, h3⟩ := h
  exact ⟨g, cap, cur, lo, hi, h1, Nat.le_trans hb h2, h3⟩
theorem RB.slice (h : RB w base v l) : ∃ A c, v = .slice A l.length c := by
  obtain ⟨g, cap, cur, lo, hi, h1, _⟩ := h
  exact ⟨_, _, h1⟩
theorem RB.form (h : RB w base v l) (_ : 0 < l.length) : ∃ g cap, v = .slice (some ⟨g, 0, none⟩) l.length cap ∧ base ≤ g ∧ g < w.heap.size ∧ ∃ cells fz, w.heap[g]? = some (.cells cells 5 fz) := by
  obtain ⟨g, cap, cur, lo, hi, h1, h2, h3, _⟩ := h
  exact ⟨g, cap, h1, h2, blk_lt h3, cur, _, h3⟩
theorem RB.cell {g c : Nat} (h : RB w base (.slice (some ⟨g, 0, none⟩) l.length c) l) (j : Nat) (hj : j < l.length) : w.cell? ⟨g, j, none⟩ = some (.int .u8 (l.getD j 0)) ∧ w.frozen? ⟨g, j, none⟩ = false := by
  obtain ⟨g', cap, cur, lo, hi, h1, h2, h3, h4, h5, h6, h7⟩ := h
  injection h1 with ha hb hc
  injection ha with ha
  injection ha with ha
  subst ha
  refine ⟨?_, ?_⟩
  · simp only [World.cell?, h3]
    exact h7 j hj
  · simp only [World.frozen?, h3]
    have : ¬ lo ≤ j := by omega
    simp [this]
theorem RB.reads {A : Option Addr} {n c : Nat} (h : RB w base (.slice A n c) l) : (Kd.int .u8).C w A l.length l := by
  have h0 := h
  obtain ⟨g, cap, cur, lo, hi, h1, h2, h3, h4, h5, h6, h7⟩ := h0
  injection h1 with ha hb hc
  subst ha hb
  refine ⟨rfl, by omega, fun _ => ⟨_, rfl, fun j p hp => ⟨[.int .u8 p], rfl, rfl, fun i u hu => ?_⟩⟩⟩
  have hj : j < l.length := (List.getElem?_eq_some_iff.1 hp).1
  rcases i with _ | i
  · have hu' : u = .int .u8 p := by simpa using hu.symm
    subst hu'
    have hp' : l.getD j 0 = p := by
      simp [List.getD_eq_getElem?_getD, hp]
    have e1 : (Kd.int .u8).sz = 1 := rfl
    rw [e1, Nat.mul_one, Nat.add_zero, add_plain, ← hp']
    exact (h.cell j hj).1
  · simp at hu
theorem RB.celln (_ : Int) {g n cap : Nat} (h : RB w base (.slice (some ⟨g, 0, none⟩) n cap) l) (i : Int) (h0 : 0 ≤ i) (hi : i < n) : w.cell? ⟨g, i.toNat, none⟩ = some (.int .u8 (rdOf 0 l i)) ∧ w.frozen? ⟨g, i.toNat, none⟩ = false := by
  have hn : n = l.length := by
    obtain ⟨g', cap', cur, lo, hi', h1, _⟩ := h
    injection h1 with _ hb _
  subst hn
  exact h.cell i.toNat (by omega)
theorem RB.putn {g n cap : Nat} (h : RB w base (.slice (some ⟨g, 0, none⟩) n cap) l) (i : Int) (x : Int) : RB (w.setCell ⟨g, i.toNat, none⟩ (.int .u8 x)) base (.slice (some ⟨g, 0, none⟩) n cap) (l.set i.toNat x) := by
  obtain ⟨g', cap', cur, lo, hi, h1, h2, h3, h4, h5, h6, h7⟩ := h
  injection h1 with ha hb hc
  injection ha with ha
  injection ha with ha
  subst ha hb hc
  have e : (l.set i.toNat x).length = l.length := List.length_set
  refine ⟨g, cap, cur.setIfInBounds i.toNat (.int .u8 x), lo, hi, by rw [e], h2, ?_, by omega, by omega, by omega, fun j hj => ?_⟩
  · obtain ⟨hlt, hv⟩ := Array.getElem?_eq_some_iff.1 h3
    simp only [World.setCell]
    rw [Array.getElem?_modify]
    simp [h3]
  · rw [e] at hj
    have h8 := h7 j hj
    rw [Array.getElem?_setIfInBounds]
    by_cases hji : i.toNat = j
    · subst hji
      have hc : i.toNat < cur.size := (Array.getElem?_eq_some_iff.1 h8).1
      simp [hc, List.getD_eq_getElem?_getD, hj]
    · rw [if_neg hji, h8]
      simp [List.getD_eq_getElem?_getD, hji]
theorem RB.str {P : Program} (h1 : P.underlying 35 = some (.slice 5)) (h2 : P.underlying 5 = some (.int .u8)) (h3 : P.underlying 9 = some .string) (h : RB w base v l) : (convert 35 9 v).run P w = .ok (.string (strOfNums l)) w := by
  obtain ⟨A, c, rfl⟩ := h.slice
  have h0 := h
  obtain ⟨g, cap, cur, lo, hi, q1, _⟩ := h0
  injection q1 with ha hb hc
  subst ha hc
  exact run_convert_bytes_arg w 35 5 h1 h2 g 0 l.length _ l rfl (fun i hi => by rw [Nat.zero_add]; exact (h.cell i hi).1) 9 h3
end
section
variable {P : Program} {ops : Array Oper} {rest : List Oper} {o : Oper} {a : Act} {Q : Exit → Act → World → Prop}
theorem made_event {W : World} (hgd : o.guard = none) (x : Operand) (ho : o.op = .convert 9 35 x) (hs : P.underlying 9 = some .string) (hd : P.underlying 35 = some (.slice 5)) (he : P.underlying 5 = some (.int .u8))
    (s : ByteArray) (l : List Int) (hl : own_made.f s = some l) (hx : a.eval x = .string s)
    (h : ∀ v w1, RB w1 W.heap.size v l → Below W.heap.size W w1 → wpList P ops Q rest (a.put o.dst v) w1) : wpList P ops Q (o :: rest) a W := by
  unfold own_made.f at hl
  by_cases hz : s.size ≤ 140737488355328
  · rw [if_pos hz] at hl
    obtain rfl : bytesOf s = l := Option.some.inj hl
    have hb : Below W.heap.size W (Lib.bytesWorld W 5 s) := bytes_below (Below.refl _ _) (Nat.le_refl _) 5 s
    have hz2 : s.size ≤ (Lib.bytesCells W 5 s).size := by simp [Lib.bytesCells]
    refine Kd.event_run hgd ?_ (h (.slice (some ⟨W.heap.size, 0, none⟩) s.size (grownCap W s.size 0 5)) (Lib.bytesWorld W 5 s) ⟨W.heap.size, grownCap W s.size 0 5, Lib.bytesCells W 5 s, _, _, by rw [bytesOf_length], Nat.le_refl _, Lib.bytesWorld_at_new W 5 s, by rw [bytesOf_length]; exact hz2, by rw [bytesOf_length]; exact grownCap_ge W s.size 0 5, by rw [bytesOf_length]; exact hz, fun j hj => ?_⟩ hb)
    · unfold execOp
      simp only [ho, hx, Sem.run_bind, print_bytes 9 35 5 hs hd he s W, Result.andThen_ok, Sem.run_pure]
    · rw [bytesOf_length] at hj
      have hc := Lib.bytesWorld_cell W 5 s j hj
      have hc2 : (Lib.bytesCells W 5 s)[j]? = some (.int .u8 (s.data.toList.getD j 0).toNat) := by simpa [World.cell?, Lib.bytesWorld_at_new] using hc
      rw [hc2]
      have h' : j < s.data.toList.length := by rw [data_length]; exact hj
      simp [bytesOf, List.getD_eq_getElem?_getD, List.getElem?_eq_getElem h']
  · rw [if_neg hz] at hl
    cases hl
end
end Go.Proofs.YtagjmphkfeiiiaaW.PrintWords
