/-
  Words beside the print's: '[]byte(s)' as one step of a region that draws its order, and what it made appended; conditions: none.
-/
import Derived.Test.YtagjmphkfeiiiaaXw
namespace Go.Proofs.YtagjmphkfeiiiaaW.PrintWords
open Go.RowKit Go.Proofs.YtagjmphkfeiiiaaW.PrintLast
def own_bytes.f (s : ByteArray) : Option ByteArray := some s
def IsB (o : Obj) (s : ByteArray) : Prop := ∃ cs t fz, o = .cells cs t fz ∧ ∀ j, j < s.size → cs[j]? = some (.int .u8 (s.data.toList.getD j 0).toNat)
theorem isB_new (w : World) (e : TypeId) (s : ByteArray) : ∃ o, (Lib.bytesWorld w e s).heap[w.heap.size]? = some o ∧ IsB o s := by
  refine ⟨_, Lib.bytesWorld_at_new w e s, _, _, _, rfl, fun j hj => ?_⟩
  have h := Lib.bytesWorld_cell w e s j hj
  simpa [World.cell?, Lib.bytesWorld_at_new] using h
theorem isB_reads {w : World} {g : Nat} {o : Obj} {s : ByteArray} (hg : w.heap[g]? = some o) (hb : IsB o s) (hs : s.size ≤ 9223372036854775807) : ReadsRow (fun (x : Int) cs => cs = [Value.int .u8 x]) 1 w (some ⟨g, 0, none⟩) s.size (bytesOf s) := by
  obtain ⟨cs, t, fz, rfl, hc⟩ := hb
  refine ⟨bytesOf_length s, hs, fun _ => ⟨_, rfl, fun j p hp => ⟨_, rfl, rfl, fun i u hu => ?_⟩⟩⟩
  have hj : j < s.size := by
    have := (List.getElem?_eq_some_iff.1 hp).1
    rwa [bytesOf_length] at this
  have h' : j < s.data.toList.length := by rw [data_length]; exact hj
  rcases i with _ | i
  · have hu' : u = .int .u8 p := by simpa using hu.symm
    subst hu'
    have hp' : p = ((s.data.toList.getD j 0).toNat : Int) := by
      simpa [bytesOf, List.getD_eq_getElem?_getD, List.getElem?_eq_getElem h'] using hp.symm
    rw [Nat.mul_one, Nat.add_zero, add_plain, hp']
    simp only [World.cell?, hg]
    have := hc j hj
    simpa using this
  · simp at hu
theorem rowLt {α : Type} {d : Kd α} {e base : Nat} {ok : Nat → Prop} {W : World} {v : Value} {xs : List α} (h : d.R e W base ok v xs) (k : Nat) (hk : v.ownBlock = some k) : k < W.heap.size := by
  obtain ⟨_, inner, hown, _⟩ := h
  exact own_lt hown k hk
theorem own_none (n k : Nat) (h : (Value.slice none 0 0).ownBlock = some k) : k < n := nomatch h
def HasB (w : World) (v : Value) (s : ByteArray) (u : Value) : Prop := ∃ g o c, v = .slice (some ⟨g, 0, none⟩) s.size c ∧ w.heap[g]? = some o ∧ IsB o s ∧ some g ≠ u.ownBlock
section
variable {w w1 : World} {v u u1 : Value} {s : ByteArray}
theorem HasB.drewN (h : HasB w v s u) (m : Nat) : HasB (w.drewN m) v s u := h
theorem HasB.drew (h : HasB w v s u) : HasB w.drew v s u := h
theorem HasB.below (h : HasB w v s u) (hb : Below w.heap.size w w1) : HasB w1 v s u := by
  obtain ⟨g, o, c, h1, h2, h3, h4⟩ := h
  exact ⟨g, o, c, h1, blk_below h2 hb, h3, h4⟩
theorem HasB.kept (h : HasB w v s u) (hk : Kept w w1 (fun k => some k = u.ownBlock)) : HasB w1 v s (.slice none 0 0) := by
  obtain ⟨g, o, c, h1, h2, h3, h4⟩ := h
  exact ⟨g, o, c, h1, blk_kept h2 hk h4, h3, by simp [Value.ownBlock]⟩
theorem HasB.grown (h : HasB w v s u) (hg : w.grownBy w1 u.ownBlock) (hat : u1.ownBlock = u.ownBlock ∨ ∃ b, u1.ownBlock = some b ∧ w.heap.size ≤ b) : HasB w1 v s u1 := by
  obtain ⟨g, o, c, h1, h2, h3, h4⟩ := h
  refine ⟨g, o, c, h1, blk_grown h2 hg h4, h3, ?_⟩
  rcases hat with hat | ⟨b, hat, hb⟩
  · rw [hat]
    exact h4
  · rw [hat]
    intro he
    have := blk_lt h2
    injection he with he
    omega
end
section
variable {P : Program} {ops : Array Oper} {o : Oper} {a : Act} {Q : Exit → Act → World → Prop} {Kc : Act → World → Prop}
theorem bytes_step {W : World} (hw : Region.wanted o (yielded ops a.tmps) = true) (src dst e : TypeId) (x : Operand) (ho : o.op = .convert src dst x) {u : TypeDesc} (hs : P.underlying src = some u) (hd : P.underlying dst = some (.slice e)) (he : P.underlying e = some (.int .u8))
    (s t : ByteArray) (hst : own_bytes.f s = some t) (hx : a.eval x = .string s)
    (h : ∀ v w1, (∀ u : Value, (∀ k, u.ownBlock = some k → k < W.heap.size) → HasB w1 v t u) → Below W.heap.size W w1 → Kc (a.put o.dst v) w1) :
    if Region.wanted o (yielded ops a.tmps) = true then Oper.wp P o a W Kc Q else Kc (a.put o.dst undef) W := by
  obtain rfl : s = t := Option.some.inj hst
  obtain ⟨ob, h1, h2⟩ := isB_new W e s
  refine event_step hw ?_ (h (.slice (some ⟨W.heap.size, 0, none⟩) s.size (grownCap W s.size 0 e)) (Lib.bytesWorld W e s) (fun u hu => ⟨_, ob, _, rfl, h1, h2, fun he => absurd (hu _ he.symm) (Nat.lt_irrefl _)⟩) (bytes_below (Below.refl _ _) (Nat.le_refl _) e s))
  unfold execOp
  simp only [ho, hx, Sem.run_bind, print_bytes src dst e hs hd he s W, Result.andThen_ok, Sem.run_pure]
theorem R_append_bytes_step {w0 W : World} (base : Nat) (hw : Region.wanted o (yielded ops a.tmps) = true) (s x : Operand) (t e : TypeId)
    (ho : o.op = .call { callee := .builtin .append, args := #[s, x], argTypes := #[t, t] })
    (ht : P.underlying t = some (.slice e)) (hinfo : (P.info? e).map (fun i => (i.zero, i.size, i.bytes)) = some (some (.int .u8 0), 1, 1))
    (v : Value) (xs : List Int) (y : ByteArray) (ok : Nat → Prop) (vB : Value) (hs : a.eval s = v) (hx : a.eval x = vB) (hB : HasB W vB y (.slice none 0 0)) (hfresh : ∀ k, W.heap.size ≤ k → ok k)
    (HO : (Kd.int .u8).R e W base ok v xs) (HB : Below base w0 W) (hbase : base ≤ W.heap.size) (hl : xs.length + y.size ≤ 140737488355328)
    (h : ∀ v1 w1, (Kd.int .u8).R e w1 base ok v1 (xs ++ bytesOf y) → Below base w0 w1 → W.grownBy w1 v.ownBlock → (v1.ownBlock = v.ownBlock ∨ ∃ b, v1.ownBlock = some b ∧ W.heap.size ≤ b) → Kc (a.put o.dst v1) w1) :
    if Region.wanted o (yielded ops a.tmps) = true then Oper.wp P o a W Kc Q else Kc (a.put o.dst undef) W := by
  obtain ⟨g, ob, c, hv, hg, hb, _⟩ := hB
  exact Kd.R_append_rows_step (Kd.int .u8) base hw s x t e (.int .u8 0) 1 ho ht hinfo rfl (by decide) (by omega) v xs (bytesOf y) (some ⟨g, 0, none⟩) y.size c ok (fun _ => False) hs (hx.trans hv) HO (isB_reads hg hb (by omega)) (fun _ _ h => h) (fun _ h => h.elim) hfresh HB hbase (by omega) h
end
section
variable {P : Program}
theorem wp_last {c : Code} {Q : Exit → Act → World → Prop} {a : Act} {w : World} (h : ∀ K : Act → World → Prop, (∀ a w, Q .normal a w → K a w) → c.wp P (Exit.then K Q) a w) : c.wp P Q a w := by
  refine Go.wp_mono (h (fun a w => Q .normal a w) fun _ _ h => h) fun e a' w' h => ?_
  cases e <;> exact h
end
end Go.Proofs.YtagjmphkfeiiiaaW.PrintWords
