/-
The document's New: the group as at the beginning.
The law's same, for two rows of equal texts. Condition: both may be read.
-/
import Derived.WalkKit
import Derived.WalkSpells
import Derived.Lib.Hide
import Derived.Outline
import Derived.Test.YtnkmljdkokcdjaaChecked
import Derived.Test.YtnkmljdkokcdjaaB0
import Derived.Test.YtnkmljdkokcdjaaB1
import Derived.Test.YtnkmljdkokcdjaaB19
import Derived.Test.YtnkmljdkokcdjaaB26
import Derived.Test.YtnkmljdkokcdjaaB8
import Derived.Test.YtnkmljdkokcdjaaB17
import Derived.Deep.DeepCutAuto
import Derived.Deep.CutBlock
import Derived.Deep.OwnRows
import Derived.IntWalk
import Derived.Test.YtnkmljdkokcdjaaB27
set_option maxRecDepth 100000
set_option maxHeartbeats 40000000
set_option linter.unusedVariables false
set_option linter.unusedSimpArgs false
namespace Go.Proofs.Ytnkmljdkokcdjaa
open Go.RowKit Fed Go.RT
attribute [local go_sem high] Fed.max2_int Fed.min2_int Fed.MA Fed.ZN Fed.ZM Fed.NA
structure NK (w w0 c : World) (B : Nat) (ρ : RM) (p q : Bool) : Prop where
 bl : Below B w c
 sz : w0.heap.size ≤ c.heap.size
 kp : ∀ k, k < w0.heap.size → (p = true → ρ.p ≠ some k) → (q = true → ρ.q ≠ some k) → c.heap[k]? = w0.heap[k]?
namespace NK
variable {w w0 c c' : World} {B x : Nat} {ρ : RM} {p q : Bool} {s : GS} {ok : Nat → Prop}
theorem below (h : NK w w0 c B ρ p q) (hB : B ≤ w0.heap.size) (hb : Below c.heap.size c c') : NK w w0 c' B ρ p q :=
 ⟨h.bl.trans (hb.mono (Nat.le_trans hB h.sz)), Nat.le_trans h.sz hb.size, fun k hk h1 h2 => (hb.block k (Nat.lt_of_lt_of_le hk h.sz)).trans (h.kp k hk h1 h2)⟩
theorem xk (h : NK w w0 c B ρ p q) (r : RefAt w0 B x s ρ ok) : c.heap[x]? = w0.heap[x]? :=
 h.kp x r.lt (fun _ e => ty_ne (r.typ x e) r.tyx (by decide) rfl) (fun _ e => ty_ne (r.tyq x e) r.tyx (by decide) rfl)
theorem c0 (h : NK w w0 c B ρ p q) (r : RefAt w0 B x s ρ ok) : c.cell? ⟨x, 0, none⟩ = some (.slice ρ.A s.ns.length ρ.c) := (World.cell?_of_block (a := ⟨x, 0, none⟩) (h.xk r)).trans r.c0
theorem c1 (h : NK w w0 c B ρ p q) (r : RefAt w0 B x s ρ ok) : c.cell? ⟨x, 1, none⟩ = some (.slice ρ.U s.us.length ρ.e) := (World.cell?_of_block (a := ⟨x, 1, none⟩) (h.xk r)).trans r.c1
theorem fr (h : NK w w0 c B ρ p q) (r : RefAt w0 B x s ρ ok) (i : Nat) : c.frozen? ⟨x, i, none⟩ = false := (World.frozen?_of_block (a := ⟨x, i, none⟩) (h.xk r)).trans (r.fr i)
theorem nl (h : NK w w0 c B ρ false q) (r : RefAt w0 B x s ρ ok) : NodesOut c B (.slice ρ.A s.ns.length ρ.c) s.ns ρ.p ok :=
 r.nl.step (fun k hk => h.kp k (r.ltp k hk).2 (by simp) (fun _ e => ty_ne (r.tyq k e) (r.typ k hk) (by decide) rfl)) (fun k hk hl => h.kp k hl (by simp) (fun _ e => r.no k hk (.inr (.inr (.inl e)))))
theorem up (h : NK w w0 c B ρ p false) (r : RefAt w0 B x s ρ ok) : MM.Row c B 4 1 (.slice ρ.U s.us.length ρ.e) s.us.length (boolsC s.us) ρ.q :=
 r.up.step fun k hk hl => h.kp k hl (fun _ e => ty_ne (r.typ k e) (r.tyq k hk) (by decide) rfl) (by simp)
theorem fl (h : NK w w0 c B ρ p q) (r : RefAt w0 B x s ρ ok) : FlyAt c B (.slice ρ.F s.f.length ρ.d) s.f ρ.fb ok :=
 r.fl.step (fun k hk => h.kp k (r.ltf k hk).2 (fun _ e => ty_ne (r.typ k e) (r.tyf k hk) (by decide) rfl) (fun _ e => ty_ne (r.tyq k e) (r.tyf k hk) (by decide) rfl)) (fun k hk hl => h.kp k hl (fun _ e => r.no k hk (.inr (.inl e))) (fun _ e => r.no k hk (.inr (.inr (.inl e)))))
theorem putP (h : NK w w0 c B ρ p q) (r : RefAt w0 B x s ρ ok) (hB : B ≤ w0.heap.size) (kp : ∀ k, k < c.heap.size → ρ.p ≠ some k → c'.heap[k]? = c.heap[k]?) (hb : Below B c c') : NK w w0 c' B ρ true q :=
 ⟨h.bl.trans hb, Nat.le_trans h.sz hb.size, fun k hk h1 h2 => (kp k (Nat.lt_of_lt_of_le hk h.sz) (h1 rfl)).trans (h.kp k hk (fun _ => h1 rfl) h2)⟩
theorem putQ (h : NK w w0 c B ρ p q) (r : RefAt w0 B x s ρ ok) (hg : c.grownBy c' ρ.q) : NK w w0 c' B ρ p true := by
 have hb : Below B c c' := (Below.refl B c).grown hg (Nat.le_trans r.Bsize h.sz) (fun k hk => (r.up.lt k hk).1)
 exact ⟨h.bl.trans hb, Nat.le_trans h.sz hb.size, fun k hk h1 h2 => (hg.block k (Nat.lt_of_lt_of_le hk h.sz) (fun e => h2 rfl e.symm)).trans (h.kp k hk h1 (fun _ => h2 rfl))⟩
theorem grow (h : NK w w0 c B ρ true true) (r : RefAt w0 B x s ρ ok) {okU : Nat → Prop} {A' U' : Option Addr} {c1 e1 : Nat} {ob oq : Option Nat} {n : Fed.Node} {u : Bool}
  (hn : NodesOut c B (.slice A' (s.ns.length + 1) c1) (s.ns ++ [n]) ob okU) (hu : MM.Row c B 4 1 (.slice U' (s.us.length + 1) e1) (s.us.length + 1) (boolsC s.us ++ [.bool u]) oq)
  (hob : ob = ρ.p ∨ ∃ b, ob = some b ∧ w0.heap.size ≤ b) (hoq : oq = ρ.q ∨ ∃ b, oq = some b ∧ w0.heap.size ≤ b)
  (hok : ∀ k, ok k → okU k) (hokU : ∀ k, okU k → (ok k ∨ w0.heap.size ≤ k) ∧ k < c.heap.size ∧ ob ≠ some k ∧ oq ≠ some k) :
  RefAt ((c.setCell ⟨x, 0, none⟩ (.slice A' (s.ns.length + 1) c1)).setCell ⟨x, 1, none⟩ (.slice U' (s.us.length + 1) e1)) B x ⟨s.ns ++ [n], s.us ++ [u], s.f⟩ { ρ with A := A', c := c1, U := U', e := e1, p := ob, q := oq } okU ∧ Below B w ((c.setCell ⟨x, 0, none⟩ (.slice A' (s.ns.length + 1) c1)).setCell ⟨x, 1, none⟩ (.slice U' (s.us.length + 1) e1)) := by
 have far : ∀ k, k ≠ x → ((c.setCell ⟨x, 0, none⟩ (.slice A' (s.ns.length + 1) c1)).setCell ⟨x, 1, none⟩ (.slice U' (s.us.length + 1) e1)).heap[k]? = c.heap[k]? := fun k hk => (Below.heap_setCell _ _ _ k hk).trans (Below.heap_setCell c _ _ k hk)
 have bx : c.heap[x]? = _ := (h.xk r).trans r.blk
 have tx : MM.Ty c x 73 := ⟨_, _, bx⟩
 have okx : ∀ k, okU k → k ≠ x := fun k hk e => by
  rcases (hokU k hk).1 with q | q
  ·exact r.no k q (.inl e)
  ·have := r.lt; omega
 obtain ⟨cs, n1, n2⟩ := hn
 have el : (s.ns ++ [n]).length = s.ns.length + 1 := by simp
 have eu : (s.us ++ [u]).length = s.us.length + 1 := by simp
 refine ⟨⟨r.hB, ?_, by rw [el, eu, r.ul], ?_, ?_, ?_, fun k hk q => ?_, fun k hk => ?_⟩, (h.bl.setCell (p := ⟨x, 0, none⟩) r.hB _).setCell (p := ⟨x, 1, none⟩) r.hB _⟩
 ·rw [el, eu]
  exact (setCell_blk _ ((setCell_blk _ bx).trans rfl)).trans rfl
 ·rw [el]
  exact NodesOut.step ⟨cs, n1, n2⟩ (fun k hk => far k (ty_ne (n1.ty k hk) tx (by decide))) (fun k hk _ => far k (okx k hk))
 ·rw [eu]
  have e : boolsC (s.us ++ [u]) = boolsC s.us ++ [.bool u] := by unfold boolsC; rw [List.map_append]; rfl
  rw [e]
  exact hu.step fun k hk _ => far k (ty_ne (hu.ty k hk) tx (by decide))
 ·exact ((h.fl r).mono (fun k hk _ => hok k hk)).step (fun k hk => far k (by
   have e : ρ.fb = some k := hk
   exact ty_ne (by obtain ⟨_, q, _⟩ := h.fl r; exact q.ty k e) tx (by decide))) (fun k hk _ => far k (okx k hk))
 ·obtain ⟨q1, q2, q3, q4⟩ := hokU k hk
  rcases q with q | q | q | q
  ·exact okx k hk q
  ·exact q3 q
  ·exact q4 q
  ·rcases q1 with q1 | q1
   ·exact r.no k q1 (.inr (.inr (.inr q)))
   ·have := (r.ltf k q).2; omega
 ·have := (hokU k hk).2.1
  simpa [World.setCell] using this
end NK
theorem firstN_ul (k i : Nat) : (firstN k i).us.length = i := by simp [firstN]
theorem rGNew_any (w : World) (k : Nat) (hk1 : 1 ≤ k) (hk : k ≤ 1000) :
  Calls Try.prog 50 #[.int .i64 (k : Int)] w fun e w' => ∃ (x : Nat) (ρ : RM) (ok : Nat → Prop), e = .returned (.pointer (some ⟨x, 0, none⟩)) ∧ RefAt w' w.heap.size x (GS.new k) ρ ok ∧ (∀ j, ok j → w.heap.size ≤ j) ∧ Below w.heap.size w w' := by
 obtain ⟨i0, hi0, hz0, hz1, hz2⟩ := info_parts info4
 go_enter Try.func50, Try.ntmps50
 go_upto_region 2 with (fail)
 refine name_world (F := fun W => Hid (∃ (ρ : RM) (ok : Nat → Prop), RefAt W w.heap.size w.heap.size (firstN k 0) ρ ok ∧ (∀ x, ok x → w.heap.size ≤ x)) ∧ Hid (Below w.heap.size w W)) _ (by exact ⟨Hd (⟨⟨none, 0, none, 0, none, 0, none, none, none⟩, fun _ => False, ⟨Nat.le_refl _, MM.alloc_new _ _, rfl, NodesOut.nil _ _ _ _, MM.Row.nil _ _ _ _ _, FlyAt.nil _ _ _ _, fun _ h => h.elim, fun _ h => h.elim⟩, fun _ h => h.elim⟩), Hd ((Below.refl _ w).alloc (Nat.le_refl _) _)⟩) ?_
 intro w1 ⟨G, HB⟩
 go_wp2_with fail
 go_loopw [4] (fun t4 wr => ∃ i : Nat, i ≤ k ∧ t4 = .int .i64 i ∧ Hid (∃ (ρ : RM) (ok : Nat → Prop), RefAt wr w.heap.size w.heap.size (firstN k i) ρ ok ∧ ∀ x, ok x → w.heap.size ≤ x) ∧ Hid (Below w.heap.size w wr)) (fun t4 _ => k - (intOf t4).toNat)
 case atStart => exact ⟨0, by omega, rfl, G, HB⟩
 case round =>
  clear G HB
  obtain ⟨i, hi, rfl, G, HB⟩ := hrel
  by_cases hlt : i < k
  case neg =>
   have hb : decide ((i : Int) < (k : Int)) = false := decide_eq_false (by omega)
   obtain rfl : i = k := by omega
   go_wp2_with fail
   go_ret
   obtain ⟨μ, ok, hG, hok⟩ := G.out
   exact ⟨_, μ, ok, rfl, hG, hok, HB.out⟩
  case pos =>
   have hb : decide ((i : Int) < (k : Int)) = true := decide_eq_true (by omega)
   obtain ⟨ρ, ok, hG, hok⟩ := G.out
   have R0 := Hd hG
   have HOK := Hd hok
   have HS := Hd hG.Bsize
   clear hG hok G
   go_upto_region 5 with (fail)
   refine wT (.p 0 (.p 1 (.p 2 (.p 3 (.p 4 (.s 5 (.p 6 (.p 7 (.p 11 (.p 12 (.p 13 (.s 14 (.w 8 [5, 14] (.w 9 [5, 14] (.w 10 [14] (.w 15 [5, 14] (.w 16 [] (.p 17 (.p 18 (.w 19 [] (.p 20 (.p 21 (.w 22 [] .nil .stop))) .stop))) .stop) .stop) (.w 15 [5, 14] (.w 10 [14] (.w 16 [] (.p 17 (.p 18 (.w 19 [] (.p 20 (.p 21 (.w 22 [] .nil .stop))) .stop))) .stop) .stop) .stop)) (.w 15 [5, 14] (.w 9 [5, 14] (.w 10 [14] (.w 16 [] (.p 17 (.p 18 (.w 19 [] (.p 20 (.p 21 (.w 22 [] .nil .stop))) .stop))) .stop) .stop) .stop) .stop)) (.w 15 [5, 14] (.w 8 [5, 14] (.w 9 [5, 14] (.w 10 [14] (.w 16 [] (.p 17 (.p 18 (.w 19 [] (.p 20 (.p 21 (.w 22 [] .nil .stop))) .stop))) .stop) .stop) .stop) .stop) .stop)))))))))))))) (by kernel_rfl) (by kernel_rfl) ?_
   refine name_world (F := fun W => Hid (NK w wr W w.heap.size ρ false false) ∧ Hid (wr.heap.size = W.heap.size)) _ (by exact ⟨Hd (⟨HB.out.drew, Nat.le_refl _, fun _ _ _ _ => rfl⟩), Hd (rfl)⟩) ?_
   intro v0 ⟨Kv0, SZ0⟩
   have c0v0 := Kv0.out.c0 R0.out
   have c1v0 := Kv0.out.c1 R0.out
   have f0v0 := Kv0.out.fr R0.out 0
   have f1v0 := Kv0.out.fr R0.out 1
   rw [firstN_len] at c0v0
   rw [firstN_ul] at c1v0
   repeat ((first | refine sP rfl fun K hK => ?_ | refine sS rfl fun K hK => ?_); go_simp; refine hK _ ?_; clear hK K)
   refine sW rfl rfl (fun K hK => ?_) ?_
   ·go_wp2_with fail
    refine (rnew_c _ (i : Int) 1 (k : Int) k rfl hk (by omega) (by omega)).mono ?_
    rintro e v8 ⟨σ, rfl, hb8, hn8⟩
    have Kv8 := Hd (Kv0.out.below HS.out hb8)
    have Nv8 := Hd (show NodeVs v8 (fun j => ok j ∨ (wr.heap.size ≤ j ∧ j < v8.heap.size)) (newN (i : Int) k 1) σ from hn8.mono (fun x hx hl => .inr ⟨Nat.le_trans Kv0.out.sz hx, hl⟩))
    have SZ8 := Hd Kv8.out.sz
    have ZL8 := Hd (Nat.le_refl v8.heap.size)
    clear hb8 hn8
    clear Kv0 c0v0 c1v0 f0v0 f1v0
    have c0v8 := Kv8.out.c0 R0.out
    have c1v8 := Kv8.out.c1 R0.out
    have f0v8 := Kv8.out.fr R0.out 0
    have f1v8 := Kv8.out.fr R0.out 1
    rw [firstN_len] at c0v8
    rw [firstN_ul] at c1v8
    go_wp2_with fail
    refine qN _ _ _ _ (hK _ _ ?_ ?_) <;> clear hK K
    ·repeat first | exact aN | refine aO rfl rfl ?_ | refine aI rfl (by go_simp <;> rfl) ?_
    refine sW rfl rfl (fun K hK => ?_) ?_
    ·go_wp2_with fail
     obtain ⟨b9, hb9⟩ : ∃ b, b = v8.heap.size := ⟨_, rfl⟩
     rw [← hb9]
     refine name_world (F := fun W => Hid (NK w wr W w.heap.size ρ false false) ∧ Hid (W.heap[b9]? = some (.cells (NA (newN (i : Int) k 1) σ) 28 (0, 0))) ∧ Hid (NodeVs W (fun j => ok j ∨ (wr.heap.size ≤ j ∧ j < v8.heap.size)) (newN (i : Int) k 1) σ) ∧ Hid (v8.heap.size ≤ W.heap.size)) _ (by exact ⟨Hd (Kv8.out.below HS.out ((Below.refl _ _).alloc (Nat.le_refl _) _)), Hd (by rw [hb9]; exact MM.alloc_new _ _), Hd (Nv8.out.step (fun k _ hl => Below.heap_alloc _ _ k hl)), Hd (by have := ZL8.out; first | omega | (simp; done) | (simp; omega))⟩) ?_
     intro v9 ⟨Kv9, Xv9, Nv9, ZL9⟩
     clear hb9
     clear Kv8 Nv8 c0v8 c1v8 f0v8 f1v8
     clear ZL8
     have c0v9 := Kv9.out.c0 R0.out
     have c1v9 := Kv9.out.c1 R0.out
     have f0v9 := Kv9.out.fr R0.out 0
     have f1v9 := Kv9.out.fr R0.out 1
     rw [firstN_len] at c0v9
     rw [firstN_ul] at c1v9
     refine qN _ _ _ _ (hK _ _ ?_ ?_) <;> clear hK K
     ·repeat first | exact aN | refine aO rfl rfl ?_ | refine aI rfl (by go_simp <;> rfl) ?_
     refine sW rfl rfl (fun K hK => ?_) ?_
     ·refine append_node _ rfl (.tmp 17) (.tmp 21) rfl rfl w.heap.size _ (firstN k i).ns ρ.p (fun j => ok j ∨ (wr.heap.size ≤ j ∧ j < v8.heap.size)) rfl (by have h := (Kv9.out.nl R0.out).mono (ok' := (fun j => ok j ∨ (wr.heap.size ≤ j ∧ j < v8.heap.size))) (fun j hj _ => .inl hj); rw [firstN_len] at h; exact h) (fun j hj e => by
       rcases hj with hj | hj
       ·exact R0.out.no j hj (.inr (.inl e))
       ·have := (R0.out.ltp j e).2; omega) b9 (newN (i : Int) k 1) σ rfl Xv9.out Nv9.out (by rw [firstN_len]; omega) (Nat.le_trans HS.out Kv9.out.sz) ?_
      intro A10 c10 v10 ob10 hn10 kp10 hob10 hbl10
      have Kv10 := Hd (Kv9.out.putP R0.out HS.out kp10 hbl10)
      have Lv10 := Hd (show NodesOut v10 w.heap.size (.slice A10 ((firstN k i).ns.length + 1) c10) ((firstN k i).ns ++ [newN (i : Int) k 1]) ob10 (fun j => ok j ∨ (wr.heap.size ≤ j ∧ j < v8.heap.size)) from hn10.mono (fun j hj _ => hj.1))
      have ZL10 := Hd (Nat.le_trans ZL9.out hbl10.size)
      have OB := Hd (show ob10 = ρ.p ∨ ∃ b, ob10 = some b ∧ v8.heap.size ≤ b from by
       rcases hob10 with e | ⟨b, e, hb⟩
       ·exact .inl e
       ·exact .inr ⟨b, e, Nat.le_trans ZL9.out hb⟩)
      rw [firstN_len]
      clear hn10 kp10 hob10 hbl10 ZL9
      clear Kv9 Nv9 Xv9 c0v9 c1v9 f0v9 f1v9
      have c0v10 := Kv10.out.c0 R0.out
      have c1v10 := Kv10.out.c1 R0.out
      have f0v10 := Kv10.out.fr R0.out 0
      have f1v10 := Kv10.out.fr R0.out 1
      rw [firstN_len] at c0v10
      rw [firstN_ul] at c1v10
      go_wp2_with fail
      refine qN _ _ _ _ (hK _ _ ?_ ?_) <;> clear hK K
      ·repeat first | exact aN | refine aO rfl rfl ?_ | refine aI rfl (by go_simp <;> rfl) ?_
      refine sW rfl rfl (fun K hK => ?_) sT
      go_wp2_with fail
      obtain ⟨b15, hb15⟩ : ∃ b, b = v10.heap.size := ⟨_, rfl⟩
      rw [← hb15]
      refine name_world (F := fun W => Hid (NK w wr W w.heap.size ρ true false) ∧ Hid (W.heap[b15]? = some (.cells #[.bool true] 4 (0, 0))) ∧ Hid (NodesOut W w.heap.size (.slice A10 ((firstN k i).ns.length + 1) c10) ((firstN k i).ns ++ [newN (i : Int) k 1]) ob10 (fun j => ok j ∨ (wr.heap.size ≤ j ∧ j < v8.heap.size))) ∧ Hid (v8.heap.size ≤ W.heap.size)) _ (by exact ⟨Hd (Kv10.out.below HS.out ((Below.refl _ _).alloc (Nat.le_refl _) _)), Hd (by rw [hb15]; exact MM.alloc_new _ _), Hd (Lv10.out.step (fun k hk => Below.heap_alloc _ _ _ (Lv10.out.lt k hk).2) (fun k hk hl => Below.heap_alloc _ _ _ hl)), Hd (by have := ZL10.out; first | omega | (simp; done) | (simp; omega))⟩) ?_
      intro v15 ⟨Kv15, Yv15, Lv15, ZL15⟩
      have B15S := Hd (show wr.heap.size ≤ b15 from by rw [hb15]; exact Kv10.out.sz)
      clear hb15
      clear Kv10 Lv10 c0v10 c1v10 f0v10 f1v10
      clear ZL10
      have c0v15 := Kv15.out.c0 R0.out
      have c1v15 := Kv15.out.c1 R0.out
      have f0v15 := Kv15.out.fr R0.out 0
      have f1v15 := Kv15.out.fr R0.out 1
      rw [firstN_len] at c0v15
      rw [firstN_ul] at c1v15
      refine qN _ _ _ _ (hK _ _ ?_ ?_) <;> clear hK K
      ·repeat first | exact aN | refine aO rfl rfl ?_ | refine aI rfl (by go_simp <;> rfl) ?_
      refine sW rfl rfl (fun K hK => ?_) sT
      refine MM.wpList_append_row _ rfl (.tmp 26) (.tmp 27) 25 rfl w.heap.size 4 i0 _ 1 1 Try.underlying25 hi0 hz0 hz1 hz2 rfl (by decide) _ i (boolsC (firstN k i).us) ρ.q rfl (by have h := Kv15.out.up R0.out; rw [firstN_ul] at h; exact h) (fun _ => True) _ 1 [.bool true] rfl (MM.Rd.lit Yv15.out trivial rfl (Nat.le_refl _) (by simp [maxLen]) rfl) (by intro u hu; simp at hu; subst hu; rfl) (by simp only [maxLen]; omega) (by omega) (Nat.le_trans HS.out Kv15.out.sz) ?_
      intro v16' v16 oq16 hr16 hg16 hoq16
      obtain ⟨U16, e16, rfl, _, _⟩ := hr16.slice
      have Kv16 := Hd (Kv15.out.putQ R0.out hg16)
      have Uv16 := Hd hr16
      have Lv16 := Hd (Lv15.out.step (fun j hj => hg16.block j (Lv15.out.lt j hj).2 (fun e => by
       obtain ⟨_, q, _⟩ := Lv15.out
       exact ty_ne ((Kv15.out.up R0.out).ty j e.symm) (q.ty j hj) (by decide) rfl)) (fun j hj hl => hg16.block j hl (fun e => by
       rcases hj with hj | hj
       ·exact R0.out.no j hj (.inr (.inr (.inl e.symm)))
       ·have := (R0.out.up.lt j e.symm).2; omega)))
      have OQ := Hd (show oq16 = ρ.q ∨ ∃ b, oq16 = some b ∧ v8.heap.size ≤ b from by
       rcases hoq16 with e | ⟨b, e, hb⟩
       ·exact .inl e
       ·exact .inr ⟨b, e, Nat.le_trans ZL15.out hb⟩)
      have ZL16 := Hd (show v8.heap.size ≤ v16.heap.size from Nat.le_trans ZL15.out hg16.size)
      clear hr16 hg16 hoq16 ZL15
      clear Kv15 Yv15 Lv15 c0v15 c1v15 f0v15 f1v15
      have c0v16 := Kv16.out.c0 R0.out
      have c1v16 := Kv16.out.c1 R0.out
      have f0v16 := Kv16.out.fr R0.out 0
      have f1v16 := Kv16.out.fr R0.out 1
      rw [firstN_len] at c0v16
      rw [firstN_ul] at c1v16
      go_wp2_with fail
      refine qN _ _ _ _ (hK _ _ ?_ ?_) <;> clear hK K
      ·repeat first | exact aN | refine aO rfl rfl ?_ | refine aI rfl (by go_simp <;> rfl) ?_
      repeat ((first | refine sP rfl fun K hK => ?_ | refine sS rfl fun K hK => ?_); go_simp; refine hK _ ?_; clear hK K)
      refine sW rfl rfl (fun K hK => ?_) sT
      repeat (first | go_values | go_skip | go_guarded | go_step | go_upon)
      refine qN _ _ _ _ (hK _ _ ?_ ?_) <;> clear hK K
      ·repeat first | exact aN | refine aO rfl rfl ?_ | refine aI rfl (by go_simp <;> rfl) ?_
      repeat ((first | refine sP rfl fun K hK => ?_ | refine sS rfl fun K hK => ?_); go_simp; refine hK _ ?_; clear hK K)
      refine sW rfl rfl (fun K hK => ?_) sT
      repeat (first | go_values | go_skip | go_guarded | go_step | go_upon)
      refine qN _ _ _ _ (hK _ _ ?_ ?_) <;> clear hK K
      ·repeat first | exact aN | refine aO rfl rfl ?_ | refine aI rfl (by go_simp <;> rfl) ?_
      refine sN ?_
      have HP := Hd (Kv16.out.grow R0.out Lv16.out (by rw [firstN_ul]; exact Uv16.out) (by rcases OB.out with e | ⟨b, e, hb⟩; exact .inl e; exact .inr ⟨b, e, Nat.le_trans SZ8.out hb⟩) (by rcases OQ.out with e | ⟨b, e, hb⟩; exact .inl e; exact .inr ⟨b, e, Nat.le_trans SZ8.out hb⟩) (fun j hj => .inl hj) (fun j hj => ⟨by rcases hj with hj | hj; exact .inl hj; exact .inr hj.1, by
       rcases hj with hj | hj
       ·have h1 := R0.out.okl j hj; have h2 := Kv16.out.sz; omega
       ·have h1 := hj.2; have h2 := ZL16.out; omega, fun e => by
       rcases OB.out with q | ⟨b, q, hb⟩
       ·rw [q] at e
        rcases hj with hj | hj
        ·exact R0.out.no j hj (.inr (.inl e))
        ·have := (R0.out.ltp j e).2; omega
       ·rw [q] at e; injection e with e
        rcases hj with hj | hj
        ·have := R0.out.okl j hj; have := SZ8.out; omega
        ·omega, fun e => by
       rcases OQ.out with q | ⟨b, q, hb⟩
       ·rw [q] at e
        rcases hj with hj | hj
        ·exact R0.out.no j hj (.inr (.inr (.inl e)))
        ·have := (R0.out.up.lt j e).2; omega
       ·rw [q] at e; injection e with e
        rcases hj with hj | hj
        ·have := R0.out.okl j hj; have := SZ8.out; omega
        ·omega⟩))
      rw [firstN_len, firstN_ul] at HP
      clear Kv16 Lv16 Uv16 OB OQ SZ8 ZL16 c0v16 c1v16 f0v16 f1v16
      go_wp2_with fail
      go_roundw
      case rel =>
       exact ⟨i + 1, by omega, by go_num, Hd (by rw [firstN_succ]; exact ⟨_, _, HP.out.1, fun x hx => by
        rcases hx with hx | hx
        ·exact HOK.out x hx
        ·have := HS.out; omega⟩), Hd HP.out.2⟩
      case measure => simp [intOf]; omega
     refine sW rfl rfl (fun K hK => ?_) sT
     go_wp2_with fail
     obtain ⟨b15, hb15⟩ : ∃ b, b = v9.heap.size := ⟨_, rfl⟩
     rw [← hb15]
     refine name_world (F := fun W => Hid (NK w wr W w.heap.size ρ false false) ∧ Hid (W.heap[b15]? = some (.cells #[.bool true] 4 (0, 0))) ∧ Hid (NodeVs W (fun j => ok j ∨ (wr.heap.size ≤ j ∧ j < v8.heap.size)) (newN (i : Int) k 1) σ) ∧ Hid (W.heap[b9]? = some (.cells (NA (newN (i : Int) k 1) σ) 28 (0, 0))) ∧ Hid (v8.heap.size ≤ W.heap.size)) _ (by exact ⟨Hd (Kv9.out.below HS.out ((Below.refl _ _).alloc (Nat.le_refl _) _)), Hd (by rw [hb15]; exact MM.alloc_new _ _), Hd (Nv9.out.step (fun k _ hl => Below.heap_alloc _ _ k hl)), Hd ((Below.heap_alloc _ _ _ (MM.blk_lt Xv9.out)).trans Xv9.out), Hd (by have := ZL9.out; first | omega | (simp; done) | (simp; omega))⟩) ?_
     intro v15 ⟨Kv15, Yv15, Nv15, Xv15, ZL15⟩
     have B15S := Hd (show wr.heap.size ≤ b15 from by rw [hb15]; exact Kv9.out.sz)
     clear hb15
     clear Kv9 Nv9 Xv9 c0v9 c1v9 f0v9 f1v9
     clear ZL9
     have c0v15 := Kv15.out.c0 R0.out
     have c1v15 := Kv15.out.c1 R0.out
     have f0v15 := Kv15.out.fr R0.out 0
     have f1v15 := Kv15.out.fr R0.out 1
     rw [firstN_len] at c0v15
     rw [firstN_ul] at c1v15
     refine qN _ _ _ _ (hK _ _ ?_ ?_) <;> clear hK K
     ·repeat first | exact aN | refine aO rfl rfl ?_ | refine aI rfl (by go_simp <;> rfl) ?_
     refine sW rfl rfl (fun K hK => ?_) sT
     refine append_node _ rfl (.tmp 17) (.tmp 21) rfl rfl w.heap.size _ (firstN k i).ns ρ.p (fun j => ok j ∨ (wr.heap.size ≤ j ∧ j < v8.heap.size)) rfl (by have h := (Kv15.out.nl R0.out).mono (ok' := (fun j => ok j ∨ (wr.heap.size ≤ j ∧ j < v8.heap.size))) (fun j hj _ => .inl hj); rw [firstN_len] at h; exact h) (fun j hj e => by
      rcases hj with hj | hj
      ·exact R0.out.no j hj (.inr (.inl e))
      ·have := (R0.out.ltp j e).2; omega) b9 (newN (i : Int) k 1) σ rfl Xv15.out Nv15.out (by rw [firstN_len]; omega) (Nat.le_trans HS.out Kv15.out.sz) ?_
     intro A10 c10 v10 ob10 hn10 kp10 hob10 hbl10
     have Kv10 := Hd (Kv15.out.putP R0.out HS.out kp10 hbl10)
     have Lv10 := Hd (show NodesOut v10 w.heap.size (.slice A10 ((firstN k i).ns.length + 1) c10) ((firstN k i).ns ++ [newN (i : Int) k 1]) ob10 (fun j => ok j ∨ (wr.heap.size ≤ j ∧ j < v8.heap.size)) from hn10.mono (fun j hj _ => hj.1))
     have ZL10 := Hd (Nat.le_trans ZL15.out hbl10.size)
     have OB := Hd (show ob10 = ρ.p ∨ ∃ b, ob10 = some b ∧ v8.heap.size ≤ b from by
      rcases hob10 with e | ⟨b, e, hb⟩
      ·exact .inl e
      ·exact .inr ⟨b, e, Nat.le_trans ZL15.out hb⟩)
     have Yv10 := Hd ((kp10 _ (MM.blk_lt Yv15.out) (fun e => by have := (R0.out.ltp _ e).2; have := B15S.out; omega)).trans Yv15.out)
     rw [firstN_len]
     clear hn10 kp10 hob10 hbl10 ZL15
     clear Kv15 Nv15 Xv15 Yv15 c0v15 c1v15 f0v15 f1v15
     have c0v10 := Kv10.out.c0 R0.out
     have c1v10 := Kv10.out.c1 R0.out
     have f0v10 := Kv10.out.fr R0.out 0
     have f1v10 := Kv10.out.fr R0.out 1
     rw [firstN_len] at c0v10
     rw [firstN_ul] at c1v10
     go_wp2_with fail
     refine qN _ _ _ _ (hK _ _ ?_ ?_) <;> clear hK K
     ·repeat first | exact aN | refine aO rfl rfl ?_ | refine aI rfl (by go_simp <;> rfl) ?_
     refine sW rfl rfl (fun K hK => ?_) sT
     refine MM.wpList_append_row _ rfl (.tmp 26) (.tmp 27) 25 rfl w.heap.size 4 i0 _ 1 1 Try.underlying25 hi0 hz0 hz1 hz2 rfl (by decide) _ i (boolsC (firstN k i).us) ρ.q rfl (by have h := Kv10.out.up R0.out; rw [firstN_ul] at h; exact h) (fun _ => True) _ 1 [.bool true] rfl (MM.Rd.lit Yv10.out trivial rfl (Nat.le_refl _) (by simp [maxLen]) rfl) (by intro u hu; simp at hu; subst hu; rfl) (by simp only [maxLen]; omega) (by omega) (Nat.le_trans HS.out Kv10.out.sz) ?_
     intro v16' v16 oq16 hr16 hg16 hoq16
     obtain ⟨U16, e16, rfl, _, _⟩ := hr16.slice
     have Kv16 := Hd (Kv10.out.putQ R0.out hg16)
     have Uv16 := Hd hr16
     have Lv16 := Hd (Lv10.out.step (fun j hj => hg16.block j (Lv10.out.lt j hj).2 (fun e => by
      obtain ⟨_, q, _⟩ := Lv10.out
      exact ty_ne ((Kv10.out.up R0.out).ty j e.symm) (q.ty j hj) (by decide) rfl)) (fun j hj hl => hg16.block j hl (fun e => by
      rcases hj with hj | hj
      ·exact R0.out.no j hj (.inr (.inr (.inl e.symm)))
      ·have := (R0.out.up.lt j e.symm).2; omega)))
     have OQ := Hd (show oq16 = ρ.q ∨ ∃ b, oq16 = some b ∧ v8.heap.size ≤ b from by
      rcases hoq16 with e | ⟨b, e, hb⟩
      ·exact .inl e
      ·exact .inr ⟨b, e, Nat.le_trans ZL10.out hb⟩)
     have ZL16 := Hd (show v8.heap.size ≤ v16.heap.size from Nat.le_trans ZL10.out hg16.size)
     clear hr16 hg16 hoq16 ZL10
     clear Kv10 Yv10 Lv10 c0v10 c1v10 f0v10 f1v10
     have c0v16 := Kv16.out.c0 R0.out
     have c1v16 := Kv16.out.c1 R0.out
     have f0v16 := Kv16.out.fr R0.out 0
     have f1v16 := Kv16.out.fr R0.out 1
     rw [firstN_len] at c0v16
     rw [firstN_ul] at c1v16
     go_wp2_with fail
     refine qN _ _ _ _ (hK _ _ ?_ ?_) <;> clear hK K
     ·repeat first | exact aN | refine aO rfl rfl ?_ | refine aI rfl (by go_simp <;> rfl) ?_
     repeat ((first | refine sP rfl fun K hK => ?_ | refine sS rfl fun K hK => ?_); go_simp; refine hK _ ?_; clear hK K)
     refine sW rfl rfl (fun K hK => ?_) sT
     repeat (first | go_values | go_skip | go_guarded | go_step | go_upon)
     refine qN _ _ _ _ (hK _ _ ?_ ?_) <;> clear hK K
     ·repeat first | exact aN | refine aO rfl rfl ?_ | refine aI rfl (by go_simp <;> rfl) ?_
     repeat ((first | refine sP rfl fun K hK => ?_ | refine sS rfl fun K hK => ?_); go_simp; refine hK _ ?_; clear hK K)
     refine sW rfl rfl (fun K hK => ?_) sT
     repeat (first | go_values | go_skip | go_guarded | go_step | go_upon)
     refine qN _ _ _ _ (hK _ _ ?_ ?_) <;> clear hK K
     ·repeat first | exact aN | refine aO rfl rfl ?_ | refine aI rfl (by go_simp <;> rfl) ?_
     refine sN ?_
     have HP := Hd (Kv16.out.grow R0.out Lv16.out (by rw [firstN_ul]; exact Uv16.out) (by rcases OB.out with e | ⟨b, e, hb⟩; exact .inl e; exact .inr ⟨b, e, Nat.le_trans SZ8.out hb⟩) (by rcases OQ.out with e | ⟨b, e, hb⟩; exact .inl e; exact .inr ⟨b, e, Nat.le_trans SZ8.out hb⟩) (fun j hj => .inl hj) (fun j hj => ⟨by rcases hj with hj | hj; exact .inl hj; exact .inr hj.1, by
      rcases hj with hj | hj
      ·have h1 := R0.out.okl j hj; have h2 := Kv16.out.sz; omega
      ·have h1 := hj.2; have h2 := ZL16.out; omega, fun e => by
      rcases OB.out with q | ⟨b, q, hb⟩
      ·rw [q] at e
       rcases hj with hj | hj
       ·exact R0.out.no j hj (.inr (.inl e))
       ·have := (R0.out.ltp j e).2; omega
      ·rw [q] at e; injection e with e
       rcases hj with hj | hj
       ·have := R0.out.okl j hj; have := SZ8.out; omega
       ·omega, fun e => by
      rcases OQ.out with q | ⟨b, q, hb⟩
      ·rw [q] at e
       rcases hj with hj | hj
       ·exact R0.out.no j hj (.inr (.inr (.inl e)))
       ·have := (R0.out.up.lt j e).2; omega
      ·rw [q] at e; injection e with e
       rcases hj with hj | hj
       ·have := R0.out.okl j hj; have := SZ8.out; omega
       ·omega⟩))
     rw [firstN_len, firstN_ul] at HP
     clear Kv16 Lv16 Uv16 OB OQ SZ8 ZL16 c0v16 c1v16 f0v16 f1v16
     go_wp2_with fail
     go_roundw
     case rel =>
      exact ⟨i + 1, by omega, by go_num, Hd (by rw [firstN_succ]; exact ⟨_, _, HP.out.1, fun x hx => by
       rcases hx with hx | hx
       ·exact HOK.out x hx
       ·have := HS.out; omega⟩), Hd HP.out.2⟩
     case measure => simp [intOf]; omega
    refine sW rfl rfl (fun K hK => ?_) sT
    go_wp2_with fail
    obtain ⟨b15, hb15⟩ : ∃ b, b = v8.heap.size := ⟨_, rfl⟩
    rw [← hb15]
    refine name_world (F := fun W => Hid (NK w wr W w.heap.size ρ false false) ∧ Hid (W.heap[b15]? = some (.cells #[.bool true] 4 (0, 0))) ∧ Hid (NodeVs W (fun j => ok j ∨ (wr.heap.size ≤ j ∧ j < v8.heap.size)) (newN (i : Int) k 1) σ) ∧ Hid (v8.heap.size ≤ W.heap.size)) _ (by exact ⟨Hd (Kv8.out.below HS.out ((Below.refl _ _).alloc (Nat.le_refl _) _)), Hd (by rw [hb15]; exact MM.alloc_new _ _), Hd (Nv8.out.step (fun k _ hl => Below.heap_alloc _ _ k hl)), Hd (by have := ZL8.out; first | omega | (simp; done) | (simp; omega))⟩) ?_
    intro v15 ⟨Kv15, Yv15, Nv15, ZL15⟩
    have B15S := Hd (show wr.heap.size ≤ b15 from by rw [hb15]; exact Kv8.out.sz)
    clear hb15
    clear Kv8 Nv8 c0v8 c1v8 f0v8 f1v8
    clear ZL8
    have c0v15 := Kv15.out.c0 R0.out
    have c1v15 := Kv15.out.c1 R0.out
    have f0v15 := Kv15.out.fr R0.out 0
    have f1v15 := Kv15.out.fr R0.out 1
    rw [firstN_len] at c0v15
    rw [firstN_ul] at c1v15
    refine qN _ _ _ _ (hK _ _ ?_ ?_) <;> clear hK K
    ·repeat first | exact aN | refine aO rfl rfl ?_ | refine aI rfl (by go_simp <;> rfl) ?_
    refine sW rfl rfl (fun K hK => ?_) sT
    go_wp2_with fail
    obtain ⟨b9, hb9⟩ : ∃ b, b = v15.heap.size := ⟨_, rfl⟩
    rw [← hb9]
    refine name_world (F := fun W => Hid (NK w wr W w.heap.size ρ false false) ∧ Hid (W.heap[b9]? = some (.cells (NA (newN (i : Int) k 1) σ) 28 (0, 0))) ∧ Hid (NodeVs W (fun j => ok j ∨ (wr.heap.size ≤ j ∧ j < v8.heap.size)) (newN (i : Int) k 1) σ) ∧ Hid (W.heap[b15]? = some (.cells #[.bool true] 4 (0, 0))) ∧ Hid (v8.heap.size ≤ W.heap.size)) _ (by exact ⟨Hd (Kv15.out.below HS.out ((Below.refl _ _).alloc (Nat.le_refl _) _)), Hd (by rw [hb9]; exact MM.alloc_new _ _), Hd (Nv15.out.step (fun k _ hl => Below.heap_alloc _ _ k hl)), Hd ((Below.heap_alloc _ _ _ (MM.blk_lt Yv15.out)).trans Yv15.out), Hd (by have := ZL15.out; first | omega | (simp; done) | (simp; omega))⟩) ?_
    intro v9 ⟨Kv9, Xv9, Nv9, Yv9, ZL9⟩
    clear hb9
    clear Kv15 Nv15 Yv15 c0v15 c1v15 f0v15 f1v15
    clear ZL15
    have c0v9 := Kv9.out.c0 R0.out
    have c1v9 := Kv9.out.c1 R0.out
    have f0v9 := Kv9.out.fr R0.out 0
    have f1v9 := Kv9.out.fr R0.out 1
    rw [firstN_len] at c0v9
    rw [firstN_ul] at c1v9
    refine qN _ _ _ _ (hK _ _ ?_ ?_) <;> clear hK K
    ·repeat first | exact aN | refine aO rfl rfl ?_ | refine aI rfl (by go_simp <;> rfl) ?_
    refine sW rfl rfl (fun K hK => ?_) sT
    refine append_node _ rfl (.tmp 17) (.tmp 21) rfl rfl w.heap.size _ (firstN k i).ns ρ.p (fun j => ok j ∨ (wr.heap.size ≤ j ∧ j < v8.heap.size)) rfl (by have h := (Kv9.out.nl R0.out).mono (ok' := (fun j => ok j ∨ (wr.heap.size ≤ j ∧ j < v8.heap.size))) (fun j hj _ => .inl hj); rw [firstN_len] at h; exact h) (fun j hj e => by
     rcases hj with hj | hj
     ·exact R0.out.no j hj (.inr (.inl e))
     ·have := (R0.out.ltp j e).2; omega) b9 (newN (i : Int) k 1) σ rfl Xv9.out Nv9.out (by rw [firstN_len]; omega) (Nat.le_trans HS.out Kv9.out.sz) ?_
    intro A10 c10 v10 ob10 hn10 kp10 hob10 hbl10
    have Kv10 := Hd (Kv9.out.putP R0.out HS.out kp10 hbl10)
    have Lv10 := Hd (show NodesOut v10 w.heap.size (.slice A10 ((firstN k i).ns.length + 1) c10) ((firstN k i).ns ++ [newN (i : Int) k 1]) ob10 (fun j => ok j ∨ (wr.heap.size ≤ j ∧ j < v8.heap.size)) from hn10.mono (fun j hj _ => hj.1))
    have ZL10 := Hd (Nat.le_trans ZL9.out hbl10.size)
    have OB := Hd (show ob10 = ρ.p ∨ ∃ b, ob10 = some b ∧ v8.heap.size ≤ b from by
     rcases hob10 with e | ⟨b, e, hb⟩
     ·exact .inl e
     ·exact .inr ⟨b, e, Nat.le_trans ZL9.out hb⟩)
    have Yv10 := Hd ((kp10 _ (MM.blk_lt Yv9.out) (fun e => by have := (R0.out.ltp _ e).2; have := B15S.out; omega)).trans Yv9.out)
    rw [firstN_len]
    clear hn10 kp10 hob10 hbl10 ZL9
    clear Kv9 Nv9 Xv9 Yv9 c0v9 c1v9 f0v9 f1v9
    have c0v10 := Kv10.out.c0 R0.out
    have c1v10 := Kv10.out.c1 R0.out
    have f0v10 := Kv10.out.fr R0.out 0
    have f1v10 := Kv10.out.fr R0.out 1
    rw [firstN_len] at c0v10
    rw [firstN_ul] at c1v10
    go_wp2_with fail
    refine qN _ _ _ _ (hK _ _ ?_ ?_) <;> clear hK K
    ·repeat first | exact aN | refine aO rfl rfl ?_ | refine aI rfl (by go_simp <;> rfl) ?_
    refine sW rfl rfl (fun K hK => ?_) sT
    refine MM.wpList_append_row _ rfl (.tmp 26) (.tmp 27) 25 rfl w.heap.size 4 i0 _ 1 1 Try.underlying25 hi0 hz0 hz1 hz2 rfl (by decide) _ i (boolsC (firstN k i).us) ρ.q rfl (by have h := Kv10.out.up R0.out; rw [firstN_ul] at h; exact h) (fun _ => True) _ 1 [.bool true] rfl (MM.Rd.lit Yv10.out trivial rfl (Nat.le_refl _) (by simp [maxLen]) rfl) (by intro u hu; simp at hu; subst hu; rfl) (by simp only [maxLen]; omega) (by omega) (Nat.le_trans HS.out Kv10.out.sz) ?_
    intro v16' v16 oq16 hr16 hg16 hoq16
    obtain ⟨U16, e16, rfl, _, _⟩ := hr16.slice
    have Kv16 := Hd (Kv10.out.putQ R0.out hg16)
    have Uv16 := Hd hr16
    have Lv16 := Hd (Lv10.out.step (fun j hj => hg16.block j (Lv10.out.lt j hj).2 (fun e => by
     obtain ⟨_, q, _⟩ := Lv10.out
     exact ty_ne ((Kv10.out.up R0.out).ty j e.symm) (q.ty j hj) (by decide) rfl)) (fun j hj hl => hg16.block j hl (fun e => by
     rcases hj with hj | hj
     ·exact R0.out.no j hj (.inr (.inr (.inl e.symm)))
     ·have := (R0.out.up.lt j e.symm).2; omega)))
    have OQ := Hd (show oq16 = ρ.q ∨ ∃ b, oq16 = some b ∧ v8.heap.size ≤ b from by
     rcases hoq16 with e | ⟨b, e, hb⟩
     ·exact .inl e
     ·exact .inr ⟨b, e, Nat.le_trans ZL10.out hb⟩)
    have ZL16 := Hd (show v8.heap.size ≤ v16.heap.size from Nat.le_trans ZL10.out hg16.size)
    clear hr16 hg16 hoq16 ZL10
    clear Kv10 Yv10 Lv10 c0v10 c1v10 f0v10 f1v10
    have c0v16 := Kv16.out.c0 R0.out
    have c1v16 := Kv16.out.c1 R0.out
    have f0v16 := Kv16.out.fr R0.out 0
    have f1v16 := Kv16.out.fr R0.out 1
    rw [firstN_len] at c0v16
    rw [firstN_ul] at c1v16
    go_wp2_with fail
    refine qN _ _ _ _ (hK _ _ ?_ ?_) <;> clear hK K
    ·repeat first | exact aN | refine aO rfl rfl ?_ | refine aI rfl (by go_simp <;> rfl) ?_
    repeat ((first | refine sP rfl fun K hK => ?_ | refine sS rfl fun K hK => ?_); go_simp; refine hK _ ?_; clear hK K)
    refine sW rfl rfl (fun K hK => ?_) sT
    repeat (first | go_values | go_skip | go_guarded | go_step | go_upon)
    refine qN _ _ _ _ (hK _ _ ?_ ?_) <;> clear hK K
    ·repeat first | exact aN | refine aO rfl rfl ?_ | refine aI rfl (by go_simp <;> rfl) ?_
    repeat ((first | refine sP rfl fun K hK => ?_ | refine sS rfl fun K hK => ?_); go_simp; refine hK _ ?_; clear hK K)
    refine sW rfl rfl (fun K hK => ?_) sT
    repeat (first | go_values | go_skip | go_guarded | go_step | go_upon)
    refine qN _ _ _ _ (hK _ _ ?_ ?_) <;> clear hK K
    ·repeat first | exact aN | refine aO rfl rfl ?_ | refine aI rfl (by go_simp <;> rfl) ?_
    refine sN ?_
    have HP := Hd (Kv16.out.grow R0.out Lv16.out (by rw [firstN_ul]; exact Uv16.out) (by rcases OB.out with e | ⟨b, e, hb⟩; exact .inl e; exact .inr ⟨b, e, Nat.le_trans SZ8.out hb⟩) (by rcases OQ.out with e | ⟨b, e, hb⟩; exact .inl e; exact .inr ⟨b, e, Nat.le_trans SZ8.out hb⟩) (fun j hj => .inl hj) (fun j hj => ⟨by rcases hj with hj | hj; exact .inl hj; exact .inr hj.1, by
     rcases hj with hj | hj
     ·have h1 := R0.out.okl j hj; have h2 := Kv16.out.sz; omega
     ·have h1 := hj.2; have h2 := ZL16.out; omega, fun e => by
     rcases OB.out with q | ⟨b, q, hb⟩
     ·rw [q] at e
      rcases hj with hj | hj
      ·exact R0.out.no j hj (.inr (.inl e))
      ·have := (R0.out.ltp j e).2; omega
     ·rw [q] at e; injection e with e
      rcases hj with hj | hj
      ·have := R0.out.okl j hj; have := SZ8.out; omega
      ·omega, fun e => by
     rcases OQ.out with q | ⟨b, q, hb⟩
     ·rw [q] at e
      rcases hj with hj | hj
      ·exact R0.out.no j hj (.inr (.inr (.inl e)))
      ·have := (R0.out.up.lt j e).2; omega
     ·rw [q] at e; injection e with e
      rcases hj with hj | hj
      ·have := R0.out.okl j hj; have := SZ8.out; omega
      ·omega⟩))
    rw [firstN_len, firstN_ul] at HP
    clear Kv16 Lv16 Uv16 OB OQ SZ8 ZL16 c0v16 c1v16 f0v16 f1v16
    go_wp2_with fail
    go_roundw
    case rel =>
     exact ⟨i + 1, by omega, by go_num, Hd (by rw [firstN_succ]; exact ⟨_, _, HP.out.1, fun x hx => by
      rcases hx with hx | hx
      ·exact HOK.out x hx
      ·have := HS.out; omega⟩), Hd HP.out.2⟩
    case measure => simp [intOf]; omega
   refine sW rfl rfl (fun K hK => ?_) sT
   go_wp2_with fail
   obtain ⟨b15, hb15⟩ : ∃ b, b = v0.heap.size := ⟨_, rfl⟩
   rw [← hb15]
   refine name_world (F := fun W => Hid (NK w wr W w.heap.size ρ false false) ∧ Hid (W.heap[b15]? = some (.cells #[.bool true] 4 (0, 0)))) _ (by exact ⟨Hd (Kv0.out.below HS.out ((Below.refl _ _).alloc (Nat.le_refl _) _)), Hd (by rw [hb15]; exact MM.alloc_new _ _)⟩) ?_
   intro v15 ⟨Kv15, Yv15⟩
   have B15S := Hd (show wr.heap.size ≤ b15 from by rw [hb15]; exact Kv0.out.sz)
   clear hb15
   clear Kv0 c0v0 c1v0 f0v0 f1v0
   have c0v15 := Kv15.out.c0 R0.out
   have c1v15 := Kv15.out.c1 R0.out
   have f0v15 := Kv15.out.fr R0.out 0
   have f1v15 := Kv15.out.fr R0.out 1
   rw [firstN_len] at c0v15
   rw [firstN_ul] at c1v15
   refine qN _ _ _ _ (hK _ _ ?_ ?_) <;> clear hK K
   ·repeat first | exact aN | refine aO rfl rfl ?_ | refine aI rfl (by go_simp <;> rfl) ?_
   refine sW rfl rfl (fun K hK => ?_) sT
   go_wp2_with fail
   refine (rnew_c _ (i : Int) 1 (k : Int) k rfl hk (by omega) (by omega)).mono ?_
   rintro e v8 ⟨σ, rfl, hb8, hn8⟩
   have Kv8 := Hd (Kv15.out.below HS.out hb8)
   have Nv8 := Hd (show NodeVs v8 (fun j => ok j ∨ (wr.heap.size ≤ j ∧ j < v8.heap.size)) (newN (i : Int) k 1) σ from hn8.mono (fun x hx hl => .inr ⟨Nat.le_trans Kv15.out.sz hx, hl⟩))
   have SZ8 := Hd Kv8.out.sz
   have ZL8 := Hd (Nat.le_refl v8.heap.size)
   have Yv8 := Hd ((hb8.block _ (MM.blk_lt Yv15.out)).trans Yv15.out)
   clear hb8 hn8
   clear Kv15 Yv15 c0v15 c1v15 f0v15 f1v15
   have c0v8 := Kv8.out.c0 R0.out
   have c1v8 := Kv8.out.c1 R0.out
   have f0v8 := Kv8.out.fr R0.out 0
   have f1v8 := Kv8.out.fr R0.out 1
   rw [firstN_len] at c0v8
   rw [firstN_ul] at c1v8
   go_wp2_with fail
   refine qN _ _ _ _ (hK _ _ ?_ ?_) <;> clear hK K
   ·repeat first | exact aN | refine aO rfl rfl ?_ | refine aI rfl (by go_simp <;> rfl) ?_
   refine sW rfl rfl (fun K hK => ?_) sT
   go_wp2_with fail
   obtain ⟨b9, hb9⟩ : ∃ b, b = v8.heap.size := ⟨_, rfl⟩
   rw [← hb9]
   refine name_world (F := fun W => Hid (NK w wr W w.heap.size ρ false false) ∧ Hid (W.heap[b9]? = some (.cells (NA (newN (i : Int) k 1) σ) 28 (0, 0))) ∧ Hid (NodeVs W (fun j => ok j ∨ (wr.heap.size ≤ j ∧ j < v8.heap.size)) (newN (i : Int) k 1) σ) ∧ Hid (W.heap[b15]? = some (.cells #[.bool true] 4 (0, 0))) ∧ Hid (v8.heap.size ≤ W.heap.size)) _ (by exact ⟨Hd (Kv8.out.below HS.out ((Below.refl _ _).alloc (Nat.le_refl _) _)), Hd (by rw [hb9]; exact MM.alloc_new _ _), Hd (Nv8.out.step (fun k _ hl => Below.heap_alloc _ _ k hl)), Hd ((Below.heap_alloc _ _ _ (MM.blk_lt Yv8.out)).trans Yv8.out), Hd (by have := ZL8.out; first | omega | (simp; done) | (simp; omega))⟩) ?_
   intro v9 ⟨Kv9, Xv9, Nv9, Yv9, ZL9⟩
   clear hb9
   clear Kv8 Nv8 Yv8 c0v8 c1v8 f0v8 f1v8
   clear ZL8
   have c0v9 := Kv9.out.c0 R0.out
   have c1v9 := Kv9.out.c1 R0.out
   have f0v9 := Kv9.out.fr R0.out 0
   have f1v9 := Kv9.out.fr R0.out 1
   rw [firstN_len] at c0v9
   rw [firstN_ul] at c1v9
   refine qN _ _ _ _ (hK _ _ ?_ ?_) <;> clear hK K
   ·repeat first | exact aN | refine aO rfl rfl ?_ | refine aI rfl (by go_simp <;> rfl) ?_
   refine sW rfl rfl (fun K hK => ?_) sT
   refine append_node _ rfl (.tmp 17) (.tmp 21) rfl rfl w.heap.size _ (firstN k i).ns ρ.p (fun j => ok j ∨ (wr.heap.size ≤ j ∧ j < v8.heap.size)) rfl (by have h := (Kv9.out.nl R0.out).mono (ok' := (fun j => ok j ∨ (wr.heap.size ≤ j ∧ j < v8.heap.size))) (fun j hj _ => .inl hj); rw [firstN_len] at h; exact h) (fun j hj e => by
    rcases hj with hj | hj
    ·exact R0.out.no j hj (.inr (.inl e))
    ·have := (R0.out.ltp j e).2; omega) b9 (newN (i : Int) k 1) σ rfl Xv9.out Nv9.out (by rw [firstN_len]; omega) (Nat.le_trans HS.out Kv9.out.sz) ?_
   intro A10 c10 v10 ob10 hn10 kp10 hob10 hbl10
   have Kv10 := Hd (Kv9.out.putP R0.out HS.out kp10 hbl10)
   have Lv10 := Hd (show NodesOut v10 w.heap.size (.slice A10 ((firstN k i).ns.length + 1) c10) ((firstN k i).ns ++ [newN (i : Int) k 1]) ob10 (fun j => ok j ∨ (wr.heap.size ≤ j ∧ j < v8.heap.size)) from hn10.mono (fun j hj _ => hj.1))
   have ZL10 := Hd (Nat.le_trans ZL9.out hbl10.size)
   have OB := Hd (show ob10 = ρ.p ∨ ∃ b, ob10 = some b ∧ v8.heap.size ≤ b from by
    rcases hob10 with e | ⟨b, e, hb⟩
    ·exact .inl e
    ·exact .inr ⟨b, e, Nat.le_trans ZL9.out hb⟩)
   have Yv10 := Hd ((kp10 _ (MM.blk_lt Yv9.out) (fun e => by have := (R0.out.ltp _ e).2; have := B15S.out; omega)).trans Yv9.out)
   rw [firstN_len]
   clear hn10 kp10 hob10 hbl10 ZL9
   clear Kv9 Nv9 Xv9 Yv9 c0v9 c1v9 f0v9 f1v9
   have c0v10 := Kv10.out.c0 R0.out
   have c1v10 := Kv10.out.c1 R0.out
   have f0v10 := Kv10.out.fr R0.out 0
   have f1v10 := Kv10.out.fr R0.out 1
   rw [firstN_len] at c0v10
   rw [firstN_ul] at c1v10
   go_wp2_with fail
   refine qN _ _ _ _ (hK _ _ ?_ ?_) <;> clear hK K
   ·repeat first | exact aN | refine aO rfl rfl ?_ | refine aI rfl (by go_simp <;> rfl) ?_
   refine sW rfl rfl (fun K hK => ?_) sT
   refine MM.wpList_append_row _ rfl (.tmp 26) (.tmp 27) 25 rfl w.heap.size 4 i0 _ 1 1 Try.underlying25 hi0 hz0 hz1 hz2 rfl (by decide) _ i (boolsC (firstN k i).us) ρ.q rfl (by have h := Kv10.out.up R0.out; rw [firstN_ul] at h; exact h) (fun _ => True) _ 1 [.bool true] rfl (MM.Rd.lit Yv10.out trivial rfl (Nat.le_refl _) (by simp [maxLen]) rfl) (by intro u hu; simp at hu; subst hu; rfl) (by simp only [maxLen]; omega) (by omega) (Nat.le_trans HS.out Kv10.out.sz) ?_
   intro v16' v16 oq16 hr16 hg16 hoq16
   obtain ⟨U16, e16, rfl, _, _⟩ := hr16.slice
   have Kv16 := Hd (Kv10.out.putQ R0.out hg16)
   have Uv16 := Hd hr16
   have Lv16 := Hd (Lv10.out.step (fun j hj => hg16.block j (Lv10.out.lt j hj).2 (fun e => by
    obtain ⟨_, q, _⟩ := Lv10.out
    exact ty_ne ((Kv10.out.up R0.out).ty j e.symm) (q.ty j hj) (by decide) rfl)) (fun j hj hl => hg16.block j hl (fun e => by
    rcases hj with hj | hj
    ·exact R0.out.no j hj (.inr (.inr (.inl e.symm)))
    ·have := (R0.out.up.lt j e.symm).2; omega)))
   have OQ := Hd (show oq16 = ρ.q ∨ ∃ b, oq16 = some b ∧ v8.heap.size ≤ b from by
    rcases hoq16 with e | ⟨b, e, hb⟩
    ·exact .inl e
    ·exact .inr ⟨b, e, Nat.le_trans ZL10.out hb⟩)
   have ZL16 := Hd (show v8.heap.size ≤ v16.heap.size from Nat.le_trans ZL10.out hg16.size)
   clear hr16 hg16 hoq16 ZL10
   clear Kv10 Yv10 Lv10 c0v10 c1v10 f0v10 f1v10
   have c0v16 := Kv16.out.c0 R0.out
   have c1v16 := Kv16.out.c1 R0.out
   have f0v16 := Kv16.out.fr R0.out 0
   have f1v16 := Kv16.out.fr R0.out 1
   rw [firstN_len] at c0v16
   rw [firstN_ul] at c1v16
   go_wp2_with fail
   refine qN _ _ _ _ (hK _ _ ?_ ?_) <;> clear hK K
   ·repeat first | exact aN | refine aO rfl rfl ?_ | refine aI rfl (by go_simp <;> rfl) ?_
   repeat ((first | refine sP rfl fun K hK => ?_ | refine sS rfl fun K hK => ?_); go_simp; refine hK _ ?_; clear hK K)
   refine sW rfl rfl (fun K hK => ?_) sT
   repeat (first | go_values | go_skip | go_guarded | go_step | go_upon)
   refine qN _ _ _ _ (hK _ _ ?_ ?_) <;> clear hK K
   ·repeat first | exact aN | refine aO rfl rfl ?_ | refine aI rfl (by go_simp <;> rfl) ?_
   repeat ((first | refine sP rfl fun K hK => ?_ | refine sS rfl fun K hK => ?_); go_simp; refine hK _ ?_; clear hK K)
   refine sW rfl rfl (fun K hK => ?_) sT
   repeat (first | go_values | go_skip | go_guarded | go_step | go_upon)
   refine qN _ _ _ _ (hK _ _ ?_ ?_) <;> clear hK K
   ·repeat first | exact aN | refine aO rfl rfl ?_ | refine aI rfl (by go_simp <;> rfl) ?_
   refine sN ?_
   have HP := Hd (Kv16.out.grow R0.out Lv16.out (by rw [firstN_ul]; exact Uv16.out) (by rcases OB.out with e | ⟨b, e, hb⟩; exact .inl e; exact .inr ⟨b, e, Nat.le_trans SZ8.out hb⟩) (by rcases OQ.out with e | ⟨b, e, hb⟩; exact .inl e; exact .inr ⟨b, e, Nat.le_trans SZ8.out hb⟩) (fun j hj => .inl hj) (fun j hj => ⟨by rcases hj with hj | hj; exact .inl hj; exact .inr hj.1, by
    rcases hj with hj | hj
    ·have h1 := R0.out.okl j hj; have h2 := Kv16.out.sz; omega
    ·have h1 := hj.2; have h2 := ZL16.out; omega, fun e => by
    rcases OB.out with q | ⟨b, q, hb⟩
    ·rw [q] at e
     rcases hj with hj | hj
     ·exact R0.out.no j hj (.inr (.inl e))
     ·have := (R0.out.ltp j e).2; omega
    ·rw [q] at e; injection e with e
     rcases hj with hj | hj
     ·have := R0.out.okl j hj; have := SZ8.out; omega
     ·omega, fun e => by
    rcases OQ.out with q | ⟨b, q, hb⟩
    ·rw [q] at e
     rcases hj with hj | hj
     ·exact R0.out.no j hj (.inr (.inr (.inl e)))
     ·have := (R0.out.up.lt j e).2; omega
    ·rw [q] at e; injection e with e
     rcases hj with hj | hj
     ·have := R0.out.okl j hj; have := SZ8.out; omega
     ·omega⟩))
   rw [firstN_len, firstN_ul] at HP
   clear Kv16 Lv16 Uv16 OB OQ SZ8 ZL16 c0v16 c1v16 f0v16 f1v16
   go_wp2_with fail
   go_roundw
   case rel =>
    exact ⟨i + 1, by omega, by go_num, Hd (by rw [firstN_succ]; exact ⟨_, _, HP.out.1, fun x hx => by
     rcases hx with hx | hx
     ·exact HOK.out x hx
     ·have := HS.out; omega⟩), Hd HP.out.2⟩
   case measure => simp [intOf]; omega
end Go.Proofs.Ytnkmljdkokcdjaa
namespace Go.Proofs.Ytnkmljdkokcdjaa
open Go.RowKit Fed Go.RT
attribute [local go_sem high] Fed.max2_int Fed.min2_int Fed.MA Fed.ZN Fed.ZM Fed.NA
theorem texts_same (w : World) (ok1 ok2 : Nat → Prop) (A1 A2 : Option Addr) (c1 c2 : Nat) (l : List ByteArray) (h1 : MM.Rd w ok1 1 (.slice A1 l.length c1) l.length (textsC l)) (h2 : MM.Rd w ok2 1 (.slice A2 l.length c2) l.length (textsC l)) :
  Calls Try.prog 42 #[.slice A1 l.length c1, .slice A2 l.length c2] w fun e w' => e = .returned (.bool true) ∧ Below w.heap.size w w' := by
 have H1 := Hd h1
 have H2 := Hd h2
 have hlm : l.length ≤ maxLen := by obtain ⟨_, _, _, _, q1, q2, _⟩ := h1; omega
 unfold maxLen at hlm
 have HB := Hd (Below.refl w.heap.size w)
 clear h1 h2
 go_enter Try.func42, Try.ntmps42
 have hbq : ((l.length : Int) != (l.length : Int)) = false := by simp
 go_wp2_with fail
 go_loopw [5] (fun t5 wr => ∃ i : Nat, i ≤ l.length ∧ t5 = .int .i64 i ∧ Hid (Below w.heap.size w wr)) (fun t5 _ => l.length - (intOf t5).toNat)
 case atStart => exact ⟨0, by omega, rfl, HB⟩
 case round =>
  clear HB
  obtain ⟨i, hi, rfl, HB⟩ := hrel
  by_cases hlt : i < l.length
  ·have hlb : decide ((i : Int) < (l.length : Int)) = true := decide_eq_true (by omega)
   obtain ⟨x, hx⟩ : ∃ x, l[i]? = some x := ⟨_, List.getElem?_eq_getElem hlt⟩
   have hxc : (textsC l)[i]? = some (.string x) := by unfold textsC; rw [List.getElem?_map, hx]; rfl
   obtain ⟨_, A1', c1', ea, _, _, r1⟩ := H1.out.mono (ok' := fun _ => True) (fun _ _ _ => trivial) |>.below (w1 := wr) HB.out
   injection ea with ea1 _ ea2
   subst ea1 ea2
   obtain ⟨b1, o1, rfl, _, _, g1⟩ := r1 (by omega)
   obtain ⟨_, A2', c2', ea, _, _, r2⟩ := H2.out.mono (ok' := fun _ => True) (fun _ _ _ => trivial) |>.below (w1 := wr) HB.out
   injection ea with ea1 _ ea2
   subst ea1 ea2
   obtain ⟨b2, o2, rfl, _, _, g2⟩ := r2 (by omega)
   have x1 : wr.cell? ⟨b1, o1 + i, none⟩ = some (.string x) := g1 _ _ hxc
   have y1 : wr.cell? ⟨b2, o2 + i, none⟩ = some (.string x) := g2 _ _ hxc
   clear g1 g2 r1 r2 hx hxc
   go_wp2_with fail
   refine wT (.p 0 (.p 1 (.p 2 (.s 3 (.p 4 (.p 5 (.p 6 (.s 7 (.p 8 .nil))))))))) (by kernel_rfl) (by kernel_rfl) ?_
   repeat ((first | refine sP rfl fun K hK => ?_ | refine sS rfl fun K hK => ?_); go_simp; refine hK _ ?_; clear hK K)
   refine sN ?_
   go_wp2_with fail
   go_roundw
   case rel => exact ⟨i + 1, by omega, by go_num, Hd HB.out.drew⟩
   case measure => simp [intOf]; omega
  ·have hlb : decide ((i : Int) < (l.length : Int)) = false := decide_eq_false (by omega)
   go_wp2_with fail
   go_ret
   exact ⟨rfl, HB.out⟩
end Go.Proofs.Ytnkmljdkokcdjaa
