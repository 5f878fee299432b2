/-
The group's Leader answers as the plain function; New lays a group.
The document's Leader answers as the plain function. Condition: the document's group lies there.
The group's Node answers as the plain function. Condition: the group may be walked.
-/
import Derived.WalkKit
import Derived.WalkSpells
import Derived.Lib.Hide
import Derived.Outline
import Derived.Test.YtnkmljdkokcdjaaChecked
import Derived.Test.YtnkmljdkokcdjaaB0
import Derived.Test.YtnkmljdkokcdjaaB1
import Derived.Test.YtnkmljdkokcdjaaB25
import Derived.Deep.DeepCutAuto
import Derived.Deep.CutBlock
import Derived.Deep.OwnRows
import Derived.IntWalk
import Derived.Test.YtnkmljdkokcdjaaB14
import Derived.Test.YtnkmljdkokcdjaaB2
set_option maxRecDepth 100000
set_option maxHeartbeats 40000000
set_option linter.unusedVariables false
set_option linter.unusedSimpArgs false
namespace Go.Proofs.Ytnkmljdkokcdjaa
open Go.RowKit Fed Go.RT
attribute [local go_sem high] Fed.max2_int Fed.min2_int Fed.MA Fed.ZN Fed.ZM Fed.NA
theorem leadTo_cases (s : GS) : ∀ i : Nat, s.leadTo i = -1 ∨ ∃ a : Nat, a < i ∧ s.leadTo i = a
 | 0 => .inl rfl
 | i + 1 => by
  unfold GS.leadTo
  split
  ·exact .inr ⟨i, by omega, rfl⟩
  ·rcases leadTo_cases s i with h | ⟨a, h1, h2⟩
   ·exact .inl h
   ·exact .inr ⟨a, by omega, h2⟩
theorem leadTo_yes {s : GS} {i : Nat} (h : (s.us.getD i false && decide ((s.ns.getD i Fed.blank).role = 2) && (decide (s.leadTo i < 0) || decide ((s.ns.getD (s.leadTo i).toNat Fed.blank).term < (s.ns.getD i Fed.blank).term))) = true) : s.leadTo (i + 1) = (i : Int) := by
 show (if _ = true then _ else _) = _
 rw [if_pos h]
theorem leadTo_no {s : GS} {i : Nat} (h : (s.us.getD i false && decide ((s.ns.getD i Fed.blank).role = 2) && (decide (s.leadTo i < 0) || decide ((s.ns.getD (s.leadTo i).toNat Fed.blank).term < (s.ns.getD i Fed.blank).term))) = false) : s.leadTo (i + 1) = s.leadTo i := by
 show (if _ = true then _ else _) = _
 rw [if_neg (by rw [h]; simp)]
theorem gLeader_any (w : World) (B g : Nat) (s : GS) (μ : GM) (ok : Nat → Prop) (h : GroupAt w B g s μ ok) (hl : s.ns.length ≤ 1000) (h0 : 0 < s.ns.length) :
  Calls Try.prog 39 #[.pointer (some ⟨g, 0, none⟩)] w fun e w' => e = .returned (.int .i64 s.leader) ∧ Below w.heap.size w w' := by
 have c0 := h.c0
 obtain ⟨pb, hp, ea, _, _, _, _⟩ := h.place h0
 rw [ea] at c0
 have HP := Hd hp
 have HA := Hd ea
 clear hp ea
 have H := Hd h
 have HB := Hd (Below.refl w.heap.size w)
 have HS := Hd (show s.leader = s.leadTo s.ns.length from rfl)
 clear h
 go_enter Try.func39, Try.ntmps39
 go_wp2_with fail
 go_loopw [3, 11] (fun t3 t11 wr => ∃ i : Nat, i ≤ s.ns.length ∧ t3 = .int .i64 (s.leadTo i) ∧ t11 = .int .i64 i ∧ Hid (GroupAt wr B g s μ ok) ∧ Hid (Below w.heap.size w wr)) (fun _ t11 _ => s.ns.length - (intOf t11).toNat)
 case atStart => exact ⟨0, by omega, rfl, rfl, H, HB⟩
 case round =>
  clear H HB c0
  obtain ⟨i, hi, rfl, rfl, H, HB⟩ := hrel
  by_cases hlt : i < s.ns.length
  case neg =>
   have hb : decide ((i : Int) < (s.ns.length : Int)) = false := decide_eq_false (by omega)
   obtain rfl : i = s.ns.length := by omega
   go_wp2_with fail
   go_ret
   exact ⟨by rw [HS.out]; rfl, HB.out⟩
  case pos =>
   have hb : decide ((i : Int) < (s.ns.length : Int)) = true := decide_eq_true (by omega)
   obtain ⟨pb', hp, ea, hc1, hc2, hf, σ, v, hc⟩ := H.out.place hlt
   rw [HP.out] at hp
   injection hp with hp
   subst hp
   obtain ⟨u, hu⟩ : ∃ u, u = s.us.getD i false := ⟨_, rfl⟩
   rw [← hu] at hc
   have HU := Hd hu
   obtain ⟨nd, hnd⟩ : ∃ nd, nd = s.ns.getD i Fed.blank := ⟨_, rfl⟩
   have hnd' : s.node (i : Int) = nd := by rw [hnd]; unfold GS.node; rw [Int.toNat_natCast]
   rw [hnd'] at hc
   have HND := Hd hnd
   have x0 : wr.cell? ⟨pb, i * 14, none⟩ = some (.int .i64 nd.id) := hc 0 _ rfl
   have x1 : wr.cell? ⟨pb, i * 14 + 1, none⟩ = some (.int .i64 nd.term) := hc 1 _ rfl
   have x2 : wr.cell? ⟨pb, i * 14 + 2, none⟩ = some (.int .i64 nd.vote) := hc 2 _ rfl
   have x3 : wr.cell? ⟨pb, i * 14 + 3, none⟩ = some (.slice σ.A3 nd.log.length σ.k3) := hc 3 _ rfl
   have x4 : wr.cell? ⟨pb, i * 14 + 4, none⟩ = some (.int .i64 nd.form) := hc 4 _ rfl
   have x5 : wr.cell? ⟨pb, i * 14 + 5, none⟩ = some (.int .i64 nd.role) := hc 5 _ rfl
   have x6 : wr.cell? ⟨pb, i * 14 + 6, none⟩ = some (.int .i64 nd.commit) := hc 6 _ rfl
   have x7 : wr.cell? ⟨pb, i * 14 + 7, none⟩ = some (.slice σ.A7 nd.votes.length σ.k7) := hc 7 _ rfl
   have x8 : wr.cell? ⟨pb, i * 14 + 8, none⟩ = some (.slice σ.A8 nd.nxt.length σ.k8) := hc 8 _ rfl
   have x9 : wr.cell? ⟨pb, i * 14 + 9, none⟩ = some (.slice σ.A9 nd.mtch.length σ.k9) := hc 9 _ rfl
   have x10 : wr.cell? ⟨pb, i * 14 + 10, none⟩ = some (.slice σ.A10 nd.forms.length σ.k10) := hc 10 _ rfl
   have x11 : wr.cell? ⟨pb, i * 14 + 11, none⟩ = some (.int .i64 nd.clock) := hc 11 _ rfl
   have x12 : wr.cell? ⟨pb, i * 14 + 12, none⟩ = some (.int .i64 nd.due) := hc 12 _ rfl
   have x13 : wr.cell? ⟨pb, i * 14 + 13, none⟩ = some (.bool u) := hc 13 _ rfl
   clear hc hf v hu hnd hnd' ea
   go_upto_region 5 with (fail)
   refine name_world (F := fun W => Hid (W.heap[wr.heap.size]? = some (.cells #[.int .i64 nd.id, .int .i64 nd.term, .int .i64 nd.vote, .slice σ.A3 nd.log.length σ.k3, .int .i64 nd.form, .int .i64 nd.role, .int .i64 nd.commit, .slice σ.A7 nd.votes.length σ.k7, .slice σ.A8 nd.nxt.length σ.k8, .slice σ.A9 nd.mtch.length σ.k9, .slice σ.A10 nd.forms.length σ.k10, .int .i64 nd.clock, .int .i64 nd.due, .bool u] 96 (0, 0))) ∧ Hid (GroupAt W B g s μ ok) ∧ Hid (Below w.heap.size w W)) _ (by exact ⟨Hd (MM.alloc_new _ _), Hd (H.out.alloc _), Hd (HB.out.alloc HB.out.size _)⟩) ?_
   clear H HB
   intro w2 ⟨R2, G2, HB2⟩
   have d1 : w2.cell? ⟨wr.heap.size, 1, none⟩ = some (.int .i64 nd.term) := MM.cell_blk R2.out rfl
   have d5 : w2.cell? ⟨wr.heap.size, 5, none⟩ = some (.int .i64 nd.role) := MM.cell_blk R2.out rfl
   have d13 : w2.cell? ⟨wr.heap.size, 13, none⟩ = some (.bool u) := MM.cell_blk R2.out rfl
   have c0 := G2.out.c0
   rw [HA.out] at c0
   have hg := G2.out.lt
   cases u
   ·have LN := Hd (leadTo_no (s := s) (i := i) (by rw [← HU.out, ← HND.out]; rfl))
    clear HND
    refine wT (.p 0 (.s 1 (.p 2 (.p 3 (.p 4 (.s 5 (.p 6 (.p 7 (.p 8 (.p 9 (.p 10 (.p 11 (.p 12 (.p 13 (.s 14 (.p 15 (.p 16 (.p 17 (.s 18 (.p 19 (.p 20 (.p 21 (.p 22 (.s 23 (.p 24 (.p 25 (.p 26 .nil))))))))))))))))))))))))))) (by kernel_rfl) (by kernel_rfl) ?_
    repeat ((first | refine sP rfl fun K hK => ?_ | refine sS rfl fun K hK => ?_); go_simp; refine hK _ ?_; clear hK K)
    refine sN ?_
    go_wp2_with fail
    have G3 := Hd (G2.out.step (w1 := w2.drew) (fun _ _ => rfl) (Nat.le_refl _))
    have HB3 := Hd HB2.out.drew
    go_roundw
    case rel =>
     first | exact ⟨i + 1, by omega, by rw [LN.out], by go_num, G3, HB3⟩ | ((repeat apply Exists.intro); refine ⟨?_, rfl⟩; exact ⟨i + 1, by omega, by rw [LN.out], by go_num, G3, HB3⟩)
    case measure => simp [intOf]; omega
   ·by_cases hr : nd.role = 2
    ·have hrb : (nd.role == 2) = true := by rw [hr]; rfl
     rcases leadTo_cases s i with hm | ⟨a, ha, hm⟩
     ·have HL := Hd hm
      rw [hm]
      have HR := Hd hr
      clear hm hr
      have LN := Hd (leadTo_yes (s := s) (i := i) (by rw [← HU.out, ← HND.out]; rw [HL.out, decide_eq_true HR.out]; rfl))
      clear HND
      refine wT (.p 0 (.s 1 (.p 2 (.p 3 (.p 4 (.s 5 (.p 6 (.p 7 (.p 8 (.p 9 (.p 10 (.p 11 (.p 12 (.p 13 (.s 14 (.p 15 (.p 16 (.p 17 (.s 18 (.p 19 (.p 20 (.p 21 (.p 22 (.s 23 (.p 24 (.p 25 (.p 26 .nil))))))))))))))))))))))))))) (by kernel_rfl) (by kernel_rfl) ?_
      repeat ((first | refine sP rfl fun K hK => ?_ | refine sS rfl fun K hK => ?_); go_simp; refine hK _ ?_; clear hK K)
      refine sN ?_
      go_wp2_with fail
      have G3 := Hd (G2.out.step (w1 := w2.drew) (fun _ _ => rfl) (Nat.le_refl _))
      have HB3 := Hd HB2.out.drew
      go_roundw
      case rel =>
       first | exact ⟨i + 1, by omega, by rw [LN.out], by go_num, G3, HB3⟩ | ((repeat apply Exists.intro); refine ⟨?_, rfl⟩; exact ⟨i + 1, by omega, by rw [LN.out], by go_num, G3, HB3⟩)
      case measure => simp [intOf]; omega
     ·have HL := Hd hm
      rw [hm]
      have HR := Hd hr
      clear hm hr
      obtain ⟨pa, hpa, _, _, _, _, ρ, _, hca⟩ := G2.out.place (i := a) (by omega)
      rw [HP.out] at hpa
      injection hpa with hpa
      subst hpa
      obtain ⟨na, hna⟩ : ∃ na, na = s.ns.getD a Fed.blank := ⟨_, rfl⟩
      have hna' : s.node (a : Int) = na := by rw [hna]; unfold GS.node; rw [Int.toNat_natCast]
      rw [hna'] at hca
      have HNA := Hd hna
      have e1 : w2.cell? ⟨pb, a * 14 + 1, none⟩ = some (.int .i64 na.term) := hca 1 _ rfl
      have hal : a < s.ns.length := by omega
      have hab : decide ((a : Int) < 0) = false := decide_eq_false (by omega)
      have hpl : pb < w2.heap.size := (G2.out.ltp pb HP.out).2
      clear hna hna' hca
      by_cases ht : na.term < nd.term
      ·have htb : decide (na.term < nd.term) = true := decide_eq_true ht
       have HT := Hd ht
       clear ht
       have LN := Hd (leadTo_yes (s := s) (i := i) (by rw [← HU.out, ← HND.out]; rw [HL.out, decide_eq_true HR.out, Int.toNat_natCast, ← HNA.out, decide_eq_true HT.out]; simp))
       clear HND HNA
       refine wT (.p 0 (.s 1 (.p 2 (.p 3 (.p 4 (.s 5 (.p 6 (.p 7 (.p 8 (.p 9 (.p 10 (.p 11 (.p 12 (.p 13 (.s 14 (.p 15 (.p 16 (.p 17 (.s 18 (.p 19 (.p 20 (.p 21 (.p 22 (.s 23 (.p 24 (.p 25 (.p 26 .nil))))))))))))))))))))))))))) (by kernel_rfl) (by kernel_rfl) ?_
       repeat ((first | refine sP rfl fun K hK => ?_ | refine sS rfl fun K hK => ?_); go_simp; refine hK _ ?_; clear hK K)
       refine sN ?_
       go_wp2_with fail
       have G3 := Hd (G2.out.step (w1 := w2.drew) (fun _ _ => rfl) (Nat.le_refl _))
       have HB3 := Hd HB2.out.drew
       go_roundw
       case rel =>
        first | exact ⟨i + 1, by omega, by rw [LN.out], by go_num, G3, HB3⟩ | ((repeat apply Exists.intro); refine ⟨?_, rfl⟩; exact ⟨i + 1, by omega, by rw [LN.out], by go_num, G3, HB3⟩)
       case measure => simp [intOf]; omega
      ·have htb : decide (na.term < nd.term) = false := decide_eq_false ht
       have HT := Hd ht
       clear ht
       have LN := Hd (leadTo_no (s := s) (i := i) (by rw [← HU.out, ← HND.out]; rw [HL.out, decide_eq_true HR.out, Int.toNat_natCast, ← HNA.out, decide_eq_false HT.out, decide_eq_false (by omega)]; rfl))
       clear HND HNA
       refine wT (.p 0 (.s 1 (.p 2 (.p 3 (.p 4 (.s 5 (.p 6 (.p 7 (.p 8 (.p 9 (.p 10 (.p 11 (.p 12 (.p 13 (.s 14 (.p 15 (.p 16 (.p 17 (.s 18 (.p 19 (.p 20 (.p 21 (.p 22 (.s 23 (.p 24 (.p 25 (.p 26 .nil))))))))))))))))))))))))))) (by kernel_rfl) (by kernel_rfl) ?_
       repeat ((first | refine sP rfl fun K hK => ?_ | refine sS rfl fun K hK => ?_); go_simp; refine hK _ ?_; clear hK K)
       refine sN ?_
       go_wp2_with fail
       have G3 := Hd (G2.out.step (w1 := w2.drew) (fun _ _ => rfl) (Nat.le_refl _))
       have HB3 := Hd HB2.out.drew
       go_roundw
       case rel =>
        first | exact ⟨i + 1, by omega, by rw [LN.out]; rw [HL.out], by go_num, G3, HB3⟩ | ((repeat apply Exists.intro); refine ⟨?_, rfl⟩; exact ⟨i + 1, by omega, by rw [LN.out]; rw [HL.out], by go_num, G3, HB3⟩)
       case measure => simp [intOf]; omega
    ·have hrb : (nd.role == 2) = false := by simpa using hr
     have HR := Hd hr
     clear hr
     have LN := Hd (leadTo_no (s := s) (i := i) (by rw [← HU.out, ← HND.out]; rw [decide_eq_false HR.out]; rfl))
     clear HND
     refine wT (.p 0 (.s 1 (.p 2 (.p 3 (.p 4 (.s 5 (.p 6 (.p 7 (.p 8 (.p 9 (.p 10 (.p 11 (.p 12 (.p 13 (.s 14 (.p 15 (.p 16 (.p 17 (.s 18 (.p 19 (.p 20 (.p 21 (.p 22 (.s 23 (.p 24 (.p 25 (.p 26 .nil))))))))))))))))))))))))))) (by kernel_rfl) (by kernel_rfl) ?_
     repeat ((first | refine sP rfl fun K hK => ?_ | refine sS rfl fun K hK => ?_); go_simp; refine hK _ ?_; clear hK K)
     refine sN ?_
     go_wp2_with fail
     have G3 := Hd (G2.out.step (w1 := w2.drew) (fun _ _ => rfl) (Nat.le_refl _))
     have HB3 := Hd HB2.out.drew
     go_roundw
     case rel =>
      first | exact ⟨i + 1, by omega, by rw [LN.out], by go_num, G3, HB3⟩ | ((repeat apply Exists.intro); refine ⟨?_, rfl⟩; exact ⟨i + 1, by omega, by rw [LN.out], by go_num, G3, HB3⟩)
     case measure => simp [intOf]; omega
end Go.Proofs.Ytnkmljdkokcdjaa
namespace Go.Proofs.Ytnkmljdkokcdjaa
open Go.RowKit Fed Go.RT
attribute [local go_sem high] Fed.max2_int Fed.min2_int
theorem GroupAt.grow {w w1 : World} {B g : Nat} {s : GS} {μ : GM} {ok : Nat → Prop} (h : GroupAt w B g s μ ok) {cs : List Value} (p1 : MM.Row w B 96 14 (.slice μ.A s.ns.length μ.c) s.ns.length cs μ.p) (p2 : ∀ i n u, s.ns[i]? = some n → s.us[i]? = some u → ∃ σ, NodeVs w ok n σ ∧ ∀ j x, (placeL n σ u)[j]? = some x → cs[i * 14 + j]? = some x)
  {A' : Option Addr} {c' : Nat} {ob' : Option Nat} {n : Fed.Node} {σ : Sl5} {u : Bool} (hn : NodeVs w ok n σ) (hr : MM.Row w1 B 96 14 (.slice A' (s.ns.length + 1) c') (s.ns.length + 1) (cs ++ placeL n σ u) ob') (hg : w.grownBy w1 μ.p) (hob : ob' = μ.p ∨ ∃ b, ob' = some b ∧ w.heap.size ≤ b) :
  GroupAt (w1.setCell ⟨g, 0, none⟩ (.slice A' (s.ns.length + 1) c')) B g ⟨s.ns ++ [n], s.us ++ [u], s.f⟩ { μ with A := A', c := c', p := ob' } ok ∧ GStep w (w1.setCell ⟨g, 0, none⟩ (.slice A' (s.ns.length + 1) c')) B g μ { μ with A := A', c := c', p := ob' } ok ok := by
 have hbl : Below B w w1 := (Below.refl B w).grown hg h.Bsize (fun k hk => (h.ltp k hk).1)
 have kp : ∀ k, k < w.heap.size → μ.p ≠ some k → w1.heap[k]? = w.heap[k]? := fun k hk hne => hg.block k hk (fun e => hne e.symm)
 have hg1 : w1.heap[g]? = w.heap[g]? := kp g h.lt (fun q => ty_ne h.tyg (h.typ g q) (by decide) rfl)
 have far : ∀ k, k ≠ g → (w1.setCell ⟨g, 0, none⟩ (.slice A' (s.ns.length + 1) c')).heap[k]? = w1.heap[k]? := fun k hk => Below.heap_setCell w1 _ _ k hk
 have okg : ∀ k, ok k → k ≠ g := fun k hk e => h.no k hk (.inl e)
 have okk : ∀ k, ok k → (w1.setCell ⟨g, 0, none⟩ (.slice A' (s.ns.length + 1) c')).heap[k]? = w.heap[k]? := fun k hk => (far k (okg k hk)).trans (kp k (h.okl k hk) (fun q => h.no k hk (.inr (.inl q))))
 have hsz : w.heap.size ≤ (w1.setCell ⟨g, 0, none⟩ (.slice A' (s.ns.length + 1) c')).heap.size := by have := hbl.size; simpa [World.setCell] using this
 have hown : ∀ k, GM.owns g { μ with A := A', c := c', p := ob' } k → μ.owns g k ∨ w.heap.size ≤ k := by
  rintro k (q | q | q)
  ·exact .inl (.inl q)
  ·rcases hob with e | ⟨b, e, hb⟩
   ·exact .inl (.inr (.inl (e ▸ q)))
   ·have q' : ob' = some k := q
    rw [e] at q'; injection q' with q'; exact .inr (by omega)
  ·exact .inl (.inr (.inr q))
 have hcl : cs.length = s.ns.length * 14 := p1.len
 refine ⟨⟨h.hB, by rw [List.length_append]; exact (setCell_blk _ (hg1.trans h.blk)).trans rfl, by simp [h.ul], ⟨cs ++ placeL n σ u, ?_, fun i m v hm hv => ?_⟩, h.fl.step (fun k hk => ?_) (fun k hk _ => okk k hk), fun k hk q => ?_, fun k hk => Nat.lt_of_lt_of_le (h.okl k hk) hsz⟩, ⟨hbl.setCell (p := ⟨g, 0, none⟩) h.hB _, fun k hk hn => (far k (fun e => hn (.inl e))).trans (kp k hk (fun q => hn (.inr (.inl q)))), hown, fun k q => .inl q⟩⟩
 ·rw [List.length_append]
  exact hr.far (fun k hk => ty_ne (hr.ty k hk) ⟨_, _, hg1.trans h.blk⟩ (by decide)) _
 ·have hm' : (s.ns ++ [n])[i]? = some m := hm
  have hv' : (s.us ++ [u])[i]? = some v := hv
  by_cases hin : i < s.ns.length
  ·rw [List.getElem?_append_left hin] at hm'
   rw [List.getElem?_append_left (by rw [h.ul]; exact hin)] at hv'
   obtain ⟨τ, q, hc⟩ := p2 i m v hm' hv'
   refine ⟨τ, q.step fun k hk _ => okk k hk, fun j x hx => ?_⟩
   have h9 := hc j x hx
   rw [List.getElem?_append_left (List.getElem?_eq_some_iff.1 h9).1]
   exact h9
  ·have hie : i = s.ns.length := by
    have := (List.getElem?_eq_some_iff.1 hm').1
    simp at this; omega
   subst hie
   rw [List.getElem?_append_right (Nat.le_refl _), Nat.sub_self] at hm'
   rw [List.getElem?_append_right (by rw [h.ul]; exact Nat.le_refl _), h.ul, Nat.sub_self] at hv'
   simp at hm' hv'
   subst hm' hv'
   refine ⟨σ, hn.step fun k hk _ => okk k hk, fun j x hx => ?_⟩
   rw [List.getElem?_append_right (by omega), hcl, show s.ns.length * 14 + j - s.ns.length * 14 = j from by omega]
   exact hx
 ·exact (far k (ty_ne (h.tyf k hk) h.tyg (by decide))).trans (kp k (h.ltf k hk).2 (fun q => ty_ne (h.tyf k hk) (h.typ k q) (by decide) rfl))
 ·rcases hown k q with q | q
  ·exact h.no k hk q
  ·have := h.okl k hk; omega
theorem placeL_one (n : Fed.Node) (σ : Sl5) (u : Bool) : ∀ x ∈ placeL n σ u, x.oneCell' = true := by
 intro x hx
 rcases List.mem_append.1 hx with hx | hx
 ·exact nodeL_one n σ x hx
 ·rw [List.mem_singleton.1 hx]; rfl
def firstN (k i : Nat) : GS := ⟨(List.range i).map fun j : Nat => newN (j : Int) k 1, List.replicate i true, []⟩
theorem firstN_succ (k i : Nat) : firstN k (i + 1) = ⟨(firstN k i).ns ++ [newN (i : Int) k 1], (firstN k i).us ++ [true], []⟩ := by
 unfold firstN
 rw [List.range_succ, List.map_append, List.replicate_succ']
 rfl
theorem firstN_len (k i : Nat) : (firstN k i).ns.length = i := by simp [firstN]
theorem gNew_any (w : World) (k : Nat) (hk1 : 1 ≤ k) (hk : k ≤ 1000) :
  Calls Try.prog 36 #[.int .i64 (k : Int)] w fun e w' => ∃ (g : Nat) (μ : GM) (ok : Nat → Prop), e = .returned (.pointer (some ⟨g, 0, none⟩)) ∧ GroupAt w' w.heap.size g (GS.new k) μ ok ∧ (∀ x, ok x → w.heap.size ≤ x) ∧ Below w.heap.size w w' := by
 obtain ⟨i0, hi0, hz0, hz1, hz2⟩ := info_parts info96
 go_enter Try.func36, Try.ntmps36
 have hmx : mx (k : Int) 0 = (k : Int) := by rw [mx_eq]; omega
 go_upto_region 2 with (fail)
 refine name_world (F := fun W => Hid (∃ (μ : GM) (ok : Nat → Prop), GroupAt W w.heap.size w.heap.size (firstN k 0) μ ok ∧ (∀ x, ok x → w.heap.size ≤ x)) ∧ Hid (Below w.heap.size w W)) _ (by exact ⟨Hd (⟨⟨none, 0, none, 0, none, none⟩, fun _ => False, ⟨Nat.le_refl _, MM.alloc_new _ _, rfl, ⟨[], MM.Row.nil _ _ _ _ _, fun i n u h => by simp [firstN] at h⟩, FlyAt.nil _ _ _ _, fun _ h => h.elim, fun _ h => h.elim⟩, fun _ h => h.elim⟩), Hd ((Below.refl _ w).alloc (Nat.le_refl _) _)⟩) ?_
 intro w1 ⟨G, HB⟩
 go_wp2_with fail
 go_loopw [9] (fun t9 wr => ∃ i : Nat, i ≤ k ∧ t9 = .int .i64 i ∧ Hid (∃ (μ : GM) (ok : Nat → Prop), GroupAt wr w.heap.size w.heap.size (firstN k i) μ ok ∧ ∀ x, ok x → w.heap.size ≤ x) ∧ Hid (Below w.heap.size w wr)) (fun t9 _ => k - (intOf t9).toNat)
 case atStart => exact ⟨0, by omega, rfl, G, HB⟩
 case round =>
  clear G HB
  obtain ⟨i, hi, rfl, G, HB⟩ := hrel
  by_cases hlt : i < k
  case neg =>
   have hb : decide ((i : Int) < (k : Int)) = false := decide_eq_false (by omega)
   obtain rfl : i = k := by omega
   go_wp2_with fail
   go_ret
   obtain ⟨μ, ok, hG, hok⟩ := G.out
   exact ⟨_, μ, ok, rfl, hG, hok, HB.out⟩
  case pos =>
   have hb : decide ((i : Int) < (k : Int)) = true := decide_eq_true (by omega)
   obtain ⟨μ, ok, hG, hok⟩ := G.out
   have c0 := hG.c0
   rw [firstN_len] at c0
   have G1 := Hd hG
   have HOK := Hd hok
   clear hG hok G
   go_upto_region 5 with (fail)
   refine wT (.p 0 (.p 1 (.p 2 (.p 3 (.s 4 (.p 5 (.p 6 (.w 7 [4] (.p 8 (.w 9 [4] (.w 10 [] (.p 11 (.p 12 (.w 13 [] .nil .stop))) .stop) .stop)) .stop)))))))) (by kernel_rfl) (by kernel_rfl) ?_
   repeat ((first | refine sP rfl fun K hK => ?_ | refine sS rfl fun K hK => ?_); go_simp; refine hK _ ?_; clear hK K)
   refine sW rfl rfl (fun K hK => ?_) sT
   go_wp2_with fail
   refine (new_c _ (i : Int) 1 (k : Int) k rfl hk (by omega) (by omega)).mono ?_
   rintro e w3 ⟨σ, rfl, hb3, hn3⟩
   have hb0 : Below wr.heap.size wr w3 := (Below.refl _ wr).drew.trans hb3
   have G3 := Hd (G1.out.newer hb0)
   have N3 := Hd (hn3.mono (ok' := (fun x => ok x ∨ (wr.heap.size ≤ x ∧ x < w3.heap.size))) (fun x hx hl => .inr ⟨hx, hl⟩))
   have HB3 := Hd hb0
   have c03 := G3.out.c0
   rw [firstN_len] at c03
   have hg3 := G3.out.lt
   clear hb3 hn3 hb0
   go_wp2_with fail
   refine qN _ _ _ _ (hK _ _ ?_ ?_) <;> clear hK K
   ·repeat first | exact aN | refine aO rfl rfl ?_ | refine aI rfl (by go_simp <;> rfl) ?_
   repeat ((first | refine sP rfl fun K hK => ?_ | refine sS rfl fun K hK => ?_); go_simp; refine hK _ ?_; clear hK K)
   refine sW rfl rfl (fun K hK => ?_) sT
   go_wp2
   refine qN _ _ _ _ (hK _ _ ?_ ?_) <;> clear hK K
   ·repeat first | exact aN | refine aO rfl rfl ?_ | refine aI rfl (by go_simp <;> rfl) ?_
   refine sW rfl rfl (fun K hK => ?_) sT
   have G4 := Hd (G3.out.alloc (.cells #[.int .i64 (newN (i : Int) k 1).id, .int .i64 (newN (i : Int) k 1).term, .int .i64 (newN (i : Int) k 1).vote, .slice σ.A3 (newN (i : Int) k 1).log.length σ.k3, .int .i64 (newN (i : Int) k 1).form, .int .i64 (newN (i : Int) k 1).role, .int .i64 (newN (i : Int) k 1).commit, .slice σ.A7 (newN (i : Int) k 1).votes.length σ.k7, .slice σ.A8 (newN (i : Int) k 1).nxt.length σ.k8, .slice σ.A9 (newN (i : Int) k 1).mtch.length σ.k9, .slice σ.A10 (newN (i : Int) k 1).forms.length σ.k10, .int .i64 (newN (i : Int) k 1).clock, .int .i64 (newN (i : Int) k 1).due, .bool true] 96 (0, 0)))
   have N4 := Hd (N3.out.step (w1 := w3.alloc (.cells #[.int .i64 (newN (i : Int) k 1).id, .int .i64 (newN (i : Int) k 1).term, .int .i64 (newN (i : Int) k 1).vote, .slice σ.A3 (newN (i : Int) k 1).log.length σ.k3, .int .i64 (newN (i : Int) k 1).form, .int .i64 (newN (i : Int) k 1).role, .int .i64 (newN (i : Int) k 1).commit, .slice σ.A7 (newN (i : Int) k 1).votes.length σ.k7, .slice σ.A8 (newN (i : Int) k 1).nxt.length σ.k8, .slice σ.A9 (newN (i : Int) k 1).mtch.length σ.k9, .slice σ.A10 (newN (i : Int) k 1).forms.length σ.k10, .int .i64 (newN (i : Int) k 1).clock, .int .i64 (newN (i : Int) k 1).due, .bool true] 96 (0, 0))) (fun x _ hl => Below.heap_alloc _ _ x hl))
   obtain ⟨cs, p1, p2⟩ := G4.out.pl
   have p1' := p1
   rw [firstN_len] at p1'
   have P1 := Hd p1
   have P2 := Hd p2
   clear p1 p2
   refine MM.wpList_append_row _ rfl (.tmp 16) (.tmp 21) 90 rfl w.heap.size 96 i0 _ 14 192 Try.underlying90 hi0 hz0 hz1 hz2 rfl (by decide) (.slice μ.A i μ.c) i cs μ.p rfl p1' (fun _ => True) _ 1 (placeL (newN (i : Int) k 1) σ true) rfl (MM.Rd.lit (MM.alloc_new _ _) trivial rfl (Nat.le_refl _) (by simp [maxLen]) rfl) (placeL_one _ _ _) (by simp only [maxLen]; omega) (by omega) G4.out.Bsize ?_
   intro v' w5 ob' hr hg hob
   obtain ⟨A', c', rfl, _, _⟩ := hr.slice
   have HP := Hd (G4.out.grow P1.out P2.out N4.out (by rw [firstN_len]; exact hr) hg hob)
   have hk5 := hg.block w.heap.size G4.out.lt (fun q => ty_ne G4.out.tyg (G4.out.typ _ q.symm) (by decide) rfl)
   have c5 := (World.cell?_of_block (a := ⟨w.heap.size, 0, none⟩) hk5).trans G4.out.c0
   rw [firstN_len] at c5
   have g5 := (World.frozen?_of_block (a := ⟨w.heap.size, 0, none⟩) hk5).trans (G4.out.fr 0)
   clear p1' hr hg hob hk5
   go_wp2_with fail
   refine qN _ _ _ _ (hK _ _ ?_ ?_) <;> clear hK K
   ·repeat first | exact aN | refine aO rfl rfl ?_ | refine aI rfl (by go_simp <;> rfl) ?_
   repeat ((first | refine sP rfl fun K hK => ?_ | refine sS rfl fun K hK => ?_); go_simp; refine hK _ ?_; clear hK K)
   refine sW rfl rfl (fun K hK => ?_) sT
   go_wp2
   refine qN _ _ _ _ (hK _ _ ?_ ?_) <;> clear hK K
   ·repeat first | exact aN | refine aO rfl rfl ?_ | refine aI rfl (by go_simp <;> rfl) ?_
   refine sN ?_
   have h9 := HP.out
   rw [firstN_len] at h9
   have G6 := Hd h9.1
   have S6 := Hd h9.2
   clear h9 HP c5 g5
   go_wp2_with fail
   go_roundw
   case rel =>
    exact ⟨i + 1, by omega, by go_num, Hd (by rw [firstN_succ]; exact ⟨_, _, G6.out, fun x hx => by
     rcases hx with hx | hx
     ·exact HOK.out x hx
     ·have := HB.out.size; omega⟩), Hd ((HB.out.trans (HB3.out.mono HB.out.size)).trans (((Below.refl _ w3).alloc (Nat.le_trans HB.out.size HB3.out.size) _).trans S6.out.below))⟩
   case measure => simp [intOf]; omega
end Go.Proofs.Ytnkmljdkokcdjaa
namespace Go.Proofs.Ytnkmljdkokcdjaa
open Go.RowKit Fed Go.RT
attribute [local go_sem high] Fed.max2_int Fed.min2_int Fed.MA Fed.ZN Fed.ZM Fed.NA
theorem rLeader_any (w : World) (B x : Nat) (s : GS) (ρ : RM) (ok : Nat → Prop) (h : RefAt w B x s ρ ok) (hl : s.ns.length ≤ 1000) (h0 : 0 < s.ns.length) :
  Calls Try.prog 89 #[.pointer (some ⟨x, 0, none⟩)] w fun e w' => e = .returned (.int .i64 s.leader) ∧ Below w.heap.size w w' := by
 obtain ⟨pb, hp, ea, _, _, _, _⟩ := h.place h0
 have HP := Hd hp
 have HA := Hd ea
 clear hp ea
 have H := Hd h
 have HB := Hd (Below.refl w.heap.size w)
 have HS := Hd (show s.leader = s.leadTo s.ns.length from rfl)
 clear h
 go_enter Try.func89, Try.ntmps89
 go_wp2_with fail
 go_loopw [3, 4] (fun t3 t4 wr => ∃ i : Nat, i ≤ s.ns.length ∧ t3 = .int .i64 (s.leadTo i) ∧ t4 = .int .i64 i ∧ Hid (RefAt wr B x s ρ ok) ∧ Hid (Below w.heap.size w wr)) (fun _ t4 _ => s.ns.length - (intOf t4).toNat)
 case atStart => exact ⟨0, by omega, rfl, rfl, H, HB⟩
 case round =>
  clear H HB
  obtain ⟨i, hi, rfl, rfl, H, HB⟩ := hrel
  have c0 := H.out.c0
  rw [HA.out] at c0
  by_cases hlt : i < s.ns.length
  case neg =>
   have hb : decide ((i : Int) < (s.ns.length : Int)) = false := decide_eq_false (by omega)
   obtain rfl : i = s.ns.length := by omega
   go_wp2_with fail
   go_ret
   exact ⟨by rw [HS.out]; rfl, HB.out⟩
  case pos =>
   have hb : decide ((i : Int) < (s.ns.length : Int)) = true := decide_eq_true (by omega)
   obtain ⟨pb', hp, ea, hc1, hc2, hf, σ, v, hc⟩ := H.out.place hlt
   rw [HP.out] at hp
   injection hp with hp
   subst hp
   obtain ⟨qb, hqb, eu, he1, he2, _, hq⟩ := H.out.upc hlt
   have c1 := H.out.c1
   rw [eu, H.out.ul] at c1
   obtain ⟨u, hu⟩ : ∃ u, u = s.us.getD i false := ⟨_, rfl⟩
   rw [← hu] at hq
   have HU := Hd hu
   obtain ⟨nd, hnd⟩ : ∃ nd, nd = s.ns.getD i Fed.blank := ⟨_, rfl⟩
   have hnd' : s.node (i : Int) = nd := by rw [hnd]; unfold GS.node; rw [Int.toNat_natCast]
   rw [hnd'] at hc
   have HND := Hd hnd
   have x1 : wr.cell? ⟨pb, i * 13 + 1, none⟩ = some (.int .i64 nd.term) := hc 1 _ rfl
   have x5 : wr.cell? ⟨pb, i * 13 + 5, none⟩ = some (.int .i64 nd.role) := hc 5 _ rfl
   clear hc hf v hu hnd hnd' ea eu hqb
   go_upto_region 5 with (fail)
   cases u
   ·have LN := Hd (leadTo_no (s := s) (i := i) (by rw [← HU.out, ← HND.out]; rfl))
    clear HND
    refine wT (.p 0 (.p 1 (.p 2 (.s 3 (.p 4 (.p 5 (.s 6 (.p 7 (.p 8 (.p 9 (.p 10 (.s 11 (.p 12 (.p 13 (.p 14 (.s 15 (.p 16 (.p 17 (.p 18 (.p 19 (.p 20 (.p 21 (.p 22 (.p 23 (.p 24 (.s 25 (.p 26 (.p 27 (.p 28 (.s 29 (.p 30 (.p 31 (.p 32 (.s 33 (.p 34 (.p 35 (.p 36 (.s 37 (.p 38 (.p 39 (.p 40 .nil))))))))))))))))))))))))))))))))))))))))) (by kernel_rfl) (by kernel_rfl) ?_
    repeat ((first | refine sP rfl fun K hK => ?_ | refine sS rfl fun K hK => ?_); go_simp; refine hK _ ?_; clear hK K)
    refine sN ?_
    go_wp2_with fail
    have G3 := Hd (H.out.drew)
    have HB3 := Hd HB.out.drew
    go_roundw
    case rel =>
     first | exact ⟨i + 1, by omega, by rw [LN.out], by go_num, G3, HB3⟩ | ((repeat apply Exists.intro); refine ⟨?_, rfl⟩; exact ⟨i + 1, by omega, by rw [LN.out], by go_num, G3, HB3⟩)
    case measure => simp [intOf]; omega
   ·by_cases hr : nd.role = 2
    ·have hrb : (nd.role == 2) = true := by rw [hr]; rfl
     rcases leadTo_cases s i with hm | ⟨a, ha, hm⟩
     ·have HL := Hd hm
      rw [hm]
      have HR := Hd hr
      clear hm hr
      have LN := Hd (leadTo_yes (s := s) (i := i) (by rw [← HU.out, ← HND.out]; rw [HL.out, decide_eq_true HR.out]; rfl))
      clear HND
      refine wT (.p 0 (.p 1 (.p 2 (.s 3 (.p 4 (.p 5 (.s 6 (.p 7 (.p 8 (.p 9 (.p 10 (.s 11 (.p 12 (.p 13 (.p 14 (.s 15 (.p 16 (.p 17 (.p 18 (.p 19 (.p 20 (.p 21 (.p 22 (.p 23 (.p 24 (.s 25 (.p 26 (.p 27 (.p 28 (.s 29 (.p 30 (.p 31 (.p 32 (.s 33 (.p 34 (.p 35 (.p 36 (.s 37 (.p 38 (.p 39 (.p 40 .nil))))))))))))))))))))))))))))))))))))))))) (by kernel_rfl) (by kernel_rfl) ?_
      repeat ((first | refine sP rfl fun K hK => ?_ | refine sS rfl fun K hK => ?_); go_simp; refine hK _ ?_; clear hK K)
      refine sN ?_
      go_wp2_with fail
      have G3 := Hd (H.out.drew)
      have HB3 := Hd HB.out.drew
      go_roundw
      case rel =>
       first | exact ⟨i + 1, by omega, by rw [LN.out], by go_num, G3, HB3⟩ | ((repeat apply Exists.intro); refine ⟨?_, rfl⟩; exact ⟨i + 1, by omega, by rw [LN.out], by go_num, G3, HB3⟩)
      case measure => simp [intOf]; omega
     ·have HL := Hd hm
      rw [hm]
      have HR := Hd hr
      clear hm hr
      obtain ⟨pa, hpa, _, _, _, _, τa, _, hca⟩ := H.out.place (i := a) (by omega)
      rw [HP.out] at hpa
      injection hpa with hpa
      subst hpa
      obtain ⟨na, hna⟩ : ∃ na, na = s.ns.getD a Fed.blank := ⟨_, rfl⟩
      have hna' : s.node (a : Int) = na := by rw [hna]; unfold GS.node; rw [Int.toNat_natCast]
      rw [hna'] at hca
      have HNA := Hd hna
      have e1 : wr.cell? ⟨pb, a * 13 + 1, none⟩ = some (.int .i64 na.term) := hca 1 _ rfl
      have hal : a < s.ns.length := by omega
      have hab : decide ((a : Int) < 0) = false := decide_eq_false (by omega)
      clear hna hna' hca
      by_cases ht : na.term < nd.term
      ·have htb : decide (na.term < nd.term) = true := decide_eq_true ht
       have HT := Hd ht
       clear ht
       have LN := Hd (leadTo_yes (s := s) (i := i) (by rw [← HU.out, ← HND.out]; rw [HL.out, decide_eq_true HR.out, Int.toNat_natCast, ← HNA.out, decide_eq_true HT.out]; simp))
       clear HND HNA
       refine wT (.p 0 (.p 1 (.p 2 (.s 3 (.p 4 (.p 5 (.s 6 (.p 7 (.p 8 (.p 9 (.p 10 (.s 11 (.p 12 (.p 13 (.p 14 (.s 15 (.p 16 (.p 17 (.p 18 (.p 19 (.p 20 (.p 21 (.p 22 (.p 23 (.p 24 (.s 25 (.p 26 (.p 27 (.p 28 (.s 29 (.p 30 (.p 31 (.p 32 (.s 33 (.p 34 (.p 35 (.p 36 (.s 37 (.p 38 (.p 39 (.p 40 .nil))))))))))))))))))))))))))))))))))))))))) (by kernel_rfl) (by kernel_rfl) ?_
       repeat ((first | refine sP rfl fun K hK => ?_ | refine sS rfl fun K hK => ?_); go_simp; refine hK _ ?_; clear hK K)
       refine sN ?_
       go_wp2_with fail
       have G3 := Hd (H.out.drew)
       have HB3 := Hd HB.out.drew
       go_roundw
       case rel =>
        first | exact ⟨i + 1, by omega, by rw [LN.out], by go_num, G3, HB3⟩ | ((repeat apply Exists.intro); refine ⟨?_, rfl⟩; exact ⟨i + 1, by omega, by rw [LN.out], by go_num, G3, HB3⟩)
       case measure => simp [intOf]; omega
      ·have htb : decide (na.term < nd.term) = false := decide_eq_false ht
       have HT := Hd ht
       clear ht
       have LN := Hd (leadTo_no (s := s) (i := i) (by rw [← HU.out, ← HND.out]; rw [HL.out, decide_eq_true HR.out, Int.toNat_natCast, ← HNA.out, decide_eq_false HT.out, decide_eq_false (by omega)]; rfl))
       clear HND HNA
       refine wT (.p 0 (.p 1 (.p 2 (.s 3 (.p 4 (.p 5 (.s 6 (.p 7 (.p 8 (.p 9 (.p 10 (.s 11 (.p 12 (.p 13 (.p 14 (.s 15 (.p 16 (.p 17 (.p 18 (.p 19 (.p 20 (.p 21 (.p 22 (.p 23 (.p 24 (.s 25 (.p 26 (.p 27 (.p 28 (.s 29 (.p 30 (.p 31 (.p 32 (.s 33 (.p 34 (.p 35 (.p 36 (.s 37 (.p 38 (.p 39 (.p 40 .nil))))))))))))))))))))))))))))))))))))))))) (by kernel_rfl) (by kernel_rfl) ?_
       repeat ((first | refine sP rfl fun K hK => ?_ | refine sS rfl fun K hK => ?_); go_simp; refine hK _ ?_; clear hK K)
       refine sN ?_
       go_wp2_with fail
       have G3 := Hd (H.out.drew)
       have HB3 := Hd HB.out.drew
       go_roundw
       case rel =>
        first | exact ⟨i + 1, by omega, by rw [LN.out]; rw [HL.out], by go_num, G3, HB3⟩ | ((repeat apply Exists.intro); refine ⟨?_, rfl⟩; exact ⟨i + 1, by omega, by rw [LN.out]; rw [HL.out], by go_num, G3, HB3⟩)
       case measure => simp [intOf]; omega
    ·have hrb : (nd.role == 2) = false := by simpa using hr
     have HR := Hd hr
     clear hr
     have LN := Hd (leadTo_no (s := s) (i := i) (by rw [← HU.out, ← HND.out]; rw [decide_eq_false HR.out]; rfl))
     clear HND
     refine wT (.p 0 (.p 1 (.p 2 (.s 3 (.p 4 (.p 5 (.s 6 (.p 7 (.p 8 (.p 9 (.p 10 (.s 11 (.p 12 (.p 13 (.p 14 (.s 15 (.p 16 (.p 17 (.p 18 (.p 19 (.p 20 (.p 21 (.p 22 (.p 23 (.p 24 (.s 25 (.p 26 (.p 27 (.p 28 (.s 29 (.p 30 (.p 31 (.p 32 (.s 33 (.p 34 (.p 35 (.p 36 (.s 37 (.p 38 (.p 39 (.p 40 .nil))))))))))))))))))))))))))))))))))))))))) (by kernel_rfl) (by kernel_rfl) ?_
     repeat ((first | refine sP rfl fun K hK => ?_ | refine sS rfl fun K hK => ?_); go_simp; refine hK _ ?_; clear hK K)
     refine sN ?_
     go_wp2_with fail
     have G3 := Hd (H.out.drew)
     have HB3 := Hd HB.out.drew
     go_roundw
     case rel =>
      first | exact ⟨i + 1, by omega, by rw [LN.out], by go_num, G3, HB3⟩ | ((repeat apply Exists.intro); refine ⟨?_, rfl⟩; exact ⟨i + 1, by omega, by rw [LN.out], by go_num, G3, HB3⟩)
     case measure => simp [intOf]; omega
end Go.Proofs.Ytnkmljdkokcdjaa
namespace Go.Proofs.Ytnkmljdkokcdjaa
open Go.RowKit Fed Go.RT
attribute [local go_sem high] Fed.max2_int Fed.min2_int Fed.MA Fed.ZN Fed.ZM Fed.NA
def NodeSays (w w' : World) (s : GS) (id : Int) (e : Ending) : Prop :=
 (∃ i : Nat, id = i ∧ i < s.ns.length ∧ ∃ τ, e = .returned (.tuple #[.agg (NA (s.node id) τ), .bool true]) ∧ NodeVs w' (fun k => w.heap.size ≤ k) (s.node id) τ) ∨ (¬ (0 ≤ id ∧ id < s.ns.length) ∧ e = .returned (.tuple #[.agg ZN, .bool false]))
theorem far5 {w : World} {b k : Nat} {u3 u7 u8 u9 u10 : Value} (h : k ≠ b) : (((((w.setCell ⟨b, 3, none⟩ u3).setCell ⟨b, 7, none⟩ u7).setCell ⟨b, 8, none⟩ u8).setCell ⟨b, 9, none⟩ u9).setCell ⟨b, 10, none⟩ u10).heap[k]? = w.heap[k]? :=
 (Below.heap_setCell _ _ _ k h).trans ((Below.heap_setCell _ _ _ k h).trans ((Below.heap_setCell _ _ _ k h).trans ((Below.heap_setCell _ _ _ k h).trans (Below.heap_setCell _ _ _ k h))))
theorem set5 {w : World} {b t : Nat} {f : Nat × Nat} {a0 a1 a2 a3 a4 a5 a6 a7 a8 a9 a10 a11 a12 u3 u7 u8 u9 u10 : Value} (h : w.heap[b]? = some (.cells #[a0, a1, a2, a3, a4, a5, a6, a7, a8, a9, a10, a11, a12] t f)) : (((((w.setCell ⟨b, 3, none⟩ u3).setCell ⟨b, 7, none⟩ u7).setCell ⟨b, 8, none⟩ u8).setCell ⟨b, 9, none⟩ u9).setCell ⟨b, 10, none⟩ u10).heap[b]? = some (.cells #[a0, a1, a2, u3, a4, a5, a6, u7, u8, u9, u10, a11, a12] t f) := by
 exact (setCell_blk _ (setCell_blk _ (setCell_blk _ (setCell_blk _ (setCell_blk _ h))))).trans rfl
theorem below5 {n b : Nat} {w0 w : World} {u3 u7 u8 u9 u10 : Value} (q : Below n w0 w) (h : n ≤ b) : Below n w0 (((((w.setCell ⟨b, 3, none⟩ u3).setCell ⟨b, 7, none⟩ u7).setCell ⟨b, 8, none⟩ u8).setCell ⟨b, 9, none⟩ u9).setCell ⟨b, 10, none⟩ u10) :=
 ((((q.setCell (p := ⟨b, 3, none⟩) h _).setCell (p := ⟨b, 7, none⟩) h _).setCell (p := ⟨b, 8, none⟩) h _).setCell (p := ⟨b, 9, none⟩) h _).setCell (p := ⟨b, 10, none⟩) h _
theorem gNode_any (w : World) (B g : Nat) (s : GS) (μ : GM) (ok : Nat → Prop) (h : GroupAt w B g s μ ok) (K : Nat) (G : GoodG K s) (hK : K ≤ 1000) (id : Int) :
  Calls Try.prog 48 #[.pointer (some ⟨g, 0, none⟩), .int .i64 id] w fun e w' => NodeSays w w' s id e ∧ Below w.heap.size w w' := by
 have c0 := h.c0
 have hg := h.lt
 by_cases hin : 0 ≤ id ∧ id < s.ns.length
 ·obtain ⟨i, rfl⟩ := Int.eq_ofNat_of_zero_le hin.1
  have hi : i < s.ns.length := by omega
  have h0b : decide ((i : Int) < 0) = false := decide_eq_false (by omega)
  have h1b : decide ((s.ns.length : Int) ≤ (i : Int)) = false := decide_eq_false (by omega)
  obtain ⟨pb, hp, ea, _, _, _, σ, hv, hc⟩ := h.place hi
  have gx := G.node hi
  have l1 : (s.node (i : Int)).log.length ≤ 100000 := gx.l
  have l2 : (s.node (i : Int)).votes.length ≤ 1000 := by rw [gx.v]; exact hK
  have l3 : (s.node (i : Int)).nxt.length ≤ 1000 := by rw [gx.x]; exact hK
  have l4 : (s.node (i : Int)).mtch.length ≤ 1000 := by rw [gx.m]; exact hK
  have l5 : (s.node (i : Int)).forms.length ≤ 1000 := by rw [gx.f]; exact hK
  rw [ea] at c0
  have hpl := (h.ltp pb hp).2
  have V := Hd (hv.mono (ok' := fun k => k < w.heap.size) (fun k _ hl => hl))
  have HS := Hd (show ∀ (w' : World) (τ : Sl5), NodeVs w' (fun k => w.heap.size ≤ k) (s.node (i : Int)) τ → NodeSays w w' s (i : Int) (.returned (.tuple #[.agg (NA (s.node (i : Int)) τ), .bool true])) from fun w' τ q => .inl ⟨i, rfl, hi, τ, rfl, q⟩)
  clear h G gx hin hp ea
  generalize s.node (i : Int) = n at *
  obtain ⟨ok, hok⟩ : ∃ ok : Nat → Prop, ok = fun k => k < w.heap.size := ⟨_, rfl⟩
  rw [← hok] at V
  have HOK := Hd hok
  clear hok hv
  have x0 : w.cell? ⟨pb, i * 14, none⟩ = some (.int .i64 n.id) := hc 0 _ rfl
  have x1 : w.cell? ⟨pb, i * 14 + 1, none⟩ = some (.int .i64 n.term) := hc 1 _ rfl
  have x2 : w.cell? ⟨pb, i * 14 + 2, none⟩ = some (.int .i64 n.vote) := hc 2 _ rfl
  have x3 : w.cell? ⟨pb, i * 14 + 3, none⟩ = some (.slice σ.A3 n.log.length σ.k3) := hc 3 _ rfl
  have x4 : w.cell? ⟨pb, i * 14 + 4, none⟩ = some (.int .i64 n.form) := hc 4 _ rfl
  have x5 : w.cell? ⟨pb, i * 14 + 5, none⟩ = some (.int .i64 n.role) := hc 5 _ rfl
  have x6 : w.cell? ⟨pb, i * 14 + 6, none⟩ = some (.int .i64 n.commit) := hc 6 _ rfl
  have x7 : w.cell? ⟨pb, i * 14 + 7, none⟩ = some (.slice σ.A7 n.votes.length σ.k7) := hc 7 _ rfl
  have x8 : w.cell? ⟨pb, i * 14 + 8, none⟩ = some (.slice σ.A8 n.nxt.length σ.k8) := hc 8 _ rfl
  have x9 : w.cell? ⟨pb, i * 14 + 9, none⟩ = some (.slice σ.A9 n.mtch.length σ.k9) := hc 9 _ rfl
  have x10 : w.cell? ⟨pb, i * 14 + 10, none⟩ = some (.slice σ.A10 n.forms.length σ.k10) := hc 10 _ rfl
  have x11 : w.cell? ⟨pb, i * 14 + 11, none⟩ = some (.int .i64 n.clock) := hc 11 _ rfl
  have x12 : w.cell? ⟨pb, i * 14 + 12, none⟩ = some (.int .i64 n.due) := hc 12 _ rfl
  clear hc
  go_enter Try.func48, Try.ntmps48
  go_upto_region 4 with (fail)
  refine name_world (F := fun W => Hid (W.heap[w.heap.size]? = some (.cells ZN 28 (0, 0))) ∧ Hid (W.heap[w.heap.size + 1]? = some (.cells (NA n σ) 28 (0, 0))) ∧ Hid (NodeVs W ok n σ) ∧ Hid (Below w.heap.size w W)) _ (by exact ⟨Hd ((Below.heap_alloc _ _ _ (by simp)).trans (MM.alloc_new w _)), Hd (MM.alloc_new1 w _ _), Hd (V.out.step (fun x _ hl => (Below.heap_alloc _ _ x (by simp; omega)).trans (Below.heap_alloc _ _ x hl))), Hd (((Below.refl _ w).alloc (Nat.le_refl _) _).alloc (by simp) _)⟩) ?_
  clear V x0 x1 x2 x3 x4 x5 x6 x7 x8 x9 x10 x11 x12
  intro w0 ⟨Z0, X0, V0, HB0⟩
  have HZ0 := Hd (show w.heap.size + 2 ≤ w0.heap.size from MM.blk_lt X0.out)
  have x0_3 : w0.cell? ⟨w.heap.size + 1, 3, none⟩ = some (.slice σ.A3 n.log.length σ.k3) := MM.cell_blk X0.out rfl
  have x0_7 : w0.cell? ⟨w.heap.size + 1, 7, none⟩ = some (.slice σ.A7 n.votes.length σ.k7) := MM.cell_blk X0.out rfl
  have x0_8 : w0.cell? ⟨w.heap.size + 1, 8, none⟩ = some (.slice σ.A8 n.nxt.length σ.k8) := MM.cell_blk X0.out rfl
  have x0_9 : w0.cell? ⟨w.heap.size + 1, 9, none⟩ = some (.slice σ.A9 n.mtch.length σ.k9) := MM.cell_blk X0.out rfl
  have x0_10 : w0.cell? ⟨w.heap.size + 1, 10, none⟩ = some (.slice σ.A10 n.forms.length σ.k10) := MM.cell_blk X0.out rfl
  refine wT (.p 0 (.s 1 (.p 3 (.s 4 (.p 6 (.s 7 (.p 9 (.s 10 (.p 12 (.s 13 (.w 2 [4, 7, 10, 13] (.p 15 (.w 5 [7, 10, 13] (.w 8 [10, 13] (.w 11 [13] (.w 14 [] (.w 16 [] (.p 17 (.w 18 [] (.p 19 (.w 20 [] (.p 21 (.w 22 [] (.p 23 (.w 24 [] .nil .stop)) .stop)) .stop)) .stop)) .stop) .stop) .stop) .stop) .stop)) .stop))))))))))) (by kernel_rfl) (by kernel_rfl) ?_
  repeat ((first | refine sP rfl fun K hK => ?_ | refine sS rfl fun K hK => ?_); go_simp; refine hK _ ?_; clear hK K)
  refine sW rfl rfl (fun K hK => ?_) sT
  go_wp2_with fail
  refine (clone_entry _ ok _ _ _ (MM.Rd.drew V0.out.hl) (entsC_one _) (by omega)).mono ?_
  rintro e w1 ⟨c1, o1, rfl, hr1, hb1⟩
  have V1 := Hd (V0.out.step (w1 := w1) (fun x _ hl => hb1.block x hl))
  have X1 := Hd ((hb1.block _ (MM.blk_lt X0.out)).trans X0.out)
  have Z1 := Hd ((hb1.block _ (MM.blk_lt Z0.out)).trans Z0.out)
  have HB1 := Hd (HB0.out.drew.trans (hb1.mono HB0.out.size))
  obtain ⟨A1, k1, rfl, _, _⟩ := hr1.slice
  have R1_1 := Hd (hr1.rd.mono (ok' := (fun k => w.heap.size + 2 ≤ k)) (fun x hx _ => by have h1 := (hr1.lt x hx).1; have h2 := HZ0.out; have h3 : w0.heap.size ≤ x := h1; omega))
  have HZ1 := Hd (show w.heap.size + 2 ≤ w1.heap.size from by have h1 := HZ0.out; have h2 := hb1.size; have h3 : w0.heap.size ≤ w1.heap.size := h2; omega)
  clear hr1 hb1
  have x1_3 : w1.cell? ⟨w.heap.size + 1, 3, none⟩ = some (.slice σ.A3 n.log.length σ.k3) := MM.cell_blk X1.out rfl
  have x1_7 : w1.cell? ⟨w.heap.size + 1, 7, none⟩ = some (.slice σ.A7 n.votes.length σ.k7) := MM.cell_blk X1.out rfl
  have x1_8 : w1.cell? ⟨w.heap.size + 1, 8, none⟩ = some (.slice σ.A8 n.nxt.length σ.k8) := MM.cell_blk X1.out rfl
  have x1_9 : w1.cell? ⟨w.heap.size + 1, 9, none⟩ = some (.slice σ.A9 n.mtch.length σ.k9) := MM.cell_blk X1.out rfl
  have x1_10 : w1.cell? ⟨w.heap.size + 1, 10, none⟩ = some (.slice σ.A10 n.forms.length σ.k10) := MM.cell_blk X1.out rfl
  go_wp2_with fail
  refine qN _ _ _ _ (hK _ _ ?_ ?_) <;> clear hK K
  ·repeat first | exact aN | refine aO rfl rfl ?_ | refine aI rfl (by go_simp <;> rfl) ?_
  repeat ((first | refine sP rfl fun K hK => ?_ | refine sS rfl fun K hK => ?_); go_simp; refine hK _ ?_; clear hK K)
  refine sW rfl rfl (fun K hK => ?_) sT
  go_wp2_with fail
  refine (clone_bool _ ok _ _ _ V1.out.hv (boolsC_one _) (by omega)).mono ?_
  rintro e w2 ⟨c2, o2, rfl, hr2, hb2⟩
  have V2 := Hd (V1.out.step (w1 := w2) (fun x _ hl => hb2.block x hl))
  have X2 := Hd ((hb2.block _ (MM.blk_lt X1.out)).trans X1.out)
  have Z2 := Hd ((hb2.block _ (MM.blk_lt Z1.out)).trans Z1.out)
  have HB2 := Hd (HB1.out.trans (hb2.mono HB1.out.size))
  obtain ⟨A2, k2, rfl, _, _⟩ := hr2.slice
  have R2_2 := Hd (hr2.rd.mono (ok' := (fun k => w.heap.size + 2 ≤ k)) (fun x hx _ => by have h1 := (hr2.lt x hx).1; have h2 := HZ1.out; skip; omega))
  have HZ2 := Hd (show w.heap.size + 2 ≤ w2.heap.size from by have h1 := HZ1.out; have h2 := hb2.size; skip; omega)
  have R1_2 := Hd (R1_1.out.below hb2)
  clear hr2 hb2 x1_3 x1_7 x1_8 x1_9 x1_10
  have x2_3 : w2.cell? ⟨w.heap.size + 1, 3, none⟩ = some (.slice σ.A3 n.log.length σ.k3) := MM.cell_blk X2.out rfl
  have x2_7 : w2.cell? ⟨w.heap.size + 1, 7, none⟩ = some (.slice σ.A7 n.votes.length σ.k7) := MM.cell_blk X2.out rfl
  have x2_8 : w2.cell? ⟨w.heap.size + 1, 8, none⟩ = some (.slice σ.A8 n.nxt.length σ.k8) := MM.cell_blk X2.out rfl
  have x2_9 : w2.cell? ⟨w.heap.size + 1, 9, none⟩ = some (.slice σ.A9 n.mtch.length σ.k9) := MM.cell_blk X2.out rfl
  have x2_10 : w2.cell? ⟨w.heap.size + 1, 10, none⟩ = some (.slice σ.A10 n.forms.length σ.k10) := MM.cell_blk X2.out rfl
  go_wp2_with fail
  refine qN _ _ _ _ (hK _ _ ?_ ?_) <;> clear hK K
  ·repeat first | exact aN | refine aO rfl rfl ?_ | refine aI rfl (by go_simp <;> rfl) ?_
  refine sW rfl rfl (fun K hK => ?_) sT
  go_wp2_with fail
  refine (clone_int _ ok _ _ _ V2.out.hn (intsC_one _) (by omega)).mono ?_
  rintro e w3 ⟨c3, o3, rfl, hr3, hb3⟩
  have V3 := Hd (V2.out.step (w1 := w3) (fun x _ hl => hb3.block x hl))
  have X3 := Hd ((hb3.block _ (MM.blk_lt X2.out)).trans X2.out)
  have Z3 := Hd ((hb3.block _ (MM.blk_lt Z2.out)).trans Z2.out)
  have HB3 := Hd (HB2.out.trans (hb3.mono HB2.out.size))
  obtain ⟨A3, k3, rfl, _, _⟩ := hr3.slice
  have R3_3 := Hd (hr3.rd.mono (ok' := (fun k => w.heap.size + 2 ≤ k)) (fun x hx _ => by have h1 := (hr3.lt x hx).1; have h2 := HZ2.out; skip; omega))
  have HZ3 := Hd (show w.heap.size + 2 ≤ w3.heap.size from by have h1 := HZ2.out; have h2 := hb3.size; skip; omega)
  have R1_3 := Hd (R1_2.out.below hb3)
  have R2_3 := Hd (R2_2.out.below hb3)
  clear hr3 hb3 x2_3 x2_7 x2_8 x2_9 x2_10
  have x3_3 : w3.cell? ⟨w.heap.size + 1, 3, none⟩ = some (.slice σ.A3 n.log.length σ.k3) := MM.cell_blk X3.out rfl
  have x3_7 : w3.cell? ⟨w.heap.size + 1, 7, none⟩ = some (.slice σ.A7 n.votes.length σ.k7) := MM.cell_blk X3.out rfl
  have x3_8 : w3.cell? ⟨w.heap.size + 1, 8, none⟩ = some (.slice σ.A8 n.nxt.length σ.k8) := MM.cell_blk X3.out rfl
  have x3_9 : w3.cell? ⟨w.heap.size + 1, 9, none⟩ = some (.slice σ.A9 n.mtch.length σ.k9) := MM.cell_blk X3.out rfl
  have x3_10 : w3.cell? ⟨w.heap.size + 1, 10, none⟩ = some (.slice σ.A10 n.forms.length σ.k10) := MM.cell_blk X3.out rfl
  go_wp2_with fail
  refine qN _ _ _ _ (hK _ _ ?_ ?_) <;> clear hK K
  ·repeat first | exact aN | refine aO rfl rfl ?_ | refine aI rfl (by go_simp <;> rfl) ?_
  refine sW rfl rfl (fun K hK => ?_) sT
  go_wp2_with fail
  refine (clone_int _ ok _ _ _ V3.out.hm (intsC_one _) (by omega)).mono ?_
  rintro e w4 ⟨c4, o4, rfl, hr4, hb4⟩
  have V4 := Hd (V3.out.step (w1 := w4) (fun x _ hl => hb4.block x hl))
  have X4 := Hd ((hb4.block _ (MM.blk_lt X3.out)).trans X3.out)
  have Z4 := Hd ((hb4.block _ (MM.blk_lt Z3.out)).trans Z3.out)
  have HB4 := Hd (HB3.out.trans (hb4.mono HB3.out.size))
  obtain ⟨A4, k4, rfl, _, _⟩ := hr4.slice
  have R4_4 := Hd (hr4.rd.mono (ok' := (fun k => w.heap.size + 2 ≤ k)) (fun x hx _ => by have h1 := (hr4.lt x hx).1; have h2 := HZ3.out; skip; omega))
  have HZ4 := Hd (show w.heap.size + 2 ≤ w4.heap.size from by have h1 := HZ3.out; have h2 := hb4.size; skip; omega)
  have R1_4 := Hd (R1_3.out.below hb4)
  have R2_4 := Hd (R2_3.out.below hb4)
  have R3_4 := Hd (R3_3.out.below hb4)
  clear hr4 hb4 x3_3 x3_7 x3_8 x3_9 x3_10
  have x4_3 : w4.cell? ⟨w.heap.size + 1, 3, none⟩ = some (.slice σ.A3 n.log.length σ.k3) := MM.cell_blk X4.out rfl
  have x4_7 : w4.cell? ⟨w.heap.size + 1, 7, none⟩ = some (.slice σ.A7 n.votes.length σ.k7) := MM.cell_blk X4.out rfl
  have x4_8 : w4.cell? ⟨w.heap.size + 1, 8, none⟩ = some (.slice σ.A8 n.nxt.length σ.k8) := MM.cell_blk X4.out rfl
  have x4_9 : w4.cell? ⟨w.heap.size + 1, 9, none⟩ = some (.slice σ.A9 n.mtch.length σ.k9) := MM.cell_blk X4.out rfl
  have x4_10 : w4.cell? ⟨w.heap.size + 1, 10, none⟩ = some (.slice σ.A10 n.forms.length σ.k10) := MM.cell_blk X4.out rfl
  go_wp2_with fail
  refine qN _ _ _ _ (hK _ _ ?_ ?_) <;> clear hK K
  ·repeat first | exact aN | refine aO rfl rfl ?_ | refine aI rfl (by go_simp <;> rfl) ?_
  refine sW rfl rfl (fun K hK => ?_) sT
  go_wp2_with fail
  refine (clone_int _ ok _ _ _ V4.out.hf (intsC_one _) (by omega)).mono ?_
  rintro e w5 ⟨c5, o5, rfl, hr5, hb5⟩
  have V5 := Hd (V4.out.step (w1 := w5) (fun x _ hl => hb5.block x hl))
  have X5 := Hd ((hb5.block _ (MM.blk_lt X4.out)).trans X4.out)
  have Z5 := Hd ((hb5.block _ (MM.blk_lt Z4.out)).trans Z4.out)
  have HB5 := Hd (HB4.out.trans (hb5.mono HB4.out.size))
  obtain ⟨A5, k5, rfl, _, _⟩ := hr5.slice
  have R5_5 := Hd (hr5.rd.mono (ok' := (fun k => w.heap.size + 2 ≤ k)) (fun x hx _ => by have h1 := (hr5.lt x hx).1; have h2 := HZ4.out; skip; omega))
  have HZ5 := Hd (show w.heap.size + 2 ≤ w5.heap.size from by have h1 := HZ4.out; have h2 := hb5.size; skip; omega)
  have R1_5 := Hd (R1_4.out.below hb5)
  have R2_5 := Hd (R2_4.out.below hb5)
  have R3_5 := Hd (R3_4.out.below hb5)
  have R4_5 := Hd (R4_4.out.below hb5)
  clear hr5 hb5 x4_3 x4_7 x4_8 x4_9 x4_10
  have x5_3 : w5.cell? ⟨w.heap.size + 1, 3, none⟩ = some (.slice σ.A3 n.log.length σ.k3) := MM.cell_blk X5.out rfl
  have x5_7 : w5.cell? ⟨w.heap.size + 1, 7, none⟩ = some (.slice σ.A7 n.votes.length σ.k7) := MM.cell_blk X5.out rfl
  have x5_8 : w5.cell? ⟨w.heap.size + 1, 8, none⟩ = some (.slice σ.A8 n.nxt.length σ.k8) := MM.cell_blk X5.out rfl
  have x5_9 : w5.cell? ⟨w.heap.size + 1, 9, none⟩ = some (.slice σ.A9 n.mtch.length σ.k9) := MM.cell_blk X5.out rfl
  have x5_10 : w5.cell? ⟨w.heap.size + 1, 10, none⟩ = some (.slice σ.A10 n.forms.length σ.k10) := MM.cell_blk X5.out rfl
  obtain ⟨q0, q1, q2, q3, q4, q5, q6, q7, q8, q9, q10, q11, q12⟩ := MM.cells13 X5.out
  obtain ⟨y0, y1, y2, y3, y4, y5, y6, y7, y8, y9, y10, y11, y12⟩ := MM.frees13 X5.out
  go_wp2_with fail
  refine qN _ _ _ _ (hK _ _ ?_ ?_) <;> clear hK K
  ·repeat first | exact aN | refine aO rfl rfl ?_ | refine aI rfl (by go_simp <;> rfl) ?_
  refine sW rfl rfl (fun K hK => ?_) sT
  go_wp2
  refine qN _ _ _ _ (hK _ _ ?_ ?_) <;> clear hK K
  ·repeat first | exact aN | refine aO rfl rfl ?_ | refine aI rfl (by go_simp <;> rfl) ?_
  repeat ((first | refine sP rfl fun K hK => ?_ | refine sS rfl fun K hK => ?_); go_simp; refine hK _ ?_; clear hK K)
  refine sW rfl rfl (fun K hK => ?_) sT
  go_wp2
  refine qN _ _ _ _ (hK _ _ ?_ ?_) <;> clear hK K
  ·repeat first | exact aN | refine aO rfl rfl ?_ | refine aI rfl (by go_simp <;> rfl) ?_
  repeat ((first | refine sP rfl fun K hK => ?_ | refine sS rfl fun K hK => ?_); go_simp; refine hK _ ?_; clear hK K)
  refine sW rfl rfl (fun K hK => ?_) sT
  go_wp2
  refine qN _ _ _ _ (hK _ _ ?_ ?_) <;> clear hK K
  ·repeat first | exact aN | refine aO rfl rfl ?_ | refine aI rfl (by go_simp <;> rfl) ?_
  repeat ((first | refine sP rfl fun K hK => ?_ | refine sS rfl fun K hK => ?_); go_simp; refine hK _ ?_; clear hK K)
  refine sW rfl rfl (fun K hK => ?_) sT
  go_wp2
  refine qN _ _ _ _ (hK _ _ ?_ ?_) <;> clear hK K
  ·repeat first | exact aN | refine aO rfl rfl ?_ | refine aI rfl (by go_simp <;> rfl) ?_
  repeat ((first | refine sP rfl fun K hK => ?_ | refine sS rfl fun K hK => ?_); go_simp; refine hK _ ?_; clear hK K)
  refine sW rfl rfl (fun K hK => ?_) sT
  go_wp2
  refine qN _ _ _ _ (hK _ _ ?_ ?_) <;> clear hK K
  ·repeat first | exact aN | refine aO rfl rfl ?_ | refine aI rfl (by go_simp <;> rfl) ?_
  refine sN ?_
  go_upto_region 5 with (fail)
  refine name_world (F := fun W => Hid (W.heap[w.heap.size + 1]? = some (.cells #[.int .i64 n.id, .int .i64 n.term, .int .i64 n.vote, .slice A1 n.log.length k1, .int .i64 n.form, .int .i64 n.role, .int .i64 n.commit, .slice A2 n.votes.length k2, .slice A3 n.nxt.length k3, .slice A4 n.mtch.length k4, .slice A5 n.forms.length k5, .int .i64 n.clock, .int .i64 n.due] 28 (0, 0))) ∧ Hid (W.heap[w.heap.size]? = some (.cells ZN 28 (0, 0))) ∧ Hid (NodeVs W (fun k => w.heap.size + 2 ≤ k) n ⟨A1, k1, A2, k2, A3, k3, A4, k4, A5, k5⟩) ∧ Hid (Below w.heap.size w W)) _ (by exact ⟨Hd ((set5 X5.out).trans rfl), Hd ((far5 (by omega)).trans Z5.out), Hd (⟨R1_5.out.step (fun x hx _ => far5 (by have h1 : w.heap.size + 2 ≤ x := hx; omega)), R2_5.out.step (fun x hx _ => far5 (by have h1 : w.heap.size + 2 ≤ x := hx; omega)), R3_5.out.step (fun x hx _ => far5 (by have h1 : w.heap.size + 2 ≤ x := hx; omega)), R4_5.out.step (fun x hx _ => far5 (by have h1 : w.heap.size + 2 ≤ x := hx; omega)), R5_5.out.step (fun x hx _ => far5 (by have h1 : w.heap.size + 2 ≤ x := hx; omega))⟩), Hd (below5 HB5.out (by omega))⟩) ?_
  intro w6 ⟨X6, Z6, N6, HB6⟩
  obtain ⟨e0, e1, e2, e3, e4, e5, e6, e7, e8, e9, e10, e11, e12⟩ := MM.cells13 X6.out
  obtain ⟨f0, f1, f2, f3, f4, f5, f6, f7, f8, f9, f10, f11, f12⟩ := MM.cells13 Z6.out
  obtain ⟨g0, g1, g2, g3, g4, g5, g6, g7, g8, g9, g10, g11, g12⟩ := MM.frees13 Z6.out
  go_wp2_with fail
  refine name_world (F := fun W => Hid (W.heap[w.heap.size]? = some (.cells #[.int .i64 n.id, .int .i64 n.term, .int .i64 n.vote, .slice A1 n.log.length k1, .int .i64 n.form, .int .i64 n.role, .int .i64 n.commit, .slice A2 n.votes.length k2, .slice A3 n.nxt.length k3, .slice A4 n.mtch.length k4, .slice A5 n.forms.length k5, .int .i64 n.clock, .int .i64 n.due] 28 (0, 0))) ∧ Hid (NodeVs W (fun k => w.heap.size + 2 ≤ k) n ⟨A1, k1, A2, k2, A3, k3, A4, k4, A5, k5⟩) ∧ Hid (Below w.heap.size w W)) _ (by exact ⟨Hd ((set13 Z6.out).trans rfl), Hd (N6.out.step (fun x hx _ => far13 (by have h1 : w.heap.size + 2 ≤ x := hx; omega))), Hd (below13 HB6.out (Nat.le_refl _))⟩) ?_
  intro w7 ⟨Z7, N7, HB7⟩
  obtain ⟨u0, u1, u2, u3, u4, u5, u6, u7, u8, u9, u10, u11, u12⟩ := MM.cells13 Z7.out
  refine bodyPost_ret (v := .tuple #[.agg #[.int .i64 n.id, .int .i64 n.term, .int .i64 n.vote, .slice A1 n.log.length k1, .int .i64 n.form, .int .i64 n.role, .int .i64 n.commit, .slice A2 n.votes.length k2, .slice A3 n.nxt.length k3, .slice A4 n.mtch.length k4, .slice A5 n.forms.length k5, .int .i64 n.clock, .int .i64 n.due], .bool true]) (by simp [results, Try.results48, go_sem, u0, u1, u2, u3, u4, u5, u6, u7, u8, u9, u10, u11, u12]) rfl ?_
  exact ⟨HS.out _ ⟨A1, k1, A2, k2, A3, k3, A4, k4, A5, k5⟩ (N7.out.mono (fun x hx _ => by have h1 : w.heap.size + 2 ≤ x := hx; omega)), HB7.out⟩
 ·have HS := Hd (show ∀ w', NodeSays w w' s id (.returned (.tuple #[.agg ZN, .bool false])) from fun _ => .inr ⟨hin, rfl⟩)
  by_cases h0 : id < 0
  ·have h0b : decide (id < 0) = true := decide_eq_true h0
   clear h G hin
   go_enter Try.func48, Try.ntmps48
   go_wp2_with fail
   refine name_world (F := fun W => Hid (W.heap[w.heap.size]? = some (.cells ZN 28 (0, 0))) ∧ Hid (Below w.heap.size w W)) _ (by exact ⟨Hd (MM.alloc_new _ _), Hd ((Below.refl _ w).alloc (Nat.le_refl _) _)⟩) ?_
   intro wz ⟨Z, HB⟩
   obtain ⟨u0, u1, u2, u3, u4, u5, u6, u7, u8, u9, u10, u11, u12⟩ := MM.cells13 Z.out
   refine bodyPost_ret (v := .tuple #[.agg ZN, .bool false]) (by simp [results, Try.results48, go_sem, u0, u1, u2, u3, u4, u5, u6, u7, u8, u9, u10, u11, u12]) rfl ?_
   exact ⟨HS.out _, HB.out⟩
  ·have h0b : decide (id < 0) = false := decide_eq_false h0
   have h1b : decide ((s.ns.length : Int) ≤ id) = true := decide_eq_true (by omega)
   clear h G hin
   go_enter Try.func48, Try.ntmps48
   go_wp2_with fail
   refine name_world (F := fun W => Hid (W.heap[w.heap.size]? = some (.cells ZN 28 (0, 0))) ∧ Hid (Below w.heap.size w W)) _ (by exact ⟨Hd (MM.alloc_new _ _), Hd ((Below.refl _ w).alloc (Nat.le_refl _) _)⟩) ?_
   intro wz ⟨Z, HB⟩
   obtain ⟨u0, u1, u2, u3, u4, u5, u6, u7, u8, u9, u10, u11, u12⟩ := MM.cells13 Z.out
   refine bodyPost_ret (v := .tuple #[.agg ZN, .bool false]) (by simp [results, Try.results48, go_sem, u0, u1, u2, u3, u4, u5, u6, u7, u8, u9, u10, u11, u12]) rfl ?_
   exact ⟨HS.out _, HB.out⟩
end Go.Proofs.Ytnkmljdkokcdjaa
