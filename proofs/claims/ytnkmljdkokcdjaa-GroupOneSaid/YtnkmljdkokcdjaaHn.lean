/- The group's states with what is remembered, in plain Lean: it grows with each step; what was applied once stays a front; who led once in a term is remembered. -/
import Derived.Test.YtnkmljdkokcdjaaB15
import Derived.Test.YtnkmljdkokcdjaaB7
set_option linter.unusedVariables false
set_option linter.unusedSimpArgs false
namespace Fed
open Go Go.RowKit Go.Proofs.Ytnkmljdkokcdjaa
structure Grow (k : Nat) (G G' : Ghost) : Prop where
 ld : ∀ t a, G.Ldr t = some a → G'.Ldr t = some a
 ok : ∀ T l c, CmOk k G T l c → CmOk k G' T l c
structure GI (k : Nat) (G : Ghost) (s : GS) : Prop where
 g : GInv k G
 n : ∀ j n, s.ns[j]? = some n → NInv k G j n
 m : ∀ m, m ∈ s.f → MInv k G m
def Grows (k : Nat) (G : Ghost) (s : GS) : Prop := ∃ G', Grow k G G' ∧ GI k G' s
section
variable {k : Nat} {G : Ghost} {s : GS}
theorem GI.same (h : GI k G s) : Grows k G s := ⟨G, ⟨fun _ _ q => q, fun _ _ _ q => q⟩, h⟩
theorem GI.sub {f : List Msg} {us : List Bool} (h : GI k G s) (hf : ∀ m, m ∈ f → m ∈ s.f) : GI k G ⟨s.ns, us, f⟩ := ⟨h.g, h.n, fun m q => h.m m (hf m q)⟩
theorem GI.at (h : GI k G s) {id : Int} (h0 : 0 ≤ id) (h1 : id < s.ns.length) : NInv k G id.toNat (s.node id) := by
 refine h.n _ _ ?_
 unfold GS.node
 rw [List.getD_eq_getElem?_getD, List.getElem?_eq_getElem (by omega)]; rfl
theorem GI.put {r : NS} {id : Int} (us : List Bool) (h : GI k G s) (h0 : 0 ≤ id) (h1 : id < s.ns.length) (hr : Steps k id.toNat G r) : Grows k G ⟨s.ns.set id.toNat r.n, us, s.f ++ r.out⟩ := by
 obtain ⟨G', e, g', n', m'⟩ := hr
 refine ⟨G', ⟨e.ld, fun T l c q => e.cmOk q⟩, g', fun j n q => ?_, fun m q => ?_⟩
 ·have q' : (s.ns.set id.toNat r.n)[j]? = some n := q
  rw [List.getElem?_set] at q'
  by_cases hj : id.toNat = j
  ·subst hj
   rw [if_pos rfl, if_pos (by omega)] at q'
   injection q' with q'
   subst q'
   exact n'
  ·rw [if_neg hj] at q'
   exact (h.n j n q').other h.g e (fun c => hj c.symm)
 ·rcases List.mem_append.1 (show m ∈ s.f ++ r.out from q) with q' | q'
  ·exact (h.m m q').grow e
  ·exact m' m q'
theorem GI.tick (h : GI k G s) (id : Int) : Grows k G (s.tick id) := by
 unfold GS.tick
 split
 ·rename_i hu
  obtain ⟨h0, h1⟩ := isUp_bounds hu
  exact h.put s.us h0 h1 (tick_steps h.g (h.at h0 h1))
 ·exact h.same
theorem GI.prop (h : GI k G s) (id : Int) (d : ByteArray) : Grows k G (s.prop id d) := by
 unfold GS.prop
 split
 ·rename_i hu
  obtain ⟨h0, h1⟩ := isUp_bounds hu
  exact h.put s.us h0 h1 (prop_steps h.g (h.at h0 h1) d)
 ·exact h.same
theorem GI.crash (h : GI k G s) (id : Int) : Grows k G (s.crash id) := by
 unfold GS.crash
 split
 ·exact (h.sub (fun _ q => q)).same
 ·exact h.same
theorem GI.start (h : GI k G s) (id form : Int) : Grows k G (s.start id form) := by
 unfold GS.start
 split
 ·rename_i hu
  have hb : 0 ≤ id ∧ id < s.ns.length := by
   unfold GS.startOk at hu
   simp only [Bool.and_eq_true, decide_eq_true_eq] at hu
   exact hu.1.1
  have h9 := h.put (r := ⟨restartN (s.node id) form, []⟩) (s.us.set id.toNat true) hb.1 hb.2 (restart_steps h.g (h.at hb.1 hb.2) form)
  simpa using h9
 ·exact h.same
theorem GI.cut (h : GI k G s) (a : Int) : Grows k G (s.cut a) := by
 unfold GS.cut
 split
 ·exact (h.sub (fun _ q => List.mem_of_mem_eraseIdx q)).same
 ·exact h.same
theorem GI.twice (h : GI k G s) (a : Int) : Grows k G (s.twice a) := by
 unfold GS.twice
 split
 ·rename_i hu
  refine (h.sub (fun m q => ?_)).same
  rcases List.mem_append.1 q with q | q
  ·exact q
  ·rw [List.mem_singleton.1 q]; exact (has_bounds hu).1
 ·exact h.same
theorem GI.deliver (h : GI k G s) (a : Int) : Grows k G (s.deliver a) := by
 unfold GS.deliver
 split
 ·rename_i hh
  have hm := (has_bounds hh).1
  split
  ·rename_i hu
   obtain ⟨h0, h1⟩ := isUp_bounds hu
   obtain ⟨G', e, i⟩ := h.put s.us h0 h1 (hand_steps h.g (h.at h0 h1) (h.m _ hm) (Int.toNat_of_nonneg h0).symm)
   refine ⟨G', e, ?_⟩
   unfold GS.put
   rw [cut_ns, cut_us]
   exact i.sub (f := (s.cut a).f ++ (handleS (s.node (s.msg a).to) (s.msg a)).out) (fun m q => by
    rcases List.mem_append.1 q with q | q
    ·exact List.mem_append_left _ (cut_mem q)
    ·exact List.mem_append_right _ q)
  ·exact h.cut a
 ·exact h.same
theorem GI.step (h : GI k G s) (n : Nat) : Grows k G (stepS k s n) := by
 unfold stepS
 split
 ·exact h.tick _
 split
 ·exact h.deliver _
 split
 ·exact h.cut _
 split
 ·exact h.twice _
 split
 ·exact h.prop _ _
 split
 ·split
  ·exact h.crash _
  ·exact h.same
 ·exact h.start _ _
theorem GI.new (k : Nat) : ∃ G, GI k G (GS.new k) := by
 obtain ⟨G, g, n, m⟩ := (GSys.new k).inv
 exact ⟨G, g, n, m⟩
theorem CmOk.two (hg : GInv k G) {T T' : Int} {l l' : List Entry} {c c' x : Nat} (h : CmOk k G T l c) (h' : CmOk k G T' l' c') (c1 : x ≤ c) (c2 : x ≤ c') : l.take x = l'.take x := by
 rcases h with e1 | ⟨t, y, t1, t2, t3, t4⟩
 ·have : x = 0 := by omega
  subst this
  simp
 rcases h' with e1 | ⟨u, z, u1, u2, u3, u4⟩
 ·have : x = 0 := by omega
  subst this
  simp
 have a1 := t4.mono c1
 have a2 := u4.mono c2
 rcases Int.lt_trichotomy t u with hlt | heq | hgt
 ·have := (t2.later hg hlt u2.1).mono (show x ≤ y by omega)
  exact ((a1.trans this.symm).trans a2.symm).2.2
 ·subst heq
  exact (a1.trans a2.symm).2.2
 ·have := (u2.later hg hgt t2.1).mono (show x ≤ z by omega)
  exact ((a1.trans this).trans a2.symm).2.2
def Front (k : Nat) (G : Ghost) (a : List ByteArray) : Prop := ∃ T l c, CmOk k G T l c ∧ datas (l.take c) = a
theorem Front.nil (k : Nat) (G : Ghost) : Front k G [] := ⟨0, [], 0, .inl rfl, rfl⟩
theorem Front.grow {G' : Ghost} {a : List ByteArray} (h : Front k G a) (e : Grow k G G') : Front k G' a := by
 obtain ⟨T, l, c, h1, h2⟩ := h
 exact ⟨T, l, c, e.ok _ _ _ h1, h2⟩
theorem datas_append (a b : List Entry) : datas (a ++ b) = datas a ++ datas b := by
 unfold datas
 rw [List.filter_append, List.map_append]
theorem datas_le {l l' : List Entry} {c c' : Nat} (h : c ≤ c') (e : l.take c = l'.take c) : ∃ x, datas (l'.take c') = datas (l.take c) ++ x := by
 refine ⟨datas ((l'.take c').drop c), ?_⟩
 rw [e, ← datas_append]
 congr 1
 have := List.take_append_drop c (l'.take c')
 rw [List.take_take, Nat.min_eq_left h] at this
 exact this.symm
theorem Front.two (hg : GInv k G) {a b : List ByteArray} (h : Front k G a) (h' : Front k G b) : (∃ x, b = a ++ x) ∨ ∃ x, a = b ++ x := by
 obtain ⟨T, l, c, h1, rfl⟩ := h
 obtain ⟨T', l', c', h2, rfl⟩ := h'
 by_cases hc : c ≤ c'
 ·exact .inl (datas_le hc (h1.two hg h2 (Nat.le_refl _) hc))
 ·exact .inr (datas_le (by omega) (h2.two hg h1 (Nat.le_refl _) (by omega)))
theorem Front.agree (hg : GInv k G) {a b : List ByteArray} (h : Front k G a) (h' : Front k G b) : a.take (min a.length b.length) = b.take (min a.length b.length) := by
 rcases Front.two hg h h' with ⟨x, rfl⟩ | ⟨x, rfl⟩
 ·rw [List.length_append, Nat.min_eq_left (by omega), List.take_length, List.take_append_of_le_length (Nat.le_refl _), List.take_length]
 ·rw [List.length_append, Nat.min_eq_right (by omega), List.take_length, List.take_append_of_le_length (Nat.le_refl _), List.take_length]
theorem GI.front (h : GI k G s) (id : Int) : Front k G (s.applied id) := by
 unfold GS.applied
 split
 ·rename_i hu
  obtain ⟨h0, h1⟩ := isUp_bounds hu
  exact ⟨_, _, _, (h.at h0 h1).cm.2, rfl⟩
 ·exact Front.nil k G
def longer (a b : List ByteArray) : List ByteArray := a.take (min a.length b.length) ++ (b.drop (min b.length a.length) ++ a.drop (min a.length b.length))
theorem Front.longer {a b : List ByteArray} (hg : GInv k G) (h : Front k G a) (h' : Front k G b) : Front k G (longer a b) := by
 have e := Front.agree hg h h'
 unfold Fed.longer
 by_cases hl : a.length ≤ b.length
 ·rw [Nat.min_eq_left hl, Nat.min_eq_right hl, List.drop_length, List.append_nil]
  rw [Nat.min_eq_left hl] at e
  rw [e, List.take_append_drop]
  exact h'
 ·rw [Nat.min_eq_right (by omega), Nat.min_eq_left (by omega), List.drop_length, List.nil_append, List.take_append_drop]
  exact h
end
end Fed
