/- What one leader is handed is applied in that order, in plain Lean: the law's states and what is true of them. -/
import Derived.KernelRfl
import Derived.Test.YtnkmljdkokcdjaaOc
import Derived.Test.YtnkmljdkokcdjaaMh
set_option linter.unusedVariables false
set_option linter.unusedSimpArgs false
namespace Fed
open Go Go.RowKit Go.Proofs.Ytnkmljdkokcdjaa
set_option linter.unusedVariables false

def o1 (k : Nat) : GS := settleS 30 (GS.new k)
def oL (k : Nat) (n : Node) : Bool := decide (n.id = 0) && decide (n.term = 1) && decide (n.role = 2) && decide (n.log.map (·.term) = [1]) && decide (n.log.map (·.data) = [⟨#[]⟩]) && decide (n.votes.length = k) && decide (n.nxt = 1 :: List.replicate (k - 1) 2) && decide (n.mtch = List.replicate k 1) && decide (n.forms.length = k) && decide (n.commit = 1) && decide (n.clock = 30)
def oF (k : Nat) (j : Nat) (n : Node) : Bool := decide (n.id = (j : Int)) && decide (n.term = 1) && decide (n.role = 0) && decide (n.log.map (·.term) = [1]) && decide (n.log.map (·.data) = [⟨#[]⟩]) && decide (n.votes.length = k) && decide (0 ≤ n.commit ∧ n.commit ≤ 1) && decide (n.clock + 7 ≤ n.due)
def o1Ok (k : Nat) : Bool := decide ((o1 k).ns.length = k) && decide ((o1 k).us = List.replicate k true) && (o1 k).f.isEmpty && oL k (nd (o1 k) 0) && (List.range k).all fun j => decide (j = 0) || oF k j (nd (o1 k) j)
theorem o1_all : ([1, 2, 3, 4, 5].all fun k => o1Ok k) = true := by kernel_rfl
theorem log_one {l : List Entry} (h1 : l.map (·.term) = [1]) (h2 : l.map (·.data) = [⟨#[]⟩]) : l = [⟨1, ⟨#[]⟩⟩] := by
  match l, h1, h2 with
  | [⟨t, d⟩], h1, h2 =>
    simp at h1 h2
    rw [h1, h2]
  | [], h1, _ => simp at h1
  | _ :: _ :: _, h1, _ => simp at h1
theorem getD_repv {k j : Nat} {v : Int} (hj : j < k) : (List.replicate k v).getD j 0 = v := by
  rw [List.getD_eq_getElem?_getD, List.getElem?_replicate, if_pos hj]; rfl
def Wn (i : Nat) : List Entry := ⟨1, ⟨#[]⟩⟩ :: (List.range i).map fun j => ⟨1, letter j⟩
theorem Wn_succ (i : Nat) : Wn (i + 1) = Wn i ++ [⟨1, letter i⟩] := by
  unfold Wn
  rw [List.range_succ, List.map_append]; rfl
theorem Wn_len (i : Nat) : (Wn i).length = i + 1 := by unfold Wn; simp
theorem Wn_one : ∀ i, OneT (Wn i)
  | 0 => fun c c1 c2 => by
    obtain rfl : c = 1 := by rw [Wn_len] at c2; omega
    rfl
  | i + 1 => by rw [Wn_succ]; exact (Wn_one i).snoc _
theorem o1_ord {k : Nat} (h1 : 1 ≤ k) (h5 : k ≤ 5) : Ord k (Wn 0) 7 (fun _ => 1) (o1 k) ∧ (nd (o1 k) 0).clock = 30 ∧ (o1 k).f = [] := by
  have h := o1_all
  rw [List.all_eq_true] at h
  have hk := h k (by have : k = 1 ∨ k = 2 ∨ k = 3 ∨ k = 4 ∨ k = 5 := by omega
                     rcases this with rfl | rfl | rfl | rfl | rfl <;> simp)
  unfold o1Ok oL at hk
  simp only [Bool.and_eq_true, decide_eq_true_eq, List.all_eq_true, Bool.or_eq_true, List.isEmpty_iff] at hk
  obtain ⟨⟨⟨⟨a1, a2⟩, a3⟩, ⟨⟨⟨⟨⟨⟨⟨⟨⟨⟨b1, b2⟩, b3⟩, b4⟩, b5⟩, b6⟩, b7⟩, b8⟩, b9⟩, b10⟩, b11⟩⟩, a4⟩ := hk
  have hw : (Wn 0).length = 1 := Wn_len 0
  have hnx : ∀ j, 1 ≤ j → j < k → (nd (o1 k) 0).nxt.getD j 0 = 2 := fun j hj1 hj => by
    obtain ⟨j', rfl⟩ : ∃ j', j = j' + 1 := ⟨j - 1, by omega⟩
    rw [b7, List.getD_cons_succ]; exact getD_repv (by omega)
  have hmt : ∀ j, j < k → (nd (o1 k) 0).mtch.getD j 0 = 1 := fun j hj => by rw [b8]; exact getD_repv hj
  refine ⟨⟨a1, a2, ⟨b1, b2, b3, log_one b4 b5, b6, by rw [b7, List.length_cons, List.length_replicate]; omega, by rw [b8, List.length_replicate], b9, by rw [b10, hw]; omega, fun j hj => by rw [hmt j hj, hw]; omega, fun j hj => ?_, by rw [hmt 0 (by omega), hw]; rfl⟩, fun j hj1 hj => ?_, fun j hj1 hj => by rw [hmt j hj]; exact Int.le_refl _, fun j hj1 hj => by rw [hnx j hj1 hj, hmt j hj]; rfl, fun m hm => (by rw [a3] at hm; cases hm), fun _ => by rw [b10, hw]; rfl⟩, b11, a3⟩
  · by_cases hj0 : j = 0
    · subst hj0; rw [b7, List.getD_cons_zero, hw]; omega
    · rw [hnx j (by omega) hj, hw]; omega
  · have c := a4 j (List.mem_range.2 hj)
    rcases c with c | c
    · omega
    · unfold oF at c
      simp only [Bool.and_eq_true, decide_eq_true_eq] at c
      obtain ⟨⟨⟨⟨⟨⟨⟨c1, c2⟩, c3⟩, c4⟩, c5⟩, c6⟩, c7⟩, c8⟩ := c
      exact ⟨c1, c2, c3, log_one c4 c5, by rw [hw]; exact Nat.le_refl _, c6, by rw [hw]; exact c7, c8⟩
/-- What the law does behind a proposal. -/
def act (v : Int) (s : GS) : GS := if wi v 4 = 0 then s.cut 0 else if wi v 4 = 1 then s.twice 0 else if wi v 4 = 2 then s.deliver (wi (v.tdiv 4) (mx 1 s.f.length)) else s
def o2 (k : Nat) (l : List Int) : Nat → GS
  | 0 => o1 k
  | i + 1 => if i < l.length then act (l.getD i 0) ((o2 k l i).prop 0 (letter i)) else (o2 k l i).prop 0 (letter i)
def o3 (k : Nat) (l : List Int) (i : Nat) : GS := settleS 30 (o2 k l i)
/-- The leader is handed data. -/
theorem Ord.prop {k : Nat} {W : List Entry} {A : Nat → Nat} {s : GS} (h : Ord k W 7 A s) (hk : 0 < k) (d : ByteArray) :
    s.propOk 0 = true ∧ Ord k (W ++ [⟨1, d⟩]) 7 A (s.prop 0 d) ∧ (nd (s.prop 0 d) 0).clock = (nd s 0).clock ∧ wsum (s.prop 0 d).f ≤ wsum s.f + 2 * k := by
  have hup : s.isUp 0 = true := by
    unfold GS.isUp
    have := us_get h.us hk
    rw [h.nl]
    show (decide (0 ≤ (0 : Int)) && decide ((0 : Int) < (k : Int)) && s.us.getD 0 false) = true
    rw [this]; simp; exact hk
  have hrole : (s.node 0).role = 2 := h.ld.rl
  have e : s.prop 0 d = ⟨s.ns.set 0 (putN (nd s 0) d), s.us, s.f ++ spreadMsgs (putN (nd s 0) d) k⟩ := by
    unfold GS.prop
    rw [if_pos hup]
    have e1 : proposeS (s.node 0) d = putS ⟨s.node 0, []⟩ d := by
      unfold proposeS
      exact if_pos ⟨hrole, by have : (s.node 0).id = 0 := h.ld.id
                              rw [this]; exact ⟨Int.le_refl _, by have : (s.node 0).votes.length = k := h.ld.vl
                                                                  rw [this]; omega⟩⟩
    rw [e1]
    have hv : (s.node 0).votes.length = k := h.ld.vl
    unfold GS.put putS
    rw [hv]; rfl
  have l := h.ld
  have hw : (W ++ [(⟨1, d⟩ : Entry)]).length = W.length + 1 := by simp
  have hid : (nd s 0).id.toNat = 0 := by rw [l.id]; rfl
  have hm0 : (putN (nd s 0) d).mtch.getD 0 0 = W.length + 1 := by
    show ((nd s 0).mtch.set (nd s 0).id.toNat ((nd s 0).log.length + 1)).getD 0 0 = _
    rw [hid, getD_set_eq (by rw [l.ml]; exact hk), l.lg]
  have hmn : ∀ q, q ≠ 0 → (putN (nd s 0) d).mtch.getD q 0 = (nd s 0).mtch.getD q 0 := fun q hq => by
    show ((nd s 0).mtch.set (nd s 0).id.toNat ((nd s 0).log.length + 1)).getD q 0 = _
    rw [hid]; exact getD_set_ne (fun c => hq c.symm)
  have hcm : (putN (nd s 0) d).commit = if k = 1 then (W.length : Int) + 1 else (nd s 0).commit := by
    show (if (nd s 0).votes.length = 1 then ((nd s 0).log.length : Int) + 1 else (nd s 0).commit) = _
    rw [l.vl, l.lg]
  have L : LdN k (W ++ [⟨1, d⟩]) (putN (nd s 0) d) := by
    refine ⟨l.id, l.tm, l.rl, ?_, l.vl, l.xl, ?_, l.fl, ?_, fun q hq => ?_, fun q hq => ?_, ?_⟩
    · show (nd s 0).log ++ [⟨(nd s 0).term, d⟩] = _
      rw [l.lg, l.tm]
    · show ((nd s 0).mtch.set _ _).length = k
      rw [List.length_set]; exact l.ml
    · rw [hcm, hw]
      have := l.cm
      split <;> omega
    · rw [hw]
      by_cases hq0 : q = 0
      · subst hq0; rw [hm0]; omega
      · rw [hmn q hq0]; have := l.mt q hq; omega
    · rw [hw]; have := l.nx q hq
      show 1 ≤ (nd s 0).nxt.getD q 0 ∧ (nd s 0).nxt.getD q 0 ≤ _
      omega
    · rw [hm0, hw]; rfl
  have hn : ∀ q, q ≠ 0 → nd (s.prop 0 d) q = nd s q := fun q hq => by rw [e]; exact nd_set_ne (fun c => hq c.symm)
  have hn0 : nd (s.prop 0 d) 0 = putN (nd s 0) d := by rw [e]; exact nd_set_eq (by rw [h.nl]; exact hk)
  have hm' : ∀ j, 1 ≤ j → j < k → (putN (nd s 0) d).mtch.getD j 0 ≤ A j := fun j hj1 hj => by rw [hmn j (by omega)]; exact h.mt j hj1 hj
  have hx' : ∀ j, 1 ≤ j → j < k → (putN (nd s 0) d).nxt.getD j 0 = (putN (nd s 0) d).mtch.getD j 0 + 1 := fun j hj1 hj => by rw [hmn j (by omega)]; exact h.nx j hj1 hj
  refine ⟨by unfold GS.propOk; rw [hup, hrole]; rfl, ⟨by rw [e]; show (s.ns.set _ _).length = k; rw [List.length_set]; exact h.nl, by rw [e]; exact h.us, by rw [hn0]; exact L, fun j hj1 hj => by rw [hn j (by omega)]; exact (h.fo j hj1 hj).snoc _, fun j hj1 hj => by rw [hn0]; exact hm' j hj1 hj, fun j hj1 hj => by rw [hn0]; exact hx' j hj1 hj, fun m hm => ?_, fun hall => ?_⟩, by rw [hn0]; rfl, ?_⟩
  · rw [e] at hm
    rcases List.mem_append.1 hm with hm | hm
    · obtain ⟨j, i, q1, q2, q3, q4⟩ := h.ms m hm
      exact ⟨j, i, q1, q2, q3, q4.imp (fun c => c.snoc _) id⟩
    · exact Ord.spread L hm' hx' m hm
  · rw [hn0] at hall ⊢
    rw [hcm, hw]
    by_cases hk1 : k = 1
    · rw [if_pos hk1]; rfl
    · exfalso
      have a := hall 1 (by omega)
      rw [hmn 1 (by omega), hw] at a
      have b := l.mt 1 (by omega)
      omega
  · rw [e]
    show wsum (s.f ++ _) ≤ _
    rw [wsum_append]
    have := spread_wsum (putN (nd s 0) d) k
    omega
theorem Ord.sub {k : Nat} {W : List Entry} {A : Nat → Nat} {s : GS} {f : List Msg} (h : Ord k W 7 A s) (hf : ∀ m, m ∈ f → m ∈ s.f) : Ord k W 7 A ⟨s.ns, s.us, f⟩ := ⟨h.nl, h.us, h.ld, h.fo, h.mt, h.nx, fun m hm => h.ms m (hf m hm), h.al⟩
theorem Ord.act {k : Nat} {W : List Entry} {A : Nat → Nat} {s : GS} (h : Ord k W 7 A s) (hW : OneT W) (v : Int) : ∃ A', Ord k W 7 A' (act v s) ∧ (nd (act v s) 0).clock = (nd s 0).clock ∧ wsum (act v s).f ≤ wsum s.f + 2 := by
  unfold Fed.act
  by_cases h0 : wi v 4 = 0
  · rw [if_pos h0]
    unfold GS.cut
    by_cases hh : s.has 0 = true
    · rw [if_pos hh]
      refine ⟨A, h.sub (fun m hm => List.mem_of_mem_eraseIdx hm), rfl, ?_⟩
      show wsum (s.f.eraseIdx 0) ≤ _
      cases hf : s.f with
      | nil => exact Nat.zero_le _
      | cons m r => show wsum r ≤ wt m + wsum r + 2; omega
    · rw [if_neg hh]
      exact ⟨A, h, rfl, by omega⟩
  rw [if_neg h0]
  by_cases h1 : wi v 4 = 1
  · rw [if_pos h1]
    unfold GS.twice
    by_cases hh : s.has 0 = true
    · rw [if_pos hh]
      have hm0 : s.msg 0 ∈ s.f := by
        unfold GS.has at hh
        simp at hh
        unfold GS.msg
        show s.f.getD 0 noMsg ∈ s.f
        rw [List.getD_eq_getElem?_getD, List.getElem?_eq_getElem hh]
        exact List.getElem_mem hh
      refine ⟨A, h.sub (fun m hm => ?_), rfl, ?_⟩
      · rcases List.mem_append.1 hm with hm | hm
        · exact hm
        · rw [List.mem_singleton.1 hm]; exact hm0
      · show wsum (s.f ++ [s.msg 0]) ≤ _
        rw [wsum_append]
        have := wt_pos (s.msg 0)
        show _ + (wt (s.msg 0) + 0) ≤ _
        omega
    · rw [if_neg hh]
      exact ⟨A, h, rfl, by omega⟩
  rw [if_neg h1]
  by_cases h2 : wi v 4 = 2
  · rw [if_pos h2]
    have hr := wi_range (v.tdiv 4) (mx 1 s.f.length) (by rw [mx_eq]; omega)
    obtain ⟨x, hx⟩ : ∃ x : Nat, wi (v.tdiv 4) (mx 1 s.f.length) = x := ⟨_, (Int.toNat_of_nonneg hr.1).symm⟩
    rw [hx]
    by_cases hl : x < s.f.length
    · obtain ⟨A', _, o, mo, hw, _⟩ := h.dv hW (Int.le_refl _) (a := x) (List.getElem?_eq_getElem hl)
      exact ⟨A', o, mo.ck 0, by omega⟩
    · rw [deliver_none (by unfold GS.has; rw [decide_eq_false (show ¬ (x : Int) < (s.f.length : Int) by omega)]; simp)]
      exact ⟨A, h, rfl, by omega⟩
  rw [if_neg h2]
  exact ⟨A, h, rfl, by omega⟩
theorem o2_ord {k : Nat} (h1 : 1 ≤ k) (h5 : k ≤ 5) (l : List Int) : ∀ i, i ≤ 12 → ∃ A, Ord k (Wn i) 7 A (o2 k l i) ∧ (nd (o2 k l i) 0).clock = 30 ∧ wsum (o2 k l i).f ≤ 12 * i
  | 0, _ => ⟨_, (o1_ord h1 h5).1, (o1_ord h1 h5).2.1, by
    show wsum (o1 k).f ≤ _
    rw [(o1_ord h1 h5).2.2]; exact Nat.le_refl _⟩
  | i + 1, hi => by
    obtain ⟨A, o, c, w⟩ := o2_ord h1 h5 l i (by omega)
    obtain ⟨_, p1, p2, p3⟩ := o.prop (by omega) (letter i)
    rw [← Wn_succ] at p1
    unfold o2
    by_cases hl : i < l.length
    · rw [if_pos hl]
      obtain ⟨A', q1, q2, q3⟩ := p1.act (Wn_one _) (l.getD i 0)
      exact ⟨A', q1, q2.trans (p2.trans c), by omega⟩
    · rw [if_neg hl]
      exact ⟨A, p1, p2.trans c, by omega⟩
theorem Ord.lead {k : Nat} {W : List Entry} {d : Int} {A : Nat → Nat} {s : GS} (h : Ord k W d A s) (hk : 0 < k) : s.leader = 0 := by
  have key : ∀ i, i ≤ k → s.leadTo i = if i = 0 then -1 else 0 := by
    intro i
    induction i with
    | zero => intro _; rfl
    | succ i ih =>
      intro hi
      have ih := ih (by omega)
      unfold GS.leadTo
      rw [if_neg (show ¬ i + 1 = 0 by omega), us_get h.us (show i < k by omega)]
      by_cases h0 : i = 0
      · subst h0
        have hr : (s.ns.getD 0 blank).role = 2 := h.ld.rl
        rw [if_pos]
        · rfl
        · rw [hr]; rfl
      · have hr : (s.ns.getD i blank).role = 0 := (h.fo i (by omega) (by omega)).rl
        rw [if_neg]
        · rw [ih, if_neg h0]
        · rw [hr]; simp
  unfold GS.leader
  rw [h.nl, key k (Nat.le_refl _), if_neg (by omega)]
theorem letter12 : ∀ i, i < 12 → (letter i).toList.isEmpty = false := by
  intro i hi
  have h : i = 0 ∨ i = 1 ∨ i = 2 ∨ i = 3 ∨ i = 4 ∨ i = 5 ∨ i = 6 ∨ i = 7 ∨ i = 8 ∨ i = 9 ∨ i = 10 ∨ i = 11 := by omega
  rcases h with rfl | rfl | rfl | rfl | rfl | rfl | rfl | rfl | rfl | rfl | rfl | rfl <;> decide +kernel
theorem datas_Wn {i : Nat} (hi : i ≤ 12) : datas (Wn i) = (List.range i).map letter := by
  unfold datas Wn
  rw [List.filter_cons, if_neg (by decide +kernel), List.filter_eq_self.2, List.map_map]
  · rfl
  · intro e he
    obtain ⟨j, hj, rfl⟩ := List.mem_map.1 he
    have := letter12 j (by have := List.mem_range.1 hj; omega)
    show (!(letter j).toList.isEmpty) = true
    rw [this]; rfl
/-- All of the law, but the walk. -/
theorem order_facts {k : Nat} (h1 : 1 ≤ k) (h5 : k ≤ 5) (l : List Int) {i : Nat} (hi : i ≤ 12) :
    (o1 k).leader = 0 ∧ (o2 k l i).propOk 0 = true ∧ (o3 k l i).leader = 0 ∧ ∀ j : Nat, j < k → (o3 k l i).applied (j : Int) = (List.range i).map letter := by
  obtain ⟨A, o, c, w⟩ := o2_ord h1 h5 l i hi
  have hst : St k (Wn i) 0 (o2 k l i) := ⟨⟨A, o⟩, by rw [c]; omega, by rw [c]; rfl, by omega, fun j hj1 hj => (o.ld.mt j hj).1⟩
  obtain ⟨A', o', hall⟩ := settle_all hst (Wn_one i) (by omega) h5 (by rw [Wn_len]; omega)
  refine ⟨(o1_ord h1 h5).1.lead (by omega), (o.prop (by omega) (letter i)).1, o'.lead (by omega), fun j hj => ?_⟩
  obtain ⟨e1, e2⟩ := hall j hj
  unfold GS.applied
  have hup : (o3 k l i).isUp (j : Int) = true := by
    unfold GS.isUp
    have := us_get o'.us hj
    rw [Int.toNat_natCast]
    show (decide (0 ≤ (j : Int)) && decide ((j : Int) < ((settleS 30 (o2 k l i)).ns.length : Int)) && (settleS 30 (o2 k l i)).us.getD j false) = true
    rw [this, o'.nl]; simp; exact hj
  rw [if_pos hup]
  have en : (o3 k l i).node (j : Int) = nd (settleS 30 (o2 k l i)) j := by unfold GS.node nd o3; rw [Int.toNat_natCast]
  unfold appliedN
  rw [en, e1, e2, Int.toNat_natCast, List.take_length]
  exact datas_Wn hi
end Fed
