/- A group with a leader that stays, in plain Lean: two rounds, and all the rounds of a settle: all have all. -/
import Derived.Test.YtnkmljdkokcdjaaOb
import Derived.Test.YtnkmljdkokcdjaaGu
set_option linter.unusedVariables false
set_option linter.unusedSimpArgs false
namespace Fed
open Go Go.RowKit Go.Proofs.Ytnkmljdkokcdjaa
set_option linter.unusedVariables false

theorem drain_ord {k : Nat} {W : List Entry} {d : Int} (hW : OneT W) (hd : d ≤ 7) : ∀ (q : Nat) (A : Nat → Nat) (s : GS), Ord k W d A s → wsum s.f ≤ q →
    ∃ A', Ord k W d A' (drain q s) ∧ Mono s (drain q s) ∧ (drain q s).f = [] ∧ ∀ (T : Nat) (C : Int) (j : Nat), 1 ≤ j → j < k → C ≤ (T : Int) → Pend k W T C s j → Pend k W T C (drain q s) j
  | 0, A, s, h, hq => ⟨A, h, Mono.refl s, wsum_zero (show wsum s.f = 0 by omega), fun _ _ _ _ _ _ p => p⟩
  | q + 1, A, s, h, hq => by
    cases hf : s.f with
    | nil =>
      have e : drain (q + 1) s = s := by
        unfold Go.Proofs.Ytnkmljdkokcdjaa.drain
        rw [if_neg (by unfold GS.has; rw [hf]; simp)]
      rw [e]
      exact ⟨A, h, Mono.refl s, hf, fun _ _ _ _ _ _ p => p⟩
    | cons m rest =>
      have e : drain (q + 1) s = drain q (s.deliver 0) := by
        show (if s.has 0 = true then _ else _) = _
        rw [if_pos (by unfold GS.has; rw [hf]; simp)]
      obtain ⟨A', _, o, mo, hw, hp⟩ := h.dv hW hd (a := 0) (m := m) (by rw [hf]; rfl)
      have o' : Ord k W d A' (s.deliver 0) := o
      have hw' : wsum (s.deliver 0).f + 1 ≤ wsum s.f := hw
      obtain ⟨A'', o2, mo2, f2, hp2⟩ := drain_ord hW hd q A' (s.deliver 0) o' (by omega)
      rw [e]
      exact ⟨A'', o2, mo.trans mo2, f2, fun T C j h1 h2 h3 p => hp2 T C j h1 h2 h3 (hp T C j h1 h2 h3 p)⟩
/-- One tick of the clock. -/
def tk (n : Node) : Node := { n with clock := n.clock + 1 }
theorem tick_ld {k : Nat} {W : List Entry} {n : Node} (h : LdN k W n) (hk : 0 < k) : tickS n = ⟨tk n, if (n.clock + 1).tmod 2 = 0 then spreadMsgs (tk n) k else []⟩ := by
  unfold tickS
  rw [if_neg (by rw [decide_eq_true (show 0 ≤ n.id ∧ n.id < n.votes.length from by rw [h.id, h.vl]; omega)]; simp), if_pos h.rl]
  by_cases hc : (n.clock + 1).tmod 2 = 0
  · rw [if_pos hc, if_pos hc, h.vl]; rfl
  · rw [if_neg hc, if_neg hc]; rfl
theorem tick_fo {k j a : Nat} {W : List Entry} {d : Int} {n : Node} (h : FoN k W d j a n) (hj : j < k) (hd : 2 ≤ d) : tickS n = ⟨tk n, []⟩ := by
  unfold tickS
  rw [if_neg (by rw [decide_eq_true (show 0 ≤ n.id ∧ n.id < n.votes.length from by rw [h.id, h.vl]; omega)]; simp), if_neg (by rw [h.rl]; omega), if_neg (by have := h.du; omega)]
  rfl
theorem tick_at {k i : Nat} {s : GS} {n' : Node} {out : List Msg} (hl : s.ns.length = k) (hu : s.us = List.replicate k true) (hi : i < k) (e : tickS (nd s i) = ⟨n', out⟩) : s.tick (i : Int) = ⟨s.ns.set i n', s.us, s.f ++ out⟩ := by
  unfold GS.tick
  have hup : s.isUp (i : Int) = true := by
    unfold GS.isUp; rw [Int.toNat_natCast, us_get hu hi, hl]; simp; exact hi
  rw [if_pos hup]
  unfold GS.put GS.node
  rw [Int.toNat_natCast]
  have e' : tickS (s.ns.getD i blank) = ⟨n', out⟩ := e
  rw [e']
theorem tick_out {k i : Nat} {s : GS} (hl : s.ns.length = k) (hi : k ≤ i) : s.tick (i : Int) = s := by
  unfold GS.tick
  rw [if_neg]
  unfold GS.isUp
  rw [hl, decide_eq_false (show ¬ (i : Int) < (k : Int) by omega)]; simp
/-- The ticks of a round. -/
theorem ticks_ord {k : Nat} {W : List Entry} {d : Int} {A : Nat → Nat} {s : GS} (h : Ord k W d A s) (hk : 0 < k) (hd : 2 ≤ d) : ∀ i : Nat,
    (ticksTo s i).ns.length = k ∧ (ticksTo s i).us = s.us ∧ (∀ j, j < k → nd (ticksTo s i) j = if j < i then tk (nd s j) else nd s j) ∧ (1 ≤ i → (ticksTo s i).f = s.f ++ if ((nd s 0).clock + 1).tmod 2 = 0 then spreadMsgs (tk (nd s 0)) k else []) ∧ (i = 0 → (ticksTo s i).f = s.f)
  | 0 => ⟨h.nl, rfl, fun j _ => by rw [if_neg (by omega)]; rfl, fun c => absurd c (by omega), fun _ => rfl⟩
  | i + 1 => by
    obtain ⟨h1, h2, h3, h4, h5⟩ := ticks_ord h hk hd i
    show _ ∧ _
    have e : ticksTo s (i + 1) = (ticksTo s i).tick (i : Int) := rfl
    rw [e]
    by_cases hi : i < k
    · have hni := h3 i hi
      rw [if_neg (by omega)] at hni
      have hnodes : ∀ j, j < k → nd ⟨(ticksTo s i).ns.set i (tk (nd s i)), (ticksTo s i).us, []⟩ j = if j < i + 1 then tk (nd s j) else nd s j := fun j hj => by
        by_cases hji : j = i
        · subst hji
          rw [if_pos (by omega)]
          exact nd_set_eq (by rw [h1]; exact hj)
        · have e2 : nd ⟨(ticksTo s i).ns.set i (tk (nd s i)), (ticksTo s i).us, []⟩ j = nd (ticksTo s i) j := nd_set_ne (fun c => hji c.symm)
          rw [e2, h3 j hj]
          by_cases hj2 : j < i
          · rw [if_pos hj2, if_pos (by omega)]
          · rw [if_neg hj2, if_neg (by omega)]
      by_cases hi0 : i = 0
      · subst hi0
        have et := tick_ld h.ld hk
        rw [← hni] at et
        rw [tick_at h1 (h2.trans h.us) hk et, hni]
        refine ⟨by show ((ticksTo s 0).ns.set _ _).length = k; rw [List.length_set]; exact h1, h2, fun j hj => hnodes j hj, fun _ => ?_, fun c => absurd c (by omega)⟩
        show (ticksTo s 0).f ++ _ = _
        rw [h5 rfl]
      · have et := tick_fo (h.fo i (by omega) hi) hi hd
        rw [← hni] at et
        rw [tick_at h1 (h2.trans h.us) hi et, hni]
        refine ⟨by show ((ticksTo s i).ns.set _ _).length = k; rw [List.length_set]; exact h1, h2, fun j hj => hnodes j hj, fun _ => ?_, fun c => absurd c (by omega)⟩
        show (ticksTo s i).f ++ [] = _
        rw [List.append_nil]
        exact h4 (by omega)
    · rw [tick_out h1 (by omega)]
      refine ⟨h1, h2, fun j hj => ?_, fun _ => h4 (by omega), fun c => absurd c (by omega)⟩
      rw [h3 j hj, if_pos (by omega), if_pos (by omega)]
theorem LdN.tk {k : Nat} {W : List Entry} {n : Node} (h : LdN k W n) : LdN k W (tk n) := ⟨h.id, h.tm, h.rl, h.lg, h.vl, h.xl, h.ml, h.fl, h.cm, h.mt, h.nx, h.m0⟩
theorem FoN.tk {k j a : Nat} {W : List Entry} {d : Int} {n : Node} (h : FoN k W d j a n) : FoN k W (d - 1) j a (tk n) := ⟨h.id, h.tm, h.rl, h.lg, h.al, h.vl, h.cm, by show n.clock + 1 + (d - 1) ≤ n.due; have := h.du; omega⟩
/-- What the leader sends to all. -/
theorem Ord.spread {k : Nat} {W : List Entry} {A : Nat → Nat} {n : Node} (l : LdN k W n) (hm : ∀ j, 1 ≤ j → j < k → n.mtch.getD j 0 ≤ A j) (hx : ∀ j, 1 ≤ j → j < k → n.nxt.getD j 0 = n.mtch.getD j 0 + 1) : ∀ m, m ∈ spreadMsgs n k → ∃ j i, 1 ≤ j ∧ j < k ∧ i ≤ A j ∧ (AppOk k W j i m ∨ (MatOk j i m ∧ m.ok = true)) := fun m h => by
  obtain ⟨j, hj, hne, rfl⟩ := mem_spread h
  have hj1 : 1 ≤ j := by have := l.id; omega
  refine ⟨j, _, hj1, hj, ?_, .inl (ld_entries l hj1 hj).1⟩
  have := hm j hj1 hj; have := hx j hj1 hj; omega
theorem mem_spread' {n : Node} {k j : Nat} (hj : j < k) (hne : (j : Int) ≠ n.id) : entriesMsg n (j : Int) ∈ spreadMsgs n k := by
  unfold spreadMsgs
  exact List.mem_map.2 ⟨j, List.mem_filter.2 ⟨List.mem_range.2 hj, by simpa using hne⟩, rfl⟩
/-- Behind the ticks of a round. -/
theorem Ord.ticked {k : Nat} {W : List Entry} {d : Int} {A : Nat → Nat} {s : GS} (h : Ord k W d A s) (hk : 0 < k) (hk5 : k ≤ 5) (hd : 2 ≤ d) : Ord k W (d - 1) A (ticksTo s 5) ∧ (∀ j, j < k → nd (ticksTo s 5) j = tk (nd s j)) ∧ (ticksTo s 5).f = s.f ++ if ((nd s 0).clock + 1).tmod 2 = 0 then spreadMsgs (tk (nd s 0)) k else [] := by
  obtain ⟨h1, h2, h3, h4, _⟩ := ticks_ord h hk hd 5
  have hn : ∀ j, j < k → nd (ticksTo s 5) j = tk (nd s j) := fun j hj => by rw [h3 j hj, if_pos (by omega)]
  have hf := h4 (by omega)
  refine ⟨⟨h1, h2.trans h.us, by rw [hn 0 hk]; exact h.ld.tk, fun j hj1 hj => by rw [hn j hj]; exact (h.fo j hj1 hj).tk, fun j hj1 hj => by rw [hn 0 hk]; exact h.mt j hj1 hj, fun j hj1 hj => by rw [hn 0 hk]; exact h.nx j hj1 hj, fun m hm => ?_, by rw [hn 0 hk]; exact h.al⟩, hn, hf⟩
  rw [hf] at hm
  rcases List.mem_append.1 hm with hm | hm
  · exact h.ms m hm
  · by_cases hc : ((nd s 0).clock + 1).tmod 2 = 0
    · rw [if_pos hc] at hm
      exact Ord.spread h.ld.tk h.mt h.nx m hm
    · rw [if_neg hc] at hm; cases hm
theorem spread_wsum (n : Node) (k : Nat) : wsum (spreadMsgs n k) ≤ 2 * k := by
  have := wsum_le (spreadMsgs n k); have := spreadMsgs_le n k; omega
/-- Behind each second round. -/
structure St (k : Nat) (W : List Entry) (t : Nat) (s : GS) : Prop where
  o : ∃ A, Ord k W 7 A s
  c0 : 0 ≤ (nd s 0).clock
  c2 : (nd s 0).clock.tmod 2 = 0
  ws : wsum s.f ≤ 300
  mt : ∀ j, 1 ≤ j → j < k → (t : Int) ≤ (nd s 0).mtch.getD j 0
theorem St.two {k t : Nat} {W : List Entry} {s : GS} (h : St k W t s) (hW : OneT W) (hk : 0 < k) (hk5 : k ≤ 5) (ht : t ≤ W.length) :
    St k W (min (t + 5) W.length) (roundS (roundS s)) ∧ (t = W.length → ∀ j, 1 ≤ j → j < k → (W.length : Int) ≤ (nd (roundS (roundS s)) j).commit) := by
  obtain ⟨A, o⟩ := h.o
  have hc0 := h.c0
  have hc2 := h.c2
  have hws := h.ws
  obtain ⟨o1, n1, f1⟩ := o.ticked hk hk5 (by omega)
  have hodd : ¬ ((nd s 0).clock + 1).tmod 2 = 0 := by
    rw [Int.tmod_eq_emod_of_nonneg hc0] at hc2
    rw [Int.tmod_eq_emod_of_nonneg (by omega)]; omega
  rw [if_neg hodd, List.append_nil] at f1
  obtain ⟨A1, o2, mo2, f2, _⟩ := drain_ord hW (by omega) 400 A (ticksTo s 5) o1 (by rw [f1]; omega)
  have e1 : roundS s = drain 400 (ticksTo s 5) := rfl
  rw [← e1] at o2 mo2 f2
  generalize roundS s = s1 at o2 mo2 f2 ⊢
  have hck : (nd s1 0).clock = (nd s 0).clock + 1 := by rw [mo2.ck 0, n1 0 hk]; rfl
  obtain ⟨o3, n3, f3⟩ := o2.ticked hk hk5 (by omega)
  have heven : ((nd s1 0).clock + 1).tmod 2 = 0 := by
    rw [Int.tmod_eq_emod_of_nonneg hc0] at hc2
    rw [hck, Int.tmod_eq_emod_of_nonneg (by omega)]; omega
  rw [if_pos heven, f2, List.nil_append] at f3
  have hw3 : wsum (ticksTo s1 5).f ≤ 400 := by rw [f3]; have := spread_wsum (tk (nd s1 0)) k; omega
  obtain ⟨A2, o4, mo4, f4, hp⟩ := drain_ord hW (by omega) 400 A1 (ticksTo s1 5) o3 hw3
  have e2 : roundS s1 = drain 400 (ticksTo s1 5) := rfl
  rw [← e2] at o4 mo4 f4 hp
  have hmt1 : ∀ j, 1 ≤ j → j < k → (t : Int) ≤ (nd s1 0).mtch.getD j 0 := fun j hj1 hj => by
    have a := h.mt j hj1 hj
    have b := mo2.mt j
    rw [n1 0 hk] at b
    have b' : (nd s 0).mtch.getD j 0 ≤ (nd s1 0).mtch.getD j 0 := b
    omega
  have hcm1 : t = W.length → (nd s1 0).commit = W.length := fun e => o2.al fun q hq => by
    by_cases hq0 : q = 0
    · subst hq0; exact o2.ld.m0
    · have a := hmt1 q (by omega) hq
      have b := o2.ld.mt q hq
      omega
  have key : ∀ C : Int, C ≤ 0 ∨ (t = W.length ∧ C = W.length) → ∀ j, 1 ≤ j → j < k → Pend k W (min (t + 5) W.length) C (roundS s1) j := fun C hC j hj1 hj => by
    refine hp _ C j hj1 hj (by omega) (.inl ?_)
    obtain ⟨a1, a2, a3⟩ := ld_entries o2.ld.tk hj1 hj
    refine ⟨_, _, by rw [f3]; exact mem_spread' hj (by rw [o2.ld.tk.id]; omega), a1, ?_, ?_⟩
    · rw [a2]
      have a := hmt1 j hj1 hj
      have b := o2.nx j hj1 hj
      have e : (tk (nd s1 0)).nxt.getD j 0 = (nd s1 0).nxt.getD j 0 := rfl
      rw [e]
      have c := o2.ld.mt j hj
      omega
    · rw [a3]
      have e : (tk (nd s1 0)).commit = (nd s1 0).commit := rfl
      rw [e]
      rcases hC with hC | ⟨h1, h2⟩
      · have := o2.ld.cm; omega
      · rw [hcm1 h1]; omega
  have pend_nil : ∀ C j, Pend k W (min (t + 5) W.length) C (roundS s1) j → (nd (roundS s1) j).clock + 7 ≤ (nd (roundS s1) j).due ∧ C ≤ (nd (roundS s1) j).commit ∧ ((min (t + 5) W.length : Nat) : Int) ≤ (nd (roundS s1) 0).mtch.getD j 0 := fun C j p => by
    rcases p with ⟨m, i, hm, _⟩ | ⟨p1, p2, p3⟩
    · rw [f4] at hm; cases hm
    · refine ⟨p1, p2, ?_⟩
      rcases p3 with p3 | ⟨m, i, hm, _⟩
      · exact p3
      · rw [f4] at hm; cases hm
  have hck2 : (nd (roundS s1) 0).clock = (nd s 0).clock + 2 := by
    rw [mo4.ck 0, n3 0 hk]
    show (nd s1 0).clock + 1 = _
    rw [hck]; omega
  refine ⟨⟨⟨A2, ⟨o4.nl, o4.us, o4.ld, fun j hj1 hj => ?_, o4.mt, o4.nx, o4.ms, o4.al⟩⟩, by omega, ?_, by rw [f4]; exact Nat.zero_le _, fun j hj1 hj => (pend_nil 0 j (key 0 (.inl (Int.le_refl _)) j hj1 hj)).2.2⟩, fun e j hj1 hj => (pend_nil _ j (key _ (.inr ⟨e, rfl⟩) j hj1 hj)).2.1⟩
  · have f := o4.fo j hj1 hj
    exact ⟨f.id, f.tm, f.rl, f.lg, f.al, f.vl, f.cm, (pend_nil 0 j (key 0 (.inl (Int.le_refl _)) j hj1 hj)).1⟩
  · rw [hck2, Int.tmod_eq_emod_of_nonneg (by omega)]
    rw [Int.tmod_eq_emod_of_nonneg hc0] at hc2
    omega
theorem settle_add : ∀ (a b : Nat) (s : GS), settleS (a + b) s = settleS b (settleS a s)
  | 0, b, s => by rw [Nat.zero_add]; rfl
  | a + 1, b, s => by
    rw [show a + 1 + b = (a + b) + 1 from by omega]
    exact settle_add a b (roundS s)
theorem settle_st {k : Nat} {W : List Entry} (hW : OneT W) (hk : 0 < k) (hk5 : k ≤ 5) : ∀ (r t : Nat) (s : GS), St k W t s → t ≤ W.length → St k W (min (t + 5 * r) W.length) (settleS (2 * r) s)
  | 0, t, s, h, ht => by rw [Nat.mul_zero, Nat.add_zero, Nat.min_eq_left ht]; exact h
  | r + 1, t, s, h, ht => by
    have h2 := settle_st hW hk hk5 r _ _ (h.two hW hk hk5 ht).1 (by omega)
    have e : min (min (t + 5) W.length + 5 * r) W.length = min (t + 5 * (r + 1)) W.length := by omega
    rw [e] at h2
    exact h2
/-- Behind 30 rounds all have all, and know it. -/
theorem settle_all {k : Nat} {W : List Entry} {s : GS} (h : St k W 0 s) (hW : OneT W) (hk : 0 < k) (hk5 : k ≤ 5) (hl : W.length ≤ 70) :
    ∃ A, Ord k W 7 A (settleS 30 s) ∧ ∀ j, j < k → (nd (settleS 30 s) j).log = W ∧ (nd (settleS 30 s) j).commit = W.length := by
  have h1 := settle_st hW hk hk5 14 0 s h (Nat.zero_le _)
  have e1 : min (0 + 5 * 14) W.length = W.length := by omega
  rw [e1] at h1
  have e2 : settleS 30 s = roundS (roundS (settleS (2 * 14) s)) := settle_add 28 2 s
  obtain ⟨h2, h3⟩ := h1.two hW hk hk5 (Nat.le_refl _)
  rw [← e2] at h2 h3
  obtain ⟨A, o⟩ := h2.o
  have hm := h2.mt
  rw [show min (W.length + 5) W.length = W.length from by omega] at hm
  refine ⟨A, o, fun j hj => ?_⟩
  by_cases hj0 : j = 0
  · subst hj0
    refine ⟨o.ld.lg, o.al fun q hq => ?_⟩
    by_cases hq0 : q = 0
    · subst hq0; exact o.ld.m0
    · have a := hm q (by omega) hq
      have b := o.ld.mt q hq
      omega
  · have f := o.fo j (by omega) hj
    have a := hm j (by omega) hj
    have b := o.mt j (by omega) hj
    have c := h3 rfl j (by omega) hj
    have d := f.al
    have e := f.cm
    exact ⟨by rw [f.lg, show A j = W.length from by omega, List.take_length], by omega⟩
end Fed
