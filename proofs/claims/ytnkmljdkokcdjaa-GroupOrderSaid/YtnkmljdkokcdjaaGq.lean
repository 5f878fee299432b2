/- The group's states, in plain Lean: what is known of nodes and messages goes on with each step; each may be walked. -/
import Derived.Test.YtnkmljdkokcdjaaMi
import Derived.Test.YtnkmljdkokcdjaaGg
import Derived.Test.YtnkmljdkokcdjaaGh
set_option linter.unusedVariables false
set_option linter.unusedSimpArgs false
namespace Fed
open Go Go.RowKit Go.Proofs.Ytnkmljdkokcdjaa
set_option linter.unusedVariables false
variable {k i b : Nat} {G : Ghost} {n : Node}

/-- What is sent is not much. -/
def OutOk (l : List Msg) : Prop := l.length ≤ 12 ∧ ∀ m, m ∈ l → m.entries.length ≤ 5
theorem entriesMsg_len (n : Node) (t : Int) : (entriesMsg n t).entries.length ≤ 5 := by
  show ((n.log.drop (entriesAt n t).toNat).take ((mn (entriesAt n t + 5) n.log.length).toNat - (entriesAt n t).toNat)).length ≤ 5
  rw [List.length_take, mn_eq]
  have : 0 ≤ entriesAt n t := by unfold entriesAt; rw [mx_eq]; omega
  omega
theorem spread_ok (n : Node) (l : Nat) (m : Msg) (h : m ∈ spreadMsgs n l) : m.entries.length ≤ 5 := by
  obtain ⟨j, _, _, rfl⟩ := mem_spread h
  exact entriesMsg_len n _
theorem asks_ok (n : Node) (l : Nat) (m : Msg) (h : m ∈ askMsgs n l) : m.entries.length ≤ 5 := by
  obtain ⟨j, _, _, rfl⟩ := mem_ask h
  show ([] : List Entry).length ≤ 5
  simp
theorem nil_ok : OutOk [] := ⟨by simp, by simp⟩
theorem one_ok {m : Msg} (h : m.entries.length ≤ 5) : OutOk ([] ++ [m]) := ⟨by simp, fun x hx => by simp at hx; rw [hx]; exact h⟩
theorem lead_ok (n : Node) (hv : n.votes.length ≤ 5) {out : List Msg} (h1 : out.length ≤ 5) (h2 : ∀ m, m ∈ out → m.entries.length ≤ 5) : OutOk (leadS ⟨n, out⟩).out := by
  have hs := spreadMsgs_le (putN (leadN n) ⟨#[]⟩) n.votes.length
  have e : (leadS ⟨n, out⟩).out = out ++ spreadMsgs (putN (leadN n) ⟨#[]⟩) n.votes.length := rfl
  rw [e]
  refine ⟨by rw [List.length_append]; omega, fun m hm => ?_⟩
  rcases List.mem_append.1 hm with hm | hm
  · exact h2 m hm
  · exact spread_ok _ _ m hm
theorem tick_ok (n : Node) (hv : n.votes.length ≤ 5) : OutOk (tickS n).out := by
  unfold tickS
  split
  · exact nil_ok
  split
  · split
    · have hs := spreadMsgs_le { n with clock := n.clock + 1 } n.votes.length
      exact ⟨by show (spreadMsgs _ _).length ≤ 12; omega, fun m hm => spread_ok _ _ m hm⟩
    · exact nil_ok
  split
  · have hs := askMsgs_le (standN { n with clock := n.clock + 1 }) n.votes.length
    have hl : ([] ++ askMsgs (standN { n with clock := n.clock + 1 }) n.votes.length).length ≤ 5 := by rw [List.nil_append]; omega
    have hm : ∀ m, m ∈ [] ++ askMsgs (standN { n with clock := n.clock + 1 }) n.votes.length → m.entries.length ≤ 5 := fun m hm => by rw [List.nil_append] at hm; exact asks_ok _ _ m hm
    unfold standS
    split
    · exact lead_ok _ (by show ((List.replicate n.votes.length false).set n.id.toNat true).length ≤ 5; rw [List.length_set, List.length_replicate]; exact hv) hl hm
    · exact ⟨by have := hl; show ([] ++ askMsgs (standN { n with clock := n.clock + 1 }) n.votes.length).length ≤ 12; omega, hm⟩
  · exact nil_ok
theorem prop_ok (n : Node) (d : ByteArray) (hv : n.votes.length ≤ 5) : OutOk (proposeS n d).out := by
  unfold proposeS
  split
  · have hs := spreadMsgs_le (putN n d) n.votes.length
    refine ⟨by show ([] ++ spreadMsgs (putN n d) n.votes.length).length ≤ 12; rw [List.nil_append]; omega, fun m hm => ?_⟩
    have hm' : m ∈ [] ++ spreadMsgs (putN n d) n.votes.length := hm
    rw [List.nil_append] at hm'
    exact spread_ok _ _ m hm'
  · exact nil_ok
theorem hand_ok (n : Node) (m : Msg) (hv : n.votes.length ≤ 5) : OutOk (handleS n m).out := by
  unfold handleS
  split
  · have hv' : (bump n m).votes.length ≤ 5 := by rw [bump_votes]; exact hv
    generalize bump n m = n' at hv' ⊢
    unfold handleIn
    split
    · unfold voteS
      split
      · exact one_ok (by show ([] : List Entry).length ≤ 5; simp)
      · exact one_ok (by show ([] : List Entry).length ≤ 5; simp)
    split
    · unfold votedS
      split
      · exact nil_ok
      · split
        · exact lead_ok _ (by show (n'.votes.set _ true).length ≤ 5; rw [List.length_set]; exact hv') (by simp) (by simp)
        · exact nil_ok
    split
    · unfold appendS
      split
      · exact one_ok (by show ([] : List Entry).length ≤ 5; simp)
      · split
        · exact one_ok (by show ([] : List Entry).length ≤ 5; simp)
        · exact one_ok (by show ([] : List Entry).length ≤ 5; simp)
    split
    · unfold matchS
      split
      · exact nil_ok
      · split
        · exact one_ok (entriesMsg_len _ _)
        · exact nil_ok
    · exact nil_ok
  · exact nil_ok

structure GSys (k b : Nat) (s : GS) : Prop where
  len : s.ns.length = k
  ul : s.us.length = k
  fl : s.f.length ≤ 6 * b
  inv : ∃ G, GInv k G ∧ (∀ j n, s.ns[j]? = some n → NInv k G j n) ∧ ∀ m, m ∈ s.f → MInv k G m
  nb : ∀ n, n ∈ s.ns → NBd b n
  mb : ∀ m, m ∈ s.f → MBd b m
  me : ∀ m, m ∈ s.f → m.entries.length ≤ 5
variable {s : GS}
theorem GSys.mono {b b' : Nat} (h : GSys k b s) (hb : b ≤ b') : GSys k b' s := ⟨h.len, h.ul, by have := h.fl; omega, h.inv, fun n q => (h.nb n q).mono hb, fun m q => (h.mb m q).mono hb, h.me⟩
theorem GSys.sub {f : List Msg} (h : GSys k b s) (hf : ∀ m, m ∈ f → m ∈ s.f) (hl : f.length ≤ s.f.length + 1) (us : List Bool) (hu : us.length = k) : GSys k (b + 1) ⟨s.ns, us, f⟩ := by
  obtain ⟨G, g, hn, hm⟩ := h.inv
  exact ⟨h.len, hu, by have := h.fl; show f.length ≤ _; omega, ⟨G, g, hn, fun m q => hm m (hf m q)⟩, fun n q => (h.nb n q).mono (by omega), fun m q => (h.mb m (hf m q)).mono (by omega), fun m q => h.me m (hf m q)⟩
theorem GSys.node (h : GSys k b s) {id : Int} (h0 : 0 ≤ id) (h1 : id < s.ns.length) : s.ns[id.toNat]? = some (s.node id) := by
  unfold GS.node
  rw [List.getD_eq_getElem?_getD, List.getElem?_eq_getElem (by omega)]; rfl
/-- One node goes on. -/
theorem GSys.put {r : NS} {id : Int} {b' : Nat} (h : GSys k b s) (hb : b + 2 ≤ b') (h0 : 0 ≤ id) (h1 : id < s.ns.length) (us : List Bool) (hu : us.length = k)
    (hr : ∀ G, GInv k G → NInv k G id.toNat (s.node id) → (∀ m, m ∈ s.f → MInv k G m) → Steps k id.toNat G r) (hbd : NBd b (s.node id) → SBd b' r) (ho : OutOk r.out) : GSys k b' ⟨s.ns.set id.toNat r.n, us, s.f ++ r.out⟩ := by
  obtain ⟨G, g, hn, hm⟩ := h.inv
  have hat := h.node h0 h1
  have hlt : id.toNat < s.ns.length := by omega
  obtain ⟨G', e, g', n', m'⟩ := hr G g (hn _ _ hat) hm
  obtain ⟨b1, b2⟩ := hbd (h.nb _ (List.mem_of_getElem? hat))
  refine ⟨by simp [h.len], hu, by have := h.fl; have := ho.1; simp only [List.length_append]; omega, ⟨G', g', fun j n q => ?_, fun m q => ?_⟩, fun n q => ?_, fun m q => ?_, fun m q => ?_⟩
  · have q' : (s.ns.set id.toNat r.n)[j]? = some n := q
    rw [List.getElem?_set] at q'
    by_cases hj : id.toNat = j
    · subst hj
      rw [if_pos rfl, if_pos hlt] at q'
      injection q' with q'
      subst q'
      exact n'
    · rw [if_neg hj] at q'
      exact (hn j n q').other g e (fun c => hj c.symm)
  · rcases List.mem_append.1 (show m ∈ s.f ++ r.out from q) with q' | q'
    · exact (hm m q').grow e
    · exact m' m q'
  · have q' : n ∈ s.ns.set id.toNat r.n := q
    rcases List.mem_or_eq_of_mem_set q' with q' | q'
    · exact (h.nb n q').mono (by omega)
    · rw [q']; exact b1
  · rcases List.mem_append.1 (show m ∈ s.f ++ r.out from q) with q' | q'
    · exact (h.mb m q').mono (by omega)
    · exact b2 m q'
  · rcases List.mem_append.1 (show m ∈ s.f ++ r.out from q) with q' | q'
    · exact h.me m q'
    · exact ho.2 m q'
theorem isUp_bounds {s : GS} {id : Int} (h : s.isUp id = true) : 0 ≤ id ∧ id < s.ns.length := by
  obtain ⟨i, rfl, h1, _⟩ := isUp_some h
  omega
theorem GSys.votes (h : GSys k b s) {id : Int} (h0 : 0 ≤ id) (h1 : id < s.ns.length) : (s.node id).votes.length = k := by
  obtain ⟨G, g, hn, hm⟩ := h.inv
  exact (hn _ _ (h.node h0 h1)).v
theorem GSys.tick (h : GSys k b s) (hk : k ≤ 5) (id : Int) : GSys k (b + 2) (s.tick id) := by
  unfold GS.tick
  split
  · rename_i hu
    obtain ⟨h0, h1⟩ := isUp_bounds hu
    exact h.put (Nat.le_refl _) h0 h1 s.us h.ul (fun G g n _ => tick_steps g n) (fun n => tick_bd n) (tick_ok _ (by rw [h.votes h0 h1]; exact hk))
  · exact h.mono (by omega)
theorem GSys.prop (h : GSys k b s) (hk : k ≤ 5) (id : Int) (d : ByteArray) : GSys k (b + 2) (s.prop id d) := by
  unfold GS.prop
  split
  · rename_i hu
    obtain ⟨h0, h1⟩ := isUp_bounds hu
    refine h.put (Nat.le_refl _) h0 h1 s.us h.ul (fun G g n _ => prop_steps g n d) (fun n => ?_) (prop_ok _ _ (by rw [h.votes h0 h1]; exact hk))
    have h9 := prop_bd n d
    exact ⟨h9.1.mono (by omega), fun x hx => (h9.2 x hx).mono (by omega)⟩
  · exact h.mono (by omega)
theorem GSys.crash (h : GSys k b s) (id : Int) : GSys k (b + 1) (s.crash id) := by
  unfold GS.crash
  split
  · exact h.sub (fun _ q => q) (by omega) _ (by rw [List.length_set]; exact h.ul)
  · exact h.mono (by omega)
theorem GSys.start (h : GSys k b s) (id form : Int) : GSys k (b + 2) (s.start id form) := by
  unfold GS.start
  split
  · rename_i hu
    have hb : 0 ≤ id ∧ id < s.ns.length := by
      unfold GS.startOk at hu
      simp only [Bool.and_eq_true, decide_eq_true_eq] at hu
      exact hu.1.1
    have h9 := h.put (r := ⟨restartN (s.node id) form, []⟩) (Nat.le_refl _) hb.1 hb.2 (s.us.set id.toNat true) (by rw [List.length_set]; exact h.ul) (fun G g n _ => restart_steps g n form) (fun n => ⟨(restart_bd n _).mono (by omega), by simp⟩) nil_ok
    simpa using h9
  · exact h.mono (by omega)
theorem has_bounds {s : GS} {a : Int} (h : s.has a = true) : s.msg a ∈ s.f ∧ a.toNat < s.f.length := by
  obtain ⟨i, rfl, hi⟩ := has_some h
  unfold GS.msg
  rw [Int.toNat_natCast]
  exact ⟨getD_mem hi, hi⟩
theorem GSys.cut (h : GSys k b s) (a : Int) : GSys k (b + 1) (s.cut a) := by
  unfold GS.cut
  split
  · exact h.sub (fun _ q => List.mem_of_mem_eraseIdx q) (by have := List.length_eraseIdx_le s.f a.toNat; omega) _ h.ul
  · exact h.mono (by omega)
theorem GSys.twice (h : GSys k b s) (a : Int) : GSys k (b + 1) (s.twice a) := by
  unfold GS.twice
  split
  · rename_i hu
    refine h.sub (fun m q => ?_) (by simp) _ h.ul
    rcases List.mem_append.1 q with q | q
    · exact q
    · rw [List.mem_singleton.1 q]; exact (has_bounds hu).1
  · exact h.mono (by omega)
theorem GSys.deliver (h : GSys k b s) (hk : k ≤ 5) (a : Int) : GSys k (b + 3) (s.deliver a) := by
  unfold GS.deliver
  split
  · rename_i hh
    have hm := (has_bounds hh).1
    split
    · rename_i hu
      obtain ⟨h0, h1⟩ := isUp_bounds hu
      have hv := h.votes h0 h1
      have key := h.put (r := handleS (s.node (s.msg a).to) (s.msg a)) (b' := b + 2) (Nat.le_refl _) h0 h1 s.us h.ul (fun G g n hm' => hand_steps g n (hm' _ hm) (Int.toNat_of_nonneg h0).symm) (fun n => by
        obtain ⟨G0, g0, hn0, hm0⟩ := h.inv
        have h9 := hand_bd n (h.mb _ hm) (hm0 _ hm).i0
        exact ⟨h9.1.mono (by omega), fun x hx => (h9.2 x hx).mono (by omega)⟩) (hand_ok _ _ (by rw [hv]; exact hk))
      have k2 := key.sub (f := (s.cut a).f ++ (handleS (s.node (s.msg a).to) (s.msg a)).out) (fun m q => by
        rcases List.mem_append.1 q with q | q
        · exact List.mem_append_left _ (cut_mem q)
        · exact List.mem_append_right _ q) (by have := cut_len s a; simp only [List.length_append]; omega) s.us h.ul
      unfold GS.put
      rw [cut_ns, cut_us]
      exact k2
    · exact (h.cut a).mono (by omega)
  · exact h.mono (by omega)
theorem GSys.good (h : GSys k b s) (hb : b ≤ 100000) : GoodG k s := by
  obtain ⟨G, g, hn, hm⟩ := h.inv
  refine ⟨h.len, h.ul, fun n q => ?_, by have := h.fl; omega, fun m q => ?_⟩
  · obtain ⟨j, hj⟩ := List.getElem?_of_mem q
    have h1 := hn j n hj
    have h2 := h.nb n q
    have e1 := h1.id
    have e2 := h1.jk
    exact ⟨h1.v, h1.x, h1.m, h1.f, by omega, by omega, by have := h2.l; omega, h1.t0, by have := h2.t; omega, h2.c0, by have := h2.c; omega, h1.cm.1, fun i _ => by have := h2.x i; omega, fun i _ => by have := h2.m i; omega, fun hr i hi => ((h1.lead hr).2.2 i hi).1⟩
  · have h1 := hm m q
    have h2 := h.mb m q
    have h3 := h1.i0
    have h4 := h2.e
    exact ⟨h1.k0, h1.k1, h1.f0, h1.f1, h1.t0, h1.t1, by have := h.me m q; omega, h1.i0, by omega⟩
theorem GSys.new (k : Nat) : GSys k 0 (GS.new k) := by
  have hg : ∀ j n, (GS.new k).ns[j]? = some n → j < k ∧ n = newN (j : Int) k 1 := fun j n hj => by
    have hj' : ((List.range k).map fun j : Nat => newN (j : Int) k 1)[j]? = some n := hj
    rw [List.getElem?_map] at hj'
    by_cases h : j < k
    · rw [List.getElem?_range h] at hj'
      exact ⟨h, by injection hj' with hj'; exact hj'.symm⟩
    · rw [List.getElem?_eq_none (by simpa using h)] at hj'
      cases hj'
  refine ⟨by simp [GS.new], by simp [GS.new], by simp [GS.new], ⟨noGhost, noGhost_inv k, fun j n hj => ?_, fun m hm => by simp [GS.new] at hm⟩, fun n hn => ?_, fun m hm => by simp [GS.new] at hm, fun m hm => by simp [GS.new] at hm⟩
  · obtain ⟨h1, rfl⟩ := hg j n hj
    exact newN_inv h1 _
  · obtain ⟨j, hj⟩ := List.getElem?_of_mem hn
    obtain ⟨h1, rfl⟩ := hg j n hj
    exact newN_bd _ _ _
/-- All that flies is delivered, so many times at most. -/
def run : Nat → GS → GS
  | 0, s => s
  | q + 1, s => if 0 < s.f.length then run q (s.deliver 0) else s
def ticks (id : Int) : Nat → GS → GS
  | 0, s => s
  | q + 1, s => ticks id q (s.tick id)
end Fed
