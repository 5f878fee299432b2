/-
The group's states, in plain Lean: what is known of nodes and messages goes on with each step; each may be walked.
The law's step of both groups, in plain Lean: what a number brings about; what is known of states goes on.
How the document's group lies in memory; what a store leaves of it.
The document's Up, Flight, Crash answer as the plain functions. Condition: the document's group lies there.
The document's sent: a node is another one, messages fly. Condition: the document's group lies there.
-/
import Derived.Test.YtnkmljdkokcdjaaB7
import Derived.Test.YtnkmljdkokcdjaaB14
import Derived.Test.YtnkmljdkokcdjaaB6
import Derived.Test.YtnkmljdkokcdjaaB11
import Derived.WalkKit
import Derived.WalkSpells
import Derived.Lib.Hide
import Derived.Outline
import Derived.Test.YtnkmljdkokcdjaaChecked
import Derived.Test.YtnkmljdkokcdjaaB0
import Derived.Test.YtnkmljdkokcdjaaB1
import Derived.Test.YtnkmljdkokcdjaaB12
import Derived.Deep.DeepCutAuto
import Derived.Deep.CutBlock
import Derived.Deep.OwnRows
import Derived.IntWalk
set_option linter.unusedVariables false
set_option linter.unusedSimpArgs false
set_option maxRecDepth 100000
set_option maxHeartbeats 40000000
namespace Fed
open Go Go.RowKit Go.Proofs.Ytnkmljdkokcdjaa
variable {k i b : Nat} {G : Ghost} {n : Node}
def OutOk (l : List Msg) : Prop := l.length ≤ 12 ∧ ∀ m, m ∈ l → m.entries.length ≤ 5
theorem entriesMsg_len (n : Node) (t : Int) : (entriesMsg n t).entries.length ≤ 5 := by
 show ((n.log.drop (entriesAt n t).toNat).take ((mn (entriesAt n t + 5) n.log.length).toNat - (entriesAt n t).toNat)).length ≤ 5
 rw [List.length_take, mn_eq]
 have : 0 ≤ entriesAt n t := by unfold entriesAt; rw [mx_eq]; omega
 omega
theorem spread_ok (n : Node) (l : Nat) (m : Msg) (h : m ∈ spreadMsgs n l) : m.entries.length ≤ 5 := by
 obtain ⟨j, _, _, rfl⟩ := mem_spread h
 exact entriesMsg_len n _
theorem asks_ok (n : Node) (l : Nat) (m : Msg) (h : m ∈ askMsgs n l) : m.entries.length ≤ 5 := by
 obtain ⟨j, _, _, rfl⟩ := mem_ask h
 show ([] : List Entry).length ≤ 5
 simp
theorem nil_ok : OutOk [] := ⟨by simp, by simp⟩
theorem one_ok {m : Msg} (h : m.entries.length ≤ 5) : OutOk ([] ++ [m]) := ⟨by simp, fun x hx => by simp at hx; rw [hx]; exact h⟩
theorem lead_ok (n : Node) (hv : n.votes.length ≤ 5) {out : List Msg} (h1 : out.length ≤ 5) (h2 : ∀ m, m ∈ out → m.entries.length ≤ 5) : OutOk (leadS ⟨n, out⟩).out := by
 have hs := spreadMsgs_le (putN (leadN n) ⟨#[]⟩) n.votes.length
 have e : (leadS ⟨n, out⟩).out = out ++ spreadMsgs (putN (leadN n) ⟨#[]⟩) n.votes.length := rfl
 rw [e]
 refine ⟨by rw [List.length_append]; omega, fun m hm => ?_⟩
 rcases List.mem_append.1 hm with hm | hm
 ·exact h2 m hm
 ·exact spread_ok _ _ m hm
theorem tick_ok (n : Node) (hv : n.votes.length ≤ 5) : OutOk (tickS n).out := by
 unfold tickS
 split
 ·exact nil_ok
 split
 ·split
  ·have hs := spreadMsgs_le { n with clock := n.clock + 1 } n.votes.length
   exact ⟨by show (spreadMsgs _ _).length ≤ 12; omega, fun m hm => spread_ok _ _ m hm⟩
  ·exact nil_ok
 split
 ·have hs := askMsgs_le (standN { n with clock := n.clock + 1 }) n.votes.length
  have hl : ([] ++ askMsgs (standN { n with clock := n.clock + 1 }) n.votes.length).length ≤ 5 := by rw [List.nil_append]; omega
  have hm : ∀ m, m ∈ [] ++ askMsgs (standN { n with clock := n.clock + 1 }) n.votes.length → m.entries.length ≤ 5 := fun m hm => by rw [List.nil_append] at hm; exact asks_ok _ _ m hm
  unfold standS
  split
  ·exact lead_ok _ (by show ((List.replicate n.votes.length false).set n.id.toNat true).length ≤ 5; rw [List.length_set, List.length_replicate]; exact hv) hl hm
  ·exact ⟨by have := hl; show ([] ++ askMsgs (standN { n with clock := n.clock + 1 }) n.votes.length).length ≤ 12; omega, hm⟩
 ·exact nil_ok
theorem prop_ok (n : Node) (d : ByteArray) (hv : n.votes.length ≤ 5) : OutOk (proposeS n d).out := by
 unfold proposeS
 split
 ·have hs := spreadMsgs_le (putN n d) n.votes.length
  refine ⟨by show ([] ++ spreadMsgs (putN n d) n.votes.length).length ≤ 12; rw [List.nil_append]; omega, fun m hm => ?_⟩
  have hm' : m ∈ [] ++ spreadMsgs (putN n d) n.votes.length := hm
  rw [List.nil_append] at hm'
  exact spread_ok _ _ m hm'
 ·exact nil_ok
theorem hand_ok (n : Node) (m : Msg) (hv : n.votes.length ≤ 5) : OutOk (handleS n m).out := by
 unfold handleS
 split
 ·have hv' : (bump n m).votes.length ≤ 5 := by rw [bump_votes]; exact hv
  generalize bump n m = n' at hv' ⊢
  unfold handleIn
  split
  ·unfold voteS
   split
   ·exact one_ok (by show ([] : List Entry).length ≤ 5; simp)
   ·exact one_ok (by show ([] : List Entry).length ≤ 5; simp)
  split
  ·unfold votedS
   split
   ·exact nil_ok
   ·split
    ·exact lead_ok _ (by show (n'.votes.set _ true).length ≤ 5; rw [List.length_set]; exact hv') (by simp) (by simp)
    ·exact nil_ok
  split
  ·unfold appendS
   split
   ·exact one_ok (by show ([] : List Entry).length ≤ 5; simp)
   ·split
    ·exact one_ok (by show ([] : List Entry).length ≤ 5; simp)
    ·exact one_ok (by show ([] : List Entry).length ≤ 5; simp)
  split
  ·unfold matchS
   split
   ·exact nil_ok
   ·split
    ·exact one_ok (entriesMsg_len _ _)
    ·exact nil_ok
  ·exact nil_ok
 ·exact nil_ok
structure GSys (k b : Nat) (s : GS) : Prop where
 len : s.ns.length = k
 ul : s.us.length = k
 fl : s.f.length ≤ 6 * b
 inv : ∃ G, GInv k G ∧ (∀ j n, s.ns[j]? = some n → NInv k G j n) ∧ ∀ m, m ∈ s.f → MInv k G m
 nb : ∀ n, n ∈ s.ns → NBd b n
 mb : ∀ m, m ∈ s.f → MBd b m
 me : ∀ m, m ∈ s.f → m.entries.length ≤ 5
variable {s : GS}
theorem GSys.mono {b b' : Nat} (h : GSys k b s) (hb : b ≤ b') : GSys k b' s := ⟨h.len, h.ul, by have := h.fl; omega, h.inv, fun n q => (h.nb n q).mono hb, fun m q => (h.mb m q).mono hb, h.me⟩
theorem GSys.sub {f : List Msg} (h : GSys k b s) (hf : ∀ m, m ∈ f → m ∈ s.f) (hl : f.length ≤ s.f.length + 1) (us : List Bool) (hu : us.length = k) : GSys k (b + 1) ⟨s.ns, us, f⟩ := by
 obtain ⟨G, g, hn, hm⟩ := h.inv
 exact ⟨h.len, hu, by have := h.fl; show f.length ≤ _; omega, ⟨G, g, hn, fun m q => hm m (hf m q)⟩, fun n q => (h.nb n q).mono (by omega), fun m q => (h.mb m (hf m q)).mono (by omega), fun m q => h.me m (hf m q)⟩
theorem GSys.node (h : GSys k b s) {id : Int} (h0 : 0 ≤ id) (h1 : id < s.ns.length) : s.ns[id.toNat]? = some (s.node id) := by
 unfold GS.node
 rw [List.getD_eq_getElem?_getD, List.getElem?_eq_getElem (by omega)]; rfl
theorem GSys.put {r : NS} {id : Int} {b' : Nat} (h : GSys k b s) (hb : b + 2 ≤ b') (h0 : 0 ≤ id) (h1 : id < s.ns.length) (us : List Bool) (hu : us.length = k)
  (hr : ∀ G, GInv k G → NInv k G id.toNat (s.node id) → (∀ m, m ∈ s.f → MInv k G m) → Steps k id.toNat G r) (hbd : NBd b (s.node id) → SBd b' r) (ho : OutOk r.out) : GSys k b' ⟨s.ns.set id.toNat r.n, us, s.f ++ r.out⟩ := by
 obtain ⟨G, g, hn, hm⟩ := h.inv
 have hat := h.node h0 h1
 have hlt : id.toNat < s.ns.length := by omega
 obtain ⟨G', e, g', n', m'⟩ := hr G g (hn _ _ hat) hm
 obtain ⟨b1, b2⟩ := hbd (h.nb _ (List.mem_of_getElem? hat))
 refine ⟨by simp [h.len], hu, by have := h.fl; have := ho.1; simp only [List.length_append]; omega, ⟨G', g', fun j n q => ?_, fun m q => ?_⟩, fun n q => ?_, fun m q => ?_, fun m q => ?_⟩
 ·have q' : (s.ns.set id.toNat r.n)[j]? = some n := q
  rw [List.getElem?_set] at q'
  by_cases hj : id.toNat = j
  ·subst hj
   rw [if_pos rfl, if_pos hlt] at q'
   injection q' with q'
   subst q'
   exact n'
  ·rw [if_neg hj] at q'
   exact (hn j n q').other g e (fun c => hj c.symm)
 ·rcases List.mem_append.1 (show m ∈ s.f ++ r.out from q) with q' | q'
  ·exact (hm m q').grow e
  ·exact m' m q'
 ·have q' : n ∈ s.ns.set id.toNat r.n := q
  rcases List.mem_or_eq_of_mem_set q' with q' | q'
  ·exact (h.nb n q').mono (by omega)
  ·rw [q']; exact b1
 ·rcases List.mem_append.1 (show m ∈ s.f ++ r.out from q) with q' | q'
  ·exact (h.mb m q').mono (by omega)
  ·exact b2 m q'
 ·rcases List.mem_append.1 (show m ∈ s.f ++ r.out from q) with q' | q'
  ·exact h.me m q'
  ·exact ho.2 m q'
theorem isUp_bounds {s : GS} {id : Int} (h : s.isUp id = true) : 0 ≤ id ∧ id < s.ns.length := by
 obtain ⟨i, rfl, h1, _⟩ := isUp_some h
 omega
theorem GSys.votes (h : GSys k b s) {id : Int} (h0 : 0 ≤ id) (h1 : id < s.ns.length) : (s.node id).votes.length = k := by
 obtain ⟨G, g, hn, hm⟩ := h.inv
 exact (hn _ _ (h.node h0 h1)).v
theorem GSys.tick (h : GSys k b s) (hk : k ≤ 5) (id : Int) : GSys k (b + 2) (s.tick id) := by
 unfold GS.tick
 split
 ·rename_i hu
  obtain ⟨h0, h1⟩ := isUp_bounds hu
  exact h.put (Nat.le_refl _) h0 h1 s.us h.ul (fun G g n _ => tick_steps g n) (fun n => tick_bd n) (tick_ok _ (by rw [h.votes h0 h1]; exact hk))
 ·exact h.mono (by omega)
theorem GSys.prop (h : GSys k b s) (hk : k ≤ 5) (id : Int) (d : ByteArray) : GSys k (b + 2) (s.prop id d) := by
 unfold GS.prop
 split
 ·rename_i hu
  obtain ⟨h0, h1⟩ := isUp_bounds hu
  refine h.put (Nat.le_refl _) h0 h1 s.us h.ul (fun G g n _ => prop_steps g n d) (fun n => ?_) (prop_ok _ _ (by rw [h.votes h0 h1]; exact hk))
  have h9 := prop_bd n d
  exact ⟨h9.1.mono (by omega), fun x hx => (h9.2 x hx).mono (by omega)⟩
 ·exact h.mono (by omega)
theorem GSys.crash (h : GSys k b s) (id : Int) : GSys k (b + 1) (s.crash id) := by
 unfold GS.crash
 split
 ·exact h.sub (fun _ q => q) (by omega) _ (by rw [List.length_set]; exact h.ul)
 ·exact h.mono (by omega)
theorem GSys.start (h : GSys k b s) (id form : Int) : GSys k (b + 2) (s.start id form) := by
 unfold GS.start
 split
 ·rename_i hu
  have hb : 0 ≤ id ∧ id < s.ns.length := by
   unfold GS.startOk at hu
   simp only [Bool.and_eq_true, decide_eq_true_eq] at hu
   exact hu.1.1
  have h9 := h.put (r := ⟨restartN (s.node id) form, []⟩) (Nat.le_refl _) hb.1 hb.2 (s.us.set id.toNat true) (by rw [List.length_set]; exact h.ul) (fun G g n _ => restart_steps g n form) (fun n => ⟨(restart_bd n _).mono (by omega), by simp⟩) nil_ok
  simpa using h9
 ·exact h.mono (by omega)
theorem has_bounds {s : GS} {a : Int} (h : s.has a = true) : s.msg a ∈ s.f ∧ a.toNat < s.f.length := by
 obtain ⟨i, rfl, hi⟩ := has_some h
 unfold GS.msg
 rw [Int.toNat_natCast]
 exact ⟨getD_mem hi, hi⟩
theorem GSys.cut (h : GSys k b s) (a : Int) : GSys k (b + 1) (s.cut a) := by
 unfold GS.cut
 split
 ·exact h.sub (fun _ q => List.mem_of_mem_eraseIdx q) (by have := List.length_eraseIdx_le s.f a.toNat; omega) _ h.ul
 ·exact h.mono (by omega)
theorem GSys.twice (h : GSys k b s) (a : Int) : GSys k (b + 1) (s.twice a) := by
 unfold GS.twice
 split
 ·rename_i hu
  refine h.sub (fun m q => ?_) (by simp) _ h.ul
  rcases List.mem_append.1 q with q | q
  ·exact q
  ·rw [List.mem_singleton.1 q]; exact (has_bounds hu).1
 ·exact h.mono (by omega)
theorem GSys.deliver (h : GSys k b s) (hk : k ≤ 5) (a : Int) : GSys k (b + 3) (s.deliver a) := by
 unfold GS.deliver
 split
 ·rename_i hh
  have hm := (has_bounds hh).1
  split
  ·rename_i hu
   obtain ⟨h0, h1⟩ := isUp_bounds hu
   have hv := h.votes h0 h1
   have key := h.put (r := handleS (s.node (s.msg a).to) (s.msg a)) (b' := b + 2) (Nat.le_refl _) h0 h1 s.us h.ul (fun G g n hm' => hand_steps g n (hm' _ hm) (Int.toNat_of_nonneg h0).symm) (fun n => by
    obtain ⟨G0, g0, hn0, hm0⟩ := h.inv
    have h9 := hand_bd n (h.mb _ hm) (hm0 _ hm).i0
    exact ⟨h9.1.mono (by omega), fun x hx => (h9.2 x hx).mono (by omega)⟩) (hand_ok _ _ (by rw [hv]; exact hk))
   have k2 := key.sub (f := (s.cut a).f ++ (handleS (s.node (s.msg a).to) (s.msg a)).out) (fun m q => by
    rcases List.mem_append.1 q with q | q
    ·exact List.mem_append_left _ (cut_mem q)
    ·exact List.mem_append_right _ q) (by have := cut_len s a; simp only [List.length_append]; omega) s.us h.ul
   unfold GS.put
   rw [cut_ns, cut_us]
   exact k2
  ·exact (h.cut a).mono (by omega)
 ·exact h.mono (by omega)
theorem GSys.good (h : GSys k b s) (hb : b ≤ 100000) : GoodG k s := by
 obtain ⟨G, g, hn, hm⟩ := h.inv
 refine ⟨h.len, h.ul, fun n q => ?_, by have := h.fl; omega, fun m q => ?_⟩
 ·obtain ⟨j, hj⟩ := List.getElem?_of_mem q
  have h1 := hn j n hj
  have h2 := h.nb n q
  have e1 := h1.id
  have e2 := h1.jk
  exact ⟨h1.v, h1.x, h1.m, h1.f, by omega, by omega, by have := h2.l; omega, h1.t0, by have := h2.t; omega, h2.c0, by have := h2.c; omega, h1.cm.1, fun i _ => by have := h2.x i; omega, fun i _ => by have := h2.m i; omega, fun hr i hi => ((h1.lead hr).2.2 i hi).1⟩
 ·have h1 := hm m q
  have h2 := h.mb m q
  have h3 := h1.i0
  have h4 := h2.e
  exact ⟨h1.k0, h1.k1, h1.f0, h1.f1, h1.t0, h1.t1, by have := h.me m q; omega, h1.i0, by omega⟩
theorem GSys.new (k : Nat) : GSys k 0 (GS.new k) := by
 have hg : ∀ j n, (GS.new k).ns[j]? = some n → j < k ∧ n = newN (j : Int) k 1 := fun j n hj => by
  have hj' : ((List.range k).map fun j : Nat => newN (j : Int) k 1)[j]? = some n := hj
  rw [List.getElem?_map] at hj'
  by_cases h : j < k
  ·rw [List.getElem?_range h] at hj'
   exact ⟨h, by injection hj' with hj'; exact hj'.symm⟩
  ·rw [List.getElem?_eq_none (by simpa using h)] at hj'
   cases hj'
 refine ⟨by simp [GS.new], by simp [GS.new], by simp [GS.new], ⟨noGhost, noGhost_inv k, fun j n hj => ?_, fun m hm => by simp [GS.new] at hm⟩, fun n hn => ?_, fun m hm => by simp [GS.new] at hm, fun m hm => by simp [GS.new] at hm⟩
 ·obtain ⟨h1, rfl⟩ := hg j n hj
  exact newN_inv h1 _
 ·obtain ⟨j, hj⟩ := List.getElem?_of_mem hn
  obtain ⟨h1, rfl⟩ := hg j n hj
  exact newN_bd _ _ _
def run : Nat → GS → GS
 | 0, s => s
 | q + 1, s => if 0 < s.f.length then run q (s.deliver 0) else s
def ticks (id : Int) : Nat → GS → GS
 | 0, s => s
 | q + 1, s => ticks id q (s.tick id)
end Fed
namespace Fed
open Go Go.RowKit Go.Proofs.Ytnkmljdkokcdjaa
def stepId (K k : Nat) : Nat := if k % 29 = 0 then k % (K + 1) else k % K
def stepTo (s : GS) (K k : Nat) : Int := if k / 8 % 2 = 0 ∧ 0 ≤ s.leader then s.leader else (stepId K k : Int)
def stepS (K : Nat) (s : GS) (n : Nat) : GS :=
 if n % 20 < 6 then s.tick (stepId K (n / 20) : Int)
 else if n % 20 < 13 then s.deliver (n / 20 % 5 : Nat)
 else if n % 20 < 14 then s.cut (n / 20 % 5 : Nat)
 else if n % 20 < 15 then s.twice (n / 20 % 5 : Nat)
 else if n % 20 < 17 then s.prop (stepTo s K (n / 20)) (letter (n / 20 % 8))
 else if n % 20 < 18 then (if n / 20 / 7 % 3 = 0 then s.crash (stepId K (n / 20) : Int) else s)
 else s.start (stepId K (n / 20) : Int) (n / 20 / 7 % 4 : Nat)
theorem GSys.step {k b : Nat} {s : GS} (h : GSys k b s) (hk : k ≤ 5) (n : Nat) : GSys k (b + 3) (stepS k s n) := by
 unfold stepS
 split
 ·exact (h.tick hk _).mono (by omega)
 split
 ·exact h.deliver hk _
 split
 ·exact (h.cut _).mono (by omega)
 split
 ·exact (h.twice _).mono (by omega)
 split
 ·exact (h.prop hk _ _).mono (by omega)
 split
 ·split
  ·exact (h.crash _).mono (by omega)
  ·exact h.mono (by omega)
 ·exact (h.start _ _).mono (by omega)
end Fed
namespace Go.Proofs.Ytnkmljdkokcdjaa
open Go Go.RowKit Fed
structure RM where
 A : Option Addr
 c : Nat
 U : Option Addr
 e : Nat
 F : Option Addr
 d : Nat
 p : Option Nat
 q : Option Nat
 fb : Option Nat
def RM.owns (x : Nat) (ρ : RM) (k : Nat) : Prop := k = x ∨ ρ.p = some k ∨ ρ.q = some k ∨ ρ.fb = some k
structure RefAt (w : World) (B x : Nat) (s : GS) (ρ : RM) (ok : Nat → Prop) : Prop where
 hB : B ≤ x
 blk : w.heap[x]? = some (.cells #[.slice ρ.A s.ns.length ρ.c, .slice ρ.U s.us.length ρ.e, .slice ρ.F s.f.length ρ.d] 73 (0, 0))
 ul : s.us.length = s.ns.length
 nl : NodesOut w B (.slice ρ.A s.ns.length ρ.c) s.ns ρ.p ok
 up : MM.Row w B 4 1 (.slice ρ.U s.us.length ρ.e) s.us.length (boolsC s.us) ρ.q
 fl : FlyAt w B (.slice ρ.F s.f.length ρ.d) s.f ρ.fb ok
 no : ∀ k, ok k → ¬ ρ.owns x k
 okl : ∀ k, ok k → k < w.heap.size
structure OStep (w w' : World) (B : Nat) (o o' ok ok' : Nat → Prop) : Prop where
 below : Below B w w'
 keep : ∀ k, k < w.heap.size → ¬ o k → w'.heap[k]? = w.heap[k]?
 own : ∀ k, o' k → o k ∨ w.heap.size ≤ k
 oks : ∀ k, ok' k → ok k ∨ w.heap.size ≤ k
namespace OStep
variable {w w1 w2 : World} {B : Nat} {o o1 o2 ok ok1 ok2 : Nat → Prop}
theorem refl (w : World) (B : Nat) (o ok : Nat → Prop) : OStep w w B o o ok ok := ⟨Below.refl _ _, fun _ _ _ => rfl, fun _ h => .inl h, fun _ h => .inl h⟩
theorem trans (h : OStep w w1 B o o1 ok ok1) (h' : OStep w1 w2 B o1 o2 ok1 ok2) : OStep w w2 B o o2 ok ok2 where
 below := h.below.trans h'.below
 keep k hk hn := (h'.keep k (Nat.lt_of_lt_of_le hk h.below.size) (fun q => by rcases h.own k q with q | q; exact hn q; omega)).trans (h.keep k hk hn)
 own k q := by
  rcases h'.own k q with q | q
  ·exact h.own k q
  ·exact .inr (Nat.le_trans h.below.size q)
 oks k q := by
  rcases h'.oks k q with q | q
  ·exact h.oks k q
  ·exact .inr (Nat.le_trans h.below.size q)
theorem ofBelow (hb : Below w.heap.size w w1) (hB : B ≤ w.heap.size) (hok : ∀ k, ok1 k → ok k ∨ w.heap.size ≤ k) : OStep w w1 B o o ok ok1 := ⟨hb.mono hB, fun k hk _ => hb.block k hk, fun _ h => .inl h, hok⟩
theorem drew (h : OStep w w1 B o o1 ok ok1) : OStep w w1.drew B o o1 ok ok1 := ⟨h.below.drew, h.keep, h.own, h.oks⟩
end OStep
namespace RefAt
variable {w w1 : World} {B x : Nat} {s : GS} {ρ : RM} {ok ok' : Nat → Prop}
theorem lt (h : RefAt w B x s ρ ok) : x < w.heap.size := MM.blk_lt h.blk
theorem Bsize (h : RefAt w B x s ρ ok) : B ≤ w.heap.size := Nat.le_trans h.hB (Nat.le_of_lt h.lt)
theorem tyx (h : RefAt w B x s ρ ok) : MM.Ty w x 73 := ⟨_, _, h.blk⟩
theorem typ (h : RefAt w B x s ρ ok) : ∀ k, ρ.p = some k → MM.Ty w k 28 := by obtain ⟨cs, h1, _⟩ := h.nl; exact h1.ty
theorem tyq (h : RefAt w B x s ρ ok) : ∀ k, ρ.q = some k → MM.Ty w k 4 := h.up.ty
theorem tyf (h : RefAt w B x s ρ ok) : ∀ k, ρ.fb = some k → MM.Ty w k 34 := by obtain ⟨cs, h1, _⟩ := h.fl; exact h1.ty
theorem ltp (h : RefAt w B x s ρ ok) : ∀ k, ρ.p = some k → B ≤ k ∧ k < w.heap.size := by obtain ⟨cs, h1, _⟩ := h.nl; exact h1.lt
theorem ltf (h : RefAt w B x s ρ ok) : ∀ k, ρ.fb = some k → B ≤ k ∧ k < w.heap.size := by obtain ⟨cs, h1, _⟩ := h.fl; exact h1.lt
theorem ownlt (h : RefAt w B x s ρ ok) : ∀ k, ρ.owns x k → B ≤ k ∧ k < w.heap.size := by
 rintro k (rfl | q | q | q)
 ·exact ⟨h.hB, h.lt⟩
 ·exact h.ltp k q
 ·exact h.up.lt k q
 ·exact h.ltf k q
theorem c0 (h : RefAt w B x s ρ ok) : w.cell? ⟨x, 0, none⟩ = some (.slice ρ.A s.ns.length ρ.c) := MM.cell_blk h.blk rfl
theorem c1 (h : RefAt w B x s ρ ok) : w.cell? ⟨x, 1, none⟩ = some (.slice ρ.U s.us.length ρ.e) := MM.cell_blk h.blk rfl
theorem c2 (h : RefAt w B x s ρ ok) : w.cell? ⟨x, 2, none⟩ = some (.slice ρ.F s.f.length ρ.d) := MM.cell_blk h.blk rfl
theorem fr (h : RefAt w B x s ρ ok) (i : Nat) : w.frozen? ⟨x, i, none⟩ = false := MM.free_blk h.blk
theorem step (h : RefAt w B x s ρ ok) (hm : ∀ k, ρ.owns x k ∨ ok k → w1.heap[k]? = w.heap[k]?) (hs : w.heap.size ≤ w1.heap.size) : RefAt w1 B x s ρ ok :=
 ⟨h.hB, (hm x (.inl (.inl rfl))).trans h.blk, h.ul, h.nl.step (fun k hk => hm k (.inl (.inr (.inl hk)))) (fun k hk _ => hm k (.inr hk)), h.up.step fun k hk _ => hm k (.inl (.inr (.inr (.inl hk)))), h.fl.step (fun k hk => hm k (.inl (.inr (.inr (.inr hk))))) (fun k hk _ => hm k (.inr hk)), h.no, fun k hk => Nat.lt_of_lt_of_le (h.okl k hk) hs⟩
theorem below (h : RefAt w B x s ρ ok) (hb : Below w.heap.size w w1) : RefAt w1 B x s ρ ok := h.step (fun k hk => hb.block k (by rcases hk with hk | hk; exact (h.ownlt k hk).2; exact h.okl k hk)) hb.size
theorem drew (h : RefAt w B x s ρ ok) : RefAt w.drew B x s ρ ok := h.step (fun _ _ => rfl) (Nat.le_refl _)
theorem alloc (h : RefAt w B x s ρ ok) (o : Obj) : RefAt (w.alloc o) B x s ρ ok := h.below ((Below.refl _ w).alloc (Nat.le_refl _) o)
theorem more (h : RefAt w B x s ρ ok) (hok : ∀ k, ok k → ok' k) (no : ∀ k, ok' k → ¬ ρ.owns x k) (okl : ∀ k, ok' k → k < w.heap.size) : RefAt w B x s ρ ok' :=
 ⟨h.hB, h.blk, h.ul, h.nl.mono fun k hk _ => hok k hk, h.up, h.fl.mono fun k hk _ => hok k hk, no, okl⟩
theorem newer (h : RefAt w B x s ρ ok) (hb : Below w.heap.size w w1) : RefAt w1 B x s ρ (fun k => ok k ∨ (w.heap.size ≤ k ∧ k < w1.heap.size)) :=
 (h.below hb).more (fun k hk => .inl hk) (fun k hk q => by rcases hk with hk | hk; exact h.no k hk q; have := (h.ownlt k q).2; omega) (fun k hk => by rcases hk with hk | hk; exact Nat.lt_of_lt_of_le (h.okl k hk) hb.size; exact hk.2)
theorem place (h : RefAt w B x s ρ ok) {i : Nat} (hi : i < s.ns.length) : ∃ pb, ρ.p = some pb ∧ ρ.A = some ⟨pb, 0, none⟩ ∧ s.ns.length ≤ ρ.c ∧ ρ.c ≤ maxLen ∧ (∀ j, w.frozen? ⟨pb, j, none⟩ = false) ∧ ∃ σ, NodeVs w ok (s.node i) σ ∧ ∀ j u, (nodeL (s.node i) σ)[j]? = some u → w.cell? ⟨pb, i * 13 + j, none⟩ = some u := by
 obtain ⟨cs, p1, p2⟩ := h.nl
 obtain ⟨pb, hp⟩ := p1.some_of (by omega)
 have p1' := p1
 rw [hp] at p1'
 obtain ⟨cap, e, e1, e2⟩ := p1'.form
 injection e with ea _ ec
 have en : s.ns[i]? = some (s.node i) := by
  unfold GS.node
  rw [Int.toNat_natCast, List.getD_eq_getElem?_getD, List.getElem?_eq_getElem hi]; rfl
 obtain ⟨σ, v, hc⟩ := p2 i _ en
 exact ⟨pb, hp, ea, by rw [ec]; exact e1, by rw [ec]; exact e2, p1'.free, σ, v, fun j u hj => p1'.cell (hc j u hj)⟩
theorem upc (h : RefAt w B x s ρ ok) {i : Nat} (hi : i < s.ns.length) : ∃ qb, ρ.q = some qb ∧ ρ.U = some ⟨qb, 0, none⟩ ∧ s.ns.length ≤ ρ.e ∧ ρ.e ≤ maxLen ∧ (∀ j, w.frozen? ⟨qb, j, none⟩ = false) ∧ w.cell? ⟨qb, i, none⟩ = some (.bool (s.us.getD i false)) := by
 have p1 := h.up
 have ul := h.ul
 obtain ⟨qb, hp⟩ := p1.some_of (by omega)
 rw [hp] at p1
 obtain ⟨cap, e, e1, e2⟩ := p1.form
 injection e with ea _ ec
 refine ⟨qb, hp, ea, by rw [ec]; omega, by rw [ec]; exact e2, p1.free, p1.cell ?_⟩
 unfold boolsC
 rw [List.getElem?_map, List.getD_eq_getElem?_getD, List.getElem?_eq_getElem (by omega)]; rfl
theorem fly (h : RefAt w B x s ρ ok) {i : Nat} (hi : i < s.f.length) : ∃ fb, ρ.fb = some fb ∧ ρ.F = some ⟨fb, 0, none⟩ ∧ s.f.length ≤ ρ.d ∧ ρ.d ≤ maxLen ∧ (∀ j, w.frozen? ⟨fb, j, none⟩ = false) ∧ ∃ A c, MM.Rd w ok 2 (.slice A (s.msg i).entries.length c) (s.msg i).entries.length (entsC (s.msg i).entries) ∧ ∀ j u, (msgC (s.msg i) (.slice A (s.msg i).entries.length c))[j]? = some u → w.cell? ⟨fb, i * 10 + j, none⟩ = some u := by
 obtain ⟨cs, p1, p2⟩ := h.fl
 obtain ⟨fb, hp⟩ := p1.some_of (by omega)
 have p1' := p1
 rw [hp] at p1'
 obtain ⟨cap, e, e1, e2⟩ := p1'.form
 injection e with ea _ ec
 have em : s.f[i]? = some (s.msg i) := by
  unfold GS.msg
  rw [Int.toNat_natCast, List.getD_eq_getElem?_getD, List.getElem?_eq_getElem hi]; rfl
 obtain ⟨ve, hr, hc⟩ := p2.get em
 obtain ⟨A, c, rfl, _, _⟩ := hr.slice
 exact ⟨fb, hp, ea, by rw [ec]; exact e1, by rw [ec]; exact e2, p1'.free, A, c, hr, fun j u hj => p1'.cell (hc j u hj)⟩
theorem putF {A' : Option Addr} {c' : Nat} {ob' : Option Nat} {zs : List Fed.Msg} (h : RefAt w B x s ρ ok) (hf : FlyAt w1 B (.slice A' zs.length c') zs ob' ok) (kp : ∀ k, k < w.heap.size → w1.heap[k]? = w.heap[k]?) (hob : ob' = none ∨ ∃ b, ob' = some b ∧ w.heap.size ≤ b) (hbl : Below B w w1) :
  RefAt (w1.setCell ⟨x, 2, none⟩ (.slice A' zs.length c')) B x ⟨s.ns, s.us, zs⟩ { ρ with F := A', d := c', fb := ob' } ok ∧ OStep w (w1.setCell ⟨x, 2, none⟩ (.slice A' zs.length c')) B (ρ.owns x) (RM.owns x { ρ with F := A', d := c', fb := ob' }) ok ok := by
 have far : ∀ k, k ≠ x → (w1.setCell ⟨x, 2, none⟩ (.slice A' zs.length c')).heap[k]? = w1.heap[k]? := fun k hk => Below.heap_setCell w1 _ _ k hk
 have okx : ∀ k, ok k → k ≠ x := fun k hk e => h.no k hk (.inl e)
 have all : ∀ k, k < w.heap.size → k ≠ x → (w1.setCell ⟨x, 2, none⟩ (.slice A' zs.length c')).heap[k]? = w.heap[k]? := fun k hk e => (far k e).trans (kp k hk)
 have hsz : w.heap.size ≤ (w1.setCell ⟨x, 2, none⟩ (.slice A' zs.length c')).heap.size := by have := hbl.size; simpa [World.setCell] using this
 have hnew : ∀ k, ob' = some k → w.heap.size ≤ k := by
  intro k q
  rcases hob with e | ⟨b, e, hb⟩
  ·rw [e] at q; cases q
  ·rw [e] at q; injection q with q; omega
 have hown : ∀ k, RM.owns x { ρ with F := A', d := c', fb := ob' } k → ρ.owns x k ∨ w.heap.size ≤ k := by
  rintro k (q | q | q | q)
  ·exact .inl (.inl q)
  ·exact .inl (.inr (.inl q))
  ·exact .inl (.inr (.inr (.inl q)))
  ·exact .inr (hnew k q)
 refine ⟨⟨h.hB, ?_, h.ul, h.nl.step (fun k hk => all k (h.ltp k hk).2 (ty_ne (h.typ k hk) h.tyx (by decide))) (fun k hk hl => all k hl (okx k hk)), h.up.step (fun k hk _ => all k (h.up.lt k hk).2 (ty_ne (h.tyq k hk) h.tyx (by decide))), hf.step (fun k hk => far k (fun e => by have := hnew k hk; have := h.lt; omega)) (fun k hk _ => far k (okx k hk)), fun k hk q => ?_, fun k hk => Nat.lt_of_lt_of_le (h.okl k hk) hsz⟩, ⟨hbl.setCell (p := ⟨x, 2, none⟩) h.hB _, fun k hk hn => all k hk (fun e => hn (.inl e)), hown, fun k q => .inl q⟩⟩
 ·exact (setCell_blk _ ((kp x h.lt).trans h.blk)).trans rfl
 ·rcases hown k q with q | q
  ·exact h.no k hk q
  ·have := h.okl k hk; omega
theorem setU (h : RefAt w B x s ρ ok) {i qb : Nat} (hi : i < s.us.length) (hq : ρ.q = some qb) (b : Bool) :
  RefAt (w.setCell ⟨qb, i, none⟩ (.bool b)) B x ⟨s.ns, s.us.set i b, s.f⟩ ρ ok ∧ OStep w (w.setCell ⟨qb, i, none⟩ (.bool b)) B (ρ.owns x) (ρ.owns x) ok ok := by
 have far : ∀ k, k ≠ qb → (w.setCell ⟨qb, i, none⟩ (.bool b)).heap[k]? = w.heap[k]? := fun k hk => Below.heap_setCell w _ _ k hk
 have okq : ∀ k, ok k → k ≠ qb := fun k hk e => h.no k hk (.inr (.inr (.inl (by rw [hq, e]))))
 have tq := h.tyq qb hq
 have p1 := h.up
 rw [hq] at p1
 have hr := p1.set (u := .bool b) hi
 have e1 : (boolsC s.us).set i (.bool b) = boolsC (s.us.set i b) := by unfold boolsC; rw [List.map_set]
 rw [e1] at hr
 refine ⟨⟨h.hB, by rw [List.length_set]; exact (far x (ty_ne h.tyx tq (by decide))).trans h.blk, by rw [List.length_set]; exact h.ul, h.nl.step (fun k hk => far k (ty_ne (h.typ k hk) tq (by decide))) (fun k hk _ => far k (okq k hk)), by rw [List.length_set, hq]; exact hr, h.fl.step (fun k hk => far k (ty_ne (h.tyf k hk) tq (by decide))) (fun k hk _ => far k (okq k hk)), h.no, fun k hk => by simpa [World.setCell] using h.okl k hk⟩, ⟨(Below.refl B w).setCell (p := ⟨qb, i, none⟩) (h.up.lt qb hq).1 _, fun k hk hn => far k (fun e => hn (.inr (.inr (.inl (by rw [hq, e]))))), fun _ q => .inl q, fun _ q => .inl q⟩⟩
theorem setN (h : RefAt w B x s ρ ok) {i pb : Nat} (hi : i < s.ns.length) (hp : ρ.p = some pb) {n : Fed.Node} {σ : Sl5} (hn : NodeVs w ok n σ) :
  RefAt (putL w pb (i * 13) (nodeL n σ)) B x ⟨s.ns.set i n, s.us, s.f⟩ ρ ok ∧ OStep w (putL w pb (i * 13) (nodeL n σ)) B (ρ.owns x) (ρ.owns x) ok ok := by
 have tp := h.typ pb hp
 have far : ∀ k, k ≠ pb → (putL w pb (i * 13) (nodeL n σ)).heap[k]? = w.heap[k]? := fun k hk => putL_far hk
 have okp : ∀ k, ok k → k ≠ pb := fun k hk e => h.no k hk (.inr (.inl (by rw [hp, e])))
 obtain ⟨cs, p1, p2⟩ := h.nl
 refine ⟨⟨h.hB, by rw [List.length_set]; exact (far x (ty_ne h.tyx tp (by decide))).trans h.blk, by simp [h.ul], ?_, h.up.step (fun k hk _ => far k (ty_ne (h.tyq k hk) tp (by decide))), h.fl.step (fun k hk => far k (ty_ne (h.tyf k hk) tp (by decide))) (fun k hk _ => far k (okp k hk)), h.no, fun k hk => by rw [putL_size]; exact h.okl k hk⟩, ⟨putL_below (Below.refl B w) (h.ltp pb hp).1, fun k hk hn => far k (fun e => hn (.inr (.inl (by rw [hp, e])))), fun _ q => .inl q, fun _ q => .inl q⟩⟩
 rw [hp] at p1 ⊢
 obtain ⟨h0, cap, cur, h1, h2, h3, h4, h5, h6, h7⟩ := p1
 have hroom : i * 13 + (nodeL n σ).length ≤ cur.size := by
  rw [nodeL_len, h6]
  have : (i + 1) * 13 ≤ cap * 13 := Nat.mul_le_mul_right _ (by omega)
  omega
 obtain ⟨c', k1, k2, k3⟩ := putL_blk (us := nodeL n σ) (o := i * 13) h3 hroom
 have hcs : ∀ m, m < s.ns.length * 13 → cs[m]? = cur[m]? := fun m hm => by
  rw [← h7, List.getElem?_take, if_pos hm, Array.getElem?_toList]
 refine ⟨c'.toList.take (s.ns.length * 13), ⟨?_, cap, c', by simpa using h1, h2, k1, by simpa using h4, h5, by rw [k2]; exact h6, by simp⟩, fun j m hm => ?_⟩
 ·rw [List.length_set, List.length_take, Array.length_toList, k2, h6]
  exact Nat.min_eq_left (Nat.mul_le_mul_right _ h4)
 ·have hjl : j < s.ns.length := by have := (List.getElem?_eq_some_iff.1 hm).1; simpa using this
  have hm' : (s.ns.set i n)[j]? = some m := hm
  rw [List.getElem?_set] at hm'
  have lt13 : ∀ q, q < 13 → j * 13 + q < s.ns.length * 13 := fun q hq => by
   have : (j + 1) * 13 ≤ s.ns.length * 13 := Nat.mul_le_mul_right _ (by omega)
   omega
  have get : ∀ q, q < 13 → (c'.toList.take (s.ns.length * 13))[j * 13 + q]? = c'[j * 13 + q]? := fun q hq => by
   rw [List.getElem?_take, if_pos (lt13 q hq), Array.getElem?_toList]
  by_cases e : i = j
  ·subst e
   rw [if_pos rfl, if_pos hi] at hm'
   injection hm' with hm'
   subst hm'
   refine ⟨σ, hn.step fun k hk _ => far k (okp k hk), fun q u hu => ?_⟩
   have hq := (List.getElem?_eq_some_iff.1 hu).1
   rw [nodeL_len] at hq
   rw [get q hq, k3, if_pos ⟨by omega, by rw [nodeL_len]; omega⟩, show i * 13 + q - i * 13 = q from by omega]
   exact hu
  ·rw [if_neg e] at hm'
   obtain ⟨τ, v, hc⟩ := p2 j m hm'
   refine ⟨τ, v.step fun k hk _ => far k (okp k hk), fun q u hu => ?_⟩
   have hq := (List.getElem?_eq_some_iff.1 hu).1
   rw [nodeL_len] at hq
   rw [get q hq, k3, if_neg (by rw [nodeL_len]; omega), ← hcs _ (lt13 q hq)]
   exact hc q u hu
end RefAt
end Go.Proofs.Ytnkmljdkokcdjaa
namespace Go.Proofs.Ytnkmljdkokcdjaa
open Go.RowKit Fed
attribute [local go_sem high] Fed.max2_int Fed.min2_int Fed.MA Fed.ZN Fed.ZM Fed.NA
theorem rUp_any (w : World) (B x : Nat) (s : GS) (ρ : RM) (ok : Nat → Prop) (h : RefAt w B x s ρ ok) (id : Int) (hl : s.ns.length ≤ 1000) :
  Calls Try.prog 55 #[.pointer (some ⟨x, 0, none⟩), .int .i64 id] w fun e w' => e = .returned (.bool (s.isUp id)) ∧ w = w' := by
 have c0 := h.c0
 have c1 := h.c1
 by_cases h0 : id < 0
 ·have h0b : decide (0 ≤ id) = false := decide_eq_false (by omega)
  have hu : s.isUp id = false := by unfold GS.isUp; rw [h0b]; rfl
  clear h
  go_enter Try.func55, Try.ntmps55
  go_wp2
  go_ret
  exact ⟨MM.ret_bool hu.symm, rfl⟩
 have h0b : decide (0 ≤ id) = true := decide_eq_true (by omega)
 obtain ⟨i, rfl⟩ := Int.eq_ofNat_of_zero_le (show 0 ≤ id by omega)
 by_cases h1 : i < s.ns.length
 ·have h1b : decide ((i : Int) < (s.ns.length : Int)) = true := decide_eq_true (by omega)
  obtain ⟨qb, hq, ea, hc1, hc2, hf, hc⟩ := h.upc h1
  have hu : s.isUp (i : Int) = s.us.getD i false := by
   unfold GS.isUp
   rw [h0b, h1b, Int.toNat_natCast]; rfl
  rw [ea] at c1
  rw [h.ul] at c1
  clear h hf hq ea
  generalize s.us.getD i false = u at hc hu
  have HU := Hd hu
  clear hu
  go_enter Try.func55, Try.ntmps55
  go_wp2
  go_ret
  exact ⟨MM.ret_bool HU.out.symm, rfl⟩
 ·have h1b : decide ((i : Int) < (s.ns.length : Int)) = false := decide_eq_false (by omega)
  have hu : s.isUp i = false := by unfold GS.isUp; rw [h1b, Bool.and_false]; rfl
  have HU := Hd hu
  clear h hu
  go_enter Try.func55, Try.ntmps55
  go_wp2
  go_ret
  exact ⟨MM.ret_bool HU.out.symm, rfl⟩
theorem rFlight_any (w : World) (B x : Nat) (s : GS) (ρ : RM) (ok : Nat → Prop) (h : RefAt w B x s ρ ok) :
  Calls Try.prog 52 #[.pointer (some ⟨x, 0, none⟩)] w fun e w' => e = .returned (.int .i64 s.f.length) ∧ w = w' := by
 have c2 := h.c2
 clear h
 go_enter Try.func52, Try.ntmps52
 go_wp2
 go_ret
 exact ⟨rfl, rfl⟩
theorem rCrash_any (w : World) (B x : Nat) (s : GS) (ρ : RM) (ok : Nat → Prop) (h : RefAt w B x s ρ ok) (id : Int) (hl : s.ns.length ≤ 1000) :
  Calls Try.prog 56 #[.pointer (some ⟨x, 0, none⟩), .int .i64 id] w fun e w' => ∃ ρ' ok', e = .returned (.bool (s.isUp id)) ∧ RefAt w' B x (s.crash id) ρ' ok' ∧ OStep w w' B (ρ.owns x) (ρ'.owns x) ok ok' := by
 have HU := Hd (rUp_any w B x s ρ ok h id hl)
 cases hu : s.isUp id
 ·have H := Hd h
  have HS := Hd hu
  have HE := Hd (show s.crash id = s from by unfold GS.crash; rw [hu]; rfl)
  clear h hu
  go_enter Try.func56, Try.ntmps56
  go_wp2_with fail
  refine HU.out.mono ?_
  rintro e w' ⟨rfl, rfl⟩
  rw [HS.out]
  go_wp2
  go_ret
  refine ⟨ρ, ok, rfl, ?_, OStep.refl _ _ _ _⟩
  rw [HE.out]
  exact H.out
 ·obtain ⟨i, rfl, hi, hui⟩ := isUp_some hu
  have c1 := h.c1
  obtain ⟨qb, hq, ea, hc1, hc2, hf, hc⟩ := h.upc hi
  have hfi := hf i
  rw [ea, h.ul] at c1
  have R := Hd (h.setU (i := i) (by rw [h.ul]; exact hi) hq false)
  have HS := Hd hu
  have HE := Hd (show s.crash i = ⟨s.ns, s.us.set i false, s.f⟩ from by unfold GS.crash; rw [hu, if_pos rfl, Int.toNat_natCast])
  clear h hu hui hq ea hf
  go_enter Try.func56, Try.ntmps56
  go_wp2_with fail
  refine HU.out.mono ?_
  rintro e w' ⟨rfl, rfl⟩
  rw [HS.out]
  go_wp2
  go_ret
  refine ⟨ρ, ok, rfl, ?_, R.out.2⟩
  rw [HE.out]
  exact R.out.1
end Go.Proofs.Ytnkmljdkokcdjaa
namespace Go.Proofs.Ytnkmljdkokcdjaa
open Go.RowKit Fed Go.RT
attribute [local go_sem high] Fed.max2_int Fed.min2_int Fed.MA Fed.ZN Fed.ZM Fed.NA
theorem RefAt.set13 {w : World} {B x : Nat} {s : GS} {ρ : RM} {ok : Nat → Prop} (h : RefAt w B x s ρ ok) {i pb : Nat} (hi : i < s.ns.length) (hp : ρ.p = some pb) {n : Fed.Node} {σ : Sl5} (hn : NodeVs w ok n σ) :
  RefAt (((((((((((((w.setCell ⟨pb, i * 13, none⟩ (.int .i64 n.id)).setCell ⟨pb, i * 13 + 1, none⟩ (.int .i64 n.term)).setCell ⟨pb, i * 13 + 2, none⟩ (.int .i64 n.vote)).setCell ⟨pb, i * 13 + 3, none⟩ (.slice σ.A3 n.log.length σ.k3)).setCell ⟨pb, i * 13 + 4, none⟩ (.int .i64 n.form)).setCell ⟨pb, i * 13 + 5, none⟩ (.int .i64 n.role)).setCell ⟨pb, i * 13 + 6, none⟩ (.int .i64 n.commit)).setCell ⟨pb, i * 13 + 7, none⟩ (.slice σ.A7 n.votes.length σ.k7)).setCell ⟨pb, i * 13 + 8, none⟩ (.slice σ.A8 n.nxt.length σ.k8)).setCell ⟨pb, i * 13 + 9, none⟩ (.slice σ.A9 n.mtch.length σ.k9)).setCell ⟨pb, i * 13 + 10, none⟩ (.slice σ.A10 n.forms.length σ.k10)).setCell ⟨pb, i * 13 + 11, none⟩ (.int .i64 n.clock)).setCell ⟨pb, i * 13 + 12, none⟩ (.int .i64 n.due)) B x ⟨s.ns.set i n, s.us, s.f⟩ ρ ok ∧ OStep w (((((((((((((w.setCell ⟨pb, i * 13, none⟩ (.int .i64 n.id)).setCell ⟨pb, i * 13 + 1, none⟩ (.int .i64 n.term)).setCell ⟨pb, i * 13 + 2, none⟩ (.int .i64 n.vote)).setCell ⟨pb, i * 13 + 3, none⟩ (.slice σ.A3 n.log.length σ.k3)).setCell ⟨pb, i * 13 + 4, none⟩ (.int .i64 n.form)).setCell ⟨pb, i * 13 + 5, none⟩ (.int .i64 n.role)).setCell ⟨pb, i * 13 + 6, none⟩ (.int .i64 n.commit)).setCell ⟨pb, i * 13 + 7, none⟩ (.slice σ.A7 n.votes.length σ.k7)).setCell ⟨pb, i * 13 + 8, none⟩ (.slice σ.A8 n.nxt.length σ.k8)).setCell ⟨pb, i * 13 + 9, none⟩ (.slice σ.A9 n.mtch.length σ.k9)).setCell ⟨pb, i * 13 + 10, none⟩ (.slice σ.A10 n.forms.length σ.k10)).setCell ⟨pb, i * 13 + 11, none⟩ (.int .i64 n.clock)).setCell ⟨pb, i * 13 + 12, none⟩ (.int .i64 n.due)) B (ρ.owns x) (ρ.owns x) ok ok := by
 rw [put13]
 exact h.setN hi hp hn
theorem OStep.since {w w1 w2 : World} {B : Nat} {o o' ok ok1 ok' : Nat → Prop} (h : OStep w1 w2 B o o' ok1 ok') (hb : Below w.heap.size w w1) (hB : B ≤ w.heap.size) (hok : ∀ k, ok1 k → ok k ∨ w.heap.size ≤ k) : OStep w w2 B o o' ok ok' :=
 (OStep.ofBelow hb hB hok).trans h
theorem msgsV_drew {w : World} {ok : Nat → Prop} {v : Value} {ms : List Fed.Msg} (h : MsgsV w ok v ms) : MsgsV w.drew ok v ms := h.step fun _ _ _ => rfl
def Src (w : World) (okr ok : Nat → Prop) (v : Value) (ms : List Fed.Msg) : Prop := ∃ ds, MM.Rd w okr 10 v ms.length ds ∧ MsgsR w ok ms ds
theorem Src.below {w w1 : World} {okr ok : Nat → Prop} {v : Value} {ms : List Fed.Msg} (h : Src w okr ok v ms) (hb : Below w.heap.size w w1) : Src w1 okr ok v ms := by
 obtain ⟨ds, h1, h2⟩ := h
 exact ⟨ds, h1.step fun k _ hk => hb.block k hk, h2.step fun k _ hk => hb.block k hk⟩
theorem src_fly {w : World} {B : Nat} {v : Value} {ms : List Fed.Msg} {ob : Option Nat} {ok : Nat → Prop} (h : FlyAt w B v ms ob ok) : Src w (fun k => ob = some k) ok v ms := by
 obtain ⟨cs, h1, h2⟩ := h
 exact ⟨cs, h1.rd, h2⟩
theorem src_msgs {w : World} {v : Value} {ms : List Fed.Msg} {ok : Nat → Prop} (h : MsgsV w ok v ms) : Src w ok ok v ms := h
theorem append_flyR {ops : Array Oper} {rest : List Oper} {o : Oper} {a : Act} {Q : Exit → Act → World → Prop} (w : World) (hgd : o.guard = none) (s x : Operand)
  (ho : o.op = .call { callee := .builtin .append, args := #[s, x], argTypes := #[30, 30] }) (hty : o.type = 30)
  (B : Nat) (v : Value) (ms : List Fed.Msg) (ob : Option Nat) (okr ok : Nat → Prop) (hs : a.eval s = v) (h : FlyAt w B v ms ob ok) (X : Value) (ys : List Fed.Msg) (hx : a.eval x = X) (hX : Src w okr ok X ys) (hno : ∀ k, ok k → ob ≠ some k)
  (hl : ms.length + ys.length ≤ 2000000) (hB : B ≤ w.heap.size) (zs : List Fed.Msg) (hzs : zs = ms ++ ys)
  (hK : ∀ A' c' w' ob', FlyAt w' B (.slice A' zs.length c') zs ob' ok → (∀ k, k < w.heap.size → ob ≠ some k → w'.heap[k]? = w.heap[k]?) → (ob' = ob ∨ ∃ b, ob' = some b ∧ w.heap.size ≤ b) → Below B w w' → wpList Try.prog ops Q rest (a.put o.dst (.slice A' zs.length c')) w') (hokl : ∀ k, ok k → k < w.heap.size) : wpList Try.prog ops Q (o :: rest) a w := by
 subst hzs
 obtain ⟨i0, hi, hz0, hz1, hz2⟩ := info_parts info34
 obtain ⟨cs, h1, h2⟩ := h
 obtain ⟨ds, k1, k2⟩ := hX
 refine MM.wpList_append_row _ hgd s x 30 ho B 34 i0 _ 10 96 Try.underlying30 hi hz0 hz1 hz2 rfl (by decide) v ms.length cs ob hs h1 okr X ys.length ds hx k1 k2.one_cell (by simp only [maxLen]; omega) (by omega) hB ?_
 intro v' w' ob' hr hg hob
 obtain ⟨A', c', rfl, _, _⟩ := hr.slice
 have kp : ∀ k, k < w.heap.size → ob ≠ some k → w'.heap[k]? = w.heap[k]? := fun k hk hne => hg.block k hk (fun e => hne e.symm)
 rw [← List.length_append] at hr ⊢
 refine hK A' c' w' ob' ⟨cs ++ ds, hr, ?_⟩ kp hob ((Below.refl B w).grown hg hB (fun k hk => (h1.lt k hk).1))
 exact (h2.append k2).step fun k hk _ => kp k (hokl k hk) (hno k hk)
theorem rSent_any (w : World) (B x : Nat) (s : GS) (ρ : RM) (ok : Nat → Prop) (h : RefAt w B x s ρ ok) (i : Nat) (hi : i < s.ns.length) (n : Fed.Node) (σ : Sl5) (hn : NodeVs w ok n σ) (A : Option Addr) (c : Nat) (ys : List Fed.Msg) (hY : MsgsV w ok (.slice A ys.length c) ys) (hl : s.f.length + ys.length ≤ 2000000) (hl2 : s.ns.length ≤ 1000) :
  Calls Try.prog 95 #[.pointer (some ⟨x, 0, none⟩), .int .i64 i, .agg (NA n σ), .slice A ys.length c] w fun e w' => ∃ ρ', e = .returned (.tuple #[]) ∧ RefAt w' B x ⟨s.ns.set i n, s.us, s.f ++ ys⟩ ρ' ok ∧ OStep w w' B (ρ.owns x) (ρ'.owns x) ok ok := by
 have H := Hd h
 have HN := Hd hn
 have HY := Hd hY
 clear h hn hY
 go_enter Try.func95, Try.ntmps95
 go_upto_region 1 with (fail)
 refine name_world (F := fun W => Hid (W.heap[w.heap.size]? = some (.cells (NA n σ) 28 (0, 0))) ∧ Hid (RefAt W B x s ρ ok) ∧ Hid (NodeVs W ok n σ) ∧ Hid (MsgsV W ok (.slice A ys.length c) ys) ∧ Hid (Below w.heap.size w W)) _ (by exact ⟨Hd (MM.alloc_new _ _), Hd (H.out.alloc _), Hd (HN.out.step (fun k _ hl => Below.heap_alloc _ _ k hl)), Hd (HY.out.step (fun k _ hl => Below.heap_alloc _ _ k hl)), Hd ((Below.refl _ _).alloc (Nat.le_refl _) _)⟩) ?_
 clear HN HY
 intro w1 ⟨R1, H1, N1, Y1, S1⟩
 obtain ⟨u0, u1, u2, u3, u4, u5, u6, u7, u8, u9, u10, u11, u12⟩ := MM.cells13 R1.out
 obtain ⟨pb, hp, ea, hc1, hc2, hf, σ0, _, hc⟩ := H1.out.place hi
 have c0 := H1.out.c0
 rw [ea] at c0
 have x0 : w1.cell? ⟨pb, i * 13, none⟩ = some (.int .i64 (s.node i).id) := hc 0 _ rfl
 have x1 : w1.cell? ⟨pb, i * 13 + 1, none⟩ = some (.int .i64 (s.node i).term) := hc 1 _ rfl
 have x2 : w1.cell? ⟨pb, i * 13 + 2, none⟩ = some (.int .i64 (s.node i).vote) := hc 2 _ rfl
 have x3 : w1.cell? ⟨pb, i * 13 + 3, none⟩ = some (.slice σ0.A3 (s.node i).log.length σ0.k3) := hc 3 _ rfl
 have x4 : w1.cell? ⟨pb, i * 13 + 4, none⟩ = some (.int .i64 (s.node i).form) := hc 4 _ rfl
 have x5 : w1.cell? ⟨pb, i * 13 + 5, none⟩ = some (.int .i64 (s.node i).role) := hc 5 _ rfl
 have x6 : w1.cell? ⟨pb, i * 13 + 6, none⟩ = some (.int .i64 (s.node i).commit) := hc 6 _ rfl
 have x7 : w1.cell? ⟨pb, i * 13 + 7, none⟩ = some (.slice σ0.A7 (s.node i).votes.length σ0.k7) := hc 7 _ rfl
 have x8 : w1.cell? ⟨pb, i * 13 + 8, none⟩ = some (.slice σ0.A8 (s.node i).nxt.length σ0.k8) := hc 8 _ rfl
 have x9 : w1.cell? ⟨pb, i * 13 + 9, none⟩ = some (.slice σ0.A9 (s.node i).mtch.length σ0.k9) := hc 9 _ rfl
 have x10 : w1.cell? ⟨pb, i * 13 + 10, none⟩ = some (.slice σ0.A10 (s.node i).forms.length σ0.k10) := hc 10 _ rfl
 have x11 : w1.cell? ⟨pb, i * 13 + 11, none⟩ = some (.int .i64 (s.node i).clock) := hc 11 _ rfl
 have x12 : w1.cell? ⟨pb, i * 13 + 12, none⟩ = some (.int .i64 (s.node i).due) := hc 12 _ rfl
 have z0 : w1.frozen? ⟨pb, i * 13, none⟩ = false := hf _
 have z1 : w1.frozen? ⟨pb, i * 13 + 1, none⟩ = false := hf _
 have z2 : w1.frozen? ⟨pb, i * 13 + 2, none⟩ = false := hf _
 have z3 : w1.frozen? ⟨pb, i * 13 + 3, none⟩ = false := hf _
 have z4 : w1.frozen? ⟨pb, i * 13 + 4, none⟩ = false := hf _
 have z5 : w1.frozen? ⟨pb, i * 13 + 5, none⟩ = false := hf _
 have z6 : w1.frozen? ⟨pb, i * 13 + 6, none⟩ = false := hf _
 have z7 : w1.frozen? ⟨pb, i * 13 + 7, none⟩ = false := hf _
 have z8 : w1.frozen? ⟨pb, i * 13 + 8, none⟩ = false := hf _
 have z9 : w1.frozen? ⟨pb, i * 13 + 9, none⟩ = false := hf _
 have z10 : w1.frozen? ⟨pb, i * 13 + 10, none⟩ = false := hf _
 have z11 : w1.frozen? ⟨pb, i * 13 + 11, none⟩ = false := hf _
 have z12 : w1.frozen? ⟨pb, i * 13 + 12, none⟩ = false := hf _
 have hpl := (H1.out.ltp pb hp).2
 have HP := Hd hp
 have HOK := Hd (show ∀ k, ok k → k ≠ pb from fun k hk e => H1.out.no k hk (.inr (.inl (by rw [hp, e]))))
 clear hp hf hc ea
 refine wT (.p 0 (.p 1 (.p 2 (.s 3 (.p 4 (.s 5 (.p 6 (.w 7 [] .nil .stop)))))))) (by kernel_rfl) (by kernel_rfl) ?_
 repeat ((first | refine sP rfl fun K hK => ?_ | refine sS rfl fun K hK => ?_); go_simp; refine hK _ ?_; clear hK K)
 refine sW rfl rfl (fun K hK => ?_) sT
 repeat (first | go_values | go_skip | go_guarded | go_step | go_upon)
 refine qN _ _ _ _ (hK _ _ ?_ ?_) <;> clear hK K
 ·repeat first | exact aN | refine aO rfl rfl ?_ | refine aI rfl (by go_simp <;> rfl) ?_
 refine sN ?_
 go_upto_region 2 with (fail)
 refine name_world (F := fun W => Hid (RefAt W B x ⟨s.ns.set i n, s.us, s.f⟩ ρ ok) ∧ Hid (OStep w1 W B (ρ.owns x) (ρ.owns x) ok ok) ∧ Hid (MsgsV W ok (.slice A ys.length c) ys)) _ (by exact ⟨Hd ((H1.out.set13 hi HP.out N1.out).1.drew), Hd ((H1.out.set13 hi HP.out N1.out).2.drew), Hd (msgsV_drew (Y1.out.step (fun k hk hl => far13o (HOK.out k hk))))⟩) ?_
 clear H1 N1 Y1
 intro w2 ⟨H2, S2, Y2⟩
 clear x0 z0 x1 z1 x2 z2 x3 z3 x4 z4 x5 z5 x6 z6 x7 z7 x8 z8 x9 z9 x10 z10 x11 z11 x12 z12
 have c2 := H2.out.c2
 have hxl := H2.out.lt
 have hf2 := H2.out.fr 2
 obtain ⟨f1, hf1⟩ : ∃ f1, f1 = s.f := ⟨_, rfl⟩
 obtain ⟨zs, hzs⟩ : ∃ zs, zs = f1 ++ ys := ⟨_, rfl⟩
 rw [show (GS.mk (s.ns.set i n) s.us s.f).f = s.f from rfl] at c2
 have F2 := Hd (show FlyAt w2 B (.slice ρ.F s.f.length ρ.d) s.f ρ.fb ok from H2.out.fl)
 rw [← hf1] at c2 F2 hl
 have HF1 := Hd hf1
 have HZ := Hd hzs
 have HOL := Hd H2.out.okl
 have HBS := Hd H2.out.Bsize
 clear hf1 hzs
 go_wp2_with (at_builtin; (refine append_flyR _ rfl (.tmp 16) (.tmp 20) rfl rfl B _ [] none (fun k => ρ.fb = some k) ok rfl (FlyAt.nil _ _ _ _) _ f1 rfl ((src_fly F2.out).below ((Below.refl _ _).alloc (Nat.le_refl _) _)) (fun k hk e => by cases e) (by simp; omega) (by have := HBS.out; simp; omega) f1 rfl ?_ (fun k hk => by have := HOL.out k hk; simp; omega)))
 intro A3 c3 w3 ob3 hf3 kp3 hob3 hbl3
 have HF3 := Hd hf3
 have K3 := Hd (show ∀ k, k < w2.heap.size → w3.heap[k]? = w2.heap[k]? from fun k hk => (kp3 k (by first | omega | (simp; omega))).trans (Below.heap_alloc _ _ k hk))
 have HB3 := Hd (show Below B w2 w3 from ((Below.refl _ _).alloc HBS.out _).trans hbl3)
 have O3 := Hd (show ∀ k, ob3 = some k → w2.heap.size ≤ k from fun k hk => by
  rcases hob3 with e | ⟨b, e, hb⟩
  ·rw [e] at hk; cases hk
  ·rw [e] at hk; injection hk with hk; first | omega | (simp at hb; omega))
 have c23 := (World.cell?_of_block (a := ⟨x, 2, none⟩) (K3.out x hxl)).trans c2
 clear hf3 kp3 hob3 hbl3
 go_wp2_with (at_builtin; (refine append_flyR _ rfl (.tmp 21) (.tmp 22) rfl rfl B _ f1 ob3 ok ok rfl HF3.out _ ys rfl (Y2.out.step (fun k hk hl => K3.out k hl)) (fun k hk e => by have h1 := O3.out k e; have h2 := HOL.out k hk; omega) hl (Nat.le_trans HBS.out HB3.out.size) zs HZ.out ?_ (fun k hk => Nat.lt_of_lt_of_le (HOL.out k hk) HB3.out.size)))
 intro A4 c4 w4 ob4 hf4 kp4 hob4 hbl4
 have HF4 := Hd hf4
 have K4 := Hd (show ∀ k, k < w2.heap.size → w4.heap[k]? = w2.heap[k]? from fun k hk => (kp4 k (Nat.lt_of_lt_of_le hk HB3.out.size) (fun e => by have := O3.out k e; omega)).trans (K3.out k hk))
 have O4 := Hd (show ob4 = none ∨ ∃ b, ob4 = some b ∧ w2.heap.size ≤ b from by
  rcases hob4 with e | ⟨b, e, hb⟩
  ·cases h3 : ob3
   ·exact .inl (by rw [e, h3])
   ·exact .inr ⟨_, by rw [e, h3], O3.out _ h3⟩
  ·exact .inr ⟨b, e, Nat.le_trans HB3.out.size hb⟩)
 have P := Hd (H2.out.putF HF4.out K4.out O4.out (HB3.out.trans hbl4))
 have c24 := (World.cell?_of_block (a := ⟨x, 2, none⟩) (K4.out x hxl)).trans c2
 have f24 := (World.frozen?_of_block (a := ⟨x, 2, none⟩) (K4.out x hxl)).trans hf2
 have hx4 : x < w4.heap.size := by have := HB3.out.size; have := hbl4.size; omega
 clear hf4 kp4 hob4 hbl4 c2 c23 hf2 O3 K3
 go_wp2
 go_end0
 have e := HZ.out
 have e1 := HF1.out
 subst e e1
 exact ⟨rfl, _, P.out.1, (S2.out.trans P.out.2).since S1.out H.out.Bsize (fun k hk => .inl hk)⟩
end Go.Proofs.Ytnkmljdkokcdjaa
