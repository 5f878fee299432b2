/-
Messages that are gathered, appended to one another.
The law's group of nodes, in plain Lean: what each of its steps comes to.
How a group lies in memory; what a store, an append leaves of it.
The queue's at and put answer as the plain functions. Condition: a group lies there.
slices.Delete of one message takes it out of its row. Condition: the row is the group's own.
The queue's take answers as the plain function. Condition: a group lies there.
-/
import Derived.Test.YtnkmljdkokcdjaaB8
import Derived.Test.YtnkmljdkokcdjaaB6
import Derived.Test.YtnkmljdkokcdjaaB9
import Derived.Test.YtnkmljdkokcdjaaB10
import Derived.Test.YtnkmljdkokcdjaaB5
import Derived.WalkKit
import Derived.WalkSpells
import Derived.Lib.Hide
import Derived.Outline
import Derived.Test.YtnkmljdkokcdjaaChecked
import Derived.Test.YtnkmljdkokcdjaaB1
import Derived.Deep.OwnRows
import Derived.Test.YtnkmljdkokcdjaaB0
import Derived.Deep.DeepCutAuto
import Derived.Deep.CutBlock
import Derived.IntWalk
set_option linter.unusedVariables false
set_option linter.unusedSimpArgs false
set_option maxRecDepth 100000
set_option maxHeartbeats 40000000
namespace Fed
open Go Go.RowKit Go.Proofs.Ytnkmljdkokcdjaa
theorem MsgsR.drop' {w : World} {ok : Nat → Prop} : ∀ {ms : List Fed.Msg} {cs : List Value} (k : Nat), MsgsR w ok ms cs → MsgsR w ok (ms.drop k) (cs.drop (k * 10))
 | ms, cs, 0, h => by simpa using h
 | [], cs, k + 1, h => by cases h; simp [MsgsR]
 | m :: ms, cs, k + 1, ⟨ve, rest, h1, h2, h3⟩ => by
  have := MsgsR.drop' k h3
  rw [List.drop_succ_cons, h1, show (k + 1) * 10 = (msgC m ve).length + k * 10 from by show _ = 10 + k * 10; omega, ← List.drop_drop, List.drop_left]
  exact this
theorem MsgsR.take' {w : World} {ok : Nat → Prop} : ∀ {ms : List Fed.Msg} {cs : List Value} (k : Nat), MsgsR w ok ms cs → MsgsR w ok (ms.take k) (cs.take (k * 10))
 | ms, cs, 0, h => by simp [MsgsR]
 | [], cs, k + 1, h => by cases h; simp [MsgsR]
 | m :: ms, cs, k + 1, ⟨ve, rest, h1, h2, h3⟩ => by
  have := MsgsR.take' k h3
  rw [List.take_succ_cons, h1]
  refine ⟨ve, rest.take (k * 10), ?_, h2, this⟩
  rw [List.take_append, show (msgC m ve).length = 10 from rfl, List.take_of_length_le (by show 10 ≤ _; omega), show (k + 1) * 10 - 10 = k * 10 from by omega]
theorem MsgsV.len {w : World} {ok : Nat → Prop} {ms : List Fed.Msg} {A : Option Addr} {n c : Nat} (h : MsgsV w ok (.slice A n c) ms) : n = ms.length ∧ ms.length ≤ c ∧ c ≤ maxLen := by
 obtain ⟨cs, k1, k2⟩ := h
 obtain ⟨A', c', e, h1, h2⟩ := k1.slice
 injection e with _ e2 e3
 subst e3
 exact ⟨e2, h1, h2⟩
end Fed
namespace Go.Proofs.Ytnkmljdkokcdjaa
open Go Go.RowKit Fed
theorem letter_eq : ∀ x, x < 8 → ({ data := #[97, 98, 99, 100, 101, 102, 103, 104] } : ByteArray).extract x (x + 1) = letter x := by
 intro x hx
 have h : x = 0 ∨ x = 1 ∨ x = 2 ∨ x = 3 ∨ x = 4 ∨ x = 5 ∨ x = 6 ∨ x = 7 := by omega
 rcases h with rfl | rfl | rfl | rfl | rfl | rfl | rfl | rfl <;> rfl
def FlyAt (w : World) (B : Nat) (v : Value) (ms : List Fed.Msg) (ob : Option Nat) (ok : Nat → Prop) : Prop :=
 ∃ cs, MM.Row w B 34 10 v ms.length cs ob ∧ MsgsR w ok ms cs
namespace FlyAt
variable {w w1 : World} {B : Nat} {v : Value} {ms : List Fed.Msg} {ob : Option Nat} {ok ok' : Nat → Prop}
theorem nil (w : World) (B : Nat) (A : Option Addr) (ok : Nat → Prop) : FlyAt w B (.slice A 0 0) [] none ok := ⟨[], MM.Row.nil _ _ _ _ _, rfl⟩
theorem step (h : FlyAt w B v ms ob ok) (hr : ∀ k, ob = some k → w1.heap[k]? = w.heap[k]?) (hm : ∀ k, ok k → k < w.heap.size → w1.heap[k]? = w.heap[k]?) : FlyAt w1 B v ms ob ok := by
 obtain ⟨cs, h1, h2⟩ := h
 exact ⟨cs, h1.step fun k hk _ => hr k hk, h2.step hm⟩
theorem below (h : FlyAt w B v ms ob ok) (hb : Below w.heap.size w w1) : FlyAt w1 B v ms ob ok := by
 obtain ⟨cs, h1, h2⟩ := h
 exact ⟨cs, h1.below hb, h2.step fun k _ hk => hb.block k hk⟩
theorem drew (h : FlyAt w B v ms ob ok) : FlyAt w.drew B v ms ob ok := h.step (fun _ _ => rfl) (fun _ _ _ => rfl)
theorem mono (h : FlyAt w B v ms ob ok) (hok : ∀ k, ok k → k < w.heap.size → ok' k) : FlyAt w B v ms ob ok' := by
 obtain ⟨cs, h1, h2⟩ := h
 exact ⟨cs, h1, h2.mono hok⟩
theorem toV (h : FlyAt w B v ms ob ok) (hb : ∀ k, ob = some k → B ≤ k → ok' k) (hok : ∀ k, ok k → k < w.heap.size → ok' k) : MsgsV w ok' v ms := by
 obtain ⟨cs, h1, h2⟩ := h
 exact ⟨cs, h1.rd.mono fun k hk _ => hb k hk (h1.lt k hk).1, h2.mono hok⟩
theorem lt (h : FlyAt w B v ms ob ok) : ∀ k, ob = some k → B ≤ k ∧ k < w.heap.size := by
 obtain ⟨cs, h1, _⟩ := h
 exact h1.lt
theorem slice (h : FlyAt w B v ms ob ok) : ∃ A c, v = .slice A ms.length c ∧ ms.length ≤ c ∧ c ≤ maxLen := by
 obtain ⟨cs, h1, _⟩ := h
 exact h1.slice
end FlyAt
theorem append_fly {ops : Array Oper} {rest : List Oper} {o : Oper} {a : Act} {Q : Exit → Act → World → Prop} (w : World) (hgd : o.guard = none) (s x : Operand)
  (ho : o.op = .call { callee := .builtin .append, args := #[s, x], argTypes := #[30, 30] }) (hty : o.type = 30)
  (B : Nat) (v : Value) (ms : List Fed.Msg) (ob : Option Nat) (ok : Nat → Prop) (hs : a.eval s = v) (h : FlyAt w B v ms ob ok) (X : Value) (ys : List Fed.Msg) (hx : a.eval x = X) (hX : MsgsV w ok X ys) (hno : ∀ k, ok k → ob ≠ some k)
  (hl : ms.length + ys.length ≤ 2000000) (hB : B ≤ w.heap.size) (zs : List Fed.Msg) (hzs : zs = ms ++ ys)
  (hK : ∀ A' c' w' ob', FlyAt w' B (.slice A' zs.length c') zs ob' (fun k => ok k ∧ k < w.heap.size) → (∀ k, k < w.heap.size → ob ≠ some k → w'.heap[k]? = w.heap[k]?) → (ob' = ob ∨ ∃ b, ob' = some b ∧ w.heap.size ≤ b) → Below B w w' → wpList Try.prog ops Q rest (a.put o.dst (.slice A' zs.length c')) w') : wpList Try.prog ops Q (o :: rest) a w := by
 subst hzs
 obtain ⟨i0, hi, hz0, hz1, hz2⟩ := info_parts info34
 obtain ⟨cs, h1, h2⟩ := h
 obtain ⟨ds, k1, k2⟩ := hX
 refine MM.wpList_append_row _ hgd s x 30 ho B 34 i0 _ 10 96 Try.underlying30 hi hz0 hz1 hz2 rfl (by decide) v ms.length cs ob hs h1 ok X ys.length ds hx k1 k2.one_cell (by simp only [maxLen]; omega) (by omega) hB ?_
 intro v' w' ob' hr hg hob
 obtain ⟨A', c', rfl, _, _⟩ := hr.slice
 have kp : ∀ k, k < w.heap.size → ob ≠ some k → w'.heap[k]? = w.heap[k]? := fun k hk hne => hg.block k hk (fun e => hne e.symm)
 rw [← List.length_append] at hr ⊢
 refine hK A' c' w' ob' ⟨cs ++ ds, hr, ?_⟩ kp hob ((Below.refl B w).grown hg hB (fun k hk => (h1.lt k hk).1))
 exact ((h2.append k2).mono (ok' := fun k => ok k ∧ k < w.heap.size) fun k hk hlt => ⟨hk, hlt⟩).step fun k hk _ => kp k hk.2 (hno k hk.1)
theorem append_fly1 {ops : Array Oper} {rest : List Oper} {o : Oper} {a : Act} {Q : Exit → Act → World → Prop} (w : World) (hgd : o.guard = none) (s x : Operand)
  (ho : o.op = .call { callee := .builtin .append, args := #[s, x], argTypes := #[30, 30] }) (hty : o.type = 30)
  (B : Nat) (v : Value) (ms : List Fed.Msg) (ob : Option Nat) (ok : Nat → Prop) (hs : a.eval s = v) (h : FlyAt w B v ms ob ok) (b : Nat) (m : Fed.Msg) (A : Option Addr) (c : Nat) (hx : a.eval x = .slice (some ⟨b, 0, none⟩) 1 1)
  (hb : w.heap[b]? = some (.cells #[.int .i64 m.kind, .int .i64 m.frm, .int .i64 m.to, .int .i64 m.term, .int .i64 m.index, .int .i64 m.logTerm, .bool m.ok, .slice A m.entries.length c, .int .i64 m.commit, .int .i64 m.form] 34 (0, 0)))
  (he : MM.Rd w ok 2 (.slice A m.entries.length c) m.entries.length (entsC m.entries)) (hno : ∀ k, ok k → ob ≠ some k)
  (hl : ms.length ≤ 1000000) (hB : B ≤ w.heap.size) (zs : List Fed.Msg) (hzs : zs = ms ++ [m])
  (hK : ∀ A' c' w' ob', FlyAt w' B (.slice A' zs.length c') zs ob' (fun k => ok k ∧ k < w.heap.size) → (∀ k, k < w.heap.size → ob ≠ some k → w'.heap[k]? = w.heap[k]?) → (ob' = ob ∨ ∃ b, ob' = some b ∧ w.heap.size ≤ b) → Below B w w' → wpList Try.prog ops Q rest (a.put o.dst (.slice A' zs.length c')) w') : wpList Try.prog ops Q (o :: rest) a w := by
 subst hzs
 obtain ⟨i0, hi, hz0, hz1, hz2⟩ := info_parts info34
 obtain ⟨cs, h1, h2⟩ := h
 refine MM.wpList_append_row _ hgd s x 30 ho B 34 i0 _ 10 96 Try.underlying30 hi hz0 hz1 hz2 rfl (by decide) v ms.length cs ob hs h1 (fun _ => True) _ 1 (msgC m (.slice A m.entries.length c)) hx (MM.Rd.lit hb trivial rfl (Nat.le_refl _) (by simp [maxLen]) (by simp [msgC])) (msgC_one rfl) (by simp only [maxLen]; omega) (by omega) hB ?_
 intro v' w' ob' hr hg hob
 obtain ⟨A', c', rfl, _, _⟩ := hr.slice
 have kp : ∀ k, k < w.heap.size → ob ≠ some k → w'.heap[k]? = w.heap[k]? := fun k hk hne => hg.block k hk (fun e => hne e.symm)
 have hl1 : (ms ++ [m]).length = ms.length + 1 := by simp
 rw [← hl1] at hr ⊢
 refine hK A' c' w' ob' ⟨cs ++ msgC m (.slice A m.entries.length c), hr, ?_⟩ kp hob ((Below.refl B w).grown hg hB (fun k hk => (h1.lt k hk).1))
 exact ((h2.append (MsgsR.one he)).mono (ok' := fun k => ok k ∧ k < w.heap.size) fun k hk hlt => ⟨hk, hlt⟩).step fun k hk _ => kp k hk.2 (hno k hk.1)
end Go.Proofs.Ytnkmljdkokcdjaa
namespace Fed
open Go Go.RowKit Go.Proofs.Ytnkmljdkokcdjaa
structure GS where
 ns : List Node
 us : List Bool
 f : List Msg
namespace GS
def isUp (s : GS) (id : Int) : Bool := decide (0 ≤ id) && decide (id < s.ns.length) && s.us.getD id.toNat false
def node (s : GS) (id : Int) : Node := s.ns.getD id.toNat blank
def put (s : GS) (id : Int) (r : NS) : GS := ⟨s.ns.set id.toNat r.n, s.us, s.f ++ r.out⟩
def has (s : GS) (a : Int) : Bool := decide (0 ≤ a) && decide (a < s.f.length)
def msg (s : GS) (a : Int) : Msg := s.f.getD a.toNat noMsg
def cut (s : GS) (a : Int) : GS := if s.has a = true then ⟨s.ns, s.us, s.f.eraseIdx a.toNat⟩ else s
def tick (s : GS) (id : Int) : GS := if s.isUp id = true then s.put id (tickS (s.node id)) else s
def deliver (s : GS) (a : Int) : GS :=
 if s.has a = true then (if s.isUp (s.msg a).to = true then (s.cut a).put (s.msg a).to (handleS (s.node (s.msg a).to) (s.msg a)) else s.cut a) else s
def twice (s : GS) (a : Int) : GS := if s.has a = true then ⟨s.ns, s.us, s.f ++ [s.msg a]⟩ else s
def prop (s : GS) (id : Int) (d : ByteArray) : GS := if s.isUp id = true then s.put id (proposeS (s.node id) d) else s
def propOk (s : GS) (id : Int) : Bool := s.isUp id && decide ((s.node id).role = 2)
def crash (s : GS) (id : Int) : GS := if s.isUp id = true then ⟨s.ns, s.us.set id.toNat false, s.f⟩ else s
def startOk (s : GS) (id form : Int) : Bool := decide (0 ≤ id) && decide (id < s.ns.length) && !s.us.getD id.toNat false && (decide (form = 1) || decide (form = 2))
def start (s : GS) (id form : Int) : GS := if s.startOk id form = true then ⟨s.ns.set id.toNat (restartN (s.node id) form), s.us.set id.toNat true, s.f⟩ else s
end GS
def datas (l : List Entry) : List ByteArray := (l.filter fun e => !e.data.toList.isEmpty).map (·.data)
def appliedN (n : Node) : List ByteArray := datas (n.log.take n.commit.toNat)
namespace GS
def applied (s : GS) (id : Int) : List ByteArray := if s.isUp id = true then appliedN (s.node id) else []
def leadTo (s : GS) : Nat → Int
 | 0 => -1
 | i + 1 => if (s.us.getD i false && decide ((s.ns.getD i blank).role = 2) && (decide (leadTo s i < 0) || decide ((s.ns.getD (leadTo s i).toNat blank).term < (s.ns.getD i blank).term))) = true then (i : Int) else leadTo s i
def leader (s : GS) : Int := s.leadTo s.ns.length
def new (k : Nat) : GS := ⟨(List.range k).map fun j : Nat => newN (j : Int) k 1, List.replicate k true, []⟩
end GS
end Fed
namespace Go.Proofs.Ytnkmljdkokcdjaa
open Go Go.RowKit Fed
theorem info96 : (Try.prog.info? 96).map (fun i => (i.zero, i.size, i.bytes)) = some (some (.agg #[.int .i64 0, .int .i64 0, .int .i64 0, .slice none 0 0, .int .i64 0, .int .i64 0, .int .i64 0, .slice none 0 0, .slice none 0 0, .slice none 0 0, .slice none 0 0, .int .i64 0, .int .i64 0, .bool false]), 14, 192) := by kernel_rfl
def placeL (n : Fed.Node) (σ : Sl5) (u : Bool) : List Value := nodeL n σ ++ [.bool u]
theorem placeL_len (n : Fed.Node) (σ : Sl5) (u : Bool) : (placeL n σ u).length = 14 := rfl
structure GM where
 A : Option Addr
 c : Nat
 F : Option Addr
 d : Nat
 p : Option Nat
 fb : Option Nat
def GM.owns (g : Nat) (μ : GM) (k : Nat) : Prop := k = g ∨ μ.p = some k ∨ μ.fb = some k
structure GroupAt (w : World) (B g : Nat) (s : GS) (μ : GM) (ok : Nat → Prop) : Prop where
 hB : B ≤ g
 blk : w.heap[g]? = some (.cells #[.slice μ.A s.ns.length μ.c, .slice μ.F s.f.length μ.d] 94 (0, 0))
 ul : s.us.length = s.ns.length
 pl : ∃ cs, MM.Row w B 96 14 (.slice μ.A s.ns.length μ.c) s.ns.length cs μ.p ∧ ∀ i n u, s.ns[i]? = some n → s.us[i]? = some u → ∃ σ, NodeVs w ok n σ ∧ ∀ j x, (placeL n σ u)[j]? = some x → cs[i * 14 + j]? = some x
 fl : FlyAt w B (.slice μ.F s.f.length μ.d) s.f μ.fb ok
 no : ∀ k, ok k → ¬ μ.owns g k
 okl : ∀ k, ok k → k < w.heap.size
structure GStep (w w' : World) (B g : Nat) (μ μ' : GM) (ok ok' : Nat → Prop) : Prop where
 below : Below B w w'
 keep : ∀ k, k < w.heap.size → ¬ μ.owns g k → w'.heap[k]? = w.heap[k]?
 own : ∀ k, μ'.owns g k → μ.owns g k ∨ w.heap.size ≤ k
 oks : ∀ k, ok' k → ok k ∨ w.heap.size ≤ k
namespace GStep
variable {w w1 w2 : World} {B g : Nat} {μ μ1 μ2 : GM} {ok ok1 ok2 : Nat → Prop}
theorem refl (w : World) (B g : Nat) (μ : GM) (ok : Nat → Prop) : GStep w w B g μ μ ok ok := ⟨Below.refl _ _, fun _ _ _ => rfl, fun _ h => .inl h, fun _ h => .inl h⟩
theorem trans (h : GStep w w1 B g μ μ1 ok ok1) (h' : GStep w1 w2 B g μ1 μ2 ok1 ok2) : GStep w w2 B g μ μ2 ok ok2 where
 below := h.below.trans h'.below
 keep k hk hn := (h'.keep k (Nat.lt_of_lt_of_le hk h.below.size) (fun q => by rcases h.own k q with q | q; exact hn q; omega)).trans (h.keep k hk hn)
 own k q := by
  rcases h'.own k q with q | q
  ·exact h.own k q
  ·exact .inr (Nat.le_trans h.below.size q)
 oks k q := by
  rcases h'.oks k q with q | q
  ·exact h.oks k q
  ·exact .inr (Nat.le_trans h.below.size q)
theorem ofBelow (hb : Below w.heap.size w w1) (hB : B ≤ w.heap.size) : GStep w w1 B g μ μ ok ok := ⟨hb.mono hB, fun k hk _ => hb.block k hk, fun _ h => .inl h, fun _ h => .inl h⟩
theorem drew (h : GStep w w1 B g μ μ1 ok ok1) : GStep w w1.drew B g μ μ1 ok ok1 := ⟨h.below.drew, h.keep, h.own, h.oks⟩
end GStep
namespace GroupAt
variable {w w1 : World} {B g : Nat} {s : GS} {μ : GM} {ok ok' : Nat → Prop}
theorem lt (h : GroupAt w B g s μ ok) : g < w.heap.size := MM.blk_lt h.blk
theorem Bsize (h : GroupAt w B g s μ ok) : B ≤ w.heap.size := Nat.le_trans h.hB (Nat.le_of_lt h.lt)
theorem tyg (h : GroupAt w B g s μ ok) : MM.Ty w g 94 := ⟨_, _, h.blk⟩
theorem typ (h : GroupAt w B g s μ ok) : ∀ k, μ.p = some k → MM.Ty w k 96 := by obtain ⟨cs, h1, _⟩ := h.pl; exact h1.ty
theorem tyf (h : GroupAt w B g s μ ok) : ∀ k, μ.fb = some k → MM.Ty w k 34 := by obtain ⟨cs, h1, _⟩ := h.fl; exact h1.ty
theorem ltp (h : GroupAt w B g s μ ok) : ∀ k, μ.p = some k → B ≤ k ∧ k < w.heap.size := by obtain ⟨cs, h1, _⟩ := h.pl; exact h1.lt
theorem ltf (h : GroupAt w B g s μ ok) : ∀ k, μ.fb = some k → B ≤ k ∧ k < w.heap.size := by obtain ⟨cs, h1, _⟩ := h.fl; exact h1.lt
theorem ownlt (h : GroupAt w B g s μ ok) : ∀ k, μ.owns g k → B ≤ k ∧ k < w.heap.size := by
 rintro k (rfl | q | q)
 ·exact ⟨h.hB, h.lt⟩
 ·exact h.ltp k q
 ·exact h.ltf k q
theorem c0 (h : GroupAt w B g s μ ok) : w.cell? ⟨g, 0, none⟩ = some (.slice μ.A s.ns.length μ.c) := MM.cell_blk h.blk rfl
theorem c1 (h : GroupAt w B g s μ ok) : w.cell? ⟨g, 1, none⟩ = some (.slice μ.F s.f.length μ.d) := MM.cell_blk h.blk rfl
theorem fr (h : GroupAt w B g s μ ok) (i : Nat) : w.frozen? ⟨g, i, none⟩ = false := MM.free_blk h.blk
theorem step (h : GroupAt w B g s μ ok) (hm : ∀ k, μ.owns g k ∨ ok k → w1.heap[k]? = w.heap[k]?) (hs : w.heap.size ≤ w1.heap.size) : GroupAt w1 B g s μ ok := by
 obtain ⟨cs, p1, p2⟩ := h.pl
 obtain ⟨ds, f1, f2⟩ := h.fl
 refine ⟨h.hB, (hm g (.inl (.inl rfl))).trans h.blk, h.ul, ⟨cs, p1.step fun k hk _ => hm k (.inl (.inr (.inl hk))), fun i n u hn hu => ?_⟩, ⟨ds, f1.step fun k hk _ => hm k (.inl (.inr (.inr hk))), f2.step fun k hk _ => hm k (.inr hk)⟩, h.no, fun k hk => Nat.lt_of_lt_of_le (h.okl k hk) hs⟩
 obtain ⟨σ, v, hc⟩ := p2 i n u hn hu
 exact ⟨σ, v.step fun k hk _ => hm k (.inr hk), hc⟩
theorem below (h : GroupAt w B g s μ ok) (hb : Below w.heap.size w w1) : GroupAt w1 B g s μ ok := h.step (fun k hk => hb.block k (by rcases hk with hk | hk; exact (h.ownlt k hk).2; exact h.okl k hk)) hb.size
theorem drew (h : GroupAt w B g s μ ok) : GroupAt w.drew B g s μ ok := h.step (fun _ _ => rfl) (Nat.le_refl _)
theorem alloc (h : GroupAt w B g s μ ok) (o : Obj) : GroupAt (w.alloc o) B g s μ ok := h.step (fun k hk => Below.heap_alloc w o k (by rcases hk with hk | hk; exact (h.ownlt k hk).2; exact h.okl k hk)) (by simp)
theorem place (h : GroupAt w B g s μ ok) {i : Nat} (hi : i < s.ns.length) : ∃ pb, μ.p = some pb ∧ μ.A = some ⟨pb, 0, none⟩ ∧ s.ns.length ≤ μ.c ∧ μ.c ≤ maxLen ∧ (∀ j, w.frozen? ⟨pb, j, none⟩ = false) ∧ ∃ σ, NodeVs w ok (s.node i) σ ∧ ∀ j x, (placeL (s.node i) σ (s.us.getD i false))[j]? = some x → w.cell? ⟨pb, i * 14 + j, none⟩ = some x := by
 obtain ⟨cs, p1, p2⟩ := h.pl
 obtain ⟨pb, hp⟩ := p1.some_of (by omega)
 have p1' := p1
 rw [hp] at p1'
 obtain ⟨cap, e, e1, e2⟩ := p1'.form
 injection e with ea _ ec
 have en : s.ns[i]? = some (s.node i) := by
  unfold GS.node
  rw [Int.toNat_natCast, List.getD_eq_getElem?_getD, List.getElem?_eq_getElem hi]; rfl
 have eu : s.us[i]? = some (s.us.getD i false) := by
  rw [List.getD_eq_getElem?_getD, List.getElem?_eq_getElem (by rw [h.ul]; exact hi)]; rfl
 obtain ⟨σ, v, hc⟩ := p2 i _ _ en eu
 exact ⟨pb, hp, ea, by rw [ec]; exact e1, by rw [ec]; exact e2, p1'.free, σ, v, fun j x hj => p1'.cell (hc j x hj)⟩
theorem fly (h : GroupAt w B g s μ ok) {i : Nat} (hi : i < s.f.length) : ∃ fb, μ.fb = some fb ∧ μ.F = some ⟨fb, 0, none⟩ ∧ s.f.length ≤ μ.d ∧ μ.d ≤ maxLen ∧ (∀ j, w.frozen? ⟨fb, j, none⟩ = false) ∧ ∃ A c, MM.Rd w ok 2 (.slice A (s.msg i).entries.length c) (s.msg i).entries.length (entsC (s.msg i).entries) ∧ ∀ j u, (msgC (s.msg i) (.slice A (s.msg i).entries.length c))[j]? = some u → w.cell? ⟨fb, i * 10 + j, none⟩ = some u := by
 obtain ⟨cs, p1, p2⟩ := h.fl
 obtain ⟨fb, hp⟩ := p1.some_of (by omega)
 have p1' := p1
 rw [hp] at p1'
 obtain ⟨cap, e, e1, e2⟩ := p1'.form
 injection e with ea _ ec
 have em : s.f[i]? = some (s.msg i) := by
  unfold GS.msg
  rw [Int.toNat_natCast, List.getD_eq_getElem?_getD, List.getElem?_eq_getElem hi]; rfl
 obtain ⟨ve, hr, hc⟩ := p2.get em
 obtain ⟨A, c, rfl, _, _⟩ := hr.slice
 exact ⟨fb, hp, ea, by rw [ec]; exact e1, by rw [ec]; exact e2, p1'.free, A, c, hr, fun j u hj => p1'.cell (hc j u hj)⟩
theorem putF {A' : Option Addr} {c' : Nat} {ob' : Option Nat} {zs : List Fed.Msg} (h : GroupAt w B g s μ ok) (hf : FlyAt w1 B (.slice A' zs.length c') zs ob' ok) (kp : ∀ k, k < w.heap.size → μ.fb ≠ some k → w1.heap[k]? = w.heap[k]?) (hob : ob' = μ.fb ∨ ∃ b, ob' = some b ∧ w.heap.size ≤ b) (hbl : Below B w w1) :
  GroupAt (w1.setCell ⟨g, 1, none⟩ (.slice A' zs.length c')) B g ⟨s.ns, s.us, zs⟩ { μ with F := A', d := c', fb := ob' } ok ∧ GStep w (w1.setCell ⟨g, 1, none⟩ (.slice A' zs.length c')) B g μ { μ with F := A', d := c', fb := ob' } ok ok := by
 have hg1 : w1.heap[g]? = w.heap[g]? := kp g h.lt (fun q => ty_ne h.tyg (h.tyf g q) (by decide) rfl)
 have far : ∀ k, k ≠ g → (w1.setCell ⟨g, 1, none⟩ (.slice A' zs.length c')).heap[k]? = w1.heap[k]? := fun k hk => Below.heap_setCell w1 _ _ k hk
 have okg : ∀ k, ok k → k ≠ g := fun k hk e => h.no k hk (.inl e)
 have okk : ∀ k, ok k → (w1.setCell ⟨g, 1, none⟩ (.slice A' zs.length c')).heap[k]? = w.heap[k]? := fun k hk => (far k (okg k hk)).trans (kp k (h.okl k hk) (fun q => h.no k hk (.inr (.inr q))))
 obtain ⟨cs, p1, p2⟩ := h.pl
 have hsz : w.heap.size ≤ (w1.setCell ⟨g, 1, none⟩ (.slice A' zs.length c')).heap.size := by have := hbl.size; simpa [World.setCell] using this
 have hown : ∀ k, GM.owns g { μ with F := A', d := c', fb := ob' } k → μ.owns g k ∨ w.heap.size ≤ k := by
  rintro k (q | q | q)
  ·exact .inl (.inl q)
  ·exact .inl (.inr (.inl q))
  ·rcases hob with e | ⟨b, e, hb⟩
   ·exact .inl (.inr (.inr (e ▸ q)))
   ·have q' : ob' = some k := q
    rw [e] at q'; injection q' with q'; exact .inr (by omega)
 refine ⟨⟨h.hB, ?_, h.ul, ⟨cs, p1.step fun k hk hl => ?_, fun i n u hn hu => ?_⟩, hf.step (fun k hk => far k ?_) (fun k hk _ => far k (okg k hk)), fun k hk q => ?_, fun k hk => Nat.lt_of_lt_of_le (h.okl k hk) hsz⟩, ⟨hbl.setCell (p := ⟨g, 1, none⟩) h.hB _, fun k hk hn => (far k (fun e => hn (.inl e))).trans (kp k hk (fun q => hn (.inr (.inr q)))), hown, fun k q => .inl q⟩⟩
 ·exact (setCell_blk _ (hg1.trans h.blk)).trans rfl
 ·exact (far k (ty_ne (h.typ k hk) h.tyg (by decide))).trans (kp k hl (fun q => ty_ne (h.typ k hk) (h.tyf k q) (by decide) rfl))
 ·obtain ⟨σ, v, hc⟩ := p2 i n u hn hu
  exact ⟨σ, v.step fun k hk _ => okk k hk, hc⟩
 ·intro e
  subst e
  obtain ⟨ds, f1, _⟩ := hf
  exact ty_ne (f1.ty k hk) ⟨_, _, hg1.trans h.blk⟩ (by decide) rfl
 ·rcases hown k q with q | q
  ·exact h.no k hk q
  ·have := h.okl k hk; omega
theorem more (h : GroupAt w B g s μ ok) (hok : ∀ k, ok k → ok' k) (no : ∀ k, ok' k → ¬ μ.owns g k) (okl : ∀ k, ok' k → k < w.heap.size) : GroupAt w B g s μ ok' := by
 obtain ⟨cs, p1, p2⟩ := h.pl
 refine ⟨h.hB, h.blk, h.ul, ⟨cs, p1, fun i n u hn hu => ?_⟩, h.fl.mono fun k hk _ => hok k hk, no, okl⟩
 obtain ⟨σ, v, hc⟩ := p2 i n u hn hu
 exact ⟨σ, v.mono fun k hk _ => hok k hk, hc⟩
theorem setN (h : GroupAt w B g s μ ok) {i pb : Nat} (hi : i < s.ns.length) (hp : μ.p = some pb) {n : Fed.Node} {σ : Sl5} (hn : NodeVs w ok n σ) :
  GroupAt (putL w pb (i * 14) (nodeL n σ)) B g ⟨s.ns.set i n, s.us, s.f⟩ μ ok ∧ GStep w (putL w pb (i * 14) (nodeL n σ)) B g μ μ ok ok := by
 have tp := h.typ pb hp
 have far : ∀ k, k ≠ pb → (putL w pb (i * 14) (nodeL n σ)).heap[k]? = w.heap[k]? := fun k hk => putL_far hk
 have okp : ∀ k, ok k → k ≠ pb := fun k hk e => h.no k hk (.inr (.inl (by rw [hp, e])))
 have fbp : ∀ k, μ.fb = some k → k ≠ pb := fun k hk => ty_ne (h.tyf k hk) tp (by decide)
 obtain ⟨cs, p1, p2⟩ := h.pl
 refine ⟨⟨h.hB, by rw [List.length_set]; exact (far g (ty_ne h.tyg tp (by decide))).trans h.blk, by simp [h.ul], ?_, h.fl.step (fun k hk => far k (fbp k hk)) (fun k hk _ => far k (okp k hk)), h.no, fun k hk => by rw [putL_size]; exact h.okl k hk⟩, ⟨putL_below (Below.refl B w) (h.ltp pb hp).1, fun k hk hn => far k (fun e => hn (.inr (.inl (by rw [hp, e])))), fun _ q => .inl q, fun _ q => .inl q⟩⟩
 rw [hp] at p1 ⊢
 obtain ⟨h0, cap, cur, h1, h2, h3, h4, h5, h6, h7⟩ := p1
 have hroom : i * 14 + (nodeL n σ).length ≤ cur.size := by
  rw [nodeL_len, h6]
  have : (i + 1) * 14 ≤ cap * 14 := Nat.mul_le_mul_right _ (by omega)
  omega
 obtain ⟨c', k1, k2, k3⟩ := putL_blk (us := nodeL n σ) (o := i * 14) h3 hroom
 have hcs : ∀ m, m < s.ns.length * 14 → cs[m]? = cur[m]? := fun m hm => by
  rw [← h7, List.getElem?_take, if_pos hm, Array.getElem?_toList]
 refine ⟨c'.toList.take (s.ns.length * 14), ⟨?_, cap, c', by simpa using h1, h2, k1, by simpa using h4, h5, by rw [k2]; exact h6, by simp⟩, fun j m u hm hu => ?_⟩
 ·rw [List.length_set, List.length_take, Array.length_toList, k2, h6]
  exact Nat.min_eq_left (Nat.mul_le_mul_right _ h4)
 ·have hjl : j < s.ns.length := by have := (List.getElem?_eq_some_iff.1 hm).1; simpa using this
  have hm' : (s.ns.set i n)[j]? = some m := hm
  rw [List.getElem?_set] at hm'
  have get : ∀ q, q < 14 → (c'.toList.take (s.ns.length * 14))[j * 14 + q]? = c'[j * 14 + q]? := fun q hq => by
   have : (j + 1) * 14 ≤ s.ns.length * 14 := Nat.mul_le_mul_right _ (by omega)
   rw [List.getElem?_take, if_pos (by omega), Array.getElem?_toList]
  have lt14 : ∀ q, q < 14 → j * 14 + q < s.ns.length * 14 := fun q hq => by
   have : (j + 1) * 14 ≤ s.ns.length * 14 := Nat.mul_le_mul_right _ (by omega)
   omega
  by_cases e : i = j
  ·subst e
   rw [if_pos rfl, if_pos hi] at hm'
   injection hm' with hm'
   subst hm'
   obtain ⟨τ, _, hc⟩ := p2 i _ u (List.getElem?_eq_getElem hi) hu
   refine ⟨σ, hn.step fun k hk _ => far k (okp k hk), fun q x hx => ?_⟩
   have hq := (List.getElem?_eq_some_iff.1 hx).1
   rw [placeL_len] at hq
   rw [get q hq, k3]
   by_cases e13 : q = 13
   ·subst e13
    rw [if_neg (by rw [nodeL_len]; omega), ← hcs _ (lt14 13 hq)]
    exact hc 13 x hx
   ·rw [if_pos ⟨by omega, by rw [nodeL_len]; omega⟩, show i * 14 + q - i * 14 = q from by omega]
    have : q < (nodeL n σ).length := by rw [nodeL_len]; omega
    unfold placeL at hx
    rw [List.getElem?_append_left this] at hx
    exact hx
  ·rw [if_neg e] at hm'
   obtain ⟨τ, v, hc⟩ := p2 j m u hm' hu
   refine ⟨τ, v.step fun k hk _ => far k (okp k hk), fun q x hx => ?_⟩
   have hq := (List.getElem?_eq_some_iff.1 hx).1
   rw [placeL_len] at hq
   rw [get q hq, k3, if_neg (by rw [nodeL_len]; omega), ← hcs _ (lt14 q hq)]
   exact hc q x hx
end GroupAt
end Go.Proofs.Ytnkmljdkokcdjaa
namespace Go.Proofs.Ytnkmljdkokcdjaa
open Go.RowKit Fed
attribute [local go_sem high] Fed.max2_int Fed.min2_int Fed.MA Fed.ZN Fed.ZM Fed.NA
theorem has_some {s : GS} {a : Int} (h : s.has a = true) : ∃ i : Nat, a = i ∧ i < s.f.length := by
 unfold GS.has at h
 simp only [Bool.and_eq_true, decide_eq_true_eq] at h
 obtain ⟨i, rfl⟩ := Int.eq_ofNat_of_zero_le h.1
 exact ⟨i, rfl, by omega⟩
theorem has_of {s : GS} {i : Nat} (h : i < s.f.length) : s.has (i : Int) = true := by
 unfold GS.has
 rw [decide_eq_true (show (0 : Int) ≤ (i : Int) by omega), decide_eq_true (show (i : Int) < (s.f.length : Int) by omega)]; rfl
def AtSays (w : World) (ok : Nat → Prop) (s : GS) (a : Int) (e : Ending) : Prop :=
 (s.has a = true ∧ ∃ A c, e = .returned (.tuple #[.agg (MA (s.msg a) (.slice A (s.msg a).entries.length c)), .bool true]) ∧ MM.Rd w ok 2 (.slice A (s.msg a).entries.length c) (s.msg a).entries.length (entsC (s.msg a).entries)) ∨ (s.has a = false ∧ e = .returned (.tuple #[.agg ZM, .bool false]))
theorem gat_any (w : World) (B g : Nat) (s : GS) (μ : GM) (ok : Nat → Prop) (h : GroupAt w B g s μ ok) (a : Int) (hl : s.f.length ≤ 1000000) :
  Calls Try.prog 82 #[.pointer (some ⟨g, 1, none⟩), .int .i64 a] w fun e w' => AtSays w' ok s a e ∧ Below w.heap.size w w' := by
 have c1 := h.c1
 have hg1 := h.lt
 by_cases h0 : a < 0
 ·have h0b : decide (a < 0) = true := decide_eq_true h0
  have HU := Hd (show s.has a = false from by unfold GS.has; rw [decide_eq_false (show ¬ 0 ≤ a by omega)]; rfl)
  have HG := Hd h
  clear h h0
  go_enter Try.func82, Try.ntmps82
  go_wp2_with fail
  refine name_world (F := fun W => Hid (W.heap[w.heap.size]? = some (.cells ZM 34 (0, 0))) ∧ Hid (Below w.heap.size w W)) _ (by exact ⟨Hd (MM.alloc_new _ _), Hd ((Below.refl _ w).alloc (Nat.le_refl _) _)⟩) ?_
  intro wz ⟨Z, HB⟩
  obtain ⟨u0, u1, u2, u3, u4, u5, u6, u7, u8, u9⟩ := MM.cells10 Z.out
  refine bodyPost_ret (v := .tuple #[.agg ZM, .bool false]) (by simp [results, Try.results82, go_sem, u0, u1, u2, u3, u4, u5, u6, u7, u8, u9]) rfl ?_
  exact ⟨.inr ⟨HU.out, rfl⟩, HB.out⟩
 have h0b : decide (a < 0) = false := decide_eq_false h0
 obtain ⟨i, rfl⟩ := Int.eq_ofNat_of_zero_le (show 0 ≤ a by omega)
 by_cases h1 : i < s.f.length
 ·have h1b : decide ((s.f.length : Int) ≤ (i : Int)) = false := decide_eq_false (by omega)
  obtain ⟨fb, hp, ea, hc1, hc2, hf, A, c, hr, hc⟩ := h.fly h1
  have HU := Hd (has_of h1)
  rw [ea] at c1
  have HG := Hd h
  have HR := Hd hr
  have HP := Hd hp
  have hfb := (h.ltf fb hp).2
  have x0 : w.cell? ⟨fb, i * 10, none⟩ = some (.int .i64 (s.msg (i : Int)).kind) := hc 0 _ rfl
  have x1 : w.cell? ⟨fb, i * 10 + 1, none⟩ = some (.int .i64 (s.msg (i : Int)).frm) := hc 1 _ rfl
  have x2 : w.cell? ⟨fb, i * 10 + 2, none⟩ = some (.int .i64 (s.msg (i : Int)).to) := hc 2 _ rfl
  have x3 : w.cell? ⟨fb, i * 10 + 3, none⟩ = some (.int .i64 (s.msg (i : Int)).term) := hc 3 _ rfl
  have x4 : w.cell? ⟨fb, i * 10 + 4, none⟩ = some (.int .i64 (s.msg (i : Int)).index) := hc 4 _ rfl
  have x5 : w.cell? ⟨fb, i * 10 + 5, none⟩ = some (.int .i64 (s.msg (i : Int)).logTerm) := hc 5 _ rfl
  have x6 : w.cell? ⟨fb, i * 10 + 6, none⟩ = some (.bool (s.msg (i : Int)).ok) := hc 6 _ rfl
  have x7 : w.cell? ⟨fb, i * 10 + 7, none⟩ = some (.slice A (s.msg (i : Int)).entries.length c) := hc 7 _ rfl
  have x8 : w.cell? ⟨fb, i * 10 + 8, none⟩ = some (.int .i64 (s.msg (i : Int)).commit) := hc 8 _ rfl
  have x9 : w.cell? ⟨fb, i * 10 + 9, none⟩ = some (.int .i64 (s.msg (i : Int)).form) := hc 9 _ rfl
  clear h hr hp ea hf hc
  go_enter Try.func82, Try.ntmps82
  go_wp2_with fail
  refine name_world (F := fun W => Hid (W.heap[w.heap.size]? = some (.cells (MA (s.msg (i : Int)) (.slice A (s.msg (i : Int)).entries.length c)) 34 (0, 0))) ∧ Hid (Below w.heap.size w W) ∧ Hid (MM.Rd W ok 2 (.slice A (s.msg (i : Int)).entries.length c) (s.msg (i : Int)).entries.length (entsC (s.msg (i : Int)).entries))) _ (by exact ⟨Hd (MM.alloc_new _ _), Hd ((Below.refl _ w).alloc (Nat.le_refl _) _), Hd (HR.out.alloc _)⟩) ?_
  clear x0 x1 x2 x3 x4 x5 x6 x7 x8 x9
  intro wz ⟨Z, HB, HR9⟩
  obtain ⟨u0, u1, u2, u3, u4, u5, u6, u7, u8, u9⟩ := MM.cells10 Z.out
  refine bodyPost_ret (v := .tuple #[.agg (MA (s.msg (i : Int)) (.slice A (s.msg (i : Int)).entries.length c)), .bool true]) (by simp [results, Try.results82, go_sem, u0, u1, u2, u3, u4, u5, u6, u7, u8, u9]) rfl ?_
  exact ⟨.inl ⟨HU.out, A, c, rfl, HR9.out⟩, HB.out⟩
 ·have h1b : decide ((s.f.length : Int) ≤ (i : Int)) = true := decide_eq_true (by omega)
  have HU := Hd (show s.has (i : Int) = false from by unfold GS.has; rw [decide_eq_false (show ¬ (i : Int) < (s.f.length : Int) by omega), Bool.and_false])
  have HG := Hd h
  clear h
  go_enter Try.func82, Try.ntmps82
  go_wp2_with fail
  refine name_world (F := fun W => Hid (W.heap[w.heap.size]? = some (.cells ZM 34 (0, 0))) ∧ Hid (Below w.heap.size w W)) _ (by exact ⟨Hd (MM.alloc_new _ _), Hd ((Below.refl _ w).alloc (Nat.le_refl _) _)⟩) ?_
  intro wz ⟨Z, HB⟩
  obtain ⟨u0, u1, u2, u3, u4, u5, u6, u7, u8, u9⟩ := MM.cells10 Z.out
  refine bodyPost_ret (v := .tuple #[.agg ZM, .bool false]) (by simp [results, Try.results82, go_sem, u0, u1, u2, u3, u4, u5, u6, u7, u8, u9]) rfl ?_
  exact ⟨.inr ⟨HU.out, rfl⟩, HB.out⟩
theorem gput_any (w : World) (B g : Nat) (s : GS) (μ : GM) (ok : Nat → Prop) (h : GroupAt w B g s μ ok) (A : Option Addr) (c : Nat) (ys : List Fed.Msg) (hY : MsgsV w ok (.slice A ys.length c) ys) (hl : s.f.length + ys.length ≤ 2000000) :
  Calls Try.prog 83 #[.pointer (some ⟨g, 1, none⟩), .slice A ys.length c] w fun e w' => ∃ μ', e = .returned (.tuple #[]) ∧ GroupAt w' B g ⟨s.ns, s.us, s.f ++ ys⟩ μ' ok ∧ GStep w w' B g μ μ' ok ok ∧ μ'.p = μ.p ∧ μ'.A = μ.A ∧ μ'.c = μ.c := by
 have c1 := h.c1
 have H := Hd h
 have HY := Hd hY
 clear h hY
 obtain ⟨zs, hzs⟩ : ∃ zs, zs = s.f ++ ys := ⟨_, rfl⟩
 have HZ := Hd hzs
 clear hzs
 go_enter Try.func83, Try.ntmps83
 go_wp2_with (at_builtin; (refine append_fly _ rfl (.tmp 8) (.tmp 9) rfl rfl B _ s.f μ.fb ok rfl H.out.fl _ ys rfl HY.out (fun k hk q => H.out.no k hk (.inr (.inr q))) hl H.out.Bsize zs HZ.out ?_))
 intro A' c' w1 ob' hf kp hob hbl
 have hfz : w1.frozen? ⟨g, 1, none⟩ = false := (World.frozen?_of_block (a := ⟨g, 1, none⟩) (kp g H.out.lt (fun q => ty_ne H.out.tyg (H.out.tyf g q) (by decide) rfl))).trans (H.out.fr 1)
 have hc1 : w1.cell? ⟨g, 1, none⟩ = some (.slice μ.F s.f.length μ.d) := (World.cell?_of_block (a := ⟨g, 1, none⟩) (kp g H.out.lt (fun q => ty_ne H.out.tyg (H.out.tyf g q) (by decide) rfl))).trans c1
 have HP := Hd (H.out.putF (hf.mono (ok' := ok) fun k hk _ => hk.1) kp hob hbl)
 clear hf kp hob hbl c1
 go_wp2
 go_end0
 have e := HZ.out
 subst e
 exact ⟨_, rfl, HP.out.1, HP.out.2, rfl, rfl, rfl⟩
end Go.Proofs.Ytnkmljdkokcdjaa
namespace Go.Proofs.Ytnkmljdkokcdjaa
open Go.RowKit Fed Go.RT
attribute [local go_sem high] Fed.max2_int Fed.min2_int Fed.MA Fed.ZN Fed.ZM Fed.NA
theorem setCells_eq {b : Nat} : ∀ {us : List Value} {w : World} {o : Nat}, w.setCells b o us = putL w b o us
 | [], _, _ => rfl
 | u :: us, w, o => by rw [World.setCells, putL, setCells_eq]
def zmL : List Value := [.int .i64 0, .int .i64 0, .int .i64 0, .int .i64 0, .int .i64 0, .int .i64 0, .bool false, .slice none 0 0, .int .i64 0, .int .i64 0]
theorem run_clear34 (w : World) (ty : TypeId) (b o c : Nat) (hc : ∀ j, j < 10 → (w.cell? ⟨b, o + j, none⟩).isSome = true) (hf : ∀ j, j < 10 → w.frozen? ⟨b, o + j, none⟩ = false) :
  (Builtin.clear_ #[30] ty #[.slice (some ⟨b, o, none⟩) 1 c]).run Try.prog w = .ok (.tuple #[]) (putL w b o zmL) := by
 obtain ⟨i0, hi, hz0, hz1, hz2⟩ := info_parts info34
 have hzc : (Builtin.zeroCells (Value.agg ZM).cells 1).toList = zmL := by kernel_rfl
 have hv : ∀ w, (zeroValue 34).run Try.prog w = .ok (.agg ZM) w := fun w => by simp [zeroValue, typeInfo, hi, hz0]
 have hst := run_storeCells_cells (P := Try.prog) b o zmL 0 w (by simpa [zmL] using hc) (by simpa [zmL] using hf) (by intro v hv'; simp only [zmL, List.mem_cons, List.not_mem_nil, or_false] at hv'; rcases hv' with rfl | rfl | rfl | rfl | rfl | rfl | rfl | rfl | rfl | rfl <;> rfl)
 simp only [Nat.add_zero] at hst
 simp [Builtin.clear_, run_underlying Try.underlying30, hv, hzc, hst, setCells_eq]
theorem wpList_append_room {ops : Array Oper} {rest : List Oper} {o : Oper} {a : Act} {Q : Exit → Act → World → Prop} (w : World) (hgd : o.guard = none) (s x : Operand)
  (ho : o.op = .call { callee := .builtin .append, args := #[s, x], argTypes := #[30, 30] })
  (g n cap : Nat) (cur : Array Value) (xs : List Value) (hs : a.eval s = .slice (some ⟨g, 0, none⟩) n cap) (hb : w.heap[g]? = some (.cells cur 34 (0, 0))) (hsz : cur.size = cap * 10) (hxs : cur.toList.take (n * 10) = xs)
  (ok : Nat → Prop) (u : Value) (m : Nat) (news : List Value) (hx : a.eval x = u) (hsrc : MM.Rd w ok 10 u m news) (h1 : ∀ u ∈ news, u.oneCell' = true) (hroom : n + m ≤ cap)
  (h : ∀ w' cur', w'.heap[g]? = some (.cells cur' 34 (0, 0)) → cur'.size = cap * 10 → cur'.toList.take ((n + m) * 10) = xs ++ news → (∀ k, k ≠ g → w'.heap[k]? = w.heap[k]?) → (∀ B, B ≤ g → Below B w w') → wpList Try.prog ops Q rest (a.put o.dst (.slice (some ⟨g, 0, none⟩) (n + m) cap)) w') : wpList Try.prog ops Q (o :: rest) a w := by
 obtain ⟨i0, hi, hz0, hz1, hz2⟩ := info_parts info34
 obtain ⟨hl, A, c, rfl, hmc, hcm, hsr⟩ := hsrc
 refine wpList_plain hgd fun K hK => ?_
 rcases Nat.eq_zero_or_pos m with rfl | hm
 ·obtain rfl : news = [] := List.eq_nil_of_length_eq_zero (by simpa using hl)
  have hrun := MM.run_append_none (P := Try.prog) w 30 o.type 34 i0 Try.underlying30 hi (some ⟨g, 0, none⟩) A n cap c (by omega)
  unfold Oper.wp
  simp [execOp, ho, resolve, invoke, builtin, hs, hx, hrun, Result.andThen]
  exact hK _ _ (h w cur hb hsz (by simpa using hxs) (fun _ _ => rfl) (fun B _ => Below.refl _ _))
 ·obtain ⟨b, o', rfl, _, _, hcell⟩ := hsr hm
  have hrun := run_append_room (P := Try.prog) w 30 o.type 34 i0 Try.underlying30 hi g n cap cur hb ⟨b, o', none⟩ m c news (by rw [hl]; try rw [hz1]) (fun j u hj => by rw [Addr.add_lit]; exact hcell j u hj) h1 hroom (by rw [hl, hsz, hz1, ← Nat.add_mul]; exact Nat.mul_le_mul_right _ hroom)
  unfold Oper.wp
  simp [execOp, ho, resolve, invoke, builtin, hs, hx, hrun, Result.andThen]
  refine hK _ _ (h _ _ (setRow_heap w g cur _ 34 _ hb) ?_ ?_ (fun k hk => setRow_other w g k _ hk) (fun B hB => ?_))
  ·have h8 : n * 10 + m * 10 ≤ cap * 10 := by rw [← Nat.add_mul]; exact Nat.mul_le_mul_right _ hroom
   have h9 : cur.toList.length = cap * 10 := by rw [Array.length_toList, hsz]
   simp only [List.size_toArray, List.length_append, List.length_take, List.length_drop, h9, hl, hz1]
   omega
  ·have h8 : n * 10 + m * 10 ≤ cap * 10 := by rw [← Nat.add_mul]; exact Nat.mul_le_mul_right _ hroom
   have hxl : xs.length = n * 10 := by rw [← hxs, List.length_take, Array.length_toList, hsz]; omega
   have hlen : (xs ++ news).length = (n + m) * 10 := by rw [List.length_append, hxl, hl, Nat.add_mul]
   show List.take _ (List.toArray _).toList = _
   rw [hz1, ← List.append_assoc, hxs, ← hlen]
   exact List.take_left
  ·exact ⟨rfl, rfl, rfl, by simp, fun k hk => setRow_other w g k _ (by omega)⟩
theorem gdelete_any (w : World) (B : Nat) (fb d i : Nat) (ms : List Fed.Msg) (ok : Nat → Prop) (h : FlyAt w B (.slice (some ⟨fb, 0, none⟩) ms.length d) ms (some fb) ok) (hno : ∀ k, ok k → k ≠ fb) (hi : i < ms.length) (hl : ms.length ≤ 1000000) :
  Calls Try.prog 120 #[.slice (some ⟨fb, 0, none⟩) ms.length d, .int .i64 i, .int .i64 ((i : Int) + 1)] w fun e w' => e = .returned (.slice (some ⟨fb, 0, none⟩) (ms.eraseIdx i).length d) ∧ FlyAt w' B (.slice (some ⟨fb, 0, none⟩) (ms.eraseIdx i).length d) (ms.eraseIdx i) (some fb) ok ∧ (∀ k, k ≠ fb → w'.heap[k]? = w.heap[k]?) ∧ (∀ B, B ≤ fb → Below B w w') := by
 obtain ⟨cs, hrow, hms⟩ := h
 have hcl := hrow.len
 have h1 := hms.one_cell
 have hV : MsgsV w (fun k => k = fb ∨ ok k) (.slice (some ⟨fb, 0, none⟩) ms.length d) ms := ⟨cs, hrow.rd.mono fun k hk _ => by injection hk with hk; exact .inl hk.symm, hms.mono fun k hk _ => .inr hk⟩
 have hrow0 := hrow
 obtain ⟨_, cap, cur, e0, hB, hblk, hnc, hcm, hcs, htake⟩ := hrow
 injection e0 with _ _ e0
 subst e0
 obtain ⟨n, hn⟩ : ∃ n, n = ms.length := ⟨_, rfl⟩
 rw [← hn] at hi hl hnc hcl htake ⊢
 have hel : (ms.eraseIdx i).length = n - 1 := by rw [List.length_eraseIdx, if_pos (by omega), hn]
 have HB := Hd hV
 have hback : MM.Rd w (fun k => k = fb ∨ ok k) 10 (.slice (if d = i + 1 then (some ⟨fb, 0, none⟩) else (some (⟨fb, 0, none⟩ : Addr)).map (·.add ((i + 1) * 10))) (n - (i + 1)) (d - (i + 1))) (n - (i + 1)) ((cs.drop ((i + 1) * 10)).take ((n - (i + 1)) * 10)) := by
  have h9 := hrow0.rd.cut (lo := i + 1) (hi := n) (m := d) (by omega) (by omega) (by omega) (by omega)
  rw [hn] at h9 ⊢
  exact h9.mono fun k hk _ => by injection hk with hk; exact .inl hk.symm
 have hdt : (cs.drop ((i + 1) * 10)).take ((n - (i + 1)) * 10) = cs.drop ((i + 1) * 10) := by
  rw [List.take_of_length_le]
  rw [List.length_drop, hcl, ← Nat.sub_mul]
  exact Nat.le_refl _
 rw [hdt] at hback
 obtain ⟨A, hA, hback⟩ : ∃ A : Addr, (if d = i + 1 then some (⟨fb, 0, none⟩ : Addr) else some ⟨fb, (i + 1) * 10, none⟩) = some A ∧ MM.Rd w (fun k => k = fb ∨ ok k) 10 (.slice (some A) (n - (i + 1)) (d - (i + 1))) (n - (i + 1)) (cs.drop ((i + 1) * 10)) := by
  by_cases hd : d = i + 1
  ·rw [if_pos hd] at hback
   exact ⟨_, if_pos hd, hback⟩
  ·rw [if_neg hd] at hback
   refine ⟨_, if_neg hd, ?_⟩
   simpa [Addr.add_lit] using hback
 have HBK := Hd hback
 have H1 := Hd h1
 have HBL := Hd hblk
 have HCS := Hd hcs
 have HTK := Hd htake
 have HEL := Hd hel
 have HN := Hd hn
 have HMS := Hd hms
 have HNO := Hd hno
 have hid' : i + 1 ≤ d := by omega
 have hic : i ≤ d := by omega
 have hin : i + 1 ≤ n := hi
 have hpi : (i : Int) + 1 ≤ (n : Int) := by omega
 have hp0 : (0 : Int) ≤ (i : Int) + 1 := by omega
 have hpn : ((i : Int) + 1).toNat = i + 1 := rfl
 have hsum : i + (n - (i + 1)) = n - 1 := by omega
 have hnd : ((i : Int) == (i : Int) + 1) = false := by simp; omega
 clear hrow0 hback h1 hblk hcs htake hel hn hms hV hno hdt
 go_enter Try.func120, Try.ntmps120
 go_wp2_with fail
 refine wT (.p 0 (.p 1 (.p 2 (.p 3 (.p 4 (.p 5 (.w 6 [] (.w 7 [] .nil .stop) .stop))))))) (by kernel_rfl) (by kernel_rfl) ?_
 repeat ((first | refine sP rfl fun K hK => ?_ | refine sS rfl fun K hK => ?_); go_simp; refine hK _ ?_; clear hK K)
 refine sW rfl rfl (fun K hK => ?_) sT
 refine wpList_append_room _ rfl (.tmp 22) (.tmp 25) rfl fb i d cur (cs.take (i * 10)) rfl HBL.out HCS.out (by rw [← HTK.out, List.take_take]; congr 1; have : i * 10 ≤ n * 10 := Nat.mul_le_mul_right _ (by omega); omega) (fun k => k = fb ∨ ok k) _ (n - (i + 1)) (cs.drop ((i + 1) * 10)) rfl HBK.out.drew (fun u hu => H1.out u (List.mem_of_mem_drop hu)) (by omega) ?_
 intro w1 cur1 hb1 hs1 ht1 hk1 hB1
 have HB1 := Hd hb1
 have HS1 := Hd hs1
 have HT1 := Hd ht1
 have HK1 := Hd hk1
 have HBB1 := Hd hB1
 clear hb1 hs1 ht1 hk1 hB1
 go_wp2_with fail
 refine qN _ _ _ _ (hK _ _ ?_ ?_) <;> clear hK K
 ·repeat first | exact aN | refine aO rfl rfl ?_ | refine aI rfl (by go_simp <;> rfl) ?_
 refine sW rfl rfl (fun K hK => ?_) sT
 go_wp2
 refine qN _ _ _ _ (hK _ _ ?_ ?_) <;> clear hK K
 ·repeat first | exact aN | refine aO rfl rfl ?_ | refine aI rfl (by go_simp <;> rfl) ?_
 refine sN ?_
 have hc10 : ∀ j, j < 10 → (w1.cell? ⟨fb, (n - 1) * 10 + j, none⟩).isSome = true := fun j hj => by
  have : (n - 1) * 10 + 10 ≤ d * 10 := by have : (n - 1 + 1) * 10 ≤ d * 10 := Nat.mul_le_mul_right _ (by omega); omega
  have hlt : (n - 1) * 10 + j < cur1.size := by rw [HS1.out]; omega
  simp [World.cell?, HB1.out, hlt]
 have HC10 := Hd hc10
 have hone : n - (n - 1) = 1 := by omega
 clear hc10
 have hclr : ∀ ty, (Builtin.clear_ #[30] ty #[.slice (some ⟨fb, (n - 1) * 10, none⟩) 1 (d - (n - 1))]).run Try.prog w1 = .ok (.tuple #[]) (putL w1 fb ((n - 1) * 10) zmL) := fun ty => run_clear34 w1 ty fb _ _ HC10.out (fun j _ => MM.free_blk HB1.out)
 obtain ⟨w2, hw2⟩ : ∃ w2, w2 = putL w1 fb ((n - 1) * 10) zmL := ⟨_, rfl⟩
 rw [← hw2] at hclr
 have HW2 := Hd hw2
 clear hw2
 go_wp2_with fail
 go_ret
 have e2 := HW2.out
 subst e2
 have hmul : (n - 1) * 10 + 10 = n * 10 := by omega
 obtain ⟨cur2, k1, k2, k3⟩ := putL_blk (us := zmL) (o := (n - 1) * 10) HB1.out (by rw [HS1.out]; show (n - 1) * 10 + 10 ≤ d * 10; rw [hmul]; exact Nat.mul_le_mul_right _ (by omega))
 have hes : cs.take (i * 10) ++ cs.drop ((i + 1) * 10) = cur1.toList.take ((n - 1) * 10) := by rw [← HT1.out, hsum]
 have hkeep : cur2.toList.take ((n - 1) * 10) = cs.take (i * 10) ++ cs.drop ((i + 1) * 10) := by
  rw [hes]
  apply List.ext_getElem?
  intro q
  rw [List.getElem?_take, List.getElem?_take]
  split
  ·rw [Array.getElem?_toList, Array.getElem?_toList, k3, if_neg (by omega)]
  ·rfl
 have herase : ms.eraseIdx i = ms.take i ++ ms.drop (i + 1) := List.eraseIdx_eq_take_drop_succ _ _
 have HM2 := (HMS.out.take' i).append (HMS.out.drop' (i + 1))
 rw [← herase] at HM2
 rw [HEL.out]
 have HK2 : ∀ k, k ≠ fb → w1.heap[k]? = w.heap[k]? := HK1.out
 refine ⟨rfl, ⟨_, ⟨?_, d, cur2, by rw [HEL.out], hB, k1, by have := HEL.out; omega, hcm, by rw [k2]; exact HS1.out, by rw [HEL.out]; exact hkeep⟩, HM2.step fun k hk _ => (putL_far (HNO.out k hk)).trans (HK2 k (HNO.out k hk))⟩, fun k hk => (putL_far hk).trans (HK2 k hk), fun B' hB' => putL_below ((Below.refl B' w).drew.trans (HBB1.out B' hB')) hB'⟩
 rw [HEL.out, List.length_append, List.length_take, List.length_drop, hcl]
 omega
end Go.Proofs.Ytnkmljdkokcdjaa
namespace Go.Proofs.Ytnkmljdkokcdjaa
open Go.RowKit Fed
attribute [local go_sem high] Fed.max2_int Fed.min2_int Fed.MA Fed.ZN Fed.ZM Fed.NA
theorem GStep.fresh {w w1 w2 : World} {B g : Nat} {μ μ1 : GM} {ok ok1 : Nat → Prop} (h : GStep w w1 B g μ μ1 ok ok1) (hb : Below w.heap.size w1 w2) (hB : B ≤ w.heap.size) : GStep w w2 B g μ μ1 ok ok1 :=
 ⟨h.below.trans (hb.mono hB), fun k hk hn => (hb.block k hk).trans (h.keep k hk hn), h.own, h.oks⟩
theorem gtake_any (w : World) (B g : Nat) (s : GS) (μ : GM) (ok : Nat → Prop) (h : GroupAt w B g s μ ok) (a : Int) (hl : s.f.length ≤ 1000000) :
  Calls Try.prog 81 #[.pointer (some ⟨g, 1, none⟩), .int .i64 a] w fun e w' => ∃ μ', AtSays w' ok s a e ∧ GroupAt w' B g (s.cut a) μ' ok ∧ GStep w w' B g μ μ' ok ok ∧ μ'.p = μ.p := by
 have HLT := Hd (show ∀ k, μ.owns g k ∨ ok k → k < w.heap.size from fun k hk => by rcases hk with hk | hk; exact (h.ownlt k hk).2; exact h.okl k hk)
 have HBS := Hd h.Bsize
 have H0 := Hd (h.alloc (.cells ZM 34 (0, 0)))
 clear h
 go_enter Try.func81, Try.ntmps81
 go_wp2_with fail
 refine (gat_any _ B g s μ ok H0.out a hl).mono ?_
 rintro e w1 ⟨hat, hb1⟩
 have R1 := Hd ((hb1.block w.heap.size (by simp)).trans (MM.alloc_new w (.cells ZM 34 (0, 0))))
 have G1 := Hd (H0.out.below hb1)
 have HB1 := Hd (((Below.refl w.heap.size w).alloc (Nat.le_refl _) (.cells ZM 34 (0, 0))).trans (hb1.mono (by simp)))
 rcases hat with ⟨hs, A, c, rfl, hrd⟩ | ⟨hs, rfl⟩
 ·obtain ⟨i, rfl, hi⟩ := has_some hs
  have HS := Hd hs
  have RD1 := Hd hrd
  clear hs hrd hb1 H0
  obtain ⟨x0, x1, x2, x3, x4, x5, x6, x7, x8, x9⟩ := MM.cells10 R1.out
  have z0 : w1.frozen? ⟨w.heap.size, 0, none⟩ = false := MM.free_blk R1.out
  have z1 : w1.frozen? ⟨w.heap.size, 1, none⟩ = false := MM.free_blk R1.out
  have z2 : w1.frozen? ⟨w.heap.size, 2, none⟩ = false := MM.free_blk R1.out
  have z3 : w1.frozen? ⟨w.heap.size, 3, none⟩ = false := MM.free_blk R1.out
  have z4 : w1.frozen? ⟨w.heap.size, 4, none⟩ = false := MM.free_blk R1.out
  have z5 : w1.frozen? ⟨w.heap.size, 5, none⟩ = false := MM.free_blk R1.out
  have z6 : w1.frozen? ⟨w.heap.size, 6, none⟩ = false := MM.free_blk R1.out
  have z7 : w1.frozen? ⟨w.heap.size, 7, none⟩ = false := MM.free_blk R1.out
  have z8 : w1.frozen? ⟨w.heap.size, 8, none⟩ = false := MM.free_blk R1.out
  have z9 : w1.frozen? ⟨w.heap.size, 9, none⟩ = false := MM.free_blk R1.out
  go_upto_region 2 with (fail)
  refine name_world (F := fun W => Hid (W.heap[w.heap.size]? = some (.cells (MA (s.msg (i : Int)) (.slice A (s.msg (i : Int)).entries.length c)) 34 (0, 0))) ∧ Hid (GroupAt W B g s μ ok) ∧ Hid (MM.Rd W ok 2 (.slice A (s.msg (i : Int)).entries.length c) (s.msg (i : Int)).entries.length (entsC (s.msg (i : Int)).entries)) ∧ Hid (GStep w W B g μ μ ok ok)) _ (by exact ⟨Hd ((set10 R1.out).trans rfl), Hd (G1.out.step (fun k hk => far10 (Nat.ne_of_lt (HLT.out k hk))) (by simp [World.setCell])), Hd (RD1.out.step (fun k hk _ => far10 (Nat.ne_of_lt (HLT.out k (.inr hk))))), Hd (GStep.ofBelow (below10 HB1.out (Nat.le_refl _)) HBS.out)⟩) ?_
  clear R1 G1 RD1 HB1
  intro w2 ⟨R2, G2, RD2, S2⟩
  clear x0 z0 x1 z1 x2 z2 x3 z3 x4 z4 x5 z5 x6 z6 x7 z7 x8 z8 x9 z9
  have HR2 := Hd (MM.blk_lt R2.out)
  obtain ⟨fb, hfb, hF, hd1, hd2, _, _⟩ := G2.out.fly hi
  have c1 := G2.out.c1
  have g1 := G2.out.fr 1
  have HFB := Hd hfb
  have HF := Hd hF
  rw [hF] at c1
  have hiw : IntKind.i64.wrap ((i : Int) + 1) = (i : Int) + 1 := IntWalk.i64_in _ (by omega)
  clear hF hfb
  go_wp2_with fail
  have hfl := G2.out.fl
  rw [HF.out, HFB.out] at hfl
  refine (gdelete_any _ B fb μ.d i s.f ok hfl (fun k hk e => G2.out.no k hk (.inr (.inr (by rw [HFB.out, e])))) hi hl).mono ?_
  rintro e w3 ⟨rfl, hf3, hk3, hb3⟩
  have hgf : g ≠ fb := ty_ne G2.out.tyg (G2.out.tyf fb HFB.out) (by decide)
  have hrf : w.heap.size ≠ fb := by have := HLT.out fb (.inl (.inr (.inr HFB.out))); omega
  have hrg : w.heap.size ≠ g := by have := HLT.out g (.inl (.inl rfl)); omega
  have c3 := (World.cell?_of_block (a := ⟨g, 1, none⟩) (hk3 g hgf)).trans c1
  have g3 := (World.frozen?_of_block (a := ⟨g, 1, none⟩) (hk3 g hgf)).trans g1
  have HP := Hd (G2.out.putF hf3 (fun k _ hn => hk3 k (fun e => hn (by rw [HFB.out, e]))) (.inl HFB.out.symm) (hb3 B (G2.out.ltf fb HFB.out).1))
  have R3 := Hd ((hk3 _ hrf).trans R2.out)
  have RD3 := Hd (RD2.out.step (fun k hk _ => hk3 k (fun e => G2.out.no k hk (.inr (.inr (by rw [HFB.out, e]))))))
  have HRG := Hd hrg
  have HNG := Hd (show ∀ k, ok k → k ≠ g from fun k hk e => G2.out.no k hk (.inl e))
  clear hfl hf3 hk3 hb3 c1 g1 hgf hrf hrg hd1 hd2 G2 R2 RD2
  go_upto_region 4 with (fail)
  clear c3 g3
  have hcut : s.cut (i : Int) = ⟨s.ns, s.us, s.f.eraseIdx i⟩ := by unfold GS.cut; rw [if_pos HS.out]; rfl
  have HP' := HP.out
  rw [← hcut] at HP'
  obtain ⟨μ', hG4, hS4, hp4⟩ : ∃ μ', GroupAt (w3.setCell ⟨g, 1, none⟩ (.slice (some ⟨fb, 0, none⟩) (s.f.eraseIdx i).length μ.d)) B g (s.cut (i : Int)) μ' ok ∧ GStep w2 (w3.setCell ⟨g, 1, none⟩ (.slice (some ⟨fb, 0, none⟩) (s.f.eraseIdx i).length μ.d)) B g μ μ' ok ok ∧ μ'.p = μ.p := ⟨_, HP'.1, HP'.2, rfl⟩
  have HNE := Hd (show ∀ k, μ'.owns g k ∨ ok k → k ≠ w.heap.size from fun k hk => by
   rcases hk with hk | hk
   ·rcases hS4.own k hk with q | q
    ·exact Nat.ne_of_lt (HLT.out k (.inl q))
    ·have := HR2.out; omega
   ·exact Nat.ne_of_lt (HLT.out k (.inr hk)))
  have HP4 := Hd hp4
  have HG4 := Hd hG4
  have HS4 := Hd (S2.out.trans hS4)
  clear HP HP' hcut hp4 hG4 hS4 S2
  refine name_world (F := fun W => Hid (W.heap[w.heap.size]? = some (.cells (MA (s.msg (i : Int)) (.slice A (s.msg (i : Int)).entries.length c)) 34 (0, 0))) ∧ Hid (GroupAt W B g (s.cut (i : Int)) μ' ok) ∧ Hid (GStep w W B g μ μ' ok ok) ∧ Hid (MM.Rd W ok 2 (.slice A (s.msg (i : Int)).entries.length c) (s.msg (i : Int)).entries.length (entsC (s.msg (i : Int)).entries))) _ (by exact ⟨Hd ((Below.heap_setCell _ _ _ _ HRG.out).trans R3.out), Hd (HG4.out), Hd (HS4.out), Hd (RD3.out.far (fun k hk e => HNG.out k hk e) _)⟩) ?_
  clear R3 HG4 HS4 RD3
  intro w4 ⟨R4, G4, S4, RD4⟩
  obtain ⟨x0, x1, x2, x3, x4, x5, x6, x7, x8, x9⟩ := MM.cells10 R4.out
  have z0 : w4.frozen? ⟨w.heap.size, 0, none⟩ = false := MM.free_blk R4.out
  have z1 : w4.frozen? ⟨w.heap.size, 1, none⟩ = false := MM.free_blk R4.out
  have z2 : w4.frozen? ⟨w.heap.size, 2, none⟩ = false := MM.free_blk R4.out
  have z3 : w4.frozen? ⟨w.heap.size, 3, none⟩ = false := MM.free_blk R4.out
  have z4 : w4.frozen? ⟨w.heap.size, 4, none⟩ = false := MM.free_blk R4.out
  have z5 : w4.frozen? ⟨w.heap.size, 5, none⟩ = false := MM.free_blk R4.out
  have z6 : w4.frozen? ⟨w.heap.size, 6, none⟩ = false := MM.free_blk R4.out
  have z7 : w4.frozen? ⟨w.heap.size, 7, none⟩ = false := MM.free_blk R4.out
  have z8 : w4.frozen? ⟨w.heap.size, 8, none⟩ = false := MM.free_blk R4.out
  have z9 : w4.frozen? ⟨w.heap.size, 9, none⟩ = false := MM.free_blk R4.out
  go_wp2_with fail
  clear x0 z0 x1 z1 x2 z2 x3 z3 x4 z4 x5 z5 x6 z6 x7 z7 x8 z8 x9 z9
  refine name_world (F := fun W => Hid (W.heap[w.heap.size]? = some (.cells (MA (s.msg (i : Int)) (.slice A (s.msg (i : Int)).entries.length c)) 34 (0, 0))) ∧ Hid (GroupAt W B g (s.cut (i : Int)) μ' ok) ∧ Hid (GStep w W B g μ μ' ok ok) ∧ Hid (MM.Rd W ok 2 (.slice A (s.msg (i : Int)).entries.length c) (s.msg (i : Int)).entries.length (entsC (s.msg (i : Int)).entries))) _ (by exact ⟨Hd ((set10 R4.out).trans rfl), Hd (G4.out.step (fun k hk => far10 (HNE.out k hk)) (by simp [World.setCell])), Hd (S4.out.fresh (below10 (Below.refl _ _) (Nat.le_refl _)) HBS.out), Hd (RD4.out.step (fun k hk _ => far10 (HNE.out k (.inr hk))))⟩) ?_
  intro w5 ⟨R5, G5, S5, RD5⟩
  obtain ⟨u0, u1, u2, u3, u4, u5, u6, u7, u8, u9⟩ := MM.cells10 R5.out
  refine bodyPost_ret (v := .tuple #[.agg (MA (s.msg (i : Int)) (.slice A (s.msg (i : Int)).entries.length c)), .bool true]) (by simp [results, Try.results81, go_sem, u0, u1, u2, u3, u4, u5, u6, u7, u8, u9]) rfl ?_
  exact ⟨μ', .inl ⟨HS.out, A, c, rfl, RD5.out⟩, G5.out, S5.out, HP4.out⟩
 ·have HS := Hd hs
  clear hs hb1 H0
  obtain ⟨x0, x1, x2, x3, x4, x5, x6, x7, x8, x9⟩ := MM.cells10 R1.out
  have z0 : w1.frozen? ⟨w.heap.size, 0, none⟩ = false := MM.free_blk R1.out
  have z1 : w1.frozen? ⟨w.heap.size, 1, none⟩ = false := MM.free_blk R1.out
  have z2 : w1.frozen? ⟨w.heap.size, 2, none⟩ = false := MM.free_blk R1.out
  have z3 : w1.frozen? ⟨w.heap.size, 3, none⟩ = false := MM.free_blk R1.out
  have z4 : w1.frozen? ⟨w.heap.size, 4, none⟩ = false := MM.free_blk R1.out
  have z5 : w1.frozen? ⟨w.heap.size, 5, none⟩ = false := MM.free_blk R1.out
  have z6 : w1.frozen? ⟨w.heap.size, 6, none⟩ = false := MM.free_blk R1.out
  have z7 : w1.frozen? ⟨w.heap.size, 7, none⟩ = false := MM.free_blk R1.out
  have z8 : w1.frozen? ⟨w.heap.size, 8, none⟩ = false := MM.free_blk R1.out
  have z9 : w1.frozen? ⟨w.heap.size, 9, none⟩ = false := MM.free_blk R1.out
  go_upto_region 2 with (fail)
  refine name_world (F := fun W => Hid (W.heap[w.heap.size]? = some (.cells ZM 34 (0, 0))) ∧ Hid (GroupAt W B g s μ ok) ∧ Hid (GStep w W B g μ μ ok ok)) _ (by exact ⟨Hd ((set10 R1.out).trans rfl), Hd (G1.out.step (fun k hk => far10 (Nat.ne_of_lt (HLT.out k hk))) (by simp [World.setCell])), Hd (GStep.ofBelow (below10 HB1.out (Nat.le_refl _)) HBS.out)⟩) ?_
  clear R1 G1 HB1
  intro w2 ⟨R2, G2, S2⟩
  clear x0 z0 x1 z1 x2 z2 x3 z3 x4 z4 x5 z5 x6 z6 x7 z7 x8 z8 x9 z9
  obtain ⟨x0, x1, x2, x3, x4, x5, x6, x7, x8, x9⟩ := MM.cells10 R2.out
  have z0 : w2.frozen? ⟨w.heap.size, 0, none⟩ = false := MM.free_blk R2.out
  have z1 : w2.frozen? ⟨w.heap.size, 1, none⟩ = false := MM.free_blk R2.out
  have z2 : w2.frozen? ⟨w.heap.size, 2, none⟩ = false := MM.free_blk R2.out
  have z3 : w2.frozen? ⟨w.heap.size, 3, none⟩ = false := MM.free_blk R2.out
  have z4 : w2.frozen? ⟨w.heap.size, 4, none⟩ = false := MM.free_blk R2.out
  have z5 : w2.frozen? ⟨w.heap.size, 5, none⟩ = false := MM.free_blk R2.out
  have z6 : w2.frozen? ⟨w.heap.size, 6, none⟩ = false := MM.free_blk R2.out
  have z7 : w2.frozen? ⟨w.heap.size, 7, none⟩ = false := MM.free_blk R2.out
  have z8 : w2.frozen? ⟨w.heap.size, 8, none⟩ = false := MM.free_blk R2.out
  have z9 : w2.frozen? ⟨w.heap.size, 9, none⟩ = false := MM.free_blk R2.out
  go_wp2_with fail
  clear x0 z0 x1 z1 x2 z2 x3 z3 x4 z4 x5 z5 x6 z6 x7 z7 x8 z8 x9 z9
  refine name_world (F := fun W => Hid (W.heap[w.heap.size]? = some (.cells ZM 34 (0, 0))) ∧ Hid (GroupAt W B g s μ ok) ∧ Hid (GStep w W B g μ μ ok ok)) _ (by exact ⟨Hd ((set10 R2.out).trans rfl), Hd (G2.out.step (fun k hk => far10 (Nat.ne_of_lt (HLT.out k hk))) (by simp [World.setCell])), Hd (S2.out.fresh (below10 (Below.refl _ _) (Nat.le_refl _)) HBS.out)⟩) ?_
  intro w5 ⟨R7, G7, S7⟩
  obtain ⟨u0, u1, u2, u3, u4, u5, u6, u7, u8, u9⟩ := MM.cells10 R7.out
  refine bodyPost_ret (v := .tuple #[.agg ZM, .bool false]) (by simp [results, Try.results81, go_sem, u0, u1, u2, u3, u4, u5, u6, u7, u8, u9]) rfl ?_
  have hcut : s.cut a = s := by unfold GS.cut; rw [HS.out]; rfl
  rw [hcut]
  exact ⟨μ, .inr ⟨HS.out, rfl⟩, G7.out, S7.out, rfl⟩
end Go.Proofs.Ytnkmljdkokcdjaa
