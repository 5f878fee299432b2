/-
  How a group lies in memory; what a store, an append leaves of it.
-/
import Derived.WalkKit
import Derived.WalkSpells
import Derived.Lib.Hide
import Derived.Outline
import Derived.Test.YtnkmljdkokcdjaaChecked
import Derived.Test.YtnkmljdkokcdjaaMem
import Derived.Test.YtnkmljdkokcdjaaFed
import Derived.Test.YtnkmljdkokcdjaaMg
import Derived.Test.YtnkmljdkokcdjaaRp5
import Derived.Test.YtnkmljdkokcdjaaGa
import Derived.Deep.OwnRows
set_option linter.unusedVariables false
set_option linter.unusedSimpArgs false
namespace Go.Proofs.Ytnkmljdkokcdjaa
open Go Go.RowKit Fed
set_option linter.unusedVariables false

theorem info96 : (Try.prog.info? 96).map (fun i => (i.zero, i.size, i.bytes)) = some (some (.agg #[.int .i64 0, .int .i64 0, .int .i64 0, .slice none 0 0, .int .i64 0, .int .i64 0, .int .i64 0, .slice none 0 0, .slice none 0 0, .slice none 0 0, .slice none 0 0, .int .i64 0, .int .i64 0, .bool false]), 14, 192) := by kernel_rfl
/-- A node, and whether it is up, as cells. -/
def placeL (n : Fed.Node) (σ : Sl5) (u : Bool) : List Value := nodeL n σ ++ [.bool u]
theorem placeL_len (n : Fed.Node) (σ : Sl5) (u : Bool) : (placeL n σ u).length = 14 := rfl
/-- Where a group's rows lie. -/
structure GM where
  A : Option Addr
  c : Nat
  F : Option Addr
  d : Nat
  p : Option Nat
  fb : Option Nat
def GM.owns (g : Nat) (μ : GM) (k : Nat) : Prop := k = g ∨ μ.p = some k ∨ μ.fb = some k
/-- A group at block g; what its nodes and messages lead to lies in ok. -/
structure GroupAt (w : World) (B g : Nat) (s : GS) (μ : GM) (ok : Nat → Prop) : Prop where
  hB : B ≤ g
  blk : w.heap[g]? = some (.cells #[.slice μ.A s.ns.length μ.c, .slice μ.F s.f.length μ.d] 94 (0, 0))
  ul : s.us.length = s.ns.length
  pl : ∃ cs, MM.Row w B 96 14 (.slice μ.A s.ns.length μ.c) s.ns.length cs μ.p ∧ ∀ i n u, s.ns[i]? = some n → s.us[i]? = some u → ∃ σ, NodeVs w ok n σ ∧ ∀ j x, (placeL n σ u)[j]? = some x → cs[i * 14 + j]? = some x
  fl : FlyAt w B (.slice μ.F s.f.length μ.d) s.f μ.fb ok
  no : ∀ k, ok k → ¬ μ.owns g k
  okl : ∀ k, ok k → k < w.heap.size
/-- From w to w' a group at g went on: what it had, and what is new, may have changed. -/
structure GStep (w w' : World) (B g : Nat) (μ μ' : GM) (ok ok' : Nat → Prop) : Prop where
  below : Below B w w'
  keep : ∀ k, k < w.heap.size → ¬ μ.owns g k → w'.heap[k]? = w.heap[k]?
  own : ∀ k, μ'.owns g k → μ.owns g k ∨ w.heap.size ≤ k
  oks : ∀ k, ok' k → ok k ∨ w.heap.size ≤ k
namespace GStep
variable {w w1 w2 : World} {B g : Nat} {μ μ1 μ2 : GM} {ok ok1 ok2 : Nat → Prop}
theorem refl (w : World) (B g : Nat) (μ : GM) (ok : Nat → Prop) : GStep w w B g μ μ ok ok := ⟨Below.refl _ _, fun _ _ _ => rfl, fun _ h => .inl h, fun _ h => .inl h⟩
theorem trans (h : GStep w w1 B g μ μ1 ok ok1) (h' : GStep w1 w2 B g μ1 μ2 ok1 ok2) : GStep w w2 B g μ μ2 ok ok2 where
  below := h.below.trans h'.below
  keep k hk hn := (h'.keep k (Nat.lt_of_lt_of_le hk h.below.size) (fun q => by rcases h.own k q with q | q; exact hn q; omega)).trans (h.keep k hk hn)
  own k q := by
    rcases h'.own k q with q | q
    · exact h.own k q
    · exact .inr (Nat.le_trans h.below.size q)
  oks k q := by
    rcases h'.oks k q with q | q
    · exact h.oks k q
    · exact .inr (Nat.le_trans h.below.size q)
/-- A call that changes nothing that was there. -/
theorem ofBelow (hb : Below w.heap.size w w1) (hB : B ≤ w.heap.size) : GStep w w1 B g μ μ ok ok := ⟨hb.mono hB, fun k hk _ => hb.block k hk, fun _ h => .inl h, fun _ h => .inl h⟩
theorem drew (h : GStep w w1 B g μ μ1 ok ok1) : GStep w w1.drew B g μ μ1 ok ok1 := ⟨h.below.drew, h.keep, h.own, h.oks⟩
end GStep
namespace GroupAt
variable {w w1 : World} {B g : Nat} {s : GS} {μ : GM} {ok ok' : Nat → Prop}
theorem lt (h : GroupAt w B g s μ ok) : g < w.heap.size := MM.blk_lt h.blk
theorem Bsize (h : GroupAt w B g s μ ok) : B ≤ w.heap.size := Nat.le_trans h.hB (Nat.le_of_lt h.lt)
theorem tyg (h : GroupAt w B g s μ ok) : MM.Ty w g 94 := ⟨_, _, h.blk⟩
theorem typ (h : GroupAt w B g s μ ok) : ∀ k, μ.p = some k → MM.Ty w k 96 := by obtain ⟨cs, h1, _⟩ := h.pl; exact h1.ty
theorem tyf (h : GroupAt w B g s μ ok) : ∀ k, μ.fb = some k → MM.Ty w k 34 := by obtain ⟨cs, h1, _⟩ := h.fl; exact h1.ty
theorem ltp (h : GroupAt w B g s μ ok) : ∀ k, μ.p = some k → B ≤ k ∧ k < w.heap.size := by obtain ⟨cs, h1, _⟩ := h.pl; exact h1.lt
theorem ltf (h : GroupAt w B g s μ ok) : ∀ k, μ.fb = some k → B ≤ k ∧ k < w.heap.size := by obtain ⟨cs, h1, _⟩ := h.fl; exact h1.lt
theorem ownlt (h : GroupAt w B g s μ ok) : ∀ k, μ.owns g k → B ≤ k ∧ k < w.heap.size := by
  rintro k (rfl | q | q)
  · exact ⟨h.hB, h.lt⟩
  · exact h.ltp k q
  · exact h.ltf k q
theorem c0 (h : GroupAt w B g s μ ok) : w.cell? ⟨g, 0, none⟩ = some (.slice μ.A s.ns.length μ.c) := MM.cell_blk h.blk rfl
theorem c1 (h : GroupAt w B g s μ ok) : w.cell? ⟨g, 1, none⟩ = some (.slice μ.F s.f.length μ.d) := MM.cell_blk h.blk rfl
theorem fr (h : GroupAt w B g s μ ok) (i : Nat) : w.frozen? ⟨g, i, none⟩ = false := MM.free_blk h.blk
/-- All that the group has, and leads to, stays. -/
theorem step (h : GroupAt w B g s μ ok) (hm : ∀ k, μ.owns g k ∨ ok k → w1.heap[k]? = w.heap[k]?) (hs : w.heap.size ≤ w1.heap.size) : GroupAt w1 B g s μ ok := by
  obtain ⟨cs, p1, p2⟩ := h.pl
  obtain ⟨ds, f1, f2⟩ := h.fl
  refine ⟨h.hB, (hm g (.inl (.inl rfl))).trans h.blk, h.ul, ⟨cs, p1.step fun k hk _ => hm k (.inl (.inr (.inl hk))), fun i n u hn hu => ?_⟩, ⟨ds, f1.step fun k hk _ => hm k (.inl (.inr (.inr hk))), f2.step fun k hk _ => hm k (.inr hk)⟩, h.no, fun k hk => Nat.lt_of_lt_of_le (h.okl k hk) hs⟩
  obtain ⟨σ, v, hc⟩ := p2 i n u hn hu
  exact ⟨σ, v.step fun k hk _ => hm k (.inr hk), hc⟩
theorem below (h : GroupAt w B g s μ ok) (hb : Below w.heap.size w w1) : GroupAt w1 B g s μ ok := h.step (fun k hk => hb.block k (by rcases hk with hk | hk; exact (h.ownlt k hk).2; exact h.okl k hk)) hb.size
theorem drew (h : GroupAt w B g s μ ok) : GroupAt w.drew B g s μ ok := h.step (fun _ _ => rfl) (Nat.le_refl _)
theorem alloc (h : GroupAt w B g s μ ok) (o : Obj) : GroupAt (w.alloc o) B g s μ ok := h.step (fun k hk => Below.heap_alloc w o k (by rcases hk with hk | hk; exact (h.ownlt k hk).2; exact h.okl k hk)) (by simp)
/-- A node of it: its cells, its rows. -/
theorem place (h : GroupAt w B g s μ ok) {i : Nat} (hi : i < s.ns.length) : ∃ pb, μ.p = some pb ∧ μ.A = some ⟨pb, 0, none⟩ ∧ s.ns.length ≤ μ.c ∧ μ.c ≤ maxLen ∧ (∀ j, w.frozen? ⟨pb, j, none⟩ = false) ∧ ∃ σ, NodeVs w ok (s.node i) σ ∧ ∀ j x, (placeL (s.node i) σ (s.us.getD i false))[j]? = some x → w.cell? ⟨pb, i * 14 + j, none⟩ = some x := by
  obtain ⟨cs, p1, p2⟩ := h.pl
  obtain ⟨pb, hp⟩ := p1.some_of (by omega)
  have p1' := p1
  rw [hp] at p1'
  obtain ⟨cap, e, e1, e2⟩ := p1'.form
  injection e with ea _ ec
  have en : s.ns[i]? = some (s.node i) := by
    unfold GS.node
    rw [Int.toNat_natCast, List.getD_eq_getElem?_getD, List.getElem?_eq_getElem hi]; rfl
  have eu : s.us[i]? = some (s.us.getD i false) := by
    rw [List.getD_eq_getElem?_getD, List.getElem?_eq_getElem (by rw [h.ul]; exact hi)]; rfl
  obtain ⟨σ, v, hc⟩ := p2 i _ _ en eu
  exact ⟨pb, hp, ea, by rw [ec]; exact e1, by rw [ec]; exact e2, p1'.free, σ, v, fun j x hj => p1'.cell (hc j x hj)⟩
/-- A message of it: its cells, its entries. -/
theorem fly (h : GroupAt w B g s μ ok) {i : Nat} (hi : i < s.f.length) : ∃ fb, μ.fb = some fb ∧ μ.F = some ⟨fb, 0, none⟩ ∧ s.f.length ≤ μ.d ∧ μ.d ≤ maxLen ∧ (∀ j, w.frozen? ⟨fb, j, none⟩ = false) ∧ ∃ A c, MM.Rd w ok 2 (.slice A (s.msg i).entries.length c) (s.msg i).entries.length (entsC (s.msg i).entries) ∧ ∀ j u, (msgC (s.msg i) (.slice A (s.msg i).entries.length c))[j]? = some u → w.cell? ⟨fb, i * 10 + j, none⟩ = some u := by
  obtain ⟨cs, p1, p2⟩ := h.fl
  obtain ⟨fb, hp⟩ := p1.some_of (by omega)
  have p1' := p1
  rw [hp] at p1'
  obtain ⟨cap, e, e1, e2⟩ := p1'.form
  injection e with ea _ ec
  have em : s.f[i]? = some (s.msg i) := by
    unfold GS.msg
    rw [Int.toNat_natCast, List.getD_eq_getElem?_getD, List.getElem?_eq_getElem hi]; rfl
  obtain ⟨ve, hr, hc⟩ := p2.get em
  obtain ⟨A, c, rfl, _, _⟩ := hr.slice
  exact ⟨fb, hp, ea, by rw [ec]; exact e1, by rw [ec]; exact e2, p1'.free, A, c, hr, fun j u hj => p1'.cell (hc j u hj)⟩
/-- What flies is another row now. -/
theorem putF {A' : Option Addr} {c' : Nat} {ob' : Option Nat} {zs : List Fed.Msg} (h : GroupAt w B g s μ ok) (hf : FlyAt w1 B (.slice A' zs.length c') zs ob' ok) (kp : ∀ k, k < w.heap.size → μ.fb ≠ some k → w1.heap[k]? = w.heap[k]?) (hob : ob' = μ.fb ∨ ∃ b, ob' = some b ∧ w.heap.size ≤ b) (hbl : Below B w w1) :
    GroupAt (w1.setCell ⟨g, 1, none⟩ (.slice A' zs.length c')) B g ⟨s.ns, s.us, zs⟩ { μ with F := A', d := c', fb := ob' } ok ∧ GStep w (w1.setCell ⟨g, 1, none⟩ (.slice A' zs.length c')) B g μ { μ with F := A', d := c', fb := ob' } ok ok := by
  have hg1 : w1.heap[g]? = w.heap[g]? := kp g h.lt (fun q => ty_ne h.tyg (h.tyf g q) (by decide) rfl)
  have far : ∀ k, k ≠ g → (w1.setCell ⟨g, 1, none⟩ (.slice A' zs.length c')).heap[k]? = w1.heap[k]? := fun k hk => Below.heap_setCell w1 _ _ k hk
  have okg : ∀ k, ok k → k ≠ g := fun k hk e => h.no k hk (.inl e)
  have okk : ∀ k, ok k → (w1.setCell ⟨g, 1, none⟩ (.slice A' zs.length c')).heap[k]? = w.heap[k]? := fun k hk => (far k (okg k hk)).trans (kp k (h.okl k hk) (fun q => h.no k hk (.inr (.inr q))))
  obtain ⟨cs, p1, p2⟩ := h.pl
  have hsz : w.heap.size ≤ (w1.setCell ⟨g, 1, none⟩ (.slice A' zs.length c')).heap.size := by have := hbl.size; simpa [World.setCell] using this
  have hown : ∀ k, GM.owns g { μ with F := A', d := c', fb := ob' } k → μ.owns g k ∨ w.heap.size ≤ k := by
    rintro k (q | q | q)
    · exact .inl (.inl q)
    · exact .inl (.inr (.inl q))
    · rcases hob with e | ⟨b, e, hb⟩
      · exact .inl (.inr (.inr (e ▸ q)))
      · have q' : ob' = some k := q
        rw [e] at q'; injection q' with q'; exact .inr (by omega)
  refine ⟨⟨h.hB, ?_, h.ul, ⟨cs, p1.step fun k hk hl => ?_, fun i n u hn hu => ?_⟩, hf.step (fun k hk => far k ?_) (fun k hk _ => far k (okg k hk)), fun k hk q => ?_, fun k hk => Nat.lt_of_lt_of_le (h.okl k hk) hsz⟩, ⟨hbl.setCell (p := ⟨g, 1, none⟩) h.hB _, fun k hk hn => (far k (fun e => hn (.inl e))).trans (kp k hk (fun q => hn (.inr (.inr q)))), hown, fun k q => .inl q⟩⟩
  · exact (setCell_blk _ (hg1.trans h.blk)).trans rfl
  · exact (far k (ty_ne (h.typ k hk) h.tyg (by decide))).trans (kp k hl (fun q => ty_ne (h.typ k hk) (h.tyf k q) (by decide) rfl))
  · obtain ⟨σ, v, hc⟩ := p2 i n u hn hu
    exact ⟨σ, v.step fun k hk _ => okk k hk, hc⟩
  · intro e
    subst e
    obtain ⟨ds, f1, _⟩ := hf
    exact ty_ne (f1.ty k hk) ⟨_, _, hg1.trans h.blk⟩ (by decide) rfl
  · rcases hown k q with q | q
    · exact h.no k hk q
    · have := h.okl k hk; omega
/-- It may lead to more. -/
theorem more (h : GroupAt w B g s μ ok) (hok : ∀ k, ok k → ok' k) (no : ∀ k, ok' k → ¬ μ.owns g k) (okl : ∀ k, ok' k → k < w.heap.size) : GroupAt w B g s μ ok' := by
  obtain ⟨cs, p1, p2⟩ := h.pl
  refine ⟨h.hB, h.blk, h.ul, ⟨cs, p1, fun i n u hn hu => ?_⟩, h.fl.mono fun k hk _ => hok k hk, no, okl⟩
  obtain ⟨σ, v, hc⟩ := p2 i n u hn hu
  exact ⟨σ, v.mono fun k hk _ => hok k hk, hc⟩
/-- A node is another one now: 13 stores. -/
theorem setN (h : GroupAt w B g s μ ok) {i pb : Nat} (hi : i < s.ns.length) (hp : μ.p = some pb) {n : Fed.Node} {σ : Sl5} (hn : NodeVs w ok n σ) :
    GroupAt (putL w pb (i * 14) (nodeL n σ)) B g ⟨s.ns.set i n, s.us, s.f⟩ μ ok ∧ GStep w (putL w pb (i * 14) (nodeL n σ)) B g μ μ ok ok := by
  have tp := h.typ pb hp
  have far : ∀ k, k ≠ pb → (putL w pb (i * 14) (nodeL n σ)).heap[k]? = w.heap[k]? := fun k hk => putL_far hk
  have okp : ∀ k, ok k → k ≠ pb := fun k hk e => h.no k hk (.inr (.inl (by rw [hp, e])))
  have fbp : ∀ k, μ.fb = some k → k ≠ pb := fun k hk => ty_ne (h.tyf k hk) tp (by decide)
  obtain ⟨cs, p1, p2⟩ := h.pl
  refine ⟨⟨h.hB, by rw [List.length_set]; exact (far g (ty_ne h.tyg tp (by decide))).trans h.blk, by simp [h.ul], ?_, h.fl.step (fun k hk => far k (fbp k hk)) (fun k hk _ => far k (okp k hk)), h.no, fun k hk => by rw [putL_size]; exact h.okl k hk⟩, ⟨putL_below (Below.refl B w) (h.ltp pb hp).1, fun k hk hn => far k (fun e => hn (.inr (.inl (by rw [hp, e])))), fun _ q => .inl q, fun _ q => .inl q⟩⟩
  rw [hp] at p1 ⊢
  obtain ⟨h0, cap, cur, h1, h2, h3, h4, h5, h6, h7⟩ := p1
  have hroom : i * 14 + (nodeL n σ).length ≤ cur.size := by
    rw [nodeL_len, h6]
    have : (i + 1) * 14 ≤ cap * 14 := Nat.mul_le_mul_right _ (by omega)
    omega
  obtain ⟨c', k1, k2, k3⟩ := putL_blk (us := nodeL n σ) (o := i * 14) h3 hroom
  have hcs : ∀ m, m < s.ns.length * 14 → cs[m]? = cur[m]? := fun m hm => by
    rw [← h7, List.getElem?_take, if_pos hm, Array.getElem?_toList]
  refine ⟨c'.toList.take (s.ns.length * 14), ⟨?_, cap, c', by simpa using h1, h2, k1, by simpa using h4, h5, by rw [k2]; exact h6, by simp⟩, fun j m u hm hu => ?_⟩
  · rw [List.length_set, List.length_take, Array.length_toList, k2, h6]
    exact Nat.min_eq_left (Nat.mul_le_mul_right _ h4)
  · have hjl : j < s.ns.length := by have := (List.getElem?_eq_some_iff.1 hm).1; simpa using this
    have hm' : (s.ns.set i n)[j]? = some m := hm
    rw [List.getElem?_set] at hm'
    have get : ∀ q, q < 14 → (c'.toList.take (s.ns.length * 14))[j * 14 + q]? = c'[j * 14 + q]? := fun q hq => by
      have : (j + 1) * 14 ≤ s.ns.length * 14 := Nat.mul_le_mul_right _ (by omega)
      rw [List.getElem?_take, if_pos (by omega), Array.getElem?_toList]
    have lt14 : ∀ q, q < 14 → j * 14 + q < s.ns.length * 14 := fun q hq => by
      have : (j + 1) * 14 ≤ s.ns.length * 14 := Nat.mul_le_mul_right _ (by omega)
      omega
    by_cases e : i = j
    · subst e
      rw [if_pos rfl, if_pos hi] at hm'
      injection hm' with hm'
      subst hm'
      obtain ⟨τ, _, hc⟩ := p2 i _ u (List.getElem?_eq_getElem hi) hu
      refine ⟨σ, hn.step fun k hk _ => far k (okp k hk), fun q x hx => ?_⟩
      have hq := (List.getElem?_eq_some_iff.1 hx).1
      rw [placeL_len] at hq
      rw [get q hq, k3]
      by_cases e13 : q = 13
      · subst e13
        rw [if_neg (by rw [nodeL_len]; omega), ← hcs _ (lt14 13 hq)]
        exact hc 13 x hx
      · rw [if_pos ⟨by omega, by rw [nodeL_len]; omega⟩, show i * 14 + q - i * 14 = q from by omega]
        have : q < (nodeL n σ).length := by rw [nodeL_len]; omega
        unfold placeL at hx
        rw [List.getElem?_append_left this] at hx
        exact hx
    · rw [if_neg e] at hm'
      obtain ⟨τ, v, hc⟩ := p2 j m u hm' hu
      refine ⟨τ, v.step fun k hk _ => far k (okp k hk), fun q x hx => ?_⟩
      have hq := (List.getElem?_eq_some_iff.1 hx).1
      rw [placeL_len] at hq
      rw [get q hq, k3, if_neg (by rw [nodeL_len]; omega), ← hcs _ (lt14 q hq)]
      exact hc q x hx
end GroupAt
end Go.Proofs.Ytnkmljdkokcdjaa
