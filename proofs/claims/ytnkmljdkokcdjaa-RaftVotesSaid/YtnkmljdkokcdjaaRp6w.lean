/-
  The law's switch, and what stands behind it, out of the function's code.
-/
import Derived.Test.YtnkmljdkokcdjaaMh
import Derived.Test.YtnkmljdkokcdjaaMg
set_option linter.unusedVariables false
set_option linter.unusedSimpArgs false
namespace Go.Proofs.Ytnkmljdkokcdjaa
open Go Go.RowKit Fed
/-- The block of this number in a function's code. -/
def findBlk (n : Nat) : Code → Option Code
  | .block m c => if m = n then some (.block m c) else findBlk n c
  | .loop c => findBlk n c
  | .scope c => findBlk n c
  | .seq a b => match findBlk n a with
    | some c => some c
    | none => findBlk n b
  | .cond _ a b => match findBlk n a with
    | some c => some c
    | none => findBlk n b
  | _ => none
/-- The law's switch. -/
noncomputable def swBlk : Code := ((Try.f31.body.bind (findBlk 4)).getD .skip)
/-- The block that a code ends with. -/
def lastBlk : Code → Option Nat
  | .block m _ => some m
  | .seq _ b => lastBlk b
  | _ => none
/-- What stands behind a block. -/
def behind (n : Nat) : Code → Option Code
  | .block _ c => behind n c
  | .loop c => behind n c
  | .scope c => behind n c
  | .seq a b => if lastBlk a = some n then some b else match behind n a with
    | some c => some c
    | none => behind n b
  | _ => none
/-- What stands behind the law's switch. -/
noncomputable def swRest : Code := ((Try.f31.body.bind (behind 4)).getD .skip)
theorem moved13 {w w2 : World} {b o : Nat} {a0 a1 a2 a3 a4 a5 a6 a7 a8 a9 a10 a11 a12 : Value} (h : w2.heap[b]? = w.heap[b]?) (c0 : w.cell? ⟨b, o, none⟩ = some a0) (c1 : w.cell? ⟨b, o + 1, none⟩ = some a1) (c2 : w.cell? ⟨b, o + 2, none⟩ = some a2) (c3 : w.cell? ⟨b, o + 3, none⟩ = some a3) (c4 : w.cell? ⟨b, o + 4, none⟩ = some a4) (c5 : w.cell? ⟨b, o + 5, none⟩ = some a5) (c6 : w.cell? ⟨b, o + 6, none⟩ = some a6) (c7 : w.cell? ⟨b, o + 7, none⟩ = some a7) (c8 : w.cell? ⟨b, o + 8, none⟩ = some a8) (c9 : w.cell? ⟨b, o + 9, none⟩ = some a9) (c10 : w.cell? ⟨b, o + 10, none⟩ = some a10) (c11 : w.cell? ⟨b, o + 11, none⟩ = some a11) (c12 : w.cell? ⟨b, o + 12, none⟩ = some a12) : w2.cell? ⟨b, o, none⟩ = some a0 ∧ w2.cell? ⟨b, o + 1, none⟩ = some a1 ∧ w2.cell? ⟨b, o + 2, none⟩ = some a2 ∧ w2.cell? ⟨b, o + 3, none⟩ = some a3 ∧ w2.cell? ⟨b, o + 4, none⟩ = some a4 ∧ w2.cell? ⟨b, o + 5, none⟩ = some a5 ∧ w2.cell? ⟨b, o + 6, none⟩ = some a6 ∧ w2.cell? ⟨b, o + 7, none⟩ = some a7 ∧ w2.cell? ⟨b, o + 8, none⟩ = some a8 ∧ w2.cell? ⟨b, o + 9, none⟩ = some a9 ∧ w2.cell? ⟨b, o + 10, none⟩ = some a10 ∧ w2.cell? ⟨b, o + 11, none⟩ = some a11 ∧ w2.cell? ⟨b, o + 12, none⟩ = some a12 :=
  ⟨(World.cell?_of_block (a := ⟨b, o, none⟩) h).trans c0, (World.cell?_of_block (a := ⟨b, o + 1, none⟩) h).trans c1, (World.cell?_of_block (a := ⟨b, o + 2, none⟩) h).trans c2, (World.cell?_of_block (a := ⟨b, o + 3, none⟩) h).trans c3, (World.cell?_of_block (a := ⟨b, o + 4, none⟩) h).trans c4, (World.cell?_of_block (a := ⟨b, o + 5, none⟩) h).trans c5, (World.cell?_of_block (a := ⟨b, o + 6, none⟩) h).trans c6, (World.cell?_of_block (a := ⟨b, o + 7, none⟩) h).trans c7, (World.cell?_of_block (a := ⟨b, o + 8, none⟩) h).trans c8, (World.cell?_of_block (a := ⟨b, o + 9, none⟩) h).trans c9, (World.cell?_of_block (a := ⟨b, o + 10, none⟩) h).trans c10, (World.cell?_of_block (a := ⟨b, o + 11, none⟩) h).trans c11, (World.cell?_of_block (a := ⟨b, o + 12, none⟩) h).trans c12⟩
theorem frozen13 {w : World} {b : Nat} (h : ∀ j, w.frozen? ⟨b, j, none⟩ = false) (o : Nat) : w.frozen? ⟨b, o, none⟩ = false ∧ w.frozen? ⟨b, o + 1, none⟩ = false ∧ w.frozen? ⟨b, o + 2, none⟩ = false ∧ w.frozen? ⟨b, o + 3, none⟩ = false ∧ w.frozen? ⟨b, o + 4, none⟩ = false ∧ w.frozen? ⟨b, o + 5, none⟩ = false ∧ w.frozen? ⟨b, o + 6, none⟩ = false ∧ w.frozen? ⟨b, o + 7, none⟩ = false ∧ w.frozen? ⟨b, o + 8, none⟩ = false ∧ w.frozen? ⟨b, o + 9, none⟩ = false ∧ w.frozen? ⟨b, o + 10, none⟩ = false ∧ w.frozen? ⟨b, o + 11, none⟩ = false ∧ w.frozen? ⟨b, o + 12, none⟩ = false :=
  ⟨h _, h _, h _, h _, h _, h _, h _, h _, h _, h _, h _, h _, h _⟩
theorem cellsL {w : World} {b o : Nat} {n : Fed.Node} {σ : Sl5} (h : ∀ (j : Nat) (u : Value), (nodeL n σ)[j]? = some u → w.cell? ⟨b, o + j, none⟩ = some u) : w.cell? ⟨b, o, none⟩ = some (.int .i64 n.id) ∧ w.cell? ⟨b, o + 1, none⟩ = some (.int .i64 n.term) ∧ w.cell? ⟨b, o + 2, none⟩ = some (.int .i64 n.vote) ∧ w.cell? ⟨b, o + 3, none⟩ = some (.slice σ.A3 n.log.length σ.k3) ∧ w.cell? ⟨b, o + 4, none⟩ = some (.int .i64 n.form) ∧ w.cell? ⟨b, o + 5, none⟩ = some (.int .i64 n.role) ∧ w.cell? ⟨b, o + 6, none⟩ = some (.int .i64 n.commit) ∧ w.cell? ⟨b, o + 7, none⟩ = some (.slice σ.A7 n.votes.length σ.k7) ∧ w.cell? ⟨b, o + 8, none⟩ = some (.slice σ.A8 n.nxt.length σ.k8) ∧ w.cell? ⟨b, o + 9, none⟩ = some (.slice σ.A9 n.mtch.length σ.k9) ∧ w.cell? ⟨b, o + 10, none⟩ = some (.slice σ.A10 n.forms.length σ.k10) ∧ w.cell? ⟨b, o + 11, none⟩ = some (.int .i64 n.clock) ∧ w.cell? ⟨b, o + 12, none⟩ = some (.int .i64 n.due) :=
  ⟨h 0 _ rfl, h 1 _ rfl, h 2 _ rfl, h 3 _ rfl, h 4 _ rfl, h 5 _ rfl, h 6 _ rfl, h 7 _ rfl, h 8 _ rfl, h 9 _ rfl, h 10 _ rfl, h 11 _ rfl, h 12 _ rfl⟩

end Go.Proofs.Ytnkmljdkokcdjaa
