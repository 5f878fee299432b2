/-
  What a node does with votes, entries, answers, in plain Lean; what stays of memory but one block.
-/
import Derived.Test.YtnkmljdkokcdjaaFed
set_option linter.unusedVariables false
set_option linter.unusedSimpArgs false
namespace Fed
open Go Go.RowKit

/-- All that there was, but block g, stays. -/
def Keep (g : Nat) (w w' : World) : Prop := w.heap.size ≤ w'.heap.size ∧ ∀ k, k < w.heap.size → k ≠ g → w'.heap[k]? = w.heap[k]?
section
variable {g : Nat} {w w1 w2 : World}
theorem Keep.refl (g : Nat) (w : World) : Keep g w w := ⟨Nat.le_refl _, fun _ _ _ => rfl⟩
theorem Keep.trans (h : Keep g w w1) (h' : Keep g w1 w2) : Keep g w w2 := ⟨Nat.le_trans h.1 h'.1, fun k hk hne => (h'.2 k (Nat.lt_of_lt_of_le hk h.1) hne).trans (h.2 k hk hne)⟩
theorem Keep.drew (h : Keep g w w1) : Keep g w w1.drew := h
theorem Keep.alloc (h : Keep g w w1) (o : Obj) : Keep g w (w1.alloc o) := ⟨by have := h.1; simp; omega, fun k hk hne => (Below.heap_alloc w1 o k (Nat.lt_of_lt_of_le hk h.1)).trans (h.2 k hk hne)⟩
theorem Keep.set (h : Keep g w w1) {i : Nat} (u : Value) : Keep g w (w1.setCell ⟨g, i, none⟩ u) := ⟨by have := h.1; simpa [World.setCell] using this, fun k hk hne => (Below.heap_setCell w1 _ u k hne).trans (h.2 k hk hne)⟩
theorem Keep.grown (h : Keep g w w1) (hg : w1.grownBy w2 none) : Keep g w w2 := ⟨Nat.le_trans h.1 hg.size, fun k hk hne => (hg.block k (Nat.lt_of_lt_of_le hk h.1) (by simp)).trans (h.2 k hk hne)⟩
theorem Keep.below (h : Keep g w w1) (hb : Below w1.heap.size w1 w2) : Keep g w w2 := ⟨Nat.le_trans h.1 hb.size, fun k hk hne => (hb.block k (Nat.lt_of_lt_of_le hk h.1)).trans (h.2 k hk hne)⟩
theorem Keep.blk (h : Keep g w w1) {k : Nat} {o : Obj} (hk : w.heap[k]? = some o) (hne : k ≠ g) : w1.heap[k]? = some o := (h.2 k (MM.blk_lt hk) hne).trans hk
end

/-- A store into a block of messages that is not the node's. -/
theorem NodeAt.far34 {w : World} {B g : Nat} {s : NS} {μ : NM} (h : NodeAt w B g s μ) {b i : Nat} {u : Value} (ht : MM.Ty w b 34) (hb : μ.o.ob ≠ some b) : NodeAt (w.setCell ⟨b, i, none⟩ u) B g s μ := by
  have far : ∀ k, k ≠ b → (w.setCell ⟨b, i, none⟩ u).heap[k]? = w.heap[k]? := fun k hk => Below.heap_setCell w _ u k hk
  have ne : ∀ k t', MM.Ty w k t' → t' ≠ 34 → k ≠ b := fun k t' hk h => ty_ne hk ht h
  refine ⟨h.hB, (far g (ne g _ h.tyg (by decide))).trans h.blk, h.hl.step fun k hk _ => far k (ne k _ (h.hl.ty k hk) (by decide)), h.hv.step fun k hk _ => far k (ne k _ (h.hv.ty k hk) (by decide)), h.hn.step fun k hk _ => far k (ne k _ (h.hn.ty k hk) (by decide)), h.hm.step fun k hk _ => far k (ne k _ (h.hm.ty k hk) (by decide)), h.hf.step fun k hk _ => far k (ne k _ (h.hf.ty k hk) (by decide)), ?_, h.nm, h.nf, h.mf⟩
  obtain ⟨cs, hro, hrm⟩ := h.ho
  refine ⟨cs, hro.step fun k hk _ => far k (fun e => hb (by rw [hk, e])), ?_⟩
  refine ((hrm.mono (ok' := fun k => (B ≤ k ∧ MM.Ty (w.setCell ⟨b, i, none⟩ u) k 40 ∧ μ.l.ob ≠ some k) ∧ MM.Ty w k 40) fun k hk _ => ⟨⟨hk.1, ?_, hk.2.2⟩, hk.2.1⟩).step (fun k hk _ => far k (ne k _ hk.2 (by decide)))).mono fun k hk _ => hk.1
  obtain ⟨c, f, hc⟩ := hk.2.1
  exact ⟨c, f, (far k (ne k _ hk.2.1 (by decide))).trans hc⟩

/-- How many are true. -/
def countT (l : List Bool) : Nat := (l.filter id).length
theorem countT_le (l : List Bool) : countT l ≤ l.length := List.length_filter_le _ _
theorem countT_take_succ {l : List Bool} {k : Nat} (h : k < l.length) : countT (l.take (k + 1)) = countT (l.take k) + if l.getD k false = true then 1 else 0 := by
  unfold countT
  rw [List.take_add_one, List.getElem?_eq_getElem h, List.filter_append, List.length_append]
  simp only [List.getD_eq_getElem?_getD, List.getElem?_eq_getElem h, Option.getD_some, Option.toList_some]
  cases l[k] <;> simp
theorem countT_take_le (l : List Bool) (k : Nat) : countT (l.take k) ≤ k := Nat.le_trans (countT_le _) (List.length_take_le _ _)

/-- How many are x or more. -/
def countG (l : List Int) (x : Int) : Nat := (l.filter fun y => decide (x ≤ y)).length
theorem countG_le (l : List Int) (x : Int) : countG l x ≤ l.length := List.length_filter_le _ _
theorem countG_take_succ {l : List Int} {x : Int} {k : Nat} (h : k < l.length) : countG (l.take (k + 1)) x = countG (l.take k) x + if x ≤ l.getD k 0 then 1 else 0 := by
  unfold countG
  rw [List.take_add_one, List.getElem?_eq_getElem h, List.filter_append, List.length_append]
  simp only [List.getD_eq_getElem?_getD, List.getElem?_eq_getElem h, Option.getD_some, Option.toList_some]
  by_cases hx : x ≤ l[k] <;> simp [hx]
theorem countG_take_le (l : List Int) (x : Int) (k : Nat) : countG (l.take k) x ≤ k := Nat.le_trans (countG_le _ _) (List.length_take_le _ _)

/-- A vote comes. -/
def votedN (n : Node) (m : Msg) : Node := { n with votes := n.votes.set m.frm.toNat true }
def votedS (s : NS) (m : Msg) : NS :=
  if s.n.role ≠ 1 ∨ m.term ≠ s.n.term ∨ m.ok = false then s
  else if s.n.votes.length < 2 * countT (votedN s.n m).votes then leadS ⟨votedN s.n m, s.out⟩ else ⟨votedN s.n m, s.out⟩

/-- One asks for a vote. -/
def voteOk (n : Node) (m : Msg) : Bool :=
  decide (m.term = n.term) && (decide (n.vote = -1) || decide (n.vote = m.frm)) && (decide (termAt n.log n.log.length < m.logTerm) || (decide (m.logTerm = termAt n.log n.log.length) && decide ((n.log.length : Int) ≤ m.index)))
def votedMsg (n : Node) (to : Int) (ok : Bool) : Msg := ⟨2, n.id, to, n.term, 0, 0, ok, [], 0, 0⟩
def voteN (n : Node) (m : Msg) : Node := { n with vote := m.frm, due := n.clock + 5 + 2 * n.id }
def voteS (s : NS) (m : Msg) : NS := if voteOk s.n m = true then ⟨voteN s.n m, s.out ++ [votedMsg s.n m.frm true]⟩ else ⟨s.n, s.out ++ [votedMsg s.n m.frm false]⟩

/-- Entries behind a place. -/
def takeL : List Entry → Nat → List Entry → List Entry
  | log, _, [] => log
  | log, at_, e :: es => if termAt log ((at_ + 1 : Nat) : Int) = e.term ∧ at_ + 1 ≤ log.length then takeL log (at_ + 1) es else takeL (log.take at_ ++ [e]) (at_ + 1) es
theorem takeL_len : ∀ (es : List Entry) (log : List Entry) (k : Nat), k ≤ log.length → k + es.length ≤ (takeL log k es).length ∧ (takeL log k es).length ≤ max log.length (k + es.length)
  | [], log, k, h => by simp only [takeL, List.length_nil]; omega
  | e :: es, log, k, h => by
    unfold takeL
    split
    · rename_i hh
      have := takeL_len es log (k + 1) hh.2
      simp only [List.length_cons]; omega
    · have hl : (log.take k ++ [e]).length = k + 1 := by simp; omega
      have := takeL_len es (log.take k ++ [e]) (k + 1) (by omega)
      simp only [List.length_cons]; omega

/-- Entries come. -/
def matchMsg (n : Node) (to index : Int) (ok : Bool) : Msg := ⟨4, n.id, to, n.term, index, 0, ok, [], 0, n.form⟩
def fits (n : Node) (m : Msg) : Bool := !(decide ((n.log.length : Int) < m.index) || (decide (0 < m.index) && decide (termAt n.log m.index ≠ m.logTerm)))
def appendN0 (n : Node) : Node := { n with role := 0, due := n.clock + 5 + 2 * n.id }
def appendN (n : Node) (m : Msg) : Node :=
  { n with role := 0, due := n.clock + 5 + 2 * n.id, log := takeL n.log (mx m.index 0).toNat m.entries, commit := mx n.commit (mn m.commit (m.index + m.entries.length)) }
def appendS (s : NS) (m : Msg) : NS :=
  if m.term ≠ s.n.term then ⟨s.n, s.out ++ [matchMsg s.n m.frm s.n.log.length false]⟩
  else if fits s.n m = false then ⟨appendN0 s.n, s.out ++ [matchMsg s.n m.frm (mn s.n.log.length (m.index - 1)) false]⟩
  else ⟨appendN s.n m, s.out ++ [matchMsg s.n m.frm (m.index + m.entries.length) true]⟩

/-- As far as a majority has what is of its term. -/
def reachedFrom (n : Node) : Nat → Int
  | 0 => n.commit
  | k + 1 => if ((k + 1 : Nat) : Int) ≤ n.commit then n.commit
    else if termAt n.log ((k + 1 : Nat) : Int) = n.term ∧ n.votes.length < 2 * countG n.mtch ((k + 1 : Nat) : Int) then ((k + 1 : Nat) : Int) else reachedFrom n k
def reachedN (n : Node) : Int := reachedFrom n n.log.length

/-- One tells how far it has what this one has. -/
def matchN0 (n : Node) (m : Msg) : Node := { n with forms := n.forms.set m.frm.toNat m.form }
def matchNo (n : Node) (m : Msg) : Node := { matchN0 n m with nxt := n.nxt.set m.frm.toNat (mx 1 (mn (n.nxt.getD m.frm.toNat 0 - 2) m.index + 1)) }
def matchN1 (n : Node) (m : Msg) : Node := { matchN0 n m with mtch := n.mtch.set m.frm.toNat (mx (n.mtch.getD m.frm.toNat 0) m.index), nxt := n.nxt.set m.frm.toNat (mx (n.mtch.getD m.frm.toNat 0) m.index + 1) }
def matchYes (n : Node) (m : Msg) : Node := { matchN1 n m with commit := reachedN (matchN1 n m) }
def matchS (s : NS) (m : Msg) : NS :=
  if s.n.role ≠ 2 ∨ m.term ≠ s.n.term then s
  else if m.ok = false then ⟨matchNo s.n m, s.out ++ [entriesMsg (matchNo s.n m) m.frm]⟩
  else ⟨matchYes s.n m, s.out⟩

/-- A message comes. -/
def bump (n : Node) (m : Msg) : Node := if n.term < m.term then { n with term := m.term, vote := -1, role := 0 } else n
def handleIn (s : NS) (m : Msg) : NS :=
  if m.kind = 1 then voteS s m else if m.kind = 2 then votedS s m else if m.kind = 3 then appendS s m else if m.kind = 4 then matchS s m else s
@[irreducible] def handleS (n : Node) (m : Msg) : NS :=
  if (0 ≤ m.frm ∧ m.frm < n.votes.length) ∧ (0 ≤ n.id ∧ n.id < n.votes.length) then handleIn ⟨bump n m, []⟩ m else ⟨n, []⟩

/-- Something is proposed. -/
@[irreducible] def proposeS (n : Node) (d : ByteArray) : NS := if n.role = 2 ∧ 0 ≤ n.id ∧ n.id < n.votes.length then putS ⟨n, []⟩ d else ⟨n, []⟩
def restartN (n : Node) (form : Int) : Node :=
  { n with form := mx n.form form, role := 0, commit := 0, clock := 0, due := 5 + 2 * n.id, votes := List.replicate n.votes.length false, nxt := List.replicate n.votes.length 1, mtch := List.replicate n.votes.length 0, forms := List.replicate n.votes.length 1 }
end Fed
namespace Fed
theorem bump_votes (n : Node) (m : Msg) : (bump n m).votes = n.votes := by unfold bump; split <;> rfl
theorem bump_log (n : Node) (m : Msg) : (bump n m).log = n.log := by unfold bump; split <;> rfl
theorem bump_id (n : Node) (m : Msg) : (bump n m).id = n.id := by unfold bump; split <;> rfl
theorem bump_clock (n : Node) (m : Msg) : (bump n m).clock = n.clock := by unfold bump; split <;> rfl
theorem bump_nxt (n : Node) (m : Msg) : (bump n m).nxt = n.nxt := by unfold bump; split <;> rfl
theorem bump_mtch (n : Node) (m : Msg) : (bump n m).mtch = n.mtch := by unfold bump; split <;> rfl
theorem bump_forms (n : Node) (m : Msg) : (bump n m).forms = n.forms := by unfold bump; split <;> rfl
theorem bump_commit (n : Node) (m : Msg) : (bump n m).commit = n.commit := by unfold bump; split <;> rfl
theorem handleIn_out (n : Node) (m : Msg) (hv : n.votes.length ≤ 1000) : (handleIn ⟨n, []⟩ m).out.length ≤ 1000000 := by
  have h1 := spreadMsgs_le (putN (leadN (votedN n m)) ⟨#[]⟩) (leadN (votedN n m)).votes.length
  have h2 : (leadN (votedN n m)).votes.length = n.votes.length := by simp [leadN, votedN]
  unfold handleIn
  split
  · unfold voteS; split <;> simp
  split
  · unfold votedS
    split
    · simp
    · split
      · simp only [leadS, putS, List.nil_append]; omega
      · simp
  split
  · unfold appendS; split
    · simp
    · split <;> simp
  split
  · unfold matchS; split
    · simp
    · split <;> simp
  · simp
end Fed
