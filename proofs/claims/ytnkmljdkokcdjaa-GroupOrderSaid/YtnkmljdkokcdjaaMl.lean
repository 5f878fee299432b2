/-
  Where a node's rows lie; the document's Entries of the same rows; entries behind a place.
-/
import Derived.Test.YtnkmljdkokcdjaaFed
import Derived.WalkKit
import Derived.WalkSpells
import Derived.Lib.Hide
import Derived.Outline
import Derived.Test.YtnkmljdkokcdjaaChecked
import Derived.Test.YtnkmljdkokcdjaaMn
import Derived.Test.YtnkmljdkokcdjaaMem
import Derived.Test.YtnkmljdkokcdjaaRe0
set_option linter.unusedVariables false
set_option linter.unusedSimpArgs false
namespace Go.Proofs.Ytnkmljdkokcdjaa
open Go Go.RowKit Fed
set_option linter.unusedVariables false

/-- Where a node's rows lie. -/
structure Sl5 where
  A3 : Option Addr
  k3 : Nat
  A7 : Option Addr
  k7 : Nat
  A8 : Option Addr
  k8 : Nat
  A9 : Option Addr
  k9 : Nat
  A10 : Option Addr
  k10 : Nat
abbrev NodeVs (w : World) (ok : Nat → Prop) (n : Fed.Node) (σ : Sl5) : Prop := NodeV w ok n (.slice σ.A3 n.log.length σ.k3) (.slice σ.A7 n.votes.length σ.k7) (.slice σ.A8 n.nxt.length σ.k8) (.slice σ.A9 n.mtch.length σ.k9) (.slice σ.A10 n.forms.length σ.k10)
theorem alloc_new2 (w : World) (o p q : Obj) : (((w.alloc o).alloc p).alloc q).heap[w.heap.size + 2]? = some q := by
  have := MM.alloc_new ((w.alloc o).alloc p) q
  simpa using this
theorem alloc_mid (w : World) (o p q : Obj) : (((w.alloc o).alloc p).alloc q).heap[w.heap.size + 1]? = some p := by
  have h1 := MM.alloc_new1 w o p
  have h2 : w.heap.size + 1 < ((w.alloc o).alloc p).heap.size := by simp
  exact (Below.heap_alloc _ q _ h2).trans h1
theorem far3 {w : World} {b k i j l : Nat} {u v x : Value} (h : k ≠ b) : (((w.setCell ⟨b, i, none⟩ u).setCell ⟨b, j, none⟩ v).setCell ⟨b, l, none⟩ x).heap[k]? = w.heap[k]? :=
  (Below.heap_setCell _ _ _ k h).trans ((Below.heap_setCell _ _ _ k h).trans (Below.heap_setCell _ _ _ k h))
end Go.Proofs.Ytnkmljdkokcdjaa
namespace Go.Proofs.Ytnkmljdkokcdjaa
open Go.RowKit Fed
set_option linter.unusedVariables false
attribute [local go_sem high] Fed.max2_int Fed.min2_int

set_option maxRecDepth 100000 in
set_option maxHeartbeats 4000000 in
/-- Two rows of the same entries are the same. -/
theorem rents_same (w : World) (ok1 ok2 : Nat → Prop) (A1 A2 : Option Addr) (c1 c2 : Nat) (l : List Fed.Entry) (h1 : MM.Rd w ok1 2 (.slice A1 l.length c1) l.length (entsC l)) (h2 : MM.Rd w ok2 2 (.slice A2 l.length c2) l.length (entsC l)) :
    Calls Try.prog 28 #[.slice A1 l.length c1, .slice A2 l.length c2] w fun e w' => e = .returned (.bool true) ∧ Below w.heap.size w w' := by
  have H1 := Lib.hid h1
  have H2 := Lib.hid h2
  have hlm : l.length ≤ maxLen := by obtain ⟨_, _, _, _, q1, q2, _⟩ := h1; omega
  unfold maxLen at hlm
  clear h1 h2
  go_enter Try.func28, Try.ntmps28
  have hbq : ((l.length : Int) != (l.length : Int)) = false := by simp
  go_wp2_with fail
  go_loopw [5] (fun t5 wr => ∃ i : Nat, i ≤ l.length ∧ t5 = .int .i64 i ∧ Hid (Below w.heap.size w wr)) (fun t5 _ => l.length - (intOf t5).toNat)
  case atStart => exact ⟨0, by omega, rfl, Lib.hid (Below.refl _ _)⟩
  case round =>
    obtain ⟨i, hi, rfl, HB⟩ := hrel
    by_cases hlt : i < l.length
    · have hltb : decide ((i : Int) < (l.length : Int)) = true := decide_eq_true (by omega)
      obtain ⟨x, hx⟩ : ∃ x, l[i]? = some x := ⟨_, List.getElem?_eq_getElem hlt⟩
      obtain ⟨_, A1', c1', ea, _, _, r1⟩ := H1.out.mono (ok' := fun _ => True) (fun _ _ _ => trivial) |>.below (w1 := wr) HB.out
      injection ea with ea1 _ ea2
      subst ea1 ea2
      obtain ⟨b1, o1, rfl, _, _, g1⟩ := r1 (by omega)
      obtain ⟨_, A2', c2', ea, _, _, r2⟩ := H2.out.mono (ok' := fun _ => True) (fun _ _ _ => trivial) |>.below (w1 := wr) HB.out
      injection ea with ea1 _ ea2
      subst ea1 ea2
      obtain ⟨b2, o2, rfl, _, _, g2⟩ := r2 (by omega)
      have x1 : wr.cell? ⟨b1, o1 + i * 2, none⟩ = some (.int .i64 x.term) := g1 _ _ (entsC_get hx).1
      have x2 : wr.cell? ⟨b1, o1 + i * 2 + 1, none⟩ = some (.string x.data) := g1 _ _ (entsC_get hx).2
      have y1 : wr.cell? ⟨b2, o2 + i * 2, none⟩ = some (.int .i64 x.term) := g2 _ _ (entsC_get hx).1
      have y2 : wr.cell? ⟨b2, o2 + i * 2 + 1, none⟩ = some (.string x.data) := g2 _ _ (entsC_get hx).2
      clear g1 g2 r1 r2 hx
      go_wp2_with fail
      refine Go.RT.wp_region_tree [0, 0, 3, 7, 0, 0, 48, 112, 255] (.p 0 (.p 1 (.p 2 (.s 3 (.p 4 (.p 5 (.p 6 (.s 7 (.p 8 .nil))))))))) (by kernel_rfl) (by kernel_rfl) ?_
      repeat (first | (refine Go.RT.step_p rfl (fun K hK => ?_); go_simp; refine hK _ ?_; clear hK K) | (refine Go.RT.step_s rfl (fun K hK => ?_); go_simp; refine hK _ ?_; clear hK K))
      refine Go.RT.step_nil ?_
      go_wp2_with fail
      go_roundw
      case rel => exact ⟨i + 1, by omega, by go_num, Lib.hid HB.out.drew⟩
      case measure => simp [intOf]; omega
    · obtain rfl : i = l.length := by omega
      have hltb : decide ((l.length : Int) < (l.length : Int)) = false := by simp
      go_wp2_with fail
      go_ret
      exact ⟨rfl, HB.out⟩

end Go.Proofs.Ytnkmljdkokcdjaa
namespace Go.Proofs.Ytnkmljdkokcdjaa
open Go Go.RowKit Fed
set_option linter.unusedVariables false

theorem termAt_get {l : List Fed.Entry} {i : Nat} {e : Fed.Entry} (h : l[i]? = some e) : termAt l ((i + 1 : Nat) : Int) = e.term := by
  have hl : i < l.length := (List.getElem?_eq_some_iff.1 h).1
  unfold termAt
  rw [if_pos ⟨by omega, by omega⟩, show ((((i + 1 : Nat) : Int)) - 1).toNat = i from by omega, h]
  rfl
/-- Where entries e stand in a log from k on: each is there, by its term. -/
def fitsAt (l : List Fed.Entry) (k : Nat) : List Fed.Entry → Bool
  | [] => true
  | e :: es => decide (k < l.length) && decide (termAt l ((k + 1 : Nat) : Int) = e.term) && fitsAt l (k + 1) es
theorem takeL_past : ∀ (es l : List Fed.Entry) (k : Nat), l.length = k → takeL l k es = l ++ es
  | [], l, k, _ => by simp [takeL]
  | e :: es, l, k, h => by
    unfold takeL
    rw [if_neg (by omega), List.take_of_length_le (by omega), takeL_past es (l ++ [e]) (k + 1) (by simp; omega)]
    simp
theorem takeL_eq : ∀ (es l : List Fed.Entry) (k : Nat), k ≤ l.length → (takeL l k es).take k = l.take k ∧ (takeL l k es).length = (if fitsAt l k es then l.length else k + es.length) ∧ (∀ j e, es[j]? = some e → ∃ x, (takeL l k es)[k + j]? = some x ∧ x.term = e.term)
  | [], l, k, h => by simp [takeL, fitsAt]
  | e :: es, l, k, h => by
    unfold takeL
    by_cases hc : termAt l ((k + 1 : Nat) : Int) = e.term ∧ k + 1 ≤ l.length
    · rw [if_pos hc]
      obtain ⟨h1, h2, h3⟩ := takeL_eq es l (k + 1) hc.2
      refine ⟨?_, ?_, ?_⟩
      · have := congrArg (List.take k) h1
        simpa [List.take_take, show min k (k + 1) = k from by omega] using this
      · have hf : fitsAt l k (e :: es) = fitsAt l (k + 1) es := by
          simp only [fitsAt]
          rw [decide_eq_true (show k < l.length from by omega), decide_eq_true hc.1]
          simp
        rw [h2, hf]
        simp only [List.length_cons]
        split <;> omega
      · intro j x hj
        cases j with
        | zero =>
          simp at hj
          subst hj
          have hk : k < l.length := by omega
          have h4 := congrArg (fun l => l[k]?) h1
          simp only [List.getElem?_take, show k < k + 1 from by omega, if_true] at h4
          show ∃ x, (takeL l (k + 1) es)[k]? = some x ∧ _
          rw [h4]
          exact ⟨_, List.getElem?_eq_getElem hk, by rw [← hc.1, termAt_get (List.getElem?_eq_getElem hk)]⟩
        | succ j =>
          have := h3 j x (by simpa using hj)
          rwa [show k + (j + 1) = k + 1 + j from by omega]
    · rw [if_neg hc]
      have hl : (l.take k ++ [e]).length = k + 1 := by simp; omega
      rw [takeL_past es (l.take k ++ [e]) (k + 1) hl]
      refine ⟨?_, ?_, ?_⟩
      · rw [List.append_assoc, List.take_append_of_le_length (by simp; omega), List.take_take, Nat.min_self]
      · have hf : fitsAt l k (e :: es) = false := by
          simp only [fitsAt]
          by_cases h1 : k < l.length
          · rw [decide_eq_false (show ¬ termAt l ((k + 1 : Nat) : Int) = e.term from fun h2 => hc ⟨h2, by omega⟩)]
            simp
          · rw [decide_eq_false h1]
            simp
        rw [hf]
        simp
        omega
      · intro j x hj
        have e1 : l.take k ++ [e] ++ es = l.take k ++ (e :: es) := by simp
        rw [e1, List.getElem?_append_right (by simp; omega)]
        simp only [List.length_take, show min k l.length = k from by omega]
        rw [show k + j - k = j from by omega]
        exact ⟨x, hj, rfl⟩
theorem fitsAt_snoc (l : List Fed.Entry) : ∀ (es : List Fed.Entry) (k : Nat) (e : Fed.Entry), fitsAt l k (es ++ [e]) = (fitsAt l k es && decide (k + es.length < l.length) && decide (termAt l ((k + es.length + 1 : Nat) : Int) = e.term))
  | [], k, e => by simp [fitsAt]
  | x :: es, k, e => by
    simp only [List.cons_append, fitsAt]
    rw [fitsAt_snoc l es (k + 1) e]
    simp only [List.length_cons, Bool.and_assoc]
    rw [show k + 1 + es.length = k + (es.length + 1) from by omega]
theorem fitsAt_take_succ {l es : List Fed.Entry} {k j : Nat} {e : Fed.Entry} (h : es[j]? = some e) : fitsAt l k (es.take (j + 1)) = (fitsAt l k (es.take j) && decide (k + j < l.length) && decide (termAt l ((k + j + 1 : Nat) : Int) = e.term)) := by
  have hj : j < es.length := (List.getElem?_eq_some_iff.1 h).1
  rw [List.take_add_one, h, Option.toList_some, fitsAt_snoc, List.length_take, show min j es.length = j from by omega]

/-- The law's message. -/
def cmsg (T : Int) (k : Nat) (lt : Int) (E : List Fed.Entry) : Fed.Msg := ⟨3, 0, 1, T + 1, k, lt, false, E, 0, 0⟩
def cnode (T : Int) (L : List Fed.Entry) : Fed.Node := { id := 1, term := T, vote := -1, log := L, form := 1, role := 0, commit := 0, votes := [false, false, false], nxt := [1, 1, 1], mtch := [0, 0, 0], forms := [1, 1, 1], clock := 0, due := 7 }
theorem cnode_nb (T : Int) (L : List Fed.Entry) : ∀ i, i < (cnode T L).nxt.length → -1000000 ≤ (cnode T L).nxt.getD i 0 ∧ (cnode T L).nxt.getD i 0 ≤ 1000000 := by
  have : ∀ i : Nat, i < 3 → -1000000 ≤ ([1, 1, 1] : List Int).getD i 0 ∧ ([1, 1, 1] : List Int).getD i 0 ≤ 1000000 := by
    intro i hi
    rcases (show i = 0 ∨ i = 1 ∨ i = 2 by omega) with rfl | rfl | rfl <;> exact ⟨by decide, by decide⟩
  exact this
theorem cnode_mb (T : Int) (L : List Fed.Entry) : ∀ i, i < (cnode T L).mtch.length → -1000000 ≤ (cnode T L).mtch.getD i 0 ∧ (cnode T L).mtch.getD i 0 ≤ 1000000 := by
  have : ∀ i : Nat, i < 3 → -1000000 ≤ ([0, 0, 0] : List Int).getD i 0 ∧ ([0, 0, 0] : List Int).getD i 0 ≤ 1000000 := by
    intro i hi
    rcases (show i = 0 ∨ i = 1 ∨ i = 2 by omega) with rfl | rfl | rfl <;> exact ⟨by decide, by decide⟩
  exact this
theorem cuts_step {T : Int} {L E : List Fed.Entry} {k : Nat} {lt : Int} (hk : k ≤ L.length) (hlt : 0 < k → termAt L k = lt) :
    (handleS (cnode T L) (cmsg T k lt E)).n.log = takeL L k E ∧ (handleS (cnode T L) (cmsg T k lt E)).out = [⟨4, 1, 0, T + 1, (k : Int) + E.length, 0, true, [], 0, 1⟩] := by
  have e0 : handleS (cnode T L) (cmsg T k lt E) = appendS ⟨bump (cnode T L) (cmsg T k lt E), []⟩ (cmsg T k lt E) := by
    unfold handleS
    have hv : (cnode T L).votes.length = 3 := by simp [cnode]
    rw [if_pos ⟨⟨by show (0 : Int) ≤ 0; omega, by rw [hv]; show (0 : Int) < 3; omega⟩, by simp [cnode], by rw [hv]; simp [cnode]⟩]
    rfl
  have e1 : bump (cnode T L) (cmsg T k lt E) = { cnode T L with term := T + 1, vote := -1, role := 0 } := by
    unfold bump
    rw [if_pos (by show T < T + 1; omega)]
    rfl
  rw [e0, e1]
  unfold appendS
  rw [if_neg (by show ¬ (T + 1 ≠ T + 1); simp)]
  have hf : fits { cnode T L with term := T + 1, vote := -1, role := 0 } (cmsg T k lt E) = true := by
    unfold fits
    show (!(decide ((L.length : Int) < k) || (decide (0 < (k : Int)) && decide (termAt L k ≠ lt)))) = true
    rw [decide_eq_false (show ¬ (L.length : Int) < k from by omega)]
    by_cases hp : 0 < k
    · have := hlt hp
      simp [this]
    · rw [decide_eq_false (show ¬ (0 : Int) < (k : Int) from by omega)]
      rfl
  rw [hf, if_neg (by decide)]
  have hm : mx (k : Int) 0 = k := by unfold mx; omega
  constructor
  · show takeL L (mx (k : Int) 0).toNat E = _
    rw [hm]; rfl
  · show [] ++ [matchMsg _ _ _ _] = _
    simp [matchMsg, cnode, cmsg]
end Go.Proofs.Ytnkmljdkokcdjaa
