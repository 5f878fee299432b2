/-
  size, last, within, majority, term of a node at work answer as the plain functions say.
-/
import Derived.WalkKit
import Derived.WalkSpells
import Derived.Lib.Hide
import Derived.Outline
import Derived.Test.YtnkmljdkokcdjaaChecked
import Derived.Test.YtnkmljdkokcdjaaRg
import Derived.Test.YtnkmljdkokcdjaaMem
import Derived.Test.YtnkmljdkokcdjaaFed

namespace Go.Proofs.Ytnkmljdkokcdjaa
open Go.RowKit Fed
set_option linter.unusedVariables false
attribute [local go_sem high] Fed.max2_int Fed.min2_int

theorem size_any (w : World) (B g : Nat) (s : NS) (μ : NM) (h : NodeAt w B g s μ) :
    Calls Try.prog 97 #[.pointer (some ⟨g, 0, none⟩)] w fun e w' => e = .returned (.int .i64 s.n.votes.length) ∧ w = w' := by
  obtain ⟨A7, k7, e7, u7, _⟩ := h.hv.slice
  have c7 : w.cell? ⟨g, 7, none⟩ = some (.slice A7 s.n.votes.length k7) := h.c 7 _ (by rw [← e7]; rfl)
  have E7 := Lib.hid e7; clear e7
  have H := Lib.hid h; clear h
  go_enter Try.func97, Try.ntmps97
  go_wp2
  go_ret
  exact ⟨rfl, rfl⟩

theorem last_any (w : World) (B g : Nat) (s : NS) (μ : NM) (h : NodeAt w B g s μ) :
    Calls Try.prog 98 #[.pointer (some ⟨g, 0, none⟩)] w fun e w' => e = .returned (.int .i64 s.n.log.length) ∧ w = w' := by
  obtain ⟨A3, k3, e3, u3, _⟩ := h.hl.slice
  have c3 : w.cell? ⟨g, 3, none⟩ = some (.slice A3 s.n.log.length k3) := h.c 3 _ (by rw [← e3]; rfl)
  have E3 := Lib.hid e3; clear e3
  have H := Lib.hid h; clear h
  go_enter Try.func98, Try.ntmps98
  go_wp2
  go_ret
  exact ⟨rfl, rfl⟩

theorem within_any (w : World) (B g : Nat) (s : NS) (μ : NM) (k : Int) (h : NodeAt w B g s μ) :
    Calls Try.prog 60 #[.pointer (some ⟨g, 0, none⟩), .int .i64 k] w fun e w' => e = .returned (.bool (decide (0 ≤ k ∧ k < s.n.votes.length))) ∧ w = w' := by
  have S := Lib.hid (size_any w B g s μ h)
  by_cases h0 : 0 ≤ k
  · go_enter Try.func60, Try.ntmps60
    go_wp2_with (go_at_call 97; refine (S.out).mono ?_; rintro e w' ⟨rfl, rfl⟩)
    go_ret
    exact ⟨by simp [h0], rfl⟩
  · go_enter Try.func60, Try.ntmps60
    go_wp2_with (go_at_call 97; refine (S.out).mono ?_; rintro e w' ⟨rfl, rfl⟩)
    go_ret
    exact ⟨by simp; omega, rfl⟩

theorem majority_any (w : World) (B g : Nat) (s : NS) (μ : NM) (k : Int) (h0 : 0 ≤ k) (h1 : k ≤ 1000000000) (h : NodeAt w B g s μ) :
    Calls Try.prog 106 #[.pointer (some ⟨g, 0, none⟩), .int .i64 k] w fun e w' => e = .returned (.bool (decide ((s.n.votes.length : Int) < 2 * k))) ∧ w = w' := by
  have S := Lib.hid (size_any w B g s μ h)
  go_enter Try.func106, Try.ntmps106
  go_wp2_with (go_at_call 97; refine (S.out).mono ?_; rintro e w' ⟨rfl, rfl⟩)
  go_ret
  exact ⟨rfl, rfl⟩

theorem term_any (w : World) (B g : Nat) (s : NS) (μ : NM) (k : Int) (hk9 : -1000000000 ≤ k) (hk : k ≤ 1000000000) (h : NodeAt w B g s μ) :
    Calls Try.prog 100 #[.pointer (some ⟨g, 0, none⟩), .int .i64 k] w fun e w' => e = .returned (.int .i64 (termAt s.n.log k)) ∧ w = w' := by
  by_cases h1 : 1 ≤ k ∧ k ≤ s.n.log.length
  · obtain ⟨h1, h2⟩ := h1
    obtain ⟨b, hb⟩ := h.hl.some_of (by omega)
    have hl := h.hl
    rw [hb] at hl
    obtain ⟨cap, e3, h3, h4⟩ := hl.form
    have c3 : w.cell? ⟨g, 3, none⟩ = some (.slice (some ⟨b, 0, none⟩) s.n.log.length cap) := h.c 3 _ (by rw [← e3]; rfl)
    have hlt : (k - 1).toNat < s.n.log.length := by omega
    obtain ⟨x, hx⟩ : ∃ x, s.n.log[(k - 1).toNat]? = some x := ⟨_, List.getElem?_eq_getElem hlt⟩
    have ce := hl.cell (entsC_get hx).1
    rw [show (k - 1).toNat = k.toNat - 1 from by omega] at ce
    have ht : x.term = termAt s.n.log k := by unfold termAt; rw [if_pos ⟨h1, h2⟩, hx]; rfl
    have HT := Lib.hid ht
    have H := Lib.hid h
    clear ht h hx e3 hl hb
    have d1 : decide (k < 1) = false := by simp; omega
    have d2 : decide ((s.n.log.length : Int) < k) = false := by simp; omega
    go_enter Try.func100, Try.ntmps100
    go_wp2
    go_ret
    exact ⟨MM.ret_int HT.out, rfl⟩
  · have ht : (0 : Int) = termAt s.n.log k := by unfold termAt; rw [if_neg h1]
    have HT := Lib.hid ht
    clear ht
    obtain ⟨A3, k3, e3, u3, _⟩ := h.hl.slice
    have c3 : w.cell? ⟨g, 3, none⟩ = some (.slice A3 s.n.log.length k3) := h.c 3 _ (by rw [← e3]; rfl)
    have E3 := Lib.hid e3; clear e3
    have H := Lib.hid h
    clear h
    by_cases h2 : k < 1
    · have d1 : decide (k < 1) = true := by simpa using h2
      clear h1
      go_enter Try.func100, Try.ntmps100
      go_wp2
      go_ret
      exact ⟨MM.ret_int HT.out, rfl⟩
    · have d1 : decide (k < 1) = false := by simpa using h2
      have h3 : (s.n.log.length : Int) < k := by omega
      clear h1 h2
      go_enter Try.func100, Try.ntmps100
      go_wp2
      go_ret
      exact ⟨MM.ret_int HT.out, rfl⟩

end Go.Proofs.Ytnkmljdkokcdjaa
