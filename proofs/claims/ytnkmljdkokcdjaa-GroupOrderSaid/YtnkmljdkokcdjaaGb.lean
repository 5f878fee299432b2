/-
  The group's up, Up, Flight, Crash answer as the plain functions. Condition: a group lies there.
-/
import Derived.WalkKit
import Derived.WalkSpells
import Derived.Lib.Hide
import Derived.Outline
import Derived.Test.YtnkmljdkokcdjaaChecked
import Derived.Test.YtnkmljdkokcdjaaMn
import Derived.Test.YtnkmljdkokcdjaaMem
import Derived.Test.YtnkmljdkokcdjaaFed
import Derived.Test.YtnkmljdkokcdjaaGm
import Derived.Deep.DeepCutAuto
import Derived.Deep.CutBlock
import Derived.Deep.OwnRows
import Derived.IntWalk
set_option linter.unusedVariables false
set_option linter.unusedSimpArgs false
namespace Go.Proofs.Ytnkmljdkokcdjaa
open Go.RowKit Fed
set_option linter.unusedVariables false
attribute [local go_sem high] Fed.max2_int Fed.min2_int

theorem isUp_some {s : GS} {id : Int} (h : s.isUp id = true) : ∃ i : Nat, id = i ∧ i < s.ns.length ∧ s.us.getD i false = true := by
  unfold GS.isUp at h
  simp only [Bool.and_eq_true, decide_eq_true_eq] at h
  obtain ⟨i, rfl⟩ := Int.eq_ofNat_of_zero_le h.1.1
  exact ⟨i, rfl, by omega, by simpa using h.2⟩
/-- What 'up' answers. -/
def UpSays (s : GS) (μ : GM) (id : Int) (e : Ending) : Prop := (∃ i pb : Nat, s.isUp id = true ∧ id = (i : Int) ∧ i < s.ns.length ∧ μ.p = some pb ∧ e = .returned (.pointer (some ⟨pb, i * 14, none⟩))) ∨ (s.isUp id = false ∧ e = .returned (.pointer none))
set_option maxRecDepth 100000 in
set_option maxHeartbeats 40000000 in
theorem gup_any (w : World) (B g : Nat) (s : GS) (μ : GM) (ok : Nat → Prop) (h : GroupAt w B g s μ ok) (id : Int) (hl : s.ns.length ≤ 1000) :
    Calls Try.prog 77 #[.pointer (some ⟨g, 0, none⟩), .int .i64 id] w fun e w' => UpSays s μ id e ∧ w = w' := by
  have c0 := h.c0
  by_cases h0 : id < 0
  · have h0b : decide (id < 0) = true := decide_eq_true h0
    have hu : s.isUp id = false := by unfold GS.isUp; rw [decide_eq_false (by omega)]; rfl
    clear h
    go_enter Try.func77, Try.ntmps77
    go_wp2
    go_ret
    exact ⟨.inr ⟨hu, rfl⟩, rfl⟩
  have h0b : decide (id < 0) = false := decide_eq_false h0
  obtain ⟨i, rfl⟩ := Int.eq_ofNat_of_zero_le (show 0 ≤ id by omega)
  by_cases h1 : i < s.ns.length
  · have h1b : decide ((s.ns.length : Int) ≤ (i : Int)) = false := decide_eq_false (by omega)
    obtain ⟨pb, hp, ea, hc1, hc2, hf, σ, v, hc⟩ := h.place h1
    have c13 : w.cell? ⟨pb, i * 14 + 13, none⟩ = some (.bool (s.us.getD i false)) := hc 13 _ rfl
    have hu : s.isUp (i : Int) = s.us.getD i false := by
      unfold GS.isUp
      rw [decide_eq_true (show (0 : Int) ≤ (i : Int) by omega), decide_eq_true (show (i : Int) < (s.ns.length : Int) by omega), Int.toNat_natCast]; rfl
    rw [ea] at c0
    clear h hc hf v
    generalize s.us.getD i false = u at c13 hu
    have HU := Lib.hid hu
    clear hu
    have HP := Lib.hid hp
    clear hp ea
    cases u
    · go_enter Try.func77, Try.ntmps77
      go_wp2
      go_ret
      exact ⟨.inr ⟨HU.out, rfl⟩, rfl⟩
    · go_enter Try.func77, Try.ntmps77
      go_wp2
      go_ret
      exact ⟨.inl ⟨i, pb, HU.out, rfl, h1, HP.out, rfl⟩, rfl⟩
  · have h1b : decide ((s.ns.length : Int) ≤ (i : Int)) = true := decide_eq_true (by omega)
    have hu : s.isUp i = false := by unfold GS.isUp; rw [decide_eq_false (show ¬ (i : Int) < (s.ns.length : Int) by omega), Bool.and_false]; rfl
    clear h
    go_enter Try.func77, Try.ntmps77
    go_wp2
    go_ret
    exact ⟨.inr ⟨hu, rfl⟩, rfl⟩
set_option maxRecDepth 100000 in
set_option maxHeartbeats 40000000 in
theorem gUp_any (w : World) (B g : Nat) (s : GS) (μ : GM) (ok : Nat → Prop) (h : GroupAt w B g s μ ok) (id : Int) (hl : s.ns.length ≤ 1000) :
    Calls Try.prog 40 #[.pointer (some ⟨g, 0, none⟩), .int .i64 id] w fun e w' => e = .returned (.bool (s.isUp id)) ∧ w = w' := by
  have HU := Lib.hid (gup_any w B g s μ ok h id hl)
  clear h
  go_enter Try.func40, Try.ntmps40
  go_wp2_with fail
  refine HU.out.mono ?_
  rintro e w' ⟨⟨i, pb, h1, h2, h3, h4, rfl⟩ | ⟨h1, rfl⟩, rfl⟩
  · have H1 := Lib.hid h1
    clear h4 h2 h1
    go_wp2
    go_ret
    exact ⟨MM.ret_bool H1.out.symm, rfl⟩
  · have H1 := Lib.hid h1
    clear h1
    go_wp2
    go_ret
    exact ⟨MM.ret_bool H1.out.symm, rfl⟩
set_option maxRecDepth 100000 in
set_option maxHeartbeats 40000000 in
theorem gFlight_any (w : World) (B g : Nat) (s : GS) (μ : GM) (ok : Nat → Prop) (h : GroupAt w B g s μ ok) :
    Calls Try.prog 47 #[.pointer (some ⟨g, 0, none⟩)] w fun e w' => e = .returned (.int .i64 s.f.length) ∧ w = w' := by
  have c1 := h.c1
  clear h
  go_enter Try.func47, Try.ntmps47
  go_wp2
  go_ret
  exact ⟨rfl, rfl⟩
/-- A node falls, or is up again. -/
theorem GroupAt.setUp {w : World} {B g : Nat} {s : GS} {μ : GM} {ok : Nat → Prop} (h : GroupAt w B g s μ ok) {i pb : Nat} (hi : i < s.ns.length) (hp : μ.p = some pb) (u : Bool) :
    GroupAt (w.setCell ⟨pb, i * 14 + 13, none⟩ (.bool u)) B g ⟨s.ns, s.us.set i u, s.f⟩ μ ok ∧ GStep w (w.setCell ⟨pb, i * 14 + 13, none⟩ (.bool u)) B g μ μ ok ok := by
  have tp := h.typ pb hp
  have far : ∀ k, k ≠ pb → (w.setCell ⟨pb, i * 14 + 13, none⟩ (.bool u)).heap[k]? = w.heap[k]? := fun k hk => Below.heap_setCell w _ _ k hk
  have okp : ∀ k, ok k → k ≠ pb := fun k hk e => h.no k hk (.inr (.inl (by rw [hp, e])))
  have fbp : ∀ k, μ.fb = some k → k ≠ pb := fun k hk => ty_ne (h.tyf k hk) tp (by decide)
  obtain ⟨cs, p1, p2⟩ := h.pl
  obtain ⟨ds, f1, f2⟩ := h.fl
  have hlp := (h.ltp pb hp).2
  refine ⟨⟨h.hB, (far g (ty_ne h.tyg tp (by decide))).trans h.blk, by simp [h.ul], ⟨cs.set (i * 14 + 13) (.bool u), ?_, fun j n v hn hv => ?_⟩, ⟨ds, f1.step fun k hk _ => far k (fbp k hk), f2.step fun k hk _ => far k (okp k hk)⟩, h.no, fun k hk => by have := h.okl k hk; simpa [World.setCell] using this⟩, ⟨(Below.refl B w).setCell (h.ltp pb hp).1 _, fun k hk hn => far k (fun e => hn (.inr (.inl (by rw [hp, e])))), fun _ q => .inl q, fun _ q => .inl q⟩⟩
  · rw [hp] at p1 ⊢
    obtain ⟨h0, cap, cur, h1, h2, h3, h4, h5, h6, h7⟩ := p1
    refine ⟨by rw [List.length_set]; exact h0, cap, cur.setIfInBounds (i * 14 + 13) (.bool u), h1, h2, ?_, h4, h5, by simp [h6], ?_⟩
    · simp [World.setCell, Array.getElem?_modify, h3]
    · rw [Array.toList_setIfInBounds, ← h7, List.take_set]
  · have hl0 := p1.len
    have hv' : (s.us.set i u)[j]? = some v := hv
    rw [List.getElem?_set] at hv'
    have hjl : j < s.ns.length := (List.getElem?_eq_some_iff.1 hn).1
    by_cases e : i = j
    · subst e
      rw [if_pos rfl, if_pos (by rw [h.ul]; exact hi)] at hv'
      injection hv' with hv'
      subst hv'
      obtain ⟨σ, q, hc⟩ := p2 i n (s.us.getD i false) hn (by rw [List.getD_eq_getElem?_getD, List.getElem?_eq_getElem (by rw [h.ul]; exact hi)]; rfl)
      refine ⟨σ, q.step fun k hk _ => far k (okp k hk), fun m x hx => ?_⟩
      have hm := (List.getElem?_eq_some_iff.1 hx).1
      rw [placeL_len] at hm
      rw [List.getElem?_set]
      by_cases e13 : m = 13
      · subst e13
        rw [if_pos rfl, if_pos (by omega)]
        exact hx
      · rw [if_neg (by omega)]
        refine hc m x ?_
        have : m < (nodeL n σ).length := by rw [nodeL_len]; omega
        unfold placeL at hx ⊢
        rw [List.getElem?_append_left this] at hx ⊢
        exact hx
    · rw [if_neg e] at hv'
      obtain ⟨σ, q, hc⟩ := p2 j n v hn hv'
      refine ⟨σ, q.step fun k hk _ => far k (okp k hk), fun m x hx => ?_⟩
      have hm := (List.getElem?_eq_some_iff.1 hx).1
      rw [placeL_len] at hm
      rw [List.getElem?_set, if_neg (by omega)]
      exact hc m x hx
set_option maxRecDepth 100000 in
set_option maxHeartbeats 40000000 in
theorem gCrash_any (w : World) (B g : Nat) (s : GS) (μ : GM) (ok : Nat → Prop) (h : GroupAt w B g s μ ok) (id : Int) (hl : s.ns.length ≤ 1000) :
    Calls Try.prog 37 #[.pointer (some ⟨g, 0, none⟩), .int .i64 id] w fun e w' => e = .returned (.bool (s.isUp id)) ∧ GroupAt w' B g (s.crash id) μ ok ∧ GStep w w' B g μ μ ok ok := by
  have HU := Lib.hid (gup_any w B g s μ ok h id hl)
  have H := Lib.hid h
  clear h
  go_enter Try.func37, Try.ntmps37
  go_wp2_with fail
  refine HU.out.mono ?_
  rintro e w' ⟨⟨i, pb, h1, rfl, h3, h4, rfl⟩ | ⟨h1, rfl⟩, rfl⟩
  · have HS := Lib.hid (H.out.setUp h3 h4 false)
    have hfz : w.frozen? ⟨pb, i * 14 + 13, none⟩ = false := by
      obtain ⟨pb', hp', _, _, _, hf, _⟩ := H.out.place h3
      rw [h4] at hp'
      injection hp' with hp'
      rw [hp']
      exact hf _
    have hcc : ∃ u, w.cell? ⟨pb, i * 14 + 13, none⟩ = some u := by
      obtain ⟨pb', hp', _, _, _, hf, σ, _, hc⟩ := H.out.place h3
      rw [h4] at hp'
      injection hp' with hp'
      rw [hp']
      exact ⟨_, hc 13 _ rfl⟩
    obtain ⟨u, hcc⟩ := hcc
    have H1 := Lib.hid h1
    have e : s.crash (i : Int) = ⟨s.ns, s.us.set i false, s.f⟩ := by unfold GS.crash; rw [if_pos h1]; rfl
    rw [← e] at HS
    clear h1 h4 e
    go_wp2
    go_ret
    exact ⟨MM.ret_bool H1.out.symm, HS.out⟩
  · have e : s.crash id = s := by unfold GS.crash; rw [h1]; rfl
    rw [← e] at H
    have H1 := Lib.hid h1
    clear h1 e
    go_wp2
    go_ret
    exact ⟨MM.ret_bool H1.out.symm, H.out, GStep.refl _ _ _ _ _⟩

end Go.Proofs.Ytnkmljdkokcdjaa
