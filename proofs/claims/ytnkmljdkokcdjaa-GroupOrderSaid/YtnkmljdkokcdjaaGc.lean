/-
  The queue's at and put answer as the plain functions. Condition: a group lies there.
-/
import Derived.WalkKit
import Derived.WalkSpells
import Derived.Lib.Hide
import Derived.Outline
import Derived.Test.YtnkmljdkokcdjaaChecked
import Derived.Test.YtnkmljdkokcdjaaMn
import Derived.Test.YtnkmljdkokcdjaaMem
import Derived.Test.YtnkmljdkokcdjaaFed
import Derived.Test.YtnkmljdkokcdjaaGm
import Derived.Deep.DeepCutAuto
import Derived.Deep.CutBlock
import Derived.Deep.OwnRows
import Derived.IntWalk
set_option linter.unusedVariables false
set_option linter.unusedSimpArgs false
namespace Go.Proofs.Ytnkmljdkokcdjaa
open Go.RowKit Fed
set_option linter.unusedVariables false
attribute [local go_sem high] Fed.max2_int Fed.min2_int

theorem has_some {s : GS} {a : Int} (h : s.has a = true) : ∃ i : Nat, a = i ∧ i < s.f.length := by
  unfold GS.has at h
  simp only [Bool.and_eq_true, decide_eq_true_eq] at h
  obtain ⟨i, rfl⟩ := Int.eq_ofNat_of_zero_le h.1
  exact ⟨i, rfl, by omega⟩
theorem has_of {s : GS} {i : Nat} (h : i < s.f.length) : s.has (i : Int) = true := by
  unfold GS.has
  rw [decide_eq_true (show (0 : Int) ≤ (i : Int) by omega), decide_eq_true (show (i : Int) < (s.f.length : Int) by omega)]; rfl
/-- What 'at' answers. -/
def AtSays (w : World) (ok : Nat → Prop) (s : GS) (a : Int) (e : Ending) : Prop :=
  (s.has a = true ∧ ∃ A c, e = .returned (.tuple #[.agg #[.int .i64 (s.msg a).kind, .int .i64 (s.msg a).frm, .int .i64 (s.msg a).to, .int .i64 (s.msg a).term, .int .i64 (s.msg a).index, .int .i64 (s.msg a).logTerm, .bool (s.msg a).ok, .slice A (s.msg a).entries.length c, .int .i64 (s.msg a).commit, .int .i64 (s.msg a).form], .bool true]) ∧ MM.Rd w ok 2 (.slice A (s.msg a).entries.length c) (s.msg a).entries.length (entsC (s.msg a).entries)) ∨ (s.has a = false ∧ e = .returned (.tuple #[.agg #[.int .i64 0, .int .i64 0, .int .i64 0, .int .i64 0, .int .i64 0, .int .i64 0, .bool false, .slice none 0 0, .int .i64 0, .int .i64 0], .bool false]))
set_option maxRecDepth 100000 in
set_option maxHeartbeats 40000000 in
theorem gat_any (w : World) (B g : Nat) (s : GS) (μ : GM) (ok : Nat → Prop) (h : GroupAt w B g s μ ok) (a : Int) (hl : s.f.length ≤ 1000000) :
    Calls Try.prog 82 #[.pointer (some ⟨g, 1, none⟩), .int .i64 a] w fun e w' => AtSays w' ok s a e ∧ Below w.heap.size w w' := by
  have c1 := h.c1
  have hg1 := h.lt
  by_cases h0 : a < 0
  · have h0b : decide (a < 0) = true := decide_eq_true h0
    have HU := Lib.hid (show s.has a = false from by unfold GS.has; rw [decide_eq_false (show ¬ 0 ≤ a by omega)]; rfl)
    have HG := Lib.hid h
    clear h h0
    go_enter Try.func82, Try.ntmps82
    go_wp2_with fail
    refine name_world (F := fun W => Hid (W.heap[w.heap.size]? = some (.cells #[.int .i64 0, .int .i64 0, .int .i64 0, .int .i64 0, .int .i64 0, .int .i64 0, .bool false, .slice none 0 0, .int .i64 0, .int .i64 0] 34 (0, 0))) ∧ Hid (Below w.heap.size w W)) _ (by exact ⟨Lib.hid (MM.alloc_new _ _), Lib.hid ((Below.refl _ w).alloc (Nat.le_refl _) _)⟩) ?_
    intro wz ⟨Z, HB⟩
    obtain ⟨u0, u1, u2, u3, u4, u5, u6, u7, u8, u9⟩ := MM.cells10 Z.out
    refine bodyPost_ret (v := .tuple #[.agg #[.int .i64 0, .int .i64 0, .int .i64 0, .int .i64 0, .int .i64 0, .int .i64 0, .bool false, .slice none 0 0, .int .i64 0, .int .i64 0], .bool false]) (by simp [results, Try.results82, go_sem, u0, u1, u2, u3, u4, u5, u6, u7, u8, u9]) rfl ?_
    exact ⟨.inr ⟨HU.out, rfl⟩, HB.out⟩
  have h0b : decide (a < 0) = false := decide_eq_false h0
  obtain ⟨i, rfl⟩ := Int.eq_ofNat_of_zero_le (show 0 ≤ a by omega)
  by_cases h1 : i < s.f.length
  · have h1b : decide ((s.f.length : Int) ≤ (i : Int)) = false := decide_eq_false (by omega)
    obtain ⟨fb, hp, ea, hc1, hc2, hf, A, c, hr, hc⟩ := h.fly h1
    have HU := Lib.hid (has_of h1)
    rw [ea] at c1
    have HG := Lib.hid h
    have HR := Lib.hid hr
    have HP := Lib.hid hp
    have hfb := (h.ltf fb hp).2
    have x0 : w.cell? ⟨fb, i * 10, none⟩ = some (.int .i64 (s.msg (i : Int)).kind) := hc 0 _ rfl
    have x1 : w.cell? ⟨fb, i * 10 + 1, none⟩ = some (.int .i64 (s.msg (i : Int)).frm) := hc 1 _ rfl
    have x2 : w.cell? ⟨fb, i * 10 + 2, none⟩ = some (.int .i64 (s.msg (i : Int)).to) := hc 2 _ rfl
    have x3 : w.cell? ⟨fb, i * 10 + 3, none⟩ = some (.int .i64 (s.msg (i : Int)).term) := hc 3 _ rfl
    have x4 : w.cell? ⟨fb, i * 10 + 4, none⟩ = some (.int .i64 (s.msg (i : Int)).index) := hc 4 _ rfl
    have x5 : w.cell? ⟨fb, i * 10 + 5, none⟩ = some (.int .i64 (s.msg (i : Int)).logTerm) := hc 5 _ rfl
    have x6 : w.cell? ⟨fb, i * 10 + 6, none⟩ = some (.bool (s.msg (i : Int)).ok) := hc 6 _ rfl
    have x7 : w.cell? ⟨fb, i * 10 + 7, none⟩ = some (.slice A (s.msg (i : Int)).entries.length c) := hc 7 _ rfl
    have x8 : w.cell? ⟨fb, i * 10 + 8, none⟩ = some (.int .i64 (s.msg (i : Int)).commit) := hc 8 _ rfl
    have x9 : w.cell? ⟨fb, i * 10 + 9, none⟩ = some (.int .i64 (s.msg (i : Int)).form) := hc 9 _ rfl
    clear h hr hp ea hf hc
    go_enter Try.func82, Try.ntmps82
    go_wp2_with fail
    refine name_world (F := fun W => Hid (W.heap[w.heap.size]? = some (.cells #[.int .i64 (s.msg (i : Int)).kind, .int .i64 (s.msg (i : Int)).frm, .int .i64 (s.msg (i : Int)).to, .int .i64 (s.msg (i : Int)).term, .int .i64 (s.msg (i : Int)).index, .int .i64 (s.msg (i : Int)).logTerm, .bool (s.msg (i : Int)).ok, .slice A (s.msg (i : Int)).entries.length c, .int .i64 (s.msg (i : Int)).commit, .int .i64 (s.msg (i : Int)).form] 34 (0, 0))) ∧ Hid (Below w.heap.size w W) ∧ Hid (MM.Rd W ok 2 (.slice A (s.msg (i : Int)).entries.length c) (s.msg (i : Int)).entries.length (entsC (s.msg (i : Int)).entries))) _ (by exact ⟨Lib.hid (MM.alloc_new _ _), Lib.hid ((Below.refl _ w).alloc (Nat.le_refl _) _), Lib.hid (HR.out.alloc _)⟩) ?_
    clear x0 x1 x2 x3 x4 x5 x6 x7 x8 x9
    intro wz ⟨Z, HB, HR9⟩
    obtain ⟨u0, u1, u2, u3, u4, u5, u6, u7, u8, u9⟩ := MM.cells10 Z.out
    refine bodyPost_ret (v := .tuple #[.agg #[.int .i64 (s.msg (i : Int)).kind, .int .i64 (s.msg (i : Int)).frm, .int .i64 (s.msg (i : Int)).to, .int .i64 (s.msg (i : Int)).term, .int .i64 (s.msg (i : Int)).index, .int .i64 (s.msg (i : Int)).logTerm, .bool (s.msg (i : Int)).ok, .slice A (s.msg (i : Int)).entries.length c, .int .i64 (s.msg (i : Int)).commit, .int .i64 (s.msg (i : Int)).form], .bool true]) (by simp [results, Try.results82, go_sem, u0, u1, u2, u3, u4, u5, u6, u7, u8, u9]) rfl ?_
    exact ⟨.inl ⟨HU.out, A, c, rfl, HR9.out⟩, HB.out⟩
  · have h1b : decide ((s.f.length : Int) ≤ (i : Int)) = true := decide_eq_true (by omega)
    have HU := Lib.hid (show s.has (i : Int) = false from by unfold GS.has; rw [decide_eq_false (show ¬ (i : Int) < (s.f.length : Int) by omega), Bool.and_false])
    have HG := Lib.hid h
    clear h
    go_enter Try.func82, Try.ntmps82
    go_wp2_with fail
    refine name_world (F := fun W => Hid (W.heap[w.heap.size]? = some (.cells #[.int .i64 0, .int .i64 0, .int .i64 0, .int .i64 0, .int .i64 0, .int .i64 0, .bool false, .slice none 0 0, .int .i64 0, .int .i64 0] 34 (0, 0))) ∧ Hid (Below w.heap.size w W)) _ (by exact ⟨Lib.hid (MM.alloc_new _ _), Lib.hid ((Below.refl _ w).alloc (Nat.le_refl _) _)⟩) ?_
    intro wz ⟨Z, HB⟩
    obtain ⟨u0, u1, u2, u3, u4, u5, u6, u7, u8, u9⟩ := MM.cells10 Z.out
    refine bodyPost_ret (v := .tuple #[.agg #[.int .i64 0, .int .i64 0, .int .i64 0, .int .i64 0, .int .i64 0, .int .i64 0, .bool false, .slice none 0 0, .int .i64 0, .int .i64 0], .bool false]) (by simp [results, Try.results82, go_sem, u0, u1, u2, u3, u4, u5, u6, u7, u8, u9]) rfl ?_
    exact ⟨.inr ⟨HU.out, rfl⟩, HB.out⟩
set_option maxRecDepth 100000 in
set_option maxHeartbeats 40000000 in
theorem gput_any (w : World) (B g : Nat) (s : GS) (μ : GM) (ok : Nat → Prop) (h : GroupAt w B g s μ ok) (A : Option Addr) (c : Nat) (ys : List Fed.Msg) (hY : MsgsV w ok (.slice A ys.length c) ys) (hl : s.f.length + ys.length ≤ 2000000) :
    Calls Try.prog 83 #[.pointer (some ⟨g, 1, none⟩), .slice A ys.length c] w fun e w' => ∃ μ', e = .returned (.tuple #[]) ∧ GroupAt w' B g ⟨s.ns, s.us, s.f ++ ys⟩ μ' ok ∧ GStep w w' B g μ μ' ok ok ∧ μ'.p = μ.p ∧ μ'.A = μ.A ∧ μ'.c = μ.c := by
  have c1 := h.c1
  have H := Lib.hid h
  have HY := Lib.hid hY
  clear h hY
  obtain ⟨zs, hzs⟩ : ∃ zs, zs = s.f ++ ys := ⟨_, rfl⟩
  have HZ := Lib.hid hzs
  clear hzs
  go_enter Try.func83, Try.ntmps83
  go_wp2_with (at_builtin; (refine append_fly _ rfl (.tmp 8) (.tmp 9) rfl rfl B _ s.f μ.fb ok rfl H.out.fl _ ys rfl HY.out (fun k hk q => H.out.no k hk (.inr (.inr q))) hl H.out.Bsize zs HZ.out ?_))
  intro A' c' w1 ob' hf kp hob hbl
  have hfz : w1.frozen? ⟨g, 1, none⟩ = false := (World.frozen?_of_block (a := ⟨g, 1, none⟩) (kp g H.out.lt (fun q => ty_ne H.out.tyg (H.out.tyf g q) (by decide) rfl))).trans (H.out.fr 1)
  have hc1 : w1.cell? ⟨g, 1, none⟩ = some (.slice μ.F s.f.length μ.d) := (World.cell?_of_block (a := ⟨g, 1, none⟩) (kp g H.out.lt (fun q => ty_ne H.out.tyg (H.out.tyf g q) (by decide) rfl))).trans c1
  have HP := Lib.hid (H.out.putF (hf.mono (ok' := ok) fun k hk _ => hk.1) kp hob hbl)
  clear hf kp hob hbl c1
  go_wp2
  go_end0
  have e := HZ.out
  subst e
  exact ⟨_, rfl, HP.out.1, HP.out.2, rfl, rfl, rfl⟩

end Go.Proofs.Ytnkmljdkokcdjaa
