/-
  others over entries sends to all others.
-/
import Derived.WalkKit
import Derived.WalkSpells
import Derived.Lib.Hide
import Derived.Outline
import Derived.Test.YtnkmljdkokcdjaaChecked
import Derived.Test.YtnkmljdkokcdjaaRg
import Derived.Test.YtnkmljdkokcdjaaMem
import Derived.Test.YtnkmljdkokcdjaaFed
import Derived.Test.YtnkmljdkokcdjaaRa3
import Derived.ScopeJumps
import Derived.Scope
namespace Go.Proofs.Ytnkmljdkokcdjaa
open Go.RowKit Fed
set_option linter.unusedVariables false
attribute [local go_sem high] Fed.max2_int Fed.min2_int

set_option maxRecDepth 100000 in
set_option maxHeartbeats 2000000 in
theorem others_entries (w : World) (B g : Nat) (s : NS) (μ : NM) (h : NodeAt w B g s μ) (ho : s.out.length ≤ 900000) (hl : s.n.log.length ≤ 1000000) (hv : s.n.votes.length ≤ 1000) (hnv : s.n.nxt.length = s.n.votes.length) (hx : ∀ i, i < s.n.nxt.length → -1000000000 ≤ s.n.nxt.getD i 0 ∧ s.n.nxt.getD i 0 ≤ 1000000000) :
    Calls Try.prog 61 #[.pointer (some ⟨g, 0, none⟩), .func (.func 62) #[.pointer (some ⟨g, 0, none⟩)] #[]] w
      fun e w' => ∃ o', e = .returned (.tuple #[]) ∧ NodeAt w' B g ⟨s.n, s.out ++ spreadMsgs s.n s.n.votes.length⟩ { μ with o := o' } ∧ Below B w w' := by
  have HX := Lib.hid hx
  have HNV := Lib.hid hnv
  have HO := Lib.hid ho
  clear hx hnv ho
  have H := Lib.hid h
  clear h
  go_enter Try.func61, Try.ntmps61
  go_wp2
  refine wp_scope_jumps 0 (fun a' w' => ∃ (k : Nat) (o1 : Sl) (u5 u6 u7 u8 u9 u10 u11 u12 u13 u14 u15 u16 u17 u18 u19 u20 : Value), a' = { tmps := #[.pointer (some ⟨g, 0, none⟩), .func (.func 62) #[.pointer (some ⟨g, 0, none⟩)] #[], undef, undef, .int .i64 k, u5, u6, u7, u8, u9, u10, u11, u12, u13, u14, u15, u16, u17, u18, u19, u20], defers := [] } ∧ k ≤ s.n.votes.length ∧ NodeAt w' B g ⟨s.n, s.out ++ spreadMsgs s.n k⟩ { μ with o := o1 } ∧ Below B w w')
    (fun a' _ => s.n.votes.length - (intOf (a'.tmps.getD 4 undef)).toNat) rfl ?_ ?_
  · go_wp2
    go_step3
    have HN : Hid (NodeAt w B g ⟨s.n, s.out ++ spreadMsgs s.n 0⟩ { μ with o := μ.o }) := by
      have e : s.out ++ spreadMsgs s.n 0 = s.out := by simp [spreadMsgs]
      rw [e]
      exact H.out
    have HB : Hid (Below B w w) := Below.refl _ _

    have c0 : w.cell? ⟨g, 0, none⟩ = some (.int .i64 s.n.id) := HN.out.c 0 _ rfl
    by_cases hk : 0 < s.n.votes.length
    · by_cases hid : (0 : Int) = s.n.id
      · have hb : ((0 : Int) != s.n.id) = false := by simp [hid]
        have HID := Lib.hid hid
        clear hid
        go_wp2_with (go_at_call 97; refine (size_any _ B g _ _ HN.out).mono ?_; rintro e w2 ⟨rfl, rfl⟩)
        go_step3
        refine ⟨rfl, 1, μ.o, _, _, _, _, _, _, _, _, _, _, _, _, _, _, _, _, ⟨rfl, by omega, ?_, ?_⟩⟩
        · rw [spreadMsgs_skip (k := 0) HID.out]
          exact HN.out
        · exact HB.out
      · have hb : ((0 : Int) != s.n.id) = true := by simpa using hid
        have HID := Lib.hid hid
        clear hid
        go_wp2_with (first | (go_at_call 97; refine (size_any _ B g _ _ HN.out).mono ?_; rintro e w2 ⟨rfl, rfl⟩) | (go_at_call 62; refine (entries_any w B g ⟨s.n, s.out ++ spreadMsgs s.n 0⟩ _ 0 HN.out (by have := spreadMsgs_le s.n 0; have := HO.out; rw [List.length_append]; omega) hl (by rw [HNV.out]; exact hk) (HX.out 0 (by rw [HNV.out]; exact hk)).1 (HX.out 0 (by rw [HNV.out]; exact hk)).2).mono ?_; rintro e w2 ⟨o2, rfl, hn2, hb2⟩))
        go_step3
        refine ⟨rfl, 1, o2, _, _, _, _, _, _, _, _, _, _, _, _, _, _, _, _, ⟨rfl, by omega, ?_, ?_⟩⟩
        · rw [spreadMsgs_step (k := 0) HID.out, ← List.append_assoc]
          exact hn2
        · exact HB.out.trans hb2
    · go_wp2_with (go_at_call 97; refine (size_any _ B g _ _ HN.out).mono ?_; rintro e w2 ⟨rfl, rfl⟩)
      simp only [Exit.jump]
      go_end0
      have e9 : s.n.votes.length = 0 := by omega
      exact ⟨_, rfl, by rw [e9]; exact HN.out, HB.out⟩

  · rintro a' wr ⟨k, o1, u5, u6, u7, u8, u9, u10, u11, u12, u13, u14, u15, u16, u17, u18, u19, u20, rfl, hks, hn, hb⟩
    have HN := Lib.hid hn
    have HB := Lib.hid hb
    clear hn hb

    have c0 : wr.cell? ⟨g, 0, none⟩ = some (.int .i64 s.n.id) := HN.out.c 0 _ rfl
    by_cases hk : k < s.n.votes.length
    · by_cases hid : (k : Int) = s.n.id
      · have hb : ((k : Int) != s.n.id) = false := by simp [hid]
        have HID := Lib.hid hid
        clear hid
        go_wp2_with (go_at_call 97; refine (size_any _ B g _ _ HN.out).mono ?_; rintro e w2 ⟨rfl, rfl⟩)
        go_step3
        refine ⟨rfl, ⟨k + 1, o1, _, _, _, _, _, _, _, _, _, _, _, _, _, _, _, _, ⟨rfl, by omega, ?_, ?_⟩⟩, by simp [intOf]; omega⟩
        · rw [spreadMsgs_skip (k := k) HID.out]
          exact HN.out
        · exact HB.out
      · have hb : ((k : Int) != s.n.id) = true := by simpa using hid
        have HID := Lib.hid hid
        clear hid
        go_wp2_with (first | (go_at_call 97; refine (size_any _ B g _ _ HN.out).mono ?_; rintro e w2 ⟨rfl, rfl⟩) | (go_at_call 62; refine (entries_any _ B g ⟨s.n, s.out ++ spreadMsgs s.n k⟩ _ k HN.out (by have := spreadMsgs_le s.n k; have := HO.out; rw [List.length_append]; omega) hl (by rw [HNV.out]; exact hk) (HX.out k (by rw [HNV.out]; exact hk)).1 (HX.out k (by rw [HNV.out]; exact hk)).2).mono ?_; rintro e w2 ⟨o2, rfl, hn2, hb2⟩))
        go_step3
        refine ⟨rfl, ⟨k + 1, o2, _, _, _, _, _, _, _, _, _, _, _, _, _, _, _, _, ⟨rfl, by omega, ?_, ?_⟩⟩, by simp [intOf]; omega⟩
        · rw [spreadMsgs_step (k := k) HID.out, ← List.append_assoc]
          exact hn2
        · exact HB.out.trans hb2
    · go_wp2_with (go_at_call 97; refine (size_any _ B g _ _ HN.out).mono ?_; rintro e w2 ⟨rfl, rfl⟩)
      simp only [Exit.jump]
      go_end0
      have e9 : s.n.votes.length = k := by omega
      exact ⟨_, rfl, by rw [e9]; exact HN.out, HB.out⟩


end Go.Proofs.Ytnkmljdkokcdjaa
