/-
  asks, and others over asks, ask all others for votes.
-/
import Derived.WalkKit
import Derived.WalkSpells
import Derived.Lib.Hide
import Derived.Outline
import Derived.Test.YtnkmljdkokcdjaaChecked
import Derived.Test.YtnkmljdkokcdjaaRg
import Derived.Test.YtnkmljdkokcdjaaMem
import Derived.Test.YtnkmljdkokcdjaaFed
import Derived.Test.YtnkmljdkokcdjaaRa7
import Derived.ScopeJumps
import Derived.Scope
namespace Go.Proofs.Ytnkmljdkokcdjaa
open Go.RowKit Fed
set_option linter.unusedVariables false
attribute [local go_sem high] Fed.max2_int Fed.min2_int

set_option maxRecDepth 100000 in
set_option maxHeartbeats 1000000 in
theorem asks_any (w : World) (B g : Nat) (s : NS) (μ : NM) (b : Nat) (to : Nat) (h : NodeAt w B g s μ) (hb : w.heap[b]? = some (.cells #[.pointer (some ⟨g, 0, none⟩)] 79 (0, 0))) (ho : s.out.length ≤ 1000000) (hl : s.n.log.length ≤ 1000000) :
    Calls Try.prog 103 #[.int .i64 to, .pointer (some ⟨b, 0, none⟩)] w
      fun e w' => ∃ o', e = .returned (.tuple #[]) ∧ NodeAt w' B g ⟨s.n, s.out ++ [voteMsg s.n to]⟩ { μ with o := o' } ∧ Below B w w' ∧ Boxes w w' := by
  have cb : w.cell? ⟨b, 0, none⟩ = some (.pointer (some ⟨g, 0, none⟩)) := (Boxes.refl w).cell hb
  have H := Lib.hid h
  have HO := Lib.hid ho
  clear h hb ho
  go_enter Try.func103, Try.ntmps103
  go_wp2
  refine Go.RT.wp_region_tree [0, 0, 0, 4, 0, 0, 44, 124, 252, 511] (.s 0 (.p 1 (.s 2 (.s 4 (.s 5 (.w 3 [0, 4, 5] (.w 6 [0, 4] (.w 7 [0] (.p 8 (.w 9 [] .nil .stop)) .stop) .stop) .stop)))))) (by kernel_rfl) (by kernel_rfl) ?_
  (refine Go.RT.step_s rfl (fun K hK => ?_); go_simp; refine hK _ ?_; clear hK K)
  (refine Go.RT.step_p rfl (fun K hK => ?_); go_simp; refine hK _ ?_; clear hK K)
  (refine Go.RT.step_s rfl (fun K hK => ?_); go_simp; refine hK _ ?_; clear hK K)
  (refine Go.RT.step_s rfl (fun K hK => ?_); go_simp; refine hK _ ?_; clear hK K)
  (refine Go.RT.step_s rfl (fun K hK => ?_); go_simp; refine hK _ ?_; clear hK K)
  (refine Go.RT.step_w rfl rfl (fun K hK => ?_) Go.RT.step_stop)
  go_wp2_with fail
  refine (last_any _ B g _ _ (H.out.below (by repeat (first | exact Below.refl _ _ | refine Below.setCell ?_ (by simp) _ | refine Below.alloc ?_ (by simp) _ | refine Below.drew ?_)))).mono ?_
  rintro e w2 ⟨rfl, rfl⟩
  go_wp2_with fail
  refine Go.RT.QK_normal _ _ _ _ (hK _ _ ?_ ?_) <;> clear hK K
  · refine Go.RT.again_one rfl ?_ ?_; · (go_simp <;> rfl)
    refine Go.RT.again_one rfl ?_ ?_; · (go_simp <;> rfl)
    refine Go.RT.again_one rfl ?_ ?_; · (go_simp <;> rfl)
    exact Go.RT.again_nil
  (refine Go.RT.step_w rfl rfl (fun K hK => ?_) Go.RT.step_stop)
  go_wp2_with fail
  refine (last_any _ B g _ _ (H.out.below (by repeat (first | exact Below.refl _ _ | refine Below.setCell ?_ (by simp) _ | refine Below.alloc ?_ (by simp) _ | refine Below.drew ?_)))).mono ?_
  rintro e w2 ⟨rfl, rfl⟩
  go_wp2_with fail
  refine Go.RT.QK_normal _ _ _ _ (hK _ _ ?_ ?_) <;> clear hK K
  · refine Go.RT.again_one rfl ?_ ?_; · (go_simp <;> rfl)
    refine Go.RT.again_one rfl ?_ ?_; · (go_simp <;> rfl)
    exact Go.RT.again_nil
  (refine Go.RT.step_w rfl rfl (fun K hK => ?_) Go.RT.step_stop)
  go_wp2_with fail
  refine (term_any _ B g s μ _ (by omega) (by omega) (H.out.below (by repeat (first | exact Below.refl _ _ | refine Below.setCell ?_ (by simp) _ | refine Below.alloc ?_ (by simp) _ | refine Below.drew ?_)))).mono ?_
  rintro e w2 ⟨rfl, rfl⟩
  go_wp2_with fail
  refine Go.RT.QK_normal _ _ _ _ (hK _ _ ?_ ?_) <;> clear hK K
  · refine Go.RT.again_one rfl ?_ ?_; · (go_simp <;> rfl)
    exact Go.RT.again_nil
  (refine Go.RT.step_p rfl (fun K hK => ?_); go_simp; refine hK _ ?_; clear hK K)
  (refine Go.RT.step_w rfl rfl (fun K hK => ?_) Go.RT.step_stop)
  go_wp2_with fail
  refine (send_any _ B g s μ 1 0 0 0 _ _ _ _ _ false [] _ (H.out.below (by repeat (first | exact Below.refl _ _ | refine Below.setCell ?_ (by simp) _ | refine Below.alloc ?_ (by simp) _ | refine Below.drew ?_))) HO.out (MM.Rd.nil _ _ _ _ _ (by simp [maxLen]))).mono ?_
  rintro e w3 ⟨o3, rfl, hn3, hb3, hx3⟩
  go_wp2_with fail
  refine Go.RT.QK_normal _ _ _ _ (hK _ _ ?_ ?_) <;> clear hK K
  · exact Go.RT.again_nil
  refine Go.RT.step_nil ?_
  go_end0
  exact ⟨o3, rfl, hn3, Below.trans (Below.drew (Below.refl _ _)) hb3, hx3⟩

set_option maxRecDepth 100000 in
set_option maxHeartbeats 2000000 in
theorem others_asks (w : World) (B g : Nat) (s : NS) (μ : NM) (h : NodeAt w B g s μ) (b : Nat) (hbox : w.heap[b]? = some (.cells #[.pointer (some ⟨g, 0, none⟩)] 79 (0, 0))) (ho : s.out.length ≤ 900000) (hl : s.n.log.length ≤ 1000000) (hv : s.n.votes.length ≤ 1000) :
    Calls Try.prog 61 #[.pointer (some ⟨g, 0, none⟩), .func (.func 103) #[] #[.pointer (some ⟨b, 0, none⟩)]] w
      fun e w' => ∃ o', e = .returned (.tuple #[]) ∧ NodeAt w' B g ⟨s.n, s.out ++ askMsgs s.n s.n.votes.length⟩ { μ with o := o' } ∧ Below B w w' ∧ Boxes w w' := by
  have HBOX := Lib.hid hbox
  have HO := Lib.hid ho
  clear hbox ho
  have H := Lib.hid h
  clear h
  go_enter Try.func61, Try.ntmps61
  go_wp2
  refine wp_scope_jumps 0 (fun a' w' => ∃ (k : Nat) (o1 : Sl) (u5 u6 u7 u8 u9 u10 u11 u12 u13 u14 u15 u16 u17 u18 u19 u20 : Value), a' = { tmps := #[.pointer (some ⟨g, 0, none⟩), .func (.func 103) #[] #[.pointer (some ⟨b, 0, none⟩)], undef, undef, .int .i64 k, u5, u6, u7, u8, u9, u10, u11, u12, u13, u14, u15, u16, u17, u18, u19, u20], defers := [] } ∧ k ≤ s.n.votes.length ∧ NodeAt w' B g ⟨s.n, s.out ++ askMsgs s.n k⟩ { μ with o := o1 } ∧ Below B w w' ∧ Boxes w w')
    (fun a' _ => s.n.votes.length - (intOf (a'.tmps.getD 4 undef)).toNat) rfl ?_ ?_
  · go_wp2
    go_step3
    have HN : Hid (NodeAt w B g ⟨s.n, s.out ++ askMsgs s.n 0⟩ { μ with o := μ.o }) := by
      have e : s.out ++ askMsgs s.n 0 = s.out := by simp [askMsgs]
      rw [e]
      exact H.out
    have HB : Hid (Below B w w) := Below.refl _ _
    have HBX : Hid (Boxes w w) := Boxes.refl _

    have c0 : w.cell? ⟨g, 0, none⟩ = some (.int .i64 s.n.id) := HN.out.c 0 _ rfl
    by_cases hk : 0 < s.n.votes.length
    · by_cases hid : (0 : Int) = s.n.id
      · have hb : ((0 : Int) != s.n.id) = false := by simp [hid]
        have HID := Lib.hid hid
        clear hid
        go_wp2_with (go_at_call 97; refine (size_any _ B g _ _ HN.out).mono ?_; rintro e w2 ⟨rfl, rfl⟩)
        go_step3
        refine ⟨rfl, 1, μ.o, _, _, _, _, _, _, _, _, _, _, _, _, _, _, _, _, ⟨rfl, by omega, ?_, ?_⟩⟩
        · rw [askMsgs_skip (k := 0) HID.out]
          exact HN.out
        · exact ⟨HB.out, HBX.out⟩
      · have hb : ((0 : Int) != s.n.id) = true := by simpa using hid
        have HID := Lib.hid hid
        clear hid
        go_wp2_with (first | (go_at_call 97; refine (size_any _ B g _ _ HN.out).mono ?_; rintro e w2 ⟨rfl, rfl⟩) | (go_at_call 103; refine (asks_any w B g ⟨s.n, s.out ++ askMsgs s.n 0⟩ _ b 0 HN.out (HBX.out b _ _ HBOX.out) (by have := askMsgs_le s.n 0; have := HO.out; rw [List.length_append]; omega) hl).mono ?_; rintro e w2 ⟨o2, rfl, hn2, hb2, hx2⟩))
        go_step3
        refine ⟨rfl, 1, o2, _, _, _, _, _, _, _, _, _, _, _, _, _, _, _, _, ⟨rfl, by omega, ?_, ?_⟩⟩
        · rw [askMsgs_step (k := 0) HID.out, ← List.append_assoc]
          exact hn2
        · exact ⟨HB.out.trans hb2, HBX.out.trans hx2⟩
    · go_wp2_with (go_at_call 97; refine (size_any _ B g _ _ HN.out).mono ?_; rintro e w2 ⟨rfl, rfl⟩)
      simp only [Exit.jump]
      go_end0
      have e9 : s.n.votes.length = 0 := by omega
      exact ⟨_, rfl, by rw [e9]; exact HN.out, HB.out, HBX.out⟩

  · rintro a' wr ⟨k, o1, u5, u6, u7, u8, u9, u10, u11, u12, u13, u14, u15, u16, u17, u18, u19, u20, rfl, hks, hn, hb, hbx⟩
    have HN := Lib.hid hn
    have HB := Lib.hid hb
    have HBX := Lib.hid hbx
    clear hbx
    clear hn hb

    have c0 : wr.cell? ⟨g, 0, none⟩ = some (.int .i64 s.n.id) := HN.out.c 0 _ rfl
    by_cases hk : k < s.n.votes.length
    · by_cases hid : (k : Int) = s.n.id
      · have hb : ((k : Int) != s.n.id) = false := by simp [hid]
        have HID := Lib.hid hid
        clear hid
        go_wp2_with (go_at_call 97; refine (size_any _ B g _ _ HN.out).mono ?_; rintro e w2 ⟨rfl, rfl⟩)
        go_step3
        refine ⟨rfl, ⟨k + 1, o1, _, _, _, _, _, _, _, _, _, _, _, _, _, _, _, _, ⟨rfl, by omega, ?_, ?_⟩⟩, by simp [intOf]; omega⟩
        · rw [askMsgs_skip (k := k) HID.out]
          exact HN.out
        · exact ⟨HB.out, HBX.out⟩
      · have hb : ((k : Int) != s.n.id) = true := by simpa using hid
        have HID := Lib.hid hid
        clear hid
        go_wp2_with (first | (go_at_call 97; refine (size_any _ B g _ _ HN.out).mono ?_; rintro e w2 ⟨rfl, rfl⟩) | (go_at_call 103; refine (asks_any _ B g ⟨s.n, s.out ++ askMsgs s.n k⟩ _ b k HN.out (HBX.out b _ _ HBOX.out) (by have := askMsgs_le s.n k; have := HO.out; rw [List.length_append]; omega) hl).mono ?_; rintro e w2 ⟨o2, rfl, hn2, hb2, hx2⟩))
        go_step3
        refine ⟨rfl, ⟨k + 1, o2, _, _, _, _, _, _, _, _, _, _, _, _, _, _, _, _, ⟨rfl, by omega, ?_, ?_⟩⟩, by simp [intOf]; omega⟩
        · rw [askMsgs_step (k := k) HID.out, ← List.append_assoc]
          exact hn2
        · exact ⟨HB.out.trans hb2, HBX.out.trans hx2⟩
    · go_wp2_with (go_at_call 97; refine (size_any _ B g _ _ HN.out).mono ?_; rintro e w2 ⟨rfl, rfl⟩)
      simp only [Exit.jump]
      go_end0
      have e9 : s.n.votes.length = k := by omega
      exact ⟨_, rfl, by rw [e9]; exact HN.out, HB.out, HBX.out⟩


end Go.Proofs.Ytnkmljdkokcdjaa
