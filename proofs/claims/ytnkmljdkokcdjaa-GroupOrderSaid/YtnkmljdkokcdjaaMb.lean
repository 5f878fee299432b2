/-
  filled, lead, asks, anew and stand of a node at work.
-/
import Derived.WalkKit
import Derived.WalkSpells
import Derived.Lib.Hide
import Derived.Outline
import Derived.Test.YtnkmljdkokcdjaaChecked
import Derived.Test.YtnkmljdkokcdjaaMn
import Derived.Test.YtnkmljdkokcdjaaMem
import Derived.Test.YtnkmljdkokcdjaaFed
import Derived.Test.YtnkmljdkokcdjaaClone
import Derived.Test.YtnkmljdkokcdjaaMa
import Derived.ScopeJumps
import Derived.Scope
set_option linter.unusedVariables false
set_option linter.unusedSimpArgs false
namespace Go.Proofs.Ytnkmljdkokcdjaa
open Go.RowKit Fed
set_option linter.unusedVariables false
attribute [local go_sem high] Fed.max2_int Fed.min2_int

set_option maxRecDepth 100000 in
set_option maxHeartbeats 1000000 in
theorem filled_int (w : World) (k : Nat) (x : Int) (hk : k ≤ 1000) :
    Calls Try.prog 96 #[.int .i64 k, .int .i64 x] w fun e w' => ∃ v ob, e = .returned v ∧ MM.Row w' w.heap.size 3 1 v k (intsC (List.replicate k x)) ob ∧ Below w.heap.size w w' := by
  obtain ⟨i0, hi, hz0, hz1, hz2⟩ := info_parts info3
  go_enter Try.func96, Try.ntmps96
  go_wp2
  go_loopw [5, 7] (fun v i wr => ∃ (j : Nat) (ob : Option Nat), j ≤ k ∧ i = .int .i64 j ∧ MM.Row wr w.heap.size 3 1 v j (intsC (List.replicate j x)) ob ∧ Below w.heap.size w wr) (fun _ i _ => k - (intOf i).toNat)
  case atStart => exact ⟨0, none, Nat.zero_le _, rfl, MM.Row.nil _ _ _ _ _, Below.refl _ _⟩
  case round =>
    obtain ⟨j, ob, hj, rfl, hr, hb⟩ := hrel
    obtain ⟨A1, c1, rfl, _, _⟩ := hr.slice
    have hsz := hb.size
    have HR := Lib.hid hr
    have HB := Lib.hid hb
    clear hr hb
    by_cases hlt : j < k
    · go_wp2_with (at_builtin; refine MM.wpList_append_row _ rfl (.tmp 9) (.tmp 11) 26 rfl w.heap.size 3 i0 _ 1 8 Try.underlying26 hi hz0 hz1 hz2 rfl (by decide) _ j (intsC (List.replicate j x)) ob rfl (HR.out.alloc _) (fun _ => True) _ 1 [.int .i64 x] rfl ?_ ?_ ?_ ?_ ?_ ?_)
      · exact MM.Rd.lit (MM.alloc_new wr _) trivial rfl (Nat.le_refl _) (by simp [maxLen]) rfl
      · intro u hu; simp at hu; subst hu; rfl
      · simp only [maxLen]; omega
      · omega
      · simp; omega
      · intro v' w1 ob' hr' hg _
        have HR' := Lib.hid (show MM.Row w1 w.heap.size 3 1 v' (j + 1) (intsC (List.replicate (j + 1) x)) ob' from by rw [List.replicate_succ']; simpa [intsC] using hr')
        have HB' := Lib.hid ((HB.out.alloc hsz _).grown hg (by simp; omega) (fun k hk => (HR.out.lt k hk).1))
        clear hr' hg
        go_wp2
        go_roundw
        case rel => exact ⟨j + 1, ob', by omega, by go_num, HR'.out, HB'.out⟩
        case measure => simp [intOf]; omega
    · obtain rfl : j = k := by omega
      go_wp2_with (go_at_call 85; refine (clone_int _ (fun _ => True) _ _ _ (by exact HR.out.rd.mono (fun _ _ _ => trivial)) (intsC_one _) (by omega)).mono ?_; rintro e w2 ⟨v2, ob2, rfl, hr2, hb2⟩)
      go_ret
      exact ⟨_, ob2, rfl, hr2.lower hsz, HB.out.trans (hb2.mono hsz)⟩

set_option maxRecDepth 100000 in
set_option maxHeartbeats 1000000 in
theorem filled_bool (w : World) (k : Nat) (x : Bool) (hk : k ≤ 1000) :
    Calls Try.prog 101 #[.int .i64 k, .bool x] w fun e w' => ∃ v ob, e = .returned v ∧ MM.Row w' w.heap.size 4 1 v k (boolsC (List.replicate k x)) ob ∧ Below w.heap.size w w' := by
  obtain ⟨i0, hi, hz0, hz1, hz2⟩ := info_parts info4
  go_enter Try.func101, Try.ntmps101
  go_wp2
  go_loopw [5, 7] (fun v i wr => ∃ (j : Nat) (ob : Option Nat), j ≤ k ∧ i = .int .i64 j ∧ MM.Row wr w.heap.size 4 1 v j (boolsC (List.replicate j x)) ob ∧ Below w.heap.size w wr) (fun _ i _ => k - (intOf i).toNat)
  case atStart => exact ⟨0, none, Nat.zero_le _, rfl, MM.Row.nil _ _ _ _ _, Below.refl _ _⟩
  case round =>
    obtain ⟨j, ob, hj, rfl, hr, hb⟩ := hrel
    obtain ⟨A1, c1, rfl, _, _⟩ := hr.slice
    have hsz := hb.size
    have HR := Lib.hid hr
    have HB := Lib.hid hb
    clear hr hb
    by_cases hlt : j < k
    · go_wp2_with (at_builtin; refine MM.wpList_append_row _ rfl (.tmp 9) (.tmp 11) 25 rfl w.heap.size 4 i0 _ 1 1 Try.underlying25 hi hz0 hz1 hz2 rfl (by decide) _ j (boolsC (List.replicate j x)) ob rfl (HR.out.alloc _) (fun _ => True) _ 1 [.bool x] rfl ?_ ?_ ?_ ?_ ?_ ?_)
      · exact MM.Rd.lit (MM.alloc_new wr _) trivial rfl (Nat.le_refl _) (by simp [maxLen]) rfl
      · intro u hu; simp at hu; subst hu; rfl
      · simp only [maxLen]; omega
      · omega
      · simp; omega
      · intro v' w1 ob' hr' hg _
        have HR' := Lib.hid (show MM.Row w1 w.heap.size 4 1 v' (j + 1) (boolsC (List.replicate (j + 1) x)) ob' from by rw [List.replicate_succ']; simpa [boolsC] using hr')
        have HB' := Lib.hid ((HB.out.alloc hsz _).grown hg (by simp; omega) (fun k hk => (HR.out.lt k hk).1))
        clear hr' hg
        go_wp2
        go_roundw
        case rel => exact ⟨j + 1, ob', by omega, by go_num, HR'.out, HB'.out⟩
        case measure => simp [intOf]; omega
    · obtain rfl : j = k := by omega
      go_wp2_with (go_at_call 84; refine (clone_bool _ (fun _ => True) _ _ _ (by exact HR.out.rd.mono (fun _ _ _ => trivial)) (boolsC_one _) (by omega)).mono ?_; rintro e w2 ⟨v2, ob2, rfl, hr2, hb2⟩)
      go_ret
      exact ⟨_, ob2, rfl, hr2.lower hsz, HB.out.trans (hb2.mono hsz)⟩

end Go.Proofs.Ytnkmljdkokcdjaa
namespace Go.Proofs.Ytnkmljdkokcdjaa
open Go.RowKit Fed
set_option linter.unusedVariables false
attribute [local go_sem high] Fed.max2_int Fed.min2_int

set_option maxRecDepth 100000 in
set_option maxHeartbeats 2000000 in
theorem lead_any (w : World) (B g : Nat) (s : NS) (μ : NM) (h : NodeAt w B g s μ) (ho : s.out.length ≤ 900000) (hl : s.n.log.length ≤ 900000) (hv : s.n.votes.length ≤ 1000) (hi0 : 0 ≤ s.n.id) (hi1 : s.n.id < s.n.votes.length) :
    Calls Try.prog 104 #[.pointer (some ⟨g, 0, none⟩)] w
      fun e w' => ∃ μ', e = .returned (.tuple #[]) ∧ NodeAt w' B g (leadS s) μ' ∧ Below B w w' := by
  have hbs := h.Bsize
  have c5 : w.cell? ⟨g, 5, none⟩ = some (.int .i64 s.n.role) := h.c 5 _ rfl
  have fr5 := h.fr 5
  have hN1 := h.setg (i := 5) (u := .int .i64 2) (s' := ⟨{ s.n with role := 2 }, s.out⟩) rfl rfl rfl rfl rfl rfl rfl
  have hb1 : Below B w (w.setCell ⟨g, 5, none⟩ (.int .i64 2)) := (Below.refl B w).setCell h.hB _
  have H1 := Lib.hid hN1
  have HB1 := Lib.hid hb1
  have HO := Lib.hid ho
  clear h hN1 hb1 ho
  go_enter Try.func104, Try.ntmps104
  go_wp2_with fail
  refine (size_any _ B g _ _ H1.out).mono ?_
  rintro e w2 ⟨rfl, rfl⟩
  go_wp2_with fail
  refine (last_any _ B g _ _ H1.out).mono ?_
  rintro e w2 ⟨rfl, rfl⟩
  go_wp2_with fail
  refine (filled_int _ s.n.votes.length (s.n.log.length + 1) hv).mono ?_
  rintro e w2 ⟨v2, ob2, rfl, hr2, hb2⟩
  obtain ⟨A2, k2, rfl, _, _⟩ := hr2.slice
  have hsz2 := hb2.size
  have H2 := Lib.hid (H1.out.below hb2)
  have HB2 := Lib.hid (HB1.out.trans (hb2.mono H1.out.Bsize))
  have HR2 := Lib.hid hr2
  clear hr2 hb2 c5 fr5
  go_wp2_with fail
  refine (size_any _ B g _ _ H2.out).mono ?_
  rintro e w9 ⟨rfl, rfl⟩
  go_wp2_with fail
  refine (filled_int _ s.n.votes.length 0 hv).mono ?_
  rintro e w3 ⟨v3, ob3, rfl, hr3, hb3⟩
  obtain ⟨A3, k3, rfl, _, _⟩ := hr3.slice
  have hN3 := H2.out.below hb3
  have H3 := Lib.hid hN3
  have HB3 := Lib.hid (HB2.out.trans (hb3.mono H2.out.Bsize))
  have HR2' := Lib.hid (HR2.out.below hb3)
  have HR3 := Lib.hid hr3
  have N23 := Lib.hid (show ∀ k, ob2 = some k → ob3 ≠ some k from fun k h2 h3 => by have := (HR2.out.lt k h2).2; have := (hr3.lt k h3).1; omega)
  have NF2 := Lib.hid (show ∀ k, ob2 = some k → μ.f.ob ≠ some k from fun k h2 h3 => by have := (HR2.out.lt k h2).1; have := (H1.out.hf.lt k h3).2; omega)
  have NF3 := Lib.hid (show ∀ k, ob3 = some k → μ.f.ob ≠ some k from fun k h2 h3 => by have := (hr3.lt k h2).1; have := (H2.out.hf.lt k h3).2; omega)
  have NM2 := Lib.hid (show ∀ k, ob2 = some k → μ.m.ob ≠ some k from fun k h2 h3 => by have := (HR2.out.lt k h2).1; have := (H1.out.hm.lt k h3).2; omega)
  have c8 : w3.cell? ⟨g, 8, none⟩ = some μ.n.v := hN3.c 8 _ rfl
  have c9 : w3.cell? ⟨g, 9, none⟩ = some μ.m.v := hN3.c 9 _ rfl
  have fr8 := hN3.fr 8
  have fr9 := hN3.fr 9
  have hB1 := H1.out.Bsize
  have hB2 := H2.out.Bsize
  clear hr3 hb3 hN3
  have hA := H3.out.rows (i := 8) (u := .slice A2 s.n.votes.length k2) (s' := ⟨{ s.n with role := 2, nxt := List.replicate s.n.votes.length ((s.n.log.length : Int) + 1) }, s.out⟩) (μ' := { μ with n := ⟨.slice A2 s.n.votes.length k2, ob2⟩ }) rfl rfl rfl rfl rfl H3.out.hv
    (by show MM.Row _ _ _ _ _ (List.replicate _ _).length _ _; rw [List.length_replicate]; exact HR2'.out.lower hB1) H3.out.hm H3.out.hf NM2.out NF2.out H3.out.mf
  have hR3 := (HR3.out.lower hB2).far (p := ⟨g, 8, none⟩) (fun k hk => ty_ne (HR3.out.ty k hk) H3.out.tyg (by decide)) (.slice A2 s.n.votes.length k2)
  have hC := hA.rows (i := 9) (u := .slice A3 s.n.votes.length k3) (s' := ⟨leadN s.n, s.out⟩) (μ' := { μ with n := ⟨.slice A2 s.n.votes.length k2, ob2⟩, m := ⟨.slice A3 s.n.votes.length k3, ob3⟩ }) rfl rfl rfl rfl rfl hA.hv hA.hn
    (by show MM.Row _ _ _ _ _ (List.replicate _ _).length _ _; rw [List.length_replicate]; exact hR3) hA.hf N23.out NF2.out NF3.out
  have HC := Lib.hid hC
  have HBC := Lib.hid ((HB3.out.setCell (p := ⟨g, 8, none⟩) H1.out.hB (.slice A2 s.n.votes.length k2)).setCell (p := ⟨g, 9, none⟩) H1.out.hB (.slice A3 s.n.votes.length k3))
  clear hA hR3 hC
  go_wp2_with fail
  refine (put_any _ B g ⟨leadN s.n, s.out⟩ _ _ HC.out HO.out hl hv hi0 hi1 (by simp [leadN]) (by simp [leadN]) (fun i hi => by
    have : i < s.n.votes.length := by simpa [leadN] using hi
    simp [leadN, List.getD_eq_getElem?_getD, this]
    omega)).mono ?_
  rintro e w5 ⟨μ5, rfl, hn5, hb5⟩
  go_wp2_with fail
  go_end0
  exact ⟨μ5, rfl, hn5, HBC.out.trans hb5⟩

end Go.Proofs.Ytnkmljdkokcdjaa
namespace Go.Proofs.Ytnkmljdkokcdjaa
open Go.RowKit Fed
set_option linter.unusedVariables false
attribute [local go_sem high] Fed.max2_int Fed.min2_int

set_option maxRecDepth 100000 in
set_option maxHeartbeats 1000000 in
theorem asks_any (w : World) (B g : Nat) (s : NS) (μ : NM) (b : Nat) (to : Nat) (h : NodeAt w B g s μ) (hb : w.heap[b]? = some (.cells #[.pointer (some ⟨g, 0, none⟩)] 79 (0, 0))) (ho : s.out.length ≤ 1000000) (hl : s.n.log.length ≤ 1000000) :
    Calls Try.prog 103 #[.int .i64 to, .pointer (some ⟨b, 0, none⟩)] w
      fun e w' => ∃ o', e = .returned (.tuple #[]) ∧ NodeAt w' B g ⟨s.n, s.out ++ [voteMsg s.n to]⟩ { μ with o := o' } ∧ Below B w w' ∧ Boxes w w' := by
  have cb : w.cell? ⟨b, 0, none⟩ = some (.pointer (some ⟨g, 0, none⟩)) := (Boxes.refl w).cell hb
  have H := Lib.hid h
  have HO := Lib.hid ho
  clear h hb ho
  go_enter Try.func103, Try.ntmps103
  go_wp2
  refine Go.RT.wp_region_tree [0, 0, 0, 4, 0, 0, 44, 124, 252, 511] (.s 0 (.p 1 (.s 2 (.s 4 (.s 5 (.w 3 [0, 4, 5] (.w 6 [0, 4] (.w 7 [0] (.p 8 (.w 9 [] .nil .stop)) .stop) .stop) .stop)))))) (by kernel_rfl) (by kernel_rfl) ?_
  (refine Go.RT.step_s rfl (fun K hK => ?_); go_simp; refine hK _ ?_; clear hK K)
  (refine Go.RT.step_p rfl (fun K hK => ?_); go_simp; refine hK _ ?_; clear hK K)
  (refine Go.RT.step_s rfl (fun K hK => ?_); go_simp; refine hK _ ?_; clear hK K)
  (refine Go.RT.step_s rfl (fun K hK => ?_); go_simp; refine hK _ ?_; clear hK K)
  (refine Go.RT.step_s rfl (fun K hK => ?_); go_simp; refine hK _ ?_; clear hK K)
  (refine Go.RT.step_w rfl rfl (fun K hK => ?_) Go.RT.step_stop)
  go_wp2_with fail
  refine (last_any _ B g _ _ (H.out.below (by repeat (first | exact Below.refl _ _ | refine Below.setCell ?_ (by simp) _ | refine Below.alloc ?_ (by simp) _ | refine Below.drew ?_)))).mono ?_
  rintro e w2 ⟨rfl, rfl⟩
  go_wp2_with fail
  refine Go.RT.QK_normal _ _ _ _ (hK _ _ ?_ ?_) <;> clear hK K
  · refine Go.RT.again_one rfl ?_ ?_; · (go_simp <;> rfl)
    refine Go.RT.again_one rfl ?_ ?_; · (go_simp <;> rfl)
    refine Go.RT.again_one rfl ?_ ?_; · (go_simp <;> rfl)
    exact Go.RT.again_nil
  (refine Go.RT.step_w rfl rfl (fun K hK => ?_) Go.RT.step_stop)
  go_wp2_with fail
  refine (last_any _ B g _ _ (H.out.below (by repeat (first | exact Below.refl _ _ | refine Below.setCell ?_ (by simp) _ | refine Below.alloc ?_ (by simp) _ | refine Below.drew ?_)))).mono ?_
  rintro e w2 ⟨rfl, rfl⟩
  go_wp2_with fail
  refine Go.RT.QK_normal _ _ _ _ (hK _ _ ?_ ?_) <;> clear hK K
  · refine Go.RT.again_one rfl ?_ ?_; · (go_simp <;> rfl)
    refine Go.RT.again_one rfl ?_ ?_; · (go_simp <;> rfl)
    exact Go.RT.again_nil
  (refine Go.RT.step_w rfl rfl (fun K hK => ?_) Go.RT.step_stop)
  go_wp2_with fail
  refine (term_any _ B g s μ _ (by omega) (by omega) (H.out.below (by repeat (first | exact Below.refl _ _ | refine Below.setCell ?_ (by simp) _ | refine Below.alloc ?_ (by simp) _ | refine Below.drew ?_)))).mono ?_
  rintro e w2 ⟨rfl, rfl⟩
  go_wp2_with fail
  refine Go.RT.QK_normal _ _ _ _ (hK _ _ ?_ ?_) <;> clear hK K
  · refine Go.RT.again_one rfl ?_ ?_; · (go_simp <;> rfl)
    exact Go.RT.again_nil
  (refine Go.RT.step_p rfl (fun K hK => ?_); go_simp; refine hK _ ?_; clear hK K)
  (refine Go.RT.step_w rfl rfl (fun K hK => ?_) Go.RT.step_stop)
  go_wp2_with fail
  refine (send_any _ B g s μ 1 0 0 0 _ _ _ _ _ false [] _ (H.out.below (by repeat (first | exact Below.refl _ _ | refine Below.setCell ?_ (by simp) _ | refine Below.alloc ?_ (by simp) _ | refine Below.drew ?_))) HO.out (MM.Rd.nil _ _ _ _ _ (by simp [maxLen]))).mono ?_
  rintro e w3 ⟨o3, rfl, hn3, hb3, hx3⟩
  go_wp2_with fail
  refine Go.RT.QK_normal _ _ _ _ (hK _ _ ?_ ?_) <;> clear hK K
  · exact Go.RT.again_nil
  refine Go.RT.step_nil ?_
  go_end0
  exact ⟨o3, rfl, hn3, Below.trans (Below.drew (Below.refl _ _)) hb3, hx3⟩

set_option maxRecDepth 100000 in
set_option maxHeartbeats 2000000 in
theorem others_asks (w : World) (B g : Nat) (s : NS) (μ : NM) (h : NodeAt w B g s μ) (b : Nat) (hbox : w.heap[b]? = some (.cells #[.pointer (some ⟨g, 0, none⟩)] 79 (0, 0))) (ho : s.out.length ≤ 900000) (hl : s.n.log.length ≤ 1000000) (hv : s.n.votes.length ≤ 1000) :
    Calls Try.prog 61 #[.pointer (some ⟨g, 0, none⟩), .func (.func 103) #[] #[.pointer (some ⟨b, 0, none⟩)]] w
      fun e w' => ∃ o', e = .returned (.tuple #[]) ∧ NodeAt w' B g ⟨s.n, s.out ++ askMsgs s.n s.n.votes.length⟩ { μ with o := o' } ∧ Below B w w' ∧ Boxes w w' := by
  have HBOX := Lib.hid hbox
  have HO := Lib.hid ho
  clear hbox ho
  have H := Lib.hid h
  clear h
  go_enter Try.func61, Try.ntmps61
  go_wp2
  refine wp_scope_jumps 0 (fun a' w' => ∃ (k : Nat) (o1 : Sl) (u5 u6 u7 u8 u9 u10 u11 u12 u13 u14 u15 u16 u17 u18 u19 u20 : Value), a' = { tmps := #[.pointer (some ⟨g, 0, none⟩), .func (.func 103) #[] #[.pointer (some ⟨b, 0, none⟩)], undef, undef, .int .i64 k, u5, u6, u7, u8, u9, u10, u11, u12, u13, u14, u15, u16, u17, u18, u19, u20], defers := [] } ∧ k ≤ s.n.votes.length ∧ NodeAt w' B g ⟨s.n, s.out ++ askMsgs s.n k⟩ { μ with o := o1 } ∧ Below B w w' ∧ Boxes w w')
    (fun a' _ => s.n.votes.length - (intOf (a'.tmps.getD 4 undef)).toNat) rfl ?_ ?_
  · go_wp2
    go_step3
    have HN : Hid (NodeAt w B g ⟨s.n, s.out ++ askMsgs s.n 0⟩ { μ with o := μ.o }) := by
      have e : s.out ++ askMsgs s.n 0 = s.out := by simp [askMsgs]
      rw [e]
      exact H.out
    have HB : Hid (Below B w w) := Below.refl _ _
    have HBX : Hid (Boxes w w) := Boxes.refl _

    have c0 : w.cell? ⟨g, 0, none⟩ = some (.int .i64 s.n.id) := HN.out.c 0 _ rfl
    by_cases hk : 0 < s.n.votes.length
    · by_cases hid : (0 : Int) = s.n.id
      · have hb : ((0 : Int) != s.n.id) = false := by simp [hid]
        have HID := Lib.hid hid
        clear hid
        go_wp2_with (go_at_call 97; refine (size_any _ B g _ _ HN.out).mono ?_; rintro e w2 ⟨rfl, rfl⟩)
        go_step3
        refine ⟨rfl, 1, μ.o, _, _, _, _, _, _, _, _, _, _, _, _, _, _, _, _, ⟨rfl, by omega, ?_, ?_⟩⟩
        · rw [askMsgs_skip (k := 0) HID.out]
          exact HN.out
        · exact ⟨HB.out, HBX.out⟩
      · have hb : ((0 : Int) != s.n.id) = true := by simpa using hid
        have HID := Lib.hid hid
        clear hid
        go_wp2_with (first | (go_at_call 97; refine (size_any _ B g _ _ HN.out).mono ?_; rintro e w2 ⟨rfl, rfl⟩) | (go_at_call 103; refine (asks_any w B g ⟨s.n, s.out ++ askMsgs s.n 0⟩ _ b 0 HN.out (HBX.out b _ _ HBOX.out) (by have := askMsgs_le s.n 0; have := HO.out; rw [List.length_append]; omega) hl).mono ?_; rintro e w2 ⟨o2, rfl, hn2, hb2, hx2⟩))
        go_step3
        refine ⟨rfl, 1, o2, _, _, _, _, _, _, _, _, _, _, _, _, _, _, _, _, ⟨rfl, by omega, ?_, ?_⟩⟩
        · rw [askMsgs_step (k := 0) HID.out, ← List.append_assoc]
          exact hn2
        · exact ⟨HB.out.trans hb2, HBX.out.trans hx2⟩
    · go_wp2_with (go_at_call 97; refine (size_any _ B g _ _ HN.out).mono ?_; rintro e w2 ⟨rfl, rfl⟩)
      simp only [Exit.jump]
      go_end0
      have e9 : s.n.votes.length = 0 := by omega
      exact ⟨_, rfl, by rw [e9]; exact HN.out, HB.out, HBX.out⟩

  · rintro a' wr ⟨k, o1, u5, u6, u7, u8, u9, u10, u11, u12, u13, u14, u15, u16, u17, u18, u19, u20, rfl, hks, hn, hb, hbx⟩
    have HN := Lib.hid hn
    have HB := Lib.hid hb
    have HBX := Lib.hid hbx
    clear hbx
    clear hn hb

    have c0 : wr.cell? ⟨g, 0, none⟩ = some (.int .i64 s.n.id) := HN.out.c 0 _ rfl
    by_cases hk : k < s.n.votes.length
    · by_cases hid : (k : Int) = s.n.id
      · have hb : ((k : Int) != s.n.id) = false := by simp [hid]
        have HID := Lib.hid hid
        clear hid
        go_wp2_with (go_at_call 97; refine (size_any _ B g _ _ HN.out).mono ?_; rintro e w2 ⟨rfl, rfl⟩)
        go_step3
        refine ⟨rfl, ⟨k + 1, o1, _, _, _, _, _, _, _, _, _, _, _, _, _, _, _, _, ⟨rfl, by omega, ?_, ?_⟩⟩, by simp [intOf]; omega⟩
        · rw [askMsgs_skip (k := k) HID.out]
          exact HN.out
        · exact ⟨HB.out, HBX.out⟩
      · have hb : ((k : Int) != s.n.id) = true := by simpa using hid
        have HID := Lib.hid hid
        clear hid
        go_wp2_with (first | (go_at_call 97; refine (size_any _ B g _ _ HN.out).mono ?_; rintro e w2 ⟨rfl, rfl⟩) | (go_at_call 103; refine (asks_any _ B g ⟨s.n, s.out ++ askMsgs s.n k⟩ _ b k HN.out (HBX.out b _ _ HBOX.out) (by have := askMsgs_le s.n k; have := HO.out; rw [List.length_append]; omega) hl).mono ?_; rintro e w2 ⟨o2, rfl, hn2, hb2, hx2⟩))
        go_step3
        refine ⟨rfl, ⟨k + 1, o2, _, _, _, _, _, _, _, _, _, _, _, _, _, _, _, _, ⟨rfl, by omega, ?_, ?_⟩⟩, by simp [intOf]; omega⟩
        · rw [askMsgs_step (k := k) HID.out, ← List.append_assoc]
          exact hn2
        · exact ⟨HB.out.trans hb2, HBX.out.trans hx2⟩
    · go_wp2_with (go_at_call 97; refine (size_any _ B g _ _ HN.out).mono ?_; rintro e w2 ⟨rfl, rfl⟩)
      simp only [Exit.jump]
      go_end0
      have e9 : s.n.votes.length = k := by omega
      exact ⟨_, rfl, by rw [e9]; exact HN.out, HB.out, HBX.out⟩


end Go.Proofs.Ytnkmljdkokcdjaa
namespace Go.Proofs.Ytnkmljdkokcdjaa
open Go.RowKit Fed
set_option linter.unusedVariables false
attribute [local go_sem high] Fed.max2_int Fed.min2_int

set_option maxRecDepth 100000 in
theorem anew_any (w : World) (B g : Nat) (s : NS) (μ : NM) (h : NodeAt w B g s μ) (hc0 : -1000000000 ≤ s.n.clock) (hc1 : s.n.clock ≤ 1000000000) (hi0 : -1000000000 ≤ s.n.id) (hi1 : s.n.id ≤ 1000000000) :
    Calls Try.prog 102 #[.pointer (some ⟨g, 0, none⟩)] w
      fun e w' => e = .returned (.tuple #[]) ∧ NodeAt w' B g ⟨{ s.n with due := s.n.clock + 5 + 2 * s.n.id }, s.out⟩ μ ∧ Below B w w' ∧ Boxes w w' := by
  have c0 : w.cell? ⟨g, 0, none⟩ = some (.int .i64 s.n.id) := h.c 0 _ rfl
  have c11 : w.cell? ⟨g, 11, none⟩ = some (.int .i64 s.n.clock) := h.c 11 _ rfl
  have c12 : w.cell? ⟨g, 12, none⟩ = some (.int .i64 s.n.due) := h.c 12 _ rfl
  have fr12 := h.fr 12
  have H := Lib.hid h
  clear h
  go_enter Try.func102, Try.ntmps102
  go_wp2
  refine Go.RT.wp_region_tree [0, 0, 2, 6, 14, 30, 62, 0, 128, 384, 896, 1920, 3968, 8190, 16383, 32767, 65535, 131071] (.p 0 (.p 1 (.p 2 (.p 3 (.p 4 (.s 5 (.p 6 (.p 7 (.p 8 (.p 9 (.p 10 (.s 11 (.p 12 (.p 13 (.p 14 (.p 15 (.p 16 (.w 17 [] .nil .stop)))))))))))))))))) (by kernel_rfl) (by kernel_rfl) ?_
  (refine Go.RT.step_p rfl (fun K hK => ?_); go_simp; refine hK _ ?_; clear hK K)
  (refine Go.RT.step_p rfl (fun K hK => ?_); go_simp; refine hK _ ?_; clear hK K)
  (refine Go.RT.step_p rfl (fun K hK => ?_); go_simp; refine hK _ ?_; clear hK K)
  (refine Go.RT.step_p rfl (fun K hK => ?_); go_simp; refine hK _ ?_; clear hK K)
  (refine Go.RT.step_p rfl (fun K hK => ?_); go_simp; refine hK _ ?_; clear hK K)
  (refine Go.RT.step_s rfl (fun K hK => ?_); go_simp; refine hK _ ?_; clear hK K)
  (refine Go.RT.step_p rfl (fun K hK => ?_); go_simp; refine hK _ ?_; clear hK K)
  (refine Go.RT.step_p rfl (fun K hK => ?_); go_simp; refine hK _ ?_; clear hK K)
  (refine Go.RT.step_p rfl (fun K hK => ?_); go_simp; refine hK _ ?_; clear hK K)
  (refine Go.RT.step_p rfl (fun K hK => ?_); go_simp; refine hK _ ?_; clear hK K)
  (refine Go.RT.step_p rfl (fun K hK => ?_); go_simp; refine hK _ ?_; clear hK K)
  (refine Go.RT.step_s rfl (fun K hK => ?_); go_simp; refine hK _ ?_; clear hK K)
  (refine Go.RT.step_p rfl (fun K hK => ?_); go_simp; refine hK _ ?_; clear hK K)
  (refine Go.RT.step_p rfl (fun K hK => ?_); go_simp; refine hK _ ?_; clear hK K)
  (refine Go.RT.step_p rfl (fun K hK => ?_); go_simp; refine hK _ ?_; clear hK K)
  (refine Go.RT.step_p rfl (fun K hK => ?_); go_simp; refine hK _ ?_; clear hK K)
  (refine Go.RT.step_p rfl (fun K hK => ?_); go_simp; refine hK _ ?_; clear hK K)
  (refine Go.RT.step_w rfl rfl (fun K hK => ?_) Go.RT.step_stop)
  go_wp2
  refine Go.RT.QK_normal _ _ _ _ (hK _ _ ?_ ?_) <;> clear hK K
  · exact Go.RT.again_nil
  refine Go.RT.step_nil ?_
  go_end0
  refine ⟨rfl, NodeAt.setg H.out.drew (by rfl) rfl rfl rfl rfl rfl rfl, ((Below.refl B w).drew).setCell H.out.hB _, ?_⟩
  exact Boxes.setCell _ _ H.out.tyg (by decide)

set_option maxRecDepth 100000 in
set_option maxHeartbeats 4000000 in
theorem stand_any (w : World) (B g : Nat) (s : NS) (μ : NM) (h : NodeAt w B g s μ) (ho : s.out.length ≤ 800000) (hl : s.n.log.length ≤ 900000) (hv : s.n.votes.length ≤ 1000) (hi0 : 0 ≤ s.n.id) (hi1 : s.n.id < s.n.votes.length) (ht0 : -1000000000 ≤ s.n.term) (ht1 : s.n.term ≤ 1000000000) (hc0 : -1000000000 ≤ s.n.clock) (hc1 : s.n.clock ≤ 1000000000) :
    Calls Try.prog 63 #[.pointer (some ⟨g, 0, none⟩)] w
      fun e w' => ∃ μ', e = .returned (.tuple #[]) ∧ NodeAt w' B g (standS s) μ' ∧ Below B w w' := by
  have hbs := h.Bsize
  have c0 : w.cell? ⟨g, 0, none⟩ = some (.int .i64 s.n.id) := h.c 0 _ rfl
  have c1 : w.cell? ⟨g, 1, none⟩ = some (.int .i64 s.n.term) := h.c 1 _ rfl
  have c2 : w.cell? ⟨g, 2, none⟩ = some (.int .i64 s.n.vote) := h.c 2 _ rfl
  have c5 : w.cell? ⟨g, 5, none⟩ = some (.int .i64 s.n.role) := h.c 5 _ rfl
  have fr1 := h.fr 1
  have hlt := h.lt
  have H := Lib.hid h
  have HO := Lib.hid ho
  clear h ho
  go_enter Try.func63, Try.ntmps63
  go_wp2
  obtain ⟨w1, hw1⟩ : ∃ W, W = (w.setCell ⟨g, 1, none⟩ (.int .i64 (s.n.term + 1))).alloc (.cells #[.pointer (some ⟨g, 0, none⟩)] 79) := ⟨_, rfl⟩
  have hN1 := (H.out.setg (i := 1) (u := .int .i64 (s.n.term + 1)) (s' := ⟨{ s.n with term := s.n.term + 1 }, s.out⟩) rfl rfl rfl rfl rfl rfl rfl).alloc (.cells #[.pointer (some ⟨g, 0, none⟩)] 79)
  have hB1 : Below B w ((w.setCell ⟨g, 1, none⟩ (.int .i64 (s.n.term + 1))).alloc (.cells #[.pointer (some ⟨g, 0, none⟩)] 79)) := ((Below.refl B w).setCell (p := ⟨g, 1, none⟩) H.out.hB _).alloc (by simp; exact hbs) _
  have hX1 : ((w.setCell ⟨g, 1, none⟩ (.int .i64 (s.n.term + 1))).alloc (.cells #[.pointer (some ⟨g, 0, none⟩)] 79)).heap[w.heap.size]? = some (.cells #[.pointer (some ⟨g, 0, none⟩)] 79 (0, 0)) := by have h9 := MM.alloc_new (w.setCell ⟨g, 1, none⟩ (.int .i64 (s.n.term + 1))) (.cells #[.pointer (some ⟨g, 0, none⟩)] 79); simpa using h9
  rw [← hw1] at hN1 hB1 hX1 ⊢
  have cb1 : w1.cell? ⟨w.heap.size, 0, none⟩ = some (.pointer (some ⟨g, 0, none⟩)) := (Boxes.refl _).cell hX1
  have HN1 := Lib.hid hN1
  have HB1 := Lib.hid hB1
  have HX1 := Lib.hid hX1
  clear hN1 hB1 hX1 hw1

  have c0 : w1.cell? ⟨g, 0, none⟩ = some (.int .i64 s.n.id) := HN1.out.c 0 _ rfl
  have c2 : w1.cell? ⟨g, 2, none⟩ = some (.int .i64 s.n.vote) := HN1.out.c 2 _ rfl
  have c5 : w1.cell? ⟨g, 5, none⟩ = some (.int .i64 s.n.role) := HN1.out.c 5 _ rfl
  have fr5 := HN1.out.fr 5
  have fr2 := HN1.out.fr 2
  go_wp2
  refine Go.RT.wp_region_tree [0, 0, 0, 4, 12, 28, 60, 125, 253, 509, 1021, 2047, 4095, 8191, 16383] (.s 0 (.s 1 (.s 2 (.p 3 (.p 4 (.p 5 (.s 6 (.p 7 (.p 8 (.p 9 (.w 10 [1] (.p 11 (.p 12 (.p 13 (.w 14 [] .nil .stop)))) .stop))))))))))) (by kernel_rfl) (by kernel_rfl) ?_
  (refine Go.RT.step_s rfl (fun K hK => ?_); go_simp; refine hK _ ?_; clear hK K)
  (refine Go.RT.step_s rfl (fun K hK => ?_); go_simp; refine hK _ ?_; clear hK K)
  (refine Go.RT.step_s rfl (fun K hK => ?_); go_simp; refine hK _ ?_; clear hK K)
  (refine Go.RT.step_p rfl (fun K hK => ?_); go_simp; refine hK _ ?_; clear hK K)
  (refine Go.RT.step_p rfl (fun K hK => ?_); go_simp; refine hK _ ?_; clear hK K)
  (refine Go.RT.step_p rfl (fun K hK => ?_); go_simp; refine hK _ ?_; clear hK K)
  (refine Go.RT.step_s rfl (fun K hK => ?_); go_simp; refine hK _ ?_; clear hK K)
  (refine Go.RT.step_p rfl (fun K hK => ?_); go_simp; refine hK _ ?_; clear hK K)
  (refine Go.RT.step_p rfl (fun K hK => ?_); go_simp; refine hK _ ?_; clear hK K)
  (refine Go.RT.step_p rfl (fun K hK => ?_); go_simp; refine hK _ ?_; clear hK K)
  (refine Go.RT.step_w rfl rfl (fun K hK => ?_) Go.RT.step_stop)
  go_wp2
  refine Go.RT.QK_normal _ _ _ _ (hK _ _ ?_ ?_) <;> clear hK K
  · refine Go.RT.again_one rfl ?_ ?_; · (go_simp <;> rfl)
    exact Go.RT.again_nil
  (refine Go.RT.step_p rfl (fun K hK => ?_); go_simp; refine hK _ ?_; clear hK K)
  (refine Go.RT.step_p rfl (fun K hK => ?_); go_simp; refine hK _ ?_; clear hK K)
  (refine Go.RT.step_p rfl (fun K hK => ?_); go_simp; refine hK _ ?_; clear hK K)
  (refine Go.RT.step_w rfl rfl (fun K hK => ?_) Go.RT.step_stop)
  go_wp2
  refine Go.RT.QK_normal _ _ _ _ (hK _ _ ?_ ?_) <;> clear hK K
  · exact Go.RT.again_nil
  refine Go.RT.step_nil ?_
  obtain ⟨w2, hw2⟩ : ∃ W, W = ((w1.setCell ⟨g, 5, none⟩ (.int .i64 1)).setCell ⟨g, 2, none⟩ (.int .i64 s.n.id)).drew := ⟨_, rfl⟩
  have hN2 := ((HN1.out.setg (i := 5) (u := .int .i64 1) (s' := ⟨{ s.n with term := s.n.term + 1, role := 1 }, s.out⟩) rfl rfl rfl rfl rfl rfl rfl).setg (i := 2) (u := .int .i64 s.n.id) (s' := ⟨{ s.n with term := s.n.term + 1, role := 1, vote := s.n.id }, s.out⟩) rfl rfl rfl rfl rfl rfl rfl).drew
  have hB2 : Below B w (((w1.setCell ⟨g, 5, none⟩ (.int .i64 1)).setCell ⟨g, 2, none⟩ (.int .i64 s.n.id)).drew) := ((HB1.out.setCell (p := ⟨g, 5, none⟩) H.out.hB _).setCell (p := ⟨g, 2, none⟩) H.out.hB _).drew
  have hX2 : (((w1.setCell ⟨g, 5, none⟩ (.int .i64 1)).setCell ⟨g, 2, none⟩ (.int .i64 s.n.id)).drew).heap[w.heap.size]? = some (.cells #[.pointer (some ⟨g, 0, none⟩)] 79 (0, 0)) := ((Boxes.setCell (p := ⟨g, 5, none⟩) _ _ HN1.out.tyg (by decide)).trans (Boxes.setCell (p := ⟨g, 2, none⟩) _ _ (HN1.out.setg (i := 5) (u := .int .i64 1) (s' := ⟨{ s.n with term := s.n.term + 1, role := 1 }, s.out⟩) rfl rfl rfl rfl rfl rfl rfl).tyg (by decide))) _ _ _ HX1.out
  rw [← hw2] at hN2 hB2 hX2 ⊢
  have cb2 : w2.cell? ⟨w.heap.size, 0, none⟩ = some (.pointer (some ⟨g, 0, none⟩)) := (Boxes.refl _).cell hX2
  have HN2 := Lib.hid hN2
  have HB2 := Lib.hid hB2
  have HX2 := Lib.hid hX2
  clear hN2 hB2 hX2 hw2

  clear c0 c2 c5 fr5 fr2 cb1
  go_wp2
  refine Go.RT.wp_region_tree [0, 0, 2, 6, 15, 31, 63, 127] (.s 0 (.s 1 (.w 2 [0] (.w 3 [0] (.p 4 (.p 5 (.p 6 (.w 7 [] .nil .stop)))) .stop) .stop))) (by kernel_rfl) (by kernel_rfl) ?_
  (refine Go.RT.step_s rfl (fun K hK => ?_); go_simp; refine hK _ ?_; clear hK K)
  (refine Go.RT.step_s rfl (fun K hK => ?_); go_simp; refine hK _ ?_; clear hK K)
  (refine Go.RT.step_w rfl rfl (fun K hK => ?_) Go.RT.step_stop)
  go_wp2_with fail
  refine (size_any _ B g _ _ (HN2.out.below (by repeat (first | exact Below.refl _ _ | refine Below.setCell ?_ (by simp) _ | refine Below.alloc ?_ (by simp) _ | refine Below.drew ?_)))).mono ?_
  rintro e w2 ⟨rfl, rfl⟩
  go_wp2_with fail
  refine Go.RT.QK_normal _ _ _ _ (hK _ _ ?_ ?_) <;> clear hK K
  · refine Go.RT.again_one rfl ?_ ?_; · (go_simp <;> rfl)
    exact Go.RT.again_nil
  (refine Go.RT.step_w rfl rfl (fun K hK => ?_) Go.RT.step_stop)
  go_wp2_with fail
  refine (filled_bool _ s.n.votes.length false hv).mono ?_
  rintro e w3 ⟨v3, ob3, rfl, hr3, hb3⟩
  go_wp2_with fail
  obtain ⟨A3, k3, rfl, _, _⟩ := hr3.slice
  have hN3 := (HN2.out.drew).below hb3
  have c7 : w3.cell? ⟨g, 7, none⟩ = some μ.v.v := hN3.c 7 _ rfl
  have fr7 := hN3.fr 7
  have cb3 : w3.cell? ⟨w.heap.size, 0, none⟩ = some (.pointer (some ⟨g, 0, none⟩)) := (Boxes.below hb3).cell HX2.out
  have hBs := HN2.out.Bsize
  have HR3 := Lib.hid (hr3.lower (base' := B) hBs)
  have HB3 := Lib.hid (HB2.out.trans (Below.trans (Below.drew (Below.refl B w2)) (hb3.mono hBs)))
  have HX3 := Lib.hid (Boxes.below hb3 _ _ _ HX2.out)
  have HN3 := Lib.hid hN3
  clear hN3 hr3 hb3
  refine Go.RT.QK_normal _ _ _ _ (hK _ _ ?_ ?_) <;> clear hK K
  · refine Go.RT.again_one rfl ?_ ?_; · (go_simp <;> rfl)
    exact Go.RT.again_nil
  (refine Go.RT.step_p rfl (fun K hK => ?_); go_simp; refine hK _ ?_; clear hK K)
  (refine Go.RT.step_p rfl (fun K hK => ?_); go_simp; refine hK _ ?_; clear hK K)
  (refine Go.RT.step_p rfl (fun K hK => ?_); go_simp; refine hK _ ?_; clear hK K)
  (refine Go.RT.step_w rfl rfl (fun K hK => ?_) Go.RT.step_stop)
  go_wp2
  refine Go.RT.QK_normal _ _ _ _ (hK _ _ ?_ ?_) <;> clear hK K
  · exact Go.RT.again_nil
  refine Go.RT.step_nil ?_
  obtain ⟨w4, hw4⟩ : ∃ W, W = w3.setCell ⟨g, 7, none⟩ (.slice A3 s.n.votes.length k3) := ⟨_, rfl⟩
  have hN4 := HN3.out.rows (i := 7) (u := .slice A3 s.n.votes.length k3) (s' := ⟨{ s.n with term := s.n.term + 1, role := 1, vote := s.n.id, votes := List.replicate s.n.votes.length false }, s.out⟩) (μ' := { μ with v := ⟨.slice A3 s.n.votes.length k3, ob3⟩ }) rfl rfl rfl rfl rfl (by show MM.Row _ _ _ _ _ (List.replicate _ _).length _ _; rw [List.length_replicate]; exact HR3.out) HN3.out.hn HN3.out.hm HN3.out.hf HN3.out.nm HN3.out.nf HN3.out.mf
  have hB4 : Below B w (w3.setCell ⟨g, 7, none⟩ (.slice A3 s.n.votes.length k3)) := HB3.out.setCell (p := ⟨g, 7, none⟩) H.out.hB _
  have hX4 : (w3.setCell ⟨g, 7, none⟩ (.slice A3 s.n.votes.length k3)).heap[w.heap.size]? = some (.cells #[.pointer (some ⟨g, 0, none⟩)] 79 (0, 0)) := (Boxes.setCell (p := ⟨g, 7, none⟩) _ _ HN3.out.tyg (by decide)) _ _ _ HX3.out
  rw [← hw4] at hN4 hB4 hX4 ⊢
  have cb4 : w4.cell? ⟨w.heap.size, 0, none⟩ = some (.pointer (some ⟨g, 0, none⟩)) := (Boxes.refl _).cell hX4
  have HN4 := Lib.hid hN4
  have HB4 := Lib.hid hB4
  have HX4 := Lib.hid hX4
  clear hN4 hB4 hX4 hw4

  clear c7 fr7 cb3 cb2
  obtain ⟨bv, hbv⟩ := HR3.out.some_of (by omega)
  have hr4 := HN4.out.hv
  rw [show ob3 = some bv from hbv] at hr4
  obtain ⟨cap, e7, q1, q2⟩ := hr4.form
  have hlen : (List.replicate s.n.votes.length false).length = s.n.votes.length := List.length_replicate
  have c7 : w4.cell? ⟨g, 7, none⟩ = some (.slice (some ⟨bv, 0, none⟩) s.n.votes.length cap) := HN4.out.c 7 _ (by
    have e8 : (Value.slice A3 s.n.votes.length k3) = .slice (some ⟨bv, 0, none⟩) (List.replicate s.n.votes.length false).length cap := e7
    rw [hlen] at e8
    rw [← e8]; rfl)
  have c0 : w4.cell? ⟨g, 0, none⟩ = some (.int .i64 s.n.id) := HN4.out.c 0 _ rfl
  have hin : s.n.id.toNat < s.n.votes.length := by omega
  have ce : w4.cell? ⟨bv, s.n.id.toNat, none⟩ = some (.bool ((List.replicate s.n.votes.length false).getD s.n.id.toNat false)) := hr4.cell (boolsC_get (by rw [hlen]; exact hin))
  have fe : w4.frozen? ⟨bv, s.n.id.toNat, none⟩ = false := hr4.free _
  have HBV := Lib.hid hbv
  have HIN := Lib.hid hin
  have HTY := Lib.hid (hr4.ty bv rfl)
  have HGE := Lib.hid (hr4.lt bv rfl).1
  clear hr4 e7 hlen hbv hin
  go_wp2
  refine Go.RT.wp_region_tree [0, 1, 3, 7, 15, 0, 32, 96, 224, 480, 1023, 2047] (.s 0 (.p 1 (.p 2 (.p 3 (.s 4 (.s 5 (.p 6 (.p 7 (.p 8 (.s 9 (.p 10 (.w 11 [] .nil .stop)))))))))))) (by kernel_rfl) (by kernel_rfl) ?_
  (refine Go.RT.step_s rfl (fun K hK => ?_); go_simp; refine hK _ ?_; clear hK K)
  (refine Go.RT.step_p rfl (fun K hK => ?_); go_simp; refine hK _ ?_; clear hK K)
  (refine Go.RT.step_p rfl (fun K hK => ?_); go_simp; refine hK _ ?_; clear hK K)
  (refine Go.RT.step_p rfl (fun K hK => ?_); go_simp; refine hK _ ?_; clear hK K)
  (refine Go.RT.step_s rfl (fun K hK => ?_); go_simp; refine hK _ ?_; clear hK K)
  (refine Go.RT.step_s rfl (fun K hK => ?_); go_simp; refine hK _ ?_; clear hK K)
  (refine Go.RT.step_p rfl (fun K hK => ?_); go_simp; refine hK _ ?_; clear hK K)
  (refine Go.RT.step_p rfl (fun K hK => ?_); go_simp; refine hK _ ?_; clear hK K)
  (refine Go.RT.step_p rfl (fun K hK => ?_); go_simp; refine hK _ ?_; clear hK K)
  (refine Go.RT.step_s rfl (fun K hK => ?_); go_simp; refine hK _ ?_; clear hK K)
  (refine Go.RT.step_p rfl (fun K hK => ?_); go_simp; refine hK _ ?_; clear hK K)
  (refine Go.RT.step_w rfl rfl (fun K hK => ?_) Go.RT.step_stop)
  go_wp2
  refine Go.RT.QK_normal _ _ _ _ (hK _ _ ?_ ?_) <;> clear hK K
  · exact Go.RT.again_nil
  refine Go.RT.step_nil ?_
  obtain ⟨w5, hw5⟩ : ∃ W, W = (w4.setCell ⟨bv, s.n.id.toNat, none⟩ (.bool true)).drew := ⟨_, rfl⟩
  have hN5 := (HN4.out.set_v (i := s.n.id.toNat) (x := true) HBV.out (by show _ < (List.replicate _ _).length; rw [List.length_replicate]; exact HIN.out)).drew
  have hB5 : Below B w ((w4.setCell ⟨bv, s.n.id.toNat, none⟩ (.bool true)).drew) := (HB4.out.setCell (p := ⟨bv, s.n.id.toNat, none⟩) HGE.out _).drew
  have hX5 : ((w4.setCell ⟨bv, s.n.id.toNat, none⟩ (.bool true)).drew).heap[w.heap.size]? = some (.cells #[.pointer (some ⟨g, 0, none⟩)] 79 (0, 0)) := (Boxes.setCell (p := ⟨bv, s.n.id.toNat, none⟩) _ _ HTY.out (by decide)) _ _ _ HX4.out
  rw [← hw5] at hN5 hB5 hX5 ⊢
  have cb5 : w5.cell? ⟨w.heap.size, 0, none⟩ = some (.pointer (some ⟨g, 0, none⟩)) := (Boxes.refl _).cell hX5
  have HN5 := Lib.hid hN5
  have HB5 := Lib.hid hB5
  have HX5 := Lib.hid hX5
  clear hN5 hB5 hX5 hw5

  clear c7 c0 ce fe cb4
  go_wp2_with fail
  refine (anew_any _ B g _ _ HN5.out hc0 hc1 (by show -1000000000 ≤ s.n.id; omega) (by show s.n.id ≤ 1000000000; omega)).mono ?_
  rintro e w6 ⟨rfl, hn6, hb6, hx6⟩
  have cb6 := hx6.cell HX5.out
  have hvl : ((List.replicate s.n.votes.length false).set s.n.id.toNat true).length = s.n.votes.length := by simp
  have HN6 := Lib.hid (show NodeAt w6 B g ⟨standN s.n, s.out⟩ _ from hn6)
  have HB6 := Lib.hid (HB5.out.trans hb6)
  have HX6 := Lib.hid (hx6 _ _ _ HX5.out)
  clear hn6 hb6 hx6 cb5
  go_wp2_with fail
  refine (others_asks _ B g _ _ HN6.out w.heap.size HX6.out (by have := HO.out; show s.out.length ≤ 900000; omega) (by show s.n.log.length ≤ 1000000; omega) (by show ((List.replicate s.n.votes.length false).set s.n.id.toNat true).length ≤ 1000; rw [hvl]; exact hv)).mono ?_
  rintro e w7 ⟨o7, rfl, hn7, hb7, hx7⟩
  have cb7 := hx7.cell HX6.out
  rw [show (⟨standN s.n, s.out⟩ : NS).n.votes.length = s.n.votes.length from hvl] at hn7
  have HN7 := Lib.hid hn7
  have HB7 := Lib.hid (HB6.out.trans hb7)
  clear hn7 hb7 hx7 cb6
  go_wp2_with fail
  refine (size_any _ B g _ _ HN7.out).mono ?_
  rintro e w9 ⟨rfl, rfl⟩
  by_cases h1 : s.n.votes.length = 1
  · have hb : (((standN s.n).votes.length : Int) == 1) = true := by rw [show (standN s.n).votes.length = s.n.votes.length from hvl]; simp [h1]
    have HS := Lib.hid (show standS s = leadS ⟨standN s.n, s.out ++ askMsgs (standN s.n) s.n.votes.length⟩ from by unfold standS; rw [if_pos h1])
    have HVL := Lib.hid hvl
    clear h1 hvl
    go_wp2_with fail
    refine (lead_any _ B g _ _ HN7.out (by have := HO.out; have := askMsgs_le (standN s.n) s.n.votes.length; show (s.out ++ askMsgs (standN s.n) s.n.votes.length).length ≤ 900000; rw [List.length_append]; omega) hl (by show (standN s.n).votes.length ≤ 1000; rw [show (standN s.n).votes.length = s.n.votes.length from HVL.out]; exact hv) hi0 (by show s.n.id < ((standN s.n).votes.length : Int); rw [show (standN s.n).votes.length = s.n.votes.length from HVL.out]; exact hi1)).mono ?_
    rintro e w8 ⟨μ8, rfl, hn8, hb8⟩
    go_wp2_with fail
    go_end0
    exact ⟨μ8, rfl, by rw [HS.out]; exact hn8, HB7.out.trans hb8⟩
  · have hb : (((standN s.n).votes.length : Int) == 1) = false := by rw [show (standN s.n).votes.length = s.n.votes.length from hvl]; simp; omega
    have HS := Lib.hid (show standS s = ⟨standN s.n, s.out ++ askMsgs (standN s.n) s.n.votes.length⟩ from by unfold standS; rw [if_neg h1])
    clear h1 hvl
    go_wp2_with fail
    go_end0
    exact ⟨_, rfl, by rw [HS.out]; exact HN7.out, HB7.out⟩

end Go.Proofs.Ytnkmljdkokcdjaa
