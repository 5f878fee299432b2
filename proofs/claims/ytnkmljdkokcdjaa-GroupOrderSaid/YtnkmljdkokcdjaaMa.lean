/-
  The methods of a node at work: size, last, within, majority, term, send, entries, others, put.
-/
import Derived.WalkKit
import Derived.WalkSpells
import Derived.Lib.Hide
import Derived.Outline
import Derived.Test.YtnkmljdkokcdjaaChecked
import Derived.Test.YtnkmljdkokcdjaaMn
import Derived.Test.YtnkmljdkokcdjaaMem
import Derived.Test.YtnkmljdkokcdjaaFed
import Derived.Test.YtnkmljdkokcdjaaClone
import Derived.ScopeJumps
import Derived.Scope
set_option linter.unusedVariables false
set_option linter.unusedSimpArgs false
namespace Go.Proofs.Ytnkmljdkokcdjaa
open Go.RowKit Fed
set_option linter.unusedVariables false
attribute [local go_sem high] Fed.max2_int Fed.min2_int

theorem size_any (w : World) (B g : Nat) (s : NS) (μ : NM) (h : NodeAt w B g s μ) :
    Calls Try.prog 97 #[.pointer (some ⟨g, 0, none⟩)] w fun e w' => e = .returned (.int .i64 s.n.votes.length) ∧ w = w' := by
  obtain ⟨A7, k7, e7, u7, _⟩ := h.hv.slice
  have c7 : w.cell? ⟨g, 7, none⟩ = some (.slice A7 s.n.votes.length k7) := h.c 7 _ (by rw [← e7]; rfl)
  have E7 := Lib.hid e7; clear e7
  have H := Lib.hid h; clear h
  go_enter Try.func97, Try.ntmps97
  go_wp2
  go_ret
  exact ⟨rfl, rfl⟩

theorem last_any (w : World) (B g : Nat) (s : NS) (μ : NM) (h : NodeAt w B g s μ) :
    Calls Try.prog 98 #[.pointer (some ⟨g, 0, none⟩)] w fun e w' => e = .returned (.int .i64 s.n.log.length) ∧ w = w' := by
  obtain ⟨A3, k3, e3, u3, _⟩ := h.hl.slice
  have c3 : w.cell? ⟨g, 3, none⟩ = some (.slice A3 s.n.log.length k3) := h.c 3 _ (by rw [← e3]; rfl)
  have E3 := Lib.hid e3; clear e3
  have H := Lib.hid h; clear h
  go_enter Try.func98, Try.ntmps98
  go_wp2
  go_ret
  exact ⟨rfl, rfl⟩

theorem within_any (w : World) (B g : Nat) (s : NS) (μ : NM) (k : Int) (h : NodeAt w B g s μ) :
    Calls Try.prog 60 #[.pointer (some ⟨g, 0, none⟩), .int .i64 k] w fun e w' => e = .returned (.bool (decide (0 ≤ k ∧ k < s.n.votes.length))) ∧ w = w' := by
  have S := Lib.hid (size_any w B g s μ h)
  by_cases h0 : 0 ≤ k
  · go_enter Try.func60, Try.ntmps60
    go_wp2_with (go_at_call 97; refine (S.out).mono ?_; rintro e w' ⟨rfl, rfl⟩)
    go_ret
    exact ⟨by simp [h0], rfl⟩
  · go_enter Try.func60, Try.ntmps60
    go_wp2_with (go_at_call 97; refine (S.out).mono ?_; rintro e w' ⟨rfl, rfl⟩)
    go_ret
    exact ⟨by simp; omega, rfl⟩

theorem majority_any (w : World) (B g : Nat) (s : NS) (μ : NM) (k : Int) (h0 : 0 ≤ k) (h1 : k ≤ 1000000000) (h : NodeAt w B g s μ) :
    Calls Try.prog 106 #[.pointer (some ⟨g, 0, none⟩), .int .i64 k] w fun e w' => e = .returned (.bool (decide ((s.n.votes.length : Int) < 2 * k))) ∧ w = w' := by
  have S := Lib.hid (size_any w B g s μ h)
  go_enter Try.func106, Try.ntmps106
  go_wp2_with (go_at_call 97; refine (S.out).mono ?_; rintro e w' ⟨rfl, rfl⟩)
  go_ret
  exact ⟨rfl, rfl⟩

theorem term_any (w : World) (B g : Nat) (s : NS) (μ : NM) (k : Int) (hk9 : -1000000000 ≤ k) (hk : k ≤ 1000000000) (h : NodeAt w B g s μ) :
    Calls Try.prog 100 #[.pointer (some ⟨g, 0, none⟩), .int .i64 k] w fun e w' => e = .returned (.int .i64 (termAt s.n.log k)) ∧ w = w' := by
  by_cases h1 : 1 ≤ k ∧ k ≤ s.n.log.length
  · obtain ⟨h1, h2⟩ := h1
    obtain ⟨b, hb⟩ := h.hl.some_of (by omega)
    have hl := h.hl
    rw [hb] at hl
    obtain ⟨cap, e3, h3, h4⟩ := hl.form
    have c3 : w.cell? ⟨g, 3, none⟩ = some (.slice (some ⟨b, 0, none⟩) s.n.log.length cap) := h.c 3 _ (by rw [← e3]; rfl)
    have hlt : (k - 1).toNat < s.n.log.length := by omega
    obtain ⟨x, hx⟩ : ∃ x, s.n.log[(k - 1).toNat]? = some x := ⟨_, List.getElem?_eq_getElem hlt⟩
    have ce := hl.cell (entsC_get hx).1
    rw [show (k - 1).toNat = k.toNat - 1 from by omega] at ce
    have ht : x.term = termAt s.n.log k := by unfold termAt; rw [if_pos ⟨h1, h2⟩, hx]; rfl
    have HT := Lib.hid ht
    have H := Lib.hid h
    clear ht h hx e3 hl hb
    have d1 : decide (k < 1) = false := by simp; omega
    have d2 : decide ((s.n.log.length : Int) < k) = false := by simp; omega
    go_enter Try.func100, Try.ntmps100
    go_wp2
    go_ret
    exact ⟨MM.ret_int HT.out, rfl⟩
  · have ht : (0 : Int) = termAt s.n.log k := by unfold termAt; rw [if_neg h1]
    have HT := Lib.hid ht
    clear ht
    obtain ⟨A3, k3, e3, u3, _⟩ := h.hl.slice
    have c3 : w.cell? ⟨g, 3, none⟩ = some (.slice A3 s.n.log.length k3) := h.c 3 _ (by rw [← e3]; rfl)
    have E3 := Lib.hid e3; clear e3
    have H := Lib.hid h
    clear h
    by_cases h2 : k < 1
    · have d1 : decide (k < 1) = true := by simpa using h2
      clear h1
      go_enter Try.func100, Try.ntmps100
      go_wp2
      go_ret
      exact ⟨MM.ret_int HT.out, rfl⟩
    · have d1 : decide (k < 1) = false := by simpa using h2
      have h3 : (s.n.log.length : Int) < k := by omega
      clear h1 h2
      go_enter Try.func100, Try.ntmps100
      go_wp2
      go_ret
      exact ⟨MM.ret_int HT.out, rfl⟩

end Go.Proofs.Ytnkmljdkokcdjaa
namespace Go.Proofs.Ytnkmljdkokcdjaa
open Go.RowKit Fed
set_option linter.unusedVariables false
attribute [local go_sem high] Fed.max2_int Fed.min2_int

set_option maxRecDepth 100000 in
theorem send_any (w : World) (B g : Nat) (s : NS) (μ : NM) (k f t tm ix lt cm fm to : Int) (ok : Bool) (es : List Entry) (ve : Value) (h : NodeAt w B g s μ) (ho : s.out.length ≤ 1000000)
    (hve : MM.Rd w (fun k => B ≤ k ∧ MM.Ty w k 40 ∧ μ.l.ob ≠ some k) 2 ve es.length (entsC es)) :
    Calls Try.prog 99 #[.pointer (some ⟨g, 0, none⟩), .int .i64 to, .agg #[.int .i64 k, .int .i64 f, .int .i64 t, .int .i64 tm, .int .i64 ix, .int .i64 lt, .bool ok, ve, .int .i64 cm, .int .i64 fm]] w
      fun e w' => ∃ o', e = .returned (.tuple #[]) ∧ NodeAt w' B g ⟨s.n, s.out ++ [⟨k, s.n.id, to, s.n.term, ix, lt, ok, es, cm, fm⟩]⟩ { μ with o := o' } ∧ Below B w w' ∧ Boxes w w' := by
  obtain ⟨i0, hi, hz0, hz1, hz2⟩ := info_parts info34
  have c0 : w.cell? ⟨g, 0, none⟩ = some (.int .i64 s.n.id) := h.c 0 _ rfl
  have c1 : w.cell? ⟨g, 1, none⟩ = some (.int .i64 s.n.term) := h.c 1 _ rfl
  have c13 : w.cell? ⟨g, 13, none⟩ = some μ.o.v := h.c 13 _ rfl
  have fr13 := h.fr 13
  obtain ⟨cs, hro, hrm⟩ := h.ho
  have hlt := h.lt
  have hbs := h.Bsize
  have one := rd_one hve
  have H := Lib.hid h
  have HR := Lib.hid hro
  have HM := Lib.hid hrm
  have HV := Lib.hid hve
  have HO := Lib.hid ho
  clear h hro hrm hve ho
  go_enter Try.func99, Try.ntmps99
  go_wp2
  refine Go.RT.wp_region_tree [0, 1, 3, 7, 15, 0, 0, 64, 192, 448, 960, 31, 2079, 6207, 14399, 32767, 65535] (.p 0 (.p 1 (.p 2 (.p 3 (.s 4 (.p 5 (.p 6 (.p 7 (.p 8 (.p 9 (.s 10 (.p 11 (.w 12 [10] (.p 13 (.w 14 [10] (.p 15 (.w 16 [] .nil .stop)) .stop)) .stop))))))))))))) (by kernel_rfl) (by kernel_rfl) ?_
  (refine Go.RT.step_p rfl (fun K hK => ?_); go_simp; refine hK _ ?_; clear hK K)
  (refine Go.RT.step_p rfl (fun K hK => ?_); go_simp; refine hK _ ?_; clear hK K)
  (refine Go.RT.step_p rfl (fun K hK => ?_); go_simp; refine hK _ ?_; clear hK K)
  (refine Go.RT.step_p rfl (fun K hK => ?_); go_simp; refine hK _ ?_; clear hK K)
  (refine Go.RT.step_s rfl (fun K hK => ?_); go_simp; refine hK _ ?_; clear hK K)
  (refine Go.RT.step_p rfl (fun K hK => ?_); go_simp; refine hK _ ?_; clear hK K)
  (refine Go.RT.step_p rfl (fun K hK => ?_); go_simp; refine hK _ ?_; clear hK K)
  (refine Go.RT.step_p rfl (fun K hK => ?_); go_simp; refine hK _ ?_; clear hK K)
  (refine Go.RT.step_p rfl (fun K hK => ?_); go_simp; refine hK _ ?_; clear hK K)
  (refine Go.RT.step_p rfl (fun K hK => ?_); go_simp; refine hK _ ?_; clear hK K)
  (refine Go.RT.step_s rfl (fun K hK => ?_); go_simp; refine hK _ ?_; clear hK K)
  (refine Go.RT.step_p rfl (fun K hK => ?_); go_simp; refine hK _ ?_; clear hK K)
  (refine Go.RT.step_w rfl rfl (fun K hK => ?_) Go.RT.step_stop)
  go_wp2
  refine Go.RT.QK_normal _ _ _ _ (hK _ _ ?_ ?_) <;> clear hK K
  · refine Go.RT.again_one rfl ?_ ?_; · (go_simp <;> rfl)
    exact Go.RT.again_nil
  (refine Go.RT.step_p rfl (fun K hK => ?_); go_simp; refine hK _ ?_; clear hK K)
  (refine Go.RT.step_w rfl rfl (fun K hK => ?_) Go.RT.step_stop)
  go_wp2
  refine Go.RT.QK_normal _ _ _ _ (hK _ _ ?_ ?_) <;> clear hK K
  · refine Go.RT.again_one rfl ?_ ?_; · (go_simp <;> rfl)
    exact Go.RT.again_nil
  (refine Go.RT.step_p rfl (fun K hK => ?_); go_simp; refine hK _ ?_; clear hK K)
  (refine Go.RT.step_w rfl rfl (fun K hK => ?_) Go.RT.step_stop)
  go_wp2
  refine Go.RT.QK_normal _ _ _ _ (hK _ _ ?_ ?_) <;> clear hK K
  · exact Go.RT.again_nil
  refine Go.RT.step_nil ?_
  go_wp2
  refine Go.RT.wp_region_tree [0, 0, 2, 6, 14, 0, 32, 126, 255, 511, 1023] (.p 0 (.p 1 (.p 2 (.p 3 (.s 4 (.s 5 (.w 6 [4] (.w 7 [] (.p 8 (.p 9 (.w 10 [] .nil .stop))) .stop) .stop))))))) (by kernel_rfl) (by kernel_rfl) ?_
  (refine Go.RT.step_p rfl (fun K hK => ?_); go_simp; refine hK _ ?_; clear hK K)
  (refine Go.RT.step_p rfl (fun K hK => ?_); go_simp; refine hK _ ?_; clear hK K)
  (refine Go.RT.step_p rfl (fun K hK => ?_); go_simp; refine hK _ ?_; clear hK K)
  (refine Go.RT.step_p rfl (fun K hK => ?_); go_simp; refine hK _ ?_; clear hK K)
  (refine Go.RT.step_s rfl (fun K hK => ?_); go_simp; refine hK _ ?_; clear hK K)
  (refine Go.RT.step_s rfl (fun K hK => ?_); go_simp; refine hK _ ?_; clear hK K)
  (refine Go.RT.step_w rfl rfl (fun K hK => ?_) Go.RT.step_stop)
  go_wp2
  refine Go.RT.QK_normal _ _ _ _ (hK _ _ ?_ ?_) <;> clear hK K
  · refine Go.RT.again_one rfl ?_ ?_; · (go_simp <;> rfl)
    exact Go.RT.again_nil
  (refine Go.RT.step_w rfl rfl (fun K hK => ?_) Go.RT.step_stop)
  refine MM.wpList_append_row _ rfl (.tmp 24) (.tmp 26) 30 rfl B 34 i0 _ 10 96 Try.underlying30 hi hz0 hz1 hz2 rfl (by decide) _ s.out.length cs μ.o.ob rfl ?_ (fun _ => True) _ 1 (msgC ⟨k, s.n.id, to, s.n.term, ix, lt, ok, es, cm, fm⟩ ve) rfl ?_ ?_ ?_ ?_ ?_ ?_
  · exact HR.out.below (by repeat (first | exact Below.refl _ _ | refine Below.setCell ?_ (by simp) _ | refine Below.alloc ?_ (by simp) _ | refine Below.drew ?_))
  · exact MM.Rd.lit (MM.alloc_new1 w _ _) trivial rfl (Nat.le_refl _) (by simp [maxLen]) rfl
  · exact msgC_one one
  · have := HO.out; simp only [maxLen]; omega
  · have := HO.out; omega
  · simp; omega
  intro v' w1 ob' hr' hg _
  obtain ⟨A', k', rfl, _, _⟩ := hr'.slice
  have c13' := H.out.gc hg (by repeat (first | exact Below.refl _ _ | refine Below.setCell ?_ (by simp) _ | refine Below.alloc ?_ (by simp) _ | refine Below.drew ?_)) HR.out.ty (by decide) 13 _ rfl
  have fr13' := H.out.gfr hg (by repeat (first | exact Below.refl _ _ | refine Below.setCell ?_ (by simp) _ | refine Below.alloc ?_ (by simp) _ | refine Below.drew ?_)) HR.out.ty (by decide) 13
  have hsz := hg.size
  have HT := Lib.hid HR.out.ty
  have HR' := Lib.hid hr'; have HG := Lib.hid hg; clear hr' hg
  go_wp2
  refine Go.RT.QK_normal _ _ _ _ (hK _ _ ?_ ?_) <;> clear hK K
  · exact Go.RT.again_nil
  (refine Go.RT.step_p rfl (fun K hK => ?_); go_simp; refine hK _ ?_; clear hK K)
  (refine Go.RT.step_p rfl (fun K hK => ?_); go_simp; refine hK _ ?_; clear hK K)
  (refine Go.RT.step_w rfl rfl (fun K hK => ?_) Go.RT.step_stop)
  go_wp2
  refine Go.RT.QK_normal _ _ _ _ (hK _ _ ?_ ?_) <;> clear hK K
  · exact Go.RT.again_nil
  refine Go.RT.step_nil ?_
  go_end0
  refine ⟨⟨_, ob'⟩, rfl, NodeAt.put_out (h := ?_) (hr := ?_) (ht := ?_) (hg := HG.out) (hrow := HR'.out) (hm := ?_), ?_⟩
  · exact H.out.below (by repeat (first | exact Below.refl _ _ | refine Below.setCell ?_ (by simp) _ | refine Below.alloc ?_ (by simp) _ | refine Below.drew ?_))
  · exact NodeAt.anyMsgs HM.out (fun k _ hk => Below.block (by repeat (first | exact Below.refl _ _ | refine Below.setCell ?_ (by simp) _ | refine Below.alloc ?_ (by simp) _ | refine Below.drew ?_)) k hk)
  · exact fun k hk => (HR.out.below (by repeat (first | exact Below.refl _ _ | refine Below.setCell ?_ (by simp) _ | refine Below.alloc ?_ (by simp) _ | refine Below.drew ?_))).ty k hk
  · exact NodeAt.anyRow HV.out (fun k _ hk => Below.block (by repeat (first | exact Below.refl _ _ | refine Below.setCell ?_ (by simp) _ | refine Below.alloc ?_ (by simp) _ | refine Below.drew ?_)) k hk)
  · refine ⟨((Below.mono (by repeat (first | exact Below.refl _ _ | refine Below.setCell ?_ (by simp) _ | refine Below.alloc ?_ (by simp) _ | refine Below.drew ?_)) hbs).grown HG.out (by simp; omega) (fun k hk => (HR.out.lt k hk).1)).setCell H.out.hB _, ?_⟩
    refine ((Boxes.below (by repeat (first | exact Below.refl _ _ | refine Below.setCell ?_ (by simp) _ | refine Below.alloc ?_ (by simp) _ | refine Below.drew ?_))).trans (Boxes.grown HG.out (fun k hk => (HR.out.below (by repeat (first | exact Below.refl _ _ | refine Below.setCell ?_ (by simp) _ | refine Below.alloc ?_ (by simp) _ | refine Below.drew ?_))).ty k hk) (by decide))).trans (Boxes.setCell (t := 82) _ _ ?_ (by decide))
    exact ⟨_, _, H.out.gblk HG.out (by repeat (first | exact Below.refl _ _ | refine Below.setCell ?_ (by simp) _ | refine Below.alloc ?_ (by simp) _ | refine Below.drew ?_)) HT.out (by decide) |>.trans H.out.blk⟩

end Go.Proofs.Ytnkmljdkokcdjaa
namespace Go.Proofs.Ytnkmljdkokcdjaa
open Go.RowKit Fed
set_option linter.unusedVariables false
attribute [local go_sem high] Fed.max2_int Fed.min2_int

set_option maxRecDepth 100000 in
set_option maxHeartbeats 1000000 in
theorem entries_any (w : World) (B g : Nat) (s : NS) (μ : NM) (to : Nat) (h : NodeAt w B g s μ) (ho : s.out.length ≤ 1000000) (hl : s.n.log.length ≤ 1000000) (ht : to < s.n.nxt.length) (hx0 : -1000000000 ≤ s.n.nxt.getD to 0) (hx1 : s.n.nxt.getD to 0 ≤ 1000000000) :
    Calls Try.prog 62 #[.pointer (some ⟨g, 0, none⟩), .int .i64 to] w
      fun e w' => ∃ o', e = .returned (.tuple #[]) ∧ NodeAt w' B g ⟨s.n, s.out ++ [entriesMsg s.n to]⟩ { μ with o := o' } ∧ Below B w w' := by
  obtain ⟨A3, k3, e3, u3, _⟩ := h.hl.slice
  have c3 : w.cell? ⟨g, 3, none⟩ = some (.slice A3 s.n.log.length k3) := h.c 3 _ (by rw [← e3]; rfl)
  have E3 := Lib.hid e3; clear e3
  have c6 : w.cell? ⟨g, 6, none⟩ = some (.int .i64 s.n.commit) := h.c 6 _ rfl
  obtain ⟨b, hb⟩ := h.hn.some_of (by omega)
  have hn := h.hn
  rw [hb] at hn
  obtain ⟨cap, e8, h3, h4⟩ := hn.form
  have c8 : w.cell? ⟨g, 8, none⟩ = some (.slice (some ⟨b, 0, none⟩) s.n.nxt.length cap) := h.c 8 _ (by rw [← e8]; rfl)
  have ce := hn.cell (intsC_get ht)
  obtain ⟨x, hx⟩ : ∃ x, x = s.n.nxt.getD to 0 := ⟨_, rfl⟩
  rw [← hx] at ce hx0 hx1
  have hA0 : 0 ≤ mx 0 (mn (x - 1) s.n.log.length) := by unfold mx; omega
  have hA1 : mx 0 (mn (x - 1) s.n.log.length) ≤ s.n.log.length := by unfold mx mn; omega
  obtain ⟨ix, hix⟩ : ∃ ix, ix = mx 0 (mn (x - 1) s.n.log.length) := ⟨_, rfl⟩
  have H := Lib.hid h
  have HX := Lib.hid hx
  have HI := Lib.hid hix
  clear h hn e8 hb hx hix
  go_enter Try.func62, Try.ntmps62
  go_wp2
  refine Go.RT.wp_region_tree [0, 1, 3, 7, 15, 0, 63, 127, 255, 0, 512, 2047, 4095, 8191] (.p 0 (.p 1 (.p 2 (.p 3 (.s 4 (.p 5 (.p 6 (.s 7 (.p 8 (.p 9 (.w 10 [4, 7] (.p 11 (.p 12 (.w 13 [] .nil .stop))) .stop))))))))))) (by kernel_rfl) (by kernel_rfl) ?_
  (refine Go.RT.step_p rfl (fun K hK => ?_); go_simp; refine hK _ ?_; clear hK K)
  (refine Go.RT.step_p rfl (fun K hK => ?_); go_simp; refine hK _ ?_; clear hK K)
  (refine Go.RT.step_p rfl (fun K hK => ?_); go_simp; refine hK _ ?_; clear hK K)
  (refine Go.RT.step_p rfl (fun K hK => ?_); go_simp; refine hK _ ?_; clear hK K)
  (refine Go.RT.step_s rfl (fun K hK => ?_); go_simp; refine hK _ ?_; clear hK K)
  (refine Go.RT.step_p rfl (fun K hK => ?_); go_simp; refine hK _ ?_; clear hK K)
  (refine Go.RT.step_p rfl (fun K hK => ?_); go_simp; refine hK _ ?_; clear hK K)
  (refine Go.RT.step_s rfl (fun K hK => ?_); go_simp; refine hK _ ?_; clear hK K)
  (refine Go.RT.step_p rfl (fun K hK => ?_); go_simp; refine hK _ ?_; clear hK K)
  (refine Go.RT.step_p rfl (fun K hK => ?_); go_simp; refine hK _ ?_; clear hK K)
  (refine Go.RT.step_w rfl rfl (fun K hK => ?_) Go.RT.step_stop)
  go_wp2_with fail
  refine (last_any _ B g s μ (H.out.below (by repeat (first | exact Below.refl _ _ | refine Below.setCell ?_ (by simp) _ | refine Below.alloc ?_ (by simp) _ | refine Below.drew ?_)))).mono ?_
  rintro e w2 ⟨rfl, rfl⟩
  go_wp2_with fail
  refine Go.RT.QK_normal _ _ _ _ (hK _ _ ?_ ?_) <;> clear hK K
  · refine Go.RT.again_one rfl ?_ ?_; · (go_simp <;> rfl)
    refine Go.RT.again_one rfl ?_ ?_; · (go_simp <;> rfl)
    exact Go.RT.again_nil
  (refine Go.RT.step_p rfl (fun K hK => ?_); go_simp; refine hK _ ?_; clear hK K)
  (refine Go.RT.step_p rfl (fun K hK => ?_); go_simp; refine hK _ ?_; clear hK K)
  (refine Go.RT.step_w rfl rfl (fun K hK => ?_) Go.RT.step_stop)
  go_wp2
  refine Go.RT.QK_normal _ _ _ _ (hK _ _ ?_ ?_) <;> clear hK K
  · exact Go.RT.again_nil
  refine Go.RT.step_nil ?_
  rw [← HI.out] at hA0 hA1 ⊢
  have hH0 : 0 ≤ mn (ix + 5) s.n.log.length := by unfold mn; omega
  have hH1 : mn (ix + 5) s.n.log.length ≤ (k3 : Int) := by unfold mn; omega
  have hH2 : ix ≤ max (mn (ix + 5) s.n.log.length) 0 := by unfold mn; omega
  have hH3 : (mn (ix + 5) s.n.log.length).toNat ≤ s.n.log.length := by unfold mn; omega
  have hH4 : ix.toNat ≤ (mn (ix + 5) s.n.log.length).toNat := by unfold mn; omega
  have HLEN := Lib.hid (show ((s.n.log.drop ix.toNat).take ((mn (ix + 5) s.n.log.length).toNat - ix.toNat)).length = (mn (ix + 5) s.n.log.length).toNat - ix.toNat from by rw [List.length_take, List.length_drop]; omega)
  have hbs := H.out.Bsize
  have HO := Lib.hid ho
  clear ho
  have HE := Lib.hid (show entriesMsg s.n to = ⟨3, s.n.id, to, s.n.term, ix, termAt s.n.log ix, false, (s.n.log.drop ix.toNat).take ((mn (ix + 5) s.n.log.length).toNat - ix.toNat), s.n.commit, 0⟩ from by unfold entriesMsg entriesAt; rw [Int.toNat_natCast, ← HX.out, ← HI.out])
  have HRD := Lib.hid (H.out.hl.rd.mono (ok' := fun _ => True) (fun _ _ _ => trivial))
  rw [E3.out] at HRD
  have hcut := HRD.out.cut hH4 hH3 (Nat.le_trans hH3 u3) (Nat.le_refl _)
  obtain ⟨AA, hAA⟩ : ∃ AA, (if k3 = ix.toNat then A3 else Option.map (fun x => x.add (ix.toNat * 2)) A3) = AA := ⟨_, rfl⟩
  rw [hAA] at hcut
  have HCUT := Lib.hid hcut
  clear hcut
  go_wp2
  refine Go.RT.wp_region_tree [0, 0, 0, 0, 0, 24, 0, 64, 192, 448, 960, 0, 0, 4096, 0, 16440, 61496, 131064, 262136, 0, 524288, 1572864, 3670016, 7864320, 16777212, 33554431] (.p 0 (.p 1 (.p 2 (.p 3 (.p 4 (.p 6 (.p 7 (.p 8 (.p 9 (.s 10 (.p 11 (.p 12 (.p 13 (.p 14 (.p 19 (.p 20 (.p 21 (.p 22 (.s 23 (.w 5 [10, 23] (.w 15 [10, 23] (.p 16 (.p 17 (.w 18 [23] (.p 24 (.w 25 [] .nil .stop)) .stop))) .stop) .stop)))))))))))))))))))) (by kernel_rfl) (by kernel_rfl) ?_
  (refine Go.RT.step_p rfl (fun K hK => ?_); go_simp; refine hK _ ?_; clear hK K)
  (refine Go.RT.step_p rfl (fun K hK => ?_); go_simp; refine hK _ ?_; clear hK K)
  (refine Go.RT.step_p rfl (fun K hK => ?_); go_simp; refine hK _ ?_; clear hK K)
  (refine Go.RT.step_p rfl (fun K hK => ?_); go_simp; refine hK _ ?_; clear hK K)
  (refine Go.RT.step_p rfl (fun K hK => ?_); go_simp; refine hK _ ?_; clear hK K)
  (refine Go.RT.step_p rfl (fun K hK => ?_); go_simp; refine hK _ ?_; clear hK K)
  (refine Go.RT.step_p rfl (fun K hK => ?_); go_simp; refine hK _ ?_; clear hK K)
  (refine Go.RT.step_p rfl (fun K hK => ?_); go_simp; refine hK _ ?_; clear hK K)
  (refine Go.RT.step_p rfl (fun K hK => ?_); go_simp; refine hK _ ?_; clear hK K)
  (refine Go.RT.step_s rfl (fun K hK => ?_); go_simp; refine hK _ ?_; clear hK K)
  (refine Go.RT.step_p rfl (fun K hK => ?_); go_simp; refine hK _ ?_; clear hK K)
  (refine Go.RT.step_p rfl (fun K hK => ?_); go_simp; refine hK _ ?_; clear hK K)
  (refine Go.RT.step_p rfl (fun K hK => ?_); go_simp; refine hK _ ?_; clear hK K)
  (refine Go.RT.step_p rfl (fun K hK => ?_); go_simp; refine hK _ ?_; clear hK K)
  (refine Go.RT.step_p rfl (fun K hK => ?_); go_simp; refine hK _ ?_; clear hK K)
  (refine Go.RT.step_p rfl (fun K hK => ?_); go_simp; refine hK _ ?_; clear hK K)
  (refine Go.RT.step_p rfl (fun K hK => ?_); go_simp; refine hK _ ?_; clear hK K)
  (refine Go.RT.step_p rfl (fun K hK => ?_); go_simp; refine hK _ ?_; clear hK K)
  (refine Go.RT.step_s rfl (fun K hK => ?_); go_simp; refine hK _ ?_; clear hK K)
  (refine Go.RT.step_w rfl rfl (fun K hK => ?_) Go.RT.step_stop)
  go_wp2_with fail
  refine (term_any _ B g s μ _ (by omega) (by omega) (H.out.below (by repeat (first | exact Below.refl _ _ | refine Below.setCell ?_ (by simp) _ | refine Below.alloc ?_ (by simp) _ | refine Below.drew ?_)))).mono ?_
  rintro e w2 ⟨rfl, rfl⟩
  go_wp2_with fail
  refine Go.RT.QK_normal _ _ _ _ (hK _ _ ?_ ?_) <;> clear hK K
  · refine Go.RT.again_one rfl ?_ ?_; · (go_simp <;> rfl)
    refine Go.RT.again_one rfl ?_ ?_; · (go_simp <;> rfl)
    exact Go.RT.again_nil
  (refine Go.RT.step_w rfl rfl (fun K hK => ?_) Go.RT.step_stop)
  go_wp2_with fail
  refine (last_any _ B g s μ (H.out.below (by repeat (first | exact Below.refl _ _ | refine Below.setCell ?_ (by simp) _ | refine Below.alloc ?_ (by simp) _ | refine Below.drew ?_)))).mono ?_
  rintro e w2 ⟨rfl, rfl⟩
  go_wp2_with fail
  refine Go.RT.QK_normal _ _ _ _ (hK _ _ ?_ ?_) <;> clear hK K
  · refine Go.RT.again_one rfl ?_ ?_; · (go_simp <;> rfl)
    refine Go.RT.again_one rfl ?_ ?_; · (go_simp <;> rfl)
    exact Go.RT.again_nil
  (refine Go.RT.step_p rfl (fun K hK => ?_); go_simp; refine hK _ ?_; clear hK K)
  (refine Go.RT.step_p rfl (fun K hK => ?_); go_simp; refine hK _ ?_; clear hK K)
  (refine Go.RT.step_w rfl rfl (fun K hK => ?_) Go.RT.step_stop)
  go_wp2_with fail
  refine (clone_entry _ (fun _ => True) _ _ _ (by exact HCUT.out.below (by repeat (first | exact Below.refl _ _ | refine Below.setCell ?_ (by simp) _ | refine Below.alloc ?_ (by simp) _ | refine Below.drew ?_))) (by rw [entsC_drop, entsC_take]; exact entsC_one _) (by omega)).mono ?_
  rintro e w2 ⟨v2, ob2, rfl, hrow, hbel⟩
  go_wp2_with fail
  obtain ⟨A2, k2, rfl, _, _⟩ := hrow.slice
  have HN := Lib.hid (NodeAt.below (H.out.below (by repeat (first | exact Below.refl _ _ | refine Below.setCell ?_ (by simp) _ | refine Below.alloc ?_ (by simp) _ | refine Below.drew ?_))) hbel)
  have c6' : w2.cell? ⟨g, 6, none⟩ = some (.int .i64 s.n.commit) := HN.out.c 6 _ rfl
  have HBL : Hid (Below B w w2) := Lib.hid (Below.trans (Below.mono (by repeat (first | exact Below.refl _ _ | refine Below.setCell ?_ (by simp) _ | refine Below.alloc ?_ (by simp) _ | refine Below.drew ?_)) hbs) (Below.mono hbel (by simp; exact hbs)))
  have HNL := Lib.hid (show ∀ k, ob2 = some k → μ.l.ob ≠ some k from fun k hk e => by
    have h1 := (hrow.lt k hk).1
    have h2 := (H.out.hl.lt k e).2
    simp at h1
    omega)
  rw [entsC_drop, entsC_take] at hrow
  have HROW := Lib.hid (hrow.lower (base' := B) (by simp; exact hbs))
  clear hrow hbel
  refine Go.RT.QK_normal _ _ _ _ (hK _ _ ?_ ?_) <;> clear hK K
  · refine Go.RT.again_one rfl ?_ ?_; · (go_simp <;> rfl)
    exact Go.RT.again_nil
  (refine Go.RT.step_p rfl (fun K hK => ?_); go_simp; refine hK _ ?_; clear hK K)
  (refine Go.RT.step_w rfl rfl (fun K hK => ?_) Go.RT.step_stop)
  go_wp2_with fail
  refine (send_any w2 B g s μ 3 0 0 0 _ _ _ _ _ false ((s.n.log.drop ix.toNat).take ((mn (ix + 5) s.n.log.length).toNat - ix.toNat)) _ HN.out HO.out (by rw [HLEN.out]; exact HROW.out.rd.mono (fun k hk hlt => ⟨(HROW.out.lt k hk).1, HROW.out.ty k hk, HNL.out k hk⟩))).mono ?_
  rintro e w3 ⟨o3, rfl, hn3, hb3, _⟩
  go_wp2_with fail
  have HN3 := Lib.hid hn3
  have HB3 := Lib.hid (HBL.out.trans hb3)
  clear hn3 hb3
  refine Go.RT.QK_normal _ _ _ _ (hK _ _ ?_ ?_) <;> clear hK K
  · exact Go.RT.again_nil
  refine Go.RT.step_nil ?_
  go_end0
  exact ⟨o3, rfl, by rw [HE.out]; exact HN3.out, HB3.out⟩

end Go.Proofs.Ytnkmljdkokcdjaa
namespace Go.Proofs.Ytnkmljdkokcdjaa
open Go.RowKit Fed
set_option linter.unusedVariables false
attribute [local go_sem high] Fed.max2_int Fed.min2_int

set_option maxRecDepth 100000 in
set_option maxHeartbeats 2000000 in
theorem others_entries (w : World) (B g : Nat) (s : NS) (μ : NM) (h : NodeAt w B g s μ) (ho : s.out.length ≤ 900000) (hl : s.n.log.length ≤ 1000000) (hv : s.n.votes.length ≤ 1000) (hnv : s.n.nxt.length = s.n.votes.length) (hx : ∀ i, i < s.n.nxt.length → -1000000000 ≤ s.n.nxt.getD i 0 ∧ s.n.nxt.getD i 0 ≤ 1000000000) :
    Calls Try.prog 61 #[.pointer (some ⟨g, 0, none⟩), .func (.func 62) #[.pointer (some ⟨g, 0, none⟩)] #[]] w
      fun e w' => ∃ o', e = .returned (.tuple #[]) ∧ NodeAt w' B g ⟨s.n, s.out ++ spreadMsgs s.n s.n.votes.length⟩ { μ with o := o' } ∧ Below B w w' := by
  have HX := Lib.hid hx
  have HNV := Lib.hid hnv
  have HO := Lib.hid ho
  clear hx hnv ho
  have H := Lib.hid h
  clear h
  go_enter Try.func61, Try.ntmps61
  go_wp2
  refine wp_scope_jumps 0 (fun a' w' => ∃ (k : Nat) (o1 : Sl) (u5 u6 u7 u8 u9 u10 u11 u12 u13 u14 u15 u16 u17 u18 u19 u20 : Value), a' = { tmps := #[.pointer (some ⟨g, 0, none⟩), .func (.func 62) #[.pointer (some ⟨g, 0, none⟩)] #[], undef, undef, .int .i64 k, u5, u6, u7, u8, u9, u10, u11, u12, u13, u14, u15, u16, u17, u18, u19, u20], defers := [] } ∧ k ≤ s.n.votes.length ∧ NodeAt w' B g ⟨s.n, s.out ++ spreadMsgs s.n k⟩ { μ with o := o1 } ∧ Below B w w')
    (fun a' _ => s.n.votes.length - (intOf (a'.tmps.getD 4 undef)).toNat) rfl ?_ ?_
  · go_wp2
    go_step3
    have HN : Hid (NodeAt w B g ⟨s.n, s.out ++ spreadMsgs s.n 0⟩ { μ with o := μ.o }) := by
      have e : s.out ++ spreadMsgs s.n 0 = s.out := by simp [spreadMsgs]
      rw [e]
      exact H.out
    have HB : Hid (Below B w w) := Below.refl _ _

    have c0 : w.cell? ⟨g, 0, none⟩ = some (.int .i64 s.n.id) := HN.out.c 0 _ rfl
    by_cases hk : 0 < s.n.votes.length
    · by_cases hid : (0 : Int) = s.n.id
      · have hb : ((0 : Int) != s.n.id) = false := by simp [hid]
        have HID := Lib.hid hid
        clear hid
        go_wp2_with (go_at_call 97; refine (size_any _ B g _ _ HN.out).mono ?_; rintro e w2 ⟨rfl, rfl⟩)
        go_step3
        refine ⟨rfl, 1, μ.o, _, _, _, _, _, _, _, _, _, _, _, _, _, _, _, _, ⟨rfl, by omega, ?_, ?_⟩⟩
        · rw [spreadMsgs_skip (k := 0) HID.out]
          exact HN.out
        · exact HB.out
      · have hb : ((0 : Int) != s.n.id) = true := by simpa using hid
        have HID := Lib.hid hid
        clear hid
        go_wp2_with (first | (go_at_call 97; refine (size_any _ B g _ _ HN.out).mono ?_; rintro e w2 ⟨rfl, rfl⟩) | (go_at_call 62; refine (entries_any w B g ⟨s.n, s.out ++ spreadMsgs s.n 0⟩ _ 0 HN.out (by have := spreadMsgs_le s.n 0; have := HO.out; rw [List.length_append]; omega) hl (by rw [HNV.out]; exact hk) (HX.out 0 (by rw [HNV.out]; exact hk)).1 (HX.out 0 (by rw [HNV.out]; exact hk)).2).mono ?_; rintro e w2 ⟨o2, rfl, hn2, hb2⟩))
        go_step3
        refine ⟨rfl, 1, o2, _, _, _, _, _, _, _, _, _, _, _, _, _, _, _, _, ⟨rfl, by omega, ?_, ?_⟩⟩
        · rw [spreadMsgs_step (k := 0) HID.out, ← List.append_assoc]
          exact hn2
        · exact HB.out.trans hb2
    · go_wp2_with (go_at_call 97; refine (size_any _ B g _ _ HN.out).mono ?_; rintro e w2 ⟨rfl, rfl⟩)
      simp only [Exit.jump]
      go_end0
      have e9 : s.n.votes.length = 0 := by omega
      exact ⟨_, rfl, by rw [e9]; exact HN.out, HB.out⟩

  · rintro a' wr ⟨k, o1, u5, u6, u7, u8, u9, u10, u11, u12, u13, u14, u15, u16, u17, u18, u19, u20, rfl, hks, hn, hb⟩
    have HN := Lib.hid hn
    have HB := Lib.hid hb
    clear hn hb

    have c0 : wr.cell? ⟨g, 0, none⟩ = some (.int .i64 s.n.id) := HN.out.c 0 _ rfl
    by_cases hk : k < s.n.votes.length
    · by_cases hid : (k : Int) = s.n.id
      · have hb : ((k : Int) != s.n.id) = false := by simp [hid]
        have HID := Lib.hid hid
        clear hid
        go_wp2_with (go_at_call 97; refine (size_any _ B g _ _ HN.out).mono ?_; rintro e w2 ⟨rfl, rfl⟩)
        go_step3
        refine ⟨rfl, ⟨k + 1, o1, _, _, _, _, _, _, _, _, _, _, _, _, _, _, _, _, ⟨rfl, by omega, ?_, ?_⟩⟩, by simp [intOf]; omega⟩
        · rw [spreadMsgs_skip (k := k) HID.out]
          exact HN.out
        · exact HB.out
      · have hb : ((k : Int) != s.n.id) = true := by simpa using hid
        have HID := Lib.hid hid
        clear hid
        go_wp2_with (first | (go_at_call 97; refine (size_any _ B g _ _ HN.out).mono ?_; rintro e w2 ⟨rfl, rfl⟩) | (go_at_call 62; refine (entries_any _ B g ⟨s.n, s.out ++ spreadMsgs s.n k⟩ _ k HN.out (by have := spreadMsgs_le s.n k; have := HO.out; rw [List.length_append]; omega) hl (by rw [HNV.out]; exact hk) (HX.out k (by rw [HNV.out]; exact hk)).1 (HX.out k (by rw [HNV.out]; exact hk)).2).mono ?_; rintro e w2 ⟨o2, rfl, hn2, hb2⟩))
        go_step3
        refine ⟨rfl, ⟨k + 1, o2, _, _, _, _, _, _, _, _, _, _, _, _, _, _, _, _, ⟨rfl, by omega, ?_, ?_⟩⟩, by simp [intOf]; omega⟩
        · rw [spreadMsgs_step (k := k) HID.out, ← List.append_assoc]
          exact hn2
        · exact HB.out.trans hb2
    · go_wp2_with (go_at_call 97; refine (size_any _ B g _ _ HN.out).mono ?_; rintro e w2 ⟨rfl, rfl⟩)
      simp only [Exit.jump]
      go_end0
      have e9 : s.n.votes.length = k := by omega
      exact ⟨_, rfl, by rw [e9]; exact HN.out, HB.out⟩


end Go.Proofs.Ytnkmljdkokcdjaa
namespace Go.Proofs.Ytnkmljdkokcdjaa
open Go.RowKit Fed
set_option linter.unusedVariables false
attribute [local go_sem high] Fed.max2_int Fed.min2_int

set_option maxRecDepth 100000 in
set_option maxHeartbeats 2000000 in
theorem put_any (w : World) (B g : Nat) (s : NS) (μ : NM) (d : ByteArray) (h : NodeAt w B g s μ) (ho : s.out.length ≤ 900000) (hl : s.n.log.length ≤ 900000) (hv : s.n.votes.length ≤ 1000) (hi0 : 0 ≤ s.n.id) (hi1 : s.n.id < s.n.votes.length) (hnv : s.n.nxt.length = s.n.votes.length) (hmv : s.n.mtch.length = s.n.votes.length) (hx : ∀ i, i < s.n.nxt.length → -1000000000 ≤ s.n.nxt.getD i 0 ∧ s.n.nxt.getD i 0 ≤ 1000000000) :
    Calls Try.prog 72 #[.pointer (some ⟨g, 0, none⟩), .string d] w
      fun e w' => ∃ μ', e = .returned (.tuple #[]) ∧ NodeAt w' B g (putS s d) μ' ∧ Below B w w' := by
  obtain ⟨i0, hi, hz0, hz1, hz2⟩ := info_parts info40
  have c0 : w.cell? ⟨g, 0, none⟩ = some (.int .i64 s.n.id) := h.c 0 _ rfl
  have c1 : w.cell? ⟨g, 1, none⟩ = some (.int .i64 s.n.term) := h.c 1 _ rfl
  obtain ⟨A3, k3, e3, u3, _⟩ := h.hl.slice
  have c3 : w.cell? ⟨g, 3, none⟩ = some (.slice A3 s.n.log.length k3) := h.c 3 _ (by rw [← e3]; rfl)
  have E3 := Lib.hid e3; clear e3
  have hbs := h.Bsize
  have hlt := h.lt
  have HL := Lib.hid h.hl
  have H := Lib.hid h
  have HX := Lib.hid hx
  have HNV := Lib.hid hnv
  have HMV := Lib.hid hmv
  have HO := Lib.hid ho
  clear h hx hnv hmv ho
  go_enter Try.func72, Try.ntmps72
  go_wp2
  refine Go.RT.wp_region_tree [0, 0, 2, 6, 14, 30, 0, 64, 192, 448, 960, 0, 4032, 8128, 16382, 32767, 65535, 131071, 262143] (.p 0 (.p 1 (.p 2 (.p 3 (.p 4 (.s 5 (.p 6 (.p 7 (.p 8 (.p 9 (.s 10 (.p 11 (.p 12 (.w 13 [5] (.w 14 [] (.p 15 (.p 16 (.p 17 (.w 18 [] .nil .stop)))) .stop) .stop)))))))))))))) (by kernel_rfl) (by kernel_rfl) ?_
  (refine Go.RT.step_p rfl (fun K hK => ?_); go_simp; refine hK _ ?_; clear hK K)
  (refine Go.RT.step_p rfl (fun K hK => ?_); go_simp; refine hK _ ?_; clear hK K)
  (refine Go.RT.step_p rfl (fun K hK => ?_); go_simp; refine hK _ ?_; clear hK K)
  (refine Go.RT.step_p rfl (fun K hK => ?_); go_simp; refine hK _ ?_; clear hK K)
  (refine Go.RT.step_p rfl (fun K hK => ?_); go_simp; refine hK _ ?_; clear hK K)
  (refine Go.RT.step_s rfl (fun K hK => ?_); go_simp; refine hK _ ?_; clear hK K)
  (refine Go.RT.step_p rfl (fun K hK => ?_); go_simp; refine hK _ ?_; clear hK K)
  (refine Go.RT.step_p rfl (fun K hK => ?_); go_simp; refine hK _ ?_; clear hK K)
  (refine Go.RT.step_p rfl (fun K hK => ?_); go_simp; refine hK _ ?_; clear hK K)
  (refine Go.RT.step_p rfl (fun K hK => ?_); go_simp; refine hK _ ?_; clear hK K)
  (refine Go.RT.step_s rfl (fun K hK => ?_); go_simp; refine hK _ ?_; clear hK K)
  (refine Go.RT.step_p rfl (fun K hK => ?_); go_simp; refine hK _ ?_; clear hK K)
  (refine Go.RT.step_p rfl (fun K hK => ?_); go_simp; refine hK _ ?_; clear hK K)
  (refine Go.RT.step_w rfl rfl (fun K hK => ?_) Go.RT.step_stop)
  go_wp2
  refine Go.RT.QK_normal _ _ _ _ (hK _ _ ?_ ?_) <;> clear hK K
  · refine Go.RT.again_one rfl ?_ ?_; · (go_simp <;> rfl)
    exact Go.RT.again_nil
  (refine Go.RT.step_w rfl rfl (fun K hK => ?_) Go.RT.step_stop)
  refine MM.wpList_append_row _ rfl (.tmp 9) (.tmp 17) 24 rfl B 40 i0 _ 2 24 Try.underlying24 hi hz0 hz1 hz2 rfl (by decide) _ s.n.log.length (entsC s.n.log) μ.l.ob rfl ?_ (fun _ => True) _ 1 [.int .i64 s.n.term, .string d] rfl ?_ ?_ ?_ ?_ ?_ ?_
  · rw [← E3.out]; exact HL.out.below (by repeat (first | exact Below.refl _ _ | refine Below.setCell ?_ (by simp) _ | refine Below.alloc ?_ (by simp) _ | refine Below.drew ?_))
  · exact MM.Rd.lit (MM.alloc_new w _) trivial rfl (Nat.le_refl _) (by simp [maxLen]) rfl
  · intro u hu; simp at hu; rcases hu with rfl | rfl <;> rfl
  · simp only [maxLen]; omega
  · omega
  · simp; omega
  intro v' w1 ob' hr' hg hob
  obtain ⟨A', k', rfl, _, _⟩ := hr'.slice
  have c3' := H.out.gc hg (by repeat (first | exact Below.refl _ _ | refine Below.setCell ?_ (by simp) _ | refine Below.alloc ?_ (by simp) _ | refine Below.drew ?_)) HL.out.ty (by decide) 3 _ rfl
  have fr3' := H.out.gfr hg (by repeat (first | exact Below.refl _ _ | refine Below.setCell ?_ (by simp) _ | refine Below.alloc ?_ (by simp) _ | refine Below.drew ?_)) HL.out.ty (by decide) 3
  have HG := Lib.hid hg
  have HOB := Lib.hid hob
  have HR' := Lib.hid (show MM.Row w1 B 40 2 (.slice A' (s.n.log.length + 1) k') (s.n.log ++ [(Entry.mk s.n.term d)]).length (entsC (s.n.log ++ [(Entry.mk s.n.term d)])) ob' from by rw [entsC_append]; simpa [entsC, entC] using hr')
  clear hr' hg hob
  go_wp2
  refine Go.RT.QK_normal _ _ _ _ (hK _ _ ?_ ?_) <;> clear hK K
  · exact Go.RT.again_nil
  (refine Go.RT.step_p rfl (fun K hK => ?_); go_simp; refine hK _ ?_; clear hK K)
  (refine Go.RT.step_p rfl (fun K hK => ?_); go_simp; refine hK _ ?_; clear hK K)
  (refine Go.RT.step_p rfl (fun K hK => ?_); go_simp; refine hK _ ?_; clear hK K)
  (refine Go.RT.step_w rfl rfl (fun K hK => ?_) Go.RT.step_stop)
  go_wp2
  refine Go.RT.QK_normal _ _ _ _ (hK _ _ ?_ ?_) <;> clear hK K
  · exact Go.RT.again_nil
  refine Go.RT.step_nil ?_
  have hb1 : Below B w (w1.setCell ⟨g, 3, none⟩ (.slice A' (s.n.log.length + 1) k')) := ((Below.mono (B' := B) (by repeat (first | exact Below.refl _ _ | refine Below.setCell ?_ (by simp) _ | refine Below.alloc ?_ (by simp) _ | refine Below.drew ?_)) hbs).grown HG.out (by simp; omega) (fun k hk => (HL.out.lt k hk).1)).setCell (p := ⟨g, 3, none⟩) H.out.hB (.slice A' (s.n.log.length + 1) k')
  have hN1 := NodeAt.put_log (H.out.below (by repeat (first | exact Below.refl _ _ | refine Below.setCell ?_ (by simp) _ | refine Below.alloc ?_ (by simp) _ | refine Below.drew ?_))) HG.out (.inr rfl) HR'.out HOB.out
  obtain ⟨w2, hw2⟩ : ∃ w2, w2 = w1.setCell ⟨g, 3, none⟩ (.slice A' (s.n.log.length + 1) k') := ⟨_, rfl⟩
  rw [← hw2] at hN1 hb1 ⊢
  have H1 := Lib.hid hN1
  have HB1 := Lib.hid hb1
  clear hN1 hb1 hw2 c0 c1 c3 c3' fr3'
  obtain ⟨bm, hbm⟩ := H1.out.hm.some_of (by show 0 < s.n.mtch.length; rw [HMV.out]; omega)
  have hrm := H1.out.hm
  rw [hbm] at hrm
  obtain ⟨capm, e9, q1, q2⟩ := hrm.form
  have c0 : w2.cell? ⟨g, 0, none⟩ = some (.int .i64 s.n.id) := H1.out.c 0 _ rfl
  have hmv2 := HMV.out
  have c9 : w2.cell? ⟨g, 9, none⟩ = some (.slice (some ⟨bm, 0, none⟩) s.n.mtch.length capm) := H1.out.c 9 _ (by rw [← e9]; rfl)
  have hin : s.n.id < (s.n.mtch.length : Int) := by omega
  have hin2 : s.n.id.toNat < s.n.mtch.length := by omega
  have ce : w2.cell? ⟨bm, s.n.id.toNat, none⟩ = some (.int .i64 (s.n.mtch.getD s.n.id.toNat 0)) := hrm.cell (intsC_get hin2)
  have fe : w2.frozen? ⟨bm, s.n.id.toNat, none⟩ = false := hrm.free _
  have HIN := Lib.hid hin2
  have HBM := Lib.hid hbm
  clear hmv2 hrm e9 hin2 hbm
  go_wp2
  refine Go.RT.wp_region_tree [0, 1, 3, 7, 15, 0, 32, 96, 224, 480, 0, 1024, 4095, 8191] (.p 0 (.p 1 (.p 2 (.p 3 (.s 4 (.p 5 (.p 6 (.p 7 (.p 8 (.s 9 (.p 10 (.w 11 [4, 9] (.p 12 (.w 13 [] .nil .stop)) .stop)))))))))))) (by kernel_rfl) (by kernel_rfl) ?_
  (refine Go.RT.step_p rfl (fun K hK => ?_); go_simp; refine hK _ ?_; clear hK K)
  (refine Go.RT.step_p rfl (fun K hK => ?_); go_simp; refine hK _ ?_; clear hK K)
  (refine Go.RT.step_p rfl (fun K hK => ?_); go_simp; refine hK _ ?_; clear hK K)
  (refine Go.RT.step_p rfl (fun K hK => ?_); go_simp; refine hK _ ?_; clear hK K)
  (refine Go.RT.step_s rfl (fun K hK => ?_); go_simp; refine hK _ ?_; clear hK K)
  (refine Go.RT.step_p rfl (fun K hK => ?_); go_simp; refine hK _ ?_; clear hK K)
  (refine Go.RT.step_p rfl (fun K hK => ?_); go_simp; refine hK _ ?_; clear hK K)
  (refine Go.RT.step_p rfl (fun K hK => ?_); go_simp; refine hK _ ?_; clear hK K)
  (refine Go.RT.step_p rfl (fun K hK => ?_); go_simp; refine hK _ ?_; clear hK K)
  (refine Go.RT.step_s rfl (fun K hK => ?_); go_simp; refine hK _ ?_; clear hK K)
  (refine Go.RT.step_p rfl (fun K hK => ?_); go_simp; refine hK _ ?_; clear hK K)
  (refine Go.RT.step_w rfl rfl (fun K hK => ?_) Go.RT.step_stop)
  go_wp2_with fail
  refine (last_any _ B g _ _ (H1.out.below (by repeat (first | exact Below.refl _ _ | refine Below.setCell ?_ (by simp) _ | refine Below.alloc ?_ (by simp) _ | refine Below.drew ?_)))).mono ?_
  rintro e w2 ⟨rfl, rfl⟩
  go_wp2_with fail
  refine Go.RT.QK_normal _ _ _ _ (hK _ _ ?_ ?_) <;> clear hK K
  · refine Go.RT.again_one rfl ?_ ?_; · (go_simp <;> rfl)
    refine Go.RT.again_one rfl ?_ ?_; · (go_simp <;> rfl)
    exact Go.RT.again_nil
  (refine Go.RT.step_p rfl (fun K hK => ?_); go_simp; refine hK _ ?_; clear hK K)
  (refine Go.RT.step_w rfl rfl (fun K hK => ?_) Go.RT.step_stop)
  go_wp2
  refine Go.RT.QK_normal _ _ _ _ (hK _ _ ?_ ?_) <;> clear hK K
  · exact Go.RT.again_nil
  refine Go.RT.step_nil ?_
  have hN2 := (H1.out.set_m (x := s.n.log.length + 1) HBM.out HIN.out).drew
  have hb2 := (HB1.out.setCell (p := ⟨bm, s.n.id.toNat, none⟩) (H1.out.hm.lt bm HBM.out).1 (.int .i64 (s.n.log.length + 1))).drew
  obtain ⟨w3, hw3⟩ : ∃ w3, w3 = (w2.setCell ⟨bm, s.n.id.toNat, none⟩ (.int .i64 (s.n.log.length + 1))).drew := ⟨_, rfl⟩
  rw [← hw3] at hN2 hb2 ⊢
  have H2 := Lib.hid hN2
  have HB2 := Lib.hid hb2
  clear hN2 hb2 hw3 c0 c9 ce fe hin
  have c6 : w3.cell? ⟨g, 6, none⟩ = some (.int .i64 s.n.commit) := H2.out.c 6 _ rfl
  have fr6 := H2.out.fr 6
  by_cases h1 : s.n.votes.length = 1
  · have hb : ((s.n.votes.length : Int) == 1) = true := by simp [h1]
    have H3 := Lib.hid (H2.out.setg (i := 6) (u := .int .i64 (s.n.log.length + 1)) (s' := ⟨putN s.n d, s.out⟩) (by simp [cellsN, putN, h1]) rfl rfl rfl rfl rfl rfl)
    have HV1 := Lib.hid h1
    clear h1
    go_wp2_with (first | (go_at_call 97; refine (size_any _ B g _ _ H2.out).mono ?_; rintro e w9 ⟨rfl, rfl⟩) | (go_at_call 98; refine (last_any _ B g _ _ H2.out).mono ?_; rintro e w9 ⟨rfl, rfl⟩) | (go_at_call 61; refine (others_entries _ B g ⟨putN s.n d, s.out⟩ _ H3.out HO.out (by show (s.n.log ++ [(Entry.mk s.n.term d)]).length ≤ 1000000; rw [List.length_append]; simp; omega) hv HNV.out HX.out).mono ?_; rintro e w9 ⟨o9, rfl, hn9, hb9⟩))
    go_end0
    exact ⟨_, rfl, hn9, (HB2.out.setCell (p := ⟨g, 6, none⟩) H.out.hB _).trans hb9⟩
  · have hb : ((s.n.votes.length : Int) == 1) = false := by simp; omega
    have hs : (⟨{ { s.n with log := s.n.log ++ [(Entry.mk s.n.term d)] } with mtch := s.n.mtch.set s.n.id.toNat (s.n.log.length + 1) }, s.out⟩ : NS) = ⟨putN s.n d, s.out⟩ := by simp [putN, h1]
    have h3 := H2.out
    rw [show _ = (⟨putN s.n d, s.out⟩ : NS) from hs] at h3
    have H3 := Lib.hid h3
    have HV1 := Lib.hid h1
    clear h1 hs h3
    go_wp2_with (first | (go_at_call 97; refine (size_any _ B g _ _ H2.out).mono ?_; rintro e w9 ⟨rfl, rfl⟩) | (go_at_call 61; refine (others_entries _ B g ⟨putN s.n d, s.out⟩ _ H3.out HO.out (by show (s.n.log ++ [(Entry.mk s.n.term d)]).length ≤ 1000000; rw [List.length_append]; simp; omega) hv HNV.out HX.out).mono ?_; rintro e w9 ⟨o9, rfl, hn9, hb9⟩))
    go_end0
    exact ⟨_, rfl, hn9, HB2.out.trans hb9⟩

end Go.Proofs.Ytnkmljdkokcdjaa
