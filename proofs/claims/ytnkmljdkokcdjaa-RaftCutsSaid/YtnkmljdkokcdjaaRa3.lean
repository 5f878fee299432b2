/-
  entries sends the entries of one other node.
-/
import Derived.WalkKit
import Derived.WalkSpells
import Derived.Lib.Hide
import Derived.Outline
import Derived.Test.YtnkmljdkokcdjaaChecked
import Derived.Test.YtnkmljdkokcdjaaRg
import Derived.Test.YtnkmljdkokcdjaaMem
import Derived.Test.YtnkmljdkokcdjaaFed
import Derived.Test.YtnkmljdkokcdjaaRa2
namespace Go.Proofs.Ytnkmljdkokcdjaa
open Go.RowKit Fed
set_option linter.unusedVariables false
attribute [local go_sem high] Fed.max2_int Fed.min2_int

set_option maxRecDepth 100000 in
set_option maxHeartbeats 1000000 in
theorem entries_any (w : World) (B g : Nat) (s : NS) (μ : NM) (to : Nat) (h : NodeAt w B g s μ) (ho : s.out.length ≤ 1000000) (hl : s.n.log.length ≤ 1000000) (ht : to < s.n.nxt.length) (hx0 : -1000000000 ≤ s.n.nxt.getD to 0) (hx1 : s.n.nxt.getD to 0 ≤ 1000000000) :
    Calls Try.prog 62 #[.pointer (some ⟨g, 0, none⟩), .int .i64 to] w
      fun e w' => ∃ o', e = .returned (.tuple #[]) ∧ NodeAt w' B g ⟨s.n, s.out ++ [entriesMsg s.n to]⟩ { μ with o := o' } ∧ Below B w w' := by
  obtain ⟨A3, k3, e3, u3, _⟩ := h.hl.slice
  have c3 : w.cell? ⟨g, 3, none⟩ = some (.slice A3 s.n.log.length k3) := h.c 3 _ (by rw [← e3]; rfl)
  have E3 := Lib.hid e3; clear e3
  have c6 : w.cell? ⟨g, 6, none⟩ = some (.int .i64 s.n.commit) := h.c 6 _ rfl
  obtain ⟨b, hb⟩ := h.hn.some_of (by omega)
  have hn := h.hn
  rw [hb] at hn
  obtain ⟨cap, e8, h3, h4⟩ := hn.form
  have c8 : w.cell? ⟨g, 8, none⟩ = some (.slice (some ⟨b, 0, none⟩) s.n.nxt.length cap) := h.c 8 _ (by rw [← e8]; rfl)
  have ce := hn.cell (intsC_get ht)
  obtain ⟨x, hx⟩ : ∃ x, x = s.n.nxt.getD to 0 := ⟨_, rfl⟩
  rw [← hx] at ce hx0 hx1
  have hA0 : 0 ≤ mx 0 (mn (x - 1) s.n.log.length) := by unfold mx; omega
  have hA1 : mx 0 (mn (x - 1) s.n.log.length) ≤ s.n.log.length := by unfold mx mn; omega
  obtain ⟨ix, hix⟩ : ∃ ix, ix = mx 0 (mn (x - 1) s.n.log.length) := ⟨_, rfl⟩
  have H := Lib.hid h
  have HX := Lib.hid hx
  have HI := Lib.hid hix
  clear h hn e8 hb hx hix
  go_enter Try.func62, Try.ntmps62
  go_wp2
  refine Go.RT.wp_region_tree [0, 1, 3, 7, 15, 0, 63, 127, 255, 0, 512, 2047, 4095, 8191] (.p 0 (.p 1 (.p 2 (.p 3 (.s 4 (.p 5 (.p 6 (.s 7 (.p 8 (.p 9 (.w 10 [4, 7] (.p 11 (.p 12 (.w 13 [] .nil .stop))) .stop))))))))))) (by kernel_rfl) (by kernel_rfl) ?_
  (refine Go.RT.step_p rfl (fun K hK => ?_); go_simp; refine hK _ ?_; clear hK K)
  (refine Go.RT.step_p rfl (fun K hK => ?_); go_simp; refine hK _ ?_; clear hK K)
  (refine Go.RT.step_p rfl (fun K hK => ?_); go_simp; refine hK _ ?_; clear hK K)
  (refine Go.RT.step_p rfl (fun K hK => ?_); go_simp; refine hK _ ?_; clear hK K)
  (refine Go.RT.step_s rfl (fun K hK => ?_); go_simp; refine hK _ ?_; clear hK K)
  (refine Go.RT.step_p rfl (fun K hK => ?_); go_simp; refine hK _ ?_; clear hK K)
  (refine Go.RT.step_p rfl (fun K hK => ?_); go_simp; refine hK _ ?_; clear hK K)
  (refine Go.RT.step_s rfl (fun K hK => ?_); go_simp; refine hK _ ?_; clear hK K)
  (refine Go.RT.step_p rfl (fun K hK => ?_); go_simp; refine hK _ ?_; clear hK K)
  (refine Go.RT.step_p rfl (fun K hK => ?_); go_simp; refine hK _ ?_; clear hK K)
  (refine Go.RT.step_w rfl rfl (fun K hK => ?_) Go.RT.step_stop)
  go_wp2_with fail
  refine (last_any _ B g s μ (H.out.below (by repeat (first | exact Below.refl _ _ | refine Below.setCell ?_ (by simp) _ | refine Below.alloc ?_ (by simp) _ | refine Below.drew ?_)))).mono ?_
  rintro e w2 ⟨rfl, rfl⟩
  go_wp2_with fail
  refine Go.RT.QK_normal _ _ _ _ (hK _ _ ?_ ?_) <;> clear hK K
  · refine Go.RT.again_one rfl ?_ ?_; · (go_simp <;> rfl)
    refine Go.RT.again_one rfl ?_ ?_; · (go_simp <;> rfl)
    exact Go.RT.again_nil
  (refine Go.RT.step_p rfl (fun K hK => ?_); go_simp; refine hK _ ?_; clear hK K)
  (refine Go.RT.step_p rfl (fun K hK => ?_); go_simp; refine hK _ ?_; clear hK K)
  (refine Go.RT.step_w rfl rfl (fun K hK => ?_) Go.RT.step_stop)
  go_wp2
  refine Go.RT.QK_normal _ _ _ _ (hK _ _ ?_ ?_) <;> clear hK K
  · exact Go.RT.again_nil
  refine Go.RT.step_nil ?_
  rw [← HI.out] at hA0 hA1 ⊢
  have hH0 : 0 ≤ mn (ix + 5) s.n.log.length := by unfold mn; omega
  have hH1 : mn (ix + 5) s.n.log.length ≤ (k3 : Int) := by unfold mn; omega
  have hH2 : ix ≤ max (mn (ix + 5) s.n.log.length) 0 := by unfold mn; omega
  have hH3 : (mn (ix + 5) s.n.log.length).toNat ≤ s.n.log.length := by unfold mn; omega
  have hH4 : ix.toNat ≤ (mn (ix + 5) s.n.log.length).toNat := by unfold mn; omega
  have HLEN := Lib.hid (show ((s.n.log.drop ix.toNat).take ((mn (ix + 5) s.n.log.length).toNat - ix.toNat)).length = (mn (ix + 5) s.n.log.length).toNat - ix.toNat from by rw [List.length_take, List.length_drop]; omega)
  have hbs := H.out.Bsize
  have HO := Lib.hid ho
  clear ho
  have HE := Lib.hid (show entriesMsg s.n to = ⟨3, s.n.id, to, s.n.term, ix, termAt s.n.log ix, false, (s.n.log.drop ix.toNat).take ((mn (ix + 5) s.n.log.length).toNat - ix.toNat), s.n.commit, 0⟩ from by unfold entriesMsg entriesAt; rw [Int.toNat_natCast, ← HX.out, ← HI.out])
  have HRD := Lib.hid (H.out.hl.rd.mono (ok' := fun _ => True) (fun _ _ _ => trivial))
  rw [E3.out] at HRD
  have hcut := HRD.out.cut hH4 hH3 (Nat.le_trans hH3 u3) (Nat.le_refl _)
  obtain ⟨AA, hAA⟩ : ∃ AA, (if k3 = ix.toNat then A3 else Option.map (fun x => x.add (ix.toNat * 2)) A3) = AA := ⟨_, rfl⟩
  rw [hAA] at hcut
  have HCUT := Lib.hid hcut
  clear hcut
  go_wp2
  refine Go.RT.wp_region_tree [0, 0, 0, 0, 0, 24, 0, 64, 192, 448, 960, 0, 0, 4096, 0, 16440, 61496, 131064, 262136, 0, 524288, 1572864, 3670016, 7864320, 16777212, 33554431] (.p 0 (.p 1 (.p 2 (.p 3 (.p 4 (.p 6 (.p 7 (.p 8 (.p 9 (.s 10 (.p 11 (.p 12 (.p 13 (.p 14 (.p 19 (.p 20 (.p 21 (.p 22 (.s 23 (.w 5 [10, 23] (.w 15 [10, 23] (.p 16 (.p 17 (.w 18 [23] (.p 24 (.w 25 [] .nil .stop)) .stop))) .stop) .stop)))))))))))))))))))) (by kernel_rfl) (by kernel_rfl) ?_
  (refine Go.RT.step_p rfl (fun K hK => ?_); go_simp; refine hK _ ?_; clear hK K)
  (refine Go.RT.step_p rfl (fun K hK => ?_); go_simp; refine hK _ ?_; clear hK K)
  (refine Go.RT.step_p rfl (fun K hK => ?_); go_simp; refine hK _ ?_; clear hK K)
  (refine Go.RT.step_p rfl (fun K hK => ?_); go_simp; refine hK _ ?_; clear hK K)
  (refine Go.RT.step_p rfl (fun K hK => ?_); go_simp; refine hK _ ?_; clear hK K)
  (refine Go.RT.step_p rfl (fun K hK => ?_); go_simp; refine hK _ ?_; clear hK K)
  (refine Go.RT.step_p rfl (fun K hK => ?_); go_simp; refine hK _ ?_; clear hK K)
  (refine Go.RT.step_p rfl (fun K hK => ?_); go_simp; refine hK _ ?_; clear hK K)
  (refine Go.RT.step_p rfl (fun K hK => ?_); go_simp; refine hK _ ?_; clear hK K)
  (refine Go.RT.step_s rfl (fun K hK => ?_); go_simp; refine hK _ ?_; clear hK K)
  (refine Go.RT.step_p rfl (fun K hK => ?_); go_simp; refine hK _ ?_; clear hK K)
  (refine Go.RT.step_p rfl (fun K hK => ?_); go_simp; refine hK _ ?_; clear hK K)
  (refine Go.RT.step_p rfl (fun K hK => ?_); go_simp; refine hK _ ?_; clear hK K)
  (refine Go.RT.step_p rfl (fun K hK => ?_); go_simp; refine hK _ ?_; clear hK K)
  (refine Go.RT.step_p rfl (fun K hK => ?_); go_simp; refine hK _ ?_; clear hK K)
  (refine Go.RT.step_p rfl (fun K hK => ?_); go_simp; refine hK _ ?_; clear hK K)
  (refine Go.RT.step_p rfl (fun K hK => ?_); go_simp; refine hK _ ?_; clear hK K)
  (refine Go.RT.step_p rfl (fun K hK => ?_); go_simp; refine hK _ ?_; clear hK K)
  (refine Go.RT.step_s rfl (fun K hK => ?_); go_simp; refine hK _ ?_; clear hK K)
  (refine Go.RT.step_w rfl rfl (fun K hK => ?_) Go.RT.step_stop)
  go_wp2_with fail
  refine (term_any _ B g s μ _ (by omega) (by omega) (H.out.below (by repeat (first | exact Below.refl _ _ | refine Below.setCell ?_ (by simp) _ | refine Below.alloc ?_ (by simp) _ | refine Below.drew ?_)))).mono ?_
  rintro e w2 ⟨rfl, rfl⟩
  go_wp2_with fail
  refine Go.RT.QK_normal _ _ _ _ (hK _ _ ?_ ?_) <;> clear hK K
  · refine Go.RT.again_one rfl ?_ ?_; · (go_simp <;> rfl)
    refine Go.RT.again_one rfl ?_ ?_; · (go_simp <;> rfl)
    exact Go.RT.again_nil
  (refine Go.RT.step_w rfl rfl (fun K hK => ?_) Go.RT.step_stop)
  go_wp2_with fail
  refine (last_any _ B g s μ (H.out.below (by repeat (first | exact Below.refl _ _ | refine Below.setCell ?_ (by simp) _ | refine Below.alloc ?_ (by simp) _ | refine Below.drew ?_)))).mono ?_
  rintro e w2 ⟨rfl, rfl⟩
  go_wp2_with fail
  refine Go.RT.QK_normal _ _ _ _ (hK _ _ ?_ ?_) <;> clear hK K
  · refine Go.RT.again_one rfl ?_ ?_; · (go_simp <;> rfl)
    refine Go.RT.again_one rfl ?_ ?_; · (go_simp <;> rfl)
    exact Go.RT.again_nil
  (refine Go.RT.step_p rfl (fun K hK => ?_); go_simp; refine hK _ ?_; clear hK K)
  (refine Go.RT.step_p rfl (fun K hK => ?_); go_simp; refine hK _ ?_; clear hK K)
  (refine Go.RT.step_w rfl rfl (fun K hK => ?_) Go.RT.step_stop)
  go_wp2_with fail
  refine (clone_entry _ (fun _ => True) _ _ _ (by exact HCUT.out.below (by repeat (first | exact Below.refl _ _ | refine Below.setCell ?_ (by simp) _ | refine Below.alloc ?_ (by simp) _ | refine Below.drew ?_))) (by rw [entsC_drop, entsC_take]; exact entsC_one _) (by omega)).mono ?_
  rintro e w2 ⟨v2, ob2, rfl, hrow, hbel⟩
  go_wp2_with fail
  obtain ⟨A2, k2, rfl, _, _⟩ := hrow.slice
  have HN := Lib.hid (NodeAt.below (H.out.below (by repeat (first | exact Below.refl _ _ | refine Below.setCell ?_ (by simp) _ | refine Below.alloc ?_ (by simp) _ | refine Below.drew ?_))) hbel)
  have c6' : w2.cell? ⟨g, 6, none⟩ = some (.int .i64 s.n.commit) := HN.out.c 6 _ rfl
  have HBL : Hid (Below B w w2) := Lib.hid (Below.trans (Below.mono (by repeat (first | exact Below.refl _ _ | refine Below.setCell ?_ (by simp) _ | refine Below.alloc ?_ (by simp) _ | refine Below.drew ?_)) hbs) (Below.mono hbel (by simp; exact hbs)))
  have HNL := Lib.hid (show ∀ k, ob2 = some k → μ.l.ob ≠ some k from fun k hk e => by
    have h1 := (hrow.lt k hk).1
    have h2 := (H.out.hl.lt k e).2
    simp at h1
    omega)
  rw [entsC_drop, entsC_take] at hrow
  have HROW := Lib.hid (hrow.lower (base' := B) (by simp; exact hbs))
  clear hrow hbel
  refine Go.RT.QK_normal _ _ _ _ (hK _ _ ?_ ?_) <;> clear hK K
  · refine Go.RT.again_one rfl ?_ ?_; · (go_simp <;> rfl)
    exact Go.RT.again_nil
  (refine Go.RT.step_p rfl (fun K hK => ?_); go_simp; refine hK _ ?_; clear hK K)
  (refine Go.RT.step_w rfl rfl (fun K hK => ?_) Go.RT.step_stop)
  go_wp2_with fail
  refine (send_any w2 B g s μ 3 0 0 0 _ _ _ _ _ false ((s.n.log.drop ix.toNat).take ((mn (ix + 5) s.n.log.length).toNat - ix.toNat)) _ HN.out HO.out (by rw [HLEN.out]; exact HROW.out.rd.mono (fun k hk hlt => ⟨(HROW.out.lt k hk).1, HROW.out.ty k hk, HNL.out k hk⟩))).mono ?_
  rintro e w3 ⟨o3, rfl, hn3, hb3, _⟩
  go_wp2_with fail
  have HN3 := Lib.hid hn3
  have HB3 := Lib.hid (HBL.out.trans hb3)
  clear hn3 hb3
  refine Go.RT.QK_normal _ _ _ _ (hK _ _ ?_ ?_) <;> clear hK K
  · exact Go.RT.again_nil
  refine Go.RT.step_nil ?_
  go_end0
  exact ⟨o3, rfl, by rw [HE.out]; exact HN3.out, HB3.out⟩

end Go.Proofs.Ytnkmljdkokcdjaa
