/-
  put appends an entry of the own term, and sends it to all others.
-/
import Derived.WalkKit
import Derived.WalkSpells
import Derived.Lib.Hide
import Derived.Outline
import Derived.Test.YtnkmljdkokcdjaaChecked
import Derived.Test.YtnkmljdkokcdjaaRg
import Derived.Test.YtnkmljdkokcdjaaMem
import Derived.Test.YtnkmljdkokcdjaaFed
import Derived.Test.YtnkmljdkokcdjaaRa4
namespace Go.Proofs.Ytnkmljdkokcdjaa
open Go.RowKit Fed
set_option linter.unusedVariables false
attribute [local go_sem high] Fed.max2_int Fed.min2_int

set_option maxRecDepth 100000 in
set_option maxHeartbeats 2000000 in
theorem put_any (w : World) (B g : Nat) (s : NS) (μ : NM) (d : ByteArray) (h : NodeAt w B g s μ) (ho : s.out.length ≤ 900000) (hl : s.n.log.length ≤ 900000) (hv : s.n.votes.length ≤ 1000) (hi0 : 0 ≤ s.n.id) (hi1 : s.n.id < s.n.votes.length) (hnv : s.n.nxt.length = s.n.votes.length) (hmv : s.n.mtch.length = s.n.votes.length) (hx : ∀ i, i < s.n.nxt.length → -1000000000 ≤ s.n.nxt.getD i 0 ∧ s.n.nxt.getD i 0 ≤ 1000000000) :
    Calls Try.prog 72 #[.pointer (some ⟨g, 0, none⟩), .string d] w
      fun e w' => ∃ μ', e = .returned (.tuple #[]) ∧ NodeAt w' B g (putS s d) μ' ∧ Below B w w' := by
  obtain ⟨i0, hi, hz0, hz1, hz2⟩ := info_parts info40
  have c0 : w.cell? ⟨g, 0, none⟩ = some (.int .i64 s.n.id) := h.c 0 _ rfl
  have c1 : w.cell? ⟨g, 1, none⟩ = some (.int .i64 s.n.term) := h.c 1 _ rfl
  obtain ⟨A3, k3, e3, u3, _⟩ := h.hl.slice
  have c3 : w.cell? ⟨g, 3, none⟩ = some (.slice A3 s.n.log.length k3) := h.c 3 _ (by rw [← e3]; rfl)
  have E3 := Lib.hid e3; clear e3
  have hbs := h.Bsize
  have hlt := h.lt
  have HL := Lib.hid h.hl
  have H := Lib.hid h
  have HX := Lib.hid hx
  have HNV := Lib.hid hnv
  have HMV := Lib.hid hmv
  have HO := Lib.hid ho
  clear h hx hnv hmv ho
  go_enter Try.func72, Try.ntmps72
  go_wp2
  refine Go.RT.wp_region_tree [0, 0, 2, 6, 14, 30, 0, 64, 192, 448, 960, 0, 4032, 8128, 16382, 32767, 65535, 131071, 262143] (.p 0 (.p 1 (.p 2 (.p 3 (.p 4 (.s 5 (.p 6 (.p 7 (.p 8 (.p 9 (.s 10 (.p 11 (.p 12 (.w 13 [5] (.w 14 [] (.p 15 (.p 16 (.p 17 (.w 18 [] .nil .stop)))) .stop) .stop)))))))))))))) (by kernel_rfl) (by kernel_rfl) ?_
  (refine Go.RT.step_p rfl (fun K hK => ?_); go_simp; refine hK _ ?_; clear hK K)
  (refine Go.RT.step_p rfl (fun K hK => ?_); go_simp; refine hK _ ?_; clear hK K)
  (refine Go.RT.step_p rfl (fun K hK => ?_); go_simp; refine hK _ ?_; clear hK K)
  (refine Go.RT.step_p rfl (fun K hK => ?_); go_simp; refine hK _ ?_; clear hK K)
  (refine Go.RT.step_p rfl (fun K hK => ?_); go_simp; refine hK _ ?_; clear hK K)
  (refine Go.RT.step_s rfl (fun K hK => ?_); go_simp; refine hK _ ?_; clear hK K)
  (refine Go.RT.step_p rfl (fun K hK => ?_); go_simp; refine hK _ ?_; clear hK K)
  (refine Go.RT.step_p rfl (fun K hK => ?_); go_simp; refine hK _ ?_; clear hK K)
  (refine Go.RT.step_p rfl (fun K hK => ?_); go_simp; refine hK _ ?_; clear hK K)
  (refine Go.RT.step_p rfl (fun K hK => ?_); go_simp; refine hK _ ?_; clear hK K)
  (refine Go.RT.step_s rfl (fun K hK => ?_); go_simp; refine hK _ ?_; clear hK K)
  (refine Go.RT.step_p rfl (fun K hK => ?_); go_simp; refine hK _ ?_; clear hK K)
  (refine Go.RT.step_p rfl (fun K hK => ?_); go_simp; refine hK _ ?_; clear hK K)
  (refine Go.RT.step_w rfl rfl (fun K hK => ?_) Go.RT.step_stop)
  go_wp2
  refine Go.RT.QK_normal _ _ _ _ (hK _ _ ?_ ?_) <;> clear hK K
  · refine Go.RT.again_one rfl ?_ ?_; · (go_simp <;> rfl)
    exact Go.RT.again_nil
  (refine Go.RT.step_w rfl rfl (fun K hK => ?_) Go.RT.step_stop)
  refine MM.wpList_append_row _ rfl (.tmp 9) (.tmp 17) 24 rfl B 40 i0 _ 2 24 Try.underlying24 hi hz0 hz1 hz2 rfl (by decide) _ s.n.log.length (entsC s.n.log) μ.l.ob rfl ?_ (fun _ => True) _ 1 [.int .i64 s.n.term, .string d] rfl ?_ ?_ ?_ ?_ ?_ ?_
  · rw [← E3.out]; exact HL.out.below (by repeat (first | exact Below.refl _ _ | refine Below.setCell ?_ (by simp) _ | refine Below.alloc ?_ (by simp) _ | refine Below.drew ?_))
  · exact MM.Rd.lit (MM.alloc_new w _) trivial rfl (Nat.le_refl _) (by simp [maxLen]) rfl
  · intro u hu; simp at hu; rcases hu with rfl | rfl <;> rfl
  · simp only [maxLen]; omega
  · omega
  · simp; omega
  intro v' w1 ob' hr' hg hob
  obtain ⟨A', k', rfl, _, _⟩ := hr'.slice
  have c3' := H.out.gc hg (by repeat (first | exact Below.refl _ _ | refine Below.setCell ?_ (by simp) _ | refine Below.alloc ?_ (by simp) _ | refine Below.drew ?_)) HL.out.ty (by decide) 3 _ rfl
  have fr3' := H.out.gfr hg (by repeat (first | exact Below.refl _ _ | refine Below.setCell ?_ (by simp) _ | refine Below.alloc ?_ (by simp) _ | refine Below.drew ?_)) HL.out.ty (by decide) 3
  have HG := Lib.hid hg
  have HOB := Lib.hid hob
  have HR' := Lib.hid (show MM.Row w1 B 40 2 (.slice A' (s.n.log.length + 1) k') (s.n.log ++ [(Entry.mk s.n.term d)]).length (entsC (s.n.log ++ [(Entry.mk s.n.term d)])) ob' from by rw [entsC_append]; simpa [entsC, entC] using hr')
  clear hr' hg hob
  go_wp2
  refine Go.RT.QK_normal _ _ _ _ (hK _ _ ?_ ?_) <;> clear hK K
  · exact Go.RT.again_nil
  (refine Go.RT.step_p rfl (fun K hK => ?_); go_simp; refine hK _ ?_; clear hK K)
  (refine Go.RT.step_p rfl (fun K hK => ?_); go_simp; refine hK _ ?_; clear hK K)
  (refine Go.RT.step_p rfl (fun K hK => ?_); go_simp; refine hK _ ?_; clear hK K)
  (refine Go.RT.step_w rfl rfl (fun K hK => ?_) Go.RT.step_stop)
  go_wp2
  refine Go.RT.QK_normal _ _ _ _ (hK _ _ ?_ ?_) <;> clear hK K
  · exact Go.RT.again_nil
  refine Go.RT.step_nil ?_
  have hb1 : Below B w (w1.setCell ⟨g, 3, none⟩ (.slice A' (s.n.log.length + 1) k')) := ((Below.mono (B' := B) (by repeat (first | exact Below.refl _ _ | refine Below.setCell ?_ (by simp) _ | refine Below.alloc ?_ (by simp) _ | refine Below.drew ?_)) hbs).grown HG.out (by simp; omega) (fun k hk => (HL.out.lt k hk).1)).setCell (p := ⟨g, 3, none⟩) H.out.hB (.slice A' (s.n.log.length + 1) k')
  have hN1 := NodeAt.put_log (H.out.below (by repeat (first | exact Below.refl _ _ | refine Below.setCell ?_ (by simp) _ | refine Below.alloc ?_ (by simp) _ | refine Below.drew ?_))) HG.out (.inr rfl) HR'.out HOB.out
  obtain ⟨w2, hw2⟩ : ∃ w2, w2 = w1.setCell ⟨g, 3, none⟩ (.slice A' (s.n.log.length + 1) k') := ⟨_, rfl⟩
  rw [← hw2] at hN1 hb1 ⊢
  have H1 := Lib.hid hN1
  have HB1 := Lib.hid hb1
  clear hN1 hb1 hw2 c0 c1 c3 c3' fr3'
  obtain ⟨bm, hbm⟩ := H1.out.hm.some_of (by show 0 < s.n.mtch.length; rw [HMV.out]; omega)
  have hrm := H1.out.hm
  rw [hbm] at hrm
  obtain ⟨capm, e9, q1, q2⟩ := hrm.form
  have c0 : w2.cell? ⟨g, 0, none⟩ = some (.int .i64 s.n.id) := H1.out.c 0 _ rfl
  have hmv2 := HMV.out
  have c9 : w2.cell? ⟨g, 9, none⟩ = some (.slice (some ⟨bm, 0, none⟩) s.n.mtch.length capm) := H1.out.c 9 _ (by rw [← e9]; rfl)
  have hin : s.n.id < (s.n.mtch.length : Int) := by omega
  have hin2 : s.n.id.toNat < s.n.mtch.length := by omega
  have ce : w2.cell? ⟨bm, s.n.id.toNat, none⟩ = some (.int .i64 (s.n.mtch.getD s.n.id.toNat 0)) := hrm.cell (intsC_get hin2)
  have fe : w2.frozen? ⟨bm, s.n.id.toNat, none⟩ = false := hrm.free _
  have HIN := Lib.hid hin2
  have HBM := Lib.hid hbm
  clear hmv2 hrm e9 hin2 hbm
  go_wp2
  refine Go.RT.wp_region_tree [0, 1, 3, 7, 15, 0, 32, 96, 224, 480, 0, 1024, 4095, 8191] (.p 0 (.p 1 (.p 2 (.p 3 (.s 4 (.p 5 (.p 6 (.p 7 (.p 8 (.s 9 (.p 10 (.w 11 [4, 9] (.p 12 (.w 13 [] .nil .stop)) .stop)))))))))))) (by kernel_rfl) (by kernel_rfl) ?_
  (refine Go.RT.step_p rfl (fun K hK => ?_); go_simp; refine hK _ ?_; clear hK K)
  (refine Go.RT.step_p rfl (fun K hK => ?_); go_simp; refine hK _ ?_; clear hK K)
  (refine Go.RT.step_p rfl (fun K hK => ?_); go_simp; refine hK _ ?_; clear hK K)
  (refine Go.RT.step_p rfl (fun K hK => ?_); go_simp; refine hK _ ?_; clear hK K)
  (refine Go.RT.step_s rfl (fun K hK => ?_); go_simp; refine hK _ ?_; clear hK K)
  (refine Go.RT.step_p rfl (fun K hK => ?_); go_simp; refine hK _ ?_; clear hK K)
  (refine Go.RT.step_p rfl (fun K hK => ?_); go_simp; refine hK _ ?_; clear hK K)
  (refine Go.RT.step_p rfl (fun K hK => ?_); go_simp; refine hK _ ?_; clear hK K)
  (refine Go.RT.step_p rfl (fun K hK => ?_); go_simp; refine hK _ ?_; clear hK K)
  (refine Go.RT.step_s rfl (fun K hK => ?_); go_simp; refine hK _ ?_; clear hK K)
  (refine Go.RT.step_p rfl (fun K hK => ?_); go_simp; refine hK _ ?_; clear hK K)
  (refine Go.RT.step_w rfl rfl (fun K hK => ?_) Go.RT.step_stop)
  go_wp2_with fail
  refine (last_any _ B g _ _ (H1.out.below (by repeat (first | exact Below.refl _ _ | refine Below.setCell ?_ (by simp) _ | refine Below.alloc ?_ (by simp) _ | refine Below.drew ?_)))).mono ?_
  rintro e w2 ⟨rfl, rfl⟩
  go_wp2_with fail
  refine Go.RT.QK_normal _ _ _ _ (hK _ _ ?_ ?_) <;> clear hK K
  · refine Go.RT.again_one rfl ?_ ?_; · (go_simp <;> rfl)
    refine Go.RT.again_one rfl ?_ ?_; · (go_simp <;> rfl)
    exact Go.RT.again_nil
  (refine Go.RT.step_p rfl (fun K hK => ?_); go_simp; refine hK _ ?_; clear hK K)
  (refine Go.RT.step_w rfl rfl (fun K hK => ?_) Go.RT.step_stop)
  go_wp2
  refine Go.RT.QK_normal _ _ _ _ (hK _ _ ?_ ?_) <;> clear hK K
  · exact Go.RT.again_nil
  refine Go.RT.step_nil ?_
  have hN2 := (H1.out.set_m (x := s.n.log.length + 1) HBM.out HIN.out).drew
  have hb2 := (HB1.out.setCell (p := ⟨bm, s.n.id.toNat, none⟩) (H1.out.hm.lt bm HBM.out).1 (.int .i64 (s.n.log.length + 1))).drew
  obtain ⟨w3, hw3⟩ : ∃ w3, w3 = (w2.setCell ⟨bm, s.n.id.toNat, none⟩ (.int .i64 (s.n.log.length + 1))).drew := ⟨_, rfl⟩
  rw [← hw3] at hN2 hb2 ⊢
  have H2 := Lib.hid hN2
  have HB2 := Lib.hid hb2
  clear hN2 hb2 hw3 c0 c9 ce fe hin
  have c6 : w3.cell? ⟨g, 6, none⟩ = some (.int .i64 s.n.commit) := H2.out.c 6 _ rfl
  have fr6 := H2.out.fr 6
  by_cases h1 : s.n.votes.length = 1
  · have hb : ((s.n.votes.length : Int) == 1) = true := by simp [h1]
    have H3 := Lib.hid (H2.out.setg (i := 6) (u := .int .i64 (s.n.log.length + 1)) (s' := ⟨putN s.n d, s.out⟩) (by simp [cellsN, putN, h1]) rfl rfl rfl rfl rfl rfl)
    have HV1 := Lib.hid h1
    clear h1
    go_wp2_with (first | (go_at_call 97; refine (size_any _ B g _ _ H2.out).mono ?_; rintro e w9 ⟨rfl, rfl⟩) | (go_at_call 98; refine (last_any _ B g _ _ H2.out).mono ?_; rintro e w9 ⟨rfl, rfl⟩) | (go_at_call 61; refine (others_entries _ B g ⟨putN s.n d, s.out⟩ _ H3.out HO.out (by show (s.n.log ++ [(Entry.mk s.n.term d)]).length ≤ 1000000; rw [List.length_append]; simp; omega) hv HNV.out HX.out).mono ?_; rintro e w9 ⟨o9, rfl, hn9, hb9⟩))
    go_end0
    exact ⟨_, rfl, hn9, (HB2.out.setCell (p := ⟨g, 6, none⟩) H.out.hB _).trans hb9⟩
  · have hb : ((s.n.votes.length : Int) == 1) = false := by simp; omega
    have hs : (⟨{ { s.n with log := s.n.log ++ [(Entry.mk s.n.term d)] } with mtch := s.n.mtch.set s.n.id.toNat (s.n.log.length + 1) }, s.out⟩ : NS) = ⟨putN s.n d, s.out⟩ := by simp [putN, h1]
    have h3 := H2.out
    rw [show _ = (⟨putN s.n d, s.out⟩ : NS) from hs] at h3
    have H3 := Lib.hid h3
    have HV1 := Lib.hid h1
    clear h1 hs h3
    go_wp2_with (first | (go_at_call 97; refine (size_any _ B g _ _ H2.out).mono ?_; rintro e w9 ⟨rfl, rfl⟩) | (go_at_call 61; refine (others_entries _ B g ⟨putN s.n d, s.out⟩ _ H3.out HO.out (by show (s.n.log ++ [(Entry.mk s.n.term d)]).length ≤ 1000000; rw [List.length_append]; simp; omega) hv HNV.out HX.out).mono ?_; rintro e w9 ⟨o9, rfl, hn9, hb9⟩))
    go_end0
    exact ⟨_, rfl, hn9, HB2.out.trans hb9⟩

end Go.Proofs.Ytnkmljdkokcdjaa
