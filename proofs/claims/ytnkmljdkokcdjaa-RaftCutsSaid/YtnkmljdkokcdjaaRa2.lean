/-
  send appends a message to what a node sends.
-/
import Derived.WalkKit
import Derived.WalkSpells
import Derived.Lib.Hide
import Derived.Outline
import Derived.Test.YtnkmljdkokcdjaaChecked
import Derived.Test.YtnkmljdkokcdjaaRg
import Derived.Test.YtnkmljdkokcdjaaMem
import Derived.Test.YtnkmljdkokcdjaaFed
import Derived.Test.YtnkmljdkokcdjaaClone
import Derived.Test.YtnkmljdkokcdjaaRa1
namespace Go.Proofs.Ytnkmljdkokcdjaa
open Go.RowKit Fed
set_option linter.unusedVariables false
attribute [local go_sem high] Fed.max2_int Fed.min2_int

set_option maxRecDepth 100000 in
theorem send_any (w : World) (B g : Nat) (s : NS) (μ : NM) (k f t tm ix lt cm fm to : Int) (ok : Bool) (es : List Entry) (ve : Value) (h : NodeAt w B g s μ) (ho : s.out.length ≤ 1000000)
    (hve : MM.Rd w (fun k => B ≤ k ∧ MM.Ty w k 40 ∧ μ.l.ob ≠ some k) 2 ve es.length (entsC es)) :
    Calls Try.prog 99 #[.pointer (some ⟨g, 0, none⟩), .int .i64 to, .agg #[.int .i64 k, .int .i64 f, .int .i64 t, .int .i64 tm, .int .i64 ix, .int .i64 lt, .bool ok, ve, .int .i64 cm, .int .i64 fm]] w
      fun e w' => ∃ o', e = .returned (.tuple #[]) ∧ NodeAt w' B g ⟨s.n, s.out ++ [⟨k, s.n.id, to, s.n.term, ix, lt, ok, es, cm, fm⟩]⟩ { μ with o := o' } ∧ Below B w w' ∧ Boxes w w' := by
  obtain ⟨i0, hi, hz0, hz1, hz2⟩ := info_parts info34
  have c0 : w.cell? ⟨g, 0, none⟩ = some (.int .i64 s.n.id) := h.c 0 _ rfl
  have c1 : w.cell? ⟨g, 1, none⟩ = some (.int .i64 s.n.term) := h.c 1 _ rfl
  have c13 : w.cell? ⟨g, 13, none⟩ = some μ.o.v := h.c 13 _ rfl
  have fr13 := h.fr 13
  obtain ⟨cs, hro, hrm⟩ := h.ho
  have hlt := h.lt
  have hbs := h.Bsize
  have one := rd_one hve
  have H := Lib.hid h
  have HR := Lib.hid hro
  have HM := Lib.hid hrm
  have HV := Lib.hid hve
  have HO := Lib.hid ho
  clear h hro hrm hve ho
  go_enter Try.func99, Try.ntmps99
  go_wp2
  refine Go.RT.wp_region_tree [0, 1, 3, 7, 15, 0, 0, 64, 192, 448, 960, 31, 2079, 6207, 14399, 32767, 65535] (.p 0 (.p 1 (.p 2 (.p 3 (.s 4 (.p 5 (.p 6 (.p 7 (.p 8 (.p 9 (.s 10 (.p 11 (.w 12 [10] (.p 13 (.w 14 [10] (.p 15 (.w 16 [] .nil .stop)) .stop)) .stop))))))))))))) (by kernel_rfl) (by kernel_rfl) ?_
  (refine Go.RT.step_p rfl (fun K hK => ?_); go_simp; refine hK _ ?_; clear hK K)
  (refine Go.RT.step_p rfl (fun K hK => ?_); go_simp; refine hK _ ?_; clear hK K)
  (refine Go.RT.step_p rfl (fun K hK => ?_); go_simp; refine hK _ ?_; clear hK K)
  (refine Go.RT.step_p rfl (fun K hK => ?_); go_simp; refine hK _ ?_; clear hK K)
  (refine Go.RT.step_s rfl (fun K hK => ?_); go_simp; refine hK _ ?_; clear hK K)
  (refine Go.RT.step_p rfl (fun K hK => ?_); go_simp; refine hK _ ?_; clear hK K)
  (refine Go.RT.step_p rfl (fun K hK => ?_); go_simp; refine hK _ ?_; clear hK K)
  (refine Go.RT.step_p rfl (fun K hK => ?_); go_simp; refine hK _ ?_; clear hK K)
  (refine Go.RT.step_p rfl (fun K hK => ?_); go_simp; refine hK _ ?_; clear hK K)
  (refine Go.RT.step_p rfl (fun K hK => ?_); go_simp; refine hK _ ?_; clear hK K)
  (refine Go.RT.step_s rfl (fun K hK => ?_); go_simp; refine hK _ ?_; clear hK K)
  (refine Go.RT.step_p rfl (fun K hK => ?_); go_simp; refine hK _ ?_; clear hK K)
  (refine Go.RT.step_w rfl rfl (fun K hK => ?_) Go.RT.step_stop)
  go_wp2
  refine Go.RT.QK_normal _ _ _ _ (hK _ _ ?_ ?_) <;> clear hK K
  · refine Go.RT.again_one rfl ?_ ?_; · (go_simp <;> rfl)
    exact Go.RT.again_nil
  (refine Go.RT.step_p rfl (fun K hK => ?_); go_simp; refine hK _ ?_; clear hK K)
  (refine Go.RT.step_w rfl rfl (fun K hK => ?_) Go.RT.step_stop)
  go_wp2
  refine Go.RT.QK_normal _ _ _ _ (hK _ _ ?_ ?_) <;> clear hK K
  · refine Go.RT.again_one rfl ?_ ?_; · (go_simp <;> rfl)
    exact Go.RT.again_nil
  (refine Go.RT.step_p rfl (fun K hK => ?_); go_simp; refine hK _ ?_; clear hK K)
  (refine Go.RT.step_w rfl rfl (fun K hK => ?_) Go.RT.step_stop)
  go_wp2
  refine Go.RT.QK_normal _ _ _ _ (hK _ _ ?_ ?_) <;> clear hK K
  · exact Go.RT.again_nil
  refine Go.RT.step_nil ?_
  go_wp2
  refine Go.RT.wp_region_tree [0, 0, 2, 6, 14, 0, 32, 126, 255, 511, 1023] (.p 0 (.p 1 (.p 2 (.p 3 (.s 4 (.s 5 (.w 6 [4] (.w 7 [] (.p 8 (.p 9 (.w 10 [] .nil .stop))) .stop) .stop))))))) (by kernel_rfl) (by kernel_rfl) ?_
  (refine Go.RT.step_p rfl (fun K hK => ?_); go_simp; refine hK _ ?_; clear hK K)
  (refine Go.RT.step_p rfl (fun K hK => ?_); go_simp; refine hK _ ?_; clear hK K)
  (refine Go.RT.step_p rfl (fun K hK => ?_); go_simp; refine hK _ ?_; clear hK K)
  (refine Go.RT.step_p rfl (fun K hK => ?_); go_simp; refine hK _ ?_; clear hK K)
  (refine Go.RT.step_s rfl (fun K hK => ?_); go_simp; refine hK _ ?_; clear hK K)
  (refine Go.RT.step_s rfl (fun K hK => ?_); go_simp; refine hK _ ?_; clear hK K)
  (refine Go.RT.step_w rfl rfl (fun K hK => ?_) Go.RT.step_stop)
  go_wp2
  refine Go.RT.QK_normal _ _ _ _ (hK _ _ ?_ ?_) <;> clear hK K
  · refine Go.RT.again_one rfl ?_ ?_; · (go_simp <;> rfl)
    exact Go.RT.again_nil
  (refine Go.RT.step_w rfl rfl (fun K hK => ?_) Go.RT.step_stop)
  refine MM.wpList_append_row _ rfl (.tmp 24) (.tmp 26) 30 rfl B 34 i0 _ 10 96 Try.underlying30 hi hz0 hz1 hz2 rfl (by decide) _ s.out.length cs μ.o.ob rfl ?_ (fun _ => True) _ 1 (msgC ⟨k, s.n.id, to, s.n.term, ix, lt, ok, es, cm, fm⟩ ve) rfl ?_ ?_ ?_ ?_ ?_ ?_
  · exact HR.out.below (by repeat (first | exact Below.refl _ _ | refine Below.setCell ?_ (by simp) _ | refine Below.alloc ?_ (by simp) _ | refine Below.drew ?_))
  · exact MM.Rd.lit (MM.alloc_new1 w _ _) trivial rfl (Nat.le_refl _) (by simp [maxLen]) rfl
  · exact msgC_one one
  · have := HO.out; simp only [maxLen]; omega
  · have := HO.out; omega
  · simp; omega
  intro v' w1 ob' hr' hg _
  obtain ⟨A', k', rfl, _, _⟩ := hr'.slice
  have c13' := H.out.gc hg (by repeat (first | exact Below.refl _ _ | refine Below.setCell ?_ (by simp) _ | refine Below.alloc ?_ (by simp) _ | refine Below.drew ?_)) HR.out.ty (by decide) 13 _ rfl
  have fr13' := H.out.gfr hg (by repeat (first | exact Below.refl _ _ | refine Below.setCell ?_ (by simp) _ | refine Below.alloc ?_ (by simp) _ | refine Below.drew ?_)) HR.out.ty (by decide) 13
  have hsz := hg.size
  have HT := Lib.hid HR.out.ty
  have HR' := Lib.hid hr'; have HG := Lib.hid hg; clear hr' hg
  go_wp2
  refine Go.RT.QK_normal _ _ _ _ (hK _ _ ?_ ?_) <;> clear hK K
  · exact Go.RT.again_nil
  (refine Go.RT.step_p rfl (fun K hK => ?_); go_simp; refine hK _ ?_; clear hK K)
  (refine Go.RT.step_p rfl (fun K hK => ?_); go_simp; refine hK _ ?_; clear hK K)
  (refine Go.RT.step_w rfl rfl (fun K hK => ?_) Go.RT.step_stop)
  go_wp2
  refine Go.RT.QK_normal _ _ _ _ (hK _ _ ?_ ?_) <;> clear hK K
  · exact Go.RT.again_nil
  refine Go.RT.step_nil ?_
  go_end0
  refine ⟨⟨_, ob'⟩, rfl, NodeAt.put_out (h := ?_) (hr := ?_) (ht := ?_) (hg := HG.out) (hrow := HR'.out) (hm := ?_), ?_⟩
  · exact H.out.below (by repeat (first | exact Below.refl _ _ | refine Below.setCell ?_ (by simp) _ | refine Below.alloc ?_ (by simp) _ | refine Below.drew ?_))
  · exact NodeAt.anyMsgs HM.out (fun k _ hk => Below.block (by repeat (first | exact Below.refl _ _ | refine Below.setCell ?_ (by simp) _ | refine Below.alloc ?_ (by simp) _ | refine Below.drew ?_)) k hk)
  · exact fun k hk => (HR.out.below (by repeat (first | exact Below.refl _ _ | refine Below.setCell ?_ (by simp) _ | refine Below.alloc ?_ (by simp) _ | refine Below.drew ?_))).ty k hk
  · exact NodeAt.anyRow HV.out (fun k _ hk => Below.block (by repeat (first | exact Below.refl _ _ | refine Below.setCell ?_ (by simp) _ | refine Below.alloc ?_ (by simp) _ | refine Below.drew ?_)) k hk)
  · refine ⟨((Below.mono (by repeat (first | exact Below.refl _ _ | refine Below.setCell ?_ (by simp) _ | refine Below.alloc ?_ (by simp) _ | refine Below.drew ?_)) hbs).grown HG.out (by simp; omega) (fun k hk => (HR.out.lt k hk).1)).setCell H.out.hB _, ?_⟩
    refine ((Boxes.below (by repeat (first | exact Below.refl _ _ | refine Below.setCell ?_ (by simp) _ | refine Below.alloc ?_ (by simp) _ | refine Below.drew ?_))).trans (Boxes.grown HG.out (fun k hk => (HR.out.below (by repeat (first | exact Below.refl _ _ | refine Below.setCell ?_ (by simp) _ | refine Below.alloc ?_ (by simp) _ | refine Below.drew ?_))).ty k hk) (by decide))).trans (Boxes.setCell (t := 82) _ _ ?_ (by decide))
    exact ⟨_, _, H.out.gblk HG.out (by repeat (first | exact Below.refl _ _ | refine Below.setCell ?_ (by simp) _ | refine Below.alloc ?_ (by simp) _ | refine Below.drew ?_)) HT.out (by decide) |>.trans H.out.blk⟩

end Go.Proofs.Ytnkmljdkokcdjaa
