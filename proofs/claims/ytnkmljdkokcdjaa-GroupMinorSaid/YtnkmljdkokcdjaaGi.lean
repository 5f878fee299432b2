/-
  The group's Twice answers as the plain function. Condition: a group lies there.
-/
import Derived.WalkKit
import Derived.WalkSpells
import Derived.Lib.Hide
import Derived.Outline
import Derived.Test.YtnkmljdkokcdjaaChecked
import Derived.Test.YtnkmljdkokcdjaaMn
import Derived.Test.YtnkmljdkokcdjaaMem
import Derived.Test.YtnkmljdkokcdjaaFed
import Derived.Test.YtnkmljdkokcdjaaGh
import Derived.Deep.DeepCutAuto
import Derived.Deep.CutBlock
import Derived.Deep.OwnRows
import Derived.IntWalk
set_option linter.unusedVariables false
set_option linter.unusedSimpArgs false
namespace Go.Proofs.Ytnkmljdkokcdjaa
open Go.RowKit Fed
set_option linter.unusedVariables false
attribute [local go_sem high] Fed.max2_int Fed.min2_int

set_option maxRecDepth 100000 in
set_option maxHeartbeats 40000000 in
theorem gTwice_any (w : World) (B g : Nat) (s : GS) (μ : GM) (ok : Nat → Prop) (h : GroupAt w B g s μ ok) (a : Int) (hl : s.f.length ≤ 1000000) :
    Calls Try.prog 45 #[.pointer (some ⟨g, 0, none⟩), .int .i64 a] w fun e w' => ∃ μ' ok', e = .returned (.bool (s.has a)) ∧ GroupAt w' B g (s.twice a) μ' ok' ∧ GStep w w' B g μ μ' ok ok' := by
  have HT := Lib.hid (gat_any w B g s μ ok h a hl)
  have H := Lib.hid h
  clear h
  go_enter Try.func45, Try.ntmps45
  go_wp2_with fail
  refine HT.out.mono ?_
  rintro e w1 ⟨hat, hb⟩
  have G1 := Lib.hid (H.out.below hb)
  have HB1 := Lib.hid hb
  clear hb HT
  rcases hat with ⟨hs, A, c, rfl, hrd⟩ | ⟨hs, rfl⟩
  · have HS := Lib.hid hs
    have OPE := Lib.hid (show s.twice a = ⟨s.ns, s.us, s.f ++ [s.msg a]⟩ from by unfold GS.twice; rw [if_pos hs])
    have RD1 := Lib.hid hrd
    clear hs hrd
    go_upto_region 2 with (fail)
    refine name_world (F := fun W => Hid (W.heap[w1.heap.size]? = some (.cells #[.int .i64 (s.msg a).kind, .int .i64 (s.msg a).frm, .int .i64 (s.msg a).to, .int .i64 (s.msg a).term, .int .i64 (s.msg a).index, .int .i64 (s.msg a).logTerm, .bool (s.msg a).ok, .slice A (s.msg a).entries.length c, .int .i64 (s.msg a).commit, .int .i64 (s.msg a).form] 34 (0, 0))) ∧ Hid (GroupAt W B g s μ ok) ∧ Hid (Below w.heap.size w W) ∧ Hid (MM.Rd W ok 2 (.slice A (s.msg a).entries.length c) (s.msg a).entries.length (entsC (s.msg a).entries))) _ (by exact ⟨Lib.hid (MM.alloc_new _ _), Lib.hid (G1.out.alloc _), Lib.hid (HB1.out.alloc HB1.out.size _), Lib.hid (RD1.out.alloc _)⟩) ?_
    clear G1 HB1 RD1
    intro w2 ⟨R2, G2, S2, RD2⟩
    obtain ⟨d0, d1, d2, d3, d4, d5, d6, d7, d8, d9⟩ := MM.cells10 R2.out
    have HLT := Lib.hid (show ∀ k, μ.owns g k ∨ ok k → k < w2.heap.size from fun k hk => by rcases hk with hk | hk; exact (G2.out.ownlt k hk).2; exact G2.out.okl k hk)
    have hml2 : w1.heap.size < w2.heap.size := MM.blk_lt R2.out
    go_upto_region 3 with (fail)
    refine Go.RT.wp_region_tree [0, 1, 3, 0, 8, 31] (.p 0 (.p 1 (.p 2 (.s 3 (.w 4 [] (.w 5 [] .nil .stop) .stop))))) (by kernel_rfl) (by kernel_rfl) ?_
    repeat (first | (refine Go.RT.step_p rfl (fun K hK => ?_); go_simp; refine hK _ ?_; clear hK K) | (refine Go.RT.step_s rfl (fun K hK => ?_); go_simp; refine hK _ ?_; clear hK K))
    (refine Go.RT.step_w rfl rfl (fun K hK => ?_) Go.RT.step_stop)
    go_wp2
    refine Go.RT.QK_normal _ _ _ _ (hK _ _ ?_ ?_) <;> clear hK K
    · repeat (first | exact Go.RT.again_nil | (refine Go.RT.again_not rfl rfl ?_) | (refine Go.RT.again_one rfl (by go_simp <;> rfl) ?_))
    (refine Go.RT.step_w rfl rfl (fun K hK => ?_) Go.RT.step_stop)
    go_wp2_with fail
    refine (gput_any _ B g s μ (fun k => ok k ∨ k = w2.heap.size) ((G2.out.step (w1 := (w2.alloc (.cells #[.int .i64 (s.msg a).kind, .int .i64 (s.msg a).frm, .int .i64 (s.msg a).to, .int .i64 (s.msg a).term, .int .i64 (s.msg a).index, .int .i64 (s.msg a).logTerm, .bool (s.msg a).ok, .slice A (s.msg a).entries.length c, .int .i64 (s.msg a).commit, .int .i64 (s.msg a).form] 34 (0, 0))).drew) (fun k hk => Below.heap_alloc _ _ k (HLT.out k hk)) (by simp)).more (fun k hk => .inl hk) (fun k hk q => by
      rcases hk with hk | hk
      · exact G2.out.no k hk q
      · have := HLT.out k (.inl q); omega) (fun k hk => by
      rcases hk with hk | hk
      · have := HLT.out k (.inr hk); simp; omega
      · rw [hk]; simp)) (some ⟨w2.heap.size, 0, none⟩) 1 [(s.msg a)] ⟨_, MM.Rd.lit (MM.alloc_new w2 (.cells #[.int .i64 (s.msg a).kind, .int .i64 (s.msg a).frm, .int .i64 (s.msg a).to, .int .i64 (s.msg a).term, .int .i64 (s.msg a).index, .int .i64 (s.msg a).logTerm, .bool (s.msg a).ok, .slice A (s.msg a).entries.length c, .int .i64 (s.msg a).commit, .int .i64 (s.msg a).form] 34 (0, 0))) (.inr rfl) rfl (Nat.le_refl _) (by simp [maxLen]) rfl, MsgsR.one ((RD2.out.step (w1 := (w2.alloc (.cells #[.int .i64 (s.msg a).kind, .int .i64 (s.msg a).frm, .int .i64 (s.msg a).to, .int .i64 (s.msg a).term, .int .i64 (s.msg a).index, .int .i64 (s.msg a).logTerm, .bool (s.msg a).ok, .slice A (s.msg a).entries.length c, .int .i64 (s.msg a).commit, .int .i64 (s.msg a).form] 34 (0, 0))).drew) (fun k hk _ => Below.heap_alloc _ _ k (HLT.out k (.inr hk)))).mono (fun k hk _ => .inl hk))⟩ (by simp; omega)).mono ?_
    rintro e w3 ⟨μ', rfl, hG, hS, _, _, _⟩
    have G3 := Lib.hid hG
    have S3 := Lib.hid (hS.since (ok := ok) ((Below.refl _ w2).alloc (Nat.le_refl _) (.cells #[.int .i64 (s.msg a).kind, .int .i64 (s.msg a).frm, .int .i64 (s.msg a).to, .int .i64 (s.msg a).term, .int .i64 (s.msg a).index, .int .i64 (s.msg a).logTerm, .bool (s.msg a).ok, .slice A (s.msg a).entries.length c, .int .i64 (s.msg a).commit, .int .i64 (s.msg a).form] 34 (0, 0))).drew G2.out.Bsize (fun k hk => by
      rcases hk with hk | hk
      · exact .inl hk
      · exact .inr (by omega)))
    clear hG hS
    go_wp2_with fail
    refine Go.RT.QK_normal _ _ _ _ (hK _ _ ?_ ?_) <;> clear hK K
    · repeat (first | exact Go.RT.again_nil | (refine Go.RT.again_not rfl rfl ?_) | (refine Go.RT.again_one rfl (by go_simp <;> rfl) ?_))
    refine Go.RT.step_nil ?_
    go_wp2_with fail
    go_ret
    refine ⟨μ', _, MM.ret_bool HS.out.symm, ?_, (GStep.since S3.out S2.out H.out.Bsize (fun k hk => .inl hk))⟩
    rw [OPE.out]
    exact G3.out
  · have HS := Lib.hid hs
    have OPE := Lib.hid (show s.twice a = s from by unfold GS.twice; rw [hs]; rfl)
    clear hs
    go_wp2_with fail
    go_ret
    refine ⟨μ, ok, MM.ret_bool HS.out.symm, ?_, GStep.ofBelow (HB1.out.alloc HB1.out.size _) H.out.Bsize⟩
    rw [OPE.out]
    exact G1.out.alloc _

end Go.Proofs.Ytnkmljdkokcdjaa
