/-
  The group's Twice and Start answer as the plain functions. Conditions: a group lies there; it may be walked.
-/
import Derived.WalkKit
import Derived.WalkSpells
import Derived.Lib.Hide
import Derived.Outline
import Derived.Test.YtnkmljdkokcdjaaChecked
import Derived.Test.YtnkmljdkokcdjaaMn
import Derived.Test.YtnkmljdkokcdjaaMem
import Derived.Test.YtnkmljdkokcdjaaFed
import Derived.Test.YtnkmljdkokcdjaaGh
import Derived.Deep.DeepCutAuto
import Derived.Deep.CutBlock
import Derived.Deep.OwnRows
import Derived.IntWalk
set_option linter.unusedVariables false
set_option linter.unusedSimpArgs false
namespace Go.Proofs.Ytnkmljdkokcdjaa
open Go.RowKit Fed
set_option linter.unusedVariables false
attribute [local go_sem high] Fed.max2_int Fed.min2_int

set_option maxRecDepth 100000 in
set_option maxHeartbeats 40000000 in
theorem gTwice_any (w : World) (B g : Nat) (s : GS) (μ : GM) (ok : Nat → Prop) (h : GroupAt w B g s μ ok) (a : Int) (hl : s.f.length ≤ 1000000) :
    Calls Try.prog 45 #[.pointer (some ⟨g, 0, none⟩), .int .i64 a] w fun e w' => ∃ μ' ok', e = .returned (.bool (s.has a)) ∧ GroupAt w' B g (s.twice a) μ' ok' ∧ GStep w w' B g μ μ' ok ok' := by
  have HT := Lib.hid (gat_any w B g s μ ok h a hl)
  have H := Lib.hid h
  clear h
  go_enter Try.func45, Try.ntmps45
  go_wp2_with fail
  refine HT.out.mono ?_
  rintro e w1 ⟨hat, hb⟩
  have G1 := Lib.hid (H.out.below hb)
  have HB1 := Lib.hid hb
  clear hb HT
  rcases hat with ⟨hs, A, c, rfl, hrd⟩ | ⟨hs, rfl⟩
  · have HS := Lib.hid hs
    have OPE := Lib.hid (show s.twice a = ⟨s.ns, s.us, s.f ++ [s.msg a]⟩ from by unfold GS.twice; rw [if_pos hs])
    have RD1 := Lib.hid hrd
    clear hs hrd
    go_upto_region 2 with (fail)
    refine name_world (F := fun W => Hid (W.heap[w1.heap.size]? = some (.cells #[.int .i64 (s.msg a).kind, .int .i64 (s.msg a).frm, .int .i64 (s.msg a).to, .int .i64 (s.msg a).term, .int .i64 (s.msg a).index, .int .i64 (s.msg a).logTerm, .bool (s.msg a).ok, .slice A (s.msg a).entries.length c, .int .i64 (s.msg a).commit, .int .i64 (s.msg a).form] 34 (0, 0))) ∧ Hid (GroupAt W B g s μ ok) ∧ Hid (Below w.heap.size w W) ∧ Hid (MM.Rd W ok 2 (.slice A (s.msg a).entries.length c) (s.msg a).entries.length (entsC (s.msg a).entries))) _ (by exact ⟨Lib.hid (MM.alloc_new _ _), Lib.hid (G1.out.alloc _), Lib.hid (HB1.out.alloc HB1.out.size _), Lib.hid (RD1.out.alloc _)⟩) ?_
    clear G1 HB1 RD1
    intro w2 ⟨R2, G2, S2, RD2⟩
    obtain ⟨d0, d1, d2, d3, d4, d5, d6, d7, d8, d9⟩ := MM.cells10 R2.out
    have HLT := Lib.hid (show ∀ k, μ.owns g k ∨ ok k → k < w2.heap.size from fun k hk => by rcases hk with hk | hk; exact (G2.out.ownlt k hk).2; exact G2.out.okl k hk)
    have hml2 : w1.heap.size < w2.heap.size := MM.blk_lt R2.out
    go_upto_region 3 with (fail)
    refine Go.RT.wp_region_tree [0, 1, 3, 0, 8, 31] (.p 0 (.p 1 (.p 2 (.s 3 (.w 4 [] (.w 5 [] .nil .stop) .stop))))) (by kernel_rfl) (by kernel_rfl) ?_
    repeat (first | (refine Go.RT.step_p rfl (fun K hK => ?_); go_simp; refine hK _ ?_; clear hK K) | (refine Go.RT.step_s rfl (fun K hK => ?_); go_simp; refine hK _ ?_; clear hK K))
    (refine Go.RT.step_w rfl rfl (fun K hK => ?_) Go.RT.step_stop)
    go_wp2
    refine Go.RT.QK_normal _ _ _ _ (hK _ _ ?_ ?_) <;> clear hK K
    · repeat (first | exact Go.RT.again_nil | (refine Go.RT.again_not rfl rfl ?_) | (refine Go.RT.again_one rfl (by go_simp <;> rfl) ?_))
    (refine Go.RT.step_w rfl rfl (fun K hK => ?_) Go.RT.step_stop)
    go_wp2_with fail
    refine (gput_any _ B g s μ (fun k => ok k ∨ k = w2.heap.size) ((G2.out.step (w1 := (w2.alloc (.cells #[.int .i64 (s.msg a).kind, .int .i64 (s.msg a).frm, .int .i64 (s.msg a).to, .int .i64 (s.msg a).term, .int .i64 (s.msg a).index, .int .i64 (s.msg a).logTerm, .bool (s.msg a).ok, .slice A (s.msg a).entries.length c, .int .i64 (s.msg a).commit, .int .i64 (s.msg a).form] 34 (0, 0))).drew) (fun k hk => Below.heap_alloc _ _ k (HLT.out k hk)) (by simp)).more (fun k hk => .inl hk) (fun k hk q => by
      rcases hk with hk | hk
      · exact G2.out.no k hk q
      · have := HLT.out k (.inl q); omega) (fun k hk => by
      rcases hk with hk | hk
      · have := HLT.out k (.inr hk); simp; omega
      · rw [hk]; simp)) (some ⟨w2.heap.size, 0, none⟩) 1 [(s.msg a)] ⟨_, MM.Rd.lit (MM.alloc_new w2 (.cells #[.int .i64 (s.msg a).kind, .int .i64 (s.msg a).frm, .int .i64 (s.msg a).to, .int .i64 (s.msg a).term, .int .i64 (s.msg a).index, .int .i64 (s.msg a).logTerm, .bool (s.msg a).ok, .slice A (s.msg a).entries.length c, .int .i64 (s.msg a).commit, .int .i64 (s.msg a).form] 34 (0, 0))) (.inr rfl) rfl (Nat.le_refl _) (by simp [maxLen]) rfl, MsgsR.one ((RD2.out.step (w1 := (w2.alloc (.cells #[.int .i64 (s.msg a).kind, .int .i64 (s.msg a).frm, .int .i64 (s.msg a).to, .int .i64 (s.msg a).term, .int .i64 (s.msg a).index, .int .i64 (s.msg a).logTerm, .bool (s.msg a).ok, .slice A (s.msg a).entries.length c, .int .i64 (s.msg a).commit, .int .i64 (s.msg a).form] 34 (0, 0))).drew) (fun k hk _ => Below.heap_alloc _ _ k (HLT.out k (.inr hk)))).mono (fun k hk _ => .inl hk))⟩ (by simp; omega)).mono ?_
    rintro e w3 ⟨μ', rfl, hG, hS, _, _, _⟩
    have G3 := Lib.hid hG
    have S3 := Lib.hid (hS.since (ok := ok) ((Below.refl _ w2).alloc (Nat.le_refl _) (.cells #[.int .i64 (s.msg a).kind, .int .i64 (s.msg a).frm, .int .i64 (s.msg a).to, .int .i64 (s.msg a).term, .int .i64 (s.msg a).index, .int .i64 (s.msg a).logTerm, .bool (s.msg a).ok, .slice A (s.msg a).entries.length c, .int .i64 (s.msg a).commit, .int .i64 (s.msg a).form] 34 (0, 0))).drew G2.out.Bsize (fun k hk => by
      rcases hk with hk | hk
      · exact .inl hk
      · exact .inr (by omega)))
    clear hG hS
    go_wp2_with fail
    refine Go.RT.QK_normal _ _ _ _ (hK _ _ ?_ ?_) <;> clear hK K
    · repeat (first | exact Go.RT.again_nil | (refine Go.RT.again_not rfl rfl ?_) | (refine Go.RT.again_one rfl (by go_simp <;> rfl) ?_))
    refine Go.RT.step_nil ?_
    go_wp2_with fail
    go_ret
    refine ⟨μ', _, MM.ret_bool HS.out.symm, ?_, (GStep.since S3.out S2.out H.out.Bsize (fun k hk => .inl hk))⟩
    rw [OPE.out]
    exact G3.out
  · have HS := Lib.hid hs
    have OPE := Lib.hid (show s.twice a = s from by unfold GS.twice; rw [hs]; rfl)
    clear hs
    go_wp2_with fail
    go_ret
    refine ⟨μ, ok, MM.ret_bool HS.out.symm, ?_, GStep.ofBelow (HB1.out.alloc HB1.out.size _) H.out.Bsize⟩
    rw [OPE.out]
    exact G1.out.alloc _

end Go.Proofs.Ytnkmljdkokcdjaa
namespace Go.Proofs.Ytnkmljdkokcdjaa
open Go.RowKit Fed
set_option linter.unusedVariables false
attribute [local go_sem high] Fed.max2_int Fed.min2_int

theorem GroupAt.set15 {w : World} {B g : Nat} {s : GS} {μ : GM} {ok : Nat → Prop} (h : GroupAt w B g s μ ok) {i pb : Nat} (hi : i < s.ns.length) (hp : μ.p = some pb) {n : Fed.Node} {σ : Sl5} (hn : NodeVs w ok n σ) (u : Bool) :
    GroupAt ((((((((((((((w.setCell ⟨pb, i * 14, none⟩ (.int .i64 n.id)).setCell ⟨pb, i * 14 + 1, none⟩ (.int .i64 n.term)).setCell ⟨pb, i * 14 + 2, none⟩ (.int .i64 n.vote)).setCell ⟨pb, i * 14 + 3, none⟩ (.slice σ.A3 n.log.length σ.k3)).setCell ⟨pb, i * 14 + 4, none⟩ (.int .i64 n.form)).setCell ⟨pb, i * 14 + 5, none⟩ (.int .i64 n.role)).setCell ⟨pb, i * 14 + 6, none⟩ (.int .i64 n.commit)).setCell ⟨pb, i * 14 + 7, none⟩ (.slice σ.A7 n.votes.length σ.k7)).setCell ⟨pb, i * 14 + 8, none⟩ (.slice σ.A8 n.nxt.length σ.k8)).setCell ⟨pb, i * 14 + 9, none⟩ (.slice σ.A9 n.mtch.length σ.k9)).setCell ⟨pb, i * 14 + 10, none⟩ (.slice σ.A10 n.forms.length σ.k10)).setCell ⟨pb, i * 14 + 11, none⟩ (.int .i64 n.clock)).setCell ⟨pb, i * 14 + 12, none⟩ (.int .i64 n.due)).setCell ⟨pb, i * 14 + 13, none⟩ (.bool u)) B g ⟨s.ns.set i n, s.us.set i u, s.f⟩ μ ok ∧ GStep w ((((((((((((((w.setCell ⟨pb, i * 14, none⟩ (.int .i64 n.id)).setCell ⟨pb, i * 14 + 1, none⟩ (.int .i64 n.term)).setCell ⟨pb, i * 14 + 2, none⟩ (.int .i64 n.vote)).setCell ⟨pb, i * 14 + 3, none⟩ (.slice σ.A3 n.log.length σ.k3)).setCell ⟨pb, i * 14 + 4, none⟩ (.int .i64 n.form)).setCell ⟨pb, i * 14 + 5, none⟩ (.int .i64 n.role)).setCell ⟨pb, i * 14 + 6, none⟩ (.int .i64 n.commit)).setCell ⟨pb, i * 14 + 7, none⟩ (.slice σ.A7 n.votes.length σ.k7)).setCell ⟨pb, i * 14 + 8, none⟩ (.slice σ.A8 n.nxt.length σ.k8)).setCell ⟨pb, i * 14 + 9, none⟩ (.slice σ.A9 n.mtch.length σ.k9)).setCell ⟨pb, i * 14 + 10, none⟩ (.slice σ.A10 n.forms.length σ.k10)).setCell ⟨pb, i * 14 + 11, none⟩ (.int .i64 n.clock)).setCell ⟨pb, i * 14 + 12, none⟩ (.int .i64 n.due)).setCell ⟨pb, i * 14 + 13, none⟩ (.bool u)) B g μ μ ok ok := by
  have h1 := h.set14 hi hp hn
  have h2 := h1.1.setUp (i := i) (by simpa using hi) hp u
  exact ⟨h2.1, h1.2.trans h2.2⟩
set_option maxRecDepth 100000 in
set_option maxHeartbeats 40000000 in
theorem gStart_any (w : World) (B g : Nat) (s : GS) (μ : GM) (ok : Nat → Prop) (h : GroupAt w B g s μ ok) (K : Nat) (G : GoodG K s) (hK : K ≤ 1000) (id form : Int) :
    Calls Try.prog 57 #[.pointer (some ⟨g, 0, none⟩), .int .i64 id, .int .i64 form] w fun e w' => ∃ μ' ok', e = .returned (.bool (s.startOk id form)) ∧ GroupAt w' B g (s.start id form) μ' ok' ∧ GStep w w' B g μ μ' ok ok' := by
  have H := Lib.hid h
  have HG := Lib.hid G
  have c0 := h.c0
  have hg := h.lt
  clear h G
  obtain ⟨b, hb⟩ : ∃ b, b = s.startOk id form := ⟨_, rfl⟩
  have HS := Lib.hid hb
  clear hb
  go_enter Try.func57, Try.ntmps57
  go_upto_region 1 with (fail)
  go_cut [35] (fun v35 wc => v35 = .bool (!b) ∧ w = wc)
  case first =>
    by_cases h0 : id < 0
    · have h0b : decide (id < 0) = true := decide_eq_true h0
      have hbb : b = false := by rw [HS.out]; unfold GS.startOk; rw [decide_eq_false (show ¬ 0 ≤ id by omega)]; rfl
      subst hbb
      go_wp2_with fail
      go_meet
      case rel => exact ⟨by first | rfl | (simp; omega), rfl⟩
    have h0b : decide (id < 0) = false := decide_eq_false h0
    obtain ⟨i, rfl⟩ := Int.eq_ofNat_of_zero_le (show 0 ≤ id by omega)
    by_cases h1 : i < s.ns.length
    · have h1b : decide ((s.ns.length : Int) ≤ (i : Int)) = false := decide_eq_false (by omega)
      obtain ⟨pb, hp, ea, hc1, hc2, hf, σ, v, hc⟩ := H.out.place h1
      have c13 : w.cell? ⟨pb, i * 14 + 13, none⟩ = some (.bool (s.us.getD i false)) := hc 13 _ rfl
      have hpl := (H.out.ltp pb hp).2
      rw [ea] at c0
      have hu : b = (!s.us.getD i false && (decide (form = 1) || decide (form = 2))) := by
        rw [HS.out]; unfold GS.startOk
        rw [decide_eq_true (show (0 : Int) ≤ (i : Int) by omega), decide_eq_true (show (i : Int) < (s.ns.length : Int) by omega), Int.toNat_natCast]; rfl
      clear hc hf v hp ea
      generalize s.us.getD i false = u at c13 hu
      cases u
      · by_cases f1 : form = 1
        · have hbb : b = true := by rw [hu, f1]; rfl
          have fb : (form != 1) = false := by rw [f1]; rfl
          clear hu f1
          subst hbb
          go_wp2_with fail
          go_meet
          case rel => exact ⟨by first | rfl | (simp; omega), rfl⟩
        · have fb : (form != 1) = true := by simpa using f1
          by_cases f2 : form = 2
          · have hbb : b = true := by rw [hu, f2]; rfl
            have fb2 : (form != 2) = false := by rw [f2]; rfl
            clear hu f1 f2
            subst hbb
            go_wp2_with fail
            go_meet
            case rel => exact ⟨by first | rfl | (simp; omega), rfl⟩
          · have hbb : b = false := by rw [hu, decide_eq_false f1, decide_eq_false f2]; rfl
            have fb2 : (form != 2) = true := by simpa using f2
            clear hu f1 f2
            subst hbb
            go_wp2_with fail
            go_meet
            case rel => exact ⟨by first | rfl | (simp; omega), rfl⟩
      · have hbb : b = false := by rw [hu]; rfl
        clear hu
        subst hbb
        go_wp2_with fail
        go_meet
        case rel => exact ⟨by first | rfl | (simp; omega), rfl⟩
    · have h1b : decide ((s.ns.length : Int) ≤ (i : Int)) = true := decide_eq_true (by omega)
      have hbb : b = false := by rw [HS.out]; unfold GS.startOk; rw [decide_eq_false (show ¬ (i : Int) < (s.ns.length : Int) by omega)]; simp
      subst hbb
      go_wp2_with fail
      go_meet
      case rel => exact ⟨by first | rfl | (simp; omega), rfl⟩
  case rest =>
    obtain ⟨rfl, rfl⟩ := hcut
    cases b
    · have OPE := Lib.hid (show s.start id form = s from by unfold GS.start; rw [← HS.out]; rfl)
      go_wp2_with fail
      go_ret
      refine ⟨μ, ok, MM.ret_bool HS.out, ?_, GStep.refl _ _ _ _ _⟩
      rw [OPE.out]
      exact H.out
    · have hso : s.startOk id form = true := HS.out.symm
      obtain ⟨i, rfl, hi⟩ : ∃ i : Nat, id = i ∧ i < s.ns.length := by
        unfold GS.startOk at hso
        simp only [Bool.and_eq_true, decide_eq_true_eq] at hso
        obtain ⟨i, rfl⟩ := Int.eq_ofNat_of_zero_le hso.1.1.1
        exact ⟨i, rfl, by omega⟩
      have hub : s.us.getD i false = false := by
        unfold GS.startOk at hso
        simp only [Bool.and_eq_true, Bool.not_eq_true', Int.toNat_natCast] at hso
        exact hso.1.2
      obtain ⟨pb, hp, ea, hc1, hc2, hf, σ, v, hc⟩ := H.out.place hi
      have gx := HG.out.node hi
      have hpl := (H.out.ltp pb hp).2
      have OPE := Lib.hid (show s.start (i : Int) form = ⟨s.ns.set i (restartN (s.node (i : Int)) form), s.us.set i true, s.f⟩ from by unfold GS.start; rw [if_pos hso, Int.toNat_natCast])
      have x0 : w.cell? ⟨pb, i * 14, none⟩ = some (.int .i64 (s.node (i : Int)).id) := hc 0 _ rfl
      have x1 : w.cell? ⟨pb, i * 14 + 1, none⟩ = some (.int .i64 (s.node (i : Int)).term) := hc 1 _ rfl
      have x2 : w.cell? ⟨pb, i * 14 + 2, none⟩ = some (.int .i64 (s.node (i : Int)).vote) := hc 2 _ rfl
      have x3 : w.cell? ⟨pb, i * 14 + 3, none⟩ = some (.slice σ.A3 (s.node (i : Int)).log.length σ.k3) := hc 3 _ rfl
      have x4 : w.cell? ⟨pb, i * 14 + 4, none⟩ = some (.int .i64 (s.node (i : Int)).form) := hc 4 _ rfl
      have x5 : w.cell? ⟨pb, i * 14 + 5, none⟩ = some (.int .i64 (s.node (i : Int)).role) := hc 5 _ rfl
      have x6 : w.cell? ⟨pb, i * 14 + 6, none⟩ = some (.int .i64 (s.node (i : Int)).commit) := hc 6 _ rfl
      have x7 : w.cell? ⟨pb, i * 14 + 7, none⟩ = some (.slice σ.A7 (s.node (i : Int)).votes.length σ.k7) := hc 7 _ rfl
      have x8 : w.cell? ⟨pb, i * 14 + 8, none⟩ = some (.slice σ.A8 (s.node (i : Int)).nxt.length σ.k8) := hc 8 _ rfl
      have x9 : w.cell? ⟨pb, i * 14 + 9, none⟩ = some (.slice σ.A9 (s.node (i : Int)).mtch.length σ.k9) := hc 9 _ rfl
      have x10 : w.cell? ⟨pb, i * 14 + 10, none⟩ = some (.slice σ.A10 (s.node (i : Int)).forms.length σ.k10) := hc 10 _ rfl
      have x11 : w.cell? ⟨pb, i * 14 + 11, none⟩ = some (.int .i64 (s.node (i : Int)).clock) := hc 11 _ rfl
      have x12 : w.cell? ⟨pb, i * 14 + 12, none⟩ = some (.int .i64 (s.node (i : Int)).due) := hc 12 _ rfl
      have x13 : w.cell? ⟨pb, i * 14 + 13, none⟩ = some (.bool false) := by rw [← hub]; exact hc 13 _ rfl
      rw [ea] at c0
      have HA := Lib.hid ea
      have HP := Lib.hid hp
      have V := Lib.hid v
      have HFZ := Lib.hid hf
      clear hso hub hc hp ea v hf
      go_upto_region 3 with (fail)
      refine Go.RT.wp_region_tree [0, 1, 3, 7, 0, 0, 32, 96, 224, 0, 992, 2016, 4064, 0, 16352, 32736, 65535, 131071] (.p 0 (.p 1 (.p 2 (.s 3 (.p 4 (.p 5 (.p 6 (.p 7 (.s 8 (.p 9 (.p 10 (.p 11 (.s 12 (.p 13 (.w 14 [3] (.p 15 (.p 16 (.w 17 [] .nil .stop))) .stop))))))))))))))) (by kernel_rfl) (by kernel_rfl) ?_
      repeat (first | (refine Go.RT.step_p rfl (fun K hK => ?_); go_simp; refine hK _ ?_; clear hK K) | (refine Go.RT.step_s rfl (fun K hK => ?_); go_simp; refine hK _ ?_; clear hK K))
      (refine Go.RT.step_w rfl rfl (fun K hK => ?_) Go.RT.step_stop)
      go_wp2_with fail
      refine (restart_any _ _ (s.node (i : Int)) σ form (V.out.step (w1 := w.drew) (fun _ _ _ => rfl)) (by have := gx.l; omega) (by rw [gx.v]; omega) (by have := gx.i0; omega) (by have := gx.i1; omega)).mono ?_
      rintro e w3 ⟨τ, rfl, hn, hb⟩
      have hb0 : Below w.heap.size w w3 := (Below.refl _ w).drew.trans hb
      have G3 := Lib.hid (H.out.newer hb0)
      have N3 := Lib.hid (hn.mono (ok' := (fun k => ok k ∨ (w.heap.size ≤ k ∧ k < w3.heap.size))) (fun k hk hl => .inr ⟨hk, hl⟩))
      have HB3 := Lib.hid hb0
      have c03 := G3.out.c0
      rw [HA.out] at c03
      have X0 : w3.cell? ⟨pb, i * 14, none⟩ = some (.int .i64 (s.node (i : Int)).id) := (World.cell?_of_block (a := ⟨pb, i * 14, none⟩) (hb0.block pb hpl)).trans x0
      have X1 : w3.cell? ⟨pb, i * 14 + 1, none⟩ = some (.int .i64 (s.node (i : Int)).term) := (World.cell?_of_block (a := ⟨pb, i * 14 + 1, none⟩) (hb0.block pb hpl)).trans x1
      have X2 : w3.cell? ⟨pb, i * 14 + 2, none⟩ = some (.int .i64 (s.node (i : Int)).vote) := (World.cell?_of_block (a := ⟨pb, i * 14 + 2, none⟩) (hb0.block pb hpl)).trans x2
      have X3 : w3.cell? ⟨pb, i * 14 + 3, none⟩ = some (.slice σ.A3 (s.node (i : Int)).log.length σ.k3) := (World.cell?_of_block (a := ⟨pb, i * 14 + 3, none⟩) (hb0.block pb hpl)).trans x3
      have X4 : w3.cell? ⟨pb, i * 14 + 4, none⟩ = some (.int .i64 (s.node (i : Int)).form) := (World.cell?_of_block (a := ⟨pb, i * 14 + 4, none⟩) (hb0.block pb hpl)).trans x4
      have X5 : w3.cell? ⟨pb, i * 14 + 5, none⟩ = some (.int .i64 (s.node (i : Int)).role) := (World.cell?_of_block (a := ⟨pb, i * 14 + 5, none⟩) (hb0.block pb hpl)).trans x5
      have X6 : w3.cell? ⟨pb, i * 14 + 6, none⟩ = some (.int .i64 (s.node (i : Int)).commit) := (World.cell?_of_block (a := ⟨pb, i * 14 + 6, none⟩) (hb0.block pb hpl)).trans x6
      have X7 : w3.cell? ⟨pb, i * 14 + 7, none⟩ = some (.slice σ.A7 (s.node (i : Int)).votes.length σ.k7) := (World.cell?_of_block (a := ⟨pb, i * 14 + 7, none⟩) (hb0.block pb hpl)).trans x7
      have X8 : w3.cell? ⟨pb, i * 14 + 8, none⟩ = some (.slice σ.A8 (s.node (i : Int)).nxt.length σ.k8) := (World.cell?_of_block (a := ⟨pb, i * 14 + 8, none⟩) (hb0.block pb hpl)).trans x8
      have X9 : w3.cell? ⟨pb, i * 14 + 9, none⟩ = some (.slice σ.A9 (s.node (i : Int)).mtch.length σ.k9) := (World.cell?_of_block (a := ⟨pb, i * 14 + 9, none⟩) (hb0.block pb hpl)).trans x9
      have X10 : w3.cell? ⟨pb, i * 14 + 10, none⟩ = some (.slice σ.A10 (s.node (i : Int)).forms.length σ.k10) := (World.cell?_of_block (a := ⟨pb, i * 14 + 10, none⟩) (hb0.block pb hpl)).trans x10
      have X11 : w3.cell? ⟨pb, i * 14 + 11, none⟩ = some (.int .i64 (s.node (i : Int)).clock) := (World.cell?_of_block (a := ⟨pb, i * 14 + 11, none⟩) (hb0.block pb hpl)).trans x11
      have X12 : w3.cell? ⟨pb, i * 14 + 12, none⟩ = some (.int .i64 (s.node (i : Int)).due) := (World.cell?_of_block (a := ⟨pb, i * 14 + 12, none⟩) (hb0.block pb hpl)).trans x12
      have X13 : w3.cell? ⟨pb, i * 14 + 13, none⟩ = some (.bool false) := (World.cell?_of_block (a := ⟨pb, i * 14 + 13, none⟩) (hb0.block pb hpl)).trans x13
      have Z0 : w3.frozen? ⟨pb, i * 14, none⟩ = false := (World.frozen?_of_block (a := ⟨pb, i * 14, none⟩) (hb0.block pb hpl)).trans (HFZ.out _)
      have Z1 : w3.frozen? ⟨pb, i * 14 + 1, none⟩ = false := (World.frozen?_of_block (a := ⟨pb, i * 14 + 1, none⟩) (hb0.block pb hpl)).trans (HFZ.out _)
      have Z2 : w3.frozen? ⟨pb, i * 14 + 2, none⟩ = false := (World.frozen?_of_block (a := ⟨pb, i * 14 + 2, none⟩) (hb0.block pb hpl)).trans (HFZ.out _)
      have Z3 : w3.frozen? ⟨pb, i * 14 + 3, none⟩ = false := (World.frozen?_of_block (a := ⟨pb, i * 14 + 3, none⟩) (hb0.block pb hpl)).trans (HFZ.out _)
      have Z4 : w3.frozen? ⟨pb, i * 14 + 4, none⟩ = false := (World.frozen?_of_block (a := ⟨pb, i * 14 + 4, none⟩) (hb0.block pb hpl)).trans (HFZ.out _)
      have Z5 : w3.frozen? ⟨pb, i * 14 + 5, none⟩ = false := (World.frozen?_of_block (a := ⟨pb, i * 14 + 5, none⟩) (hb0.block pb hpl)).trans (HFZ.out _)
      have Z6 : w3.frozen? ⟨pb, i * 14 + 6, none⟩ = false := (World.frozen?_of_block (a := ⟨pb, i * 14 + 6, none⟩) (hb0.block pb hpl)).trans (HFZ.out _)
      have Z7 : w3.frozen? ⟨pb, i * 14 + 7, none⟩ = false := (World.frozen?_of_block (a := ⟨pb, i * 14 + 7, none⟩) (hb0.block pb hpl)).trans (HFZ.out _)
      have Z8 : w3.frozen? ⟨pb, i * 14 + 8, none⟩ = false := (World.frozen?_of_block (a := ⟨pb, i * 14 + 8, none⟩) (hb0.block pb hpl)).trans (HFZ.out _)
      have Z9 : w3.frozen? ⟨pb, i * 14 + 9, none⟩ = false := (World.frozen?_of_block (a := ⟨pb, i * 14 + 9, none⟩) (hb0.block pb hpl)).trans (HFZ.out _)
      have Z10 : w3.frozen? ⟨pb, i * 14 + 10, none⟩ = false := (World.frozen?_of_block (a := ⟨pb, i * 14 + 10, none⟩) (hb0.block pb hpl)).trans (HFZ.out _)
      have Z11 : w3.frozen? ⟨pb, i * 14 + 11, none⟩ = false := (World.frozen?_of_block (a := ⟨pb, i * 14 + 11, none⟩) (hb0.block pb hpl)).trans (HFZ.out _)
      have Z12 : w3.frozen? ⟨pb, i * 14 + 12, none⟩ = false := (World.frozen?_of_block (a := ⟨pb, i * 14 + 12, none⟩) (hb0.block pb hpl)).trans (HFZ.out _)
      have Z13 : w3.frozen? ⟨pb, i * 14 + 13, none⟩ = false := (World.frozen?_of_block (a := ⟨pb, i * 14 + 13, none⟩) (hb0.block pb hpl)).trans (HFZ.out _)
      have hpl3 : pb < w3.heap.size := Nat.lt_of_lt_of_le hpl hb0.size
      clear hn hb hb0
      obtain ⟨r, hr⟩ : ∃ r, r = restartN (s.node (i : Int)) form := ⟨_, rfl⟩
      rw [← hr] at OPE N3 ⊢
      clear hr
      go_wp2_with fail
      refine Go.RT.QK_normal _ _ _ _ (hK _ _ ?_ ?_) <;> clear hK K
      · repeat (first | exact Go.RT.again_nil | (refine Go.RT.again_not rfl rfl ?_) | (refine Go.RT.again_one rfl (by go_simp <;> rfl) ?_))
      repeat (first | (refine Go.RT.step_p rfl (fun K hK => ?_); go_simp; refine hK _ ?_; clear hK K) | (refine Go.RT.step_s rfl (fun K hK => ?_); go_simp; refine hK _ ?_; clear hK K))
      (refine Go.RT.step_w rfl rfl (fun K hK => ?_) Go.RT.step_stop)
      go_wp2
      refine Go.RT.QK_normal _ _ _ _ (hK _ _ ?_ ?_) <;> clear hK K
      · repeat (first | exact Go.RT.again_nil | (refine Go.RT.again_not rfl rfl ?_) | (refine Go.RT.again_one rfl (by go_simp <;> rfl) ?_))
      refine Go.RT.step_nil ?_
      go_upto_region 4 with (fail)
      refine name_world (F := fun W => Hid (GroupAt W B g ⟨s.ns.set i r, s.us.set i true, s.f⟩ μ (fun k => ok k ∨ (w.heap.size ≤ k ∧ k < w3.heap.size))) ∧ Hid (GStep w3 W B g μ μ (fun k => ok k ∨ (w.heap.size ≤ k ∧ k < w3.heap.size)) (fun k => ok k ∨ (w.heap.size ≤ k ∧ k < w3.heap.size)))) _ (by exact ⟨Lib.hid ((G3.out.set15 hi HP.out N3.out true).1), Lib.hid ((G3.out.set15 hi HP.out N3.out true).2)⟩) ?_
      intro w4 ⟨G4, S4⟩
      go_wp2_with fail
      go_ret
      refine ⟨μ, (fun k => ok k ∨ (w.heap.size ≤ k ∧ k < w3.heap.size)), MM.ret_bool HS.out, ?_, S4.out.since HB3.out H.out.Bsize (fun k hk => by
        rcases hk with hk | hk
        · exact .inl hk
        · exact .inr hk.1)⟩
      rw [OPE.out]
      exact G4.out

end Go.Proofs.Ytnkmljdkokcdjaa
