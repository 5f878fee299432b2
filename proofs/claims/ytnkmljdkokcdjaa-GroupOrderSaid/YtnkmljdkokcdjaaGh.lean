/-
  The group's Deliver answers as the plain function. Condition: the group may be walked.
-/
import Derived.WalkKit
import Derived.WalkSpells
import Derived.Lib.Hide
import Derived.Outline
import Derived.Test.YtnkmljdkokcdjaaChecked
import Derived.Test.YtnkmljdkokcdjaaMn
import Derived.Test.YtnkmljdkokcdjaaMem
import Derived.Test.YtnkmljdkokcdjaaFed
import Derived.Test.YtnkmljdkokcdjaaGg
import Derived.Deep.DeepCutAuto
import Derived.Deep.CutBlock
import Derived.Deep.OwnRows
import Derived.IntWalk
set_option linter.unusedVariables false
set_option linter.unusedSimpArgs false
namespace Go.Proofs.Ytnkmljdkokcdjaa
open Go.RowKit Fed
set_option linter.unusedVariables false
attribute [local go_sem high] Fed.max2_int Fed.min2_int

theorem GStep.since {w w1 w2 : World} {B g : Nat} {μ μ' : GM} {ok ok1 ok2 : Nat → Prop} (h : GStep w1 w2 B g μ μ' ok1 ok2) (hb : Below w.heap.size w w1) (hB : B ≤ w.heap.size) (hok : ∀ k, ok1 k → ok k ∨ w.heap.size ≤ k) : GStep w w2 B g μ μ' ok ok2 where
  below := (hb.mono hB).trans h.below
  keep k hk hn := (h.keep k (Nat.lt_of_lt_of_le hk hb.size) hn).trans (hb.block k hk)
  own k q := by
    rcases h.own k q with q | q
    · exact .inl q
    · exact .inr (Nat.le_trans hb.size q)
  oks k q := by
    rcases h.oks k q with q | q
    · exact hok k q
    · exact .inr (Nat.le_trans hb.size q)
theorem GroupAt.newerB {w w1 : World} {B g : Nat} {s : GS} {μ : GM} {ok : Nat → Prop} (h : GroupAt w B g s μ ok) (hb : Below w.heap.size w w1) (b : Nat) (hbb : w.heap.size ≤ b) : GroupAt w1 B g s μ (fun k => ok k ∨ (b ≤ k ∧ k < w1.heap.size)) :=
  (h.below hb).more (fun k hk => .inl hk) (fun k hk q => by
    rcases hk with hk | hk
    · exact h.no k hk q
    · have := (h.ownlt k q).2; omega) (fun k hk => by
    rcases hk with hk | hk
    · exact Nat.lt_of_lt_of_le (h.okl k hk) hb.size
    · exact hk.2)
theorem cut_ns (s : GS) (a : Int) : (s.cut a).ns = s.ns := by unfold GS.cut; split <;> rfl
theorem cut_us (s : GS) (a : Int) : (s.cut a).us = s.us := by unfold GS.cut; split <;> rfl
theorem cut_isUp (s : GS) (a id : Int) : (s.cut a).isUp id = s.isUp id := by unfold GS.isUp; rw [cut_ns, cut_us]
theorem cut_node (s : GS) (a id : Int) : (s.cut a).node id = s.node id := by unfold GS.node; rw [cut_ns]
theorem cut_mem {s : GS} {a : Int} {m : Fed.Msg} (h : m ∈ (s.cut a).f) : m ∈ s.f := by
  unfold GS.cut at h
  split at h
  · exact List.mem_of_mem_eraseIdx h
  · exact h
theorem cut_len (s : GS) (a : Int) : (s.cut a).f.length ≤ s.f.length := by
  unfold GS.cut
  split
  · exact List.length_eraseIdx_le _ _
  · exact Nat.le_refl _
theorem GoodG.cut {K : Nat} {s : GS} (h : GoodG K s) (a : Int) : GoodG K (s.cut a) :=
  ⟨by rw [cut_ns]; exact h.len, by rw [cut_us]; exact h.ul, fun n hn => h.ns n (by rw [cut_ns] at hn; exact hn), Nat.le_trans (cut_len s a) h.fl, fun m hm => h.f m (cut_mem hm)⟩
set_option maxRecDepth 100000 in
set_option maxHeartbeats 40000000 in
theorem gDeliver_any (w : World) (B g : Nat) (s : GS) (μ : GM) (ok : Nat → Prop) (h : GroupAt w B g s μ ok) (K : Nat) (G : GoodG K s) (hK : K ≤ 1000) (a : Int) :
    Calls Try.prog 46 #[.pointer (some ⟨g, 0, none⟩), .int .i64 a] w fun e w' => ∃ μ' ok', e = .returned (.bool (s.has a)) ∧ GroupAt w' B g (s.deliver a) μ' ok' ∧ GStep w w' B g μ μ' ok ok' := by
  have HT := Lib.hid (gtake_any w B g s μ ok h a (by have := G.fl; omega))
  have HBS := Lib.hid h.Bsize
  have HG := Lib.hid G
  clear h G
  go_enter Try.func46, Try.ntmps46
  go_wp2_with fail
  refine HT.out.mono ?_
  rintro e w1 ⟨μ1, hat, hG, hS, hp1⟩
  have G1 := Lib.hid hG
  have S1 := Lib.hid hS
  have HP1 := Lib.hid hp1
  clear hG hS hp1 HT
  rcases hat with ⟨hs, A, c, rfl, hrd⟩ | ⟨hs, rfl⟩
  · obtain ⟨i, rfl, hi⟩ := has_some hs
    have HS := Lib.hid hs
    have RD1 := Lib.hid hrd
    clear hs hrd
    go_upto_region 2 with (fail)
    refine name_world (F := fun W => Hid (W.heap[w1.heap.size]? = some (.cells #[.int .i64 (s.msg (i : Int)).kind, .int .i64 (s.msg (i : Int)).frm, .int .i64 (s.msg (i : Int)).to, .int .i64 (s.msg (i : Int)).term, .int .i64 (s.msg (i : Int)).index, .int .i64 (s.msg (i : Int)).logTerm, .bool (s.msg (i : Int)).ok, .slice A (s.msg (i : Int)).entries.length c, .int .i64 (s.msg (i : Int)).commit, .int .i64 (s.msg (i : Int)).form] 34 (0, 0))) ∧ Hid (GroupAt W B g (s.cut (i : Int)) μ1 ok) ∧ Hid (GStep w W B g μ μ1 ok ok) ∧ Hid (MM.Rd W ok 2 (.slice A (s.msg (i : Int)).entries.length c) (s.msg (i : Int)).entries.length (entsC (s.msg (i : Int)).entries))) _ (by exact ⟨Lib.hid (MM.alloc_new _ _), Lib.hid (G1.out.alloc _), Lib.hid (S1.out.fresh ((Below.refl _ _).alloc S1.out.below.size _) HBS.out), Lib.hid (RD1.out.alloc _)⟩) ?_
    clear G1 S1 RD1
    intro w2 ⟨R2, G2, S2, RD2⟩
    obtain ⟨d0, d1, d2, d3, d4, d5, d6, d7, d8, d9⟩ := MM.cells10 R2.out
    go_wp2_with fail
    refine (gup_any w2 B g (s.cut (i : Int)) μ1 ok G2.out _ (by rw [cut_ns, HG.out.len]; omega)).mono ?_
    rintro e w' ⟨⟨j, pb, h1, hto, hj, hp, rfl⟩ | ⟨h1, rfl⟩, rfl⟩
    · obtain ⟨pb', hp', _, _, _, _, σ, hv, hc⟩ := G2.out.place hj
      rw [hp] at hp'
      injection hp' with hp'
      subst hp'
      have x0 : w2.cell? ⟨pb, j * 14, none⟩ = some (.int .i64 ((s.cut (i : Int)).node (j : Int)).id) := hc 0 _ rfl
      have x1 : w2.cell? ⟨pb, j * 14 + 1, none⟩ = some (.int .i64 ((s.cut (i : Int)).node (j : Int)).term) := hc 1 _ rfl
      have x2 : w2.cell? ⟨pb, j * 14 + 2, none⟩ = some (.int .i64 ((s.cut (i : Int)).node (j : Int)).vote) := hc 2 _ rfl
      have x3 : w2.cell? ⟨pb, j * 14 + 3, none⟩ = some (.slice σ.A3 ((s.cut (i : Int)).node (j : Int)).log.length σ.k3) := hc 3 _ rfl
      have x4 : w2.cell? ⟨pb, j * 14 + 4, none⟩ = some (.int .i64 ((s.cut (i : Int)).node (j : Int)).form) := hc 4 _ rfl
      have x5 : w2.cell? ⟨pb, j * 14 + 5, none⟩ = some (.int .i64 ((s.cut (i : Int)).node (j : Int)).role) := hc 5 _ rfl
      have x6 : w2.cell? ⟨pb, j * 14 + 6, none⟩ = some (.int .i64 ((s.cut (i : Int)).node (j : Int)).commit) := hc 6 _ rfl
      have x7 : w2.cell? ⟨pb, j * 14 + 7, none⟩ = some (.slice σ.A7 ((s.cut (i : Int)).node (j : Int)).votes.length σ.k7) := hc 7 _ rfl
      have x8 : w2.cell? ⟨pb, j * 14 + 8, none⟩ = some (.slice σ.A8 ((s.cut (i : Int)).node (j : Int)).nxt.length σ.k8) := hc 8 _ rfl
      have x9 : w2.cell? ⟨pb, j * 14 + 9, none⟩ = some (.slice σ.A9 ((s.cut (i : Int)).node (j : Int)).mtch.length σ.k9) := hc 9 _ rfl
      have x10 : w2.cell? ⟨pb, j * 14 + 10, none⟩ = some (.slice σ.A10 ((s.cut (i : Int)).node (j : Int)).forms.length σ.k10) := hc 10 _ rfl
      have x11 : w2.cell? ⟨pb, j * 14 + 11, none⟩ = some (.int .i64 ((s.cut (i : Int)).node (j : Int)).clock) := hc 11 _ rfl
      have x12 : w2.cell? ⟨pb, j * 14 + 12, none⟩ = some (.int .i64 ((s.cut (i : Int)).node (j : Int)).due) := hc 12 _ rfl
      have gx := (HG.out.cut (i : Int)).node hj
      have gm := HG.out.msg hi
      have V := Lib.hid hv
      have HP := Lib.hid hp
      have OPE := Lib.hid (show s.deliver (i : Int) = ⟨(s.cut (i : Int)).ns.set j (handleS ((s.cut (i : Int)).node (j : Int)) (s.msg (i : Int))).n, (s.cut (i : Int)).us, (s.cut (i : Int)).f ++ (handleS ((s.cut (i : Int)).node (j : Int)) (s.msg (i : Int))).out⟩ from by
        unfold GS.deliver GS.put
        rw [cut_isUp] at h1
        rw [if_pos HS.out, if_pos h1, hto, cut_node, Int.toNat_natCast])
      have HOL := Lib.hid (handleS_out ((s.cut (i : Int)).node (j : Int)) (s.msg (i : Int)) (by rw [gx.v]; omega))
      have HPL := Lib.hid (show ∀ k, μ1.owns g k ∨ ok k → k ≠ w2.heap.size from fun k hk => by rcases hk with hk | hk; exact Nat.ne_of_lt (G2.out.ownlt k hk).2; exact Nat.ne_of_lt (G2.out.okl k hk))
      have hpl2 : pb < w2.heap.size := (G2.out.ltp pb hp).2
      have hml2 : w1.heap.size < w2.heap.size := MM.blk_lt R2.out
      clear h1 hto hp hv hc
      go_upto_region 4 with (fail)
      refine Go.RT.wp_region_tree [0, 1, 3, 7, 0, 31, 63, 127, 127, 0, 767, 2047] (.p 0 (.p 1 (.p 2 (.s 3 (.s 4 (.w 5 [] (.p 6 (.p 7 (.p 8 (.w 9 [3, 4] (.w 10 [] (.w 11 [] .nil .stop) .stop) .stop)))) (.w 9 [3, 4] (.w 5 [] (.p 6 (.p 7 (.p 8 (.w 10 [] (.w 11 [] .nil .stop) .stop)))) .stop) .stop))))))) (by kernel_rfl) (by kernel_rfl) ?_
      repeat (first | (refine Go.RT.step_p rfl (fun K hK => ?_); go_simp; refine hK _ ?_; clear hK K) | (refine Go.RT.step_s rfl (fun K hK => ?_); go_simp; refine hK _ ?_; clear hK K))
      (refine Go.RT.step_w rfl rfl (fun K hK => ?_) ?_)
      · go_wp2_with fail
        refine (handle_c _ _ ((s.cut (i : Int)).node (j : Int)) σ (V.out.step (w1 := w2.drew) (fun _ _ _ => rfl)) (s.msg (i : Int)) A c ok (RD2.out.step (w1 := w2.drew) (fun _ _ _ => rfl)) (by have := gx.l; omega) (by rw [gx.v]; omega) (by rw [gx.x, gx.v]) (by rw [gx.m, gx.v]) (by rw [gx.f, gx.v]) gm.e (by have := gx.c0; omega) (by have := gx.c1; omega) gx.cm ⟨gm.i0, gm.i1⟩ (fun q hq => gx.hx q (by rw [← gx.x]; exact hq)) (fun q hq => gx.hy q (by rw [← gx.m]; exact hq))).mono ?_
        rintro e w3 ⟨τ, Ao, ko, rfl, hn, hm, hb⟩
        have hb0 : Below w2.heap.size w2 w3 := (Below.refl _ w2).drew.trans hb
        have G3 := Lib.hid (G2.out.newerB hb0 w2.heap.size (Nat.le_refl _))
        have N3 := Lib.hid (hn.mono (ok' := (fun k => ok k ∨ (w2.heap.size ≤ k ∧ k < w3.heap.size))) (fun k hk hl => .inr ⟨hk, hl⟩))
        have M3 := Lib.hid (hm.mono (ok' := (fun k => ok k ∨ (w2.heap.size ≤ k ∧ k < w3.heap.size))) (fun k hk hl => .inr ⟨hk, hl⟩))
        have HB3 := Lib.hid hb0
        have X0 := (World.cell?_of_block (a := ⟨pb, j * 14, none⟩) (hb0.block pb hpl2)).trans x0
        have X1 := (World.cell?_of_block (a := ⟨pb, j * 14 + 1, none⟩) (hb0.block pb hpl2)).trans x1
        have X2 := (World.cell?_of_block (a := ⟨pb, j * 14 + 2, none⟩) (hb0.block pb hpl2)).trans x2
        have X3 := (World.cell?_of_block (a := ⟨pb, j * 14 + 3, none⟩) (hb0.block pb hpl2)).trans x3
        have X4 := (World.cell?_of_block (a := ⟨pb, j * 14 + 4, none⟩) (hb0.block pb hpl2)).trans x4
        have X5 := (World.cell?_of_block (a := ⟨pb, j * 14 + 5, none⟩) (hb0.block pb hpl2)).trans x5
        have X6 := (World.cell?_of_block (a := ⟨pb, j * 14 + 6, none⟩) (hb0.block pb hpl2)).trans x6
        have X7 := (World.cell?_of_block (a := ⟨pb, j * 14 + 7, none⟩) (hb0.block pb hpl2)).trans x7
        have X8 := (World.cell?_of_block (a := ⟨pb, j * 14 + 8, none⟩) (hb0.block pb hpl2)).trans x8
        have X9 := (World.cell?_of_block (a := ⟨pb, j * 14 + 9, none⟩) (hb0.block pb hpl2)).trans x9
        have X10 := (World.cell?_of_block (a := ⟨pb, j * 14 + 10, none⟩) (hb0.block pb hpl2)).trans x10
        have X11 := (World.cell?_of_block (a := ⟨pb, j * 14 + 11, none⟩) (hb0.block pb hpl2)).trans x11
        have X12 := (World.cell?_of_block (a := ⟨pb, j * 14 + 12, none⟩) (hb0.block pb hpl2)).trans x12
        have D0 := (World.cell?_of_block (a := ⟨w1.heap.size, 0, none⟩) (hb0.block _ hml2)).trans d0
        have D1 := (World.cell?_of_block (a := ⟨w1.heap.size, 1, none⟩) (hb0.block _ hml2)).trans d1
        have D2 := (World.cell?_of_block (a := ⟨w1.heap.size, 2, none⟩) (hb0.block _ hml2)).trans d2
        have D3 := (World.cell?_of_block (a := ⟨w1.heap.size, 3, none⟩) (hb0.block _ hml2)).trans d3
        have D4 := (World.cell?_of_block (a := ⟨w1.heap.size, 4, none⟩) (hb0.block _ hml2)).trans d4
        have D5 := (World.cell?_of_block (a := ⟨w1.heap.size, 5, none⟩) (hb0.block _ hml2)).trans d5
        have D6 := (World.cell?_of_block (a := ⟨w1.heap.size, 6, none⟩) (hb0.block _ hml2)).trans d6
        have D7 := (World.cell?_of_block (a := ⟨w1.heap.size, 7, none⟩) (hb0.block _ hml2)).trans d7
        have D8 := (World.cell?_of_block (a := ⟨w1.heap.size, 8, none⟩) (hb0.block _ hml2)).trans d8
        have D9 := (World.cell?_of_block (a := ⟨w1.heap.size, 9, none⟩) (hb0.block _ hml2)).trans d9
        have hpl3 : pb < w3.heap.size := Nat.lt_of_lt_of_le hpl2 hb0.size
        have hml3 : w1.heap.size < w3.heap.size := Nat.lt_of_lt_of_le hml2 hb0.size
        clear hn hm hb hb0
        obtain ⟨r, hr⟩ : ∃ r, r = handleS ((s.cut (i : Int)).node (j : Int)) (s.msg (i : Int)) := ⟨_, rfl⟩
        rw [← hr] at OPE N3 M3 HOL ⊢
        clear hr
        go_wp2_with fail
        refine Go.RT.QK_normal _ _ _ _ (hK _ _ ?_ ?_) <;> clear hK K
        · repeat (first | exact Go.RT.again_nil | (refine Go.RT.again_not rfl rfl ?_) | (refine Go.RT.again_one rfl (by go_simp <;> rfl) ?_))
        repeat (first | (refine Go.RT.step_p rfl (fun K hK => ?_); go_simp; refine hK _ ?_; clear hK K) | (refine Go.RT.step_s rfl (fun K hK => ?_); go_simp; refine hK _ ?_; clear hK K))
        (refine Go.RT.step_w rfl rfl (fun K hK => ?_) Go.RT.step_stop)
        go_wp2
        refine Go.RT.QK_normal _ _ _ _ (hK _ _ ?_ ?_) <;> clear hK K
        · repeat (first | exact Go.RT.again_nil | (refine Go.RT.again_not rfl rfl ?_) | (refine Go.RT.again_one rfl (by go_simp <;> rfl) ?_))
        (refine Go.RT.step_w rfl rfl (fun K hK => ?_) Go.RT.step_stop)
        go_wp2
        refine Go.RT.QK_normal _ _ _ _ (hK _ _ ?_ ?_) <;> clear hK K
        · repeat (first | exact Go.RT.again_nil | (refine Go.RT.again_not rfl rfl ?_) | (refine Go.RT.again_one rfl (by go_simp <;> rfl) ?_))
        (refine Go.RT.step_w rfl rfl (fun K hK => ?_) Go.RT.step_stop)
        go_wp2
        refine Go.RT.QK_normal _ _ _ _ (hK _ _ ?_ ?_) <;> clear hK K
        · repeat (first | exact Go.RT.again_nil | (refine Go.RT.again_not rfl rfl ?_) | (refine Go.RT.again_one rfl (by go_simp <;> rfl) ?_))
        refine Go.RT.step_nil ?_
        go_upto_region 5 with (fail)
        refine name_world (F := fun W => Hid (W.heap[w3.heap.size]? = some (.cells #[.int .i64 r.n.id, .int .i64 r.n.term, .int .i64 r.n.vote, .slice τ.A3 r.n.log.length τ.k3, .int .i64 r.n.form, .int .i64 r.n.role, .int .i64 r.n.commit, .slice τ.A7 r.n.votes.length τ.k7, .slice τ.A8 r.n.nxt.length τ.k8, .slice τ.A9 r.n.mtch.length τ.k9, .slice τ.A10 r.n.forms.length τ.k10, .int .i64 r.n.clock, .int .i64 r.n.due] 28 (0, 0))) ∧ Hid (GroupAt W B g (s.cut (i : Int)) μ1 (fun k => ok k ∨ (w2.heap.size ≤ k ∧ k < w3.heap.size))) ∧ Hid (NodeVs W (fun k => ok k ∨ (w2.heap.size ≤ k ∧ k < w3.heap.size)) r.n τ) ∧ Hid (MsgsV W (fun k => ok k ∨ (w2.heap.size ≤ k ∧ k < w3.heap.size)) (.slice Ao r.out.length ko) r.out) ∧ Hid (Below w2.heap.size w3 W)) _ (by exact ⟨Lib.hid (MM.alloc_new _ _), Lib.hid (G3.out.alloc _), Lib.hid (N3.out.step (fun k _ hl => Below.heap_alloc _ _ k hl)), Lib.hid (M3.out.step (fun k _ hl => Below.heap_alloc _ _ k hl)), Lib.hid ((Below.refl _ _).alloc HB3.out.size _)⟩) ?_
        clear G3 N3 M3
        intro w4 ⟨R4, G4, N4, M4, S4⟩
        obtain ⟨u0, u1, u2, u3, u4, u5, u6, u7, u8, u9, u10, u11, u12⟩ := MM.cells13 R4.out
        clear x0 x1 x2 x3 x4 x5 x6 x7 x8 x9 x10 x11 x12 d0 d1 d2 d3 d4 d5 d6 d7 d8 d9 X0 X1 X2 X3 X4 X5 X6 X7 X8 X9 X10 X11 X12 D0 D1 D2 D3 D4 D5 D6 D7 D8 D9
        go_wp2_with fail
        refine (gset_any _ B g (s.cut (i : Int)) μ1 (fun k => ok k ∨ (w2.heap.size ≤ k ∧ k < w3.heap.size)) G4.out j pb hj HP.out r.n τ N4.out Ao ko r.out M4.out (by have := (HG.out.cut (i : Int)).fl; have := HOL.out; omega)).mono ?_
        rintro e w5 ⟨μ', rfl, hG, hS, _⟩
        rw [← OPE.out] at hG
        have G5 := Lib.hid hG
        have S5 := Lib.hid hS
        clear hG hS u0 u1 u2 u3 u4 u5 u6 u7 u8 u9 u10 u11 u12
        go_wp2_with fail
        go_ret
        exact ⟨μ', (fun k => ok k ∨ (w2.heap.size ≤ k ∧ k < w3.heap.size)), MM.ret_bool HS.out.symm, G5.out, S2.out.trans (S5.out.since (HB3.out.trans S4.out) G2.out.Bsize (fun k hk => by
          rcases hk with hk | hk
          · exact .inl hk
          · exact .inr (by omega)))⟩
      (refine Go.RT.step_w rfl rfl (fun K hK => ?_) Go.RT.step_stop)
      go_wp2
      refine Go.RT.QK_normal _ _ _ _ (hK _ _ ?_ ?_) <;> clear hK K
      · repeat (first | exact Go.RT.again_nil | (refine Go.RT.again_not rfl rfl ?_) | (refine Go.RT.again_one rfl (by go_simp <;> rfl) ?_))
      (refine Go.RT.step_w rfl rfl (fun K hK => ?_) Go.RT.step_stop)
      go_wp2_with fail
      refine (handle_c _ _ ((s.cut (i : Int)).node (j : Int)) σ (V.out.step (w1 := (w2.alloc (.cells #[.int .i64 0, .int .i64 0, .int .i64 0, .slice none 0 0, .int .i64 0, .int .i64 0, .int .i64 0, .slice none 0 0, .slice none 0 0, .slice none 0 0, .slice none 0 0, .int .i64 0, .int .i64 0] 28 (0, 0))).drew) (fun k _ hl => Below.heap_alloc _ _ k hl)) (s.msg (i : Int)) A c ok (RD2.out.step (w1 := (w2.alloc (.cells #[.int .i64 0, .int .i64 0, .int .i64 0, .slice none 0 0, .int .i64 0, .int .i64 0, .int .i64 0, .slice none 0 0, .slice none 0 0, .slice none 0 0, .slice none 0 0, .int .i64 0, .int .i64 0] 28 (0, 0))).drew) (fun k _ hl => Below.heap_alloc _ _ k hl)) (by have := gx.l; omega) (by rw [gx.v]; omega) (by rw [gx.x, gx.v]) (by rw [gx.m, gx.v]) (by rw [gx.f, gx.v]) gm.e (by have := gx.c0; omega) (by have := gx.c1; omega) gx.cm ⟨gm.i0, gm.i1⟩ (fun q hq => gx.hx q (by rw [← gx.x]; exact hq)) (fun q hq => gx.hy q (by rw [← gx.m]; exact hq))).mono ?_
      rintro e w3 ⟨τ, Ao, ko, rfl, hn, hm, hb⟩
      have hb0 : Below w2.heap.size w2 w3 := ((Below.refl _ w2).alloc (Nat.le_refl _) (.cells #[.int .i64 0, .int .i64 0, .int .i64 0, .slice none 0 0, .int .i64 0, .int .i64 0, .int .i64 0, .slice none 0 0, .slice none 0 0, .slice none 0 0, .slice none 0 0, .int .i64 0, .int .i64 0] 28 (0, 0))).drew.trans (hb.mono (by simp))
      have G3 := Lib.hid (G2.out.newerB hb0 (w2.heap.size + 1) (by omega))
      have N3 := Lib.hid (hn.mono (ok' := (fun k => ok k ∨ (w2.heap.size + 1 ≤ k ∧ k < w3.heap.size))) (fun k hk hl => .inr ⟨by have h9 : (w2.alloc (.cells #[.int .i64 0, .int .i64 0, .int .i64 0, .slice none 0 0, .int .i64 0, .int .i64 0, .int .i64 0, .slice none 0 0, .slice none 0 0, .slice none 0 0, .slice none 0 0, .int .i64 0, .int .i64 0] 28 (0, 0))).heap.size ≤ k := hk; simp at h9; omega, hl⟩))
      have M3 := Lib.hid (hm.mono (ok' := (fun k => ok k ∨ (w2.heap.size + 1 ≤ k ∧ k < w3.heap.size))) (fun k hk hl => .inr ⟨by have h9 : (w2.alloc (.cells #[.int .i64 0, .int .i64 0, .int .i64 0, .slice none 0 0, .int .i64 0, .int .i64 0, .int .i64 0, .slice none 0 0, .slice none 0 0, .slice none 0 0, .slice none 0 0, .int .i64 0, .int .i64 0] 28 (0, 0))).heap.size ≤ k := hk; simp at h9; omega, hl⟩))
      have HB3 := Lib.hid hb0
      have R3 := Lib.hid ((hb.block w2.heap.size (by simp)).trans (MM.alloc_new w2 (.cells #[.int .i64 0, .int .i64 0, .int .i64 0, .slice none 0 0, .int .i64 0, .int .i64 0, .int .i64 0, .slice none 0 0, .slice none 0 0, .slice none 0 0, .slice none 0 0, .int .i64 0, .int .i64 0] 28 (0, 0))))
      clear hn hm hb hb0
      obtain ⟨r, hr⟩ : ∃ r, r = handleS ((s.cut (i : Int)).node (j : Int)) (s.msg (i : Int)) := ⟨_, rfl⟩
      rw [← hr] at OPE N3 M3 HOL ⊢
      clear hr
      go_wp2_with fail
      obtain ⟨y0, y1, y2, y3, y4, y5, y6, y7, y8, y9, y10, y11, y12⟩ := MM.cells13 R3.out
      obtain ⟨z0, z1, z2, z3, z4, z5, z6, z7, z8, z9, z10, z11, z12⟩ := MM.frees13 R3.out
      refine Go.RT.QK_normal _ _ _ _ (hK _ _ ?_ ?_) <;> clear hK K
      · repeat (first | exact Go.RT.again_nil | (refine Go.RT.again_not rfl rfl ?_) | (refine Go.RT.again_one rfl (by go_simp <;> rfl) ?_))
      repeat (first | (refine Go.RT.step_p rfl (fun K hK => ?_); go_simp; refine hK _ ?_; clear hK K) | (refine Go.RT.step_s rfl (fun K hK => ?_); go_simp; refine hK _ ?_; clear hK K))
      (refine Go.RT.step_w rfl rfl (fun K hK => ?_) Go.RT.step_stop)
      go_wp2
      refine Go.RT.QK_normal _ _ _ _ (hK _ _ ?_ ?_) <;> clear hK K
      · repeat (first | exact Go.RT.again_nil | (refine Go.RT.again_not rfl rfl ?_) | (refine Go.RT.again_one rfl (by go_simp <;> rfl) ?_))
      (refine Go.RT.step_w rfl rfl (fun K hK => ?_) Go.RT.step_stop)
      go_wp2
      refine Go.RT.QK_normal _ _ _ _ (hK _ _ ?_ ?_) <;> clear hK K
      · repeat (first | exact Go.RT.again_nil | (refine Go.RT.again_not rfl rfl ?_) | (refine Go.RT.again_one rfl (by go_simp <;> rfl) ?_))
      refine Go.RT.step_nil ?_
      go_upto_region 5 with (fail)
      refine name_world (F := fun W => Hid (W.heap[w2.heap.size]? = some (.cells #[.int .i64 r.n.id, .int .i64 r.n.term, .int .i64 r.n.vote, .slice τ.A3 r.n.log.length τ.k3, .int .i64 r.n.form, .int .i64 r.n.role, .int .i64 r.n.commit, .slice τ.A7 r.n.votes.length τ.k7, .slice τ.A8 r.n.nxt.length τ.k8, .slice τ.A9 r.n.mtch.length τ.k9, .slice τ.A10 r.n.forms.length τ.k10, .int .i64 r.n.clock, .int .i64 r.n.due] 28 (0, 0))) ∧ Hid (GroupAt W B g (s.cut (i : Int)) μ1 (fun k => ok k ∨ (w2.heap.size + 1 ≤ k ∧ k < w3.heap.size))) ∧ Hid (NodeVs W (fun k => ok k ∨ (w2.heap.size + 1 ≤ k ∧ k < w3.heap.size)) r.n τ) ∧ Hid (MsgsV W (fun k => ok k ∨ (w2.heap.size + 1 ≤ k ∧ k < w3.heap.size)) (.slice Ao r.out.length ko) r.out) ∧ Hid (Below w2.heap.size w3 W)) _ (by exact ⟨Lib.hid ((set13 R3.out).trans rfl), Lib.hid (G3.out.step (fun k hk => far13 (by rcases hk with hk | hk | hk; exact HPL.out k (.inl hk); exact HPL.out k (.inr hk); omega)) (by simp [World.setCell])), Lib.hid (N3.out.step (fun k hk _ => far13 (by rcases hk with hk | hk; exact HPL.out k (.inr hk); omega))), Lib.hid (M3.out.step (fun k hk _ => far13 (by rcases hk with hk | hk; exact HPL.out k (.inr hk); omega))), Lib.hid (below13 (Below.refl _ _) (Nat.le_refl _))⟩) ?_
      clear G3 N3 M3 R3
      intro w4 ⟨R4, G4, N4, M4, S4⟩
      obtain ⟨u0, u1, u2, u3, u4, u5, u6, u7, u8, u9, u10, u11, u12⟩ := MM.cells13 R4.out
      clear x0 x1 x2 x3 x4 x5 x6 x7 x8 x9 x10 x11 x12 d0 d1 d2 d3 d4 d5 d6 d7 d8 d9 y0 z0 y1 z1 y2 z2 y3 z3 y4 z4 y5 z5 y6 z6 y7 z7 y8 z8 y9 z9 y10 z10 y11 z11 y12 z12
      go_wp2_with fail
      refine (gset_any _ B g (s.cut (i : Int)) μ1 (fun k => ok k ∨ (w2.heap.size + 1 ≤ k ∧ k < w3.heap.size)) G4.out j pb hj HP.out r.n τ N4.out Ao ko r.out M4.out (by have := (HG.out.cut (i : Int)).fl; have := HOL.out; omega)).mono ?_
      rintro e w5 ⟨μ', rfl, hG, hS, _⟩
      rw [← OPE.out] at hG
      have G5 := Lib.hid hG
      have S5 := Lib.hid hS
      clear hG hS u0 u1 u2 u3 u4 u5 u6 u7 u8 u9 u10 u11 u12
      go_wp2_with fail
      go_ret
      exact ⟨μ', (fun k => ok k ∨ (w2.heap.size + 1 ≤ k ∧ k < w3.heap.size)), MM.ret_bool HS.out.symm, G5.out, S2.out.trans (S5.out.since (HB3.out.trans S4.out) G2.out.Bsize (fun k hk => by
        rcases hk with hk | hk
        · exact .inl hk
        · exact .inr (by omega)))⟩
    · have OPE := Lib.hid (show s.deliver (i : Int) = s.cut (i : Int) from by
        unfold GS.deliver
        rw [cut_isUp] at h1
        rw [if_pos HS.out, if_neg (by rw [h1]; simp)])
      clear h1
      go_wp2_with fail
      go_ret
      refine ⟨μ1, ok, MM.ret_bool HS.out.symm, ?_, S2.out⟩
      rw [OPE.out]
      exact G2.out
  · have HS := Lib.hid hs
    have OPE := Lib.hid (show s.deliver a = s.cut a from by unfold GS.deliver GS.cut; rw [hs]; rfl)
    clear hs
    go_upto_region 2 with (fail)
    refine name_world (F := fun W => Hid (W.heap[w1.heap.size]? = some (.cells #[.int .i64 0, .int .i64 0, .int .i64 0, .int .i64 0, .int .i64 0, .int .i64 0, .bool false, .slice none 0 0, .int .i64 0, .int .i64 0] 34 (0, 0))) ∧ Hid (GroupAt W B g (s.cut a) μ1 ok) ∧ Hid (GStep w W B g μ μ1 ok ok)) _ (by exact ⟨Lib.hid (MM.alloc_new _ _), Lib.hid (G1.out.alloc _), Lib.hid (S1.out.fresh ((Below.refl _ _).alloc S1.out.below.size _) HBS.out)⟩) ?_
    clear G1 S1
    intro w2 ⟨R2, G2, S2⟩
    obtain ⟨d0, d1, d2, d3, d4, d5, d6, d7, d8, d9⟩ := MM.cells10 R2.out
    go_wp2_with fail
    refine (gup_any w2 B g (s.cut a) μ1 ok G2.out _ (by rw [cut_ns, HG.out.len]; omega)).mono ?_
    rintro e w' ⟨⟨j, pb, h1, hto, hj, hp, rfl⟩ | ⟨h1, rfl⟩, rfl⟩
    · clear h1 hto hj hp
      go_wp2_with fail
      go_ret
      refine ⟨μ1, ok, MM.ret_bool HS.out.symm, ?_, S2.out⟩
      rw [OPE.out]
      exact G2.out
    · clear h1
      go_wp2_with fail
      go_ret
      refine ⟨μ1, ok, MM.ret_bool HS.out.symm, ?_, S2.out⟩
      rw [OPE.out]
      exact G2.out

end Go.Proofs.Ytnkmljdkokcdjaa
