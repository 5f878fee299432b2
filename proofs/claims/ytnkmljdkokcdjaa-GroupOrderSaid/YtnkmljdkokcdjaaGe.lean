/-
  The queue's take answers as the plain function. Condition: a group lies there.
-/
import Derived.WalkKit
import Derived.WalkSpells
import Derived.Lib.Hide
import Derived.Outline
import Derived.Test.YtnkmljdkokcdjaaChecked
import Derived.Test.YtnkmljdkokcdjaaMn
import Derived.Test.YtnkmljdkokcdjaaMem
import Derived.Test.YtnkmljdkokcdjaaFed
import Derived.Test.YtnkmljdkokcdjaaGd
import Derived.Deep.DeepCutAuto
import Derived.Deep.CutBlock
import Derived.Deep.OwnRows
import Derived.IntWalk
set_option linter.unusedVariables false
set_option linter.unusedSimpArgs false
namespace Go.Proofs.Ytnkmljdkokcdjaa
open Go.RowKit Fed
set_option linter.unusedVariables false
attribute [local go_sem high] Fed.max2_int Fed.min2_int

theorem GStep.fresh {w w1 w2 : World} {B g : Nat} {μ μ1 : GM} {ok ok1 : Nat → Prop} (h : GStep w w1 B g μ μ1 ok ok1) (hb : Below w.heap.size w1 w2) (hB : B ≤ w.heap.size) : GStep w w2 B g μ μ1 ok ok1 :=
  ⟨h.below.trans (hb.mono hB), fun k hk hn => (hb.block k hk).trans (h.keep k hk hn), h.own, h.oks⟩
theorem putL_all {b t : Nat} {f : Nat × Nat} {us : List Value} {w : World} {c : Array Value} (h : w.heap[b]? = some (.cells c t f)) (hs : us.length = c.size) : (putL w b 0 us).heap[b]? = some (.cells us.toArray t f) := by
  obtain ⟨c', k1, k2, k3⟩ := putL_blk (us := us) (o := 0) h (by omega)
  rw [k1]
  have : c' = us.toArray := by
    apply Array.ext_getElem?
    intro i
    rw [k3]
    by_cases hi : i < us.length
    · rw [if_pos ⟨by omega, by omega⟩]; simp
    · rw [if_neg (by omega), Array.getElem?_eq_none (by omega)]; simp; omega
  rw [this]
set_option maxRecDepth 100000 in
set_option maxHeartbeats 40000000 in
theorem gtake_any (w : World) (B g : Nat) (s : GS) (μ : GM) (ok : Nat → Prop) (h : GroupAt w B g s μ ok) (a : Int) (hl : s.f.length ≤ 1000000) :
    Calls Try.prog 81 #[.pointer (some ⟨g, 1, none⟩), .int .i64 a] w fun e w' => ∃ μ', AtSays w' ok s a e ∧ GroupAt w' B g (s.cut a) μ' ok ∧ GStep w w' B g μ μ' ok ok ∧ μ'.p = μ.p := by
  have HLT := Lib.hid (show ∀ k, μ.owns g k ∨ ok k → k < w.heap.size from fun k hk => by rcases hk with hk | hk; exact (h.ownlt k hk).2; exact h.okl k hk)
  have HBS := Lib.hid h.Bsize
  have H0 := Lib.hid (h.alloc (.cells #[.int .i64 0, .int .i64 0, .int .i64 0, .int .i64 0, .int .i64 0, .int .i64 0, .bool false, .slice none 0 0, .int .i64 0, .int .i64 0] 34 (0, 0)))
  clear h
  go_enter Try.func81, Try.ntmps81
  go_wp2_with fail
  refine (gat_any _ B g s μ ok H0.out a hl).mono ?_
  rintro e w1 ⟨hat, hb1⟩
  have R1 := Lib.hid ((hb1.block w.heap.size (by simp)).trans (MM.alloc_new w (.cells #[.int .i64 0, .int .i64 0, .int .i64 0, .int .i64 0, .int .i64 0, .int .i64 0, .bool false, .slice none 0 0, .int .i64 0, .int .i64 0] 34 (0, 0))))
  have G1 := Lib.hid (H0.out.below hb1)
  have HB1 := Lib.hid (((Below.refl w.heap.size w).alloc (Nat.le_refl _) (.cells #[.int .i64 0, .int .i64 0, .int .i64 0, .int .i64 0, .int .i64 0, .int .i64 0, .bool false, .slice none 0 0, .int .i64 0, .int .i64 0] 34 (0, 0))).trans (hb1.mono (by simp)))
  rcases hat with ⟨hs, A, c, rfl, hrd⟩ | ⟨hs, rfl⟩
  · obtain ⟨i, rfl, hi⟩ := has_some hs
    have HS := Lib.hid hs
    have RD1 := Lib.hid hrd
    clear hs hrd hb1 H0
    obtain ⟨x0, x1, x2, x3, x4, x5, x6, x7, x8, x9⟩ := MM.cells10 R1.out
    have z0 : w1.frozen? ⟨w.heap.size, 0, none⟩ = false := MM.free_blk R1.out
    have z1 : w1.frozen? ⟨w.heap.size, 1, none⟩ = false := MM.free_blk R1.out
    have z2 : w1.frozen? ⟨w.heap.size, 2, none⟩ = false := MM.free_blk R1.out
    have z3 : w1.frozen? ⟨w.heap.size, 3, none⟩ = false := MM.free_blk R1.out
    have z4 : w1.frozen? ⟨w.heap.size, 4, none⟩ = false := MM.free_blk R1.out
    have z5 : w1.frozen? ⟨w.heap.size, 5, none⟩ = false := MM.free_blk R1.out
    have z6 : w1.frozen? ⟨w.heap.size, 6, none⟩ = false := MM.free_blk R1.out
    have z7 : w1.frozen? ⟨w.heap.size, 7, none⟩ = false := MM.free_blk R1.out
    have z8 : w1.frozen? ⟨w.heap.size, 8, none⟩ = false := MM.free_blk R1.out
    have z9 : w1.frozen? ⟨w.heap.size, 9, none⟩ = false := MM.free_blk R1.out
    go_upto_region 2 with (fail)
    refine name_world (F := fun W => Hid (W.heap[w.heap.size]? = some (.cells #[.int .i64 (s.msg (i : Int)).kind, .int .i64 (s.msg (i : Int)).frm, .int .i64 (s.msg (i : Int)).to, .int .i64 (s.msg (i : Int)).term, .int .i64 (s.msg (i : Int)).index, .int .i64 (s.msg (i : Int)).logTerm, .bool (s.msg (i : Int)).ok, .slice A (s.msg (i : Int)).entries.length c, .int .i64 (s.msg (i : Int)).commit, .int .i64 (s.msg (i : Int)).form] 34 (0, 0))) ∧ Hid (GroupAt W B g s μ ok) ∧ Hid (MM.Rd W ok 2 (.slice A (s.msg (i : Int)).entries.length c) (s.msg (i : Int)).entries.length (entsC (s.msg (i : Int)).entries)) ∧ Hid (GStep w W B g μ μ ok ok)) _ (by exact ⟨Lib.hid ((set10 R1.out).trans rfl), Lib.hid (G1.out.step (fun k hk => far10 (Nat.ne_of_lt (HLT.out k hk))) (by simp [World.setCell])), Lib.hid (RD1.out.step (fun k hk _ => far10 (Nat.ne_of_lt (HLT.out k (.inr hk))))), Lib.hid (GStep.ofBelow (below10 HB1.out (Nat.le_refl _)) HBS.out)⟩) ?_
    clear R1 G1 RD1 HB1
    intro w2 ⟨R2, G2, RD2, S2⟩
    clear x0 z0 x1 z1 x2 z2 x3 z3 x4 z4 x5 z5 x6 z6 x7 z7 x8 z8 x9 z9
    have HR2 := Lib.hid (MM.blk_lt R2.out)
    obtain ⟨fb, hfb, hF, hd1, hd2, _, _⟩ := G2.out.fly hi
    have c1 := G2.out.c1
    have g1 := G2.out.fr 1
    have HFB := Lib.hid hfb
    have HF := Lib.hid hF
    rw [hF] at c1
    have hiw : IntKind.i64.wrap ((i : Int) + 1) = (i : Int) + 1 := IntWalk.i64_in _ (by omega)
    clear hF hfb
    go_wp2_with fail
    have hfl := G2.out.fl
    rw [HF.out, HFB.out] at hfl
    refine (gdelete_any _ B fb μ.d i s.f ok hfl (fun k hk e => G2.out.no k hk (.inr (.inr (by rw [HFB.out, e])))) hi hl).mono ?_
    rintro e w3 ⟨rfl, hf3, hk3, hb3⟩
    have hgf : g ≠ fb := ty_ne G2.out.tyg (G2.out.tyf fb HFB.out) (by decide)
    have hrf : w.heap.size ≠ fb := by have := HLT.out fb (.inl (.inr (.inr HFB.out))); omega
    have hrg : w.heap.size ≠ g := by have := HLT.out g (.inl (.inl rfl)); omega
    have c3 := (World.cell?_of_block (a := ⟨g, 1, none⟩) (hk3 g hgf)).trans c1
    have g3 := (World.frozen?_of_block (a := ⟨g, 1, none⟩) (hk3 g hgf)).trans g1
    have HP := Lib.hid (G2.out.putF hf3 (fun k _ hn => hk3 k (fun e => hn (by rw [HFB.out, e]))) (.inl HFB.out.symm) (hb3 B (G2.out.ltf fb HFB.out).1))
    have R3 := Lib.hid ((hk3 _ hrf).trans R2.out)
    have RD3 := Lib.hid (RD2.out.step (fun k hk _ => hk3 k (fun e => G2.out.no k hk (.inr (.inr (by rw [HFB.out, e]))))))
    have HRG := Lib.hid hrg
    have HNG := Lib.hid (show ∀ k, ok k → k ≠ g from fun k hk e => G2.out.no k hk (.inl e))
    clear hfl hf3 hk3 hb3 c1 g1 hgf hrf hrg hd1 hd2 G2 R2 RD2
    go_upto_region 4 with (fail)
    clear c3 g3
    have hcut : s.cut (i : Int) = ⟨s.ns, s.us, s.f.eraseIdx i⟩ := by unfold GS.cut; rw [if_pos HS.out]; rfl
    have HP' := HP.out
    rw [← hcut] at HP'
    obtain ⟨μ', hG4, hS4, hp4⟩ : ∃ μ', GroupAt (w3.setCell ⟨g, 1, none⟩ (.slice (some ⟨fb, 0, none⟩) (s.f.eraseIdx i).length μ.d)) B g (s.cut (i : Int)) μ' ok ∧ GStep w2 (w3.setCell ⟨g, 1, none⟩ (.slice (some ⟨fb, 0, none⟩) (s.f.eraseIdx i).length μ.d)) B g μ μ' ok ok ∧ μ'.p = μ.p := ⟨_, HP'.1, HP'.2, rfl⟩
    have HNE := Lib.hid (show ∀ k, μ'.owns g k ∨ ok k → k ≠ w.heap.size from fun k hk => by
      rcases hk with hk | hk
      · rcases hS4.own k hk with q | q
        · exact Nat.ne_of_lt (HLT.out k (.inl q))
        · have := HR2.out; omega
      · exact Nat.ne_of_lt (HLT.out k (.inr hk)))
    have HP4 := Lib.hid hp4
    have HG4 := Lib.hid hG4
    have HS4 := Lib.hid (S2.out.trans hS4)
    clear HP HP' hcut hp4 hG4 hS4 S2
    refine name_world (F := fun W => Hid (W.heap[w.heap.size]? = some (.cells #[.int .i64 (s.msg (i : Int)).kind, .int .i64 (s.msg (i : Int)).frm, .int .i64 (s.msg (i : Int)).to, .int .i64 (s.msg (i : Int)).term, .int .i64 (s.msg (i : Int)).index, .int .i64 (s.msg (i : Int)).logTerm, .bool (s.msg (i : Int)).ok, .slice A (s.msg (i : Int)).entries.length c, .int .i64 (s.msg (i : Int)).commit, .int .i64 (s.msg (i : Int)).form] 34 (0, 0))) ∧ Hid (GroupAt W B g (s.cut (i : Int)) μ' ok) ∧ Hid (GStep w W B g μ μ' ok ok) ∧ Hid (MM.Rd W ok 2 (.slice A (s.msg (i : Int)).entries.length c) (s.msg (i : Int)).entries.length (entsC (s.msg (i : Int)).entries))) _ (by exact ⟨Lib.hid ((Below.heap_setCell _ _ _ _ HRG.out).trans R3.out), Lib.hid (HG4.out), Lib.hid (HS4.out), Lib.hid (RD3.out.far (fun k hk e => HNG.out k hk e) _)⟩) ?_
    clear R3 HG4 HS4 RD3
    intro w4 ⟨R4, G4, S4, RD4⟩
    obtain ⟨x0, x1, x2, x3, x4, x5, x6, x7, x8, x9⟩ := MM.cells10 R4.out
    have z0 : w4.frozen? ⟨w.heap.size, 0, none⟩ = false := MM.free_blk R4.out
    have z1 : w4.frozen? ⟨w.heap.size, 1, none⟩ = false := MM.free_blk R4.out
    have z2 : w4.frozen? ⟨w.heap.size, 2, none⟩ = false := MM.free_blk R4.out
    have z3 : w4.frozen? ⟨w.heap.size, 3, none⟩ = false := MM.free_blk R4.out
    have z4 : w4.frozen? ⟨w.heap.size, 4, none⟩ = false := MM.free_blk R4.out
    have z5 : w4.frozen? ⟨w.heap.size, 5, none⟩ = false := MM.free_blk R4.out
    have z6 : w4.frozen? ⟨w.heap.size, 6, none⟩ = false := MM.free_blk R4.out
    have z7 : w4.frozen? ⟨w.heap.size, 7, none⟩ = false := MM.free_blk R4.out
    have z8 : w4.frozen? ⟨w.heap.size, 8, none⟩ = false := MM.free_blk R4.out
    have z9 : w4.frozen? ⟨w.heap.size, 9, none⟩ = false := MM.free_blk R4.out
    go_wp2_with fail
    clear x0 z0 x1 z1 x2 z2 x3 z3 x4 z4 x5 z5 x6 z6 x7 z7 x8 z8 x9 z9
    refine name_world (F := fun W => Hid (W.heap[w.heap.size]? = some (.cells #[.int .i64 (s.msg (i : Int)).kind, .int .i64 (s.msg (i : Int)).frm, .int .i64 (s.msg (i : Int)).to, .int .i64 (s.msg (i : Int)).term, .int .i64 (s.msg (i : Int)).index, .int .i64 (s.msg (i : Int)).logTerm, .bool (s.msg (i : Int)).ok, .slice A (s.msg (i : Int)).entries.length c, .int .i64 (s.msg (i : Int)).commit, .int .i64 (s.msg (i : Int)).form] 34 (0, 0))) ∧ Hid (GroupAt W B g (s.cut (i : Int)) μ' ok) ∧ Hid (GStep w W B g μ μ' ok ok) ∧ Hid (MM.Rd W ok 2 (.slice A (s.msg (i : Int)).entries.length c) (s.msg (i : Int)).entries.length (entsC (s.msg (i : Int)).entries))) _ (by exact ⟨Lib.hid ((set10 R4.out).trans rfl), Lib.hid (G4.out.step (fun k hk => far10 (HNE.out k hk)) (by simp [World.setCell])), Lib.hid (S4.out.fresh (below10 (Below.refl _ _) (Nat.le_refl _)) HBS.out), Lib.hid (RD4.out.step (fun k hk _ => far10 (HNE.out k (.inr hk))))⟩) ?_
    intro w5 ⟨R5, G5, S5, RD5⟩
    obtain ⟨u0, u1, u2, u3, u4, u5, u6, u7, u8, u9⟩ := MM.cells10 R5.out
    refine bodyPost_ret (v := .tuple #[.agg #[.int .i64 (s.msg (i : Int)).kind, .int .i64 (s.msg (i : Int)).frm, .int .i64 (s.msg (i : Int)).to, .int .i64 (s.msg (i : Int)).term, .int .i64 (s.msg (i : Int)).index, .int .i64 (s.msg (i : Int)).logTerm, .bool (s.msg (i : Int)).ok, .slice A (s.msg (i : Int)).entries.length c, .int .i64 (s.msg (i : Int)).commit, .int .i64 (s.msg (i : Int)).form], .bool true]) (by simp [results, Try.results81, go_sem, u0, u1, u2, u3, u4, u5, u6, u7, u8, u9]) rfl ?_
    exact ⟨μ', .inl ⟨HS.out, A, c, rfl, RD5.out⟩, G5.out, S5.out, HP4.out⟩
  · have HS := Lib.hid hs
    clear hs hb1 H0
    obtain ⟨x0, x1, x2, x3, x4, x5, x6, x7, x8, x9⟩ := MM.cells10 R1.out
    have z0 : w1.frozen? ⟨w.heap.size, 0, none⟩ = false := MM.free_blk R1.out
    have z1 : w1.frozen? ⟨w.heap.size, 1, none⟩ = false := MM.free_blk R1.out
    have z2 : w1.frozen? ⟨w.heap.size, 2, none⟩ = false := MM.free_blk R1.out
    have z3 : w1.frozen? ⟨w.heap.size, 3, none⟩ = false := MM.free_blk R1.out
    have z4 : w1.frozen? ⟨w.heap.size, 4, none⟩ = false := MM.free_blk R1.out
    have z5 : w1.frozen? ⟨w.heap.size, 5, none⟩ = false := MM.free_blk R1.out
    have z6 : w1.frozen? ⟨w.heap.size, 6, none⟩ = false := MM.free_blk R1.out
    have z7 : w1.frozen? ⟨w.heap.size, 7, none⟩ = false := MM.free_blk R1.out
    have z8 : w1.frozen? ⟨w.heap.size, 8, none⟩ = false := MM.free_blk R1.out
    have z9 : w1.frozen? ⟨w.heap.size, 9, none⟩ = false := MM.free_blk R1.out
    go_upto_region 2 with (fail)
    refine name_world (F := fun W => Hid (W.heap[w.heap.size]? = some (.cells #[.int .i64 0, .int .i64 0, .int .i64 0, .int .i64 0, .int .i64 0, .int .i64 0, .bool false, .slice none 0 0, .int .i64 0, .int .i64 0] 34 (0, 0))) ∧ Hid (GroupAt W B g s μ ok) ∧ Hid (GStep w W B g μ μ ok ok)) _ (by exact ⟨Lib.hid ((set10 R1.out).trans rfl), Lib.hid (G1.out.step (fun k hk => far10 (Nat.ne_of_lt (HLT.out k hk))) (by simp [World.setCell])), Lib.hid (GStep.ofBelow (below10 HB1.out (Nat.le_refl _)) HBS.out)⟩) ?_
    clear R1 G1 HB1
    intro w2 ⟨R2, G2, S2⟩
    clear x0 z0 x1 z1 x2 z2 x3 z3 x4 z4 x5 z5 x6 z6 x7 z7 x8 z8 x9 z9
    obtain ⟨x0, x1, x2, x3, x4, x5, x6, x7, x8, x9⟩ := MM.cells10 R2.out
    have z0 : w2.frozen? ⟨w.heap.size, 0, none⟩ = false := MM.free_blk R2.out
    have z1 : w2.frozen? ⟨w.heap.size, 1, none⟩ = false := MM.free_blk R2.out
    have z2 : w2.frozen? ⟨w.heap.size, 2, none⟩ = false := MM.free_blk R2.out
    have z3 : w2.frozen? ⟨w.heap.size, 3, none⟩ = false := MM.free_blk R2.out
    have z4 : w2.frozen? ⟨w.heap.size, 4, none⟩ = false := MM.free_blk R2.out
    have z5 : w2.frozen? ⟨w.heap.size, 5, none⟩ = false := MM.free_blk R2.out
    have z6 : w2.frozen? ⟨w.heap.size, 6, none⟩ = false := MM.free_blk R2.out
    have z7 : w2.frozen? ⟨w.heap.size, 7, none⟩ = false := MM.free_blk R2.out
    have z8 : w2.frozen? ⟨w.heap.size, 8, none⟩ = false := MM.free_blk R2.out
    have z9 : w2.frozen? ⟨w.heap.size, 9, none⟩ = false := MM.free_blk R2.out
    go_wp2_with fail
    clear x0 z0 x1 z1 x2 z2 x3 z3 x4 z4 x5 z5 x6 z6 x7 z7 x8 z8 x9 z9
    refine name_world (F := fun W => Hid (W.heap[w.heap.size]? = some (.cells #[.int .i64 0, .int .i64 0, .int .i64 0, .int .i64 0, .int .i64 0, .int .i64 0, .bool false, .slice none 0 0, .int .i64 0, .int .i64 0] 34 (0, 0))) ∧ Hid (GroupAt W B g s μ ok) ∧ Hid (GStep w W B g μ μ ok ok)) _ (by exact ⟨Lib.hid ((set10 R2.out).trans rfl), Lib.hid (G2.out.step (fun k hk => far10 (Nat.ne_of_lt (HLT.out k hk))) (by simp [World.setCell])), Lib.hid (S2.out.fresh (below10 (Below.refl _ _) (Nat.le_refl _)) HBS.out)⟩) ?_
    intro w5 ⟨R7, G7, S7⟩
    obtain ⟨u0, u1, u2, u3, u4, u5, u6, u7, u8, u9⟩ := MM.cells10 R7.out
    refine bodyPost_ret (v := .tuple #[.agg #[.int .i64 0, .int .i64 0, .int .i64 0, .int .i64 0, .int .i64 0, .int .i64 0, .bool false, .slice none 0 0, .int .i64 0, .int .i64 0], .bool false]) (by simp [results, Try.results81, go_sem, u0, u1, u2, u3, u4, u5, u6, u7, u8, u9]) rfl ?_
    have hcut : s.cut a = s := by unfold GS.cut; rw [HS.out]; rfl
    rw [hcut]
    exact ⟨μ, .inr ⟨HS.out, rfl⟩, G7.out, S7.out, rfl⟩

end Go.Proofs.Ytnkmljdkokcdjaa
