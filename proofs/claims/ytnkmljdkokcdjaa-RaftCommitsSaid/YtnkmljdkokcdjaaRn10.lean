/-
  The document's appended answers as the plain appendS. Conditions: the lengths and numbers are bounded as the theorem says.
-/
import Derived.WalkKit
import Derived.WalkSpells
import Derived.Lib.Hide
import Derived.Outline
import Derived.Test.YtnkmljdkokcdjaaChecked
import Derived.Test.YtnkmljdkokcdjaaMn
import Derived.Test.YtnkmljdkokcdjaaMem
import Derived.Test.YtnkmljdkokcdjaaFed
import Derived.Test.YtnkmljdkokcdjaaRk1
import Derived.Test.YtnkmljdkokcdjaaRn3
import Derived.Test.YtnkmljdkokcdjaaMl
import Derived.Test.YtnkmljdkokcdjaaMf
import Derived.Test.YtnkmljdkokcdjaaClone
import Derived.Deep.DeepCutAuto
import Derived.Deep.CutBlock
import Derived.Deep.OwnRows
import Derived.IntWalk
set_option linter.unusedVariables false
set_option linter.unusedSimpArgs false
namespace Go.Proofs.Ytnkmljdkokcdjaa
open Go.RowKit Fed
set_option linter.unusedVariables false
attribute [local go_sem high] Fed.max2_int Fed.min2_int

theorem takeL_hit {l es : List Fed.Entry} {k : Nat} {e : Fed.Entry} (h : termAt l ((k + 1 : Nat) : Int) = e.term ∧ k + 1 ≤ l.length) : takeL l k (e :: es) = takeL l (k + 1) es := by rw [takeL, if_pos h]
theorem takeL_miss {l es : List Fed.Entry} {k : Nat} {e : Fed.Entry} (h : ¬ (termAt l ((k + 1 : Nat) : Int) = e.term ∧ k + 1 ≤ l.length)) : takeL l k (e :: es) = takeL (l.take k ++ [e]) (k + 1) es := by rw [takeL, if_neg h]
set_option maxRecDepth 100000 in
set_option maxHeartbeats 40000000 in
theorem rappended_any (w : World) (B : Nat) (n : Fed.Node) (σ : Sl5) (ω : O5) (h : NodeOs w B n σ ω) (hB : B ≤ w.heap.size) (m : Fed.Msg) (A : Option Addr) (c : Nat) (hr : MM.Rd w (fun k => k < w.heap.size) 2 (.slice A m.entries.length c) m.entries.length (entsC m.entries)) (l1 : n.log.length ≤ 700000) (he : m.entries.length ≤ 1000) (hz : 0 ≤ m.index ∧ m.index ≤ 1000000)
    (hi0 : -1000000000 ≤ n.id) (hi1 : n.id ≤ 1000000000) (hc0 : -1000000000 ≤ n.clock) (hc1 : n.clock ≤ 1000000000) (hle : m.term ≤ n.term) :
    Calls Try.prog 115 #[.agg #[.int .i64 n.id, .int .i64 n.term, .int .i64 n.vote, .slice σ.A3 n.log.length σ.k3, .int .i64 n.form, .int .i64 n.role, .int .i64 n.commit, .slice σ.A7 n.votes.length σ.k7, .slice σ.A8 n.nxt.length σ.k8, .slice σ.A9 n.mtch.length σ.k9, .slice σ.A10 n.forms.length σ.k10, .int .i64 n.clock, .int .i64 n.due], .agg #[.int .i64 m.kind, .int .i64 m.frm, .int .i64 m.to, .int .i64 m.term, .int .i64 m.index, .int .i64 m.logTerm, .bool m.ok, .slice A m.entries.length c, .int .i64 m.commit, .int .i64 m.form]] w fun e w' => ∃ τ υ A c, e = .returned (.tuple #[.agg #[.int .i64 (appendS ⟨n, []⟩ m).n.id, .int .i64 (appendS ⟨n, []⟩ m).n.term, .int .i64 (appendS ⟨n, []⟩ m).n.vote, .slice τ.A3 (appendS ⟨n, []⟩ m).n.log.length τ.k3, .int .i64 (appendS ⟨n, []⟩ m).n.form, .int .i64 (appendS ⟨n, []⟩ m).n.role, .int .i64 (appendS ⟨n, []⟩ m).n.commit, .slice τ.A7 (appendS ⟨n, []⟩ m).n.votes.length τ.k7, .slice τ.A8 (appendS ⟨n, []⟩ m).n.nxt.length τ.k8, .slice τ.A9 (appendS ⟨n, []⟩ m).n.mtch.length τ.k9, .slice τ.A10 (appendS ⟨n, []⟩ m).n.forms.length τ.k10, .int .i64 (appendS ⟨n, []⟩ m).n.clock, .int .i64 (appendS ⟨n, []⟩ m).n.due], .slice A (appendS ⟨n, []⟩ m).out.length c]) ∧ NodeOs w' B (appendS ⟨n, []⟩ m).n τ υ ∧ MsgsV w' (fun k => w.heap.size ≤ k) (.slice A (appendS ⟨n, []⟩ m).out.length c) (appendS ⟨n, []⟩ m).out ∧ Below w.heap.size w w' := by
  obtain ⟨mi, hmi⟩ : ∃ mi : Nat, m.index = mi := ⟨m.index.toNat, by omega⟩
  have hmi1 : mi ≤ 1000000 := by omega
  have HMI := Lib.hid hmi
  have H := Lib.hid h
  have HR0 := Lib.hid hr
  clear h hr hmi hz
  go_enter Try.func115, Try.ntmps115
  go_upto_region 1 with (fail)
  refine name_world (F := fun W => Hid (NB W B w.heap.size n σ ω) ∧ Hid (W.heap[w.heap.size + 1]? = some (.cells #[.int .i64 m.kind, .int .i64 m.frm, .int .i64 m.to, .int .i64 m.term, .int .i64 m.index, .int .i64 m.logTerm, .bool m.ok, .slice A m.entries.length c, .int .i64 m.commit, .int .i64 m.form] 34 (0, 0))) ∧ Hid (W.heap[w.heap.size + 2]? = some (.cells #[.int .i64 0, .int .i64 0, .int .i64 0, .slice none 0 0, .int .i64 0, .int .i64 0, .int .i64 0, .slice none 0 0, .slice none 0 0, .slice none 0 0, .slice none 0 0, .int .i64 0, .int .i64 0] 28 (0, 0))) ∧ Hid (Below w.heap.size w W) ∧ Hid (MM.Rd W (fun k => k < w.heap.size) 2 (.slice A m.entries.length c) m.entries.length (entsC m.entries))) _ ⟨Lib.hid (⟨hB, (Below.heap_alloc _ _ _ (by simp; omega)).trans ((Below.heap_alloc _ _ _ (by simp)).trans (MM.alloc_new w _)), ((H.out.alloc _).alloc _).alloc _⟩), Lib.hid (alloc_mid w _ _ _), Lib.hid (alloc_new2 w _ _ _), Lib.hid ((((Below.refl _ w).alloc (Nat.le_refl _) _).alloc (by simp) _).alloc (by simp; omega) _), Lib.hid (HR0.out.step (fun k hk _ => (Below.heap_alloc _ _ k (by simp; omega)).trans ((Below.heap_alloc _ _ k (by simp; omega)).trans (Below.heap_alloc w _ k hk))))⟩ ?_
  clear H HR0
  intro w1 ⟨N, M, Y, HB, HR⟩
  have c1 : w1.cell? ⟨w.heap.size, 1, none⟩ = some (.int .i64 n.term) := N.out.c 1 _ rfl
  have d3 : w1.cell? ⟨w.heap.size + 1, 3, none⟩ = some (.int .i64 m.term) := MM.cell_blk M.out rfl
  by_cases ht : m.term = n.term
  case neg =>
    have htb : decide (m.term < n.term) = true := decide_eq_true (by omega)
    have HE := Lib.hid (show appendS ⟨n, []⟩ m = ⟨n, [matchMsg n m.frm n.log.length false]⟩ from by unfold appendS; rw [if_pos ht]; rfl)
    clear ht
    go_upto_region 2 with (fail)
    clear c1 d3 htb
    go_wp2_with fail
    refine Go.RT.wp_region_tree [0, 0, 0, 4, 0, 16, 48, 126, 255, 511] (.s 0 (.s 1 (.p 2 (.s 3 (.p 4 (.s 5 (.p 6 (.w 7 [0] (.w 8 [] (.w 9 [] .nil .stop) .stop) .stop)))))))) (by kernel_rfl) (by kernel_rfl) ?_
    refine name_world (F := fun W => Hid (NB W B w.heap.size n σ ω) ∧ Hid (W.heap[w.heap.size + 1]? = some (.cells #[.int .i64 m.kind, .int .i64 m.frm, .int .i64 m.to, .int .i64 m.term, .int .i64 m.index, .int .i64 m.logTerm, .bool m.ok, .slice A m.entries.length c, .int .i64 m.commit, .int .i64 m.form] 34 (0, 0))) ∧ Hid (W.heap[w.heap.size + 2]? = some (.cells #[.int .i64 0, .int .i64 0, .int .i64 0, .slice none 0 0, .int .i64 0, .int .i64 0, .int .i64 0, .slice none 0 0, .slice none 0 0, .slice none 0 0, .slice none 0 0, .int .i64 0, .int .i64 0] 28 (0, 0))) ∧ Hid (Below w.heap.size w W)) _ ⟨Lib.hid (N.out.drew), Lib.hid (M.out), Lib.hid (Y.out), Lib.hid (HB.out.drew)⟩ ?_
    clear N M Y HB HR
    intro w1d ⟨Nd, Md, Yd, HBd⟩
    obtain ⟨c0, c1, c2, c3, c4, c5, c6, c7, c8, c9, c10, c11, c12⟩ := MM.cells13 Nd.out.blk
    have d1 : w1d.cell? ⟨w.heap.size + 1, 1, none⟩ = some (.int .i64 m.frm) := MM.cell_blk Md.out rfl
    have d4 : w1d.cell? ⟨w.heap.size + 1, 4, none⟩ = some (.int .i64 (mi : Int)) := by rw [← HMI.out]; exact MM.cell_blk Md.out rfl
    repeat (first | (refine Go.RT.step_p rfl (fun K hK => ?_); go_simp; refine hK _ ?_; clear hK K) | (refine Go.RT.step_s rfl (fun K hK => ?_); go_simp; refine hK _ ?_; clear hK K))
    (refine Go.RT.step_w rfl rfl (fun K hK => ?_) Go.RT.step_stop)
    go_wp2_with fail
    refine (matched_any _ n σ m.frm (n.log.length : Int) false).mono ?_
    rintro e v6 ⟨bo, rfl, hm6, hb6⟩
    have N6 := Lib.hid (Nd.out.below hb6)
    have Y6 := Lib.hid ((hb6.block _ (MM.blk_lt Yd.out)).trans Yd.out)
    have HB6 := Lib.hid (HBd.out.trans (hb6.mono HBd.out.size))
    have HM6 := Lib.hid hm6
    have hsz6 : w.heap.size + 2 < w1d.heap.size := MM.blk_lt Yd.out
    clear hm6 hb6
    obtain ⟨cs0, cs1, cs2, cs3, cs4, cs5, cs6, cs7, cs8, cs9, cs10, cs11, cs12⟩ := MM.cells13 N6.out.blk
    obtain ⟨ys0, ys1, ys2, ys3, ys4, ys5, ys6, ys7, ys8, ys9, ys10, ys11, ys12⟩ := MM.cells13 Y6.out
    obtain ⟨zs0, zs1, zs2, zs3, zs4, zs5, zs6, zs7, zs8, zs9, zs10, zs11, zs12⟩ := MM.frees13 Y6.out
    go_wp2_with fail
    refine Go.RT.QK_normal _ _ _ _ (hK _ _ ?_ ?_) <;> clear hK K
    · repeat (first | exact Go.RT.again_nil | (refine Go.RT.again_not rfl rfl ?_) | (refine Go.RT.again_one rfl (by go_simp <;> rfl) ?_))
    (refine Go.RT.step_w rfl rfl (fun K hK => ?_) Go.RT.step_stop)
    go_wp2
    refine Go.RT.QK_normal _ _ _ _ (hK _ _ ?_ ?_) <;> clear hK K
    · repeat (first | exact Go.RT.again_nil | (refine Go.RT.again_not rfl rfl ?_) | (refine Go.RT.again_one rfl (by go_simp <;> rfl) ?_))
    (refine Go.RT.step_w rfl rfl (fun K hK => ?_) Go.RT.step_stop)
    go_wp2
    refine Go.RT.QK_normal _ _ _ _ (hK _ _ ?_ ?_) <;> clear hK K
    · repeat (first | exact Go.RT.again_nil | (refine Go.RT.again_not rfl rfl ?_) | (refine Go.RT.again_one rfl (by go_simp <;> rfl) ?_))
    refine Go.RT.step_nil ?_
    go_wp2_with fail
    refine name_world (F := fun W => Hid (W.heap[w.heap.size + 2]? = some (.cells #[.int .i64 n.id, .int .i64 n.term, .int .i64 n.vote, .slice σ.A3 n.log.length σ.k3, .int .i64 n.form, .int .i64 n.role, .int .i64 n.commit, .slice σ.A7 n.votes.length σ.k7, .slice σ.A8 n.nxt.length σ.k8, .slice σ.A9 n.mtch.length σ.k9, .slice σ.A10 n.forms.length σ.k10, .int .i64 n.clock, .int .i64 n.due] 28 (0, 0))) ∧ Hid (NodeOs W B n σ ω) ∧ Hid (Below w.heap.size w W) ∧ Hid (MsgsV W (fun k => w1d.heap.size ≤ k) (.slice (some ⟨bo, 0, none⟩) 1 1) [matchMsg n m.frm (n.log.length : Int) false])) _ ⟨Lib.hid ((set13 Y6.out).trans rfl), Lib.hid (N6.out.rows.types (fun k t hk ht' => far13 (ty_ne hk ⟨_, _, Y6.out⟩ (by rcases ht' with rfl | rfl | rfl <;> decide)))), Lib.hid (below13 HB6.out (by omega)), Lib.hid (HM6.out.step (fun k hk _ => far13 (by have hk' : w1d.heap.size ≤ k := hk; omega)))⟩ ?_
    intro wf ⟨Y9, N9, B9, M9⟩
    obtain ⟨u0, u1, u2, u3, u4, u5, u6, u7, u8, u9, u10, u11, u12⟩ := MM.cells13 Y9.out
    refine bodyPost_ret (v := .tuple #[.agg #[.int .i64 n.id, .int .i64 n.term, .int .i64 n.vote, .slice σ.A3 n.log.length σ.k3, .int .i64 n.form, .int .i64 n.role, .int .i64 n.commit, .slice σ.A7 n.votes.length σ.k7, .slice σ.A8 n.nxt.length σ.k8, .slice σ.A9 n.mtch.length σ.k9, .slice σ.A10 n.forms.length σ.k10, .int .i64 n.clock, .int .i64 n.due], .slice (some ⟨bo, 0, none⟩) 1 1]) (by simp [results, Try.results115, go_sem, u0, u1, u2, u3, u4, u5, u6, u7, u8, u9, u10, u11, u12]) rfl ?_
    rw [HE.out]
    exact ⟨σ, ω, _, _, rfl, N9.out, M9.out.mono (fun k hk _ => by have hk' : w1d.heap.size ≤ k := hk; omega), B9.out⟩
  have htb : decide (m.term < n.term) = false := decide_eq_false (by omega)
  have HS := Lib.hid (show appendS ⟨n, []⟩ m = if fits n m = false then ⟨appendN0 n, [matchMsg (appendN0 n) m.frm (mn n.log.length (m.index - 1)) false]⟩ else ⟨appendN n m, [matchMsg (appendN n m) m.frm (m.index + m.entries.length) true]⟩ from by
    unfold appendS
    rw [if_neg (by show ¬ m.term ≠ n.term; omega)]
    rfl)
  clear ht hle
  go_upto_region 3 with (fail)
  clear c1 d3 htb
  obtain ⟨c0, c1, c2, c3, c4, c5, c6, c7, c8, c9, c10, c11, c12⟩ := MM.cells13 N.out.blk
  go_wp2_with fail
  refine (rdue_any _ n.id n.clock _ _ _ _ _ _ _ _ _ _ _ hc0 hc1 hi0 hi1).mono ?_
  rintro e w2 ⟨rfl, hb2⟩
  have N2 := Lib.hid (N.out.below hb2)
  have M2 := Lib.hid ((hb2.block _ (MM.blk_lt M.out)).trans M.out)
  have Y2 := Lib.hid ((hb2.block _ (MM.blk_lt Y.out)).trans Y.out)
  have HB2 := Lib.hid (HB.out.trans (hb2.mono HB.out.size))
  have HR2 := Lib.hid (HR.out.below hb2)
  clear hb2 N M Y HB HR c0 c1 c2 c3 c4 c5 c6 c7 c8 c9 c10 c11 c12
  have c5 : w2.cell? ⟨w.heap.size, 5, none⟩ = some (.int .i64 n.role) := N2.out.c 5 _ rfl
  have c12 : w2.cell? ⟨w.heap.size, 12, none⟩ = some (.int .i64 n.due) := N2.out.c 12 _ rfl
  have g5 : w2.frozen? ⟨w.heap.size, 5, none⟩ = false := N2.out.fr 5
  have g12 : w2.frozen? ⟨w.heap.size, 12, none⟩ = false := N2.out.fr 12
  go_upto_region 4 with (fail)
  refine name_world (F := fun W => Hid (NB W B w.heap.size (appendN0 n) σ ω) ∧ Hid (W.heap[w.heap.size + 1]? = some (.cells #[.int .i64 m.kind, .int .i64 m.frm, .int .i64 m.to, .int .i64 m.term, .int .i64 m.index, .int .i64 m.logTerm, .bool m.ok, .slice A m.entries.length c, .int .i64 m.commit, .int .i64 m.form] 34 (0, 0))) ∧ Hid (W.heap[w.heap.size + 2]? = some (.cells #[.int .i64 0, .int .i64 0, .int .i64 0, .slice none 0 0, .int .i64 0, .int .i64 0, .int .i64 0, .slice none 0 0, .slice none 0 0, .slice none 0 0, .slice none 0 0, .int .i64 0, .int .i64 0] 28 (0, 0))) ∧ Hid (Below w.heap.size w W) ∧ Hid (MM.Rd W (fun k => k < w.heap.size) 2 (.slice A m.entries.length c) m.entries.length (entsC m.entries))) _ ⟨Lib.hid ((show NB _ B w.heap.size { n with role := 0, due := n.clock + 5 + 2 * n.id } σ ω from (N2.out.set (n' := { n with role := 0 }) rfl ⟨rfl, rfl, rfl, rfl, rfl⟩).set rfl ⟨rfl, rfl, rfl, rfl, rfl⟩)), Lib.hid ((Below.heap_setCell _ _ _ _ (by show w.heap.size + 1 ≠ w.heap.size; omega)).trans ((Below.heap_setCell _ _ _ _ (by show w.heap.size + 1 ≠ w.heap.size; omega)).trans M2.out)), Lib.hid ((Below.heap_setCell _ _ _ _ (by show w.heap.size + 2 ≠ w.heap.size; omega)).trans ((Below.heap_setCell _ _ _ _ (by show w.heap.size + 2 ≠ w.heap.size; omega)).trans Y2.out)), Lib.hid ((HB2.out.setCell (Nat.le_refl _) _).setCell (Nat.le_refl _) _), Lib.hid (HR2.out.step (fun k hk _ => (Below.heap_setCell _ _ _ k (by show k ≠ w.heap.size; omega)).trans (Below.heap_setCell _ _ _ k (by show k ≠ w.heap.size; omega))))⟩ ?_
  clear N2 M2 Y2 HB2 HR2 c5 c12 g5 g12
  intro w3 ⟨N, M, Y, HB, HR⟩
  have HN0 := Lib.hid (show (appendN0 n).log = n.log ∧ (appendN0 n).commit = n.commit from ⟨rfl, rfl⟩)
  obtain ⟨n1, hn1⟩ : ∃ gn : Fed.Node, gn = appendN0 n := ⟨_, rfl⟩
  rw [← hn1] at N HS HN0
  have HEn1 := Lib.hid hn1
  clear hn1
  have l1' : n1.log.length ≤ 700000 := by rw [HN0.out.1]; exact l1
  have HFI := Lib.hid (show fits n m = !(decide ((n1.log.length : Int) < (mi : Int)) || (decide (0 < (mi : Int)) && decide (termAt n1.log (mi : Int) ≠ m.logTerm))) from by unfold fits; rw [HMI.out, HN0.out.1])
  rw [← HN0.out.1, HMI.out] at HS
  clear l1
  have c3 : w3.cell? ⟨w.heap.size, 3, none⟩ = some (.slice σ.A3 n1.log.length σ.k3) := N.out.c 3 _ rfl
  have d5 : w3.cell? ⟨w.heap.size + 1, 5, none⟩ = some (.int .i64 m.logTerm) := MM.cell_blk M.out rfl
  have d4 : w3.cell? ⟨w.heap.size + 1, 4, none⟩ = some (.int .i64 (mi : Int)) := by rw [← HMI.out]; exact MM.cell_blk M.out rfl
  go_cut [45] (fun t45 wc => t45 = .bool (!fits n m) ∧ Hid (NB wc B w.heap.size n1 σ ω) ∧ Hid (wc.heap[w.heap.size + 1]? = some (.cells #[.int .i64 m.kind, .int .i64 m.frm, .int .i64 m.to, .int .i64 m.term, .int .i64 m.index, .int .i64 m.logTerm, .bool m.ok, .slice A m.entries.length c, .int .i64 m.commit, .int .i64 m.form] 34 (0, 0))) ∧ Hid (wc.heap[w.heap.size + 2]? = some (.cells #[.int .i64 0, .int .i64 0, .int .i64 0, .slice none 0 0, .int .i64 0, .int .i64 0, .int .i64 0, .slice none 0 0, .slice none 0 0, .slice none 0 0, .slice none 0 0, .int .i64 0, .int .i64 0] 28 (0, 0))) ∧ Hid (Below w.heap.size w wc) ∧ Hid (MM.Rd wc (fun k => k < w.heap.size) 2 (.slice A m.entries.length c) m.entries.length (entsC m.entries)))
  case first => as_aux_lemma =>
    by_cases ha : n1.log.length < mi
    · have hab : decide ((n1.log.length : Int) < (mi : Int)) = true := decide_eq_true (by omega)
      have HF := Lib.hid (show fits n m = false from by rw [HFI.out, hab]; rfl)
      clear HFI
      refine Go.RT.wp_region_tree [0, 1, 0, 4, 12, 31, 63, 127, 255, 511, 1023, 2047, 2047, 6143, 16383, 2047, 34815, 131071, 262143, 524287] (.p 0 (.s 1 (.p 2 (.s 3 (.p 4 (.p 5 (.p 6 (.p 7 (.s 8 (.p 9 (.p 10 (.s 11 (.p 12 (.s 13 (.p 15 (.s 16 (.w 14 [16] (.p 17 (.p 18 (.p 19 .nil))) .stop))))))))))))))))) (by kernel_rfl) (by kernel_rfl) ?_
      repeat (first | (refine Go.RT.step_p rfl (fun K hK => ?_); go_simp; refine hK _ ?_; clear hK K) | (refine Go.RT.step_s rfl (fun K hK => ?_); go_simp; refine hK _ ?_; clear hK K))
      (refine Go.RT.skip_w rfl rfl ?_ Go.RT.step_stop)
      (try simp only [Act.put, List.setIfInBounds_toArray, List.set_cons_zero, List.set_cons_succ])
      repeat (first | (refine Go.RT.step_p rfl (fun K hK => ?_); go_simp; refine hK _ ?_; clear hK K) | (refine Go.RT.step_s rfl (fun K hK => ?_); go_simp; refine hK _ ?_; clear hK K))
      refine Go.RT.step_nil ?_
      go_wp2_with fail
      go_meet
      case rel => exact ⟨by rw [HF.out]; rfl, Lib.hid N.out.drew, Lib.hid M.out, Lib.hid Y.out, Lib.hid HB.out.drew, Lib.hid HR.out.drew⟩
    · have hab : decide ((n1.log.length : Int) < (mi : Int)) = false := decide_eq_false (by omega)
      by_cases hp : 0 < mi
      · have hpb : decide (0 < (mi : Int)) = true := decide_eq_true (by omega)
        have hmi2 : (mi : Int) ≤ 1000000000 := by omega
        have hmi3 : -1000000000 ≤ (mi : Int) := by omega
        by_cases hq : termAt n1.log (mi : Int) = m.logTerm
        · have hqb : (termAt n1.log (mi : Int) != m.logTerm) = false := by simpa using hq
          have HF := Lib.hid (show fits n m = true from by rw [HFI.out, hab, hpb, decide_eq_false (show ¬ termAt n1.log (mi : Int) ≠ m.logTerm from fun h => h hq)]; rfl)
          clear HFI hq
          have c0 : w3.cell? ⟨w.heap.size, 0, none⟩ = some (.int .i64 n1.id) := N.out.c 0 _ rfl
          have c1 : w3.cell? ⟨w.heap.size, 1, none⟩ = some (.int .i64 n1.term) := N.out.c 1 _ rfl
          have c2 : w3.cell? ⟨w.heap.size, 2, none⟩ = some (.int .i64 n1.vote) := N.out.c 2 _ rfl
          have c4 : w3.cell? ⟨w.heap.size, 4, none⟩ = some (.int .i64 n1.form) := N.out.c 4 _ rfl
          have c5 : w3.cell? ⟨w.heap.size, 5, none⟩ = some (.int .i64 n1.role) := N.out.c 5 _ rfl
          have c6 : w3.cell? ⟨w.heap.size, 6, none⟩ = some (.int .i64 n1.commit) := N.out.c 6 _ rfl
          have c7 : w3.cell? ⟨w.heap.size, 7, none⟩ = some (.slice σ.A7 n1.votes.length σ.k7) := N.out.c 7 _ rfl
          have c8 : w3.cell? ⟨w.heap.size, 8, none⟩ = some (.slice σ.A8 n1.nxt.length σ.k8) := N.out.c 8 _ rfl
          have c9 : w3.cell? ⟨w.heap.size, 9, none⟩ = some (.slice σ.A9 n1.mtch.length σ.k9) := N.out.c 9 _ rfl
          have c10 : w3.cell? ⟨w.heap.size, 10, none⟩ = some (.slice σ.A10 n1.forms.length σ.k10) := N.out.c 10 _ rfl
          have c11 : w3.cell? ⟨w.heap.size, 11, none⟩ = some (.int .i64 n1.clock) := N.out.c 11 _ rfl
          have c12 : w3.cell? ⟨w.heap.size, 12, none⟩ = some (.int .i64 n1.due) := N.out.c 12 _ rfl
          refine Go.RT.wp_region_tree [0, 1, 0, 4, 12, 31, 63, 127, 255, 511, 1023, 2047, 2047, 6143, 16383, 2047, 34815, 131071, 262143, 524287] (.p 0 (.s 1 (.p 2 (.s 3 (.p 4 (.p 5 (.p 6 (.p 7 (.s 8 (.p 9 (.p 10 (.s 11 (.p 12 (.s 13 (.p 15 (.s 16 (.w 14 [16] (.p 17 (.p 18 (.p 19 .nil))) .stop))))))))))))))))) (by kernel_rfl) (by kernel_rfl) ?_
          repeat (first | (refine Go.RT.step_p rfl (fun K hK => ?_); go_simp; refine hK _ ?_; clear hK K) | (refine Go.RT.step_s rfl (fun K hK => ?_); go_simp; refine hK _ ?_; clear hK K))
          (refine Go.RT.step_w rfl rfl (fun K hK => ?_) Go.RT.step_stop)
          go_wp2_with fail
          refine (rterm_any _ _ n1.log _ _ _ _ _ _ _ _ _ _ _ _ σ.A3 σ.k3 (mi : Int) hmi3 hmi2 N.out.drew.toV.hl).mono ?_
          rintro e w4 ⟨rfl, hb4⟩
          have N4 := Lib.hid (N.out.drew.below hb4)
          have M4 := Lib.hid ((hb4.block _ (MM.blk_lt M.out)).trans M.out)
          have Y4 := Lib.hid ((hb4.block _ (MM.blk_lt Y.out)).trans Y.out)
          have HB4 := Lib.hid (HB.out.drew.trans (hb4.mono HB.out.size))
          have HR4 := Lib.hid (HR.out.drew.below hb4)
          clear hb4
          have de5 : w4.cell? ⟨w.heap.size + 1, 5, none⟩ = some (.int .i64 m.logTerm) := MM.cell_blk M4.out rfl
          go_wp2_with fail
          refine Go.RT.QK_normal _ _ _ _ (hK _ _ ?_ ?_) <;> clear hK K
          · repeat (first | exact Go.RT.again_nil | (refine Go.RT.again_not rfl rfl ?_) | (refine Go.RT.again_one rfl (by go_simp <;> rfl) ?_))
          repeat (first | (refine Go.RT.step_p rfl (fun K hK => ?_); go_simp; refine hK _ ?_; clear hK K) | (refine Go.RT.step_s rfl (fun K hK => ?_); go_simp; refine hK _ ?_; clear hK K))
          refine Go.RT.step_nil ?_
          go_wp2_with fail
          go_meet
          case rel => exact ⟨by rw [HF.out]; rfl, N4, M4, Y4, HB4, HR4⟩
        · have hqb : (termAt n1.log (mi : Int) != m.logTerm) = true := by simpa using hq
          have HF := Lib.hid (show fits n m = false from by rw [HFI.out, hab, hpb, decide_eq_true (show termAt n1.log (mi : Int) ≠ m.logTerm from hq)]; rfl)
          clear HFI hq
          have c0 : w3.cell? ⟨w.heap.size, 0, none⟩ = some (.int .i64 n1.id) := N.out.c 0 _ rfl
          have c1 : w3.cell? ⟨w.heap.size, 1, none⟩ = some (.int .i64 n1.term) := N.out.c 1 _ rfl
          have c2 : w3.cell? ⟨w.heap.size, 2, none⟩ = some (.int .i64 n1.vote) := N.out.c 2 _ rfl
          have c4 : w3.cell? ⟨w.heap.size, 4, none⟩ = some (.int .i64 n1.form) := N.out.c 4 _ rfl
          have c5 : w3.cell? ⟨w.heap.size, 5, none⟩ = some (.int .i64 n1.role) := N.out.c 5 _ rfl
          have c6 : w3.cell? ⟨w.heap.size, 6, none⟩ = some (.int .i64 n1.commit) := N.out.c 6 _ rfl
          have c7 : w3.cell? ⟨w.heap.size, 7, none⟩ = some (.slice σ.A7 n1.votes.length σ.k7) := N.out.c 7 _ rfl
          have c8 : w3.cell? ⟨w.heap.size, 8, none⟩ = some (.slice σ.A8 n1.nxt.length σ.k8) := N.out.c 8 _ rfl
          have c9 : w3.cell? ⟨w.heap.size, 9, none⟩ = some (.slice σ.A9 n1.mtch.length σ.k9) := N.out.c 9 _ rfl
          have c10 : w3.cell? ⟨w.heap.size, 10, none⟩ = some (.slice σ.A10 n1.forms.length σ.k10) := N.out.c 10 _ rfl
          have c11 : w3.cell? ⟨w.heap.size, 11, none⟩ = some (.int .i64 n1.clock) := N.out.c 11 _ rfl
          have c12 : w3.cell? ⟨w.heap.size, 12, none⟩ = some (.int .i64 n1.due) := N.out.c 12 _ rfl
          refine Go.RT.wp_region_tree [0, 1, 0, 4, 12, 31, 63, 127, 255, 511, 1023, 2047, 2047, 6143, 16383, 2047, 34815, 131071, 262143, 524287] (.p 0 (.s 1 (.p 2 (.s 3 (.p 4 (.p 5 (.p 6 (.p 7 (.s 8 (.p 9 (.p 10 (.s 11 (.p 12 (.s 13 (.p 15 (.s 16 (.w 14 [16] (.p 17 (.p 18 (.p 19 .nil))) .stop))))))))))))))))) (by kernel_rfl) (by kernel_rfl) ?_
          repeat (first | (refine Go.RT.step_p rfl (fun K hK => ?_); go_simp; refine hK _ ?_; clear hK K) | (refine Go.RT.step_s rfl (fun K hK => ?_); go_simp; refine hK _ ?_; clear hK K))
          (refine Go.RT.step_w rfl rfl (fun K hK => ?_) Go.RT.step_stop)
          go_wp2_with fail
          refine (rterm_any _ _ n1.log _ _ _ _ _ _ _ _ _ _ _ _ σ.A3 σ.k3 (mi : Int) hmi3 hmi2 N.out.drew.toV.hl).mono ?_
          rintro e w4 ⟨rfl, hb4⟩
          have N4 := Lib.hid (N.out.drew.below hb4)
          have M4 := Lib.hid ((hb4.block _ (MM.blk_lt M.out)).trans M.out)
          have Y4 := Lib.hid ((hb4.block _ (MM.blk_lt Y.out)).trans Y.out)
          have HB4 := Lib.hid (HB.out.drew.trans (hb4.mono HB.out.size))
          have HR4 := Lib.hid (HR.out.drew.below hb4)
          clear hb4
          have de5 : w4.cell? ⟨w.heap.size + 1, 5, none⟩ = some (.int .i64 m.logTerm) := MM.cell_blk M4.out rfl
          go_wp2_with fail
          refine Go.RT.QK_normal _ _ _ _ (hK _ _ ?_ ?_) <;> clear hK K
          · repeat (first | exact Go.RT.again_nil | (refine Go.RT.again_not rfl rfl ?_) | (refine Go.RT.again_one rfl (by go_simp <;> rfl) ?_))
          repeat (first | (refine Go.RT.step_p rfl (fun K hK => ?_); go_simp; refine hK _ ?_; clear hK K) | (refine Go.RT.step_s rfl (fun K hK => ?_); go_simp; refine hK _ ?_; clear hK K))
          refine Go.RT.step_nil ?_
          go_wp2_with fail
          go_meet
          case rel => exact ⟨by rw [HF.out]; rfl, N4, M4, Y4, HB4, HR4⟩
      · have hpb : decide (0 < (mi : Int)) = false := decide_eq_false (by omega)
        have HF := Lib.hid (show fits n m = true from by rw [HFI.out, hab, hpb]; rfl)
        clear HFI
        refine Go.RT.wp_region_tree [0, 1, 0, 4, 12, 31, 63, 127, 255, 511, 1023, 2047, 2047, 6143, 16383, 2047, 34815, 131071, 262143, 524287] (.p 0 (.s 1 (.p 2 (.s 3 (.p 4 (.p 5 (.p 6 (.p 7 (.s 8 (.p 9 (.p 10 (.s 11 (.p 12 (.s 13 (.p 15 (.s 16 (.w 14 [16] (.p 17 (.p 18 (.p 19 .nil))) .stop))))))))))))))))) (by kernel_rfl) (by kernel_rfl) ?_
        repeat (first | (refine Go.RT.step_p rfl (fun K hK => ?_); go_simp; refine hK _ ?_; clear hK K) | (refine Go.RT.step_s rfl (fun K hK => ?_); go_simp; refine hK _ ?_; clear hK K))
        (refine Go.RT.skip_w rfl rfl ?_ Go.RT.step_stop)
        (try simp only [Act.put, List.setIfInBounds_toArray, List.set_cons_zero, List.set_cons_succ])
        repeat (first | (refine Go.RT.step_p rfl (fun K hK => ?_); go_simp; refine hK _ ?_; clear hK K) | (refine Go.RT.step_s rfl (fun K hK => ?_); go_simp; refine hK _ ?_; clear hK K))
        refine Go.RT.step_nil ?_
        go_wp2_with fail
        go_meet
        case rel => exact ⟨by rw [HF.out]; rfl, Lib.hid N.out.drew, Lib.hid M.out, Lib.hid Y.out, Lib.hid HB.out.drew, Lib.hid HR.out.drew⟩
  case rest =>
    clear N M Y HB HR c3 d4 d5
    obtain ⟨rfl, N, M, Y, HB, HR⟩ := hcut
    by_cases hf : fits n m = false
    · have HE := Lib.hid (HS.out.trans (if_pos hf))
      rw [show (!fits n m) = true by rw [hf]; rfl]
      clear hf HS
      go_upto_region 5 with (fail)
      clear HFI
      go_wp2_with fail
      refine Go.RT.wp_region_tree [0, 0, 0, 4, 0, 16, 48, 0, 128, 384, 1008, 2046, 4095, 8191] (.s 0 (.s 1 (.p 2 (.s 3 (.p 4 (.s 5 (.p 6 (.p 7 (.s 8 (.p 9 (.p 10 (.w 11 [0] (.w 12 [] (.w 13 [] .nil .stop) .stop) .stop)))))))))))) (by kernel_rfl) (by kernel_rfl) ?_
      refine name_world (F := fun W => Hid (NB W B w.heap.size n1 σ ω) ∧ Hid (W.heap[w.heap.size + 1]? = some (.cells #[.int .i64 m.kind, .int .i64 m.frm, .int .i64 m.to, .int .i64 m.term, .int .i64 m.index, .int .i64 m.logTerm, .bool m.ok, .slice A m.entries.length c, .int .i64 m.commit, .int .i64 m.form] 34 (0, 0))) ∧ Hid (W.heap[w.heap.size + 2]? = some (.cells #[.int .i64 0, .int .i64 0, .int .i64 0, .slice none 0 0, .int .i64 0, .int .i64 0, .int .i64 0, .slice none 0 0, .slice none 0 0, .slice none 0 0, .slice none 0 0, .int .i64 0, .int .i64 0] 28 (0, 0))) ∧ Hid (Below w.heap.size w W)) _ ⟨Lib.hid (N.out.drew), Lib.hid (M.out), Lib.hid (Y.out), Lib.hid (HB.out.drew)⟩ ?_
      clear N M Y HB HR
      intro wcd ⟨Nd, Md, Yd, HBd⟩
      obtain ⟨c0, c1, c2, c3, c4, c5, c6, c7, c8, c9, c10, c11, c12⟩ := MM.cells13 Nd.out.blk
      have d1 : wcd.cell? ⟨w.heap.size + 1, 1, none⟩ = some (.int .i64 m.frm) := MM.cell_blk Md.out rfl
      have d4 : wcd.cell? ⟨w.heap.size + 1, 4, none⟩ = some (.int .i64 (mi : Int)) := by rw [← HMI.out]; exact MM.cell_blk Md.out rfl
      repeat (first | (refine Go.RT.step_p rfl (fun K hK => ?_); go_simp; refine hK _ ?_; clear hK K) | (refine Go.RT.step_s rfl (fun K hK => ?_); go_simp; refine hK _ ?_; clear hK K))
      (refine Go.RT.step_w rfl rfl (fun K hK => ?_) Go.RT.step_stop)
      go_wp2_with fail
      refine (matched_any _ n1 σ m.frm (mn (n1.log.length : Int) ((mi : Int) - 1)) false).mono ?_
      rintro e v6 ⟨bo, rfl, hm6, hb6⟩
      have N6 := Lib.hid (Nd.out.below hb6)
      have Y6 := Lib.hid ((hb6.block _ (MM.blk_lt Yd.out)).trans Yd.out)
      have HB6 := Lib.hid (HBd.out.trans (hb6.mono HBd.out.size))
      have HM6 := Lib.hid hm6
      have hsz6 : w.heap.size + 2 < wcd.heap.size := MM.blk_lt Yd.out
      clear hm6 hb6
      obtain ⟨cs0, cs1, cs2, cs3, cs4, cs5, cs6, cs7, cs8, cs9, cs10, cs11, cs12⟩ := MM.cells13 N6.out.blk
      obtain ⟨ys0, ys1, ys2, ys3, ys4, ys5, ys6, ys7, ys8, ys9, ys10, ys11, ys12⟩ := MM.cells13 Y6.out
      obtain ⟨zs0, zs1, zs2, zs3, zs4, zs5, zs6, zs7, zs8, zs9, zs10, zs11, zs12⟩ := MM.frees13 Y6.out
      go_wp2_with fail
      refine Go.RT.QK_normal _ _ _ _ (hK _ _ ?_ ?_) <;> clear hK K
      · repeat (first | exact Go.RT.again_nil | (refine Go.RT.again_not rfl rfl ?_) | (refine Go.RT.again_one rfl (by go_simp <;> rfl) ?_))
      (refine Go.RT.step_w rfl rfl (fun K hK => ?_) Go.RT.step_stop)
      go_wp2
      refine Go.RT.QK_normal _ _ _ _ (hK _ _ ?_ ?_) <;> clear hK K
      · repeat (first | exact Go.RT.again_nil | (refine Go.RT.again_not rfl rfl ?_) | (refine Go.RT.again_one rfl (by go_simp <;> rfl) ?_))
      (refine Go.RT.step_w rfl rfl (fun K hK => ?_) Go.RT.step_stop)
      go_wp2
      refine Go.RT.QK_normal _ _ _ _ (hK _ _ ?_ ?_) <;> clear hK K
      · repeat (first | exact Go.RT.again_nil | (refine Go.RT.again_not rfl rfl ?_) | (refine Go.RT.again_one rfl (by go_simp <;> rfl) ?_))
      refine Go.RT.step_nil ?_
      go_wp2_with fail
      refine name_world (F := fun W => Hid (W.heap[w.heap.size + 2]? = some (.cells #[.int .i64 n1.id, .int .i64 n1.term, .int .i64 n1.vote, .slice σ.A3 n1.log.length σ.k3, .int .i64 n1.form, .int .i64 n1.role, .int .i64 n1.commit, .slice σ.A7 n1.votes.length σ.k7, .slice σ.A8 n1.nxt.length σ.k8, .slice σ.A9 n1.mtch.length σ.k9, .slice σ.A10 n1.forms.length σ.k10, .int .i64 n1.clock, .int .i64 n1.due] 28 (0, 0))) ∧ Hid (NodeOs W B n1 σ ω) ∧ Hid (Below w.heap.size w W) ∧ Hid (MsgsV W (fun k => wcd.heap.size ≤ k) (.slice (some ⟨bo, 0, none⟩) 1 1) [matchMsg n1 m.frm (mn (n1.log.length : Int) ((mi : Int) - 1)) false])) _ ⟨Lib.hid ((set13 Y6.out).trans rfl), Lib.hid (N6.out.rows.types (fun k t hk ht' => far13 (ty_ne hk ⟨_, _, Y6.out⟩ (by rcases ht' with rfl | rfl | rfl <;> decide)))), Lib.hid (below13 HB6.out (by omega)), Lib.hid (HM6.out.step (fun k hk _ => far13 (by have hk' : wcd.heap.size ≤ k := hk; omega)))⟩ ?_
      intro wf ⟨Y9, N9, B9, M9⟩
      obtain ⟨u0, u1, u2, u3, u4, u5, u6, u7, u8, u9, u10, u11, u12⟩ := MM.cells13 Y9.out
      refine bodyPost_ret (v := .tuple #[.agg #[.int .i64 n1.id, .int .i64 n1.term, .int .i64 n1.vote, .slice σ.A3 n1.log.length σ.k3, .int .i64 n1.form, .int .i64 n1.role, .int .i64 n1.commit, .slice σ.A7 n1.votes.length σ.k7, .slice σ.A8 n1.nxt.length σ.k8, .slice σ.A9 n1.mtch.length σ.k9, .slice σ.A10 n1.forms.length σ.k10, .int .i64 n1.clock, .int .i64 n1.due], .slice (some ⟨bo, 0, none⟩) 1 1]) (by simp [results, Try.results115, go_sem, u0, u1, u2, u3, u4, u5, u6, u7, u8, u9, u10, u11, u12]) rfl ?_
      rw [HE.out]
      exact ⟨σ, ω, _, _, rfl, N9.out, M9.out.mono (fun k hk _ => by have hk' : wcd.heap.size ≤ k := hk; omega), B9.out⟩
    · have HS2 := Lib.hid (HS.out.trans (if_neg hf))
      have hft : fits n m = true := by simpa using hf
      rw [show (!fits n m) = false by rw [hft]; rfl]
      clear hft
      have hml : mi ≤ n1.log.length := by
        have h9 := HFI.out
        rw [show fits n m = true by simpa using hf] at h9
        by_cases hh : n1.log.length < mi
        · rw [decide_eq_true (show ((n1.log.length : Int) < (mi : Int)) by omega)] at h9
          simp at h9
        · omega
      clear hf HS HFI
      go_upto_region 6 with (fail)
      go_upto_block 0 with (fail)
      go_cut [] (fun wc => ∃ (n2 : Fed.Node) (τ : Sl5) (υ : O5), Hid (n2 = { n1 with log := takeL n1.log mi m.entries }) ∧ Hid (NB wc B w.heap.size n2 τ υ) ∧ Hid (wc.heap[w.heap.size + 1]? = some (.cells #[.int .i64 m.kind, .int .i64 m.frm, .int .i64 m.to, .int .i64 m.term, .int .i64 m.index, .int .i64 m.logTerm, .bool m.ok, .slice A m.entries.length c, .int .i64 m.commit, .int .i64 m.form] 34 (0, 0))) ∧ Hid (wc.heap[w.heap.size + 2]? = some (.cells #[.int .i64 0, .int .i64 0, .int .i64 0, .slice none 0 0, .int .i64 0, .int .i64 0, .int .i64 0, .slice none 0 0, .slice none 0 0, .slice none 0 0, .slice none 0 0, .int .i64 0, .int .i64 0] 28 (0, 0))) ∧ Hid (Below w.heap.size w wc) ∧ Hid (MM.Rd wc (fun k => k < w.heap.size) 2 (.slice A m.entries.length c) m.entries.length (entsC m.entries)))
      case first =>
       go_wp2_with fail
       go_loopw [6] (fun t6 wr => ∃ (i : Nat) (n2 : Fed.Node) (τ : Sl5) (υ : O5), i ≤ m.entries.length ∧ t6 = .int .i64 i ∧ Hid (n2 = { n1 with log := n2.log } ∧ takeL n2.log (mi + i) (m.entries.drop i) = takeL n1.log mi m.entries) ∧ mi + i ≤ n2.log.length ∧ n2.log.length ≤ 702000 ∧ Hid (NB wr B w.heap.size n2 τ υ) ∧ Hid (wr.heap[w.heap.size + 1]? = some (.cells #[.int .i64 m.kind, .int .i64 m.frm, .int .i64 m.to, .int .i64 m.term, .int .i64 m.index, .int .i64 m.logTerm, .bool m.ok, .slice A m.entries.length c, .int .i64 m.commit, .int .i64 m.form] 34 (0, 0))) ∧ Hid (wr.heap[w.heap.size + 2]? = some (.cells #[.int .i64 0, .int .i64 0, .int .i64 0, .slice none 0 0, .int .i64 0, .int .i64 0, .int .i64 0, .slice none 0 0, .slice none 0 0, .slice none 0 0, .slice none 0 0, .int .i64 0, .int .i64 0] 28 (0, 0))) ∧ Hid (Below w.heap.size w wr) ∧ Hid (MM.Rd wr (fun k => k < w.heap.size) 2 (.slice A m.entries.length c) m.entries.length (entsC m.entries))) (fun t6 _ => m.entries.length - (intOf t6).toNat)
       case atStart => exact ⟨0, n1, σ, ω, by omega, rfl, Lib.hid ⟨rfl, rfl⟩, by omega, by omega, N, M, Y, HB, HR⟩
       case round => as_aux_lemma =>
        obtain ⟨i, n2, τ, υ, hi, rfl, HL, hL1, hL2, N, M, Y, HB, HR⟩ := hrel
        obtain ⟨-, Ae, ce', ea, qe1, -, re⟩ := HR.out
        injection ea with ea1 _ ea2
        have EA1 := Lib.hid ea1
        have qe9 : m.entries.length ≤ c := by rw [ea2]; exact qe1
        clear ea1 ea2 qe1
        have d7 : wr.cell? ⟨w.heap.size + 1, 7, none⟩ = some (.slice A m.entries.length c) := MM.cell_blk M.out rfl
        have d4 : wr.cell? ⟨w.heap.size + 1, 4, none⟩ = some (.int .i64 (mi : Int)) := by rw [← HMI.out]; exact MM.cell_blk M.out rfl
        have c3 : wr.cell? ⟨w.heap.size, 3, none⟩ = some (.slice τ.A3 n2.log.length τ.k3) := N.out.c 3 _ rfl
        by_cases hlt : i < m.entries.length
        · obtain ⟨e, hx⟩ : ∃ e, m.entries[i]? = some e := ⟨_, List.getElem?_eq_getElem hlt⟩
          obtain ⟨be, oe, eae, qe2, _, ge⟩ := re (by omega)
          have HEA := Lib.hid (EA1.out.trans eae)
          clear d7 eae
          have d7 : wr.cell? ⟨w.heap.size + 1, 7, none⟩ = some (.slice (some ⟨be, oe, none⟩) m.entries.length c) := by rw [← HEA.out]; exact MM.cell_blk M.out rfl
          have x1 : wr.cell? ⟨be, oe + i * 2, none⟩ = some (.int .i64 e.term) := ge _ _ (entsC_get hx).1
          have x2 : wr.cell? ⟨be, oe + i * 2 + 1, none⟩ = some (.string e.data) := ge _ _ (entsC_get hx).2
          have HD := Lib.hid (show m.entries.drop i = e :: m.entries.drop (i + 1) from by
            rw [List.drop_eq_getElem_cons hlt]
            congr 1
            have := List.getElem?_eq_getElem hlt
            rw [hx] at this
            injection this with this
            exact this.symm)
          clear ge re hx
          have HCAP := Lib.hid (show n2.log.length ≤ τ.k3 from by obtain ⟨_, _, ea, q1, _⟩ := N.out.rows.hl.slice; injection ea with _ _ ea; subst ea; exact q1)
          have hk3 : mi + i ≤ τ.k3 := Nat.le_trans hL1 HCAP.out
          have HW1 := Lib.hid (show IntKind.i64.wrap ((mi : Int) + (i : Int)) = (mi : Int) + (i : Int) from IntWalk.i64_in _ (by omega))
          have W2 : ((mi : Int) + (i : Int)).toNat = mi + i := by omega
          have W3 : 0 ≤ (mi : Int) + (i : Int) := by omega
          have W6 : (mi : Int) + (i : Int) ≤ (τ.k3 : Int) := by omega
          by_cases hle : mi + i + 1 ≤ n2.log.length
          · have hleb : decide ((mi : Int) + (i : Int) + 1 ≤ (n2.log.length : Int)) = true := decide_eq_true (by omega)
            have W4 : (mi : Int) + (i : Int) < (n2.log.length : Int) := by omega
            obtain ⟨x, hx⟩ : ∃ x, n2.log[mi + i]? = some x := ⟨_, List.getElem?_eq_getElem (by omega)⟩
            have HTA := Lib.hid (show termAt n2.log ((mi + i + 1 : Nat) : Int) = x.term from termAt_get hx)
            obtain ⟨p3, hp3⟩ := N.out.rows.hl.some_of (by omega)
            have hr3 := N.out.rows.hl
            rw [hp3] at hr3
            obtain ⟨cap3, e3, q31, q32⟩ := hr3.form
            clear c3
            have c3 : wr.cell? ⟨w.heap.size, 3, none⟩ = some (.slice (some ⟨p3, 0, none⟩) n2.log.length cap3) := N.out.c 3 _ (congrArg some e3)
            have t1 : wr.cell? ⟨p3, (mi + i) * 2, none⟩ = some (.int .i64 x.term) := hr3.cell (entsC_get hx).1
            have HP3 := Lib.hid hp3
            have HR3 := Lib.hid hr3
            clear e3 hp3 hr3 hx
            by_cases hq : x.term = e.term
            · have hqb : (x.term == e.term) = true := by simpa using hq
              have HT := Lib.hid (show takeL n2.log (mi + i + 1) (m.entries.drop (i + 1)) = takeL n1.log mi m.entries from by
                have h9 := HL.out.2
                rw [HD.out] at h9
                rw [takeL_hit ⟨by rw [HTA.out, hq], hle⟩] at h9
                exact h9)
              clear hq
              go_wp2_with fail
              have W1 := HW1.out
              refine Go.RT.wp_region_tree [0, 0, 2, 6, 15, 31, 63, 127, 63, 319, 1023, 2047, 4095, 63, 8255, 63, 57407, 122943, 254015, 524287, 1048575] (.p 0 (.p 1 (.s 2 (.p 3 (.p 4 (.p 5 (.p 6 (.s 7 (.p 8 (.p 9 (.p 10 (.p 11 (.s 12 (.p 13 (.s 14 (.p 15 (.p 16 (.p 17 (.s 18 (.p 19 (.p 20 .nil))))))))))))))))))))) (by kernel_rfl) (by kernel_rfl) ?_
              repeat (first | (refine Go.RT.step_p rfl (fun K hK => ?_); go_simp; refine hK _ ?_; clear hK K) | (refine Go.RT.step_s rfl (fun K hK => ?_); go_simp; refine hK _ ?_; clear hK K))
              refine Go.RT.step_nil ?_
              clear W1
              go_wp2_with fail
              go_roundw
              case rel => exact ⟨i + 1, n2, τ, υ, by omega, by go_num, Lib.hid ⟨HL.out.1, HT.out⟩, by omega, hL2, Lib.hid N.out.drew, Lib.hid M.out, Lib.hid Y.out, Lib.hid HB.out.drew, Lib.hid HR.out.drew⟩
              case measure => simp [intOf]; omega
            · have hqb : (x.term == e.term) = false := by simpa using hq
              have HT := Lib.hid (show takeL (n2.log.take (mi + i) ++ [e]) (mi + i + 1) (m.entries.drop (i + 1)) = takeL n1.log mi m.entries from by
                have h9 := HL.out.2
                rw [HD.out] at h9
                rw [takeL_miss (fun h => hq (by rw [← HTA.out]; exact h.1))] at h9
                exact h9)
              clear hq
              go_wp2_with fail
              have W1 := HW1.out
              refine Go.RT.wp_region_tree [0, 0, 2, 6, 15, 31, 63, 127, 63, 319, 1023, 2047, 4095, 63, 8255, 63, 57407, 122943, 254015, 524287, 1048575] (.p 0 (.p 1 (.s 2 (.p 3 (.p 4 (.p 5 (.p 6 (.s 7 (.p 8 (.p 9 (.p 10 (.p 11 (.s 12 (.p 13 (.s 14 (.p 15 (.p 16 (.p 17 (.s 18 (.p 19 (.p 20 .nil))))))))))))))))))))) (by kernel_rfl) (by kernel_rfl) ?_
              repeat (first | (refine Go.RT.step_p rfl (fun K hK => ?_); go_simp; refine hK _ ?_; clear hK K) | (refine Go.RT.step_s rfl (fun K hK => ?_); go_simp; refine hK _ ?_; clear hK K))
              refine Go.RT.step_nil ?_
              clear W1
              clear hqb t1 c3
              go_wp2_with fail
              have W1 := HW1.out
              refine Go.RT.wp_region_tree [0, 1, 0, 4, 15, 31, 0, 64, 0, 448, 960, 1984, 4095, 8191, 16383] (.p 0 (.s 1 (.p 2 (.p 3 (.p 4 (.p 6 (.s 7 (.p 8 (.p 9 (.s 10 (.w 5 [7, 10] (.w 11 [1] (.w 12 [] (.p 13 (.w 14 [] .nil .stop)) .stop) .stop) (.w 11 [1] (.w 5 [7, 10] (.w 12 [] (.p 13 (.w 14 [] .nil .stop)) .stop) .stop) .stop)))))))))))) (by kernel_rfl) (by kernel_rfl) ?_
              refine name_world (F := fun W => Hid (NB W B w.heap.size n2 τ υ) ∧ Hid (W.heap[w.heap.size + 1]? = some (.cells #[.int .i64 m.kind, .int .i64 m.frm, .int .i64 m.to, .int .i64 m.term, .int .i64 m.index, .int .i64 m.logTerm, .bool m.ok, .slice A m.entries.length c, .int .i64 m.commit, .int .i64 m.form] 34 (0, 0))) ∧ Hid (W.heap[w.heap.size + 2]? = some (.cells #[.int .i64 0, .int .i64 0, .int .i64 0, .slice none 0 0, .int .i64 0, .int .i64 0, .int .i64 0, .slice none 0 0, .slice none 0 0, .slice none 0 0, .slice none 0 0, .int .i64 0, .int .i64 0] 28 (0, 0))) ∧ Hid (Below w.heap.size w W) ∧ Hid (MM.Rd W (fun k => k < w.heap.size) 2 (.slice A m.entries.length c) m.entries.length (entsC m.entries)) ∧ Hid (W.cell? ⟨be, oe + i * 2, none⟩ = some (.int .i64 e.term)) ∧ Hid (W.cell? ⟨be, oe + i * 2 + 1, none⟩ = some (.string e.data))) _ ⟨Lib.hid (N.out.drew.drew), Lib.hid (M.out), Lib.hid (Y.out), Lib.hid (HB.out.drew.drew), Lib.hid (HR.out.drew.drew), Lib.hid (x1), Lib.hid (x2)⟩ ?_
              clear N M Y HB HR x1 x2 d4 d7
              intro wd ⟨Nd, Md, Yd, HBd, HRd, E1, E2⟩
              have c3 : wd.cell? ⟨w.heap.size, 3, none⟩ = some (.slice τ.A3 n2.log.length τ.k3) := Nd.out.c 3 _ rfl
              have d4 : wd.cell? ⟨w.heap.size + 1, 4, none⟩ = some (.int .i64 (mi : Int)) := by rw [← HMI.out]; exact MM.cell_blk Md.out rfl
              have d7 : wd.cell? ⟨w.heap.size + 1, 7, none⟩ = some (.slice (some ⟨be, oe, none⟩) m.entries.length c) := by rw [← HEA.out]; exact MM.cell_blk Md.out rfl
              have x1 := E1.out
              have x2 := E2.out
              have hsd : w.heap.size + 2 < wd.heap.size := MM.blk_lt Yd.out
              have hsd1 : w.heap.size + 1 < wd.heap.size := by omega
              have hsd0 : w.heap.size < wd.heap.size := by omega
              have hbe : be < wd.heap.size := by have hq : be < w.heap.size := qe2; omega
              repeat (first | (refine Go.RT.step_p rfl (fun K hK => ?_); go_simp; refine hK _ ?_; clear hK K) | (refine Go.RT.step_s rfl (fun K hK => ?_); go_simp; refine hK _ ?_; clear hK K))
              (refine Go.RT.step_w rfl rfl (fun K hK => ?_) ?_)
              · clear W1
                go_wp2_with fail
                refine (rentries _ _ _ _ _ _ (rd_front Nd.out.toV.hl hL1 hk3 (Nat.le_refl _)) (fun u hu => entsC_one _ u (List.mem_of_mem_take hu)) (by omega)).mono ?_
                rintro v v3 ⟨A', c', ob, rfl, hr, hb3⟩
                have HRR := Lib.hid hr
                have HB3 := Lib.hid hb3
                clear hr hb3
                have KK := Lib.hid (show ∀ k, k < wd.heap.size → v3.heap[k]? = wd.heap[k]? from (fun k hk => HB3.out.block k hk))
                have X3 := Lib.hid ((KK.out _ Nd.out.lt).trans Nd.out.blk)
                have M3 := Lib.hid ((KK.out _ (MM.blk_lt Md.out)).trans Md.out)
                have ca3 : v3.cell? ⟨w.heap.size, 3, none⟩ = some (.slice τ.A3 n2.log.length τ.k3) := MM.cell_blk X3.out rfl
                have da7 : v3.cell? ⟨w.heap.size + 1, 7, none⟩ = some (.slice (some ⟨be, oe, none⟩) m.entries.length c) := by rw [← HEA.out]; exact MM.cell_blk M3.out rfl
                have xa1 : v3.cell? ⟨be, oe + i * 2, none⟩ = some (.int .i64 e.term) := (World.cell?_of_block (a := ⟨be, oe + i * 2, none⟩) (KK.out be hbe)).trans x1
                have xa2 : v3.cell? ⟨be, oe + i * 2 + 1, none⟩ = some (.string e.data) := (World.cell?_of_block (a := ⟨be, oe + i * 2 + 1, none⟩) (KK.out be hbe)).trans x2
                have hs3 : wd.heap.size ≤ v3.heap.size := by have := HB3.out.size; first | exact this | (simp at this; omega)
                have hs30 : w.heap.size < v3.heap.size := by omega
                have hs31 : w.heap.size + 1 < v3.heap.size := by omega
                have hbe3 : be < v3.heap.size := by omega
                go_wp2_with fail
                refine Go.RT.QK_normal _ _ _ _ (hK _ _ ?_ ?_) <;> clear hK K
                · repeat (first | exact Go.RT.again_nil | (refine Go.RT.again_not rfl rfl ?_) | (refine Go.RT.again_one rfl (by go_simp <;> rfl) ?_))
                (refine Go.RT.step_w rfl rfl (fun K hK => ?_) Go.RT.step_stop)
                go_wp2
                refine Go.RT.QK_normal _ _ _ _ (hK _ _ ?_ ?_) <;> clear hK K
                · repeat (first | exact Go.RT.again_nil | (refine Go.RT.again_not rfl rfl ?_) | (refine Go.RT.again_one rfl (by go_simp <;> rfl) ?_))
                (refine Go.RT.step_w rfl rfl (fun K hK => ?_) Go.RT.step_stop)
                refine name_world (F := fun W => Hid (∀ k, k < wd.heap.size → W.heap[k]? = wd.heap[k]?) ∧ Hid (wd.heap.size ≤ W.heap.size) ∧ Hid (Below w.heap.size w W) ∧ Hid (MM.Row W wd.heap.size 40 2 (.slice A' (mi + i) c') (mi + i) ((entsC n2.log).take ((mi + i) * 2)) ob) ∧ Hid (W.heap[v3.heap.size]? = some (.cells #[.int .i64 e.term, .string e.data] 40 (0, 0)))) _ ⟨Lib.hid (fun k hk => (Below.heap_alloc _ _ k (Nat.lt_of_lt_of_le hk hs3)).trans (KK.out k hk)), Lib.hid (by simp; omega), Lib.hid ((HBd.out.trans (HB3.out.mono HBd.out.size)).alloc (Nat.le_trans HBd.out.size hs3) _), Lib.hid ((HRR.out.alloc _)), Lib.hid (MM.alloc_new v3 _)⟩ ?_
                intro w5 ⟨K5, S5, HB5, R5, L5⟩
                obtain ⟨i0, hi40, hz0, hz1, hz2⟩ := info_parts info40
                refine MM.wpList_append_row _ rfl (.tmp 96) (.tmp 102) 24 rfl wd.heap.size 40 i0 _ 2 24 Try.underlying24 hi40 hz0 hz1 hz2 rfl (by decide) _ (mi + i) ((entsC n2.log).take ((mi + i) * 2)) ob rfl R5.out (fun _ => True) _ 1 [.int .i64 e.term, .string e.data] rfl (MM.Rd.lit L5.out trivial rfl (Nat.le_refl _) (by simp [maxLen]) rfl) (by intro u hu; simp at hu; rcases hu with rfl | rfl <;> rfl) (by simp only [maxLen]; omega) (by omega) S5.out ?_
                intro v' w6 ob' hr' hg hob
                obtain ⟨A6, k6, rfl, _, _⟩ := hr'.slice
                have K6 := Lib.hid (show ∀ k, k < wd.heap.size → w6.heap[k]? = wd.heap[k]? from fun k hk => (hg.block k (Nat.lt_of_lt_of_le hk S5.out) (fun e => by have := (R5.out.lt k e.symm).1; omega)).trans (K5.out k hk))
                have N6 := Lib.hid (Nd.out.step (fun k _ hk => K6.out k hk))
                have HB6 := Lib.hid (HB5.out.grown hg (Nat.le_trans HBd.out.size S5.out) (fun k hk => Nat.le_trans HBd.out.size (R5.out.lt k hk).1))
                have hlen : (n2.log.take (mi + i) ++ [e]).length = mi + i + 1 := by simp; omega
                have HLE := Lib.hid hlen
                have HR6 := Lib.hid (show MM.Row w6 B 40 2 (.slice A6 (n2.log.take (mi + i) ++ [e]).length k6) (n2.log.take (mi + i) ++ [e]).length (entsC (n2.log.take (mi + i) ++ [e])) ob' from by rw [entsC_append, ← entsC_take, hlen]; simpa [entsC, entC] using hr'.lower (show B ≤ wd.heap.size by omega))
                clear hr' hg hob hlen
                have cb3 : w6.cell? ⟨w.heap.size, 3, none⟩ = some (.slice τ.A3 n2.log.length τ.k3) := MM.cell_blk N6.out.blk rfl
                have cg3 : w6.frozen? ⟨w.heap.size, 3, none⟩ = false := MM.free_blk N6.out.blk
                go_wp2_with fail
                refine Go.RT.QK_normal _ _ _ _ (hK _ _ ?_ ?_) <;> clear hK K
                · repeat (first | exact Go.RT.again_nil | (refine Go.RT.again_not rfl rfl ?_) | (refine Go.RT.again_one rfl (by go_simp <;> rfl) ?_))
                repeat (first | (refine Go.RT.step_p rfl (fun K hK => ?_); go_simp; refine hK _ ?_; clear hK K) | (refine Go.RT.step_s rfl (fun K hK => ?_); go_simp; refine hK _ ?_; clear hK K))
                (refine Go.RT.step_w rfl rfl (fun K hK => ?_) Go.RT.step_stop)
                go_wp2
                refine Go.RT.QK_normal _ _ _ _ (hK _ _ ?_ ?_) <;> clear hK K
                · repeat (first | exact Go.RT.again_nil | (refine Go.RT.again_not rfl rfl ?_) | (refine Go.RT.again_one rfl (by go_simp <;> rfl) ?_))
                refine Go.RT.step_nil ?_
                go_wp2_with fail
                have FN := Lib.hid (show NB (w6.setCell ⟨w.heap.size, 3, none⟩ (.slice A6 (mi + i + 1) k6)) B w.heap.size { n2 with log := n2.log.take (mi + i) ++ [e] } { τ with A3 := A6, k3 := k6 } { υ with l := ob' } from by
                  have q := N6.out.put_log HR6.out
                  rw [HLE.out] at q
                  exact q)
                have HLN := Lib.hid (show ({ n2 with log := n2.log.take (mi + i) ++ [e] } : Fed.Node) = { n1 with log := n2.log.take (mi + i) ++ [e] } from (congrArg (fun z : Fed.Node => ({ z with log := n2.log.take (mi + i) ++ [e] } : Fed.Node)) HL.out.1).trans rfl)
                go_roundw
                case rel => exact ⟨i + 1, _, _, _, by omega, by go_num, Lib.hid ⟨HLN.out, HT.out⟩, by show mi + (i + 1) ≤ (n2.log.take (mi + i) ++ [e]).length; rw [HLE.out]; omega, by show (n2.log.take (mi + i) ++ [e]).length ≤ 702000; rw [HLE.out]; omega, FN, Lib.hid ((Below.heap_setCell _ _ _ _ (by show w.heap.size + 1 ≠ w.heap.size; omega)).trans ((K6.out _ (MM.blk_lt Md.out)).trans Md.out)), Lib.hid ((Below.heap_setCell _ _ _ _ (by show w.heap.size + 2 ≠ w.heap.size; omega)).trans ((K6.out _ (MM.blk_lt Yd.out)).trans Yd.out)), Lib.hid (HB6.out.setCell (Nat.le_refl _) _), Lib.hid (HRd.out.step (fun k hk _ => (Below.heap_setCell _ _ _ k (by show k ≠ w.heap.size; omega)).trans (K6.out k (by omega))))⟩
                case measure => simp [intOf]; omega
              (refine Go.RT.step_w rfl rfl (fun K hK => ?_) Go.RT.step_stop)
              go_wp2
              refine Go.RT.QK_normal _ _ _ _ (hK _ _ ?_ ?_) <;> clear hK K
              · repeat (first | exact Go.RT.again_nil | (refine Go.RT.again_not rfl rfl ?_) | (refine Go.RT.again_one rfl (by go_simp <;> rfl) ?_))
              (refine Go.RT.step_w rfl rfl (fun K hK => ?_) Go.RT.step_stop)
              clear W1
              go_wp2_with fail
              refine (rentries _ _ _ _ _ _ ((rd_front Nd.out.toV.hl hL1 hk3 (Nat.le_refl _)).alloc _) (fun u hu => entsC_one _ u (List.mem_of_mem_take hu)) (by omega)).mono ?_
              rintro v v3 ⟨A', c', ob, rfl, hr, hb3⟩
              have HRR := Lib.hid hr
              have HB3 := Lib.hid hb3
              clear hr hb3
              have KK := Lib.hid (show ∀ k, k < wd.heap.size → v3.heap[k]? = wd.heap[k]? from (fun k hk => (HB3.out.block k (by simp; omega)).trans (Below.heap_alloc wd _ k hk)))
              have X3 := Lib.hid ((KK.out _ Nd.out.lt).trans Nd.out.blk)
              have M3 := Lib.hid ((KK.out _ (MM.blk_lt Md.out)).trans Md.out)
              have ca3 : v3.cell? ⟨w.heap.size, 3, none⟩ = some (.slice τ.A3 n2.log.length τ.k3) := MM.cell_blk X3.out rfl
              have da7 : v3.cell? ⟨w.heap.size + 1, 7, none⟩ = some (.slice (some ⟨be, oe, none⟩) m.entries.length c) := by rw [← HEA.out]; exact MM.cell_blk M3.out rfl
              have xa1 : v3.cell? ⟨be, oe + i * 2, none⟩ = some (.int .i64 e.term) := (World.cell?_of_block (a := ⟨be, oe + i * 2, none⟩) (KK.out be hbe)).trans x1
              have xa2 : v3.cell? ⟨be, oe + i * 2 + 1, none⟩ = some (.string e.data) := (World.cell?_of_block (a := ⟨be, oe + i * 2 + 1, none⟩) (KK.out be hbe)).trans x2
              have hs3 : wd.heap.size ≤ v3.heap.size := by have := HB3.out.size; first | exact this | (simp at this; omega)
              have hs30 : w.heap.size < v3.heap.size := by omega
              have hs31 : w.heap.size + 1 < v3.heap.size := by omega
              have hbe3 : be < v3.heap.size := by omega
              go_wp2_with fail
              refine Go.RT.QK_normal _ _ _ _ (hK _ _ ?_ ?_) <;> clear hK K
              · repeat (first | exact Go.RT.again_nil | (refine Go.RT.again_not rfl rfl ?_) | (refine Go.RT.again_one rfl (by go_simp <;> rfl) ?_))
              (refine Go.RT.step_w rfl rfl (fun K hK => ?_) Go.RT.step_stop)
              refine name_world (F := fun W => Hid (∀ k, k < wd.heap.size → W.heap[k]? = wd.heap[k]?) ∧ Hid (wd.heap.size ≤ W.heap.size) ∧ Hid (Below w.heap.size w W) ∧ Hid (MM.Row W wd.heap.size 40 2 (.slice A' (mi + i) c') (mi + i) ((entsC n2.log).take ((mi + i) * 2)) ob) ∧ Hid (W.heap[wd.heap.size]? = some (.cells #[.int .i64 e.term, .string e.data] 40 (0, 0)))) _ ⟨Lib.hid (KK.out), Lib.hid (hs3), Lib.hid ((HBd.out.alloc HBd.out.size _).trans (HB3.out.mono (by have := HBd.out.size; simp; omega))), Lib.hid (HRR.out.lower (by simp)), Lib.hid ((HB3.out.block _ (by simp)).trans (MM.alloc_new wd _))⟩ ?_
              intro w5 ⟨K5, S5, HB5, R5, L5⟩
              obtain ⟨i0, hi40, hz0, hz1, hz2⟩ := info_parts info40
              refine MM.wpList_append_row _ rfl (.tmp 96) (.tmp 102) 24 rfl wd.heap.size 40 i0 _ 2 24 Try.underlying24 hi40 hz0 hz1 hz2 rfl (by decide) _ (mi + i) ((entsC n2.log).take ((mi + i) * 2)) ob rfl R5.out (fun _ => True) _ 1 [.int .i64 e.term, .string e.data] rfl (MM.Rd.lit L5.out trivial rfl (Nat.le_refl _) (by simp [maxLen]) rfl) (by intro u hu; simp at hu; rcases hu with rfl | rfl <;> rfl) (by simp only [maxLen]; omega) (by omega) S5.out ?_
              intro v' w6 ob' hr' hg hob
              obtain ⟨A6, k6, rfl, _, _⟩ := hr'.slice
              have K6 := Lib.hid (show ∀ k, k < wd.heap.size → w6.heap[k]? = wd.heap[k]? from fun k hk => (hg.block k (Nat.lt_of_lt_of_le hk S5.out) (fun e => by have := (R5.out.lt k e.symm).1; omega)).trans (K5.out k hk))
              have N6 := Lib.hid (Nd.out.step (fun k _ hk => K6.out k hk))
              have HB6 := Lib.hid (HB5.out.grown hg (Nat.le_trans HBd.out.size S5.out) (fun k hk => Nat.le_trans HBd.out.size (R5.out.lt k hk).1))
              have hlen : (n2.log.take (mi + i) ++ [e]).length = mi + i + 1 := by simp; omega
              have HLE := Lib.hid hlen
              have HR6 := Lib.hid (show MM.Row w6 B 40 2 (.slice A6 (n2.log.take (mi + i) ++ [e]).length k6) (n2.log.take (mi + i) ++ [e]).length (entsC (n2.log.take (mi + i) ++ [e])) ob' from by rw [entsC_append, ← entsC_take, hlen]; simpa [entsC, entC] using hr'.lower (show B ≤ wd.heap.size by omega))
              clear hr' hg hob hlen
              have cb3 : w6.cell? ⟨w.heap.size, 3, none⟩ = some (.slice τ.A3 n2.log.length τ.k3) := MM.cell_blk N6.out.blk rfl
              have cg3 : w6.frozen? ⟨w.heap.size, 3, none⟩ = false := MM.free_blk N6.out.blk
              go_wp2_with fail
              refine Go.RT.QK_normal _ _ _ _ (hK _ _ ?_ ?_) <;> clear hK K
              · repeat (first | exact Go.RT.again_nil | (refine Go.RT.again_not rfl rfl ?_) | (refine Go.RT.again_one rfl (by go_simp <;> rfl) ?_))
              repeat (first | (refine Go.RT.step_p rfl (fun K hK => ?_); go_simp; refine hK _ ?_; clear hK K) | (refine Go.RT.step_s rfl (fun K hK => ?_); go_simp; refine hK _ ?_; clear hK K))
              (refine Go.RT.step_w rfl rfl (fun K hK => ?_) Go.RT.step_stop)
              go_wp2
              refine Go.RT.QK_normal _ _ _ _ (hK _ _ ?_ ?_) <;> clear hK K
              · repeat (first | exact Go.RT.again_nil | (refine Go.RT.again_not rfl rfl ?_) | (refine Go.RT.again_one rfl (by go_simp <;> rfl) ?_))
              refine Go.RT.step_nil ?_
              go_wp2_with fail
              have FN := Lib.hid (show NB (w6.setCell ⟨w.heap.size, 3, none⟩ (.slice A6 (mi + i + 1) k6)) B w.heap.size { n2 with log := n2.log.take (mi + i) ++ [e] } { τ with A3 := A6, k3 := k6 } { υ with l := ob' } from by
                have q := N6.out.put_log HR6.out
                rw [HLE.out] at q
                exact q)
              have HLN := Lib.hid (show ({ n2 with log := n2.log.take (mi + i) ++ [e] } : Fed.Node) = { n1 with log := n2.log.take (mi + i) ++ [e] } from (congrArg (fun z : Fed.Node => ({ z with log := n2.log.take (mi + i) ++ [e] } : Fed.Node)) HL.out.1).trans rfl)
              go_roundw
              case rel => exact ⟨i + 1, _, _, _, by omega, by go_num, Lib.hid ⟨HLN.out, HT.out⟩, by show mi + (i + 1) ≤ (n2.log.take (mi + i) ++ [e]).length; rw [HLE.out]; omega, by show (n2.log.take (mi + i) ++ [e]).length ≤ 702000; rw [HLE.out]; omega, FN, Lib.hid ((Below.heap_setCell _ _ _ _ (by show w.heap.size + 1 ≠ w.heap.size; omega)).trans ((K6.out _ (MM.blk_lt Md.out)).trans Md.out)), Lib.hid ((Below.heap_setCell _ _ _ _ (by show w.heap.size + 2 ≠ w.heap.size; omega)).trans ((K6.out _ (MM.blk_lt Yd.out)).trans Yd.out)), Lib.hid (HB6.out.setCell (Nat.le_refl _) _), Lib.hid (HRd.out.step (fun k hk _ => (Below.heap_setCell _ _ _ k (by show k ≠ w.heap.size; omega)).trans (K6.out k (by omega))))⟩
              case measure => simp [intOf]; omega
          · have hleb : decide ((mi : Int) + (i : Int) + 1 ≤ (n2.log.length : Int)) = false := decide_eq_false (by omega)
            have HT := Lib.hid (show takeL (n2.log.take (mi + i) ++ [e]) (mi + i + 1) (m.entries.drop (i + 1)) = takeL n1.log mi m.entries from by
              have h9 := HL.out.2
              rw [HD.out] at h9
              rw [takeL_miss (fun h => hle h.2)] at h9
              exact h9)
            go_wp2_with fail
            have W1 := HW1.out
            refine Go.RT.wp_region_tree [0, 0, 2, 6, 15, 31, 63, 127, 63, 319, 1023, 2047, 4095, 63, 8255, 63, 57407, 122943, 254015, 524287, 1048575] (.p 0 (.p 1 (.s 2 (.p 3 (.p 4 (.p 5 (.p 6 (.s 7 (.p 8 (.p 9 (.p 10 (.p 11 (.s 12 (.p 13 (.s 14 (.p 15 (.p 16 (.p 17 (.s 18 (.p 19 (.p 20 .nil))))))))))))))))))))) (by kernel_rfl) (by kernel_rfl) ?_
            repeat (first | (refine Go.RT.step_p rfl (fun K hK => ?_); go_simp; refine hK _ ?_; clear hK K) | (refine Go.RT.step_s rfl (fun K hK => ?_); go_simp; refine hK _ ?_; clear hK K))
            refine Go.RT.step_nil ?_
            clear W1
            clear c3
            go_wp2_with fail
            have W1 := HW1.out
            refine Go.RT.wp_region_tree [0, 1, 0, 4, 15, 31, 0, 64, 0, 448, 960, 1984, 4095, 8191, 16383] (.p 0 (.s 1 (.p 2 (.p 3 (.p 4 (.p 6 (.s 7 (.p 8 (.p 9 (.s 10 (.w 5 [7, 10] (.w 11 [1] (.w 12 [] (.p 13 (.w 14 [] .nil .stop)) .stop) .stop) (.w 11 [1] (.w 5 [7, 10] (.w 12 [] (.p 13 (.w 14 [] .nil .stop)) .stop) .stop) .stop)))))))))))) (by kernel_rfl) (by kernel_rfl) ?_
            refine name_world (F := fun W => Hid (NB W B w.heap.size n2 τ υ) ∧ Hid (W.heap[w.heap.size + 1]? = some (.cells #[.int .i64 m.kind, .int .i64 m.frm, .int .i64 m.to, .int .i64 m.term, .int .i64 m.index, .int .i64 m.logTerm, .bool m.ok, .slice A m.entries.length c, .int .i64 m.commit, .int .i64 m.form] 34 (0, 0))) ∧ Hid (W.heap[w.heap.size + 2]? = some (.cells #[.int .i64 0, .int .i64 0, .int .i64 0, .slice none 0 0, .int .i64 0, .int .i64 0, .int .i64 0, .slice none 0 0, .slice none 0 0, .slice none 0 0, .slice none 0 0, .int .i64 0, .int .i64 0] 28 (0, 0))) ∧ Hid (Below w.heap.size w W) ∧ Hid (MM.Rd W (fun k => k < w.heap.size) 2 (.slice A m.entries.length c) m.entries.length (entsC m.entries)) ∧ Hid (W.cell? ⟨be, oe + i * 2, none⟩ = some (.int .i64 e.term)) ∧ Hid (W.cell? ⟨be, oe + i * 2 + 1, none⟩ = some (.string e.data))) _ ⟨Lib.hid (N.out.drew.drew), Lib.hid (M.out), Lib.hid (Y.out), Lib.hid (HB.out.drew.drew), Lib.hid (HR.out.drew.drew), Lib.hid (x1), Lib.hid (x2)⟩ ?_
            clear N M Y HB HR x1 x2 d4 d7
            intro wd ⟨Nd, Md, Yd, HBd, HRd, E1, E2⟩
            have c3 : wd.cell? ⟨w.heap.size, 3, none⟩ = some (.slice τ.A3 n2.log.length τ.k3) := Nd.out.c 3 _ rfl
            have d4 : wd.cell? ⟨w.heap.size + 1, 4, none⟩ = some (.int .i64 (mi : Int)) := by rw [← HMI.out]; exact MM.cell_blk Md.out rfl
            have d7 : wd.cell? ⟨w.heap.size + 1, 7, none⟩ = some (.slice (some ⟨be, oe, none⟩) m.entries.length c) := by rw [← HEA.out]; exact MM.cell_blk Md.out rfl
            have x1 := E1.out
            have x2 := E2.out
            have hsd : w.heap.size + 2 < wd.heap.size := MM.blk_lt Yd.out
            have hsd1 : w.heap.size + 1 < wd.heap.size := by omega
            have hsd0 : w.heap.size < wd.heap.size := by omega
            have hbe : be < wd.heap.size := by have hq : be < w.heap.size := qe2; omega
            repeat (first | (refine Go.RT.step_p rfl (fun K hK => ?_); go_simp; refine hK _ ?_; clear hK K) | (refine Go.RT.step_s rfl (fun K hK => ?_); go_simp; refine hK _ ?_; clear hK K))
            (refine Go.RT.step_w rfl rfl (fun K hK => ?_) ?_)
            · clear W1
              go_wp2_with fail
              refine (rentries _ _ _ _ _ _ (rd_front Nd.out.toV.hl hL1 hk3 (Nat.le_refl _)) (fun u hu => entsC_one _ u (List.mem_of_mem_take hu)) (by omega)).mono ?_
              rintro v v3 ⟨A', c', ob, rfl, hr, hb3⟩
              have HRR := Lib.hid hr
              have HB3 := Lib.hid hb3
              clear hr hb3
              have KK := Lib.hid (show ∀ k, k < wd.heap.size → v3.heap[k]? = wd.heap[k]? from (fun k hk => HB3.out.block k hk))
              have X3 := Lib.hid ((KK.out _ Nd.out.lt).trans Nd.out.blk)
              have M3 := Lib.hid ((KK.out _ (MM.blk_lt Md.out)).trans Md.out)
              have ca3 : v3.cell? ⟨w.heap.size, 3, none⟩ = some (.slice τ.A3 n2.log.length τ.k3) := MM.cell_blk X3.out rfl
              have da7 : v3.cell? ⟨w.heap.size + 1, 7, none⟩ = some (.slice (some ⟨be, oe, none⟩) m.entries.length c) := by rw [← HEA.out]; exact MM.cell_blk M3.out rfl
              have xa1 : v3.cell? ⟨be, oe + i * 2, none⟩ = some (.int .i64 e.term) := (World.cell?_of_block (a := ⟨be, oe + i * 2, none⟩) (KK.out be hbe)).trans x1
              have xa2 : v3.cell? ⟨be, oe + i * 2 + 1, none⟩ = some (.string e.data) := (World.cell?_of_block (a := ⟨be, oe + i * 2 + 1, none⟩) (KK.out be hbe)).trans x2
              have hs3 : wd.heap.size ≤ v3.heap.size := by have := HB3.out.size; first | exact this | (simp at this; omega)
              have hs30 : w.heap.size < v3.heap.size := by omega
              have hs31 : w.heap.size + 1 < v3.heap.size := by omega
              have hbe3 : be < v3.heap.size := by omega
              go_wp2_with fail
              refine Go.RT.QK_normal _ _ _ _ (hK _ _ ?_ ?_) <;> clear hK K
              · repeat (first | exact Go.RT.again_nil | (refine Go.RT.again_not rfl rfl ?_) | (refine Go.RT.again_one rfl (by go_simp <;> rfl) ?_))
              (refine Go.RT.step_w rfl rfl (fun K hK => ?_) Go.RT.step_stop)
              go_wp2
              refine Go.RT.QK_normal _ _ _ _ (hK _ _ ?_ ?_) <;> clear hK K
              · repeat (first | exact Go.RT.again_nil | (refine Go.RT.again_not rfl rfl ?_) | (refine Go.RT.again_one rfl (by go_simp <;> rfl) ?_))
              (refine Go.RT.step_w rfl rfl (fun K hK => ?_) Go.RT.step_stop)
              refine name_world (F := fun W => Hid (∀ k, k < wd.heap.size → W.heap[k]? = wd.heap[k]?) ∧ Hid (wd.heap.size ≤ W.heap.size) ∧ Hid (Below w.heap.size w W) ∧ Hid (MM.Row W wd.heap.size 40 2 (.slice A' (mi + i) c') (mi + i) ((entsC n2.log).take ((mi + i) * 2)) ob) ∧ Hid (W.heap[v3.heap.size]? = some (.cells #[.int .i64 e.term, .string e.data] 40 (0, 0)))) _ ⟨Lib.hid (fun k hk => (Below.heap_alloc _ _ k (Nat.lt_of_lt_of_le hk hs3)).trans (KK.out k hk)), Lib.hid (by simp; omega), Lib.hid ((HBd.out.trans (HB3.out.mono HBd.out.size)).alloc (Nat.le_trans HBd.out.size hs3) _), Lib.hid ((HRR.out.alloc _)), Lib.hid (MM.alloc_new v3 _)⟩ ?_
              intro w5 ⟨K5, S5, HB5, R5, L5⟩
              obtain ⟨i0, hi40, hz0, hz1, hz2⟩ := info_parts info40
              refine MM.wpList_append_row _ rfl (.tmp 96) (.tmp 102) 24 rfl wd.heap.size 40 i0 _ 2 24 Try.underlying24 hi40 hz0 hz1 hz2 rfl (by decide) _ (mi + i) ((entsC n2.log).take ((mi + i) * 2)) ob rfl R5.out (fun _ => True) _ 1 [.int .i64 e.term, .string e.data] rfl (MM.Rd.lit L5.out trivial rfl (Nat.le_refl _) (by simp [maxLen]) rfl) (by intro u hu; simp at hu; rcases hu with rfl | rfl <;> rfl) (by simp only [maxLen]; omega) (by omega) S5.out ?_
              intro v' w6 ob' hr' hg hob
              obtain ⟨A6, k6, rfl, _, _⟩ := hr'.slice
              have K6 := Lib.hid (show ∀ k, k < wd.heap.size → w6.heap[k]? = wd.heap[k]? from fun k hk => (hg.block k (Nat.lt_of_lt_of_le hk S5.out) (fun e => by have := (R5.out.lt k e.symm).1; omega)).trans (K5.out k hk))
              have N6 := Lib.hid (Nd.out.step (fun k _ hk => K6.out k hk))
              have HB6 := Lib.hid (HB5.out.grown hg (Nat.le_trans HBd.out.size S5.out) (fun k hk => Nat.le_trans HBd.out.size (R5.out.lt k hk).1))
              have hlen : (n2.log.take (mi + i) ++ [e]).length = mi + i + 1 := by simp; omega
              have HLE := Lib.hid hlen
              have HR6 := Lib.hid (show MM.Row w6 B 40 2 (.slice A6 (n2.log.take (mi + i) ++ [e]).length k6) (n2.log.take (mi + i) ++ [e]).length (entsC (n2.log.take (mi + i) ++ [e])) ob' from by rw [entsC_append, ← entsC_take, hlen]; simpa [entsC, entC] using hr'.lower (show B ≤ wd.heap.size by omega))
              clear hr' hg hob hlen
              have cb3 : w6.cell? ⟨w.heap.size, 3, none⟩ = some (.slice τ.A3 n2.log.length τ.k3) := MM.cell_blk N6.out.blk rfl
              have cg3 : w6.frozen? ⟨w.heap.size, 3, none⟩ = false := MM.free_blk N6.out.blk
              go_wp2_with fail
              refine Go.RT.QK_normal _ _ _ _ (hK _ _ ?_ ?_) <;> clear hK K
              · repeat (first | exact Go.RT.again_nil | (refine Go.RT.again_not rfl rfl ?_) | (refine Go.RT.again_one rfl (by go_simp <;> rfl) ?_))
              repeat (first | (refine Go.RT.step_p rfl (fun K hK => ?_); go_simp; refine hK _ ?_; clear hK K) | (refine Go.RT.step_s rfl (fun K hK => ?_); go_simp; refine hK _ ?_; clear hK K))
              (refine Go.RT.step_w rfl rfl (fun K hK => ?_) Go.RT.step_stop)
              go_wp2
              refine Go.RT.QK_normal _ _ _ _ (hK _ _ ?_ ?_) <;> clear hK K
              · repeat (first | exact Go.RT.again_nil | (refine Go.RT.again_not rfl rfl ?_) | (refine Go.RT.again_one rfl (by go_simp <;> rfl) ?_))
              refine Go.RT.step_nil ?_
              go_wp2_with fail
              have FN := Lib.hid (show NB (w6.setCell ⟨w.heap.size, 3, none⟩ (.slice A6 (mi + i + 1) k6)) B w.heap.size { n2 with log := n2.log.take (mi + i) ++ [e] } { τ with A3 := A6, k3 := k6 } { υ with l := ob' } from by
                have q := N6.out.put_log HR6.out
                rw [HLE.out] at q
                exact q)
              have HLN := Lib.hid (show ({ n2 with log := n2.log.take (mi + i) ++ [e] } : Fed.Node) = { n1 with log := n2.log.take (mi + i) ++ [e] } from (congrArg (fun z : Fed.Node => ({ z with log := n2.log.take (mi + i) ++ [e] } : Fed.Node)) HL.out.1).trans rfl)
              go_roundw
              case rel => exact ⟨i + 1, _, _, _, by omega, by go_num, Lib.hid ⟨HLN.out, HT.out⟩, by show mi + (i + 1) ≤ (n2.log.take (mi + i) ++ [e]).length; rw [HLE.out]; omega, by show (n2.log.take (mi + i) ++ [e]).length ≤ 702000; rw [HLE.out]; omega, FN, Lib.hid ((Below.heap_setCell _ _ _ _ (by show w.heap.size + 1 ≠ w.heap.size; omega)).trans ((K6.out _ (MM.blk_lt Md.out)).trans Md.out)), Lib.hid ((Below.heap_setCell _ _ _ _ (by show w.heap.size + 2 ≠ w.heap.size; omega)).trans ((K6.out _ (MM.blk_lt Yd.out)).trans Yd.out)), Lib.hid (HB6.out.setCell (Nat.le_refl _) _), Lib.hid (HRd.out.step (fun k hk _ => (Below.heap_setCell _ _ _ k (by show k ≠ w.heap.size; omega)).trans (K6.out k (by omega))))⟩
              case measure => simp [intOf]; omega
            (refine Go.RT.step_w rfl rfl (fun K hK => ?_) Go.RT.step_stop)
            go_wp2
            refine Go.RT.QK_normal _ _ _ _ (hK _ _ ?_ ?_) <;> clear hK K
            · repeat (first | exact Go.RT.again_nil | (refine Go.RT.again_not rfl rfl ?_) | (refine Go.RT.again_one rfl (by go_simp <;> rfl) ?_))
            (refine Go.RT.step_w rfl rfl (fun K hK => ?_) Go.RT.step_stop)
            clear W1
            go_wp2_with fail
            refine (rentries _ _ _ _ _ _ ((rd_front Nd.out.toV.hl hL1 hk3 (Nat.le_refl _)).alloc _) (fun u hu => entsC_one _ u (List.mem_of_mem_take hu)) (by omega)).mono ?_
            rintro v v3 ⟨A', c', ob, rfl, hr, hb3⟩
            have HRR := Lib.hid hr
            have HB3 := Lib.hid hb3
            clear hr hb3
            have KK := Lib.hid (show ∀ k, k < wd.heap.size → v3.heap[k]? = wd.heap[k]? from (fun k hk => (HB3.out.block k (by simp; omega)).trans (Below.heap_alloc wd _ k hk)))
            have X3 := Lib.hid ((KK.out _ Nd.out.lt).trans Nd.out.blk)
            have M3 := Lib.hid ((KK.out _ (MM.blk_lt Md.out)).trans Md.out)
            have ca3 : v3.cell? ⟨w.heap.size, 3, none⟩ = some (.slice τ.A3 n2.log.length τ.k3) := MM.cell_blk X3.out rfl
            have da7 : v3.cell? ⟨w.heap.size + 1, 7, none⟩ = some (.slice (some ⟨be, oe, none⟩) m.entries.length c) := by rw [← HEA.out]; exact MM.cell_blk M3.out rfl
            have xa1 : v3.cell? ⟨be, oe + i * 2, none⟩ = some (.int .i64 e.term) := (World.cell?_of_block (a := ⟨be, oe + i * 2, none⟩) (KK.out be hbe)).trans x1
            have xa2 : v3.cell? ⟨be, oe + i * 2 + 1, none⟩ = some (.string e.data) := (World.cell?_of_block (a := ⟨be, oe + i * 2 + 1, none⟩) (KK.out be hbe)).trans x2
            have hs3 : wd.heap.size ≤ v3.heap.size := by have := HB3.out.size; first | exact this | (simp at this; omega)
            have hs30 : w.heap.size < v3.heap.size := by omega
            have hs31 : w.heap.size + 1 < v3.heap.size := by omega
            have hbe3 : be < v3.heap.size := by omega
            go_wp2_with fail
            refine Go.RT.QK_normal _ _ _ _ (hK _ _ ?_ ?_) <;> clear hK K
            · repeat (first | exact Go.RT.again_nil | (refine Go.RT.again_not rfl rfl ?_) | (refine Go.RT.again_one rfl (by go_simp <;> rfl) ?_))
            (refine Go.RT.step_w rfl rfl (fun K hK => ?_) Go.RT.step_stop)
            refine name_world (F := fun W => Hid (∀ k, k < wd.heap.size → W.heap[k]? = wd.heap[k]?) ∧ Hid (wd.heap.size ≤ W.heap.size) ∧ Hid (Below w.heap.size w W) ∧ Hid (MM.Row W wd.heap.size 40 2 (.slice A' (mi + i) c') (mi + i) ((entsC n2.log).take ((mi + i) * 2)) ob) ∧ Hid (W.heap[wd.heap.size]? = some (.cells #[.int .i64 e.term, .string e.data] 40 (0, 0)))) _ ⟨Lib.hid (KK.out), Lib.hid (hs3), Lib.hid ((HBd.out.alloc HBd.out.size _).trans (HB3.out.mono (by have := HBd.out.size; simp; omega))), Lib.hid (HRR.out.lower (by simp)), Lib.hid ((HB3.out.block _ (by simp)).trans (MM.alloc_new wd _))⟩ ?_
            intro w5 ⟨K5, S5, HB5, R5, L5⟩
            obtain ⟨i0, hi40, hz0, hz1, hz2⟩ := info_parts info40
            refine MM.wpList_append_row _ rfl (.tmp 96) (.tmp 102) 24 rfl wd.heap.size 40 i0 _ 2 24 Try.underlying24 hi40 hz0 hz1 hz2 rfl (by decide) _ (mi + i) ((entsC n2.log).take ((mi + i) * 2)) ob rfl R5.out (fun _ => True) _ 1 [.int .i64 e.term, .string e.data] rfl (MM.Rd.lit L5.out trivial rfl (Nat.le_refl _) (by simp [maxLen]) rfl) (by intro u hu; simp at hu; rcases hu with rfl | rfl <;> rfl) (by simp only [maxLen]; omega) (by omega) S5.out ?_
            intro v' w6 ob' hr' hg hob
            obtain ⟨A6, k6, rfl, _, _⟩ := hr'.slice
            have K6 := Lib.hid (show ∀ k, k < wd.heap.size → w6.heap[k]? = wd.heap[k]? from fun k hk => (hg.block k (Nat.lt_of_lt_of_le hk S5.out) (fun e => by have := (R5.out.lt k e.symm).1; omega)).trans (K5.out k hk))
            have N6 := Lib.hid (Nd.out.step (fun k _ hk => K6.out k hk))
            have HB6 := Lib.hid (HB5.out.grown hg (Nat.le_trans HBd.out.size S5.out) (fun k hk => Nat.le_trans HBd.out.size (R5.out.lt k hk).1))
            have hlen : (n2.log.take (mi + i) ++ [e]).length = mi + i + 1 := by simp; omega
            have HLE := Lib.hid hlen
            have HR6 := Lib.hid (show MM.Row w6 B 40 2 (.slice A6 (n2.log.take (mi + i) ++ [e]).length k6) (n2.log.take (mi + i) ++ [e]).length (entsC (n2.log.take (mi + i) ++ [e])) ob' from by rw [entsC_append, ← entsC_take, hlen]; simpa [entsC, entC] using hr'.lower (show B ≤ wd.heap.size by omega))
            clear hr' hg hob hlen
            have cb3 : w6.cell? ⟨w.heap.size, 3, none⟩ = some (.slice τ.A3 n2.log.length τ.k3) := MM.cell_blk N6.out.blk rfl
            have cg3 : w6.frozen? ⟨w.heap.size, 3, none⟩ = false := MM.free_blk N6.out.blk
            go_wp2_with fail
            refine Go.RT.QK_normal _ _ _ _ (hK _ _ ?_ ?_) <;> clear hK K
            · repeat (first | exact Go.RT.again_nil | (refine Go.RT.again_not rfl rfl ?_) | (refine Go.RT.again_one rfl (by go_simp <;> rfl) ?_))
            repeat (first | (refine Go.RT.step_p rfl (fun K hK => ?_); go_simp; refine hK _ ?_; clear hK K) | (refine Go.RT.step_s rfl (fun K hK => ?_); go_simp; refine hK _ ?_; clear hK K))
            (refine Go.RT.step_w rfl rfl (fun K hK => ?_) Go.RT.step_stop)
            go_wp2
            refine Go.RT.QK_normal _ _ _ _ (hK _ _ ?_ ?_) <;> clear hK K
            · repeat (first | exact Go.RT.again_nil | (refine Go.RT.again_not rfl rfl ?_) | (refine Go.RT.again_one rfl (by go_simp <;> rfl) ?_))
            refine Go.RT.step_nil ?_
            go_wp2_with fail
            have FN := Lib.hid (show NB (w6.setCell ⟨w.heap.size, 3, none⟩ (.slice A6 (mi + i + 1) k6)) B w.heap.size { n2 with log := n2.log.take (mi + i) ++ [e] } { τ with A3 := A6, k3 := k6 } { υ with l := ob' } from by
              have q := N6.out.put_log HR6.out
              rw [HLE.out] at q
              exact q)
            have HLN := Lib.hid (show ({ n2 with log := n2.log.take (mi + i) ++ [e] } : Fed.Node) = { n1 with log := n2.log.take (mi + i) ++ [e] } from (congrArg (fun z : Fed.Node => ({ z with log := n2.log.take (mi + i) ++ [e] } : Fed.Node)) HL.out.1).trans rfl)
            go_roundw
            case rel => exact ⟨i + 1, _, _, _, by omega, by go_num, Lib.hid ⟨HLN.out, HT.out⟩, by show mi + (i + 1) ≤ (n2.log.take (mi + i) ++ [e]).length; rw [HLE.out]; omega, by show (n2.log.take (mi + i) ++ [e]).length ≤ 702000; rw [HLE.out]; omega, FN, Lib.hid ((Below.heap_setCell _ _ _ _ (by show w.heap.size + 1 ≠ w.heap.size; omega)).trans ((K6.out _ (MM.blk_lt Md.out)).trans Md.out)), Lib.hid ((Below.heap_setCell _ _ _ _ (by show w.heap.size + 2 ≠ w.heap.size; omega)).trans ((K6.out _ (MM.blk_lt Yd.out)).trans Yd.out)), Lib.hid (HB6.out.setCell (Nat.le_refl _) _), Lib.hid (HRd.out.step (fun k hk _ => (Below.heap_setCell _ _ _ k (by show k ≠ w.heap.size; omega)).trans (K6.out k (by omega))))⟩
            case measure => simp [intOf]; omega
        · obtain rfl : i = m.entries.length := by omega
          have hltb : decide ((m.entries.length : Int) < (m.entries.length : Int)) = false := by simp
          clear hlt re hi
          have HLG := Lib.hid (show n2 = { n1 with log := takeL n1.log mi m.entries } from by
            have h9 := HL.out.2
            rw [List.drop_eq_nil_of_le (Nat.le_refl _)] at h9
            have h8 : n2.log = takeL n1.log mi m.entries := by simpa [takeL] using h9
            rw [← h8]
            exact HL.out.1)
          go_wp2_with fail
          go_meet
          case rel => exact ⟨n2, τ, υ, HLG, N, M, Y, HB, HR⟩
      case rest =>
        clear N M Y HB HR
        obtain ⟨n2, τ, υ, HLG, N, M, Y, HB, HR⟩ := hcut
        have c6 : wc.cell? ⟨w.heap.size, 6, none⟩ = some (.int .i64 n2.commit) := N.out.c 6 _ rfl
        have g6 : wc.frozen? ⟨w.heap.size, 6, none⟩ = false := N.out.fr 6
        have d7 : wc.cell? ⟨w.heap.size + 1, 7, none⟩ = some (.slice A m.entries.length c) := MM.cell_blk M.out rfl
        have d8 : wc.cell? ⟨w.heap.size + 1, 8, none⟩ = some (.int .i64 m.commit) := MM.cell_blk M.out rfl
        have d4 : wc.cell? ⟨w.heap.size + 1, 4, none⟩ = some (.int .i64 (mi : Int)) := by rw [← HMI.out]; exact MM.cell_blk M.out rfl
        go_upto_region 14 with (fail)
        clear c6 g6 d4 d7 d8
        refine name_world (F := fun W => Hid (NB W B w.heap.size { n2 with commit := mx n2.commit (mn m.commit ((mi : Int) + m.entries.length)) } τ υ) ∧ Hid (W.heap[w.heap.size + 1]? = some (.cells #[.int .i64 m.kind, .int .i64 m.frm, .int .i64 m.to, .int .i64 m.term, .int .i64 m.index, .int .i64 m.logTerm, .bool m.ok, .slice A m.entries.length c, .int .i64 m.commit, .int .i64 m.form] 34 (0, 0))) ∧ Hid (W.heap[w.heap.size + 2]? = some (.cells #[.int .i64 0, .int .i64 0, .int .i64 0, .slice none 0 0, .int .i64 0, .int .i64 0, .int .i64 0, .slice none 0 0, .slice none 0 0, .slice none 0 0, .slice none 0 0, .int .i64 0, .int .i64 0] 28 (0, 0))) ∧ Hid (Below w.heap.size w W) ∧ Hid (MM.Rd W (fun k => k < w.heap.size) 2 (.slice A m.entries.length c) m.entries.length (entsC m.entries))) _ ⟨Lib.hid (N.out.set rfl ⟨rfl, rfl, rfl, rfl, rfl⟩), Lib.hid ((Below.heap_setCell _ _ _ _ (by show w.heap.size + 1 ≠ w.heap.size; omega)).trans M.out), Lib.hid ((Below.heap_setCell _ _ _ _ (by show w.heap.size + 2 ≠ w.heap.size; omega)).trans Y.out), Lib.hid (HB.out.setCell (Nat.le_refl _) _), Lib.hid (HR.out.step (fun k hk _ => Below.heap_setCell _ _ _ k (by show k ≠ w.heap.size; omega)))⟩ ?_
        clear N M Y HB HR
        intro w5 ⟨N, M, Y, HB, HR⟩
        obtain ⟨n4, hn4⟩ : ∃ gn : Fed.Node, gn = { n2 with commit := mx n2.commit (mn m.commit ((mi : Int) + m.entries.length)) } := ⟨_, rfl⟩
        rw [← hn4] at N
        have HEn4 := Lib.hid hn4
        clear hn4
        have HE := Lib.hid (show appendS ⟨n, []⟩ m = ⟨n4, [matchMsg n4 m.frm ((mi : Int) + m.entries.length) true]⟩ from by
          have e4 : n4 = appendN n m := by
            have h1 := HLG.out
            have h2 : n2.commit = n.commit := by rw [h1]; exact HN0.out.2
            rw [HEn4.out, h2, h1, HEn1.out]
            unfold appendN
            rw [HMI.out, show (mx (mi : Int) 0).toNat = mi from by unfold mx; omega]
            unfold appendN0
            simp only []
          rw [HS2.out, ← e4])
        clear HS2 HLG HEn4
        go_wp2_with fail
        refine Go.RT.wp_region_tree [0, 0, 0, 4, 0, 30, 63, 127] (.s 0 (.s 1 (.p 2 (.s 3 (.p 4 (.w 5 [0] (.w 6 [] (.w 7 [] .nil .stop) .stop) .stop)))))) (by kernel_rfl) (by kernel_rfl) ?_
        refine name_world (F := fun W => Hid (NB W B w.heap.size n4 τ υ) ∧ Hid (W.heap[w.heap.size + 1]? = some (.cells #[.int .i64 m.kind, .int .i64 m.frm, .int .i64 m.to, .int .i64 m.term, .int .i64 m.index, .int .i64 m.logTerm, .bool m.ok, .slice A m.entries.length c, .int .i64 m.commit, .int .i64 m.form] 34 (0, 0))) ∧ Hid (W.heap[w.heap.size + 2]? = some (.cells #[.int .i64 0, .int .i64 0, .int .i64 0, .slice none 0 0, .int .i64 0, .int .i64 0, .int .i64 0, .slice none 0 0, .slice none 0 0, .slice none 0 0, .slice none 0 0, .int .i64 0, .int .i64 0] 28 (0, 0))) ∧ Hid (Below w.heap.size w W)) _ ⟨Lib.hid (N.out.drew), Lib.hid (M.out), Lib.hid (Y.out), Lib.hid (HB.out.drew)⟩ ?_
        clear N M Y HB HR
        intro w5d ⟨Nd, Md, Yd, HBd⟩
        obtain ⟨c0, c1, c2, c3, c4, c5, c6, c7, c8, c9, c10, c11, c12⟩ := MM.cells13 Nd.out.blk
        have d1 : w5d.cell? ⟨w.heap.size + 1, 1, none⟩ = some (.int .i64 m.frm) := MM.cell_blk Md.out rfl
        have d4 : w5d.cell? ⟨w.heap.size + 1, 4, none⟩ = some (.int .i64 (mi : Int)) := by rw [← HMI.out]; exact MM.cell_blk Md.out rfl
        repeat (first | (refine Go.RT.step_p rfl (fun K hK => ?_); go_simp; refine hK _ ?_; clear hK K) | (refine Go.RT.step_s rfl (fun K hK => ?_); go_simp; refine hK _ ?_; clear hK K))
        (refine Go.RT.step_w rfl rfl (fun K hK => ?_) Go.RT.step_stop)
        go_wp2_with fail
        refine (matched_any _ n4 τ m.frm ((mi : Int) + m.entries.length) true).mono ?_
        rintro e v6 ⟨bo, rfl, hm6, hb6⟩
        have N6 := Lib.hid (Nd.out.below hb6)
        have Y6 := Lib.hid ((hb6.block _ (MM.blk_lt Yd.out)).trans Yd.out)
        have HB6 := Lib.hid (HBd.out.trans (hb6.mono HBd.out.size))
        have HM6 := Lib.hid hm6
        have hsz6 : w.heap.size + 2 < w5d.heap.size := MM.blk_lt Yd.out
        clear hm6 hb6
        obtain ⟨cs0, cs1, cs2, cs3, cs4, cs5, cs6, cs7, cs8, cs9, cs10, cs11, cs12⟩ := MM.cells13 N6.out.blk
        obtain ⟨ys0, ys1, ys2, ys3, ys4, ys5, ys6, ys7, ys8, ys9, ys10, ys11, ys12⟩ := MM.cells13 Y6.out
        obtain ⟨zs0, zs1, zs2, zs3, zs4, zs5, zs6, zs7, zs8, zs9, zs10, zs11, zs12⟩ := MM.frees13 Y6.out
        go_wp2_with fail
        refine Go.RT.QK_normal _ _ _ _ (hK _ _ ?_ ?_) <;> clear hK K
        · repeat (first | exact Go.RT.again_nil | (refine Go.RT.again_not rfl rfl ?_) | (refine Go.RT.again_one rfl (by go_simp <;> rfl) ?_))
        (refine Go.RT.step_w rfl rfl (fun K hK => ?_) Go.RT.step_stop)
        go_wp2
        refine Go.RT.QK_normal _ _ _ _ (hK _ _ ?_ ?_) <;> clear hK K
        · repeat (first | exact Go.RT.again_nil | (refine Go.RT.again_not rfl rfl ?_) | (refine Go.RT.again_one rfl (by go_simp <;> rfl) ?_))
        (refine Go.RT.step_w rfl rfl (fun K hK => ?_) Go.RT.step_stop)
        go_wp2
        refine Go.RT.QK_normal _ _ _ _ (hK _ _ ?_ ?_) <;> clear hK K
        · repeat (first | exact Go.RT.again_nil | (refine Go.RT.again_not rfl rfl ?_) | (refine Go.RT.again_one rfl (by go_simp <;> rfl) ?_))
        refine Go.RT.step_nil ?_
        go_wp2_with fail
        refine name_world (F := fun W => Hid (W.heap[w.heap.size + 2]? = some (.cells #[.int .i64 n4.id, .int .i64 n4.term, .int .i64 n4.vote, .slice τ.A3 n4.log.length τ.k3, .int .i64 n4.form, .int .i64 n4.role, .int .i64 n4.commit, .slice τ.A7 n4.votes.length τ.k7, .slice τ.A8 n4.nxt.length τ.k8, .slice τ.A9 n4.mtch.length τ.k9, .slice τ.A10 n4.forms.length τ.k10, .int .i64 n4.clock, .int .i64 n4.due] 28 (0, 0))) ∧ Hid (NodeOs W B n4 τ υ) ∧ Hid (Below w.heap.size w W) ∧ Hid (MsgsV W (fun k => w5d.heap.size ≤ k) (.slice (some ⟨bo, 0, none⟩) 1 1) [matchMsg n4 m.frm ((mi : Int) + m.entries.length) true])) _ ⟨Lib.hid ((set13 Y6.out).trans rfl), Lib.hid (N6.out.rows.types (fun k t hk ht' => far13 (ty_ne hk ⟨_, _, Y6.out⟩ (by rcases ht' with rfl | rfl | rfl <;> decide)))), Lib.hid (below13 HB6.out (by omega)), Lib.hid (HM6.out.step (fun k hk _ => far13 (by have hk' : w5d.heap.size ≤ k := hk; omega)))⟩ ?_
        intro wf ⟨Y9, N9, B9, M9⟩
        obtain ⟨u0, u1, u2, u3, u4, u5, u6, u7, u8, u9, u10, u11, u12⟩ := MM.cells13 Y9.out
        refine bodyPost_ret (v := .tuple #[.agg #[.int .i64 n4.id, .int .i64 n4.term, .int .i64 n4.vote, .slice τ.A3 n4.log.length τ.k3, .int .i64 n4.form, .int .i64 n4.role, .int .i64 n4.commit, .slice τ.A7 n4.votes.length τ.k7, .slice τ.A8 n4.nxt.length τ.k8, .slice τ.A9 n4.mtch.length τ.k9, .slice τ.A10 n4.forms.length τ.k10, .int .i64 n4.clock, .int .i64 n4.due], .slice (some ⟨bo, 0, none⟩) 1 1]) (by simp [results, Try.results115, go_sem, u0, u1, u2, u3, u4, u5, u6, u7, u8, u9, u10, u11, u12]) rfl ?_
        rw [HE.out]
        exact ⟨τ, υ, _, _, rfl, N9.out, M9.out.mono (fun k hk _ => by have hk' : w5d.heap.size ≤ k := hk; omega), B9.out⟩


end Go.Proofs.Ytnkmljdkokcdjaa
