/-
The document's asked answers as the plain voteS. Conditions: the lengths and numbers are bounded as the theorem says.
The document's reached answers as the plain reachedN. Conditions: the lengths are bounded as the theorem says.
-/
import Derived.WalkKit
import Derived.WalkSpells
import Derived.Lib.Hide
import Derived.Outline
import Derived.Test.YtnkmljdkokcdjaaChecked
import Derived.Test.YtnkmljdkokcdjaaB0
import Derived.Test.YtnkmljdkokcdjaaB1
import Derived.Test.YtnkmljdkokcdjaaB17
import Derived.Test.YtnkmljdkokcdjaaB9
import Derived.Test.YtnkmljdkokcdjaaB16
import Derived.Test.YtnkmljdkokcdjaaB2
import Derived.Deep.DeepCutAuto
import Derived.Deep.CutBlock
import Derived.Deep.OwnRows
import Derived.IntWalk
set_option maxRecDepth 100000
set_option maxHeartbeats 40000000
set_option linter.unusedVariables false
set_option linter.unusedSimpArgs false
namespace Go.Proofs.Ytnkmljdkokcdjaa
open Go.RowKit Fed Go.RT
attribute [local go_sem high] Fed.max2_int Fed.min2_int Fed.MA Fed.ZN Fed.ZM Fed.NA
theorem size13 {w : World} {r : Nat} {u0 u1 u2 u3 u4 u5 u6 u7 u8 u9 u10 u11 u12 : Value} : (((((((((((((w.setCell ⟨r, 0, none⟩ u0).setCell ⟨r, 1, none⟩ u1).setCell ⟨r, 2, none⟩ u2).setCell ⟨r, 3, none⟩ u3).setCell ⟨r, 4, none⟩ u4).setCell ⟨r, 5, none⟩ u5).setCell ⟨r, 6, none⟩ u6).setCell ⟨r, 7, none⟩ u7).setCell ⟨r, 8, none⟩ u8).setCell ⟨r, 9, none⟩ u9).setCell ⟨r, 10, none⟩ u10).setCell ⟨r, 11, none⟩ u11).setCell ⟨r, 12, none⟩ u12).heap.size = w.heap.size := by
 have s : ∀ (w : World) (p : Addr) (u : Value), (w.setCell p u).heap.size = w.heap.size := fun w p u => by simp [World.setCell]
 rw [s, s, s, s, s, s, s, s, s, s, s, s, s]
theorem new13 {w : World} {r : Nat} {u0 u1 u2 u3 u4 u5 u6 u7 u8 u9 u10 u11 u12 : Value} (o : Obj) : ((((((((((((((w.setCell ⟨r, 0, none⟩ u0).setCell ⟨r, 1, none⟩ u1).setCell ⟨r, 2, none⟩ u2).setCell ⟨r, 3, none⟩ u3).setCell ⟨r, 4, none⟩ u4).setCell ⟨r, 5, none⟩ u5).setCell ⟨r, 6, none⟩ u6).setCell ⟨r, 7, none⟩ u7).setCell ⟨r, 8, none⟩ u8).setCell ⟨r, 9, none⟩ u9).setCell ⟨r, 10, none⟩ u10).setCell ⟨r, 11, none⟩ u11).setCell ⟨r, 12, none⟩ u12).alloc o).heap[w.heap.size]? = some o := by
 have h := MM.alloc_new (((((((((((((w.setCell ⟨r, 0, none⟩ u0).setCell ⟨r, 1, none⟩ u1).setCell ⟨r, 2, none⟩ u2).setCell ⟨r, 3, none⟩ u3).setCell ⟨r, 4, none⟩ u4).setCell ⟨r, 5, none⟩ u5).setCell ⟨r, 6, none⟩ u6).setCell ⟨r, 7, none⟩ u7).setCell ⟨r, 8, none⟩ u8).setCell ⟨r, 9, none⟩ u9).setCell ⟨r, 10, none⟩ u10).setCell ⟨r, 11, none⟩ u11).setCell ⟨r, 12, none⟩ u12) o
 rw [size13] at h
 exact h
theorem old13 {w : World} {r k : Nat} {u0 u1 u2 u3 u4 u5 u6 u7 u8 u9 u10 u11 u12 : Value} (o : Obj) (h : k < w.heap.size) : ((((((((((((((w.setCell ⟨r, 0, none⟩ u0).setCell ⟨r, 1, none⟩ u1).setCell ⟨r, 2, none⟩ u2).setCell ⟨r, 3, none⟩ u3).setCell ⟨r, 4, none⟩ u4).setCell ⟨r, 5, none⟩ u5).setCell ⟨r, 6, none⟩ u6).setCell ⟨r, 7, none⟩ u7).setCell ⟨r, 8, none⟩ u8).setCell ⟨r, 9, none⟩ u9).setCell ⟨r, 10, none⟩ u10).setCell ⟨r, 11, none⟩ u11).setCell ⟨r, 12, none⟩ u12).alloc o).heap[k]? = (((((((((((((w.setCell ⟨r, 0, none⟩ u0).setCell ⟨r, 1, none⟩ u1).setCell ⟨r, 2, none⟩ u2).setCell ⟨r, 3, none⟩ u3).setCell ⟨r, 4, none⟩ u4).setCell ⟨r, 5, none⟩ u5).setCell ⟨r, 6, none⟩ u6).setCell ⟨r, 7, none⟩ u7).setCell ⟨r, 8, none⟩ u8).setCell ⟨r, 9, none⟩ u9).setCell ⟨r, 10, none⟩ u10).setCell ⟨r, 11, none⟩ u11).setCell ⟨r, 12, none⟩ u12).heap[k]? := Below.heap_alloc _ o k (by rw [size13]; exact h)
theorem OutAt.one {w : World} {b B : Nat} {m : Fed.Msg} {A : Option Addr} {c : Nat} (h : w.heap[b]? = some (.cells (MA m (.slice A m.entries.length c)) 34 (0, 0))) (hB : B ≤ b) (he : MM.Rd w (fun k => B ≤ k ∧ MM.Ty w k 40) 2 (.slice A m.entries.length c) m.entries.length (entsC m.entries)) :
  OutAt w B (.slice (some ⟨b, 0, none⟩) 1 1) [m] (some b) :=
 ⟨msgC m (.slice A m.entries.length c), ⟨rfl, 1, _, rfl, hB, h, Nat.le_refl _, by simp [maxLen], rfl, by simp [msgC]⟩, MsgsR.one he⟩
theorem rasked_any (w : World) (B : Nat) (n : Fed.Node) (σ : Sl5) (ω : O5) (h : NodeOs w B n σ ω) (hB : B ≤ w.heap.size) (m : Fed.Msg) (A : Option Addr) (c : Nat) (l1 : n.log.length ≤ 1000000) (hi0 : -1000000000 ≤ n.id) (hi1 : n.id ≤ 1000000000) (hc0 : -1000000000 ≤ n.clock) (hc1 : n.clock ≤ 1000000000) :
  Calls Try.prog 113 #[.agg (NA n σ), .agg (MA m (.slice A m.entries.length c))] w fun e w' => ∃ τ υ A c ob, e = .returned (.tuple #[.agg #[.int .i64 (voteS ⟨n, []⟩ m).n.id, .int .i64 (voteS ⟨n, []⟩ m).n.term, .int .i64 (voteS ⟨n, []⟩ m).n.vote, .slice τ.A3 (voteS ⟨n, []⟩ m).n.log.length τ.k3, .int .i64 (voteS ⟨n, []⟩ m).n.form, .int .i64 (voteS ⟨n, []⟩ m).n.role, .int .i64 (voteS ⟨n, []⟩ m).n.commit, .slice τ.A7 (voteS ⟨n, []⟩ m).n.votes.length τ.k7, .slice τ.A8 (voteS ⟨n, []⟩ m).n.nxt.length τ.k8, .slice τ.A9 (voteS ⟨n, []⟩ m).n.mtch.length τ.k9, .slice τ.A10 (voteS ⟨n, []⟩ m).n.forms.length τ.k10, .int .i64 (voteS ⟨n, []⟩ m).n.clock, .int .i64 (voteS ⟨n, []⟩ m).n.due], .slice A (voteS ⟨n, []⟩ m).out.length c]) ∧ NodeOs w' B (voteS ⟨n, []⟩ m).n τ υ ∧ OutAt w' B (.slice A (voteS ⟨n, []⟩ m).out.length c) (voteS ⟨n, []⟩ m).out ob ∧ Below B w w' ∧ Kp w w' := by
 obtain ⟨ok, hok⟩ : ∃ x, voteOk n m = x := ⟨_, rfl⟩
 have H := Hd h
 have HOK := Hd hok
 clear h hok
 go_enter Try.func113, Try.ntmps113
 go_upto_region 1 with (fail)
 refine name_world (F := fun W => Hid (NB W B w.heap.size n σ ω) ∧ Hid (W.heap[w.heap.size + 1]? = some (.cells (MA m (.slice A m.entries.length c)) 34 (0, 0))) ∧ Hid (W.heap[w.heap.size + 2]? = some (.cells ZN 28 (0, 0))) ∧ Hid (Below B w W) ∧ Hid (Kp w W)) _ ⟨Hd (⟨hB, (Below.heap_alloc _ _ _ (by simp; omega)).trans ((Below.heap_alloc _ _ _ (by simp)).trans (MM.alloc_new w _)), ((H.out.alloc _).alloc _).alloc _⟩), Hd (alloc_mid w _ _ _), Hd (alloc_new2 w _ _ _), Hd ((((Below.refl B w).alloc hB _).alloc (by simp; omega) _).alloc (by simp; omega) _), Hd (Kp.old (fun k hk => (Below.heap_alloc _ _ k (by simp; omega)).trans ((Below.heap_alloc _ _ k (by simp; omega)).trans (Below.heap_alloc w _ k hk))))⟩ ?_
 clear H
 intro w1 ⟨N, M, Y, HB, HK⟩
 obtain ⟨c0, c1, c2, c3, c4, c5, c6, c7, c8, c9, c10, c11, c12⟩ := MM.cells13 N.out.blk
 go_wp2_with fail
 refine (rterm_any _ _ n.log _ _ _ _ _ _ _ _ _ _ _ _ σ.A3 σ.k3 (n.log.length : Int) (by omega) (by omega) N.out.toV.hl).mono ?_
 rintro e w2 ⟨rfl, hb2⟩
 have N2 := Hd (N.out.below hb2)
 have M2 := Hd ((hb2.block _ (MM.blk_lt M.out)).trans M.out)
 have Y2 := Hd ((hb2.block _ (MM.blk_lt Y.out)).trans Y.out)
 have HB2 := Hd (HB.out.trans (hb2.mono (Nat.le_trans hB HB.out.size)))
 have HK2 := Hd (HK.out.trans (Kp.old (fun k hk => hb2.block k hk)))
 clear hb2 N M Y HB HK c0 c1 c2 c3 c4 c5 c6 c7 c8 c9 c10 c11 c12
 have c1 : w2.cell? ⟨w.heap.size, 1, none⟩ = some (.int .i64 n.term) := N2.out.c 1 _ rfl
 have c2 : w2.cell? ⟨w.heap.size, 2, none⟩ = some (.int .i64 n.vote) := N2.out.c 2 _ rfl
 have c3 : w2.cell? ⟨w.heap.size, 3, none⟩ = some (.slice σ.A3 n.log.length σ.k3) := N2.out.c 3 _ rfl
 have d1 : w2.cell? ⟨w.heap.size + 1, 1, none⟩ = some (.int .i64 m.frm) := MM.cell_blk M2.out rfl
 have d3 : w2.cell? ⟨w.heap.size + 1, 3, none⟩ = some (.int .i64 m.term) := MM.cell_blk M2.out rfl
 have d4 : w2.cell? ⟨w.heap.size + 1, 4, none⟩ = some (.int .i64 m.index) := MM.cell_blk M2.out rfl
 have d5 : w2.cell? ⟨w.heap.size + 1, 5, none⟩ = some (.int .i64 m.logTerm) := MM.cell_blk M2.out rfl
 go_upto_region 2 with (fail)
 go_cut [7] (fun t7 wc => t7 = .bool ok ∧ w2 = wc)
 case first => as_aux_lemma =>
  have hv := HOK.out
  unfold voteOk at hv
  clear HOK
  by_cases h1 : m.term = n.term
  case neg =>
   have g1 : (m.term == n.term) = false := by simpa using h1
   obtain rfl : ok = false := by rw [← hv]; simp [h1]
   clear hv h1
   go_wp2_with fail
   go_meet
   case rel => exact ⟨rfl, rfl⟩
  have g1 : (m.term == n.term) = true := by simpa using h1
  rw [decide_eq_true h1, Bool.true_and] at hv
  clear h1
  by_cases h2 : n.vote = -1 ∨ n.vote = m.frm
  case neg =>
   have g2 : (n.vote == -1) = false := by simp; omega
   have g3 : (n.vote == m.frm) = false := by simp; omega
   obtain rfl : ok = false := by rw [← hv, decide_eq_false (show ¬ n.vote = -1 by omega), decide_eq_false (show ¬ n.vote = m.frm by omega)]; simp
   clear hv h2
   go_wp2_with fail
   go_meet
   case rel => exact ⟨rfl, rfl⟩
  have hv2 : (decide (termAt n.log n.log.length < m.logTerm) || (decide (m.logTerm = termAt n.log n.log.length) && decide ((n.log.length : Int) ≤ m.index))) = ok := by
   rw [← hv]
   rcases h2 with h2 | h2 <;> simp [h2]
  clear hv
  obtain ⟨t, ht⟩ : ∃ t, t = termAt n.log n.log.length := ⟨_, rfl⟩
  rw [← ht] at hv2 ⊢
  have HTT := Hd ht
  clear ht
  have h2' : n.vote = -1 ∨ (n.vote ≠ -1 ∧ n.vote = m.frm) := by omega
  clear h2
  have h3 : t < m.logTerm ∨ (¬ t < m.logTerm ∧ m.logTerm = t ∧ (n.log.length : Int) ≤ m.index) ∨ (¬ t < m.logTerm ∧ m.logTerm = t ∧ ¬ (n.log.length : Int) ≤ m.index) ∨ (¬ t < m.logTerm ∧ ¬ m.logTerm = t) := by omega
  rcases h2' with h2 | ⟨h2, h2b⟩
  ·have g2 : (n.vote == -1) = true := by simpa using h2
   clear h2
   rcases h3 with h3 | ⟨h3, h4, h5⟩ | ⟨h3, h4, h5⟩ | ⟨h3, h4⟩
   ·have g3 : decide (t < m.logTerm) = true := decide_eq_true h3
    obtain rfl : ok = true := by rw [← hv2, g3]; rfl
    clear hv2 h3
    go_wp2_with fail
    (have ht9 := HTT.out; subst ht9)
    go_meet
    case rel => exact ⟨rfl, rfl⟩
   ·have g3 : decide (t < m.logTerm) = false := decide_eq_false h3
    have g4 : (m.logTerm == t) = true := by simpa using h4
    have g5 : decide ((n.log.length : Int) ≤ m.index) = true := decide_eq_true h5
    obtain rfl : ok = true := by rw [← hv2, g3, decide_eq_true h4, g5]; rfl
    clear hv2 h3 h4 h5
    go_wp2_with fail
    (have ht9 := HTT.out; subst ht9)
    go_meet
    case rel => exact ⟨rfl, rfl⟩
   ·have g3 : decide (t < m.logTerm) = false := decide_eq_false h3
    have g4 : (m.logTerm == t) = true := by simpa using h4
    have g5 : decide ((n.log.length : Int) ≤ m.index) = false := decide_eq_false h5
    obtain rfl : ok = false := by rw [← hv2, g3, decide_eq_true h4, g5]; rfl
    clear hv2 h3 h4 h5
    go_wp2_with fail
    (have ht9 := HTT.out; subst ht9)
    go_meet
    case rel => exact ⟨rfl, rfl⟩
   ·have g3 : decide (t < m.logTerm) = false := decide_eq_false h3
    have g4 : (m.logTerm == t) = false := by simpa using h4
    obtain rfl : ok = false := by rw [← hv2, g3, decide_eq_false h4]; rfl
    clear hv2 h3 h4
    go_wp2_with fail
    (have ht9 := HTT.out; subst ht9)
    go_meet
    case rel => exact ⟨rfl, rfl⟩
  ·have g2 : (n.vote == -1) = false := by simpa using h2
   have g2b : (n.vote == m.frm) = true := by simpa using h2b
   clear h2 h2b
   rcases h3 with h3 | ⟨h3, h4, h5⟩ | ⟨h3, h4, h5⟩ | ⟨h3, h4⟩
   ·have g3 : decide (t < m.logTerm) = true := decide_eq_true h3
    obtain rfl : ok = true := by rw [← hv2, g3]; rfl
    clear hv2 h3
    go_wp2_with fail
    (have ht9 := HTT.out; subst ht9)
    go_meet
    case rel => exact ⟨rfl, rfl⟩
   ·have g3 : decide (t < m.logTerm) = false := decide_eq_false h3
    have g4 : (m.logTerm == t) = true := by simpa using h4
    have g5 : decide ((n.log.length : Int) ≤ m.index) = true := decide_eq_true h5
    obtain rfl : ok = true := by rw [← hv2, g3, decide_eq_true h4, g5]; rfl
    clear hv2 h3 h4 h5
    go_wp2_with fail
    (have ht9 := HTT.out; subst ht9)
    go_meet
    case rel => exact ⟨rfl, rfl⟩
   ·have g3 : decide (t < m.logTerm) = false := decide_eq_false h3
    have g4 : (m.logTerm == t) = true := by simpa using h4
    have g5 : decide ((n.log.length : Int) ≤ m.index) = false := decide_eq_false h5
    obtain rfl : ok = false := by rw [← hv2, g3, decide_eq_true h4, g5]; rfl
    clear hv2 h3 h4 h5
    go_wp2_with fail
    (have ht9 := HTT.out; subst ht9)
    go_meet
    case rel => exact ⟨rfl, rfl⟩
   ·have g3 : decide (t < m.logTerm) = false := decide_eq_false h3
    have g4 : (m.logTerm == t) = false := by simpa using h4
    obtain rfl : ok = false := by rw [← hv2, g3, decide_eq_false h4]; rfl
    clear hv2 h3 h4
    go_wp2_with fail
    (have ht9 := HTT.out; subst ht9)
    go_meet
    case rel => exact ⟨rfl, rfl⟩
 case rest =>
  obtain ⟨rfl, rfl⟩ := hcut
  clear c1 c2 c3 d1 d3 d4 d5
  cases ok
  case false =>
   have HE := Hd (show voteS ⟨n, []⟩ m = ⟨n, [votedMsg n m.frm false]⟩ from by unfold voteS; rw [if_neg (by rw [HOK.out]; decide)]; rfl)
   clear HOK
   go_wp2_with fail
   refine wT (.s 0 (.p 1 (.s 2 (.p 3 (.s 4 (.p 5 (.s 6 (.p 7 (.p 8 (.w 9 [0] (.w 10 [2, 4, 6] (.w 11 [] .nil .stop) .stop) (.w 10 [2, 4, 6] (.w 9 [0] (.w 11 [] .nil .stop) .stop) .stop))))))))))) (by kernel_rfl) (by kernel_rfl) ?_
   refine name_world (F := fun W => Hid (NB W B w.heap.size n σ ω) ∧ Hid (W.heap[w.heap.size + 2]? = some (.cells ZN 28 (0, 0))) ∧ Hid (Below B w W) ∧ Hid (Kp w W) ∧ Hid (W.heap[w.heap.size + 1]? = some (.cells (MA m (.slice A m.entries.length c)) 34 (0, 0)))) _ ⟨Hd (N2.out.drew), Hd (Y2.out), Hd (HB2.out.drew), Hd (HK2.out), Hd (M2.out)⟩ ?_
   intro w2d ⟨Nd, Yd, HBd, HKd, Md⟩
   obtain ⟨cd0, cd1, cd2, cd3, cd4, cd5, cd6, cd7, cd8, cd9, cd10, cd11, cd12⟩ := MM.cells13 Nd.out.blk
   obtain ⟨yd0, yd1, yd2, yd3, yd4, yd5, yd6, yd7, yd8, yd9, yd10, yd11, yd12⟩ := MM.cells13 Yd.out
   obtain ⟨zd0, zd1, zd2, zd3, zd4, zd5, zd6, zd7, zd8, zd9, zd10, zd11, zd12⟩ := MM.frees13 Yd.out
   have dd1 : w2d.cell? ⟨w.heap.size + 1, 1, none⟩ = some (.int .i64 m.frm) := MM.cell_blk Md.out rfl
   have hsz : w.heap.size + 2 < w2d.heap.size := MM.blk_lt Yd.out
   have hsz1 : w.heap.size + 1 < w2d.heap.size := by omega
   have hsz0 : w.heap.size < w2d.heap.size := by omega
   have hBs : B ≤ w2d.heap.size := by omega
   have hBr : B ≤ w.heap.size + 2 := by omega
   have hwr : w.heap.size ≤ w.heap.size + 2 := by omega
   have hne9 : w2d.heap.size ≠ w.heap.size + 2 := by omega
   repeat ((first | refine sP rfl fun K hK => ?_ | refine sS rfl fun K hK => ?_); go_simp; refine hK _ ?_; clear hK K)
   refine sW rfl rfl (fun K hK => ?_) ?_
   ·go_wp2_with fail
    refine qN _ _ _ _ (hK _ _ ?_ ?_) <;> clear hK K
    ·repeat first | exact aN | refine aO rfl rfl ?_ | refine aI rfl (by go_simp <;> rfl) ?_
    refine sW rfl rfl (fun K hK => ?_) sT
    go_wp2
    refine qN _ _ _ _ (hK _ _ ?_ ?_) <;> clear hK K
    ·repeat first | exact aN | refine aO rfl rfl ?_ | refine aI rfl (by go_simp <;> rfl) ?_
    refine sW rfl rfl (fun K hK => ?_) sT
    go_wp2
    refine qN _ _ _ _ (hK _ _ ?_ ?_) <;> clear hK K
    ·repeat first | exact aN | refine aO rfl rfl ?_ | refine aI rfl (by go_simp <;> rfl) ?_
    refine sN ?_
    go_wp2_with fail
    refine name_world (F := fun W => Hid (W.heap[w.heap.size + 2]? = some (.cells (NA n σ) 28 (0, 0))) ∧ Hid (NodeOs W B n σ ω) ∧ Hid (Below B w W) ∧ Hid (Kp w W) ∧ Hid (W.heap[w2d.heap.size]? = some (.cells #[.int .i64 2, .int .i64 n.id, .int .i64 m.frm, .int .i64 n.term, .int .i64 0, .int .i64 0, .bool false, .slice none 0 0, .int .i64 0, .int .i64 0] 34 (0, 0)))) _ ⟨Hd ((old13 _ (MM.blk_lt Yd.out)).trans ((set13 Yd.out).trans rfl)), Hd (((Nd.out.rows.types (fun k t hk ht' => far13 (ty_ne hk ⟨_, _, Yd.out⟩ (by rcases ht' with rfl | rfl | rfl <;> decide)))).step (fun k _ hk => Below.heap_alloc _ _ k hk))), Hd ((below13 HBd.out hBr).alloc (by rw [size13]; exact hBs) _), Hd ((HKd.out.new13 hwr).trans (Kp.old (fun k hk => Below.heap_alloc _ _ k hk))), Hd (new13 _)⟩ ?_
    intro wf ⟨Y9, N9, B9, K9, O9⟩
    obtain ⟨u0, u1, u2, u3, u4, u5, u6, u7, u8, u9, u10, u11, u12⟩ := MM.cells13 Y9.out
    refine bodyPost_ret (v := .tuple #[.agg (NA n σ), .slice (some ⟨w2d.heap.size, 0, none⟩) 1 1]) (by simp [results, Try.results113, go_sem, u0, u1, u2, u3, u4, u5, u6, u7, u8, u9, u10, u11, u12]) rfl ?_
    rw [HE.out]
    exact ⟨σ, ω, _, _, _, rfl, N9.out, OutAt.one (m := votedMsg n m.frm false) (A := none) (c := 0) O9.out hBs (MM.Rd.nil _ _ _ _ _ (by simp [maxLen])), B9.out, K9.out⟩
   refine sW rfl rfl (fun K hK => ?_) sT
   go_wp2
   refine qN _ _ _ _ (hK _ _ ?_ ?_) <;> clear hK K
   ·repeat first | exact aN | refine aO rfl rfl ?_ | refine aI rfl (by go_simp <;> rfl) ?_
   refine sW rfl rfl (fun K hK => ?_) sT
   go_wp2_with fail
   refine qN _ _ _ _ (hK _ _ ?_ ?_) <;> clear hK K
   ·repeat first | exact aN | refine aO rfl rfl ?_ | refine aI rfl (by go_simp <;> rfl) ?_
   refine sW rfl rfl (fun K hK => ?_) sT
   go_wp2
   refine qN _ _ _ _ (hK _ _ ?_ ?_) <;> clear hK K
   ·repeat first | exact aN | refine aO rfl rfl ?_ | refine aI rfl (by go_simp <;> rfl) ?_
   refine sN ?_
   go_wp2_with fail
   refine name_world (F := fun W => Hid (W.heap[w.heap.size + 2]? = some (.cells (NA n σ) 28 (0, 0))) ∧ Hid (NodeOs W B n σ ω) ∧ Hid (Below B w W) ∧ Hid (Kp w W) ∧ Hid (W.heap[w2d.heap.size]? = some (.cells #[.int .i64 2, .int .i64 n.id, .int .i64 m.frm, .int .i64 n.term, .int .i64 0, .int .i64 0, .bool false, .slice none 0 0, .int .i64 0, .int .i64 0] 34 (0, 0)))) _ ⟨Hd ((old13 _ (MM.blk_lt Yd.out)).trans ((set13 Yd.out).trans rfl)), Hd (((Nd.out.rows.types (fun k t hk ht' => far13 (ty_ne hk ⟨_, _, Yd.out⟩ (by rcases ht' with rfl | rfl | rfl <;> decide)))).step (fun k _ hk => Below.heap_alloc _ _ k hk))), Hd ((below13 HBd.out hBr).alloc (by rw [size13]; exact hBs) _), Hd ((HKd.out.new13 hwr).trans (Kp.old (fun k hk => Below.heap_alloc _ _ k hk))), Hd (new13 _)⟩ ?_
   intro wf ⟨Y9, N9, B9, K9, O9⟩
   obtain ⟨u0, u1, u2, u3, u4, u5, u6, u7, u8, u9, u10, u11, u12⟩ := MM.cells13 Y9.out
   refine bodyPost_ret (v := .tuple #[.agg (NA n σ), .slice (some ⟨w2d.heap.size, 0, none⟩) 1 1]) (by simp [results, Try.results113, go_sem, u0, u1, u2, u3, u4, u5, u6, u7, u8, u9, u10, u11, u12]) rfl ?_
   rw [HE.out]
   exact ⟨σ, ω, _, _, _, rfl, N9.out, OutAt.one (m := votedMsg n m.frm false) (A := none) (c := 0) O9.out hBs (MM.Rd.nil _ _ _ _ _ (by simp [maxLen])), B9.out, K9.out⟩
  case true =>
   have HE0 := Hd (show voteS ⟨n, []⟩ m = ⟨voteN n m, [votedMsg (voteN n m) m.frm true]⟩ from by unfold voteS; rw [if_pos HOK.out]; rfl)
   clear HOK
   obtain ⟨c0, c1, c2, c3, c4, c5, c6, c7, c8, c9, c10, c11, c12⟩ := MM.cells13 N2.out.blk
   have g2 : w2.frozen? ⟨w.heap.size, 2, none⟩ = false := N2.out.fr 2
   have g12 : w2.frozen? ⟨w.heap.size, 12, none⟩ = false := N2.out.fr 12
   have d1 : w2.cell? ⟨w.heap.size + 1, 1, none⟩ = some (.int .i64 m.frm) := MM.cell_blk M2.out rfl
   go_wp2_with fail
   refine wT (.p 0 (.s 1 (.s 2 (.p 4 (.w 3 [1] (.w 5 [] (.p 6 (.w 7 [] .nil .stop)) .stop) .stop))))) (by kernel_rfl) (by kernel_rfl) ?_
   repeat ((first | refine sP rfl fun K hK => ?_ | refine sS rfl fun K hK => ?_); go_simp; refine hK _ ?_; clear hK K)
   refine sW rfl rfl (fun K hK => ?_) sT
   go_wp2_with fail
   refine (rdue_any _ n.id n.clock _ _ _ _ _ _ _ _ _ _ _ (by omega) (by omega) (by omega) (by omega)).mono ?_
   rintro e w3 ⟨rfl, hb3⟩
   have N3 := Hd (N2.out.drew.below hb3)
   have M3 := Hd ((hb3.block _ (MM.blk_lt M2.out)).trans M2.out)
   have Y3 := Hd ((hb3.block _ (MM.blk_lt Y2.out)).trans Y2.out)
   have HB3 := Hd (HB2.out.drew.trans (hb3.mono (Nat.le_trans hB HB2.out.size)))
   have HK3 := Hd (HK2.out.trans (Kp.old (fun k hk => hb3.block k hk)))
   clear hb3
   have ce2 : w3.cell? ⟨w.heap.size, 2, none⟩ = some (.int .i64 n.vote) := N3.out.c 2 _ rfl
   have ce12 : w3.cell? ⟨w.heap.size, 12, none⟩ = some (.int .i64 n.due) := N3.out.c 12 _ rfl
   have ge2 : w3.frozen? ⟨w.heap.size, 2, none⟩ = false := N3.out.fr 2
   have ge12 : w3.frozen? ⟨w.heap.size, 12, none⟩ = false := N3.out.fr 12
   have de1 : w3.cell? ⟨w.heap.size + 1, 1, none⟩ = some (.int .i64 m.frm) := MM.cell_blk M3.out rfl
   go_wp2_with fail
   refine qN _ _ _ _ (hK _ _ ?_ ?_) <;> clear hK K
   ·repeat first | exact aN | refine aO rfl rfl ?_ | refine aI rfl (by go_simp <;> rfl) ?_
   refine sW rfl rfl (fun K hK => ?_) sT
   go_wp2
   refine qN _ _ _ _ (hK _ _ ?_ ?_) <;> clear hK K
   ·repeat first | exact aN | refine aO rfl rfl ?_ | refine aI rfl (by go_simp <;> rfl) ?_
   repeat ((first | refine sP rfl fun K hK => ?_ | refine sS rfl fun K hK => ?_); go_simp; refine hK _ ?_; clear hK K)
   refine sW rfl rfl (fun K hK => ?_) sT
   go_wp2
   refine qN _ _ _ _ (hK _ _ ?_ ?_) <;> clear hK K
   ·repeat first | exact aN | refine aO rfl rfl ?_ | refine aI rfl (by go_simp <;> rfl) ?_
   refine sN ?_
   go_wp2_with fail
   refine name_world (F := fun W => Hid (NB W B w.heap.size { n with vote := m.frm, due := n.clock + 5 + 2 * n.id } σ ω) ∧ Hid (W.heap[w.heap.size + 1]? = some (.cells (MA m (.slice A m.entries.length c)) 34 (0, 0))) ∧ Hid (W.heap[w.heap.size + 2]? = some (.cells ZN 28 (0, 0))) ∧ Hid (Below B w W) ∧ Hid (Kp w W)) _ ⟨Hd ((N3.out.set (n' := { n with vote := m.frm }) rfl ⟨rfl, rfl, rfl, rfl, rfl⟩).set rfl ⟨rfl, rfl, rfl, rfl, rfl⟩), Hd ((Below.heap_setCell _ _ _ _ (by show w.heap.size + 1 ≠ w.heap.size; omega)).trans ((Below.heap_setCell _ _ _ _ (by show w.heap.size + 1 ≠ w.heap.size; omega)).trans M3.out)), Hd ((Below.heap_setCell _ _ _ _ (by show w.heap.size + 2 ≠ w.heap.size; omega)).trans ((Below.heap_setCell _ _ _ _ (by show w.heap.size + 2 ≠ w.heap.size; omega)).trans Y3.out)), Hd ((HB3.out.setCell hB _).setCell hB _), Hd ((HK3.out.new (Nat.le_refl _) _).new (Nat.le_refl _) _)⟩ ?_
   intro w4 ⟨N4, M4, Y4, HB4, HK4⟩
   have HV := Hd (show voteN n m = { n with vote := m.frm, due := n.clock + 5 + 2 * n.id } from rfl)
   obtain ⟨n1, hn1⟩ : ∃ x : Fed.Node, x = { n with vote := m.frm, due := n.clock + 5 + 2 * n.id } := ⟨_, rfl⟩
   rw [← hn1] at N4 HV
   have HEn1 := Hd hn1
   clear hn1
   have HE := Hd (show voteS ⟨n, []⟩ m = ⟨n1, [votedMsg n1 m.frm true]⟩ from by rw [HE0.out, HV.out])
   clear N2 M2 Y2 HB2 HK2 N3 M3 Y3 HB3 HK3 HE0
   clear c0 c1 c2 c3 c4 c5 c6 c7 c8 c9 c10 c11 c12 g2 g12 d1
   go_wp2_with fail
   refine wT (.s 0 (.p 1 (.s 2 (.p 3 (.s 4 (.p 5 (.s 6 (.p 7 (.p 8 (.w 9 [0] (.w 10 [2, 4, 6] (.w 11 [] .nil .stop) .stop) (.w 10 [2, 4, 6] (.w 9 [0] (.w 11 [] .nil .stop) .stop) .stop))))))))))) (by kernel_rfl) (by kernel_rfl) ?_
   refine name_world (F := fun W => Hid (NB W B w.heap.size n1 σ ω) ∧ Hid (W.heap[w.heap.size + 2]? = some (.cells ZN 28 (0, 0))) ∧ Hid (Below B w W) ∧ Hid (Kp w W) ∧ Hid (W.heap[w.heap.size + 1]? = some (.cells (MA m (.slice A m.entries.length c)) 34 (0, 0)))) _ ⟨Hd (N4.out.drew), Hd (Y4.out), Hd (HB4.out.drew), Hd (HK4.out), Hd (M4.out)⟩ ?_
   intro w4d ⟨Nd, Yd, HBd, HKd, Md⟩
   obtain ⟨cd0, cd1, cd2, cd3, cd4, cd5, cd6, cd7, cd8, cd9, cd10, cd11, cd12⟩ := MM.cells13 Nd.out.blk
   obtain ⟨yd0, yd1, yd2, yd3, yd4, yd5, yd6, yd7, yd8, yd9, yd10, yd11, yd12⟩ := MM.cells13 Yd.out
   obtain ⟨zd0, zd1, zd2, zd3, zd4, zd5, zd6, zd7, zd8, zd9, zd10, zd11, zd12⟩ := MM.frees13 Yd.out
   have dd1 : w4d.cell? ⟨w.heap.size + 1, 1, none⟩ = some (.int .i64 m.frm) := MM.cell_blk Md.out rfl
   have hsz : w.heap.size + 2 < w4d.heap.size := MM.blk_lt Yd.out
   have hsz1 : w.heap.size + 1 < w4d.heap.size := by omega
   have hsz0 : w.heap.size < w4d.heap.size := by omega
   have hBs : B ≤ w4d.heap.size := by omega
   have hBr : B ≤ w.heap.size + 2 := by omega
   have hwr : w.heap.size ≤ w.heap.size + 2 := by omega
   have hne9 : w4d.heap.size ≠ w.heap.size + 2 := by omega
   repeat ((first | refine sP rfl fun K hK => ?_ | refine sS rfl fun K hK => ?_); go_simp; refine hK _ ?_; clear hK K)
   refine sW rfl rfl (fun K hK => ?_) ?_
   ·go_wp2_with fail
    refine qN _ _ _ _ (hK _ _ ?_ ?_) <;> clear hK K
    ·repeat first | exact aN | refine aO rfl rfl ?_ | refine aI rfl (by go_simp <;> rfl) ?_
    refine sW rfl rfl (fun K hK => ?_) sT
    go_wp2
    refine qN _ _ _ _ (hK _ _ ?_ ?_) <;> clear hK K
    ·repeat first | exact aN | refine aO rfl rfl ?_ | refine aI rfl (by go_simp <;> rfl) ?_
    refine sW rfl rfl (fun K hK => ?_) sT
    go_wp2
    refine qN _ _ _ _ (hK _ _ ?_ ?_) <;> clear hK K
    ·repeat first | exact aN | refine aO rfl rfl ?_ | refine aI rfl (by go_simp <;> rfl) ?_
    refine sN ?_
    go_wp2_with fail
    refine name_world (F := fun W => Hid (W.heap[w.heap.size + 2]? = some (.cells (NA n1 σ) 28 (0, 0))) ∧ Hid (NodeOs W B n1 σ ω) ∧ Hid (Below B w W) ∧ Hid (Kp w W) ∧ Hid (W.heap[w4d.heap.size]? = some (.cells #[.int .i64 2, .int .i64 n1.id, .int .i64 m.frm, .int .i64 n1.term, .int .i64 0, .int .i64 0, .bool true, .slice none 0 0, .int .i64 0, .int .i64 0] 34 (0, 0)))) _ ⟨Hd ((old13 _ (MM.blk_lt Yd.out)).trans ((set13 Yd.out).trans rfl)), Hd (((Nd.out.rows.types (fun k t hk ht' => far13 (ty_ne hk ⟨_, _, Yd.out⟩ (by rcases ht' with rfl | rfl | rfl <;> decide)))).step (fun k _ hk => Below.heap_alloc _ _ k hk))), Hd ((below13 HBd.out hBr).alloc (by rw [size13]; exact hBs) _), Hd ((HKd.out.new13 hwr).trans (Kp.old (fun k hk => Below.heap_alloc _ _ k hk))), Hd (new13 _)⟩ ?_
    intro wf ⟨Y9, N9, B9, K9, O9⟩
    obtain ⟨u0, u1, u2, u3, u4, u5, u6, u7, u8, u9, u10, u11, u12⟩ := MM.cells13 Y9.out
    refine bodyPost_ret (v := .tuple #[.agg (NA n1 σ), .slice (some ⟨w4d.heap.size, 0, none⟩) 1 1]) (by simp [results, Try.results113, go_sem, u0, u1, u2, u3, u4, u5, u6, u7, u8, u9, u10, u11, u12]) rfl ?_
    rw [HE.out]
    exact ⟨σ, ω, _, _, _, rfl, N9.out, OutAt.one (m := votedMsg n1 m.frm true) (A := none) (c := 0) O9.out hBs (MM.Rd.nil _ _ _ _ _ (by simp [maxLen])), B9.out, K9.out⟩
   refine sW rfl rfl (fun K hK => ?_) sT
   go_wp2
   refine qN _ _ _ _ (hK _ _ ?_ ?_) <;> clear hK K
   ·repeat first | exact aN | refine aO rfl rfl ?_ | refine aI rfl (by go_simp <;> rfl) ?_
   refine sW rfl rfl (fun K hK => ?_) sT
   go_wp2_with fail
   refine qN _ _ _ _ (hK _ _ ?_ ?_) <;> clear hK K
   ·repeat first | exact aN | refine aO rfl rfl ?_ | refine aI rfl (by go_simp <;> rfl) ?_
   refine sW rfl rfl (fun K hK => ?_) sT
   go_wp2
   refine qN _ _ _ _ (hK _ _ ?_ ?_) <;> clear hK K
   ·repeat first | exact aN | refine aO rfl rfl ?_ | refine aI rfl (by go_simp <;> rfl) ?_
   refine sN ?_
   go_wp2_with fail
   refine name_world (F := fun W => Hid (W.heap[w.heap.size + 2]? = some (.cells (NA n1 σ) 28 (0, 0))) ∧ Hid (NodeOs W B n1 σ ω) ∧ Hid (Below B w W) ∧ Hid (Kp w W) ∧ Hid (W.heap[w4d.heap.size]? = some (.cells #[.int .i64 2, .int .i64 n1.id, .int .i64 m.frm, .int .i64 n1.term, .int .i64 0, .int .i64 0, .bool true, .slice none 0 0, .int .i64 0, .int .i64 0] 34 (0, 0)))) _ ⟨Hd ((old13 _ (MM.blk_lt Yd.out)).trans ((set13 Yd.out).trans rfl)), Hd (((Nd.out.rows.types (fun k t hk ht' => far13 (ty_ne hk ⟨_, _, Yd.out⟩ (by rcases ht' with rfl | rfl | rfl <;> decide)))).step (fun k _ hk => Below.heap_alloc _ _ k hk))), Hd ((below13 HBd.out hBr).alloc (by rw [size13]; exact hBs) _), Hd ((HKd.out.new13 hwr).trans (Kp.old (fun k hk => Below.heap_alloc _ _ k hk))), Hd (new13 _)⟩ ?_
   intro wf ⟨Y9, N9, B9, K9, O9⟩
   obtain ⟨u0, u1, u2, u3, u4, u5, u6, u7, u8, u9, u10, u11, u12⟩ := MM.cells13 Y9.out
   refine bodyPost_ret (v := .tuple #[.agg (NA n1 σ), .slice (some ⟨w4d.heap.size, 0, none⟩) 1 1]) (by simp [results, Try.results113, go_sem, u0, u1, u2, u3, u4, u5, u6, u7, u8, u9, u10, u11, u12]) rfl ?_
   rw [HE.out]
   exact ⟨σ, ω, _, _, _, rfl, N9.out, OutAt.one (m := votedMsg n1 m.frm true) (A := none) (c := 0) O9.out hBs (MM.Rd.nil _ _ _ _ _ (by simp [maxLen])), B9.out, K9.out⟩
end Go.Proofs.Ytnkmljdkokcdjaa
namespace Go.Proofs.Ytnkmljdkokcdjaa
open Go.RowKit Fed Go.RT
attribute [local go_sem high] Fed.max2_int Fed.min2_int Fed.MA Fed.ZN Fed.ZM Fed.NA
theorem rreached_any (w : World) (ok : Nat → Prop) (n : Fed.Node) (σ : Sl5) (h : NodeVs w ok n σ) (l1 : n.log.length ≤ 1000000) (l4 : n.mtch.length ≤ 1000) (l3 : n.mtch.length = n.votes.length) (hc : 0 ≤ n.commit) :
  Calls Try.prog 123 #[.agg (NA n σ)] w fun e w' => e = .returned (.int .i64 (reachedN n)) ∧ Below w.heap.size w w' := by
 have H := Hd (h.mono (ok' := fun k => k < w.heap.size) (fun k _ hk => hk))
 have L3 := Hd l3
 clear h l3
 go_enter Try.func123, Try.ntmps123
 go_upto_region 1 with (fail)
 refine name_world (F := fun W => Hid (W.heap[w.heap.size]? = some (.cells (NA n σ) 28 (0, 0))) ∧ Hid (NodeVs W (fun k => k < w.heap.size) n σ) ∧ Hid (Below w.heap.size w W)) _ ⟨Hd (MM.alloc_new w _), Hd (H.out.step (fun k hk _ => Below.heap_alloc w _ k hk)), Hd ((Below.refl _ w).alloc (Nat.le_refl _) _)⟩ ?_
 clear H
 intro w1 ⟨X, V, HB⟩
 have c3 : w1.cell? ⟨w.heap.size, 3, none⟩ = some (.slice σ.A3 n.log.length σ.k3) := MM.cell_blk X.out rfl
 go_wp2_with fail
 clear c3
 go_loopw [3] (fun t3 wr => ∃ a : Nat, a ≤ n.log.length ∧ t3 = .int .i64 a ∧ Hid (reachedFrom n a = reachedN n) ∧ Hid (wr.heap[w.heap.size]? = some (.cells (NA n σ) 28 (0, 0))) ∧ Hid (NodeVs wr (fun k => k < w.heap.size) n σ) ∧ Hid (Below w.heap.size w wr)) (fun t3 _ => (intOf t3).toNat)
 case atStart => exact ⟨n.log.length, Nat.le_refl _, rfl, Hd rfl, X, V, HB⟩
 case round =>
  obtain ⟨a, ha, rfl, HR, X, V, HB⟩ := hrel
  have c0 : wr.cell? ⟨w.heap.size, 0, none⟩ = some (.int .i64 n.id) := MM.cell_blk X.out rfl
  have c1 : wr.cell? ⟨w.heap.size, 1, none⟩ = some (.int .i64 n.term) := MM.cell_blk X.out rfl
  have c2 : wr.cell? ⟨w.heap.size, 2, none⟩ = some (.int .i64 n.vote) := MM.cell_blk X.out rfl
  have c3 : wr.cell? ⟨w.heap.size, 3, none⟩ = some (.slice σ.A3 n.log.length σ.k3) := MM.cell_blk X.out rfl
  have c4 : wr.cell? ⟨w.heap.size, 4, none⟩ = some (.int .i64 n.form) := MM.cell_blk X.out rfl
  have c5 : wr.cell? ⟨w.heap.size, 5, none⟩ = some (.int .i64 n.role) := MM.cell_blk X.out rfl
  have c6 : wr.cell? ⟨w.heap.size, 6, none⟩ = some (.int .i64 n.commit) := MM.cell_blk X.out rfl
  have c7 : wr.cell? ⟨w.heap.size, 7, none⟩ = some (.slice σ.A7 n.votes.length σ.k7) := MM.cell_blk X.out rfl
  have c8 : wr.cell? ⟨w.heap.size, 8, none⟩ = some (.slice σ.A8 n.nxt.length σ.k8) := MM.cell_blk X.out rfl
  have c10 : wr.cell? ⟨w.heap.size, 10, none⟩ = some (.slice σ.A10 n.forms.length σ.k10) := MM.cell_blk X.out rfl
  have c11 : wr.cell? ⟨w.heap.size, 11, none⟩ = some (.int .i64 n.clock) := MM.cell_blk X.out rfl
  have c12 : wr.cell? ⟨w.heap.size, 12, none⟩ = some (.int .i64 n.due) := MM.cell_blk X.out rfl
  by_cases hgt : n.commit < (a : Int)
  case neg =>
   have hgb : decide (n.commit < (a : Int)) = false := decide_eq_false hgt
   have HE := Hd (show n.commit = reachedN n from by
    rw [← HR.out]
    cases a with
    | zero => rfl
    | succ k => unfold reachedFrom; rw [if_pos (by omega)])
   clear hgt
   go_wp2_with fail
   go_ret
   exact ⟨MM.ret_int HE.out, HB.out⟩
  obtain ⟨k, rfl⟩ : ∃ k, a = k + 1 := ⟨a - 1, by omega⟩
  have hgb : decide (n.commit < (k : Int) + 1) = true := decide_eq_true (by omega)
  have c9 : wr.cell? ⟨w.heap.size, 9, none⟩ = some (.slice σ.A9 n.mtch.length σ.k9) := MM.cell_blk X.out rfl
  go_wp2_with fail
  go_loop [4, 5] (fun t4 t5 => ∃ j : Nat, j ≤ n.mtch.length ∧ t4 = .int .i64 (countG (n.mtch.take j) ((k : Int) + 1)) ∧ t5 = .int .i64 j) (fun _ t5 => n.mtch.length - (intOf t5).toNat)
  case atStart => exact ⟨0, by omega, rfl, rfl⟩
  case round =>
   obtain ⟨j, hj, rfl, rfl⟩ := hrel
   have hcl := countG_take_le n.mtch ((k : Int) + 1) j
   by_cases hlt : j < n.mtch.length
   ·have hts := countG_take_succ (x := (k : Int) + 1) hlt
    obtain ⟨_, A9', c9', ea, q1, _, r1⟩ := V.out.hm
    injection ea with ea1 _ ea2
    subst ea2
    obtain ⟨b9, o9, e9, _, _, g9⟩ := r1 (by omega)
    rw [e9] at ea1
    have hce := g9 _ _ (intsC_get hlt)
    clear c9 g9 r1 e9
    have c9 : wr.cell? ⟨w.heap.size, 9, none⟩ = some (.slice (some ⟨b9, o9, none⟩) n.mtch.length σ.k9) := by rw [← ea1]; exact MM.cell_blk X.out rfl
    have EA := Hd ea1
    clear ea1
    obtain ⟨x, hx⟩ : ∃ x, x = n.mtch.getD j 0 := ⟨_, rfl⟩
    rw [← hx] at hce hts
    clear hx
    by_cases hb : (k : Int) + 1 ≤ x
    ·have hbb : decide ((k : Int) + 1 ≤ x) = true := decide_eq_true hb
     have HT := Hd (show countG (n.mtch.take (j + 1)) ((k : Int) + 1) = countG (n.mtch.take j) ((k : Int) + 1) + 1 from by rw [hts, if_pos hb])
     clear hts hb
     go_wp2_with fail
     go_round
     case rel => (try ((repeat apply Exists.intro); refine ⟨?_, rfl⟩)); exact ⟨j + 1, by omega, by rw [HT.out]; go_num, by go_num⟩
     case measure => simp [intOf]; omega
    ·have hbb : decide ((k : Int) + 1 ≤ x) = false := decide_eq_false hb
     have HT := Hd (show countG (n.mtch.take (j + 1)) ((k : Int) + 1) = countG (n.mtch.take j) ((k : Int) + 1) from by rw [hts, if_neg hb]; rfl)
     clear hts hb
     go_wp2_with fail
     go_round
     case rel => (try ((repeat apply Exists.intro); refine ⟨?_, rfl⟩)); exact ⟨j + 1, by omega, by rw [HT.out], by go_num⟩
     case measure => simp [intOf]; omega
   ·obtain rfl : j = n.mtch.length := by omega
    rw [List.take_length] at hcl ⊢
    have HS := Hd (show reachedN n = if termAt n.log ((k : Int) + 1) = n.term ∧ n.votes.length < 2 * countG n.mtch ((k : Int) + 1) then ((k : Int) + 1) else reachedFrom n k from by
     rw [← HR.out]
     conv => lhs; unfold reachedFrom
     rw [if_neg (by omega)]
     simp)
    have hk1 : -1000000000 ≤ (k : Int) + 1 := by omega
    have hk2 : (k : Int) + 1 ≤ 1000000000 := by omega
    have HWR := Hd (show IntKind.i64.wrap (2 * (countG n.mtch ((k : Int) + 1) : Int)) = 2 * (countG n.mtch ((k : Int) + 1) : Int) from IntWalk.i64_in _ (by omega))
    clear HR hgt
    go_wp2_with fail
    by_cases hm : n.mtch.length < 2 * countG n.mtch ((k : Int) + 1)
    case neg =>
     have hmb : decide ((n.mtch.length : Int) < 2 * (countG n.mtch ((k : Int) + 1) : Int)) = false := decide_eq_false (by omega)
     have HE := Hd (show reachedN n = reachedFrom n k from by rw [HS.out, if_neg (fun h => hm (by rw [L3.out]; exact h.2))])
     have hmn : ¬ n.mtch.length < 2 * countG n.mtch ((k : Int) + 1) := hm
     have hwr := HWR.out
     refine wT (.p 0 (.p 1 (.p 2 (.s 3 (.p 4 (.p 5 (.p 6 (.s 7 (.p 8 (.p 10 (.s 11 (.w 9 [11] (.p 12 (.p 13 .nil)) .stop)))))))))))) (by kernel_rfl) (by kernel_rfl) ?_
     repeat ((first | refine sP rfl fun K hK => ?_ | refine sS rfl fun K hK => ?_); go_simp; refine hK _ ?_; clear hK K)
     (refine kW rfl rfl ?_ sT)
     (try simp only [Act.put, List.setIfInBounds_toArray, List.set_cons_zero, List.set_cons_succ])
     repeat ((first | refine sP rfl fun K hK => ?_ | refine sS rfl fun K hK => ?_); go_simp; refine hK _ ?_; clear hK K)
     refine sN ?_
     clear hwr
     go_wp2_with fail
     go_roundw
     case rel => (try ((repeat apply Exists.intro); refine ⟨?_, rfl⟩)); exact ⟨k, by omega, by simp, Hd HE.out.symm, X, Hd (V.out.step (fun _ _ _ => rfl)), Hd HB.out.drew⟩
     case measure => simp [intOf]
    have hmb : decide ((n.mtch.length : Int) < 2 * (countG n.mtch ((k : Int) + 1) : Int)) = true := decide_eq_true (by omega)
    by_cases ht : termAt n.log ((k : Int) + 1) = n.term
    ·have htb : (termAt n.log ((k : Int) + 1) == n.term) = true := by simpa using ht
     have HE := Hd (show (k : Int) + 1 = reachedN n from by rw [HS.out, if_pos ⟨ht, by rw [← L3.out]; exact hm⟩])
     clear ht
     have hwr := HWR.out
     refine wT (.p 0 (.p 1 (.p 2 (.s 3 (.p 4 (.p 5 (.p 6 (.s 7 (.p 8 (.p 10 (.s 11 (.w 9 [11] (.p 12 (.p 13 .nil)) .stop)))))))))))) (by kernel_rfl) (by kernel_rfl) ?_
     repeat ((first | refine sP rfl fun K hK => ?_ | refine sS rfl fun K hK => ?_); go_simp; refine hK _ ?_; clear hK K)
     refine sW rfl rfl (fun K hK => ?_) sT
     go_wp2_with fail
     refine (rterm_any _ _ n.log _ _ _ _ _ _ _ _ _ _ _ _ σ.A3 σ.k3 ((k : Int) + 1) hk1 hk2 V.out.hl.drew).mono ?_
     rintro e v2 ⟨rfl, hb2⟩
     have X2 := Hd ((hb2.block _ (MM.blk_lt X.out)).trans X.out)
     have V2 := Hd (V.out.step (w1 := v2) (fun k hk hlt => hb2.block k hlt))
     have HB2 := Hd (HB.out.drew.trans (hb2.mono HB.out.size))
     clear hb2
     have cx1 : v2.cell? ⟨w.heap.size, 1, none⟩ = some (.int .i64 n.term) := MM.cell_blk X2.out rfl
     go_wp2_with fail
     refine qN _ _ _ _ (hK _ _ ?_ ?_) <;> clear hK K
     ·repeat first | exact aN | refine aO rfl rfl ?_ | refine aI rfl (by go_simp <;> rfl) ?_
     repeat ((first | refine sP rfl fun K hK => ?_ | refine sS rfl fun K hK => ?_); go_simp; refine hK _ ?_; clear hK K)
     refine sN ?_
     clear hwr
     go_wp2_with fail
     go_ret
     exact ⟨MM.ret_int HE.out, HB2.out⟩
    ·have htb : (termAt n.log ((k : Int) + 1) == n.term) = false := by simpa using ht
     have HE := Hd (show reachedN n = reachedFrom n k from by rw [HS.out, if_neg (fun h => ht h.1)])
     clear ht
     have hwr := HWR.out
     refine wT (.p 0 (.p 1 (.p 2 (.s 3 (.p 4 (.p 5 (.p 6 (.s 7 (.p 8 (.p 10 (.s 11 (.w 9 [11] (.p 12 (.p 13 .nil)) .stop)))))))))))) (by kernel_rfl) (by kernel_rfl) ?_
     repeat ((first | refine sP rfl fun K hK => ?_ | refine sS rfl fun K hK => ?_); go_simp; refine hK _ ?_; clear hK K)
     refine sW rfl rfl (fun K hK => ?_) sT
     go_wp2_with fail
     refine (rterm_any _ _ n.log _ _ _ _ _ _ _ _ _ _ _ _ σ.A3 σ.k3 ((k : Int) + 1) hk1 hk2 V.out.hl.drew).mono ?_
     rintro e v2 ⟨rfl, hb2⟩
     have X2 := Hd ((hb2.block _ (MM.blk_lt X.out)).trans X.out)
     have V2 := Hd (V.out.step (w1 := v2) (fun k hk hlt => hb2.block k hlt))
     have HB2 := Hd (HB.out.drew.trans (hb2.mono HB.out.size))
     clear hb2
     have cx1 : v2.cell? ⟨w.heap.size, 1, none⟩ = some (.int .i64 n.term) := MM.cell_blk X2.out rfl
     go_wp2_with fail
     refine qN _ _ _ _ (hK _ _ ?_ ?_) <;> clear hK K
     ·repeat first | exact aN | refine aO rfl rfl ?_ | refine aI rfl (by go_simp <;> rfl) ?_
     repeat ((first | refine sP rfl fun K hK => ?_ | refine sS rfl fun K hK => ?_); go_simp; refine hK _ ?_; clear hK K)
     refine sN ?_
     clear hwr
     go_wp2_with fail
     go_roundw
     case rel => (try ((repeat apply Exists.intro); refine ⟨?_, rfl⟩)); exact ⟨k, by omega, by simp, Hd HE.out.symm, X2, V2, HB2⟩
     case measure => simp [intOf]
end Go.Proofs.Ytnkmljdkokcdjaa
