/-
  The document's asked answers as the plain voteS. Conditions: the lengths and numbers are bounded as the theorem says.
-/
import Derived.WalkKit
import Derived.WalkSpells
import Derived.Lib.Hide
import Derived.Outline
import Derived.Test.YtnkmljdkokcdjaaChecked
import Derived.Test.YtnkmljdkokcdjaaMn
import Derived.Test.YtnkmljdkokcdjaaMem
import Derived.Test.YtnkmljdkokcdjaaFed
import Derived.Test.YtnkmljdkokcdjaaRk1
import Derived.Test.YtnkmljdkokcdjaaRn3
import Derived.Test.YtnkmljdkokcdjaaRn4
import Derived.Test.YtnkmljdkokcdjaaRe0
import Derived.Deep.DeepCutAuto
import Derived.Deep.CutBlock
import Derived.Deep.OwnRows
import Derived.IntWalk
set_option linter.unusedVariables false
set_option linter.unusedSimpArgs false
namespace Go.Proofs.Ytnkmljdkokcdjaa
open Go.RowKit Fed
set_option linter.unusedVariables false
attribute [local go_sem high] Fed.max2_int Fed.min2_int

theorem size13 {w : World} {r : Nat} {u0 u1 u2 u3 u4 u5 u6 u7 u8 u9 u10 u11 u12 : Value} : (((((((((((((w.setCell ⟨r, 0, none⟩ u0).setCell ⟨r, 1, none⟩ u1).setCell ⟨r, 2, none⟩ u2).setCell ⟨r, 3, none⟩ u3).setCell ⟨r, 4, none⟩ u4).setCell ⟨r, 5, none⟩ u5).setCell ⟨r, 6, none⟩ u6).setCell ⟨r, 7, none⟩ u7).setCell ⟨r, 8, none⟩ u8).setCell ⟨r, 9, none⟩ u9).setCell ⟨r, 10, none⟩ u10).setCell ⟨r, 11, none⟩ u11).setCell ⟨r, 12, none⟩ u12).heap.size = w.heap.size := by
  have s : ∀ (w : World) (p : Addr) (u : Value), (w.setCell p u).heap.size = w.heap.size := fun w p u => by simp [World.setCell]
  rw [s, s, s, s, s, s, s, s, s, s, s, s, s]
theorem new13 {w : World} {r : Nat} {u0 u1 u2 u3 u4 u5 u6 u7 u8 u9 u10 u11 u12 : Value} (o : Obj) : ((((((((((((((w.setCell ⟨r, 0, none⟩ u0).setCell ⟨r, 1, none⟩ u1).setCell ⟨r, 2, none⟩ u2).setCell ⟨r, 3, none⟩ u3).setCell ⟨r, 4, none⟩ u4).setCell ⟨r, 5, none⟩ u5).setCell ⟨r, 6, none⟩ u6).setCell ⟨r, 7, none⟩ u7).setCell ⟨r, 8, none⟩ u8).setCell ⟨r, 9, none⟩ u9).setCell ⟨r, 10, none⟩ u10).setCell ⟨r, 11, none⟩ u11).setCell ⟨r, 12, none⟩ u12).alloc o).heap[w.heap.size]? = some o := by
  have h := MM.alloc_new (((((((((((((w.setCell ⟨r, 0, none⟩ u0).setCell ⟨r, 1, none⟩ u1).setCell ⟨r, 2, none⟩ u2).setCell ⟨r, 3, none⟩ u3).setCell ⟨r, 4, none⟩ u4).setCell ⟨r, 5, none⟩ u5).setCell ⟨r, 6, none⟩ u6).setCell ⟨r, 7, none⟩ u7).setCell ⟨r, 8, none⟩ u8).setCell ⟨r, 9, none⟩ u9).setCell ⟨r, 10, none⟩ u10).setCell ⟨r, 11, none⟩ u11).setCell ⟨r, 12, none⟩ u12) o
  rw [size13] at h
  exact h
theorem old13 {w : World} {r k : Nat} {u0 u1 u2 u3 u4 u5 u6 u7 u8 u9 u10 u11 u12 : Value} (o : Obj) (h : k < w.heap.size) : ((((((((((((((w.setCell ⟨r, 0, none⟩ u0).setCell ⟨r, 1, none⟩ u1).setCell ⟨r, 2, none⟩ u2).setCell ⟨r, 3, none⟩ u3).setCell ⟨r, 4, none⟩ u4).setCell ⟨r, 5, none⟩ u5).setCell ⟨r, 6, none⟩ u6).setCell ⟨r, 7, none⟩ u7).setCell ⟨r, 8, none⟩ u8).setCell ⟨r, 9, none⟩ u9).setCell ⟨r, 10, none⟩ u10).setCell ⟨r, 11, none⟩ u11).setCell ⟨r, 12, none⟩ u12).alloc o).heap[k]? = (((((((((((((w.setCell ⟨r, 0, none⟩ u0).setCell ⟨r, 1, none⟩ u1).setCell ⟨r, 2, none⟩ u2).setCell ⟨r, 3, none⟩ u3).setCell ⟨r, 4, none⟩ u4).setCell ⟨r, 5, none⟩ u5).setCell ⟨r, 6, none⟩ u6).setCell ⟨r, 7, none⟩ u7).setCell ⟨r, 8, none⟩ u8).setCell ⟨r, 9, none⟩ u9).setCell ⟨r, 10, none⟩ u10).setCell ⟨r, 11, none⟩ u11).setCell ⟨r, 12, none⟩ u12).heap[k]? := Below.heap_alloc _ o k (by rw [size13]; exact h)
theorem OutAt.one {w : World} {b B : Nat} {m : Fed.Msg} {A : Option Addr} {c : Nat} (h : w.heap[b]? = some (.cells #[.int .i64 m.kind, .int .i64 m.frm, .int .i64 m.to, .int .i64 m.term, .int .i64 m.index, .int .i64 m.logTerm, .bool m.ok, .slice A m.entries.length c, .int .i64 m.commit, .int .i64 m.form] 34 (0, 0))) (hB : B ≤ b) (he : MM.Rd w (fun k => B ≤ k ∧ MM.Ty w k 40) 2 (.slice A m.entries.length c) m.entries.length (entsC m.entries)) :
    OutAt w B (.slice (some ⟨b, 0, none⟩) 1 1) [m] (some b) :=
  ⟨msgC m (.slice A m.entries.length c), ⟨rfl, 1, _, rfl, hB, h, Nat.le_refl _, by simp [maxLen], rfl, by simp [msgC]⟩, MsgsR.one he⟩
set_option maxRecDepth 100000 in
set_option maxHeartbeats 40000000 in
theorem rasked_any (w : World) (B : Nat) (n : Fed.Node) (σ : Sl5) (ω : O5) (h : NodeOs w B n σ ω) (hB : B ≤ w.heap.size) (m : Fed.Msg) (A : Option Addr) (c : Nat) (l1 : n.log.length ≤ 1000000) (hi0 : -1000000000 ≤ n.id) (hi1 : n.id ≤ 1000000000) (hc0 : -1000000000 ≤ n.clock) (hc1 : n.clock ≤ 1000000000) :
    Calls Try.prog 113 #[.agg #[.int .i64 n.id, .int .i64 n.term, .int .i64 n.vote, .slice σ.A3 n.log.length σ.k3, .int .i64 n.form, .int .i64 n.role, .int .i64 n.commit, .slice σ.A7 n.votes.length σ.k7, .slice σ.A8 n.nxt.length σ.k8, .slice σ.A9 n.mtch.length σ.k9, .slice σ.A10 n.forms.length σ.k10, .int .i64 n.clock, .int .i64 n.due], .agg #[.int .i64 m.kind, .int .i64 m.frm, .int .i64 m.to, .int .i64 m.term, .int .i64 m.index, .int .i64 m.logTerm, .bool m.ok, .slice A m.entries.length c, .int .i64 m.commit, .int .i64 m.form]] w fun e w' => ∃ τ υ A c ob, e = .returned (.tuple #[.agg #[.int .i64 (voteS ⟨n, []⟩ m).n.id, .int .i64 (voteS ⟨n, []⟩ m).n.term, .int .i64 (voteS ⟨n, []⟩ m).n.vote, .slice τ.A3 (voteS ⟨n, []⟩ m).n.log.length τ.k3, .int .i64 (voteS ⟨n, []⟩ m).n.form, .int .i64 (voteS ⟨n, []⟩ m).n.role, .int .i64 (voteS ⟨n, []⟩ m).n.commit, .slice τ.A7 (voteS ⟨n, []⟩ m).n.votes.length τ.k7, .slice τ.A8 (voteS ⟨n, []⟩ m).n.nxt.length τ.k8, .slice τ.A9 (voteS ⟨n, []⟩ m).n.mtch.length τ.k9, .slice τ.A10 (voteS ⟨n, []⟩ m).n.forms.length τ.k10, .int .i64 (voteS ⟨n, []⟩ m).n.clock, .int .i64 (voteS ⟨n, []⟩ m).n.due], .slice A (voteS ⟨n, []⟩ m).out.length c]) ∧ NodeOs w' B (voteS ⟨n, []⟩ m).n τ υ ∧ OutAt w' B (.slice A (voteS ⟨n, []⟩ m).out.length c) (voteS ⟨n, []⟩ m).out ob ∧ Below B w w' ∧ Kp w w' := by
  obtain ⟨ok, hok⟩ : ∃ x, voteOk n m = x := ⟨_, rfl⟩
  have H := Lib.hid h
  have HOK := Lib.hid hok
  clear h hok
  go_enter Try.func113, Try.ntmps113
  go_upto_region 1 with (fail)
  refine name_world (F := fun W => Hid (NB W B w.heap.size n σ ω) ∧ Hid (W.heap[w.heap.size + 1]? = some (.cells #[.int .i64 m.kind, .int .i64 m.frm, .int .i64 m.to, .int .i64 m.term, .int .i64 m.index, .int .i64 m.logTerm, .bool m.ok, .slice A m.entries.length c, .int .i64 m.commit, .int .i64 m.form] 34 (0, 0))) ∧ Hid (W.heap[w.heap.size + 2]? = some (.cells #[.int .i64 0, .int .i64 0, .int .i64 0, .slice none 0 0, .int .i64 0, .int .i64 0, .int .i64 0, .slice none 0 0, .slice none 0 0, .slice none 0 0, .slice none 0 0, .int .i64 0, .int .i64 0] 28 (0, 0))) ∧ Hid (Below B w W) ∧ Hid (Kp w W)) _ ⟨Lib.hid (⟨hB, (Below.heap_alloc _ _ _ (by simp; omega)).trans ((Below.heap_alloc _ _ _ (by simp)).trans (MM.alloc_new w _)), ((H.out.alloc _).alloc _).alloc _⟩), Lib.hid (alloc_mid w _ _ _), Lib.hid (alloc_new2 w _ _ _), Lib.hid ((((Below.refl B w).alloc hB _).alloc (by simp; omega) _).alloc (by simp; omega) _), Lib.hid (Kp.old (fun k hk => (Below.heap_alloc _ _ k (by simp; omega)).trans ((Below.heap_alloc _ _ k (by simp; omega)).trans (Below.heap_alloc w _ k hk))))⟩ ?_
  clear H
  intro w1 ⟨N, M, Y, HB, HK⟩
  obtain ⟨c0, c1, c2, c3, c4, c5, c6, c7, c8, c9, c10, c11, c12⟩ := MM.cells13 N.out.blk
  go_wp2_with fail
  refine (rterm_any _ _ n.log _ _ _ _ _ _ _ _ _ _ _ _ σ.A3 σ.k3 (n.log.length : Int) (by omega) (by omega) N.out.toV.hl).mono ?_
  rintro e w2 ⟨rfl, hb2⟩
  have N2 := Lib.hid (N.out.below hb2)
  have M2 := Lib.hid ((hb2.block _ (MM.blk_lt M.out)).trans M.out)
  have Y2 := Lib.hid ((hb2.block _ (MM.blk_lt Y.out)).trans Y.out)
  have HB2 := Lib.hid (HB.out.trans (hb2.mono (Nat.le_trans hB HB.out.size)))
  have HK2 := Lib.hid (HK.out.trans (Kp.old (fun k hk => hb2.block k hk)))
  clear hb2 N M Y HB HK c0 c1 c2 c3 c4 c5 c6 c7 c8 c9 c10 c11 c12
  have c1 : w2.cell? ⟨w.heap.size, 1, none⟩ = some (.int .i64 n.term) := N2.out.c 1 _ rfl
  have c2 : w2.cell? ⟨w.heap.size, 2, none⟩ = some (.int .i64 n.vote) := N2.out.c 2 _ rfl
  have c3 : w2.cell? ⟨w.heap.size, 3, none⟩ = some (.slice σ.A3 n.log.length σ.k3) := N2.out.c 3 _ rfl
  have d1 : w2.cell? ⟨w.heap.size + 1, 1, none⟩ = some (.int .i64 m.frm) := MM.cell_blk M2.out rfl
  have d3 : w2.cell? ⟨w.heap.size + 1, 3, none⟩ = some (.int .i64 m.term) := MM.cell_blk M2.out rfl
  have d4 : w2.cell? ⟨w.heap.size + 1, 4, none⟩ = some (.int .i64 m.index) := MM.cell_blk M2.out rfl
  have d5 : w2.cell? ⟨w.heap.size + 1, 5, none⟩ = some (.int .i64 m.logTerm) := MM.cell_blk M2.out rfl
  go_upto_region 2 with (fail)
  go_cut [7] (fun t7 wc => t7 = .bool ok ∧ w2 = wc)
  case first => as_aux_lemma =>
    have hv := HOK.out
    unfold voteOk at hv
    clear HOK
    by_cases h1 : m.term = n.term
    case neg =>
      have g1 : (m.term == n.term) = false := by simpa using h1
      obtain rfl : ok = false := by rw [← hv]; simp [h1]
      clear hv h1
      go_wp2_with fail
      go_meet
      case rel => exact ⟨rfl, rfl⟩
    have g1 : (m.term == n.term) = true := by simpa using h1
    rw [decide_eq_true h1, Bool.true_and] at hv
    clear h1
    by_cases h2 : n.vote = -1 ∨ n.vote = m.frm
    case neg =>
      have g2 : (n.vote == -1) = false := by simp; omega
      have g3 : (n.vote == m.frm) = false := by simp; omega
      obtain rfl : ok = false := by rw [← hv, decide_eq_false (show ¬ n.vote = -1 by omega), decide_eq_false (show ¬ n.vote = m.frm by omega)]; simp
      clear hv h2
      go_wp2_with fail
      go_meet
      case rel => exact ⟨rfl, rfl⟩
    have hv2 : (decide (termAt n.log n.log.length < m.logTerm) || (decide (m.logTerm = termAt n.log n.log.length) && decide ((n.log.length : Int) ≤ m.index))) = ok := by
      rw [← hv]
      rcases h2 with h2 | h2 <;> simp [h2]
    clear hv
    obtain ⟨t, ht⟩ : ∃ t, t = termAt n.log n.log.length := ⟨_, rfl⟩
    rw [← ht] at hv2 ⊢
    have HTT := Lib.hid ht
    clear ht
    have h2' : n.vote = -1 ∨ (n.vote ≠ -1 ∧ n.vote = m.frm) := by omega
    clear h2
    have h3 : t < m.logTerm ∨ (¬ t < m.logTerm ∧ m.logTerm = t ∧ (n.log.length : Int) ≤ m.index) ∨ (¬ t < m.logTerm ∧ m.logTerm = t ∧ ¬ (n.log.length : Int) ≤ m.index) ∨ (¬ t < m.logTerm ∧ ¬ m.logTerm = t) := by omega
    rcases h2' with h2 | ⟨h2, h2b⟩
    · have g2 : (n.vote == -1) = true := by simpa using h2
      clear h2
      rcases h3 with h3 | ⟨h3, h4, h5⟩ | ⟨h3, h4, h5⟩ | ⟨h3, h4⟩
      · have g3 : decide (t < m.logTerm) = true := decide_eq_true h3
        obtain rfl : ok = true := by rw [← hv2, g3]; rfl
        clear hv2 h3
        go_wp2_with fail
        (have ht9 := HTT.out; subst ht9)
        go_meet
        case rel => exact ⟨rfl, rfl⟩
      · have g3 : decide (t < m.logTerm) = false := decide_eq_false h3
        have g4 : (m.logTerm == t) = true := by simpa using h4
        have g5 : decide ((n.log.length : Int) ≤ m.index) = true := decide_eq_true h5
        obtain rfl : ok = true := by rw [← hv2, g3, decide_eq_true h4, g5]; rfl
        clear hv2 h3 h4 h5
        go_wp2_with fail
        (have ht9 := HTT.out; subst ht9)
        go_meet
        case rel => exact ⟨rfl, rfl⟩
      · have g3 : decide (t < m.logTerm) = false := decide_eq_false h3
        have g4 : (m.logTerm == t) = true := by simpa using h4
        have g5 : decide ((n.log.length : Int) ≤ m.index) = false := decide_eq_false h5
        obtain rfl : ok = false := by rw [← hv2, g3, decide_eq_true h4, g5]; rfl
        clear hv2 h3 h4 h5
        go_wp2_with fail
        (have ht9 := HTT.out; subst ht9)
        go_meet
        case rel => exact ⟨rfl, rfl⟩
      · have g3 : decide (t < m.logTerm) = false := decide_eq_false h3
        have g4 : (m.logTerm == t) = false := by simpa using h4
        obtain rfl : ok = false := by rw [← hv2, g3, decide_eq_false h4]; rfl
        clear hv2 h3 h4
        go_wp2_with fail
        (have ht9 := HTT.out; subst ht9)
        go_meet
        case rel => exact ⟨rfl, rfl⟩
    · have g2 : (n.vote == -1) = false := by simpa using h2
      have g2b : (n.vote == m.frm) = true := by simpa using h2b
      clear h2 h2b
      rcases h3 with h3 | ⟨h3, h4, h5⟩ | ⟨h3, h4, h5⟩ | ⟨h3, h4⟩
      · have g3 : decide (t < m.logTerm) = true := decide_eq_true h3
        obtain rfl : ok = true := by rw [← hv2, g3]; rfl
        clear hv2 h3
        go_wp2_with fail
        (have ht9 := HTT.out; subst ht9)
        go_meet
        case rel => exact ⟨rfl, rfl⟩
      · have g3 : decide (t < m.logTerm) = false := decide_eq_false h3
        have g4 : (m.logTerm == t) = true := by simpa using h4
        have g5 : decide ((n.log.length : Int) ≤ m.index) = true := decide_eq_true h5
        obtain rfl : ok = true := by rw [← hv2, g3, decide_eq_true h4, g5]; rfl
        clear hv2 h3 h4 h5
        go_wp2_with fail
        (have ht9 := HTT.out; subst ht9)
        go_meet
        case rel => exact ⟨rfl, rfl⟩
      · have g3 : decide (t < m.logTerm) = false := decide_eq_false h3
        have g4 : (m.logTerm == t) = true := by simpa using h4
        have g5 : decide ((n.log.length : Int) ≤ m.index) = false := decide_eq_false h5
        obtain rfl : ok = false := by rw [← hv2, g3, decide_eq_true h4, g5]; rfl
        clear hv2 h3 h4 h5
        go_wp2_with fail
        (have ht9 := HTT.out; subst ht9)
        go_meet
        case rel => exact ⟨rfl, rfl⟩
      · have g3 : decide (t < m.logTerm) = false := decide_eq_false h3
        have g4 : (m.logTerm == t) = false := by simpa using h4
        obtain rfl : ok = false := by rw [← hv2, g3, decide_eq_false h4]; rfl
        clear hv2 h3 h4
        go_wp2_with fail
        (have ht9 := HTT.out; subst ht9)
        go_meet
        case rel => exact ⟨rfl, rfl⟩
  case rest =>
    obtain ⟨rfl, rfl⟩ := hcut
    clear c1 c2 c3 d1 d3 d4 d5
    cases ok
    case false =>
      have HE := Lib.hid (show voteS ⟨n, []⟩ m = ⟨n, [votedMsg n m.frm false]⟩ from by unfold voteS; rw [if_neg (by rw [HOK.out]; decide)]; rfl)
      clear HOK
      go_wp2_with fail
      refine Go.RT.wp_region_tree [0, 0, 2, 0, 8, 0, 32, 0, 254, 510, 1, 2047] (.s 0 (.p 1 (.s 2 (.p 3 (.s 4 (.p 5 (.s 6 (.p 7 (.p 8 (.w 9 [0] (.w 10 [2, 4, 6] (.w 11 [] .nil .stop) .stop) (.w 10 [2, 4, 6] (.w 9 [0] (.w 11 [] .nil .stop) .stop) .stop))))))))))) (by kernel_rfl) (by kernel_rfl) ?_
      refine name_world (F := fun W => Hid (NB W B w.heap.size n σ ω) ∧ Hid (W.heap[w.heap.size + 2]? = some (.cells #[.int .i64 0, .int .i64 0, .int .i64 0, .slice none 0 0, .int .i64 0, .int .i64 0, .int .i64 0, .slice none 0 0, .slice none 0 0, .slice none 0 0, .slice none 0 0, .int .i64 0, .int .i64 0] 28 (0, 0))) ∧ Hid (Below B w W) ∧ Hid (Kp w W) ∧ Hid (W.heap[w.heap.size + 1]? = some (.cells #[.int .i64 m.kind, .int .i64 m.frm, .int .i64 m.to, .int .i64 m.term, .int .i64 m.index, .int .i64 m.logTerm, .bool m.ok, .slice A m.entries.length c, .int .i64 m.commit, .int .i64 m.form] 34 (0, 0)))) _ ⟨Lib.hid (N2.out.drew), Lib.hid (Y2.out), Lib.hid (HB2.out.drew), Lib.hid (HK2.out), Lib.hid (M2.out)⟩ ?_
      intro w2d ⟨Nd, Yd, HBd, HKd, Md⟩
      obtain ⟨cd0, cd1, cd2, cd3, cd4, cd5, cd6, cd7, cd8, cd9, cd10, cd11, cd12⟩ := MM.cells13 Nd.out.blk
      obtain ⟨yd0, yd1, yd2, yd3, yd4, yd5, yd6, yd7, yd8, yd9, yd10, yd11, yd12⟩ := MM.cells13 Yd.out
      obtain ⟨zd0, zd1, zd2, zd3, zd4, zd5, zd6, zd7, zd8, zd9, zd10, zd11, zd12⟩ := MM.frees13 Yd.out
      have dd1 : w2d.cell? ⟨w.heap.size + 1, 1, none⟩ = some (.int .i64 m.frm) := MM.cell_blk Md.out rfl
      have hsz : w.heap.size + 2 < w2d.heap.size := MM.blk_lt Yd.out
      have hsz1 : w.heap.size + 1 < w2d.heap.size := by omega
      have hsz0 : w.heap.size < w2d.heap.size := by omega
      have hBs : B ≤ w2d.heap.size := by omega
      have hBr : B ≤ w.heap.size + 2 := by omega
      have hwr : w.heap.size ≤ w.heap.size + 2 := by omega
      have hne9 : w2d.heap.size ≠ w.heap.size + 2 := by omega
      repeat (first | (refine Go.RT.step_p rfl (fun K hK => ?_); go_simp; refine hK _ ?_; clear hK K) | (refine Go.RT.step_s rfl (fun K hK => ?_); go_simp; refine hK _ ?_; clear hK K))
      (refine Go.RT.step_w rfl rfl (fun K hK => ?_) ?_)
      · go_wp2_with fail
        refine Go.RT.QK_normal _ _ _ _ (hK _ _ ?_ ?_) <;> clear hK K
        · repeat (first | exact Go.RT.again_nil | (refine Go.RT.again_not rfl rfl ?_) | (refine Go.RT.again_one rfl (by go_simp <;> rfl) ?_))
        (refine Go.RT.step_w rfl rfl (fun K hK => ?_) Go.RT.step_stop)
        go_wp2
        refine Go.RT.QK_normal _ _ _ _ (hK _ _ ?_ ?_) <;> clear hK K
        · repeat (first | exact Go.RT.again_nil | (refine Go.RT.again_not rfl rfl ?_) | (refine Go.RT.again_one rfl (by go_simp <;> rfl) ?_))
        (refine Go.RT.step_w rfl rfl (fun K hK => ?_) Go.RT.step_stop)
        go_wp2
        refine Go.RT.QK_normal _ _ _ _ (hK _ _ ?_ ?_) <;> clear hK K
        · repeat (first | exact Go.RT.again_nil | (refine Go.RT.again_not rfl rfl ?_) | (refine Go.RT.again_one rfl (by go_simp <;> rfl) ?_))
        refine Go.RT.step_nil ?_
        go_wp2_with fail
        refine name_world (F := fun W => Hid (W.heap[w.heap.size + 2]? = some (.cells #[.int .i64 n.id, .int .i64 n.term, .int .i64 n.vote, .slice σ.A3 n.log.length σ.k3, .int .i64 n.form, .int .i64 n.role, .int .i64 n.commit, .slice σ.A7 n.votes.length σ.k7, .slice σ.A8 n.nxt.length σ.k8, .slice σ.A9 n.mtch.length σ.k9, .slice σ.A10 n.forms.length σ.k10, .int .i64 n.clock, .int .i64 n.due] 28 (0, 0))) ∧ Hid (NodeOs W B n σ ω) ∧ Hid (Below B w W) ∧ Hid (Kp w W) ∧ Hid (W.heap[w2d.heap.size]? = some (.cells #[.int .i64 2, .int .i64 n.id, .int .i64 m.frm, .int .i64 n.term, .int .i64 0, .int .i64 0, .bool false, .slice none 0 0, .int .i64 0, .int .i64 0] 34 (0, 0)))) _ ⟨Lib.hid ((old13 _ (MM.blk_lt Yd.out)).trans ((set13 Yd.out).trans rfl)), Lib.hid (((Nd.out.rows.types (fun k t hk ht' => far13 (ty_ne hk ⟨_, _, Yd.out⟩ (by rcases ht' with rfl | rfl | rfl <;> decide)))).step (fun k _ hk => Below.heap_alloc _ _ k hk))), Lib.hid ((below13 HBd.out hBr).alloc (by rw [size13]; exact hBs) _), Lib.hid ((HKd.out.new13 hwr).trans (Kp.old (fun k hk => Below.heap_alloc _ _ k hk))), Lib.hid (new13 _)⟩ ?_
        intro wf ⟨Y9, N9, B9, K9, O9⟩
        obtain ⟨u0, u1, u2, u3, u4, u5, u6, u7, u8, u9, u10, u11, u12⟩ := MM.cells13 Y9.out
        refine bodyPost_ret (v := .tuple #[.agg #[.int .i64 n.id, .int .i64 n.term, .int .i64 n.vote, .slice σ.A3 n.log.length σ.k3, .int .i64 n.form, .int .i64 n.role, .int .i64 n.commit, .slice σ.A7 n.votes.length σ.k7, .slice σ.A8 n.nxt.length σ.k8, .slice σ.A9 n.mtch.length σ.k9, .slice σ.A10 n.forms.length σ.k10, .int .i64 n.clock, .int .i64 n.due], .slice (some ⟨w2d.heap.size, 0, none⟩) 1 1]) (by simp [results, Try.results113, go_sem, u0, u1, u2, u3, u4, u5, u6, u7, u8, u9, u10, u11, u12]) rfl ?_
        rw [HE.out]
        exact ⟨σ, ω, _, _, _, rfl, N9.out, OutAt.one (m := votedMsg n m.frm false) (A := none) (c := 0) O9.out hBs (MM.Rd.nil _ _ _ _ _ (by simp [maxLen])), B9.out, K9.out⟩
      (refine Go.RT.step_w rfl rfl (fun K hK => ?_) Go.RT.step_stop)
      go_wp2
      refine Go.RT.QK_normal _ _ _ _ (hK _ _ ?_ ?_) <;> clear hK K
      · repeat (first | exact Go.RT.again_nil | (refine Go.RT.again_not rfl rfl ?_) | (refine Go.RT.again_one rfl (by go_simp <;> rfl) ?_))
      (refine Go.RT.step_w rfl rfl (fun K hK => ?_) Go.RT.step_stop)
      go_wp2_with fail
      refine Go.RT.QK_normal _ _ _ _ (hK _ _ ?_ ?_) <;> clear hK K
      · repeat (first | exact Go.RT.again_nil | (refine Go.RT.again_not rfl rfl ?_) | (refine Go.RT.again_one rfl (by go_simp <;> rfl) ?_))
      (refine Go.RT.step_w rfl rfl (fun K hK => ?_) Go.RT.step_stop)
      go_wp2
      refine Go.RT.QK_normal _ _ _ _ (hK _ _ ?_ ?_) <;> clear hK K
      · repeat (first | exact Go.RT.again_nil | (refine Go.RT.again_not rfl rfl ?_) | (refine Go.RT.again_one rfl (by go_simp <;> rfl) ?_))
      refine Go.RT.step_nil ?_
      go_wp2_with fail
      refine name_world (F := fun W => Hid (W.heap[w.heap.size + 2]? = some (.cells #[.int .i64 n.id, .int .i64 n.term, .int .i64 n.vote, .slice σ.A3 n.log.length σ.k3, .int .i64 n.form, .int .i64 n.role, .int .i64 n.commit, .slice σ.A7 n.votes.length σ.k7, .slice σ.A8 n.nxt.length σ.k8, .slice σ.A9 n.mtch.length σ.k9, .slice σ.A10 n.forms.length σ.k10, .int .i64 n.clock, .int .i64 n.due] 28 (0, 0))) ∧ Hid (NodeOs W B n σ ω) ∧ Hid (Below B w W) ∧ Hid (Kp w W) ∧ Hid (W.heap[w2d.heap.size]? = some (.cells #[.int .i64 2, .int .i64 n.id, .int .i64 m.frm, .int .i64 n.term, .int .i64 0, .int .i64 0, .bool false, .slice none 0 0, .int .i64 0, .int .i64 0] 34 (0, 0)))) _ ⟨Lib.hid ((old13 _ (MM.blk_lt Yd.out)).trans ((set13 Yd.out).trans rfl)), Lib.hid (((Nd.out.rows.types (fun k t hk ht' => far13 (ty_ne hk ⟨_, _, Yd.out⟩ (by rcases ht' with rfl | rfl | rfl <;> decide)))).step (fun k _ hk => Below.heap_alloc _ _ k hk))), Lib.hid ((below13 HBd.out hBr).alloc (by rw [size13]; exact hBs) _), Lib.hid ((HKd.out.new13 hwr).trans (Kp.old (fun k hk => Below.heap_alloc _ _ k hk))), Lib.hid (new13 _)⟩ ?_
      intro wf ⟨Y9, N9, B9, K9, O9⟩
      obtain ⟨u0, u1, u2, u3, u4, u5, u6, u7, u8, u9, u10, u11, u12⟩ := MM.cells13 Y9.out
      refine bodyPost_ret (v := .tuple #[.agg #[.int .i64 n.id, .int .i64 n.term, .int .i64 n.vote, .slice σ.A3 n.log.length σ.k3, .int .i64 n.form, .int .i64 n.role, .int .i64 n.commit, .slice σ.A7 n.votes.length σ.k7, .slice σ.A8 n.nxt.length σ.k8, .slice σ.A9 n.mtch.length σ.k9, .slice σ.A10 n.forms.length σ.k10, .int .i64 n.clock, .int .i64 n.due], .slice (some ⟨w2d.heap.size, 0, none⟩) 1 1]) (by simp [results, Try.results113, go_sem, u0, u1, u2, u3, u4, u5, u6, u7, u8, u9, u10, u11, u12]) rfl ?_
      rw [HE.out]
      exact ⟨σ, ω, _, _, _, rfl, N9.out, OutAt.one (m := votedMsg n m.frm false) (A := none) (c := 0) O9.out hBs (MM.Rd.nil _ _ _ _ _ (by simp [maxLen])), B9.out, K9.out⟩
    case true =>
      have HE0 := Lib.hid (show voteS ⟨n, []⟩ m = ⟨voteN n m, [votedMsg (voteN n m) m.frm true]⟩ from by unfold voteS; rw [if_pos HOK.out]; rfl)
      clear HOK
      obtain ⟨c0, c1, c2, c3, c4, c5, c6, c7, c8, c9, c10, c11, c12⟩ := MM.cells13 N2.out.blk
      have g2 : w2.frozen? ⟨w.heap.size, 2, none⟩ = false := N2.out.fr 2
      have g12 : w2.frozen? ⟨w.heap.size, 12, none⟩ = false := N2.out.fr 12
      have d1 : w2.cell? ⟨w.heap.size + 1, 1, none⟩ = some (.int .i64 m.frm) := MM.cell_blk M2.out rfl
      go_wp2_with fail
      refine Go.RT.wp_region_tree [0, 1, 0, 4, 7, 31, 63, 127] (.p 0 (.s 1 (.s 2 (.p 4 (.w 3 [1] (.w 5 [] (.p 6 (.w 7 [] .nil .stop)) .stop) .stop))))) (by kernel_rfl) (by kernel_rfl) ?_
      repeat (first | (refine Go.RT.step_p rfl (fun K hK => ?_); go_simp; refine hK _ ?_; clear hK K) | (refine Go.RT.step_s rfl (fun K hK => ?_); go_simp; refine hK _ ?_; clear hK K))
      (refine Go.RT.step_w rfl rfl (fun K hK => ?_) Go.RT.step_stop)
      go_wp2_with fail
      refine (rdue_any _ n.id n.clock _ _ _ _ _ _ _ _ _ _ _ (by omega) (by omega) (by omega) (by omega)).mono ?_
      rintro e w3 ⟨rfl, hb3⟩
      have N3 := Lib.hid (N2.out.drew.below hb3)
      have M3 := Lib.hid ((hb3.block _ (MM.blk_lt M2.out)).trans M2.out)
      have Y3 := Lib.hid ((hb3.block _ (MM.blk_lt Y2.out)).trans Y2.out)
      have HB3 := Lib.hid (HB2.out.drew.trans (hb3.mono (Nat.le_trans hB HB2.out.size)))
      have HK3 := Lib.hid (HK2.out.trans (Kp.old (fun k hk => hb3.block k hk)))
      clear hb3
      have ce2 : w3.cell? ⟨w.heap.size, 2, none⟩ = some (.int .i64 n.vote) := N3.out.c 2 _ rfl
      have ce12 : w3.cell? ⟨w.heap.size, 12, none⟩ = some (.int .i64 n.due) := N3.out.c 12 _ rfl
      have ge2 : w3.frozen? ⟨w.heap.size, 2, none⟩ = false := N3.out.fr 2
      have ge12 : w3.frozen? ⟨w.heap.size, 12, none⟩ = false := N3.out.fr 12
      have de1 : w3.cell? ⟨w.heap.size + 1, 1, none⟩ = some (.int .i64 m.frm) := MM.cell_blk M3.out rfl
      go_wp2_with fail
      refine Go.RT.QK_normal _ _ _ _ (hK _ _ ?_ ?_) <;> clear hK K
      · repeat (first | exact Go.RT.again_nil | (refine Go.RT.again_not rfl rfl ?_) | (refine Go.RT.again_one rfl (by go_simp <;> rfl) ?_))
      (refine Go.RT.step_w rfl rfl (fun K hK => ?_) Go.RT.step_stop)
      go_wp2
      refine Go.RT.QK_normal _ _ _ _ (hK _ _ ?_ ?_) <;> clear hK K
      · repeat (first | exact Go.RT.again_nil | (refine Go.RT.again_not rfl rfl ?_) | (refine Go.RT.again_one rfl (by go_simp <;> rfl) ?_))
      repeat (first | (refine Go.RT.step_p rfl (fun K hK => ?_); go_simp; refine hK _ ?_; clear hK K) | (refine Go.RT.step_s rfl (fun K hK => ?_); go_simp; refine hK _ ?_; clear hK K))
      (refine Go.RT.step_w rfl rfl (fun K hK => ?_) Go.RT.step_stop)
      go_wp2
      refine Go.RT.QK_normal _ _ _ _ (hK _ _ ?_ ?_) <;> clear hK K
      · repeat (first | exact Go.RT.again_nil | (refine Go.RT.again_not rfl rfl ?_) | (refine Go.RT.again_one rfl (by go_simp <;> rfl) ?_))
      refine Go.RT.step_nil ?_
      go_wp2_with fail
      refine name_world (F := fun W => Hid (NB W B w.heap.size { n with vote := m.frm, due := n.clock + 5 + 2 * n.id } σ ω) ∧ Hid (W.heap[w.heap.size + 1]? = some (.cells #[.int .i64 m.kind, .int .i64 m.frm, .int .i64 m.to, .int .i64 m.term, .int .i64 m.index, .int .i64 m.logTerm, .bool m.ok, .slice A m.entries.length c, .int .i64 m.commit, .int .i64 m.form] 34 (0, 0))) ∧ Hid (W.heap[w.heap.size + 2]? = some (.cells #[.int .i64 0, .int .i64 0, .int .i64 0, .slice none 0 0, .int .i64 0, .int .i64 0, .int .i64 0, .slice none 0 0, .slice none 0 0, .slice none 0 0, .slice none 0 0, .int .i64 0, .int .i64 0] 28 (0, 0))) ∧ Hid (Below B w W) ∧ Hid (Kp w W)) _ ⟨Lib.hid ((N3.out.set (n' := { n with vote := m.frm }) rfl ⟨rfl, rfl, rfl, rfl, rfl⟩).set rfl ⟨rfl, rfl, rfl, rfl, rfl⟩), Lib.hid ((Below.heap_setCell _ _ _ _ (by show w.heap.size + 1 ≠ w.heap.size; omega)).trans ((Below.heap_setCell _ _ _ _ (by show w.heap.size + 1 ≠ w.heap.size; omega)).trans M3.out)), Lib.hid ((Below.heap_setCell _ _ _ _ (by show w.heap.size + 2 ≠ w.heap.size; omega)).trans ((Below.heap_setCell _ _ _ _ (by show w.heap.size + 2 ≠ w.heap.size; omega)).trans Y3.out)), Lib.hid ((HB3.out.setCell hB _).setCell hB _), Lib.hid ((HK3.out.new (Nat.le_refl _) _).new (Nat.le_refl _) _)⟩ ?_
      intro w4 ⟨N4, M4, Y4, HB4, HK4⟩
      have HV := Lib.hid (show voteN n m = { n with vote := m.frm, due := n.clock + 5 + 2 * n.id } from rfl)
      obtain ⟨n1, hn1⟩ : ∃ x : Fed.Node, x = { n with vote := m.frm, due := n.clock + 5 + 2 * n.id } := ⟨_, rfl⟩
      rw [← hn1] at N4 HV
      have HEn1 := Lib.hid hn1
      clear hn1
      have HE := Lib.hid (show voteS ⟨n, []⟩ m = ⟨n1, [votedMsg n1 m.frm true]⟩ from by rw [HE0.out, HV.out])
      clear N2 M2 Y2 HB2 HK2 N3 M3 Y3 HB3 HK3 HE0
      clear c0 c1 c2 c3 c4 c5 c6 c7 c8 c9 c10 c11 c12 g2 g12 d1
      go_wp2_with fail
      refine Go.RT.wp_region_tree [0, 0, 2, 0, 8, 0, 32, 0, 254, 510, 1, 2047] (.s 0 (.p 1 (.s 2 (.p 3 (.s 4 (.p 5 (.s 6 (.p 7 (.p 8 (.w 9 [0] (.w 10 [2, 4, 6] (.w 11 [] .nil .stop) .stop) (.w 10 [2, 4, 6] (.w 9 [0] (.w 11 [] .nil .stop) .stop) .stop))))))))))) (by kernel_rfl) (by kernel_rfl) ?_
      refine name_world (F := fun W => Hid (NB W B w.heap.size n1 σ ω) ∧ Hid (W.heap[w.heap.size + 2]? = some (.cells #[.int .i64 0, .int .i64 0, .int .i64 0, .slice none 0 0, .int .i64 0, .int .i64 0, .int .i64 0, .slice none 0 0, .slice none 0 0, .slice none 0 0, .slice none 0 0, .int .i64 0, .int .i64 0] 28 (0, 0))) ∧ Hid (Below B w W) ∧ Hid (Kp w W) ∧ Hid (W.heap[w.heap.size + 1]? = some (.cells #[.int .i64 m.kind, .int .i64 m.frm, .int .i64 m.to, .int .i64 m.term, .int .i64 m.index, .int .i64 m.logTerm, .bool m.ok, .slice A m.entries.length c, .int .i64 m.commit, .int .i64 m.form] 34 (0, 0)))) _ ⟨Lib.hid (N4.out.drew), Lib.hid (Y4.out), Lib.hid (HB4.out.drew), Lib.hid (HK4.out), Lib.hid (M4.out)⟩ ?_
      intro w4d ⟨Nd, Yd, HBd, HKd, Md⟩
      obtain ⟨cd0, cd1, cd2, cd3, cd4, cd5, cd6, cd7, cd8, cd9, cd10, cd11, cd12⟩ := MM.cells13 Nd.out.blk
      obtain ⟨yd0, yd1, yd2, yd3, yd4, yd5, yd6, yd7, yd8, yd9, yd10, yd11, yd12⟩ := MM.cells13 Yd.out
      obtain ⟨zd0, zd1, zd2, zd3, zd4, zd5, zd6, zd7, zd8, zd9, zd10, zd11, zd12⟩ := MM.frees13 Yd.out
      have dd1 : w4d.cell? ⟨w.heap.size + 1, 1, none⟩ = some (.int .i64 m.frm) := MM.cell_blk Md.out rfl
      have hsz : w.heap.size + 2 < w4d.heap.size := MM.blk_lt Yd.out
      have hsz1 : w.heap.size + 1 < w4d.heap.size := by omega
      have hsz0 : w.heap.size < w4d.heap.size := by omega
      have hBs : B ≤ w4d.heap.size := by omega
      have hBr : B ≤ w.heap.size + 2 := by omega
      have hwr : w.heap.size ≤ w.heap.size + 2 := by omega
      have hne9 : w4d.heap.size ≠ w.heap.size + 2 := by omega
      repeat (first | (refine Go.RT.step_p rfl (fun K hK => ?_); go_simp; refine hK _ ?_; clear hK K) | (refine Go.RT.step_s rfl (fun K hK => ?_); go_simp; refine hK _ ?_; clear hK K))
      (refine Go.RT.step_w rfl rfl (fun K hK => ?_) ?_)
      · go_wp2_with fail
        refine Go.RT.QK_normal _ _ _ _ (hK _ _ ?_ ?_) <;> clear hK K
        · repeat (first | exact Go.RT.again_nil | (refine Go.RT.again_not rfl rfl ?_) | (refine Go.RT.again_one rfl (by go_simp <;> rfl) ?_))
        (refine Go.RT.step_w rfl rfl (fun K hK => ?_) Go.RT.step_stop)
        go_wp2
        refine Go.RT.QK_normal _ _ _ _ (hK _ _ ?_ ?_) <;> clear hK K
        · repeat (first | exact Go.RT.again_nil | (refine Go.RT.again_not rfl rfl ?_) | (refine Go.RT.again_one rfl (by go_simp <;> rfl) ?_))
        (refine Go.RT.step_w rfl rfl (fun K hK => ?_) Go.RT.step_stop)
        go_wp2
        refine Go.RT.QK_normal _ _ _ _ (hK _ _ ?_ ?_) <;> clear hK K
        · repeat (first | exact Go.RT.again_nil | (refine Go.RT.again_not rfl rfl ?_) | (refine Go.RT.again_one rfl (by go_simp <;> rfl) ?_))
        refine Go.RT.step_nil ?_
        go_wp2_with fail
        refine name_world (F := fun W => Hid (W.heap[w.heap.size + 2]? = some (.cells #[.int .i64 n1.id, .int .i64 n1.term, .int .i64 n1.vote, .slice σ.A3 n1.log.length σ.k3, .int .i64 n1.form, .int .i64 n1.role, .int .i64 n1.commit, .slice σ.A7 n1.votes.length σ.k7, .slice σ.A8 n1.nxt.length σ.k8, .slice σ.A9 n1.mtch.length σ.k9, .slice σ.A10 n1.forms.length σ.k10, .int .i64 n1.clock, .int .i64 n1.due] 28 (0, 0))) ∧ Hid (NodeOs W B n1 σ ω) ∧ Hid (Below B w W) ∧ Hid (Kp w W) ∧ Hid (W.heap[w4d.heap.size]? = some (.cells #[.int .i64 2, .int .i64 n1.id, .int .i64 m.frm, .int .i64 n1.term, .int .i64 0, .int .i64 0, .bool true, .slice none 0 0, .int .i64 0, .int .i64 0] 34 (0, 0)))) _ ⟨Lib.hid ((old13 _ (MM.blk_lt Yd.out)).trans ((set13 Yd.out).trans rfl)), Lib.hid (((Nd.out.rows.types (fun k t hk ht' => far13 (ty_ne hk ⟨_, _, Yd.out⟩ (by rcases ht' with rfl | rfl | rfl <;> decide)))).step (fun k _ hk => Below.heap_alloc _ _ k hk))), Lib.hid ((below13 HBd.out hBr).alloc (by rw [size13]; exact hBs) _), Lib.hid ((HKd.out.new13 hwr).trans (Kp.old (fun k hk => Below.heap_alloc _ _ k hk))), Lib.hid (new13 _)⟩ ?_
        intro wf ⟨Y9, N9, B9, K9, O9⟩
        obtain ⟨u0, u1, u2, u3, u4, u5, u6, u7, u8, u9, u10, u11, u12⟩ := MM.cells13 Y9.out
        refine bodyPost_ret (v := .tuple #[.agg #[.int .i64 n1.id, .int .i64 n1.term, .int .i64 n1.vote, .slice σ.A3 n1.log.length σ.k3, .int .i64 n1.form, .int .i64 n1.role, .int .i64 n1.commit, .slice σ.A7 n1.votes.length σ.k7, .slice σ.A8 n1.nxt.length σ.k8, .slice σ.A9 n1.mtch.length σ.k9, .slice σ.A10 n1.forms.length σ.k10, .int .i64 n1.clock, .int .i64 n1.due], .slice (some ⟨w4d.heap.size, 0, none⟩) 1 1]) (by simp [results, Try.results113, go_sem, u0, u1, u2, u3, u4, u5, u6, u7, u8, u9, u10, u11, u12]) rfl ?_
        rw [HE.out]
        exact ⟨σ, ω, _, _, _, rfl, N9.out, OutAt.one (m := votedMsg n1 m.frm true) (A := none) (c := 0) O9.out hBs (MM.Rd.nil _ _ _ _ _ (by simp [maxLen])), B9.out, K9.out⟩
      (refine Go.RT.step_w rfl rfl (fun K hK => ?_) Go.RT.step_stop)
      go_wp2
      refine Go.RT.QK_normal _ _ _ _ (hK _ _ ?_ ?_) <;> clear hK K
      · repeat (first | exact Go.RT.again_nil | (refine Go.RT.again_not rfl rfl ?_) | (refine Go.RT.again_one rfl (by go_simp <;> rfl) ?_))
      (refine Go.RT.step_w rfl rfl (fun K hK => ?_) Go.RT.step_stop)
      go_wp2_with fail
      refine Go.RT.QK_normal _ _ _ _ (hK _ _ ?_ ?_) <;> clear hK K
      · repeat (first | exact Go.RT.again_nil | (refine Go.RT.again_not rfl rfl ?_) | (refine Go.RT.again_one rfl (by go_simp <;> rfl) ?_))
      (refine Go.RT.step_w rfl rfl (fun K hK => ?_) Go.RT.step_stop)
      go_wp2
      refine Go.RT.QK_normal _ _ _ _ (hK _ _ ?_ ?_) <;> clear hK K
      · repeat (first | exact Go.RT.again_nil | (refine Go.RT.again_not rfl rfl ?_) | (refine Go.RT.again_one rfl (by go_simp <;> rfl) ?_))
      refine Go.RT.step_nil ?_
      go_wp2_with fail
      refine name_world (F := fun W => Hid (W.heap[w.heap.size + 2]? = some (.cells #[.int .i64 n1.id, .int .i64 n1.term, .int .i64 n1.vote, .slice σ.A3 n1.log.length σ.k3, .int .i64 n1.form, .int .i64 n1.role, .int .i64 n1.commit, .slice σ.A7 n1.votes.length σ.k7, .slice σ.A8 n1.nxt.length σ.k8, .slice σ.A9 n1.mtch.length σ.k9, .slice σ.A10 n1.forms.length σ.k10, .int .i64 n1.clock, .int .i64 n1.due] 28 (0, 0))) ∧ Hid (NodeOs W B n1 σ ω) ∧ Hid (Below B w W) ∧ Hid (Kp w W) ∧ Hid (W.heap[w4d.heap.size]? = some (.cells #[.int .i64 2, .int .i64 n1.id, .int .i64 m.frm, .int .i64 n1.term, .int .i64 0, .int .i64 0, .bool true, .slice none 0 0, .int .i64 0, .int .i64 0] 34 (0, 0)))) _ ⟨Lib.hid ((old13 _ (MM.blk_lt Yd.out)).trans ((set13 Yd.out).trans rfl)), Lib.hid (((Nd.out.rows.types (fun k t hk ht' => far13 (ty_ne hk ⟨_, _, Yd.out⟩ (by rcases ht' with rfl | rfl | rfl <;> decide)))).step (fun k _ hk => Below.heap_alloc _ _ k hk))), Lib.hid ((below13 HBd.out hBr).alloc (by rw [size13]; exact hBs) _), Lib.hid ((HKd.out.new13 hwr).trans (Kp.old (fun k hk => Below.heap_alloc _ _ k hk))), Lib.hid (new13 _)⟩ ?_
      intro wf ⟨Y9, N9, B9, K9, O9⟩
      obtain ⟨u0, u1, u2, u3, u4, u5, u6, u7, u8, u9, u10, u11, u12⟩ := MM.cells13 Y9.out
      refine bodyPost_ret (v := .tuple #[.agg #[.int .i64 n1.id, .int .i64 n1.term, .int .i64 n1.vote, .slice σ.A3 n1.log.length σ.k3, .int .i64 n1.form, .int .i64 n1.role, .int .i64 n1.commit, .slice σ.A7 n1.votes.length σ.k7, .slice σ.A8 n1.nxt.length σ.k8, .slice σ.A9 n1.mtch.length σ.k9, .slice σ.A10 n1.forms.length σ.k10, .int .i64 n1.clock, .int .i64 n1.due], .slice (some ⟨w4d.heap.size, 0, none⟩) 1 1]) (by simp [results, Try.results113, go_sem, u0, u1, u2, u3, u4, u5, u6, u7, u8, u9, u10, u11, u12]) rfl ?_
      rw [HE.out]
      exact ⟨σ, ω, _, _, _, rfl, N9.out, OutAt.one (m := votedMsg n1 m.frm true) (A := none) (c := 0) O9.out hBs (MM.Rd.nil _ _ _ _ _ (by simp [maxLen])), B9.out, K9.out⟩

end Go.Proofs.Ytnkmljdkokcdjaa
