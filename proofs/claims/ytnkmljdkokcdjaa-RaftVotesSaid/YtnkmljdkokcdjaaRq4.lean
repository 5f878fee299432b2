/-
  The law RaftVotes returns true, and writes nothing that was there, for any int and any rows of ints.
-/
import Derived.WalkKit
import Derived.WalkSpells
import Derived.Lib.Hide
import Derived.Outline
import Derived.Test.YtnkmljdkokcdjaaChecked
import Derived.Test.YtnkmljdkokcdjaaMn
import Derived.Test.YtnkmljdkokcdjaaMem
import Derived.Test.YtnkmljdkokcdjaaFed
import Derived.Test.YtnkmljdkokcdjaaRq1
import Derived.Test.YtnkmljdkokcdjaaRq4a
import Derived.Test.YtnkmljdkokcdjaaMk
import Derived.Test.YtnkmljdkokcdjaaMl
import Derived.Test.YtnkmljdkokcdjaaMm
import Derived.Deep.DeepCutAuto
import Derived.Deep.CutBlock
import Derived.Deep.OwnRows
import Derived.IntWalk
set_option linter.unusedVariables false
set_option linter.unusedSimpArgs false
namespace Go.Proofs.Ytnkmljdkokcdjaa
open Go.RowKit Fed
set_option linter.unusedVariables false
attribute [local go_sem high] Fed.max2_int Fed.min2_int

theorem quo_rem (v a b : Int) (h0 : 0 ≤ v) (h1 : v < 1048576) (ha : 0 < a) (hb : 0 < b) : ∃ p r : Int, IntKind.i64.wrap (v.tdiv a) = p ∧ p.tmod b = r ∧ 0 ≤ r ∧ r < b := by
  have e := Int.tdiv_nonneg h0 (Int.le_of_lt ha)
  have e2 : v.tdiv a ≤ v := by rw [Int.tdiv_eq_ediv_of_nonneg h0]; exact Int.ediv_le_self _ h0
  refine ⟨v.tdiv a, (v.tdiv a).tmod b, IntWalk.i64_in _ (by omega), rfl, Int.tmod_nonneg _ e, Int.tmod_lt_of_pos _ hb⟩
set_option maxRecDepth 100000 in
set_option maxHeartbeats 40000000 in
theorem votes_law (a0 : Int) (v1 : Value) (l1 : List Int) (v2 : Value) (l2 : List Int) (x0 : (Lit.int .i64 a0).wf = true) (w : World) (hr1 : MM.Rd w (fun j => j < w.heap.size) 1 v1 l1.length (intsC l1)) (hw1 : ∀ x, x ∈ l1 → (Lit.int .i64 x).wf = true) (hr2 : MM.Rd w (fun j => j < w.heap.size) 1 v2 l2.length (intsC l2)) (hw2 : ∀ x, x ∈ l2 → (Lit.int .i64 x).wf = true) :
    Calls Try.prog 9 #[.int .i64 a0, v1, v2] w fun e w' => e = .returned (.bool true) ∧ Below w.heap.size w w' := by
  obtain ⟨A2, c2, rfl, _, _⟩ := hr2.slice
  have HR := Lib.hid hr1
  have HW := Lib.hid hw1
  have HR2 := Lib.hid hr2
  have HW2 := Lib.hid hw2
  clear hr1 hw1 hr2 hw2
  go_enter Try.func9, Try.ntmps9
  go_wp2_with fail
  refine (known_any _).mono ?_
  rintro e w1 ⟨rfl, hb1⟩
  have HB1 := Lib.hid hb1
  clear hb1
  go_wp2_with fail
  refine (within_fn _ a0 4 x0 (by omega) (by omega)).mono ?_
  rintro e w' ⟨rfl, rfl⟩
  have hv := wi_range a0 4 (by omega)
  generalize wi a0 4 = k at hv ⊢
  obtain ⟨k, rfl⟩ : ∃ k' : Nat, k = k' := ⟨k.toNat, by omega⟩
  have hk5 : k < 4 := by omega
  clear hv
  have hws : IntKind.i64.wrap (2 + (k : Int)) = ((k + 2 : Nat) : Int) := by rw [IntWalk.i64_in _ (by omega)]; omega
  go_wp2_with fail
  obtain ⟨K, hK⟩ : ∃ K : Nat, (k : Int) + 2 = K := ⟨k + 2, by omega⟩
  rw [hK]
  have hK1 : 2 ≤ K := by omega
  have hK5 : K ≤ 5 := by omega
  clear hws hk5 hK
  refine (play_all _ K l1 v1 100 (by omega) hK5 ((HR.out.step (fun x hx _ => HB1.out.block x hx)).mono (fun x hx _ => Nat.lt_of_lt_of_le hx HB1.out.size)) HW.out (by omega)).mono ?_
  rintro e w2 ⟨b, c, ok, rfl, hn, hb, hb2⟩
  have SY := good_states (k := K) (by omega) l1 (min l1.length 100) (by omega)
  have SZ := (Sys.states (k := K) (by omega) l1 (min l1.length 100))
  have HB2 := Lib.hid (HB1.out.trans (hb2.mono HB1.out.size))
  have HS2 := Lib.hid (show w.heap.size ≤ w2.heap.size from HB2.out.size)
  generalize (pstates K l1 (min l1.length 100)) = st at SY SZ hn
  obtain ⟨n, hn0⟩ : ∃ n, st.ns[0]? = some n := ⟨_, List.getElem?_eq_getElem (by rw [SY.len]; omega)⟩
  have G := Lib.hid (SY.ns n (List.mem_of_getElem? hn0))
  have HTB := Lib.hid (show n.term ≤ 1000 from by have := (SZ.nb n (List.mem_of_getElem? hn0)).t; omega)
  obtain ⟨σ, vσ, hc⟩ := hn.at_ 0 n hn0
  have V := Lib.hid (vσ.mono (ok' := fun k => k < w2.heap.size) (fun k _ hk => hk))
  have c0 : w2.cell? ⟨b, 0, none⟩ = some (.int .i64 n.id) := by simpa using hc 0 _ rfl
  have c1 : w2.cell? ⟨b, 1, none⟩ = some (.int .i64 n.term) := by simpa using hc 1 _ rfl
  have c2 : w2.cell? ⟨b, 2, none⟩ = some (.int .i64 n.vote) := by simpa using hc 2 _ rfl
  have c3 : w2.cell? ⟨b, 3, none⟩ = some (.slice σ.A3 n.log.length σ.k3) := by simpa using hc 3 _ rfl
  have c4 : w2.cell? ⟨b, 4, none⟩ = some (.int .i64 n.form) := by simpa using hc 4 _ rfl
  have c5 : w2.cell? ⟨b, 5, none⟩ = some (.int .i64 n.role) := by simpa using hc 5 _ rfl
  have c6 : w2.cell? ⟨b, 6, none⟩ = some (.int .i64 n.commit) := by simpa using hc 6 _ rfl
  have c7 : w2.cell? ⟨b, 7, none⟩ = some (.slice σ.A7 n.votes.length σ.k7) := by simpa using hc 7 _ rfl
  have c8 : w2.cell? ⟨b, 8, none⟩ = some (.slice σ.A8 n.nxt.length σ.k8) := by simpa using hc 8 _ rfl
  have c9 : w2.cell? ⟨b, 9, none⟩ = some (.slice σ.A9 n.mtch.length σ.k9) := by simpa using hc 9 _ rfl
  have c10 : w2.cell? ⟨b, 10, none⟩ = some (.slice σ.A10 n.forms.length σ.k10) := by simpa using hc 10 _ rfl
  have c11 : w2.cell? ⟨b, 11, none⟩ = some (.int .i64 n.clock) := by simpa using hc 11 _ rfl
  have c12 : w2.cell? ⟨b, 12, none⟩ = some (.int .i64 n.due) := by simpa using hc 12 _ rfl
  clear SY SZ hn hn0 hb hb2 HB1 HR HW vσ hc
  go_upto_region 7 with (fail)
  refine name_world (F := fun W => Hid (W.heap[w2.heap.size]? = some (.cells #[.int .i64 n.id, .int .i64 n.term, .int .i64 n.vote, .slice σ.A3 n.log.length σ.k3, .int .i64 n.form, .int .i64 n.role, .int .i64 n.commit, .slice σ.A7 n.votes.length σ.k7, .slice σ.A8 n.nxt.length σ.k8, .slice σ.A9 n.mtch.length σ.k9, .slice σ.A10 n.forms.length σ.k10, .int .i64 n.clock, .int .i64 n.due] 28 (0, 0))) ∧ Hid (NodeVs W (fun k => k ≠ w2.heap.size) n σ) ∧ Hid (Below w.heap.size w W)) _ (by exact ⟨Lib.hid (MM.alloc_new _ _), Lib.hid ((V.out.mono (ok' := fun k => k < w2.heap.size) (fun k hk _ => hk)).step (fun k hk _ => Below.heap_alloc _ _ k hk) |>.mono (fun k hk _ => Nat.ne_of_lt hk)), Lib.hid (HB2.out.alloc HB2.out.size _)⟩) ?_
  clear V HB2 c0 c1 c2 c3 c4 c5 c6 c7 c8 c9 c10 c11 c12
  intro w3 ⟨X, V, HB⟩
  have NB1 := Lib.hid (show w.heap.size ≤ w2.heap.size from HS2.out)
  generalize w2.heap.size = d at X V HB NB1 ⊢
  go_wp2_with fail
  go_loopw [10] (fun t10 wr => ∃ (i : Nat) (n : Fed.Node) (σ : Sl5), i ≤ 20 ∧ t10 = .int .i64 i ∧ Hid (wr.heap[d]? = some (.cells #[.int .i64 n.id, .int .i64 n.term, .int .i64 n.vote, .slice σ.A3 n.log.length σ.k3, .int .i64 n.form, .int .i64 n.role, .int .i64 n.commit, .slice σ.A7 n.votes.length σ.k7, .slice σ.A8 n.nxt.length σ.k8, .slice σ.A9 n.mtch.length σ.k9, .slice σ.A10 n.forms.length σ.k10, .int .i64 n.clock, .int .i64 n.due] 28 (0, 0))) ∧ Hid (NodeVs wr (fun x => x ≠ d) n σ) ∧ Hid (NodeGood K n) ∧ Hid (n.term ≤ 1000 + i) ∧ Hid (Below w.heap.size w wr)) (fun t10 _ => 20 - (intOf t10).toNat)
  case atStart => exact ⟨0, n, σ, by omega, rfl, X, V, G, Lib.hid (by have := HTB.out; omega), HB⟩
  case round =>
    clear X V G HTB HB
    obtain ⟨i, n, σ, hi, rfl, X, V, G, HTB, HB⟩ := hrel
    by_cases hlt : i < l2.length ∧ i < 20
    case neg =>
      by_cases h1 : i < l2.length
      · have h1b : decide ((i : Int) < (l2.length : Int)) = true := decide_eq_true (by omega)
        have h2b : decide ((i : Int) < 20) = false := decide_eq_false (by omega)
        go_wp2_with fail
        go_ret
        exact ⟨rfl, HB.out⟩
      · have h1b : decide ((i : Int) < (l2.length : Int)) = false := decide_eq_false (by omega)
        go_wp2_with fail
        go_ret
        exact ⟨rfl, HB.out⟩
    obtain ⟨hl1, hl2⟩ := hlt
    have h1b : decide ((i : Int) < (l2.length : Int)) = true := decide_eq_true (by omega)
    have h2b : decide ((i : Int) < 20) = true := decide_eq_true (by omega)
    have hrd := HR2.out.step (w1 := wr) (fun x hx _ => HB.out.block x hx)
    obtain ⟨_, A', c', ea, hc1, hc2, hrest⟩ := hrd
    injection ea with ea1 el ea2
    clear el
    subst ea1 ea2
    obtain ⟨be, oe, rfl, _, _, hcell⟩ := hrest (by omega)
    have x0 : wr.cell? ⟨be, oe + i, none⟩ = some (.int .i64 (l2.getD i 0)) := hcell _ _ (intsC_get hl1)
    have HXW := Lib.hid (HW2.out (l2.getD i 0) (by rw [List.getD_eq_getElem?_getD, List.getElem?_eq_getElem hl1]; exact List.getElem_mem hl1))
    clear hcell hrest
    generalize l2.getD i 0 = x at x0 HXW
    go_wp2_with fail
    refine (within_big _ x 1048576 HXW.out (by omega) (by omega)).mono ?_
    rintro e w' ⟨rfl, rfl⟩
    have hv := wi_range x 1048576 (by omega)
    generalize wi x 1048576 = v at hv ⊢
    obtain ⟨M, hM⟩ : ∃ M : Nat, M + 1 = K := ⟨K - 1, by omega⟩
    have hM1 : 1 ≤ M := by omega
    have hqm : IntKind.i64.wrap ((K : Int) - 1) = (M : Int) := by rw [IntWalk.i64_in _ (by omega)]; omega
    have hqz : ((M : Int) == 0) = false := by simp; omega
    have hqn : ¬ M = 0 := by omega
    have hqi : ¬ (M : Int) = 0 := by omega
    have hqb : (M == 0) = false := by simp; omega
    obtain ⟨q, f, hq, hf, hf1, hf2⟩ : ∃ (q : Int) (f : Nat), v.tmod (M : Int) = q ∧ IntKind.i64.wrap (1 + q) = (f : Int) ∧ 1 ≤ f ∧ f < K := by
      have h1 := Int.tmod_nonneg (M : Int) hv.1
      have h2 := Int.tmod_lt_of_pos v (show 0 < (M : Int) by omega)
      exact ⟨_, 1 + (v.tmod (M : Int)).toNat, rfl, by rw [IntWalk.i64_in _ (by omega)]; omega, by omega, by omega⟩
    obtain ⟨p8, r3, hp8, hr3, hr30, hr31⟩ := quo_rem v 8 3 hv.1 (by omega) (by omega) (by omega)
    obtain ⟨c0, c1, c2, c3, c4, c5, c6, c7, c8, c9, c10, c11, c12⟩ := MM.cells13 X.out
    have hdl : d < wr.heap.size := MM.blk_lt X.out
    have ht0 := G.out.t0
    have ht1 := HTB.out
    have hw1 : IntKind.i64.wrap (n.term + r3) = n.term + r3 := IntWalk.i64_in _ (by omega)
    have hw2 : IntKind.i64.wrap (n.term + r3 - 1) = n.term + r3 - 1 := IntWalk.i64_in _ (by omega)
    have hw3 : IntKind.i64.wrap (n.term + 3) = n.term + 3 := IntWalk.i64_in _ (by omega)
    have HV := Lib.hid hv
    clear hv
    go_upto_region 11 with (fail)
    refine Go.RT.wp_region_tree [0, 0, 2, 6, 15, 31, 0, 64, 0, 256, 768, 1984, 4032, 8128, 0, 16384, 49152, 131071, 0, 524287] (.p 0 (.p 1 (.p 2 (.p 3 (.p 4 (.p 5 (.p 6 (.s 7 (.p 8 (.p 9 (.p 10 (.p 11 (.p 12 (.p 13 (.p 14 (.s 15 (.p 16 (.p 17 (.w 18 [7, 15] (.w 19 [] .nil .stop) .stop))))))))))))))))))) (by kernel_rfl) (by kernel_rfl) ?_
    repeat (first | (refine Go.RT.step_p rfl (fun K hK => ?_); go_simp; refine hK _ ?_; clear hK K) | (refine Go.RT.step_s rfl (fun K hK => ?_); go_simp; refine hK _ ?_; clear hK K))
    (refine Go.RT.step_w rfl rfl (fun K hK => ?_) Go.RT.step_stop)
    go_wp2
    refine Go.RT.QK_normal _ _ _ _ (hK _ _ ?_ ?_) <;> clear hK K
    · repeat (first | exact Go.RT.again_nil | (refine Go.RT.again_not rfl rfl ?_) | (refine Go.RT.again_one rfl (by go_simp <;> rfl) ?_))
    (refine Go.RT.step_w rfl rfl (fun K hK => ?_) Go.RT.step_stop)
    go_wp2
    refine Go.RT.QK_normal _ _ _ _ (hK _ _ ?_ ?_) <;> clear hK K
    · repeat (first | exact Go.RT.again_nil | (refine Go.RT.again_not rfl rfl ?_) | (refine Go.RT.again_one rfl (by go_simp <;> rfl) ?_))
    refine Go.RT.step_nil ?_
    go_upto_region 12 with (fail)
    refine name_world (F := fun W => Hid (W.heap[d]? = some (.cells #[.int .i64 n.id, .int .i64 n.term, .int .i64 n.vote, .slice σ.A3 n.log.length σ.k3, .int .i64 n.form, .int .i64 n.role, .int .i64 n.commit, .slice σ.A7 n.votes.length σ.k7, .slice σ.A8 n.nxt.length σ.k8, .slice σ.A9 n.mtch.length σ.k9, .slice σ.A10 n.forms.length σ.k10, .int .i64 n.clock, .int .i64 n.due] 28 (0, 0))) ∧ Hid (W.heap[wr.heap.size]? = some (.cells #[.int .i64 1, .int .i64 f, .int .i64 0, .int .i64 (mx 0 (n.term + r3 - 1)), .int .i64 20, .int .i64 (n.term + 3), .bool false, .slice none 0 0, .int .i64 0, .int .i64 0] 34 (0, 0))) ∧ Hid (NodeVs W (fun k => k ≠ d) n σ) ∧ Hid (Below w.heap.size w W)) _ (by exact ⟨Lib.hid ((Below.heap_alloc _ _ _ (MM.blk_lt X.out)).trans X.out), Lib.hid (MM.alloc_new _ _), Lib.hid (V.out.step (fun k hk hl => Below.heap_alloc _ _ k hl)), Lib.hid ((HB.out.alloc HB.out.size _).drew)⟩) ?_
    clear X V HB c0 c1 c2 c3 c4 c5 c6 c7 c8 c9 c10 c11 c12
    intro w4 ⟨X, M, V, HB⟩
    obtain ⟨c0, c1, c2, c3, c4, c5, c6, c7, c8, c9, c10, c11, c12⟩ := MM.cells13 X.out
    obtain ⟨d0, d1, d2, d3, d4, d5, d6, d7, d8, d9⟩ := MM.cells10 M.out
    go_wp2_with fail
    have gx := G.out
    have HAS := Lib.hid (asked_next gx (f := (f : Int)) (t := mx 0 (n.term + r3 - 1)) (lt := n.term + 3) (by omega) (by omega) (by rw [mx_eq]; omega) (by rw [mx_eq]; omega))
    refine (handle_c _ _ n σ V.out (askMsg (f : Int) (mx 0 (n.term + r3 - 1)) (n.term + 3)) none 0 (fun _ => True) (MM.Rd.nil _ _ _ _ _ (by simp [maxLen])) (by have := gx.l; omega) (by rw [gx.v]; omega) (by rw [gx.x, gx.v]) (by rw [gx.m, gx.v]) (by rw [gx.f, gx.v]) (by show (0 : Nat) ≤ 1000; decide) (by have := gx.c0; omega) (by have := gx.c1; omega) gx.cm ⟨by show (0 : Int) ≤ 20; decide, by show (20 : Int) ≤ 1000000; decide⟩ (fun i hi => gx.hx i (by rw [← gx.x]; exact hi)) (fun i hi => gx.hy i (by rw [← gx.m]; exact hi))).mono ?_
    rintro e w5 ⟨τ, Ao, ko, rfl, hn5, hm5, hb5⟩
    clear gx
    obtain ⟨o, out, ho⟩ : ∃ o out, handleS n (askMsg (f : Int) (mx 0 (n.term + r3 - 1)) (n.term + 3)) = ⟨o, out⟩ := ⟨_, _, rfl⟩
    rw [ho] at hn5 hm5 HAS ⊢
    have X5 := Lib.hid ((hb5.block _ (MM.blk_lt X.out)).trans X.out)
    have M5 := Lib.hid ((hb5.block _ (MM.blk_lt M.out)).trans M.out)
    have VT := Lib.hid (hn5.mono (ok' := fun k => k ≠ d ∧ k ≠ w5.heap.size ∧ k < w5.heap.size) (fun k hk hl => ⟨by have h1 := MM.blk_lt X.out; have h2 : w4.heap.size ≤ k := hk; omega, by omega, hl⟩))
    have MS := Lib.hid (hm5.mono (ok' := fun k => k < w5.heap.size) (fun k _ hk => hk))
    have HB5 := Lib.hid (HB.out.trans (hb5.mono HB.out.size))
    have HD5 := Lib.hid (show d < w5.heap.size ∧ w4.heap.size ≤ w5.heap.size from ⟨by have h1 := MM.blk_lt X.out; have := hb5.size; omega, hb5.size⟩)
    clear ho hn5 hm5 hb5 X M V HB G c0 c1 c2 c3 c4 c5 c6 c7 c8 c9 c10 c11 c12 d0 d1 d2 d3 d4 d5 d6 d7 d8 d9
    go_upto_region 13 with (fail)
    refine name_world (F := fun W => Hid (W.heap[d]? = some (.cells #[.int .i64 n.id, .int .i64 n.term, .int .i64 n.vote, .slice σ.A3 n.log.length σ.k3, .int .i64 n.form, .int .i64 n.role, .int .i64 n.commit, .slice σ.A7 n.votes.length σ.k7, .slice σ.A8 n.nxt.length σ.k8, .slice σ.A9 n.mtch.length σ.k9, .slice σ.A10 n.forms.length σ.k10, .int .i64 n.clock, .int .i64 n.due] 28 (0, 0))) ∧ Hid (W.heap[wr.heap.size]? = some (.cells #[.int .i64 1, .int .i64 f, .int .i64 0, .int .i64 (mx 0 (n.term + r3 - 1)), .int .i64 20, .int .i64 (n.term + 3), .bool false, .slice none 0 0, .int .i64 0, .int .i64 0] 34 (0, 0))) ∧ Hid (W.heap[w5.heap.size]? = some (.cells #[.int .i64 o.id, .int .i64 o.term, .int .i64 o.vote, .slice τ.A3 o.log.length τ.k3, .int .i64 o.form, .int .i64 o.role, .int .i64 o.commit, .slice τ.A7 o.votes.length τ.k7, .slice τ.A8 o.nxt.length τ.k8, .slice τ.A9 o.mtch.length τ.k9, .slice τ.A10 o.forms.length τ.k10, .int .i64 o.clock, .int .i64 o.due] 28 (0, 0))) ∧ Hid (NodeVs W (fun k => k ≠ d ∧ k ≠ w5.heap.size ∧ k < w5.heap.size) o τ) ∧ Hid (MsgsV W (fun k => k < w5.heap.size) (.slice Ao out.length ko) out) ∧ Hid (Below w.heap.size w W)) _ (by exact ⟨Lib.hid ((Below.heap_alloc _ _ _ (MM.blk_lt X5.out)).trans X5.out), Lib.hid ((Below.heap_alloc _ _ _ (MM.blk_lt M5.out)).trans M5.out), Lib.hid (MM.alloc_new _ _), Lib.hid (VT.out.step (fun k hk _ => Below.heap_alloc _ _ k hk.2.2)), Lib.hid (MS.out.step (fun k hk _ => Below.heap_alloc _ _ k hk)), Lib.hid (HB5.out.alloc HB5.out.size _)⟩) ?_
    clear X5 M5 VT MS HB5
    intro w6 ⟨X, M, Y, V, MS, HB⟩
    obtain ⟨xm, rfl, x1, x2, x3, x4⟩ := HAS.out.one
    obtain ⟨cs1, rd1, mr1⟩ := MS.out
    obtain ⟨lq1, Ax1, cx1, ea, sl1, sl2, r1⟩ := rd1
    injection ea with ea1 el ea2
    clear el lq1
    subst ea2
    obtain ⟨bs, os, e', _, bsl, g1⟩ := r1 (by simp)
    obtain ⟨ve1, rv1, gm1⟩ := mr1.get (i := 0) (m := xm) rfl
    obtain rfl := ea1.trans e'
    have z0 : w6.cell? ⟨bs, os, none⟩ = some (.int .i64 2) := by have h9 := g1 _ _ (gm1 0 _ rfl); rw [← x1]; simpa using h9
    have z2 : w6.cell? ⟨bs, os + 2, none⟩ = some (.int .i64 f) := by have h9 := g1 _ _ (gm1 2 _ rfl); rw [← x2]; simpa using h9
    have z3 : w6.cell? ⟨bs, os + 3, none⟩ = some (.int .i64 o.term) := by have h9 := g1 _ _ (gm1 3 _ rfl); rw [← x3]; simpa using h9
    have z6 : w6.cell? ⟨bs, os + 6, none⟩ = some (.bool xm.ok) := by have h9 := g1 _ _ (gm1 6 _ rfl); simpa using h9
    have BSL := Lib.hid bsl
    have X4 := Lib.hid x4
    have hA : decide (o.term < n.term) = false := decide_eq_false (by have := (show n.term ≤ o.term from HAS.out.up); omega)
    have hF : decide (o.form < n.form) = false := decide_eq_false (by have := (show o.form = n.form from HAS.out.form); omega)
    have hsl : 1 ≤ ko := sl1
    clear r1 ea1 e' mr1 g1 gm1 rv1 x1 x2 x3 x4 MS
    obtain ⟨c0, c1, c2, c3, c4, c5, c6, c7, c8, c9, c10, c11, c12⟩ := MM.cells13 X.out
    obtain ⟨y0, y1, y2, y3, y4, y5, y6, y7, y8, y9, y10, y11, y12⟩ := MM.cells13 Y.out
    obtain ⟨d0, d1, d2, d3, d4, d5, d6, d7, d8, d9⟩ := MM.cells10 M.out
    refine Go.RT.wp_region_tree [0, 1, 3, 7, 15, 31, 63, 127, 255, 511, 1023, 2047, 4095, 8191, 16383, 2047, 34815, 131071, 262143, 524287, 1048575, 2097151, 4194303, 8388607, 1048575, 17825791, 67108863, 134217727, 268435455, 536870911, 1073741823, 536870911, 2684354559, 8589934591, 17179869183, 34359738367, 68719476735, 137438953471, 68719476735, 343597383679, 1099511627775, 2199023255551] (.p 0 (.p 1 (.p 2 (.p 3 (.p 4 (.p 5 (.p 6 (.s 7 (.p 8 (.p 9 (.p 10 (.p 11 (.p 12 (.p 13 (.s 14 (.p 15 (.s 16 (.p 17 (.p 18 (.p 19 (.p 20 (.p 21 (.p 22 (.s 23 (.p 24 (.s 25 (.p 26 (.p 27 (.p 28 (.p 29 (.s 30 (.p 31 (.s 32 (.p 33 (.p 34 (.p 35 (.p 36 (.s 37 (.p 38 (.s 39 (.p 40 (.p 41 .nil)))))))))))))))))))))))))))))))))))))))))) (by kernel_rfl) (by kernel_rfl) ?_
    repeat (first | (refine Go.RT.step_p rfl (fun K hK => ?_); go_simp; refine hK _ ?_; clear hK K) | (refine Go.RT.step_s rfl (fun K hK => ?_); go_simp; refine hK _ ?_; clear hK K))
    refine Go.RT.step_nil ?_
    go_upto_region 15 with (fail)
    clear hA hF z0 z2 z3
    go_cut [141] (fun v141 wc => v141 = .bool false ∧ Hid (wc.heap[d]? = some (.cells #[.int .i64 n.id, .int .i64 n.term, .int .i64 n.vote, .slice σ.A3 n.log.length σ.k3, .int .i64 n.form, .int .i64 n.role, .int .i64 n.commit, .slice σ.A7 n.votes.length σ.k7, .slice σ.A8 n.nxt.length σ.k8, .slice σ.A9 n.mtch.length σ.k9, .slice σ.A10 n.forms.length σ.k10, .int .i64 n.clock, .int .i64 n.due] 28 (0, 0))) ∧ Hid (wc.heap[w5.heap.size]? = some (.cells #[.int .i64 o.id, .int .i64 o.term, .int .i64 o.vote, .slice τ.A3 o.log.length τ.k3, .int .i64 o.form, .int .i64 o.role, .int .i64 o.commit, .slice τ.A7 o.votes.length τ.k7, .slice τ.A8 o.nxt.length τ.k8, .slice τ.A9 o.mtch.length τ.k9, .slice τ.A10 o.forms.length τ.k10, .int .i64 o.clock, .int .i64 o.due] 28 (0, 0))) ∧ Hid (NodeVs wc (fun k => k ≠ d ∧ k ≠ w5.heap.size ∧ k < w5.heap.size) o τ) ∧ Hid (Below w.heap.size w wc))
    case first =>
      obtain ⟨okb, hokb⟩ : ∃ okb, okb = xm.ok := ⟨_, rfl⟩
      rw [← hokb] at z6 X4
      clear hokb
      cases okb
      · by_cases ht : o.term = n.term
        · have htb : (o.term == n.term) = true := by rw [ht]; simp
          by_cases hv : 0 ≤ n.vote
          · have hvb : decide (0 ≤ n.vote) = true := decide_eq_true hv
            have hvv : (o.vote != n.vote) = false := by rw [show o.vote = n.vote from HAS.out.stays ht hv]; simp
            clear ht hv
            go_wp2_with fail
            go_meet
            case rel => exact ⟨rfl, X, Y, Lib.hid (V.out.step (fun _ _ _ => rfl)), Lib.hid HB.out.drew⟩
          · have hvb : decide (0 ≤ n.vote) = false := decide_eq_false hv
            clear ht hv
            go_wp2_with fail
            go_meet
            case rel => exact ⟨rfl, X, Y, Lib.hid (V.out.step (fun _ _ _ => rfl)), Lib.hid HB.out.drew⟩
        · have htb : (o.term == n.term) = false := by simpa using ht
          clear ht
          go_wp2_with fail
          go_meet
          case rel => exact ⟨rfl, X, Y, Lib.hid (V.out.step (fun _ _ _ => rfl)), Lib.hid HB.out.drew⟩
      · have hv1 : (o.vote != (f : Int)) = false := by rw [show o.vote = (f : Int) from X4.out rfl]; simp
        by_cases ht : o.term = n.term
        · have htb : (o.term == n.term) = true := by rw [ht]; simp
          by_cases hv : 0 ≤ n.vote
          · have hvb : decide (0 ≤ n.vote) = true := decide_eq_true hv
            have hvv : (o.vote != n.vote) = false := by rw [show o.vote = n.vote from HAS.out.stays ht hv]; simp
            clear ht hv
            go_wp2_with fail
            go_meet
            case rel => exact ⟨rfl, X, Y, Lib.hid (V.out.step (fun _ _ _ => rfl)), Lib.hid HB.out.drew⟩
          · have hvb : decide (0 ≤ n.vote) = false := decide_eq_false hv
            clear ht hv
            go_wp2_with fail
            go_meet
            case rel => exact ⟨rfl, X, Y, Lib.hid (V.out.step (fun _ _ _ => rfl)), Lib.hid HB.out.drew⟩
        · have htb : (o.term == n.term) = false := by simpa using ht
          clear ht
          go_wp2_with fail
          go_meet
          case rel => exact ⟨rfl, X, Y, Lib.hid (V.out.step (fun _ _ _ => rfl)), Lib.hid HB.out.drew⟩
    case rest =>
      obtain ⟨rfl, X, Y, V, HB⟩ := hcut
      clear z6 X4 hsl c0 c1 c2 c3 c4 c5 c6 c7 c8 c9 c10 c11 c12 y0 y1 y2 y3 y4 y5 y6 y7 y8 y9 y10 y11 y12 d0 d1 d2 d3 d4 d5 d6 d7 d8 d9
      obtain ⟨p64, r2, hp64, hr2, hr20, hr21⟩ := quo_rem v 64 2 HV.out.1 (by have := HV.out.2; omega) (by omega) (by omega)
      have hw4 : IntKind.i64.wrap (1 + r2) = 1 + r2 := IntWalk.i64_in _ (by omega)
      have HGO := Lib.hid (show NodeGood K o from HAS.out.good)
      obtain ⟨y0, y1, y2, y3, y4, y5, y6, y7, y8, y9, y10, y11, y12⟩ := MM.cells13 Y.out
      go_wp2_with fail
      refine (restart_any _ _ o τ (1 + r2) V.out (by have := HGO.out.l; omega) (by rw [HGO.out.v]; omega) (by have := HGO.out.i0; omega) (by have := HGO.out.i1; omega)).mono ?_
      rintro e w8 ⟨ρ, rfl, hn8, hb8⟩
      have HGR := Lib.hid (restart_good HGO.out (1 + r2))
      have RF : (restartN o (1 + r2)).term = o.term ∧ (restartN o (1 + r2)).vote = o.vote ∧ (restartN o (1 + r2)).log = o.log ∧ o.form ≤ (restartN o (1 + r2)).form ∧ (restartN o (1 + r2)).role = 0 ∧ (restartN o (1 + r2)).commit = 0 := ⟨rfl, rfl, rfl, by show o.form ≤ mx o.form _; rw [mx_eq]; omega, rfl, rfl⟩
      generalize restartN o (1 + r2) = r at HGR RF hn8 ⊢
      have HRF := Lib.hid RF
      clear RF
      have X8 := Lib.hid ((hb8.block _ (MM.blk_lt X.out)).trans X.out)
      have Y8 := Lib.hid ((hb8.block _ (MM.blk_lt Y.out)).trans Y.out)
      have V8 := Lib.hid (V.out.below hb8)
      have HB8 := Lib.hid (HB.out.trans (hb8.mono HB.out.size))
      have HD8 := Lib.hid (show d < w5.heap.size ∧ w5.heap.size < w8.heap.size from ⟨HD5.out.1, by have h1 := MM.blk_lt Y.out; have := hb8.size; omega⟩)
      have VR8 := Lib.hid (hn8.mono (ok' := fun k => k ≠ d ∧ k ≠ w8.heap.size ∧ k < w8.heap.size) (fun k hk hl => ⟨by have h1 := MM.blk_lt X.out; have h2 : wc.heap.size ≤ k := hk; omega, by omega, hl⟩))
      clear hn8 hb8 X Y V HB y0 y1 y2 y3 y4 y5 y6 y7 y8 y9 y10 y11 y12 hp64 hr2 hw4
      go_upto_region 18 with (fail)
      refine name_world (F := fun W => Hid (W.heap[d]? = some (.cells #[.int .i64 n.id, .int .i64 n.term, .int .i64 n.vote, .slice σ.A3 n.log.length σ.k3, .int .i64 n.form, .int .i64 n.role, .int .i64 n.commit, .slice σ.A7 n.votes.length σ.k7, .slice σ.A8 n.nxt.length σ.k8, .slice σ.A9 n.mtch.length σ.k9, .slice σ.A10 n.forms.length σ.k10, .int .i64 n.clock, .int .i64 n.due] 28 (0, 0))) ∧ Hid (W.heap[w5.heap.size]? = some (.cells #[.int .i64 o.id, .int .i64 o.term, .int .i64 o.vote, .slice τ.A3 o.log.length τ.k3, .int .i64 o.form, .int .i64 o.role, .int .i64 o.commit, .slice τ.A7 o.votes.length τ.k7, .slice τ.A8 o.nxt.length τ.k8, .slice τ.A9 o.mtch.length τ.k9, .slice τ.A10 o.forms.length τ.k10, .int .i64 o.clock, .int .i64 o.due] 28 (0, 0))) ∧ Hid (W.heap[w8.heap.size]? = some (.cells #[.int .i64 r.id, .int .i64 r.term, .int .i64 r.vote, .slice ρ.A3 r.log.length ρ.k3, .int .i64 r.form, .int .i64 r.role, .int .i64 r.commit, .slice ρ.A7 r.votes.length ρ.k7, .slice ρ.A8 r.nxt.length ρ.k8, .slice ρ.A9 r.mtch.length ρ.k9, .slice ρ.A10 r.forms.length ρ.k10, .int .i64 r.clock, .int .i64 r.due] 28 (0, 0))) ∧ Hid (NodeVs W (fun k => k ≠ d ∧ k ≠ w5.heap.size ∧ k < w5.heap.size) o τ) ∧ Hid (NodeVs W (fun k => k ≠ d ∧ k ≠ w8.heap.size ∧ k < w8.heap.size) r ρ) ∧ Hid (Below w.heap.size w W)) _ (by exact ⟨Lib.hid ((Below.heap_alloc _ _ _ (MM.blk_lt X8.out)).trans X8.out), Lib.hid ((Below.heap_alloc _ _ _ (MM.blk_lt Y8.out)).trans Y8.out), Lib.hid (MM.alloc_new _ _), Lib.hid (V8.out.step (fun k hk _ => Below.heap_alloc _ _ k (Nat.lt_trans hk.2.2 HD8.out.2))), Lib.hid (VR8.out.step (fun k hk _ => Below.heap_alloc _ _ k hk.2.2)), Lib.hid (HB8.out.alloc HB8.out.size _)⟩) ?_
      clear X8 Y8 V8 VR8 HB8
      intro w9 ⟨X, Y, R, V, VR, HB⟩
      obtain ⟨c0, c1, c2, c3, c4, c5, c6, c7, c8, c9, c10, c11, c12⟩ := MM.cells13 X.out
      obtain ⟨y0, y1, y2, y3, y4, y5, y6, y7, y8, y9, y10, y11, y12⟩ := MM.cells13 Y.out
      obtain ⟨e0, e1, e2, e3, e4, e5, e6, e7, e8, e9, e10, e11, e12⟩ := MM.cells13 R.out
      have h1 : (r.term != o.term) = false := by rw [HRF.out.1]; simp
      have h2 : (r.vote != o.vote) = false := by rw [HRF.out.2.1]; simp
      have h3 : decide (r.form < o.form) = false := decide_eq_false (by have := HRF.out.2.2.2.1; omega)
      have h4 : (r.role != 0) = false := by rw [HRF.out.2.2.2.2.1]; rfl
      have h5 : (r.commit != 0) = false := by rw [HRF.out.2.2.2.2.2]; rfl
      have HE := Lib.hid (show Calls Try.prog 28 #[.slice ρ.A3 r.log.length ρ.k3, .slice τ.A3 o.log.length τ.k3] w9 fun e w' => e = .returned (.bool true) ∧ Below w9.heap.size w9 w' from by
        have h8 := VR.out.hl
        rw [HRF.out.2.2.1] at h8 ⊢
        exact rents_same w9 _ _ _ _ _ _ _ h8 V.out.hl)
      go_wp2_with fail
      refine HE.out.mono ?_
      rintro e w10 ⟨rfl, hb10⟩
      have X10 := Lib.hid ((hb10.block _ (MM.blk_lt X.out)).trans X.out)
      have Y10 := Lib.hid ((hb10.block _ (MM.blk_lt Y.out)).trans Y.out)
      have R10 := Lib.hid ((hb10.block _ (MM.blk_lt R.out)).trans R.out)
      have V10 := Lib.hid (V.out.below hb10)
      have VR10 := Lib.hid (VR.out.below hb10)
      have HB10 := Lib.hid (HB.out.trans (hb10.mono HB.out.size))
      clear hb10 X Y R V VR HB HE c0 c1 c2 c3 c4 c5 c6 c7 c8 c9 c10 c11 c12 y0 y1 y2 y3 y4 y5 y6 y7 y8 y9 y10 y11 y12 e0 e1 e2 e3 e4 e5 e6 e7 e8 e9 e10 e11 e12
      obtain ⟨c0, c1, c2, c3, c4, c5, c6, c7, c8, c9, c10, c11, c12⟩ := MM.cells13 X10.out
      obtain ⟨g0, g1, g2, g3, g4, g5, g6, g7, g8, g9, g10, g11, g12⟩ := MM.frees13 X10.out
      obtain ⟨y0, y1, y2, y3, y4, y5, y6, y7, y8, y9, y10, y11, y12⟩ := MM.cells13 Y10.out
      obtain ⟨e0, e1, e2, e3, e4, e5, e6, e7, e8, e9, e10, e11, e12⟩ := MM.cells13 R10.out
      go_upto_region 20 with (fail)
      clear h1 h2 h3 h4 h5
      go_upto_region 21 with (fail)
      clear c0 c1 c2 c3 c4 c5 c6 c7 c8 c9 c10 c11 c12 y0 y1 y2 y3 y4 y5 y6 y7 y8 y9 y10 y11 y12 e0 e1 e2 e3 e4 e5 e6 e7 e8 e9 e10 e11 e12 g0 g1 g2 g3 g4 g5 g6 g7 g8 g9 g10 g11 g12
      refine name_world (F := fun W => Hid (W.heap[d]? = some (.cells #[.int .i64 o.id, .int .i64 o.term, .int .i64 o.vote, .slice τ.A3 o.log.length τ.k3, .int .i64 o.form, .int .i64 o.role, .int .i64 o.commit, .slice τ.A7 o.votes.length τ.k7, .slice τ.A8 o.nxt.length τ.k8, .slice τ.A9 o.mtch.length τ.k9, .slice τ.A10 o.forms.length τ.k10, .int .i64 o.clock, .int .i64 o.due] 28 (0, 0))) ∧ Hid (W.heap[w5.heap.size]? = some (.cells #[.int .i64 o.id, .int .i64 o.term, .int .i64 o.vote, .slice τ.A3 o.log.length τ.k3, .int .i64 o.form, .int .i64 o.role, .int .i64 o.commit, .slice τ.A7 o.votes.length τ.k7, .slice τ.A8 o.nxt.length τ.k8, .slice τ.A9 o.mtch.length τ.k9, .slice τ.A10 o.forms.length τ.k10, .int .i64 o.clock, .int .i64 o.due] 28 (0, 0))) ∧ Hid (W.heap[w8.heap.size]? = some (.cells #[.int .i64 r.id, .int .i64 r.term, .int .i64 r.vote, .slice ρ.A3 r.log.length ρ.k3, .int .i64 r.form, .int .i64 r.role, .int .i64 r.commit, .slice ρ.A7 r.votes.length ρ.k7, .slice ρ.A8 r.nxt.length ρ.k8, .slice ρ.A9 r.mtch.length ρ.k9, .slice ρ.A10 r.forms.length ρ.k10, .int .i64 r.clock, .int .i64 r.due] 28 (0, 0))) ∧ Hid (NodeVs W (fun k => k ≠ d ∧ k ≠ w5.heap.size ∧ k < w5.heap.size) o τ) ∧ Hid (NodeVs W (fun k => k ≠ d ∧ k ≠ w8.heap.size ∧ k < w8.heap.size) r ρ) ∧ Hid (Below w.heap.size w W)) _ (by exact ⟨Lib.hid ((set13 X10.out).trans rfl), Lib.hid ((far13 (Nat.ne_of_gt HD8.out.1)).trans Y10.out), Lib.hid ((far13 (Nat.ne_of_gt (Nat.lt_trans HD8.out.1 HD8.out.2))).trans R10.out), Lib.hid (V10.out.step (fun k hk _ => far13 hk.1)), Lib.hid (VR10.out.step (fun k hk _ => far13 hk.1)), Lib.hid (below13 HB10.out NB1.out)⟩) ?_
      clear X10 Y10 R10 V10 VR10 HB10
      intro w11 ⟨X, Y, R, V, VR, HB⟩
      obtain ⟨c0, c1, c2, c3, c4, c5, c6, c7, c8, c9, c10, c11, c12⟩ := MM.cells13 X.out
      obtain ⟨g0, g1, g2, g3, g4, g5, g6, g7, g8, g9, g10, g11, g12⟩ := MM.frees13 X.out
      obtain ⟨e0, e1, e2, e3, e4, e5, e6, e7, e8, e9, e10, e11, e12⟩ := MM.cells13 R.out
      obtain ⟨p128, r3', hp128, hr3', hr30', hr31'⟩ := quo_rem v 128 3 HV.out.1 (by have := HV.out.2; omega) (by omega) (by omega)
      have HTO := Lib.hid (show o.term ≤ 1000 + ((i : Int) + 1) from by
        have h1 := HTB.out
        have h2 := (show o.term ≤ n.term ∨ o.term ≤ mx 0 (n.term + r3 - 1) from HAS.out.most)
        rw [mx_eq] at h2
        omega)
      have HTR := Lib.hid (show r.term ≤ 1000 + ((i : Int) + 1) from by rw [HRF.out.1]; exact HTO.out)
      by_cases hz : r3' = 0
      · have hzb : (r3' == 0) = true := by rw [hz]; rfl
        clear hz hr30' hr31'
        go_wp2_with fail
        clear hzb hp128 hr3' c0 c1 c2 c3 c4 c5 c6 c7 c8 c9 c10 c11 c12 e0 e1 e2 e3 e4 e5 e6 e7 e8 e9 e10 e11 e12 g0 g1 g2 g3 g4 g5 g6 g7 g8 g9 g10 g11 g12
        have X9 := Lib.hid (show (((((((((((((w11.setCell ⟨d, 0, none⟩ (.int .i64 r.id)).setCell ⟨d, 1, none⟩ (.int .i64 r.term)).setCell ⟨d, 2, none⟩ (.int .i64 r.vote)).setCell ⟨d, 3, none⟩ (.slice ρ.A3 r.log.length ρ.k3)).setCell ⟨d, 4, none⟩ (.int .i64 r.form)).setCell ⟨d, 5, none⟩ (.int .i64 r.role)).setCell ⟨d, 6, none⟩ (.int .i64 r.commit)).setCell ⟨d, 7, none⟩ (.slice ρ.A7 r.votes.length ρ.k7)).setCell ⟨d, 8, none⟩ (.slice ρ.A8 r.nxt.length ρ.k8)).setCell ⟨d, 9, none⟩ (.slice ρ.A9 r.mtch.length ρ.k9)).setCell ⟨d, 10, none⟩ (.slice ρ.A10 r.forms.length ρ.k10)).setCell ⟨d, 11, none⟩ (.int .i64 r.clock)).setCell ⟨d, 12, none⟩ (.int .i64 r.due)).heap[d]? = some (.cells #[.int .i64 r.id, .int .i64 r.term, .int .i64 r.vote, .slice ρ.A3 r.log.length ρ.k3, .int .i64 r.form, .int .i64 r.role, .int .i64 r.commit, .slice ρ.A7 r.votes.length ρ.k7, .slice ρ.A8 r.nxt.length ρ.k8, .slice ρ.A9 r.mtch.length ρ.k9, .slice ρ.A10 r.forms.length ρ.k10, .int .i64 r.clock, .int .i64 r.due] 28 (0, 0)) from (set13 X.out).trans rfl)
        have VR9 := Lib.hid (show NodeVs (((((((((((((w11.setCell ⟨d, 0, none⟩ (.int .i64 r.id)).setCell ⟨d, 1, none⟩ (.int .i64 r.term)).setCell ⟨d, 2, none⟩ (.int .i64 r.vote)).setCell ⟨d, 3, none⟩ (.slice ρ.A3 r.log.length ρ.k3)).setCell ⟨d, 4, none⟩ (.int .i64 r.form)).setCell ⟨d, 5, none⟩ (.int .i64 r.role)).setCell ⟨d, 6, none⟩ (.int .i64 r.commit)).setCell ⟨d, 7, none⟩ (.slice ρ.A7 r.votes.length ρ.k7)).setCell ⟨d, 8, none⟩ (.slice ρ.A8 r.nxt.length ρ.k8)).setCell ⟨d, 9, none⟩ (.slice ρ.A9 r.mtch.length ρ.k9)).setCell ⟨d, 10, none⟩ (.slice ρ.A10 r.forms.length ρ.k10)).setCell ⟨d, 11, none⟩ (.int .i64 r.clock)).setCell ⟨d, 12, none⟩ (.int .i64 r.due)) (fun k => k ≠ d) r ρ from (VR.out.mono (ok' := fun k => k ≠ d) fun k hk _ => hk.1).step (fun k hk _ => far13 hk))
        have HB9 := Lib.hid (show Below w.heap.size w (((((((((((((w11.setCell ⟨d, 0, none⟩ (.int .i64 r.id)).setCell ⟨d, 1, none⟩ (.int .i64 r.term)).setCell ⟨d, 2, none⟩ (.int .i64 r.vote)).setCell ⟨d, 3, none⟩ (.slice ρ.A3 r.log.length ρ.k3)).setCell ⟨d, 4, none⟩ (.int .i64 r.form)).setCell ⟨d, 5, none⟩ (.int .i64 r.role)).setCell ⟨d, 6, none⟩ (.int .i64 r.commit)).setCell ⟨d, 7, none⟩ (.slice ρ.A7 r.votes.length ρ.k7)).setCell ⟨d, 8, none⟩ (.slice ρ.A8 r.nxt.length ρ.k8)).setCell ⟨d, 9, none⟩ (.slice ρ.A9 r.mtch.length ρ.k9)).setCell ⟨d, 10, none⟩ (.slice ρ.A10 r.forms.length ρ.k10)).setCell ⟨d, 11, none⟩ (.int .i64 r.clock)).setCell ⟨d, 12, none⟩ (.int .i64 r.due)) from below13 HB.out NB1.out)
        go_roundw
        case rel =>
          exact ⟨i + 1, r, ρ, by omega, by go_num, X9, VR9, HGR, HTR, HB9⟩
        case measure => simp [intOf]; omega
      · have hzb : (r3' == 0) = false := by simpa using hz
        clear hz hr30' hr31'
        go_wp2_with fail
        clear hzb hp128 hr3' c0 c1 c2 c3 c4 c5 c6 c7 c8 c9 c10 c11 c12 e0 e1 e2 e3 e4 e5 e6 e7 e8 e9 e10 e11 e12 g0 g1 g2 g3 g4 g5 g6 g7 g8 g9 g10 g11 g12
        go_roundw
        case rel =>
          exact ⟨i + 1, o, τ, by omega, by go_num, X, Lib.hid (V.out.mono fun k hk _ => hk.1), HGO, HTO, HB⟩
        case measure => simp [intOf]; omega

end Go.Proofs.Ytnkmljdkokcdjaa
