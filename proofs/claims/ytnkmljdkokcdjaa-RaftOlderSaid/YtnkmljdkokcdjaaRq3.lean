/-
  The law RaftOlder returns true, and writes nothing that was there, for any ints and any row of ints.
-/
import Derived.WalkKit
import Derived.WalkSpells
import Derived.Lib.Hide
import Derived.Outline
import Derived.Test.YtnkmljdkokcdjaaChecked
import Derived.Test.YtnkmljdkokcdjaaMn
import Derived.Test.YtnkmljdkokcdjaaMem
import Derived.Test.YtnkmljdkokcdjaaFed
import Derived.Test.YtnkmljdkokcdjaaRq1
import Derived.Test.YtnkmljdkokcdjaaMi
import Derived.Test.YtnkmljdkokcdjaaMj
import Derived.Deep.DeepCutAuto
import Derived.Deep.CutBlock
import Derived.Deep.OwnRows
import Derived.IntWalk
set_option linter.unusedVariables false
set_option linter.unusedSimpArgs false
namespace Go.Proofs.Ytnkmljdkokcdjaa
open Go.RowKit Fed
set_option linter.unusedVariables false
attribute [local go_sem high] Fed.max2_int Fed.min2_int

/-- A message that bears a kind, a term, and no more. -/
def olderMsg (k t : Int) : Fed.Msg := ⟨k, 1, 0, t, 0, 0, true, [], 0, 2⟩
theorem older_low (n : Fed.Node) (k t : Int) (hv : 2 ≤ n.votes.length) (hi : 0 ≤ n.id ∧ n.id < n.votes.length) (ht : t < n.term) (hk : k = 1 ∨ k = 2 ∨ k = 3 ∨ k = 4) :
    ∃ out, handleS n (olderMsg k t) = ⟨n, out⟩ ∧ (((k = 1 ∨ k = 3) ∧ ∃ x, out = [x] ∧ x.ok = false ∧ x.term = n.term) ∨ (k ≠ 1 ∧ k ≠ 3 ∧ out = [])) := by
  unfold handleS
  rw [if_pos ⟨⟨by show (0 : Int) ≤ 1; decide, by show (1 : Int) < n.votes.length; omega⟩, hi⟩]
  have hb : bump n (olderMsg k t) = n := by unfold bump; rw [if_neg (by show ¬ n.term < t; omega)]
  rw [hb]
  have hne : t ≠ n.term := by omega
  rcases hk with rfl | rfl | rfl | rfl
  · refine ⟨[votedMsg n 1 false], ?_, .inl ⟨.inl rfl, _, rfl, rfl, rfl⟩⟩
    have hok : voteOk n (olderMsg 1 t) = false := by unfold voteOk; simp [olderMsg, hne]
    unfold handleIn voteS
    rw [if_pos (show (olderMsg 1 t).kind = 1 from rfl), hok]
    rfl
  · refine ⟨[], ?_, .inr ⟨by decide, by decide, rfl⟩⟩
    unfold handleIn votedS
    rw [if_neg (show ¬ (olderMsg 2 t).kind = 1 from by show ¬ (2 : Int) = 1; decide), if_pos (show (olderMsg 2 t).kind = 2 from rfl), if_pos (.inr (.inl hne))]
  · refine ⟨[matchMsg n 1 n.log.length false], ?_, .inl ⟨.inr rfl, _, rfl, rfl, rfl⟩⟩
    unfold handleIn appendS
    rw [if_neg (show ¬ (olderMsg 3 t).kind = 1 from by show ¬ (3 : Int) = 1; decide), if_neg (show ¬ (olderMsg 3 t).kind = 2 from by show ¬ (3 : Int) = 2; decide), if_pos (show (olderMsg 3 t).kind = 3 from rfl), if_pos (show (olderMsg 3 t).term ≠ ({ n := n, out := [] } : NS).n.term from hne)]
    rfl
  · refine ⟨[], ?_, .inr ⟨by decide, by decide, rfl⟩⟩
    unfold handleIn matchS
    rw [if_neg (show ¬ (olderMsg 4 t).kind = 1 from by show ¬ (4 : Int) = 1; decide), if_neg (show ¬ (olderMsg 4 t).kind = 2 from by show ¬ (4 : Int) = 2; decide), if_neg (show ¬ (olderMsg 4 t).kind = 3 from by show ¬ (4 : Int) = 3; decide), if_pos (show (olderMsg 4 t).kind = 4 from rfl), if_pos (.inr hne)]
theorem older_high (n : Fed.Node) (k t : Int) (hv : 2 ≤ n.votes.length) (hi : 0 ≤ n.id ∧ n.id < n.votes.length) (ht : n.term < t) (hk : k = 1 ∨ k = 2 ∨ k = 3 ∨ k = 4) :
    (handleS n (olderMsg k t)).n.term = t ∧ (handleS n (olderMsg k t)).n.role = 0 ∧ ((handleS n (olderMsg k t)).n.vote = -1 ∨ k = 1 ∧ (handleS n (olderMsg k t)).n.vote = 1) := by
  unfold handleS
  rw [if_pos ⟨⟨by show (0 : Int) ≤ 1; decide, by show (1 : Int) < n.votes.length; omega⟩, hi⟩]
  have hb : bump n (olderMsg k t) = { n with term := t, vote := -1, role := 0 } := by unfold bump; rw [if_pos (by show n.term < t; omega)]; rfl
  rw [hb]
  rcases hk with rfl | rfl | rfl | rfl
  · unfold handleIn voteS
    rw [if_pos (show (olderMsg 1 t).kind = 1 from rfl)]
    split
    · exact ⟨rfl, rfl, .inr ⟨rfl, rfl⟩⟩
    · exact ⟨rfl, rfl, .inl rfl⟩
  · unfold handleIn votedS
    rw [if_neg (show ¬ (olderMsg 2 t).kind = 1 from by show ¬ (2 : Int) = 1; decide), if_pos (show (olderMsg 2 t).kind = 2 from rfl), if_pos (.inl (by show (0 : Int) ≠ 1; decide))]
    exact ⟨rfl, rfl, .inl rfl⟩
  · unfold handleIn appendS
    rw [if_neg (show ¬ (olderMsg 3 t).kind = 1 from by show ¬ (3 : Int) = 1; decide), if_neg (show ¬ (olderMsg 3 t).kind = 2 from by show ¬ (3 : Int) = 2; decide), if_pos (show (olderMsg 3 t).kind = 3 from rfl), if_neg (by show ¬ (t ≠ t); simp)]
    split
    · exact ⟨rfl, rfl, .inl rfl⟩
    · exact ⟨rfl, rfl, .inl rfl⟩
  · unfold handleIn matchS
    rw [if_neg (show ¬ (olderMsg 4 t).kind = 1 from by show ¬ (4 : Int) = 1; decide), if_neg (show ¬ (olderMsg 4 t).kind = 2 from by show ¬ (4 : Int) = 2; decide), if_neg (show ¬ (olderMsg 4 t).kind = 3 from by show ¬ (4 : Int) = 3; decide), if_pos (show (olderMsg 4 t).kind = 4 from rfl), if_pos (.inl (by show (0 : Int) ≠ 2; decide))]
    exact ⟨rfl, rfl, .inl rfl⟩
set_option maxRecDepth 100000 in
set_option maxHeartbeats 40000000 in
theorem older_law (a0 : Int) (v1 : Value) (l1 : List Int) (a2 a3 : Int) (x0 : (Lit.int .i64 a0).wf = true) (x2 : (Lit.int .i64 a2).wf = true) (x3 : (Lit.int .i64 a3).wf = true) (w : World) (hr1 : MM.Rd w (fun j => j < w.heap.size) 1 v1 l1.length (intsC l1)) (hw1 : ∀ x, x ∈ l1 → (Lit.int .i64 x).wf = true) :
    Calls Try.prog 11 #[.int .i64 a0, v1, .int .i64 a2, .int .i64 a3] w fun e w' => e = .returned (.bool true) ∧ Below w.heap.size w w' := by
  have HR := Lib.hid hr1
  have HW := Lib.hid hw1
  clear hr1 hw1
  go_enter Try.func11, Try.ntmps11
  go_wp2_with fail
  refine (known_any _).mono ?_
  rintro e w1 ⟨rfl, hb1⟩
  have HB1 := Lib.hid hb1
  clear hb1
  go_wp2_with fail
  refine (within_fn _ a0 4 x0 (by omega) (by omega)).mono ?_
  rintro e w' ⟨rfl, rfl⟩
  have hv := wi_range a0 4 (by omega)
  generalize wi a0 4 = k at hv ⊢
  obtain ⟨k, rfl⟩ : ∃ k' : Nat, k = k' := ⟨k.toNat, by omega⟩
  have hk5 : k < 4 := by omega
  clear hv
  have hws : IntKind.i64.wrap (2 + (k : Int)) = ((k + 2 : Nat) : Int) := by rw [IntWalk.i64_in _ (by omega)]; omega
  go_wp2_with fail
  obtain ⟨K, hK⟩ : ∃ K : Nat, (k : Int) + 2 = K := ⟨k + 2, by omega⟩
  rw [hK]
  have hK1 : 2 ≤ K := by omega
  have hK5 : K ≤ 5 := by omega
  clear hws hk5 hK
  refine (play_all _ K l1 v1 150 (by omega) hK5 ((HR.out.step (fun x hx _ => HB1.out.block x hx)).mono (fun x hx _ => Nat.lt_of_lt_of_le hx HB1.out.size)) HW.out (by omega)).mono ?_
  rintro e w2 ⟨b, c, ok, rfl, hn, hb, hb2⟩
  have SY := good_states (k := K) (by omega) l1 (min l1.length 150) (by omega)
  have SZ := (Sys.states (k := K) (by omega) l1 (min l1.length 150))
  have HB2 := Lib.hid (HB1.out.trans (hb2.mono HB1.out.size))
  have HS2 := Lib.hid (show w.heap.size ≤ w2.heap.size from HB2.out.size)
  generalize (pstates K l1 (min l1.length 150)) = st at SY SZ hn
  obtain ⟨n, hn0⟩ : ∃ n, st.ns[0]? = some n := ⟨_, List.getElem?_eq_getElem (by rw [SY.len]; omega)⟩
  have G := Lib.hid (SY.ns n (List.mem_of_getElem? hn0))
  have HTB := Lib.hid (show n.term ≤ 1000 from by have := (SZ.nb n (List.mem_of_getElem? hn0)).t; omega)
  obtain ⟨σ, vσ, hc⟩ := hn.at_ 0 n hn0
  have V := Lib.hid (vσ.mono (ok' := fun k => k < w2.heap.size) (fun k _ hk => hk))
  have c0 : w2.cell? ⟨b, 0, none⟩ = some (.int .i64 n.id) := by simpa using hc 0 _ rfl
  have c1 : w2.cell? ⟨b, 1, none⟩ = some (.int .i64 n.term) := by simpa using hc 1 _ rfl
  have c2 : w2.cell? ⟨b, 2, none⟩ = some (.int .i64 n.vote) := by simpa using hc 2 _ rfl
  have c3 : w2.cell? ⟨b, 3, none⟩ = some (.slice σ.A3 n.log.length σ.k3) := by simpa using hc 3 _ rfl
  have c4 : w2.cell? ⟨b, 4, none⟩ = some (.int .i64 n.form) := by simpa using hc 4 _ rfl
  have c5 : w2.cell? ⟨b, 5, none⟩ = some (.int .i64 n.role) := by simpa using hc 5 _ rfl
  have c6 : w2.cell? ⟨b, 6, none⟩ = some (.int .i64 n.commit) := by simpa using hc 6 _ rfl
  have c7 : w2.cell? ⟨b, 7, none⟩ = some (.slice σ.A7 n.votes.length σ.k7) := by simpa using hc 7 _ rfl
  have c8 : w2.cell? ⟨b, 8, none⟩ = some (.slice σ.A8 n.nxt.length σ.k8) := by simpa using hc 8 _ rfl
  have c9 : w2.cell? ⟨b, 9, none⟩ = some (.slice σ.A9 n.mtch.length σ.k9) := by simpa using hc 9 _ rfl
  have c10 : w2.cell? ⟨b, 10, none⟩ = some (.slice σ.A10 n.forms.length σ.k10) := by simpa using hc 10 _ rfl
  have c11 : w2.cell? ⟨b, 11, none⟩ = some (.int .i64 n.clock) := by simpa using hc 11 _ rfl
  have c12 : w2.cell? ⟨b, 12, none⟩ = some (.int .i64 n.due) := by simpa using hc 12 _ rfl
  clear SY SZ hn hn0 hb hb2 HB1 HR HW vσ hc
  go_upto_region 7 with (fail)
  refine name_world (F := fun W => Hid (W.heap[w2.heap.size]? = some (.cells #[.int .i64 n.id, .int .i64 n.term, .int .i64 n.vote, .slice σ.A3 n.log.length σ.k3, .int .i64 n.form, .int .i64 n.role, .int .i64 n.commit, .slice σ.A7 n.votes.length σ.k7, .slice σ.A8 n.nxt.length σ.k8, .slice σ.A9 n.mtch.length σ.k9, .slice σ.A10 n.forms.length σ.k10, .int .i64 n.clock, .int .i64 n.due] 28 (0, 0))) ∧ Hid (NodeVs W (fun k => k < w2.heap.size) n σ) ∧ Hid (w2.heap.size < W.heap.size) ∧ Hid (Below w.heap.size w W)) _ (by exact ⟨Lib.hid (MM.alloc_new _ _), Lib.hid (V.out.step (fun k hk _ => Below.heap_alloc _ _ k hk)), Lib.hid (by simp), Lib.hid (HB2.out.alloc HB2.out.size _)⟩) ?_
  clear V HB2 c0 c1 c2 c3 c4 c5 c6 c7 c8 c9 c10 c11 c12
  intro w3 ⟨X, V, W23, HB⟩
  obtain ⟨c0, c1, c2, c3, c4, c5, c6, c7, c8, c9, c10, c11, c12⟩ := MM.cells13 X.out
  by_cases ht : n.term < 1
  · have htb : decide (n.term < 1) = true := decide_eq_true ht
    go_wp2_with fail
    go_ret
    exact ⟨rfl, HB.out⟩
  · have htb : decide (n.term < 1) = false := decide_eq_false ht
    have HT := Lib.hid (show 1 ≤ n.term from by omega)
    clear ht
    go_upto_region 9 with (fail)
    clear htb
    go_wp2_with fail
    refine (within_fn _ a2 4 x2 (by omega) (by omega)).mono ?_
    rintro e w' ⟨rfl, rfl⟩
    have hv := wi_range a2 4 (by omega)
    generalize wi a2 4 = kd at hv ⊢
    obtain ⟨kd, rfl⟩ : ∃ k' : Nat, kd = k' := ⟨kd.toNat, by omega⟩
    have hkd5 : kd < 4 := by omega
    clear hv
    have hws : IntKind.i64.wrap (1 + (kd : Int)) = (kd : Int) + 1 := by rw [IntWalk.i64_in _ (by omega)]; omega
    go_upto_region 10 with (fail)
    obtain ⟨kk, hkk⟩ : ∃ kk : Int, (kd : Int) + 1 = kk := ⟨_, rfl⟩
    rw [hkk]
    have HKK := Lib.hid (show kk = 1 ∨ kk = 2 ∨ kk = 3 ∨ kk = 4 from by omega)
    clear hws hkd5 hkk
    have ht1 := HT.out
    have ht2 := HTB.out
    go_wp2_with fail
    refine (within_fn _ a3 n.term x3 (by omega) (by omega)).mono ?_
    rintro e w' ⟨rfl, rfl⟩
    have hv := wi_range a3 n.term (by omega)
    generalize wi a3 n.term = t0 at hv ⊢
    have HT0 := Lib.hid hv
    clear hv ht1 ht2
    go_upto_region 11 with (fail)
    refine name_world (F := fun W => Hid (W.heap[w2.heap.size]? = some (.cells #[.int .i64 n.id, .int .i64 n.term, .int .i64 n.vote, .slice σ.A3 n.log.length σ.k3, .int .i64 n.form, .int .i64 n.role, .int .i64 n.commit, .slice σ.A7 n.votes.length σ.k7, .slice σ.A8 n.nxt.length σ.k8, .slice σ.A9 n.mtch.length σ.k9, .slice σ.A10 n.forms.length σ.k10, .int .i64 n.clock, .int .i64 n.due] 28 (0, 0))) ∧ Hid (W.heap[w3.heap.size]? = some (.cells #[.int .i64 kk, .int .i64 1, .int .i64 0, .int .i64 t0, .int .i64 0, .int .i64 0, .bool true, .slice none 0 0, .int .i64 0, .int .i64 2] 34 (0, 0))) ∧ Hid (NodeVs W (fun k => k < w2.heap.size) n σ) ∧ Hid (Below w.heap.size w W)) _ (by exact ⟨Lib.hid ((Below.heap_alloc _ _ _ (MM.blk_lt X.out)).trans X.out), Lib.hid (MM.alloc_new _ _), Lib.hid (V.out.step (fun k hk _ => Below.heap_alloc _ _ k (Nat.lt_trans hk (MM.blk_lt X.out)))), Lib.hid (HB.out.alloc HB.out.size _)⟩) ?_
    clear X V HB c0 c1 c2 c3 c4 c5 c6 c7 c8 c9 c10 c11 c12
    intro w4 ⟨X, M, V, HB⟩
    obtain ⟨c0, c1, c2, c3, c4, c5, c6, c7, c8, c9, c10, c11, c12⟩ := MM.cells13 X.out
    obtain ⟨d0, d1, d2, d3, d4, d5, d6, d7, d8, d9⟩ := MM.cells10 M.out
    go_wp2_with fail
    have gx := G.out
    have HLO := Lib.hid (older_low n kk t0 (by rw [gx.v]; exact hK1) ⟨gx.i0, by rw [gx.v]; exact gx.i1⟩ (by have := HT0.out; omega) HKK.out)
    refine (handle_c _ _ n σ V.out (olderMsg kk t0) none 0 (fun _ => True) (MM.Rd.nil _ _ _ _ _ (by simp [maxLen])) (by have := gx.l; omega) (by rw [gx.v]; omega) (by rw [gx.x, gx.v]) (by rw [gx.m, gx.v]) (by rw [gx.f, gx.v]) (by show (0 : Nat) ≤ 1000; decide) (by have := gx.c0; omega) (by have := gx.c1; omega) gx.cm ⟨by show (0 : Int) ≤ 0; decide, by show (0 : Int) ≤ 1000000; decide⟩ (fun i hi => gx.hx i (by rw [← gx.x]; exact hi)) (fun i hi => gx.hy i (by rw [← gx.m]; exact hi))).mono ?_
    rintro e w5 ⟨τ, Ao, ko, rfl, hn5, hm5, hb5⟩
    clear gx
    obtain ⟨out, ho1, ho2⟩ := HLO.out
    rw [ho1] at hn5 hm5 ⊢
    have HO := Lib.hid ho2
    have X5 := Lib.hid ((hb5.block _ (MM.blk_lt X.out)).trans X.out)
    have M5 := Lib.hid ((hb5.block _ (MM.blk_lt M.out)).trans M.out)
    have V5 := Lib.hid (V.out.below hb5)
    have VT := Lib.hid (hn5.mono (ok' := fun k => k < w5.heap.size) (fun k _ hk => hk))
    have MS := Lib.hid (hm5.mono (ok' := fun k => k < w5.heap.size) (fun k _ hk => hk))
    have HB5 := Lib.hid (HB.out.trans (hb5.mono HB.out.size))
    clear ho1 ho2 hn5 hm5 hb5 X M V HB HLO c0 c1 c2 c3 c4 c5 c6 c7 c8 c9 c10 c11 c12 d0 d1 d2 d3 d4 d5 d6 d7 d8 d9
    have NE32 := Lib.hid (show w2.heap.size < w3.heap.size ∧ w2.heap.size ≠ w3.heap.size from by have h9 := W23.out; constructor <;> omega)
    go_upto_region 12 with (fail)
    have HLQ := True.intro
    refine name_world (F := fun W => Hid (W.heap[w2.heap.size]? = some (.cells #[.int .i64 n.id, .int .i64 n.term, .int .i64 n.vote, .slice σ.A3 n.log.length σ.k3, .int .i64 n.form, .int .i64 n.role, .int .i64 n.commit, .slice σ.A7 n.votes.length σ.k7, .slice σ.A8 n.nxt.length σ.k8, .slice σ.A9 n.mtch.length σ.k9, .slice σ.A10 n.forms.length σ.k10, .int .i64 n.clock, .int .i64 n.due] 28 (0, 0))) ∧ Hid (W.heap[w3.heap.size]? = some (.cells #[.int .i64 kk, .int .i64 1, .int .i64 0, .int .i64 t0, .int .i64 0, .int .i64 0, .bool true, .slice none 0 0, .int .i64 0, .int .i64 2] 34 (0, 0))) ∧ Hid (W.heap[w5.heap.size]? = some (.cells #[.int .i64 n.id, .int .i64 n.term, .int .i64 n.vote, .slice τ.A3 n.log.length τ.k3, .int .i64 n.form, .int .i64 n.role, .int .i64 n.commit, .slice τ.A7 n.votes.length τ.k7, .slice τ.A8 n.nxt.length τ.k8, .slice τ.A9 n.mtch.length τ.k9, .slice τ.A10 n.forms.length τ.k10, .int .i64 n.clock, .int .i64 n.due] 28 (0, 0))) ∧ Hid (NodeVs W (fun k => k < w2.heap.size) n σ) ∧ Hid (NodeVs W (fun k => k < w5.heap.size) n τ) ∧ Hid (MsgsV W (fun k => k < w5.heap.size) (.slice Ao out.length ko) out) ∧ Hid (Below w.heap.size w W)) _ (by exact ⟨Lib.hid ((Below.heap_alloc _ _ _ (MM.blk_lt X5.out)).trans X5.out), Lib.hid ((Below.heap_alloc _ _ _ (MM.blk_lt M5.out)).trans M5.out), Lib.hid (MM.alloc_new _ _), Lib.hid (V5.out.step (fun k hk hl => Below.heap_alloc _ _ k hl)), Lib.hid (VT.out.step (fun k hk _ => Below.heap_alloc _ _ k hk)), Lib.hid (MS.out.step (fun k hk _ => Below.heap_alloc _ _ k hk)), Lib.hid (HB5.out.alloc HB5.out.size _)⟩) ?_
    clear X5 M5 V5 VT MS HB5
    intro w6 ⟨X, M, Y, V, U, S, HB⟩
    obtain ⟨c0, c1, c2, c3, c4, c5, c6, c7, c8, c9, c10, c11, c12⟩ := MM.cells13 X.out
    obtain ⟨d0, d1, d2, d3, d4, d5, d6, d7, d8, d9, d10, d11, d12⟩ := MM.cells13 Y.out
    clear HLQ
    rcases HO.out with ⟨h13, xm, rfl, xo, xt⟩ | ⟨h1, h3, rfl⟩
    · obtain ⟨cs1, rd1, mr1⟩ := S.out
      obtain ⟨lq1, Ax1, cx1, ea, sl1, sl2, r1⟩ := rd1
      injection ea with ea1 el ea2
      clear el lq1
      subst ea2
      obtain ⟨bs, os, e', _, bsl, g1⟩ := r1 (by simp)
      obtain ⟨ve1, rv1, gm1⟩ := mr1.get (i := 0) (m := xm) rfl
      obtain rfl := ea1.trans e'
      have z3 : w6.cell? ⟨bs, os + 3, none⟩ = some (.int .i64 n.term) := by have h9 := g1 _ _ (gm1 3 _ rfl); rw [← xt]; simpa using h9
      have z6 : w6.cell? ⟨bs, os + 6, none⟩ = some (.bool false) := by have h9 := g1 _ _ (gm1 6 _ rfl); rw [← xo]; simpa using h9
      have BSL := Lib.hid bsl
      clear r1 ea1 e' mr1 g1 gm1 rv1 sl1 sl2 xo xt HO S
      rcases h13 with rfl | rfl
      · clear HKK
        refine Go.RT.wp_region_tree [0, 0, 3, 7, 15, 31, 63, 127, 255, 511, 1023, 2047, 4095, 8191, 16383, 32767, 65535, 131071, 262143, 524287, 1048575, 2097151, 4194303, 524287, 8912895, 33554431, 67108863, 134217727, 268435455, 536870911, 1073741823, 2147483647, 4294967295, 1073741823, 9663676415, 26843545599, 61203283967, 129922760703, 267361714175, 549755813887, 1099511627775] (.s 0 (.s 1 (.w 2 [] (.p 3 (.p 4 (.p 5 (.p 6 (.p 7 (.p 8 (.p 9 (.p 10 (.p 11 (.p 12 (.p 13 (.p 14 (.p 15 (.p 16 (.s 17 (.p 18 (.p 19 (.p 20 (.p 21 (.s 22 (.p 23 (.s 24 (.p 25 (.p 26 (.p 27 (.p 28 (.p 29 (.p 30 (.p 31 (.p 32 (.p 33 (.p 34 (.p 35 (.p 36 (.p 37 (.p 38 (.p 39 (.p 40 .nil)))))))))))))))))))))))))))))))))))))) .stop))) (by kernel_rfl) (by kernel_rfl) ?_
        repeat (first | (refine Go.RT.step_p rfl (fun K hK => ?_); go_simp; refine hK _ ?_; clear hK K) | (refine Go.RT.step_s rfl (fun K hK => ?_); go_simp; refine hK _ ?_; clear hK K))
        (refine Go.RT.step_w rfl rfl (fun K hK => ?_) Go.RT.step_stop)
        go_wp2_with fail
        have gx := G.out
        refine (rsame_any _ _ _ n σ τ (V.out.step (w1 := w6.drew) (fun _ _ _ => rfl)) (U.out.step (w1 := w6.drew) (fun _ _ _ => rfl)) (by have := gx.l; omega) (by rw [gx.v]; omega) (by rw [gx.x, gx.v]) (by rw [gx.m, gx.v]) (by rw [gx.f, gx.v])).mono ?_
        rintro e w7 ⟨rfl, hb7⟩
        clear gx
        have X7 := Lib.hid ((hb7.block _ (MM.blk_lt X.out)).trans X.out)
        have M7 := Lib.hid ((hb7.block _ (MM.blk_lt M.out)).trans M.out)
        have V7 := Lib.hid ((V.out.step (w1 := w6.drew) (fun _ _ _ => rfl)).below hb7)
        have HB7 := Lib.hid (HB.out.drew.trans (hb7.mono HB.out.size))
        have y3 : w7.cell? ⟨bs, os + 3, none⟩ = some (.int .i64 n.term) := (World.cell?_of_block (a := ⟨bs, os + 3, none⟩) (hb7.block bs BSL.out)).trans z3
        have y6 : w7.cell? ⟨bs, os + 6, none⟩ = some (.bool false) := (World.cell?_of_block (a := ⟨bs, os + 6, none⟩) (hb7.block bs BSL.out)).trans z6
        clear z3 z6
        clear hb7 X M Y V U HB c0 c1 c2 c3 c4 c5 c6 c7 c8 c9 c10 c11 c12 d0 d1 d2 d3 d4 d5 d6 d7 d8 d9 d10 d11 d12
        have c1 : w7.cell? ⟨w2.heap.size, 1, none⟩ = some (.int .i64 n.term) := MM.cell_blk X7.out rfl
        go_wp2_with fail
        refine Go.RT.QK_normal _ _ _ _ (hK _ _ ?_ ?_) <;> clear hK K
        · repeat (first | exact Go.RT.again_nil | (refine Go.RT.again_not rfl rfl ?_) | (refine Go.RT.again_one rfl (by go_simp <;> rfl) ?_))
        repeat (first | (refine Go.RT.step_p rfl (fun K hK => ?_); go_simp; refine hK _ ?_; clear hK K) | (refine Go.RT.step_s rfl (fun K hK => ?_); go_simp; refine hK _ ?_; clear hK K))
        refine Go.RT.step_nil ?_
        go_upto_region 14 with (fail)
        clear y3 y6
        have ht1 := HT.out
        have ht2 := HTB.out
        have hw1 : IntKind.i64.wrap (n.term + 1) = n.term + 1 := IntWalk.i64_in _ (by omega)
        have C1 : w7.drew.cell? ⟨w2.heap.size, 1, none⟩ = some (.int .i64 n.term) := c1
        refine Go.RT.wp_region_tree [0, 1, 3, 0, 8, 31, 63, 127] (.p 0 (.s 1 (.p 2 (.p 3 (.w 4 [1] (.p 5 (.p 6 (.w 7 [] .nil .stop))) .stop))))) (by kernel_rfl) (by kernel_rfl) ?_
        repeat (first | (refine Go.RT.step_p rfl (fun K hK => ?_); go_simp; refine hK _ ?_; clear hK K) | (refine Go.RT.step_s rfl (fun K hK => ?_); go_simp; refine hK _ ?_; clear hK K))
        (refine Go.RT.step_w rfl rfl (fun K hK => ?_) Go.RT.step_stop)
        go_wp2_with fail
        refine (within_fn _ a3 5 x3 (by omega) (by omega)).mono ?_
        rintro e w' ⟨rfl, rfl⟩
        have hv := wi_range a3 5 (by omega)
        generalize wi a3 5 = r at hv ⊢
        have hw2 : IntKind.i64.wrap (n.term + 1 + r) = n.term + 1 + r := IntWalk.i64_in _ (by omega)
        have HR9 := Lib.hid hv
        clear hv
        have m3 : w7.cell? ⟨w3.heap.size, 3, none⟩ = some (.int .i64 t0) := MM.cell_blk M7.out rfl
        have f3 : w7.frozen? ⟨w3.heap.size, 3, none⟩ = false := MM.free_blk M7.out
        go_wp2_with fail
        refine Go.RT.QK_normal _ _ _ _ (hK _ _ ?_ ?_) <;> clear hK K
        · repeat (first | exact Go.RT.again_nil | (refine Go.RT.again_not rfl rfl ?_) | (refine Go.RT.again_one rfl (by go_simp <;> rfl) ?_))
        repeat (first | (refine Go.RT.step_p rfl (fun K hK => ?_); go_simp; refine hK _ ?_; clear hK K) | (refine Go.RT.step_s rfl (fun K hK => ?_); go_simp; refine hK _ ?_; clear hK K))
        (refine Go.RT.step_w rfl rfl (fun K hK => ?_) Go.RT.step_stop)
        go_wp2
        refine Go.RT.QK_normal _ _ _ _ (hK _ _ ?_ ?_) <;> clear hK K
        · repeat (first | exact Go.RT.again_nil | (refine Go.RT.again_not rfl rfl ?_) | (refine Go.RT.again_one rfl (by go_simp <;> rfl) ?_))
        refine Go.RT.step_nil ?_
        go_upto_region 15 with (fail)
        clear c1 C1 hw1 ht1 ht2 m3 f3
        refine name_world (F := fun W => Hid (W.heap[w2.heap.size]? = some (.cells #[.int .i64 n.id, .int .i64 n.term, .int .i64 n.vote, .slice σ.A3 n.log.length σ.k3, .int .i64 n.form, .int .i64 n.role, .int .i64 n.commit, .slice σ.A7 n.votes.length σ.k7, .slice σ.A8 n.nxt.length σ.k8, .slice σ.A9 n.mtch.length σ.k9, .slice σ.A10 n.forms.length σ.k10, .int .i64 n.clock, .int .i64 n.due] 28 (0, 0))) ∧ Hid (W.heap[w3.heap.size]? = some (.cells #[.int .i64 1, .int .i64 1, .int .i64 0, .int .i64 (n.term + 1 + r), .int .i64 0, .int .i64 0, .bool true, .slice none 0 0, .int .i64 0, .int .i64 2] 34 (0, 0))) ∧ Hid (NodeVs W (fun k => k < w2.heap.size) n σ) ∧ Hid (Below w.heap.size w W)) _ (by exact ⟨Lib.hid ((Below.heap_setCell _ _ _ _ NE32.out.2).trans X7.out), Lib.hid ((setCell_blk _ M7.out).trans rfl), Lib.hid (V7.out.step (fun k hk _ => Below.heap_setCell _ _ _ _ (by have := NE32.out.1; have h9 : k < w2.heap.size := hk; show k ≠ w3.heap.size; omega))), Lib.hid ((Below.setCell (p := ⟨w3.heap.size, 3, none⟩) HB7.out (by have := NE32.out.1; have := HS2.out; show w.heap.size ≤ w3.heap.size; omega) _).drew)⟩) ?_
        clear X7 M7 V7 HB7
        intro w8 ⟨X, M, V, HB⟩
        obtain ⟨c0, c1, c2, c3, c4, c5, c6, c7, c8, c9, c10, c11, c12⟩ := MM.cells13 X.out
        obtain ⟨d0, d1, d2, d3, d4, d5, d6, d7, d8, d9⟩ := MM.cells10 M.out
        try clear hw2
        go_wp2_with fail
        have gx := G.out
        have HHI := Lib.hid (older_high n 1 (n.term + 1 + r) (by rw [gx.v]; exact hK1) ⟨gx.i0, by rw [gx.v]; exact gx.i1⟩ (by have := HR9.out; omega) (by decide))
        refine (handle_c _ _ n σ V.out (olderMsg 1 (n.term + 1 + r)) none 0 (fun _ => True) (MM.Rd.nil _ _ _ _ _ (by simp [maxLen])) (by have := gx.l; omega) (by rw [gx.v]; omega) (by rw [gx.x, gx.v]) (by rw [gx.m, gx.v]) (by rw [gx.f, gx.v]) (by show (0 : Nat) ≤ 1000; decide) (by have := gx.c0; omega) (by have := gx.c1; omega) gx.cm ⟨by show (0 : Int) ≤ 0; decide, by show (0 : Int) ≤ 1000000; decide⟩ (fun i hi => gx.hx i (by rw [← gx.x]; exact hi)) (fun i hi => gx.hy i (by rw [← gx.m]; exact hi))).mono ?_
        rintro e w9 ⟨τ9, Ap, kp, rfl, hn9, hm9, hb9⟩
        clear gx
        have M9 := Lib.hid ((hb9.block _ (MM.blk_lt M.out)).trans M.out)
        have HB9 := Lib.hid (HB.out.trans (hb9.mono HB.out.size))
        clear hn9 hm9 hb9 X M V HB c0 c1 c2 c3 c4 c5 c6 c7 c8 c9 c10 c11 c12 d0 d1 d2 d3 d4 d5 d6 d7 d8 d9
        obtain ⟨pn, hpn⟩ : ∃ pn, pn = (handleS n (olderMsg 1 (n.term + 1 + r))).n := ⟨_, rfl⟩
        rw [← hpn] at HHI ⊢
        clear hpn
        have hq1 : (pn.term == n.term + 1 + r) = true := by rw [HHI.out.1]; simp
        have hq2 : (pn.role == 0) = true := by rw [HHI.out.2.1]; rfl
        have HV := Lib.hid HHI.out.2.2
        clear HHI
        go_upto_region 16 with (fail)
        refine name_world (F := fun W => Hid (W.heap[w3.heap.size]? = some (.cells #[.int .i64 1, .int .i64 1, .int .i64 0, .int .i64 (n.term + 1 + r), .int .i64 0, .int .i64 0, .bool true, .slice none 0 0, .int .i64 0, .int .i64 2] 34 (0, 0))) ∧ Hid (W.heap[w9.heap.size]? = some (.cells #[.int .i64 pn.id, .int .i64 pn.term, .int .i64 pn.vote, .slice τ9.A3 pn.log.length τ9.k3, .int .i64 pn.form, .int .i64 pn.role, .int .i64 pn.commit, .slice τ9.A7 pn.votes.length τ9.k7, .slice τ9.A8 pn.nxt.length τ9.k8, .slice τ9.A9 pn.mtch.length τ9.k9, .slice τ9.A10 pn.forms.length τ9.k10, .int .i64 pn.clock, .int .i64 pn.due] 28 (0, 0))) ∧ Hid (Below w.heap.size w W)) _ (by exact ⟨Lib.hid ((Below.heap_alloc _ _ _ (MM.blk_lt M9.out)).trans M9.out), Lib.hid (MM.alloc_new _ _), Lib.hid (HB9.out.alloc HB9.out.size _)⟩) ?_
        clear M9 HB9
        intro wa ⟨M, Y, HB⟩
        have c1 : wa.cell? ⟨w9.heap.size, 1, none⟩ = some (.int .i64 pn.term) := MM.cell_blk Y.out rfl
        have c2 : wa.cell? ⟨w9.heap.size, 2, none⟩ = some (.int .i64 pn.vote) := MM.cell_blk Y.out rfl
        have c5 : wa.cell? ⟨w9.heap.size, 5, none⟩ = some (.int .i64 pn.role) := MM.cell_blk Y.out rfl
        have d3 : wa.cell? ⟨w3.heap.size, 3, none⟩ = some (.int .i64 (n.term + 1 + r)) := MM.cell_blk M.out rfl
        rcases HV.out with hv | ⟨hkk, hv⟩
        · have hq3 : (pn.vote == -1) = true := by rw [hv]; rfl
          have hq4 : (pn.vote != 1) = true := by rw [hv]; rfl
          clear hv
          go_wp2_with fail
          go_ret
          exact ⟨rfl, HB.out⟩
        · have hq3 : (pn.vote == -1) = false := by rw [hv]; rfl
          have hq4 : (pn.vote != 1) = false := by rw [hv]; rfl
          clear hv hkk
          go_wp2_with fail
          go_ret
          exact ⟨rfl, HB.out⟩
      · clear HKK
        refine Go.RT.wp_region_tree [0, 0, 3, 7, 15, 31, 63, 127, 255, 511, 1023, 2047, 4095, 8191, 16383, 32767, 65535, 131071, 262143, 524287, 1048575, 2097151, 4194303, 524287, 8912895, 33554431, 67108863, 134217727, 268435455, 536870911, 1073741823, 2147483647, 4294967295, 1073741823, 9663676415, 26843545599, 61203283967, 129922760703, 267361714175, 549755813887, 1099511627775] (.s 0 (.s 1 (.w 2 [] (.p 3 (.p 4 (.p 5 (.p 6 (.p 7 (.p 8 (.p 9 (.p 10 (.p 11 (.p 12 (.p 13 (.p 14 (.p 15 (.p 16 (.s 17 (.p 18 (.p 19 (.p 20 (.p 21 (.s 22 (.p 23 (.s 24 (.p 25 (.p 26 (.p 27 (.p 28 (.p 29 (.p 30 (.p 31 (.p 32 (.p 33 (.p 34 (.p 35 (.p 36 (.p 37 (.p 38 (.p 39 (.p 40 .nil)))))))))))))))))))))))))))))))))))))) .stop))) (by kernel_rfl) (by kernel_rfl) ?_
        repeat (first | (refine Go.RT.step_p rfl (fun K hK => ?_); go_simp; refine hK _ ?_; clear hK K) | (refine Go.RT.step_s rfl (fun K hK => ?_); go_simp; refine hK _ ?_; clear hK K))
        (refine Go.RT.step_w rfl rfl (fun K hK => ?_) Go.RT.step_stop)
        go_wp2_with fail
        have gx := G.out
        refine (rsame_any _ _ _ n σ τ (V.out.step (w1 := w6.drew) (fun _ _ _ => rfl)) (U.out.step (w1 := w6.drew) (fun _ _ _ => rfl)) (by have := gx.l; omega) (by rw [gx.v]; omega) (by rw [gx.x, gx.v]) (by rw [gx.m, gx.v]) (by rw [gx.f, gx.v])).mono ?_
        rintro e w7 ⟨rfl, hb7⟩
        clear gx
        have X7 := Lib.hid ((hb7.block _ (MM.blk_lt X.out)).trans X.out)
        have M7 := Lib.hid ((hb7.block _ (MM.blk_lt M.out)).trans M.out)
        have V7 := Lib.hid ((V.out.step (w1 := w6.drew) (fun _ _ _ => rfl)).below hb7)
        have HB7 := Lib.hid (HB.out.drew.trans (hb7.mono HB.out.size))
        have y3 : w7.cell? ⟨bs, os + 3, none⟩ = some (.int .i64 n.term) := (World.cell?_of_block (a := ⟨bs, os + 3, none⟩) (hb7.block bs BSL.out)).trans z3
        have y6 : w7.cell? ⟨bs, os + 6, none⟩ = some (.bool false) := (World.cell?_of_block (a := ⟨bs, os + 6, none⟩) (hb7.block bs BSL.out)).trans z6
        clear z3 z6
        clear hb7 X M Y V U HB c0 c1 c2 c3 c4 c5 c6 c7 c8 c9 c10 c11 c12 d0 d1 d2 d3 d4 d5 d6 d7 d8 d9 d10 d11 d12
        have c1 : w7.cell? ⟨w2.heap.size, 1, none⟩ = some (.int .i64 n.term) := MM.cell_blk X7.out rfl
        go_wp2_with fail
        refine Go.RT.QK_normal _ _ _ _ (hK _ _ ?_ ?_) <;> clear hK K
        · repeat (first | exact Go.RT.again_nil | (refine Go.RT.again_not rfl rfl ?_) | (refine Go.RT.again_one rfl (by go_simp <;> rfl) ?_))
        repeat (first | (refine Go.RT.step_p rfl (fun K hK => ?_); go_simp; refine hK _ ?_; clear hK K) | (refine Go.RT.step_s rfl (fun K hK => ?_); go_simp; refine hK _ ?_; clear hK K))
        refine Go.RT.step_nil ?_
        go_upto_region 14 with (fail)
        clear y3 y6
        have ht1 := HT.out
        have ht2 := HTB.out
        have hw1 : IntKind.i64.wrap (n.term + 1) = n.term + 1 := IntWalk.i64_in _ (by omega)
        have C1 : w7.drew.cell? ⟨w2.heap.size, 1, none⟩ = some (.int .i64 n.term) := c1
        refine Go.RT.wp_region_tree [0, 1, 3, 0, 8, 31, 63, 127] (.p 0 (.s 1 (.p 2 (.p 3 (.w 4 [1] (.p 5 (.p 6 (.w 7 [] .nil .stop))) .stop))))) (by kernel_rfl) (by kernel_rfl) ?_
        repeat (first | (refine Go.RT.step_p rfl (fun K hK => ?_); go_simp; refine hK _ ?_; clear hK K) | (refine Go.RT.step_s rfl (fun K hK => ?_); go_simp; refine hK _ ?_; clear hK K))
        (refine Go.RT.step_w rfl rfl (fun K hK => ?_) Go.RT.step_stop)
        go_wp2_with fail
        refine (within_fn _ a3 5 x3 (by omega) (by omega)).mono ?_
        rintro e w' ⟨rfl, rfl⟩
        have hv := wi_range a3 5 (by omega)
        generalize wi a3 5 = r at hv ⊢
        have hw2 : IntKind.i64.wrap (n.term + 1 + r) = n.term + 1 + r := IntWalk.i64_in _ (by omega)
        have HR9 := Lib.hid hv
        clear hv
        have m3 : w7.cell? ⟨w3.heap.size, 3, none⟩ = some (.int .i64 t0) := MM.cell_blk M7.out rfl
        have f3 : w7.frozen? ⟨w3.heap.size, 3, none⟩ = false := MM.free_blk M7.out
        go_wp2_with fail
        refine Go.RT.QK_normal _ _ _ _ (hK _ _ ?_ ?_) <;> clear hK K
        · repeat (first | exact Go.RT.again_nil | (refine Go.RT.again_not rfl rfl ?_) | (refine Go.RT.again_one rfl (by go_simp <;> rfl) ?_))
        repeat (first | (refine Go.RT.step_p rfl (fun K hK => ?_); go_simp; refine hK _ ?_; clear hK K) | (refine Go.RT.step_s rfl (fun K hK => ?_); go_simp; refine hK _ ?_; clear hK K))
        (refine Go.RT.step_w rfl rfl (fun K hK => ?_) Go.RT.step_stop)
        go_wp2
        refine Go.RT.QK_normal _ _ _ _ (hK _ _ ?_ ?_) <;> clear hK K
        · repeat (first | exact Go.RT.again_nil | (refine Go.RT.again_not rfl rfl ?_) | (refine Go.RT.again_one rfl (by go_simp <;> rfl) ?_))
        refine Go.RT.step_nil ?_
        go_upto_region 15 with (fail)
        clear c1 C1 hw1 ht1 ht2 m3 f3
        refine name_world (F := fun W => Hid (W.heap[w2.heap.size]? = some (.cells #[.int .i64 n.id, .int .i64 n.term, .int .i64 n.vote, .slice σ.A3 n.log.length σ.k3, .int .i64 n.form, .int .i64 n.role, .int .i64 n.commit, .slice σ.A7 n.votes.length σ.k7, .slice σ.A8 n.nxt.length σ.k8, .slice σ.A9 n.mtch.length σ.k9, .slice σ.A10 n.forms.length σ.k10, .int .i64 n.clock, .int .i64 n.due] 28 (0, 0))) ∧ Hid (W.heap[w3.heap.size]? = some (.cells #[.int .i64 3, .int .i64 1, .int .i64 0, .int .i64 (n.term + 1 + r), .int .i64 0, .int .i64 0, .bool true, .slice none 0 0, .int .i64 0, .int .i64 2] 34 (0, 0))) ∧ Hid (NodeVs W (fun k => k < w2.heap.size) n σ) ∧ Hid (Below w.heap.size w W)) _ (by exact ⟨Lib.hid ((Below.heap_setCell _ _ _ _ NE32.out.2).trans X7.out), Lib.hid ((setCell_blk _ M7.out).trans rfl), Lib.hid (V7.out.step (fun k hk _ => Below.heap_setCell _ _ _ _ (by have := NE32.out.1; have h9 : k < w2.heap.size := hk; show k ≠ w3.heap.size; omega))), Lib.hid ((Below.setCell (p := ⟨w3.heap.size, 3, none⟩) HB7.out (by have := NE32.out.1; have := HS2.out; show w.heap.size ≤ w3.heap.size; omega) _).drew)⟩) ?_
        clear X7 M7 V7 HB7
        intro w8 ⟨X, M, V, HB⟩
        obtain ⟨c0, c1, c2, c3, c4, c5, c6, c7, c8, c9, c10, c11, c12⟩ := MM.cells13 X.out
        obtain ⟨d0, d1, d2, d3, d4, d5, d6, d7, d8, d9⟩ := MM.cells10 M.out
        try clear hw2
        go_wp2_with fail
        have gx := G.out
        have HHI := Lib.hid (older_high n 3 (n.term + 1 + r) (by rw [gx.v]; exact hK1) ⟨gx.i0, by rw [gx.v]; exact gx.i1⟩ (by have := HR9.out; omega) (by decide))
        refine (handle_c _ _ n σ V.out (olderMsg 3 (n.term + 1 + r)) none 0 (fun _ => True) (MM.Rd.nil _ _ _ _ _ (by simp [maxLen])) (by have := gx.l; omega) (by rw [gx.v]; omega) (by rw [gx.x, gx.v]) (by rw [gx.m, gx.v]) (by rw [gx.f, gx.v]) (by show (0 : Nat) ≤ 1000; decide) (by have := gx.c0; omega) (by have := gx.c1; omega) gx.cm ⟨by show (0 : Int) ≤ 0; decide, by show (0 : Int) ≤ 1000000; decide⟩ (fun i hi => gx.hx i (by rw [← gx.x]; exact hi)) (fun i hi => gx.hy i (by rw [← gx.m]; exact hi))).mono ?_
        rintro e w9 ⟨τ9, Ap, kp, rfl, hn9, hm9, hb9⟩
        clear gx
        have M9 := Lib.hid ((hb9.block _ (MM.blk_lt M.out)).trans M.out)
        have HB9 := Lib.hid (HB.out.trans (hb9.mono HB.out.size))
        clear hn9 hm9 hb9 X M V HB c0 c1 c2 c3 c4 c5 c6 c7 c8 c9 c10 c11 c12 d0 d1 d2 d3 d4 d5 d6 d7 d8 d9
        obtain ⟨pn, hpn⟩ : ∃ pn, pn = (handleS n (olderMsg 3 (n.term + 1 + r))).n := ⟨_, rfl⟩
        rw [← hpn] at HHI ⊢
        clear hpn
        have hq1 : (pn.term == n.term + 1 + r) = true := by rw [HHI.out.1]; simp
        have hq2 : (pn.role == 0) = true := by rw [HHI.out.2.1]; rfl
        have HV := Lib.hid HHI.out.2.2
        clear HHI
        go_upto_region 16 with (fail)
        refine name_world (F := fun W => Hid (W.heap[w3.heap.size]? = some (.cells #[.int .i64 3, .int .i64 1, .int .i64 0, .int .i64 (n.term + 1 + r), .int .i64 0, .int .i64 0, .bool true, .slice none 0 0, .int .i64 0, .int .i64 2] 34 (0, 0))) ∧ Hid (W.heap[w9.heap.size]? = some (.cells #[.int .i64 pn.id, .int .i64 pn.term, .int .i64 pn.vote, .slice τ9.A3 pn.log.length τ9.k3, .int .i64 pn.form, .int .i64 pn.role, .int .i64 pn.commit, .slice τ9.A7 pn.votes.length τ9.k7, .slice τ9.A8 pn.nxt.length τ9.k8, .slice τ9.A9 pn.mtch.length τ9.k9, .slice τ9.A10 pn.forms.length τ9.k10, .int .i64 pn.clock, .int .i64 pn.due] 28 (0, 0))) ∧ Hid (Below w.heap.size w W)) _ (by exact ⟨Lib.hid ((Below.heap_alloc _ _ _ (MM.blk_lt M9.out)).trans M9.out), Lib.hid (MM.alloc_new _ _), Lib.hid (HB9.out.alloc HB9.out.size _)⟩) ?_
        clear M9 HB9
        intro wa ⟨M, Y, HB⟩
        have c1 : wa.cell? ⟨w9.heap.size, 1, none⟩ = some (.int .i64 pn.term) := MM.cell_blk Y.out rfl
        have c2 : wa.cell? ⟨w9.heap.size, 2, none⟩ = some (.int .i64 pn.vote) := MM.cell_blk Y.out rfl
        have c5 : wa.cell? ⟨w9.heap.size, 5, none⟩ = some (.int .i64 pn.role) := MM.cell_blk Y.out rfl
        have d3 : wa.cell? ⟨w3.heap.size, 3, none⟩ = some (.int .i64 (n.term + 1 + r)) := MM.cell_blk M.out rfl
        rcases HV.out with hv | ⟨hkk, hv⟩
        · have hq3 : (pn.vote == -1) = true := by rw [hv]; rfl
          have hq4 : (pn.vote != 1) = true := by rw [hv]; rfl
          clear hv
          go_wp2_with fail
          go_ret
          exact ⟨rfl, HB.out⟩
        · exact absurd hkk (by decide)
    · rcases HKK.out with rfl | rfl | rfl | rfl
      · exact absurd rfl h1
      · clear HKK h1 h3 HO S
        refine Go.RT.wp_region_tree [0, 0, 3, 7, 15, 31, 63, 127, 255, 511, 1023, 2047, 4095, 8191, 16383, 32767, 65535, 131071, 262143, 524287, 1048575, 2097151, 4194303, 524287, 8912895, 33554431, 67108863, 134217727, 268435455, 536870911, 1073741823, 2147483647, 4294967295, 1073741823, 9663676415, 26843545599, 61203283967, 129922760703, 267361714175, 549755813887, 1099511627775] (.s 0 (.s 1 (.w 2 [] (.p 3 (.p 4 (.p 5 (.p 6 (.p 7 (.p 8 (.p 9 (.p 10 (.p 11 (.p 12 (.p 13 (.p 14 (.p 15 (.p 16 (.s 17 (.p 18 (.p 19 (.p 20 (.p 21 (.s 22 (.p 23 (.s 24 (.p 25 (.p 26 (.p 27 (.p 28 (.p 29 (.p 30 (.p 31 (.p 32 (.p 33 (.p 34 (.p 35 (.p 36 (.p 37 (.p 38 (.p 39 (.p 40 .nil)))))))))))))))))))))))))))))))))))))) .stop))) (by kernel_rfl) (by kernel_rfl) ?_
        repeat (first | (refine Go.RT.step_p rfl (fun K hK => ?_); go_simp; refine hK _ ?_; clear hK K) | (refine Go.RT.step_s rfl (fun K hK => ?_); go_simp; refine hK _ ?_; clear hK K))
        (refine Go.RT.step_w rfl rfl (fun K hK => ?_) Go.RT.step_stop)
        go_wp2_with fail
        have gx := G.out
        refine (rsame_any _ _ _ n σ τ (V.out.step (w1 := w6.drew) (fun _ _ _ => rfl)) (U.out.step (w1 := w6.drew) (fun _ _ _ => rfl)) (by have := gx.l; omega) (by rw [gx.v]; omega) (by rw [gx.x, gx.v]) (by rw [gx.m, gx.v]) (by rw [gx.f, gx.v])).mono ?_
        rintro e w7 ⟨rfl, hb7⟩
        clear gx
        have X7 := Lib.hid ((hb7.block _ (MM.blk_lt X.out)).trans X.out)
        have M7 := Lib.hid ((hb7.block _ (MM.blk_lt M.out)).trans M.out)
        have V7 := Lib.hid ((V.out.step (w1 := w6.drew) (fun _ _ _ => rfl)).below hb7)
        have HB7 := Lib.hid (HB.out.drew.trans (hb7.mono HB.out.size))
        clear hb7 X M Y V U HB c0 c1 c2 c3 c4 c5 c6 c7 c8 c9 c10 c11 c12 d0 d1 d2 d3 d4 d5 d6 d7 d8 d9 d10 d11 d12
        have c1 : w7.cell? ⟨w2.heap.size, 1, none⟩ = some (.int .i64 n.term) := MM.cell_blk X7.out rfl
        go_wp2_with fail
        refine Go.RT.QK_normal _ _ _ _ (hK _ _ ?_ ?_) <;> clear hK K
        · repeat (first | exact Go.RT.again_nil | (refine Go.RT.again_not rfl rfl ?_) | (refine Go.RT.again_one rfl (by go_simp <;> rfl) ?_))
        repeat (first | (refine Go.RT.step_p rfl (fun K hK => ?_); go_simp; refine hK _ ?_; clear hK K) | (refine Go.RT.step_s rfl (fun K hK => ?_); go_simp; refine hK _ ?_; clear hK K))
        refine Go.RT.step_nil ?_
        go_upto_region 14 with (fail)
        skip
        have ht1 := HT.out
        have ht2 := HTB.out
        have hw1 : IntKind.i64.wrap (n.term + 1) = n.term + 1 := IntWalk.i64_in _ (by omega)
        have C1 : w7.drew.cell? ⟨w2.heap.size, 1, none⟩ = some (.int .i64 n.term) := c1
        refine Go.RT.wp_region_tree [0, 1, 3, 0, 8, 31, 63, 127] (.p 0 (.s 1 (.p 2 (.p 3 (.w 4 [1] (.p 5 (.p 6 (.w 7 [] .nil .stop))) .stop))))) (by kernel_rfl) (by kernel_rfl) ?_
        repeat (first | (refine Go.RT.step_p rfl (fun K hK => ?_); go_simp; refine hK _ ?_; clear hK K) | (refine Go.RT.step_s rfl (fun K hK => ?_); go_simp; refine hK _ ?_; clear hK K))
        (refine Go.RT.step_w rfl rfl (fun K hK => ?_) Go.RT.step_stop)
        go_wp2_with fail
        refine (within_fn _ a3 5 x3 (by omega) (by omega)).mono ?_
        rintro e w' ⟨rfl, rfl⟩
        have hv := wi_range a3 5 (by omega)
        generalize wi a3 5 = r at hv ⊢
        have hw2 : IntKind.i64.wrap (n.term + 1 + r) = n.term + 1 + r := IntWalk.i64_in _ (by omega)
        have HR9 := Lib.hid hv
        clear hv
        have m3 : w7.cell? ⟨w3.heap.size, 3, none⟩ = some (.int .i64 t0) := MM.cell_blk M7.out rfl
        have f3 : w7.frozen? ⟨w3.heap.size, 3, none⟩ = false := MM.free_blk M7.out
        go_wp2_with fail
        refine Go.RT.QK_normal _ _ _ _ (hK _ _ ?_ ?_) <;> clear hK K
        · repeat (first | exact Go.RT.again_nil | (refine Go.RT.again_not rfl rfl ?_) | (refine Go.RT.again_one rfl (by go_simp <;> rfl) ?_))
        repeat (first | (refine Go.RT.step_p rfl (fun K hK => ?_); go_simp; refine hK _ ?_; clear hK K) | (refine Go.RT.step_s rfl (fun K hK => ?_); go_simp; refine hK _ ?_; clear hK K))
        (refine Go.RT.step_w rfl rfl (fun K hK => ?_) Go.RT.step_stop)
        go_wp2
        refine Go.RT.QK_normal _ _ _ _ (hK _ _ ?_ ?_) <;> clear hK K
        · repeat (first | exact Go.RT.again_nil | (refine Go.RT.again_not rfl rfl ?_) | (refine Go.RT.again_one rfl (by go_simp <;> rfl) ?_))
        refine Go.RT.step_nil ?_
        go_upto_region 15 with (fail)
        clear c1 C1 hw1 ht1 ht2 m3 f3
        refine name_world (F := fun W => Hid (W.heap[w2.heap.size]? = some (.cells #[.int .i64 n.id, .int .i64 n.term, .int .i64 n.vote, .slice σ.A3 n.log.length σ.k3, .int .i64 n.form, .int .i64 n.role, .int .i64 n.commit, .slice σ.A7 n.votes.length σ.k7, .slice σ.A8 n.nxt.length σ.k8, .slice σ.A9 n.mtch.length σ.k9, .slice σ.A10 n.forms.length σ.k10, .int .i64 n.clock, .int .i64 n.due] 28 (0, 0))) ∧ Hid (W.heap[w3.heap.size]? = some (.cells #[.int .i64 2, .int .i64 1, .int .i64 0, .int .i64 (n.term + 1 + r), .int .i64 0, .int .i64 0, .bool true, .slice none 0 0, .int .i64 0, .int .i64 2] 34 (0, 0))) ∧ Hid (NodeVs W (fun k => k < w2.heap.size) n σ) ∧ Hid (Below w.heap.size w W)) _ (by exact ⟨Lib.hid ((Below.heap_setCell _ _ _ _ NE32.out.2).trans X7.out), Lib.hid ((setCell_blk _ M7.out).trans rfl), Lib.hid (V7.out.step (fun k hk _ => Below.heap_setCell _ _ _ _ (by have := NE32.out.1; have h9 : k < w2.heap.size := hk; show k ≠ w3.heap.size; omega))), Lib.hid ((Below.setCell (p := ⟨w3.heap.size, 3, none⟩) HB7.out (by have := NE32.out.1; have := HS2.out; show w.heap.size ≤ w3.heap.size; omega) _).drew)⟩) ?_
        clear X7 M7 V7 HB7
        intro w8 ⟨X, M, V, HB⟩
        obtain ⟨c0, c1, c2, c3, c4, c5, c6, c7, c8, c9, c10, c11, c12⟩ := MM.cells13 X.out
        obtain ⟨d0, d1, d2, d3, d4, d5, d6, d7, d8, d9⟩ := MM.cells10 M.out
        try clear hw2
        go_wp2_with fail
        have gx := G.out
        have HHI := Lib.hid (older_high n 2 (n.term + 1 + r) (by rw [gx.v]; exact hK1) ⟨gx.i0, by rw [gx.v]; exact gx.i1⟩ (by have := HR9.out; omega) (by decide))
        refine (handle_c _ _ n σ V.out (olderMsg 2 (n.term + 1 + r)) none 0 (fun _ => True) (MM.Rd.nil _ _ _ _ _ (by simp [maxLen])) (by have := gx.l; omega) (by rw [gx.v]; omega) (by rw [gx.x, gx.v]) (by rw [gx.m, gx.v]) (by rw [gx.f, gx.v]) (by show (0 : Nat) ≤ 1000; decide) (by have := gx.c0; omega) (by have := gx.c1; omega) gx.cm ⟨by show (0 : Int) ≤ 0; decide, by show (0 : Int) ≤ 1000000; decide⟩ (fun i hi => gx.hx i (by rw [← gx.x]; exact hi)) (fun i hi => gx.hy i (by rw [← gx.m]; exact hi))).mono ?_
        rintro e w9 ⟨τ9, Ap, kp, rfl, hn9, hm9, hb9⟩
        clear gx
        have M9 := Lib.hid ((hb9.block _ (MM.blk_lt M.out)).trans M.out)
        have HB9 := Lib.hid (HB.out.trans (hb9.mono HB.out.size))
        clear hn9 hm9 hb9 X M V HB c0 c1 c2 c3 c4 c5 c6 c7 c8 c9 c10 c11 c12 d0 d1 d2 d3 d4 d5 d6 d7 d8 d9
        obtain ⟨pn, hpn⟩ : ∃ pn, pn = (handleS n (olderMsg 2 (n.term + 1 + r))).n := ⟨_, rfl⟩
        rw [← hpn] at HHI ⊢
        clear hpn
        have hq1 : (pn.term == n.term + 1 + r) = true := by rw [HHI.out.1]; simp
        have hq2 : (pn.role == 0) = true := by rw [HHI.out.2.1]; rfl
        have HV := Lib.hid HHI.out.2.2
        clear HHI
        go_upto_region 16 with (fail)
        refine name_world (F := fun W => Hid (W.heap[w3.heap.size]? = some (.cells #[.int .i64 2, .int .i64 1, .int .i64 0, .int .i64 (n.term + 1 + r), .int .i64 0, .int .i64 0, .bool true, .slice none 0 0, .int .i64 0, .int .i64 2] 34 (0, 0))) ∧ Hid (W.heap[w9.heap.size]? = some (.cells #[.int .i64 pn.id, .int .i64 pn.term, .int .i64 pn.vote, .slice τ9.A3 pn.log.length τ9.k3, .int .i64 pn.form, .int .i64 pn.role, .int .i64 pn.commit, .slice τ9.A7 pn.votes.length τ9.k7, .slice τ9.A8 pn.nxt.length τ9.k8, .slice τ9.A9 pn.mtch.length τ9.k9, .slice τ9.A10 pn.forms.length τ9.k10, .int .i64 pn.clock, .int .i64 pn.due] 28 (0, 0))) ∧ Hid (Below w.heap.size w W)) _ (by exact ⟨Lib.hid ((Below.heap_alloc _ _ _ (MM.blk_lt M9.out)).trans M9.out), Lib.hid (MM.alloc_new _ _), Lib.hid (HB9.out.alloc HB9.out.size _)⟩) ?_
        clear M9 HB9
        intro wa ⟨M, Y, HB⟩
        have c1 : wa.cell? ⟨w9.heap.size, 1, none⟩ = some (.int .i64 pn.term) := MM.cell_blk Y.out rfl
        have c2 : wa.cell? ⟨w9.heap.size, 2, none⟩ = some (.int .i64 pn.vote) := MM.cell_blk Y.out rfl
        have c5 : wa.cell? ⟨w9.heap.size, 5, none⟩ = some (.int .i64 pn.role) := MM.cell_blk Y.out rfl
        have d3 : wa.cell? ⟨w3.heap.size, 3, none⟩ = some (.int .i64 (n.term + 1 + r)) := MM.cell_blk M.out rfl
        rcases HV.out with hv | ⟨hkk, hv⟩
        · have hq3 : (pn.vote == -1) = true := by rw [hv]; rfl
          have hq4 : (pn.vote != 1) = true := by rw [hv]; rfl
          clear hv
          go_wp2_with fail
          go_ret
          exact ⟨rfl, HB.out⟩
        · exact absurd hkk (by decide)
      · exact absurd rfl h3
      · clear HKK h1 h3 HO S
        refine Go.RT.wp_region_tree [0, 0, 3, 7, 15, 31, 63, 127, 255, 511, 1023, 2047, 4095, 8191, 16383, 32767, 65535, 131071, 262143, 524287, 1048575, 2097151, 4194303, 524287, 8912895, 33554431, 67108863, 134217727, 268435455, 536870911, 1073741823, 2147483647, 4294967295, 1073741823, 9663676415, 26843545599, 61203283967, 129922760703, 267361714175, 549755813887, 1099511627775] (.s 0 (.s 1 (.w 2 [] (.p 3 (.p 4 (.p 5 (.p 6 (.p 7 (.p 8 (.p 9 (.p 10 (.p 11 (.p 12 (.p 13 (.p 14 (.p 15 (.p 16 (.s 17 (.p 18 (.p 19 (.p 20 (.p 21 (.s 22 (.p 23 (.s 24 (.p 25 (.p 26 (.p 27 (.p 28 (.p 29 (.p 30 (.p 31 (.p 32 (.p 33 (.p 34 (.p 35 (.p 36 (.p 37 (.p 38 (.p 39 (.p 40 .nil)))))))))))))))))))))))))))))))))))))) .stop))) (by kernel_rfl) (by kernel_rfl) ?_
        repeat (first | (refine Go.RT.step_p rfl (fun K hK => ?_); go_simp; refine hK _ ?_; clear hK K) | (refine Go.RT.step_s rfl (fun K hK => ?_); go_simp; refine hK _ ?_; clear hK K))
        (refine Go.RT.step_w rfl rfl (fun K hK => ?_) Go.RT.step_stop)
        go_wp2_with fail
        have gx := G.out
        refine (rsame_any _ _ _ n σ τ (V.out.step (w1 := w6.drew) (fun _ _ _ => rfl)) (U.out.step (w1 := w6.drew) (fun _ _ _ => rfl)) (by have := gx.l; omega) (by rw [gx.v]; omega) (by rw [gx.x, gx.v]) (by rw [gx.m, gx.v]) (by rw [gx.f, gx.v])).mono ?_
        rintro e w7 ⟨rfl, hb7⟩
        clear gx
        have X7 := Lib.hid ((hb7.block _ (MM.blk_lt X.out)).trans X.out)
        have M7 := Lib.hid ((hb7.block _ (MM.blk_lt M.out)).trans M.out)
        have V7 := Lib.hid ((V.out.step (w1 := w6.drew) (fun _ _ _ => rfl)).below hb7)
        have HB7 := Lib.hid (HB.out.drew.trans (hb7.mono HB.out.size))
        clear hb7 X M Y V U HB c0 c1 c2 c3 c4 c5 c6 c7 c8 c9 c10 c11 c12 d0 d1 d2 d3 d4 d5 d6 d7 d8 d9 d10 d11 d12
        have c1 : w7.cell? ⟨w2.heap.size, 1, none⟩ = some (.int .i64 n.term) := MM.cell_blk X7.out rfl
        go_wp2_with fail
        refine Go.RT.QK_normal _ _ _ _ (hK _ _ ?_ ?_) <;> clear hK K
        · repeat (first | exact Go.RT.again_nil | (refine Go.RT.again_not rfl rfl ?_) | (refine Go.RT.again_one rfl (by go_simp <;> rfl) ?_))
        repeat (first | (refine Go.RT.step_p rfl (fun K hK => ?_); go_simp; refine hK _ ?_; clear hK K) | (refine Go.RT.step_s rfl (fun K hK => ?_); go_simp; refine hK _ ?_; clear hK K))
        refine Go.RT.step_nil ?_
        go_upto_region 14 with (fail)
        skip
        have ht1 := HT.out
        have ht2 := HTB.out
        have hw1 : IntKind.i64.wrap (n.term + 1) = n.term + 1 := IntWalk.i64_in _ (by omega)
        have C1 : w7.drew.cell? ⟨w2.heap.size, 1, none⟩ = some (.int .i64 n.term) := c1
        refine Go.RT.wp_region_tree [0, 1, 3, 0, 8, 31, 63, 127] (.p 0 (.s 1 (.p 2 (.p 3 (.w 4 [1] (.p 5 (.p 6 (.w 7 [] .nil .stop))) .stop))))) (by kernel_rfl) (by kernel_rfl) ?_
        repeat (first | (refine Go.RT.step_p rfl (fun K hK => ?_); go_simp; refine hK _ ?_; clear hK K) | (refine Go.RT.step_s rfl (fun K hK => ?_); go_simp; refine hK _ ?_; clear hK K))
        (refine Go.RT.step_w rfl rfl (fun K hK => ?_) Go.RT.step_stop)
        go_wp2_with fail
        refine (within_fn _ a3 5 x3 (by omega) (by omega)).mono ?_
        rintro e w' ⟨rfl, rfl⟩
        have hv := wi_range a3 5 (by omega)
        generalize wi a3 5 = r at hv ⊢
        have hw2 : IntKind.i64.wrap (n.term + 1 + r) = n.term + 1 + r := IntWalk.i64_in _ (by omega)
        have HR9 := Lib.hid hv
        clear hv
        have m3 : w7.cell? ⟨w3.heap.size, 3, none⟩ = some (.int .i64 t0) := MM.cell_blk M7.out rfl
        have f3 : w7.frozen? ⟨w3.heap.size, 3, none⟩ = false := MM.free_blk M7.out
        go_wp2_with fail
        refine Go.RT.QK_normal _ _ _ _ (hK _ _ ?_ ?_) <;> clear hK K
        · repeat (first | exact Go.RT.again_nil | (refine Go.RT.again_not rfl rfl ?_) | (refine Go.RT.again_one rfl (by go_simp <;> rfl) ?_))
        repeat (first | (refine Go.RT.step_p rfl (fun K hK => ?_); go_simp; refine hK _ ?_; clear hK K) | (refine Go.RT.step_s rfl (fun K hK => ?_); go_simp; refine hK _ ?_; clear hK K))
        (refine Go.RT.step_w rfl rfl (fun K hK => ?_) Go.RT.step_stop)
        go_wp2
        refine Go.RT.QK_normal _ _ _ _ (hK _ _ ?_ ?_) <;> clear hK K
        · repeat (first | exact Go.RT.again_nil | (refine Go.RT.again_not rfl rfl ?_) | (refine Go.RT.again_one rfl (by go_simp <;> rfl) ?_))
        refine Go.RT.step_nil ?_
        go_upto_region 15 with (fail)
        clear c1 C1 hw1 ht1 ht2 m3 f3
        refine name_world (F := fun W => Hid (W.heap[w2.heap.size]? = some (.cells #[.int .i64 n.id, .int .i64 n.term, .int .i64 n.vote, .slice σ.A3 n.log.length σ.k3, .int .i64 n.form, .int .i64 n.role, .int .i64 n.commit, .slice σ.A7 n.votes.length σ.k7, .slice σ.A8 n.nxt.length σ.k8, .slice σ.A9 n.mtch.length σ.k9, .slice σ.A10 n.forms.length σ.k10, .int .i64 n.clock, .int .i64 n.due] 28 (0, 0))) ∧ Hid (W.heap[w3.heap.size]? = some (.cells #[.int .i64 4, .int .i64 1, .int .i64 0, .int .i64 (n.term + 1 + r), .int .i64 0, .int .i64 0, .bool true, .slice none 0 0, .int .i64 0, .int .i64 2] 34 (0, 0))) ∧ Hid (NodeVs W (fun k => k < w2.heap.size) n σ) ∧ Hid (Below w.heap.size w W)) _ (by exact ⟨Lib.hid ((Below.heap_setCell _ _ _ _ NE32.out.2).trans X7.out), Lib.hid ((setCell_blk _ M7.out).trans rfl), Lib.hid (V7.out.step (fun k hk _ => Below.heap_setCell _ _ _ _ (by have := NE32.out.1; have h9 : k < w2.heap.size := hk; show k ≠ w3.heap.size; omega))), Lib.hid ((Below.setCell (p := ⟨w3.heap.size, 3, none⟩) HB7.out (by have := NE32.out.1; have := HS2.out; show w.heap.size ≤ w3.heap.size; omega) _).drew)⟩) ?_
        clear X7 M7 V7 HB7
        intro w8 ⟨X, M, V, HB⟩
        obtain ⟨c0, c1, c2, c3, c4, c5, c6, c7, c8, c9, c10, c11, c12⟩ := MM.cells13 X.out
        obtain ⟨d0, d1, d2, d3, d4, d5, d6, d7, d8, d9⟩ := MM.cells10 M.out
        try clear hw2
        go_wp2_with fail
        have gx := G.out
        have HHI := Lib.hid (older_high n 4 (n.term + 1 + r) (by rw [gx.v]; exact hK1) ⟨gx.i0, by rw [gx.v]; exact gx.i1⟩ (by have := HR9.out; omega) (by decide))
        refine (handle_c _ _ n σ V.out (olderMsg 4 (n.term + 1 + r)) none 0 (fun _ => True) (MM.Rd.nil _ _ _ _ _ (by simp [maxLen])) (by have := gx.l; omega) (by rw [gx.v]; omega) (by rw [gx.x, gx.v]) (by rw [gx.m, gx.v]) (by rw [gx.f, gx.v]) (by show (0 : Nat) ≤ 1000; decide) (by have := gx.c0; omega) (by have := gx.c1; omega) gx.cm ⟨by show (0 : Int) ≤ 0; decide, by show (0 : Int) ≤ 1000000; decide⟩ (fun i hi => gx.hx i (by rw [← gx.x]; exact hi)) (fun i hi => gx.hy i (by rw [← gx.m]; exact hi))).mono ?_
        rintro e w9 ⟨τ9, Ap, kp, rfl, hn9, hm9, hb9⟩
        clear gx
        have M9 := Lib.hid ((hb9.block _ (MM.blk_lt M.out)).trans M.out)
        have HB9 := Lib.hid (HB.out.trans (hb9.mono HB.out.size))
        clear hn9 hm9 hb9 X M V HB c0 c1 c2 c3 c4 c5 c6 c7 c8 c9 c10 c11 c12 d0 d1 d2 d3 d4 d5 d6 d7 d8 d9
        obtain ⟨pn, hpn⟩ : ∃ pn, pn = (handleS n (olderMsg 4 (n.term + 1 + r))).n := ⟨_, rfl⟩
        rw [← hpn] at HHI ⊢
        clear hpn
        have hq1 : (pn.term == n.term + 1 + r) = true := by rw [HHI.out.1]; simp
        have hq2 : (pn.role == 0) = true := by rw [HHI.out.2.1]; rfl
        have HV := Lib.hid HHI.out.2.2
        clear HHI
        go_upto_region 16 with (fail)
        refine name_world (F := fun W => Hid (W.heap[w3.heap.size]? = some (.cells #[.int .i64 4, .int .i64 1, .int .i64 0, .int .i64 (n.term + 1 + r), .int .i64 0, .int .i64 0, .bool true, .slice none 0 0, .int .i64 0, .int .i64 2] 34 (0, 0))) ∧ Hid (W.heap[w9.heap.size]? = some (.cells #[.int .i64 pn.id, .int .i64 pn.term, .int .i64 pn.vote, .slice τ9.A3 pn.log.length τ9.k3, .int .i64 pn.form, .int .i64 pn.role, .int .i64 pn.commit, .slice τ9.A7 pn.votes.length τ9.k7, .slice τ9.A8 pn.nxt.length τ9.k8, .slice τ9.A9 pn.mtch.length τ9.k9, .slice τ9.A10 pn.forms.length τ9.k10, .int .i64 pn.clock, .int .i64 pn.due] 28 (0, 0))) ∧ Hid (Below w.heap.size w W)) _ (by exact ⟨Lib.hid ((Below.heap_alloc _ _ _ (MM.blk_lt M9.out)).trans M9.out), Lib.hid (MM.alloc_new _ _), Lib.hid (HB9.out.alloc HB9.out.size _)⟩) ?_
        clear M9 HB9
        intro wa ⟨M, Y, HB⟩
        have c1 : wa.cell? ⟨w9.heap.size, 1, none⟩ = some (.int .i64 pn.term) := MM.cell_blk Y.out rfl
        have c2 : wa.cell? ⟨w9.heap.size, 2, none⟩ = some (.int .i64 pn.vote) := MM.cell_blk Y.out rfl
        have c5 : wa.cell? ⟨w9.heap.size, 5, none⟩ = some (.int .i64 pn.role) := MM.cell_blk Y.out rfl
        have d3 : wa.cell? ⟨w3.heap.size, 3, none⟩ = some (.int .i64 (n.term + 1 + r)) := MM.cell_blk M.out rfl
        rcases HV.out with hv | ⟨hkk, hv⟩
        · have hq3 : (pn.vote == -1) = true := by rw [hv]; rfl
          have hq4 : (pn.vote != 1) = true := by rw [hv]; rfl
          clear hv
          go_wp2_with fail
          go_ret
          exact ⟨rfl, HB.out⟩
        · exact absurd hkk (by decide)

end Go.Proofs.Ytnkmljdkokcdjaa
