/- The law's leader: a node that all have voted for. -/
import Derived.WalkKit
import Derived.WalkSpells
import Derived.Lib.Hide
import Derived.Outline
import Derived.Test.YtnkmljdkokcdjaaChecked
import Derived.Test.YtnkmljdkokcdjaaMn
import Derived.Test.YtnkmljdkokcdjaaMem
import Derived.Test.YtnkmljdkokcdjaaFed
import Derived.Test.YtnkmljdkokcdjaaIa
import Derived.Test.YtnkmljdkokcdjaaMc
import Derived.Test.YtnkmljdkokcdjaaRk1
import Derived.Test.YtnkmljdkokcdjaaRn6
import Derived.Test.YtnkmljdkokcdjaaRn11
import Derived.Deep.DeepCutAuto
import Derived.Deep.CutBlock
import Derived.Deep.OwnRows
import Derived.IntWalk
set_option linter.unusedVariables false
set_option linter.unusedSimpArgs false
namespace Go.Proofs.Ytnkmljdkokcdjaa
open Go.RowKit Fed
set_option linter.unusedVariables false
attribute [local go_sem high] Fed.max2_int Fed.min2_int

set_option maxRecDepth 100000 in
set_option maxHeartbeats 40000000 in
theorem leader_any (w : World) (k : Nat) (hk2 : 2 ≤ k) (hk5 : k ≤ 5) :
    Calls Try.prog 29 #[.int .i64 (k : Int)] w fun e w' => ∃ σ : Sl5, e = .returned (.agg #[.int .i64 (ledH k (k - 1)).id, .int .i64 (ledH k (k - 1)).term, .int .i64 (ledH k (k - 1)).vote, .slice σ.A3 (ledH k (k - 1)).log.length σ.k3, .int .i64 (ledH k (k - 1)).form, .int .i64 (ledH k (k - 1)).role, .int .i64 (ledH k (k - 1)).commit, .slice σ.A7 (ledH k (k - 1)).votes.length σ.k7, .slice σ.A8 (ledH k (k - 1)).nxt.length σ.k8, .slice σ.A9 (ledH k (k - 1)).mtch.length σ.k9, .slice σ.A10 (ledH k (k - 1)).forms.length σ.k10, .int .i64 (ledH k (k - 1)).clock, .int .i64 (ledH k (k - 1)).due]) ∧ NodeVs w' (fun j => w.heap.size ≤ j) (ledH k (k - 1)) σ ∧ Below w.heap.size w w' := by
  go_enter Try.func29, Try.ntmps29
  go_upto_region 1 with (fail)
  refine name_world (F := fun W => Hid (W.heap[w.heap.size]? = some (.cells #[.int .i64 0, .int .i64 0, .int .i64 0, .slice none 0 0, .int .i64 0, .int .i64 0, .int .i64 0, .slice none 0 0, .slice none 0 0, .slice none 0 0, .slice none 0 0, .int .i64 0, .int .i64 0] 28 (0, 0))) ∧ Hid (Below w.heap.size w W)) _ (by exact ⟨Lib.hid (MM.alloc_new _ _), Lib.hid ((Below.refl _ _).alloc (Nat.le_refl _) _)⟩) ?_
  intro w1 ⟨R1, HB1⟩
  go_wp2_with fail
  refine (rnew_c w1 0 1 (k : Int) k rfl (by omega) (by omega) (by omega)).mono ?_
  rintro e w2 ⟨σ, rfl, hb2, hn2⟩
  have R2 := Lib.hid ((hb2.block _ (MM.blk_lt R1.out)).trans R1.out)
  have HB2 := Lib.hid (HB1.out.trans (hb2.mono HB1.out.size))
  have N2 := Lib.hid (show NodeVs w2 (fun j => j < w2.heap.size ∧ w1.heap.size ≤ j) (ledT k 0) σ from hn2.mono (fun j hj hl => ⟨hl, hj⟩))
  have S1 := Lib.hid (show w.heap.size < w1.heap.size ∧ w1.heap.size ≤ w2.heap.size from ⟨MM.blk_lt R1.out, hb2.size⟩)
  obtain ⟨n0, hn0⟩ : ∃ n, n = newN 0 k 1 := ⟨_, rfl⟩
  rw [← hn0]
  have E0 := Lib.hid (show n0 = ledT k 0 from hn0)
  clear hb2 hn2 R1 HB1 hn0
  rw [← E0.out] at N2
  go_upto_region 2 with (fail)
  obtain ⟨b3, hb3⟩ : ∃ b, b = w2.heap.size := ⟨_, rfl⟩
  rw [← hb3]
  refine name_world (F := fun W => Hid (W.heap[b3]? = some (.cells #[.int .i64 n0.id, .int .i64 n0.term, .int .i64 n0.vote, .slice σ.A3 n0.log.length σ.k3, .int .i64 n0.form, .int .i64 n0.role, .int .i64 n0.commit, .slice σ.A7 n0.votes.length σ.k7, .slice σ.A8 n0.nxt.length σ.k8, .slice σ.A9 n0.mtch.length σ.k9, .slice σ.A10 n0.forms.length σ.k10, .int .i64 n0.clock, .int .i64 n0.due] 28 (0, 0))) ∧ Hid (NodeVs W (fun j => w.heap.size ≤ j ∧ j ≠ b3 ∧ j ≠ w.heap.size) n0 σ) ∧ Hid (W.heap[w.heap.size]? = some (.cells #[.int .i64 0, .int .i64 0, .int .i64 0, .slice none 0 0, .int .i64 0, .int .i64 0, .int .i64 0, .slice none 0 0, .slice none 0 0, .slice none 0 0, .slice none 0 0, .int .i64 0, .int .i64 0] 28 (0, 0))) ∧ Hid (Below w.heap.size w W) ∧ Hid (b3 < W.heap.size)) _ (by exact ⟨Lib.hid (by rw [hb3]; exact MM.alloc_new _ _), Lib.hid ((N2.out.step (fun j _ hl => Below.heap_alloc _ _ j hl)).mono (fun j hj _ => ⟨by have := S1.out; omega, by rw [hb3]; omega, by have := S1.out; omega⟩)), Lib.hid ((Below.heap_alloc _ _ _ (MM.blk_lt R2.out)).trans R2.out), Lib.hid (HB2.out.alloc HB2.out.size _), Lib.hid (by rw [hb3]; simp)⟩) ?_
  clear N2 R2 HB2
  intro w3 ⟨X3, N3, R3, HB3, LT3⟩
  have BW := Lib.hid (show w.heap.size < b3 from by rw [hb3]; have := S1.out; omega)
  clear hb3 S1
  rw [E0.out] at X3 N3
  clear E0
  go_wp2_with fail
  go_loopw [4] (fun t4 wr => ∃ t : Nat, t ≤ 5 ∧ t4 = .int .i64 t ∧ ∃ σ : Sl5, Hid (wr.heap[b3]? = some (.cells #[.int .i64 (ledT k t).id, .int .i64 (ledT k t).term, .int .i64 (ledT k t).vote, .slice σ.A3 (ledT k t).log.length σ.k3, .int .i64 (ledT k t).form, .int .i64 (ledT k t).role, .int .i64 (ledT k t).commit, .slice σ.A7 (ledT k t).votes.length σ.k7, .slice σ.A8 (ledT k t).nxt.length σ.k8, .slice σ.A9 (ledT k t).mtch.length σ.k9, .slice σ.A10 (ledT k t).forms.length σ.k10, .int .i64 (ledT k t).clock, .int .i64 (ledT k t).due] 28 (0, 0))) ∧ Hid (NodeVs wr (fun j => w.heap.size ≤ j ∧ j ≠ b3 ∧ j ≠ w.heap.size) (ledT k t) σ) ∧ Hid (wr.heap[w.heap.size]? = some (.cells #[.int .i64 0, .int .i64 0, .int .i64 0, .slice none 0 0, .int .i64 0, .int .i64 0, .int .i64 0, .slice none 0 0, .slice none 0 0, .slice none 0 0, .slice none 0 0, .int .i64 0, .int .i64 0] 28 (0, 0))) ∧ Hid (Below w.heap.size w wr) ∧ Hid (b3 < wr.heap.size)) (fun t4 _ => 5 - (intOf t4).toNat)
  case atStart => exact ⟨0, by omega, rfl, σ, X3, N3, R3, HB3, LT3⟩
  case round =>
    clear X3 N3 R3 HB3 LT3
    obtain ⟨t, ht, rfl, σ, X, N, R, HB, LT⟩ := hrel
    by_cases hlt : t < 5
    · have hlb : decide ((t : Int) < 5) = true := decide_eq_true (by omega)
      have CK := Lib.hid (ledT_chk k t hk2 hk5 ht)
      obtain ⟨c0, c1, c2, c3, c4, c5, c6, c7, c8, c9, c10, c11, c12⟩ := MM.cells13 X.out
      go_wp2_with fail
      refine (rtick_any wr (fun j => w.heap.size ≤ j ∧ j ≠ b3 ∧ j ≠ w.heap.size) (ledT k t) σ N.out (by have := CK.out.ll; omega) (by rw [CK.out.vl]; omega) (by rw [CK.out.xl, CK.out.vl]) (by rw [CK.out.ml, CK.out.vl]) (by rw [CK.out.fl]; omega) (by rw [CK.out.id]; omega) (by rw [CK.out.id, CK.out.vl]; omega) (by have := CK.out.t0; omega) (by have := CK.out.t1; omega) (by have := CK.out.c0; omega) (by have := CK.out.c1; omega) (fun _ i hi _ => by have h := CK.out.nx i (by rw [CK.out.xl, ← CK.out.vl]; exact hi); exact ⟨h.1, by omega⟩)).mono ?_
      rintro e w5 ⟨τ, A5, c5', rfl, hn5, ho5, hb5⟩
      have X5 := Lib.hid ((hb5.block _ LT.out).trans X.out)
      have R5 := Lib.hid ((hb5.block _ (MM.blk_lt R.out)).trans R.out)
      have N5 := Lib.hid (show NodeVs w5 (fun j => w.heap.size ≤ j ∧ j ≠ b3 ∧ j ≠ w.heap.size) (ledT k (t + 1)) τ from hn5.mono (fun j hj hl => ⟨by have := HB.out.size; omega, by have := LT.out; omega, by have := MM.blk_lt R.out; omega⟩))
      have HB5 := Lib.hid (HB.out.trans (hb5.mono HB.out.size))
      have LT5 := Lib.hid (Nat.lt_of_lt_of_le LT.out hb5.size)
      clear hn5 ho5 hb5 X N R HB LT c0 c1 c2 c3 c4 c5 c6 c7 c8 c9 c10 c11 c12
      obtain ⟨z0, z1, z2, z3, z4, z5, z6, z7, z8, z9, z10, z11, z12⟩ := MM.frees13 X5.out
      obtain ⟨y0, y1, y2, y3, y4, y5, y6, y7, y8, y9, y10, y11, y12⟩ := MM.cells13 X5.out
      go_upto_region 4 with (fail)
      refine name_world (F := fun W => Hid (W.heap[b3]? = some (.cells #[.int .i64 (ledT k (t + 1)).id, .int .i64 (ledT k (t + 1)).term, .int .i64 (ledT k (t + 1)).vote, .slice τ.A3 (ledT k (t + 1)).log.length τ.k3, .int .i64 (ledT k (t + 1)).form, .int .i64 (ledT k (t + 1)).role, .int .i64 (ledT k (t + 1)).commit, .slice τ.A7 (ledT k (t + 1)).votes.length τ.k7, .slice τ.A8 (ledT k (t + 1)).nxt.length τ.k8, .slice τ.A9 (ledT k (t + 1)).mtch.length τ.k9, .slice τ.A10 (ledT k (t + 1)).forms.length τ.k10, .int .i64 (ledT k (t + 1)).clock, .int .i64 (ledT k (t + 1)).due] 28 (0, 0))) ∧ Hid (NodeVs W (fun j => w.heap.size ≤ j ∧ j ≠ b3 ∧ j ≠ w.heap.size) (ledT k (t + 1)) τ) ∧ Hid (W.heap[w.heap.size]? = some (.cells #[.int .i64 0, .int .i64 0, .int .i64 0, .slice none 0 0, .int .i64 0, .int .i64 0, .int .i64 0, .slice none 0 0, .slice none 0 0, .slice none 0 0, .slice none 0 0, .int .i64 0, .int .i64 0] 28 (0, 0))) ∧ Hid (Below w.heap.size w W) ∧ Hid (b3 < W.heap.size)) _ (by exact ⟨Lib.hid ((set13 X5.out).trans rfl), Lib.hid (N5.out.step (fun j hj _ => far13 hj.2.1)), Lib.hid ((far13 (Nat.ne_of_lt BW.out)).trans R5.out), Lib.hid (below13 HB5.out (Nat.le_of_lt BW.out)), Lib.hid (Nat.lt_of_lt_of_le LT5.out (below13 (Below.refl b3 _) (Nat.le_refl _)).size)⟩) ?_
      intro w6 ⟨X6, N6, R6, HB6, LT6⟩
      clear z0 z1 z2 z3 z4 z5 z6 z7 z8 z9 z10 z11 z12 y0 y1 y2 y3 y4 y5 y6 y7 y8 y9 y10 y11 y12 X5 N5 R5 HB5 LT5
      go_wp2_with fail
      go_roundw
      case rel => first | exact ⟨t + 1, by omega, by go_num, τ, X6, N6, R6, HB6, LT6⟩ | ((repeat apply Exists.intro); refine ⟨?_, rfl⟩; exact ⟨t + 1, by omega, by go_num, τ, X6, N6, R6, HB6, LT6⟩)
      case measure => simp [intOf]; omega
    · have hlb : decide ((t : Int) < 5) = false := decide_eq_false (by omega)
      obtain rfl : t = 5 := by omega
      have X0 := Lib.hid (show wr.heap[b3]? = some (.cells #[.int .i64 (ledH k 0).id, .int .i64 (ledH k 0).term, .int .i64 (ledH k 0).vote, .slice σ.A3 (ledH k 0).log.length σ.k3, .int .i64 (ledH k 0).form, .int .i64 (ledH k 0).role, .int .i64 (ledH k 0).commit, .slice σ.A7 (ledH k 0).votes.length σ.k7, .slice σ.A8 (ledH k 0).nxt.length σ.k8, .slice σ.A9 (ledH k 0).mtch.length σ.k9, .slice σ.A10 (ledH k 0).forms.length σ.k10, .int .i64 (ledH k 0).clock, .int .i64 (ledH k 0).due] 28 (0, 0)) from X.out)
      have N0 := Lib.hid (show NodeVs wr (fun j => w.heap.size ≤ j ∧ j ≠ b3 ∧ j ≠ w.heap.size) (ledH k 0) σ from N.out)
      clear X N
      go_wp2_with fail
      go_loopw [5] (fun t5 wr => ∃ i : Nat, i + 1 ≤ k ∧ t5 = .int .i64 ((i : Int) + 1) ∧ ∃ σ : Sl5, Hid (wr.heap[b3]? = some (.cells #[.int .i64 (ledH k i).id, .int .i64 (ledH k i).term, .int .i64 (ledH k i).vote, .slice σ.A3 (ledH k i).log.length σ.k3, .int .i64 (ledH k i).form, .int .i64 (ledH k i).role, .int .i64 (ledH k i).commit, .slice σ.A7 (ledH k i).votes.length σ.k7, .slice σ.A8 (ledH k i).nxt.length σ.k8, .slice σ.A9 (ledH k i).mtch.length σ.k9, .slice σ.A10 (ledH k i).forms.length σ.k10, .int .i64 (ledH k i).clock, .int .i64 (ledH k i).due] 28 (0, 0))) ∧ Hid (NodeVs wr (fun j => w.heap.size ≤ j ∧ j ≠ b3 ∧ j ≠ w.heap.size) (ledH k i) σ) ∧ Hid (wr.heap[w.heap.size]? = some (.cells #[.int .i64 0, .int .i64 0, .int .i64 0, .slice none 0 0, .int .i64 0, .int .i64 0, .int .i64 0, .slice none 0 0, .slice none 0 0, .slice none 0 0, .slice none 0 0, .int .i64 0, .int .i64 0] 28 (0, 0))) ∧ Hid (Below w.heap.size w wr) ∧ Hid (b3 < wr.heap.size)) (fun t5 _ => k - (intOf t5).toNat)
      case atStart => exact ⟨0, by omega, rfl, σ, X0, N0, R, HB, LT⟩
      case round =>
        clear X0 N0 R HB LT
        obtain ⟨i, hi, rfl, σ, X, N, R, HB, LT⟩ := hrel
        by_cases hlt : i + 1 < k
        · have hlb : decide ((i : Int) + 1 < (k : Int)) = true := decide_eq_true (by omega)
          have CK := Lib.hid (ledH_chk k i hk2 hk5 (by omega))
          have hwi : IntKind.i64.wrap ((i : Int) + 1) = (i : Int) + 1 := IntWalk.i64_in _ (by omega)
          obtain ⟨c0, c1, c2, c3, c4, c5, c6, c7, c8, c9, c10, c11, c12⟩ := MM.cells13 X.out
          go_wp2_with fail
          refine (rhandle_any wr (fun j => w.heap.size ≤ j ∧ j ≠ b3 ∧ j ≠ w.heap.size) (ledH k i) σ N.out (yesMsg (i + 1)) none 0 (fun _ => False) (MM.Rd.nil _ _ _ _ _ (by simp [maxLen])) (by have := CK.out.ll; omega) (by rw [CK.out.vl]; omega) (by rw [CK.out.xl, CK.out.vl]) (by rw [CK.out.ml, CK.out.vl]) (by rw [CK.out.fl, CK.out.vl]) (by simp [yesMsg]) (by have := CK.out.c0; omega) (by have := CK.out.c1; omega) (by rw [CK.out.cm]; omega) (by simp [yesMsg]) (by rw [CK.out.id]; omega) (by rw [CK.out.id, CK.out.vl]; omega) (by show (0 : Int) ≤ ((i + 1 : Nat) : Int); omega) (by rw [CK.out.vl]; show ((i + 1 : Nat) : Int) < _; omega) (by simp [yesMsg]) (fun j hj => by have h := CK.out.nx j hj; omega) (fun j hj => by have h := CK.out.mt j hj; omega) (fun _ _ h4 => by simp [yesMsg] at h4)).mono ?_
          rintro e w5 ⟨τ, A5, c5', rfl, hn5, ho5, hb5⟩
          have X5 := Lib.hid ((hb5.block _ LT.out).trans X.out)
          have R5 := Lib.hid ((hb5.block _ (MM.blk_lt R.out)).trans R.out)
          have N5 := Lib.hid (show NodeVs w5 (fun j => w.heap.size ≤ j ∧ j ≠ b3 ∧ j ≠ w.heap.size) (ledH k (i + 1)) τ from hn5.mono (fun j hj hl => ⟨by have := HB.out.size; omega, by have := LT.out; omega, by have := MM.blk_lt R.out; omega⟩))
          have HB5 := Lib.hid (HB.out.trans (hb5.mono HB.out.size))
          have LT5 := Lib.hid (Nat.lt_of_lt_of_le LT.out hb5.size)
          clear hn5 ho5 hb5 X N R HB LT c0 c1 c2 c3 c4 c5 c6 c7 c8 c9 c10 c11 c12
          obtain ⟨z0, z1, z2, z3, z4, z5, z6, z7, z8, z9, z10, z11, z12⟩ := MM.frees13 X5.out
          obtain ⟨y0, y1, y2, y3, y4, y5, y6, y7, y8, y9, y10, y11, y12⟩ := MM.cells13 X5.out
          go_upto_region 8 with (fail)
          refine name_world (F := fun W => Hid (W.heap[b3]? = some (.cells #[.int .i64 (ledH k (i + 1)).id, .int .i64 (ledH k (i + 1)).term, .int .i64 (ledH k (i + 1)).vote, .slice τ.A3 (ledH k (i + 1)).log.length τ.k3, .int .i64 (ledH k (i + 1)).form, .int .i64 (ledH k (i + 1)).role, .int .i64 (ledH k (i + 1)).commit, .slice τ.A7 (ledH k (i + 1)).votes.length τ.k7, .slice τ.A8 (ledH k (i + 1)).nxt.length τ.k8, .slice τ.A9 (ledH k (i + 1)).mtch.length τ.k9, .slice τ.A10 (ledH k (i + 1)).forms.length τ.k10, .int .i64 (ledH k (i + 1)).clock, .int .i64 (ledH k (i + 1)).due] 28 (0, 0))) ∧ Hid (NodeVs W (fun j => w.heap.size ≤ j ∧ j ≠ b3 ∧ j ≠ w.heap.size) (ledH k (i + 1)) τ) ∧ Hid (W.heap[w.heap.size]? = some (.cells #[.int .i64 0, .int .i64 0, .int .i64 0, .slice none 0 0, .int .i64 0, .int .i64 0, .int .i64 0, .slice none 0 0, .slice none 0 0, .slice none 0 0, .slice none 0 0, .int .i64 0, .int .i64 0] 28 (0, 0))) ∧ Hid (Below w.heap.size w W) ∧ Hid (b3 < W.heap.size)) _ (by exact ⟨Lib.hid ((set13 X5.out).trans rfl), Lib.hid (N5.out.step (fun j hj _ => far13 hj.2.1)), Lib.hid ((far13 (Nat.ne_of_lt BW.out)).trans R5.out), Lib.hid (below13 HB5.out (Nat.le_of_lt BW.out)), Lib.hid (Nat.lt_of_lt_of_le LT5.out (below13 (Below.refl b3 _) (Nat.le_refl _)).size)⟩) ?_
          intro w6 ⟨X6, N6, R6, HB6, LT6⟩
          clear z0 z1 z2 z3 z4 z5 z6 z7 z8 z9 z10 z11 z12 y0 y1 y2 y3 y4 y5 y6 y7 y8 y9 y10 y11 y12 X5 N5 R5 HB5 LT5
          have hw6 : IntKind.i64.wrap ((i : Int) + 1 + 1) = ((i + 1 : Nat) : Int) + 1 := by rw [IntWalk.i64_in _ (by omega)]; omega
          go_wp2_with fail
          go_roundw
          case rel => first | exact ⟨i + 1, by omega, by first | rfl | (congr 1; omega), τ, X6, N6, R6, HB6, LT6⟩ | ((repeat apply Exists.intro); refine ⟨?_, rfl⟩; exact ⟨i + 1, by omega, by first | rfl | (congr 1; omega), τ, X6, N6, R6, HB6, LT6⟩)
          case measure => simp [intOf]; omega
        · have hlb : decide ((i : Int) + 1 < (k : Int)) = false := decide_eq_false (by omega)
          have EI := Lib.hid (show k - 1 = i from by omega)
          obtain ⟨c0, c1, c2, c3, c4, c5, c6, c7, c8, c9, c10, c11, c12⟩ := MM.cells13 X.out
          obtain ⟨y0, y1, y2, y3, y4, y5, y6, y7, y8, y9, y10, y11, y12⟩ := MM.cells13 R.out
          obtain ⟨z0, z1, z2, z3, z4, z5, z6, z7, z8, z9, z10, z11, z12⟩ := MM.frees13 R.out
          go_wp2_with fail
          refine name_world (F := fun W => Hid (W.heap[w.heap.size]? = some (.cells #[.int .i64 (ledH k i).id, .int .i64 (ledH k i).term, .int .i64 (ledH k i).vote, .slice σ.A3 (ledH k i).log.length σ.k3, .int .i64 (ledH k i).form, .int .i64 (ledH k i).role, .int .i64 (ledH k i).commit, .slice σ.A7 (ledH k i).votes.length σ.k7, .slice σ.A8 (ledH k i).nxt.length σ.k8, .slice σ.A9 (ledH k i).mtch.length σ.k9, .slice σ.A10 (ledH k i).forms.length σ.k10, .int .i64 (ledH k i).clock, .int .i64 (ledH k i).due] 28 (0, 0))) ∧ Hid (NodeVs W (fun j => w.heap.size ≤ j) (ledH k i) σ) ∧ Hid (Below w.heap.size w W)) _ (by exact ⟨Lib.hid ((set13 R.out).trans rfl), Lib.hid ((N.out.step (fun j hj _ => far13 hj.2.2)).mono (fun j hj hl => hj.1)), Lib.hid (below13 HB.out (Nat.le_refl _))⟩) ?_
          intro wf ⟨Y9, N9, B9⟩
          obtain ⟨u0, u1, u2, u3, u4, u5, u6, u7, u8, u9, u10, u11, u12⟩ := MM.cells13 Y9.out
          refine bodyPost_ret (v := .agg #[.int .i64 (ledH k i).id, .int .i64 (ledH k i).term, .int .i64 (ledH k i).vote, .slice σ.A3 (ledH k i).log.length σ.k3, .int .i64 (ledH k i).form, .int .i64 (ledH k i).role, .int .i64 (ledH k i).commit, .slice σ.A7 (ledH k i).votes.length σ.k7, .slice σ.A8 (ledH k i).nxt.length σ.k8, .slice σ.A9 (ledH k i).mtch.length σ.k9, .slice σ.A10 (ledH k i).forms.length σ.k10, .int .i64 (ledH k i).clock, .int .i64 (ledH k i).due]) (by simp [results, Try.results29, go_sem, u0, u1, u2, u3, u4, u5, u6, u7, u8, u9, u10, u11, u12]) rfl ?_
          rw [EI.out]
          exact ⟨σ, rfl, N9.out.mono (fun j hj hl => hj), B9.out⟩

end Go.Proofs.Ytnkmljdkokcdjaa
