/-
  The document's answered answers as the plain matchS. Conditions: the lengths and numbers are bounded as the theorem says.
-/
import Derived.WalkKit
import Derived.WalkSpells
import Derived.Lib.Hide
import Derived.Outline
import Derived.Test.YtnkmljdkokcdjaaChecked
import Derived.Test.YtnkmljdkokcdjaaMn
import Derived.Test.YtnkmljdkokcdjaaMem
import Derived.Test.YtnkmljdkokcdjaaFed
import Derived.Test.YtnkmljdkokcdjaaRn8
import Derived.Test.YtnkmljdkokcdjaaRn7
import Derived.Deep.DeepCutAuto
import Derived.Deep.CutBlock
import Derived.Deep.OwnRows
import Derived.IntWalk
set_option linter.unusedVariables false
set_option linter.unusedSimpArgs false
namespace Go.Proofs.Ytnkmljdkokcdjaa
open Go.RowKit Fed
set_option linter.unusedVariables false
attribute [local go_sem high] Fed.max2_int Fed.min2_int

theorem rd_far {w w1 : World} {B sz n : Nat} {v : Value} {xs : List Value} (h : MM.Rd w (fun k => B ≤ k ∧ MM.Ty w k 40) sz v n xs) (hm : ∀ k t, MM.Ty w k t → t = 40 → w1.heap[k]? = w.heap[k]?) : MM.Rd w1 (fun k => B ≤ k ∧ MM.Ty w1 k 40) sz v n xs :=
  ((h.mono (ok' := fun k => (B ≤ k ∧ MM.Ty w1 k 40) ∧ MM.Ty w k 40) fun k hk _ => ⟨⟨hk.1, by obtain ⟨c0, f, hc⟩ := hk.2; exact ⟨c0, f, (hm k _ hk.2 rfl).trans hc⟩⟩, hk.2⟩).step fun k hk _ => hm k _ hk.2 rfl).mono fun k hk _ => hk.1
set_option maxRecDepth 100000 in
set_option maxHeartbeats 40000000 in
theorem ranswered_any (w : World) (B : Nat) (n : Fed.Node) (σ : Sl5) (ω : O5) (h : NodeOs w B n σ ω) (hB : B ≤ w.heap.size) (m : Fed.Msg) (A : Option Addr) (c : Nat) (l1 : n.log.length ≤ 1000000) (l2 : n.votes.length ≤ 1000) (l3 : n.nxt.length = n.votes.length) (l4 : n.mtch.length = n.votes.length) (l5 : n.forms.length = n.votes.length) (hf0 : 0 ≤ m.frm) (hf1 : m.frm < n.votes.length)
    (hcm : 0 ≤ n.commit) (hz : 0 ≤ m.index ∧ m.index ≤ 1000000) (hx0 : -1000000 ≤ n.nxt.getD m.frm.toNat 0 ∧ n.nxt.getD m.frm.toNat 0 ≤ 1000000) (hy : -1000000 ≤ n.mtch.getD m.frm.toNat 0 ∧ n.mtch.getD m.frm.toNat 0 ≤ 1000000) (hx : n.role = 2 → m.term = n.term → m.ok = false → 1 ≤ n.nxt.getD m.frm.toNat 0 ∧ n.nxt.getD m.frm.toNat 0 ≤ n.log.length + 1) :
    Calls Try.prog 116 #[.agg #[.int .i64 n.id, .int .i64 n.term, .int .i64 n.vote, .slice σ.A3 n.log.length σ.k3, .int .i64 n.form, .int .i64 n.role, .int .i64 n.commit, .slice σ.A7 n.votes.length σ.k7, .slice σ.A8 n.nxt.length σ.k8, .slice σ.A9 n.mtch.length σ.k9, .slice σ.A10 n.forms.length σ.k10, .int .i64 n.clock, .int .i64 n.due], .agg #[.int .i64 m.kind, .int .i64 m.frm, .int .i64 m.to, .int .i64 m.term, .int .i64 m.index, .int .i64 m.logTerm, .bool m.ok, .slice A m.entries.length c, .int .i64 m.commit, .int .i64 m.form]] w fun e w' => ∃ τ υ A c ob, e = .returned (.tuple #[.agg #[.int .i64 (matchS ⟨n, []⟩ m).n.id, .int .i64 (matchS ⟨n, []⟩ m).n.term, .int .i64 (matchS ⟨n, []⟩ m).n.vote, .slice τ.A3 (matchS ⟨n, []⟩ m).n.log.length τ.k3, .int .i64 (matchS ⟨n, []⟩ m).n.form, .int .i64 (matchS ⟨n, []⟩ m).n.role, .int .i64 (matchS ⟨n, []⟩ m).n.commit, .slice τ.A7 (matchS ⟨n, []⟩ m).n.votes.length τ.k7, .slice τ.A8 (matchS ⟨n, []⟩ m).n.nxt.length τ.k8, .slice τ.A9 (matchS ⟨n, []⟩ m).n.mtch.length τ.k9, .slice τ.A10 (matchS ⟨n, []⟩ m).n.forms.length τ.k10, .int .i64 (matchS ⟨n, []⟩ m).n.clock, .int .i64 (matchS ⟨n, []⟩ m).n.due], .slice A (matchS ⟨n, []⟩ m).out.length c]) ∧ NodeOs w' B (matchS ⟨n, []⟩ m).n τ υ ∧ OutAt w' B (.slice A (matchS ⟨n, []⟩ m).out.length c) (matchS ⟨n, []⟩ m).out ob ∧ Below B w w' ∧ Kp w w' := by
  have H := Lib.hid h
  have HXX := Lib.hid hx
  have L3 := Lib.hid l3
  have L4 := Lib.hid l4
  have L5 := Lib.hid l5
  have hfn8 : m.frm.toNat < n.nxt.length := by omega
  have hfn9 : m.frm.toNat < n.mtch.length := by omega
  have hfn10 : m.frm.toNat < n.forms.length := by omega
  have HF8 := Lib.hid hfn8
  have HF9 := Lib.hid hfn9
  have HF10 := Lib.hid hfn10
  have hf8 : m.frm < (n.nxt.length : Int) := by omega
  have hf9 : m.frm < (n.mtch.length : Int) := by omega
  have hf10 : m.frm < (n.forms.length : Int) := by omega
  obtain ⟨hz0, hz1⟩ := hz
  have HX0 := Lib.hid hx0
  have HY := Lib.hid hy
  clear h hx l3 l4 l5 hx0 hy hfn8 hfn9 hfn10
  go_enter Try.func116, Try.ntmps116
  go_upto_region 1 with (fail)
  refine name_world (F := fun W => Hid (NB W B w.heap.size n σ ω) ∧ Hid (W.heap[w.heap.size + 1]? = some (.cells #[.int .i64 m.kind, .int .i64 m.frm, .int .i64 m.to, .int .i64 m.term, .int .i64 m.index, .int .i64 m.logTerm, .bool m.ok, .slice A m.entries.length c, .int .i64 m.commit, .int .i64 m.form] 34 (0, 0))) ∧ Hid (W.heap[w.heap.size + 2]? = some (.cells #[.int .i64 0, .int .i64 0, .int .i64 0, .slice none 0 0, .int .i64 0, .int .i64 0, .int .i64 0, .slice none 0 0, .slice none 0 0, .slice none 0 0, .slice none 0 0, .int .i64 0, .int .i64 0] 28 (0, 0))) ∧ Hid (Below B w W) ∧ Hid (Kp w W)) _ ⟨Lib.hid (⟨hB, (Below.heap_alloc _ _ _ (by simp; omega)).trans ((Below.heap_alloc _ _ _ (by simp)).trans (MM.alloc_new w _)), ((H.out.alloc _).alloc _).alloc _⟩), Lib.hid (alloc_mid w _ _ _), Lib.hid (alloc_new2 w _ _ _), Lib.hid ((((Below.refl B w).alloc hB _).alloc (by simp; omega) _).alloc (by simp; omega) _), Lib.hid (Kp.old (fun k hk => (Below.heap_alloc _ _ k (by simp; omega)).trans ((Below.heap_alloc _ _ k (by simp; omega)).trans (Below.heap_alloc w _ k hk))))⟩ ?_
  clear H
  intro w1 ⟨N, M, Y, HB, HK⟩
  have c1 : w1.cell? ⟨w.heap.size, 1, none⟩ = some (.int .i64 n.term) := N.out.c 1 _ rfl
  have c5 : w1.cell? ⟨w.heap.size, 5, none⟩ = some (.int .i64 n.role) := N.out.c 5 _ rfl
  have d3 : w1.cell? ⟨w.heap.size + 1, 3, none⟩ = some (.int .i64 m.term) := MM.cell_blk M.out rfl
  by_cases hrt : n.role = 2 ∧ m.term = n.term
  case neg =>
    have HE := Lib.hid (show matchS ⟨n, []⟩ m = ⟨n, []⟩ from by unfold matchS; rw [if_pos (by show n.role ≠ 2 ∨ m.term ≠ n.term; omega)])
    by_cases hr : n.role = 2
    · have hrb : (n.role != 2) = false := by simpa using hr
      have htb : (m.term != n.term) = true := by simp; exact fun e => hrt ⟨hr, e⟩
      clear hrt hr
      go_upto_region 2 with (fail)
      clear c1 c5 hrb htb
      obtain ⟨c0, c1, c2, c3, c4, c5, c6, c7, c8, c9, c10, c11, c12⟩ := MM.cells13 N.out.blk
      obtain ⟨y0, y1, y2, y3, y4, y5, y6, y7, y8, y9, y10, y11, y12⟩ := MM.cells13 Y.out
      obtain ⟨z0, z1, z2, z3, z4, z5, z6, z7, z8, z9, z10, z11, z12⟩ := MM.frees13 Y.out
      go_wp2_with fail
      refine name_world (F := fun W => Hid (W.heap[w.heap.size + 2]? = some (.cells #[.int .i64 n.id, .int .i64 n.term, .int .i64 n.vote, .slice σ.A3 n.log.length σ.k3, .int .i64 n.form, .int .i64 n.role, .int .i64 n.commit, .slice σ.A7 n.votes.length σ.k7, .slice σ.A8 n.nxt.length σ.k8, .slice σ.A9 n.mtch.length σ.k9, .slice σ.A10 n.forms.length σ.k10, .int .i64 n.clock, .int .i64 n.due] 28 (0, 0))) ∧ Hid (NodeOs W B n σ ω) ∧ Hid (Below B w W) ∧ Hid (Kp w W)) _ ⟨Lib.hid ((set13 Y.out).trans rfl), Lib.hid (N.out.rows.types (fun k t hk ht' => far13 (ty_ne hk ⟨_, _, Y.out⟩ (by rcases ht' with rfl | rfl | rfl <;> decide)))), Lib.hid (below13 HB.out (by omega)), Lib.hid (HK.out.new13 (by omega))⟩ ?_
      intro wf ⟨Y9, N9, B9, K9⟩
      obtain ⟨u0, u1, u2, u3, u4, u5, u6, u7, u8, u9, u10, u11, u12⟩ := MM.cells13 Y9.out
      refine bodyPost_ret (v := .tuple #[.agg #[.int .i64 n.id, .int .i64 n.term, .int .i64 n.vote, .slice σ.A3 n.log.length σ.k3, .int .i64 n.form, .int .i64 n.role, .int .i64 n.commit, .slice σ.A7 n.votes.length σ.k7, .slice σ.A8 n.nxt.length σ.k8, .slice σ.A9 n.mtch.length σ.k9, .slice σ.A10 n.forms.length σ.k10, .int .i64 n.clock, .int .i64 n.due], .slice none 0 0]) (by simp [results, Try.results116, go_sem, u0, u1, u2, u3, u4, u5, u6, u7, u8, u9, u10, u11, u12]) rfl ?_
      rw [HE.out]
      exact ⟨σ, ω, none, 0, none, rfl, N9.out, OutAt.nil _ _ _, B9.out, K9.out⟩
    · have hrb : (n.role != 2) = true := by simpa using hr
      clear hrt hr
      go_upto_region 2 with (fail)
      clear c1 c5 hrb
      obtain ⟨c0, c1, c2, c3, c4, c5, c6, c7, c8, c9, c10, c11, c12⟩ := MM.cells13 N.out.blk
      obtain ⟨y0, y1, y2, y3, y4, y5, y6, y7, y8, y9, y10, y11, y12⟩ := MM.cells13 Y.out
      obtain ⟨z0, z1, z2, z3, z4, z5, z6, z7, z8, z9, z10, z11, z12⟩ := MM.frees13 Y.out
      go_wp2_with fail
      refine name_world (F := fun W => Hid (W.heap[w.heap.size + 2]? = some (.cells #[.int .i64 n.id, .int .i64 n.term, .int .i64 n.vote, .slice σ.A3 n.log.length σ.k3, .int .i64 n.form, .int .i64 n.role, .int .i64 n.commit, .slice σ.A7 n.votes.length σ.k7, .slice σ.A8 n.nxt.length σ.k8, .slice σ.A9 n.mtch.length σ.k9, .slice σ.A10 n.forms.length σ.k10, .int .i64 n.clock, .int .i64 n.due] 28 (0, 0))) ∧ Hid (NodeOs W B n σ ω) ∧ Hid (Below B w W) ∧ Hid (Kp w W)) _ ⟨Lib.hid ((set13 Y.out).trans rfl), Lib.hid (N.out.rows.types (fun k t hk ht' => far13 (ty_ne hk ⟨_, _, Y.out⟩ (by rcases ht' with rfl | rfl | rfl <;> decide)))), Lib.hid (below13 HB.out (by omega)), Lib.hid (HK.out.new13 (by omega))⟩ ?_
      intro wf ⟨Y9, N9, B9, K9⟩
      obtain ⟨u0, u1, u2, u3, u4, u5, u6, u7, u8, u9, u10, u11, u12⟩ := MM.cells13 Y9.out
      refine bodyPost_ret (v := .tuple #[.agg #[.int .i64 n.id, .int .i64 n.term, .int .i64 n.vote, .slice σ.A3 n.log.length σ.k3, .int .i64 n.form, .int .i64 n.role, .int .i64 n.commit, .slice σ.A7 n.votes.length σ.k7, .slice σ.A8 n.nxt.length σ.k8, .slice σ.A9 n.mtch.length σ.k9, .slice σ.A10 n.forms.length σ.k10, .int .i64 n.clock, .int .i64 n.due], .slice none 0 0]) (by simp [results, Try.results116, go_sem, u0, u1, u2, u3, u4, u5, u6, u7, u8, u9, u10, u11, u12]) rfl ?_
      rw [HE.out]
      exact ⟨σ, ω, none, 0, none, rfl, N9.out, OutAt.nil _ _ _, B9.out, K9.out⟩
  obtain ⟨hr, ht⟩ := hrt
  have hrb : (n.role != 2) = false := by simpa using hr
  have htb : (m.term != n.term) = false := by simpa using ht
  have HS := Lib.hid (show matchS ⟨n, []⟩ m = if m.ok = false then ⟨matchNo n m, [entriesMsg (matchNo n m) m.frm]⟩ else ⟨matchYes n m, []⟩ from by unfold matchS; rw [if_neg (by show ¬ (n.role ≠ 2 ∨ m.term ≠ n.term); omega)]; rfl)
  have HX1 := Lib.hid (HXX.out hr ht)
  clear hr ht HXX
  go_upto_region 3 with (fail)
  clear c1 c5 d3 hrb htb
  obtain ⟨p10, hp10⟩ := N.out.rows.hf.some_of (by omega)
  have hr10 := N.out.rows.hf
  rw [hp10] at hr10
  obtain ⟨cap10, e10, q101, q102⟩ := hr10.form
  have c10 : w1.cell? ⟨w.heap.size, 10, none⟩ = some (.slice (some ⟨p10, 0, none⟩) n.forms.length cap10) := N.out.c 10 _ (congrArg some e10)
  have HP10 := Lib.hid hp10
  have HR10 := Lib.hid hr10
  clear e10 hp10 hr10
  have ce10 : w1.cell? ⟨p10, m.frm.toNat, none⟩ = some (.int .i64 (n.forms.getD (m.frm.toNat) 0)) := HR10.out.cell (intsC_get (HF10.out))
  have fe10 : w1.frozen? ⟨p10, m.frm.toNat, none⟩ = false := HR10.out.free _
  have d1 : w1.cell? ⟨w.heap.size + 1, 1, none⟩ = some (.int .i64 m.frm) := MM.cell_blk M.out rfl
  have d9 : w1.cell? ⟨w.heap.size + 1, 9, none⟩ = some (.int .i64 m.form) := MM.cell_blk M.out rfl
  go_upto_region 4 with (fail)
  refine name_world (F := fun W => Hid (NB W B w.heap.size { n with forms := n.forms.set m.frm.toNat m.form } σ ω) ∧ Hid (W.heap[w.heap.size + 1]? = some (.cells #[.int .i64 m.kind, .int .i64 m.frm, .int .i64 m.to, .int .i64 m.term, .int .i64 m.index, .int .i64 m.logTerm, .bool m.ok, .slice A m.entries.length c, .int .i64 m.commit, .int .i64 m.form] 34 (0, 0))) ∧ Hid (W.heap[w.heap.size + 2]? = some (.cells #[.int .i64 0, .int .i64 0, .int .i64 0, .slice none 0 0, .int .i64 0, .int .i64 0, .int .i64 0, .slice none 0 0, .slice none 0 0, .slice none 0 0, .slice none 0 0, .int .i64 0, .int .i64 0] 28 (0, 0))) ∧ Hid (Below B w W) ∧ Hid (Kp w W)) _ ⟨Lib.hid (N.out.set_f HP10.out HF10.out), Lib.hid ((Below.heap_setCell _ _ _ _ (ty_ne ⟨_, _, M.out⟩ (HR10.out.ty _ rfl) (by decide))).trans M.out), Lib.hid ((Below.heap_setCell _ _ _ _ (ty_ne ⟨_, _, Y.out⟩ (HR10.out.ty _ rfl) (by decide))).trans Y.out), Lib.hid (HB.out.setCell (HR10.out.lt _ rfl).1 _), Lib.hid (HK.out.set (HR10.out.ty _ rfl) (.inl rfl) _)⟩ ?_
  clear N M Y HB HK c10 ce10 fe10 d1 d9 HP10 HR10
  intro w2 ⟨N2, M2, Y2, HB2, HK2⟩
  have HM0 := Lib.hid (show matchN0 n m = { n with forms := n.forms.set m.frm.toNat m.form } from rfl)
  obtain ⟨n1, hn1⟩ : ∃ gn : Fed.Node, gn = { n with forms := n.forms.set m.frm.toNat m.form } := ⟨_, rfl⟩
  rw [← hn1] at N2 HM0
  have HEn1 := Lib.hid hn1
  clear hn1
  have f1 : n1.nxt = n.nxt ∧ n1.mtch = n.mtch ∧ n1.log = n.log ∧ n1.votes = n.votes ∧ n1.commit = n.commit ∧ n1.id = n.id := by rw [HEn1.out]; exact ⟨rfl, rfl, rfl, rfl, rfl, rfl⟩
  have F1 := Lib.hid f1
  rw [← f1.1] at HF8 HX0 HX1 hf8 L3
  rw [← f1.2.1] at HF9 HY hf9 L4
  rw [← f1.2.2.1] at HX1 l1
  rw [← f1.2.2.2.1] at l2 L3 L4
  rw [← f1.2.2.2.2.1] at hcm
  clear f1 hf10 HF10 L5
  have d1 : w2.cell? ⟨w.heap.size + 1, 1, none⟩ = some (.int .i64 m.frm) := MM.cell_blk M2.out rfl
  have d4 : w2.cell? ⟨w.heap.size + 1, 4, none⟩ = some (.int .i64 m.index) := MM.cell_blk M2.out rfl
  have d6 : w2.cell? ⟨w.heap.size + 1, 6, none⟩ = some (.bool m.ok) := MM.cell_blk M2.out rfl
  by_cases hok : m.ok = false
  case pos =>
    have HS2 := Lib.hid (HS.out.trans (if_pos hok))
    have HX2 := Lib.hid (HX1.out hok)
    rw [hok] at d6
    have D6 := Lib.hid hok
    clear hok HS
    obtain ⟨p8, hp8⟩ := N2.out.rows.hn.some_of (by omega)
    have hr8 := N2.out.rows.hn
    rw [hp8] at hr8
    obtain ⟨cap8, e8, q81, q82⟩ := hr8.form
    have c8 : w2.cell? ⟨w.heap.size, 8, none⟩ = some (.slice (some ⟨p8, 0, none⟩) n1.nxt.length cap8) := N2.out.c 8 _ (congrArg some e8)
    have HP8 := Lib.hid hp8
    have HR8 := Lib.hid hr8
    clear e8 hp8 hr8
    have ce8 : w2.cell? ⟨p8, m.frm.toNat, none⟩ = some (.int .i64 (n1.nxt.getD (m.frm.toNat) 0)) := HR8.out.cell (intsC_get (HF8.out))
    have fe8 : w2.frozen? ⟨p8, m.frm.toNat, none⟩ = false := HR8.out.free _
    obtain ⟨x, hx⟩ : ∃ x, x = n1.nxt.getD m.frm.toNat 0 := ⟨_, rfl⟩
    rw [← hx] at ce8 HX2 HX0
    have HXe := Lib.hid hx
    obtain ⟨x0, x1⟩ := HX2.out
    clear hx
    go_wp2_with fail
    refine Go.RT.wp_region_tree [0, 1, 0, 4, 0, 16, 0, 64, 240, 496, 1008, 0, 2048, 8176, 16368, 32752, 65535, 131071] (.p 0 (.s 1 (.p 2 (.s 3 (.p 4 (.s 5 (.p 6 (.s 7 (.p 8 (.s 9 (.p 10 (.p 11 (.s 12 (.p 13 (.p 14 (.p 15 (.p 16 (.w 17 [] .nil .stop)))))))))))))))))) (by kernel_rfl) (by kernel_rfl) ?_
    repeat (first | (refine Go.RT.step_p rfl (fun K hK => ?_); go_simp; refine hK _ ?_; clear hK K) | (refine Go.RT.step_s rfl (fun K hK => ?_); go_simp; refine hK _ ?_; clear hK K))
    (refine Go.RT.step_w rfl rfl (fun K hK => ?_) Go.RT.step_stop)
    go_wp2
    refine Go.RT.QK_normal _ _ _ _ (hK _ _ ?_ ?_) <;> clear hK K
    · repeat (first | exact Go.RT.again_nil | (refine Go.RT.again_not rfl rfl ?_) | (refine Go.RT.again_one rfl (by go_simp <;> rfl) ?_))
    refine Go.RT.step_nil ?_
    have hwr : wrap64 (mn (x - 2) m.index + 1) = mn (x - 2) m.index + 1 := by
      have q1 : -1000000 ≤ mn (x - 2) m.index := by unfold mn; omega
      have q2 : mn (x - 2) m.index ≤ 1000000 := by unfold mn; omega
      unfold wrap64
      omega
    rw [hwr]
    clear hwr
    have hv0 : 1 ≤ mx 1 (mn (x - 2) m.index + 1) := by unfold mx mn; omega
    have hv1 : mx 1 (mn (x - 2) m.index + 1) ≤ n1.log.length + 1 := by unfold mx mn; omega
    refine name_world (F := fun W => Hid (NB W B w.heap.size { n1 with nxt := n1.nxt.set m.frm.toNat (mx 1 (mn (x - 2) m.index + 1)) } σ ω) ∧ Hid (W.heap[w.heap.size + 1]? = some (.cells #[.int .i64 m.kind, .int .i64 m.frm, .int .i64 m.to, .int .i64 m.term, .int .i64 m.index, .int .i64 m.logTerm, .bool m.ok, .slice A m.entries.length c, .int .i64 m.commit, .int .i64 m.form] 34 (0, 0))) ∧ Hid (W.heap[w.heap.size + 2]? = some (.cells #[.int .i64 0, .int .i64 0, .int .i64 0, .slice none 0 0, .int .i64 0, .int .i64 0, .int .i64 0, .slice none 0 0, .slice none 0 0, .slice none 0 0, .slice none 0 0, .int .i64 0, .int .i64 0] 28 (0, 0))) ∧ Hid (Below B w W) ∧ Hid (Kp w W)) _ ⟨Lib.hid ((N2.out.set_n HP8.out HF8.out).drew), Lib.hid ((Below.heap_setCell _ _ _ _ (ty_ne ⟨_, _, M2.out⟩ (HR8.out.ty _ rfl) (by decide))).trans M2.out), Lib.hid ((Below.heap_setCell _ _ _ _ (ty_ne ⟨_, _, Y2.out⟩ (HR8.out.ty _ rfl) (by decide))).trans Y2.out), Lib.hid ((HB2.out.setCell (HR8.out.lt _ rfl).1 _).drew), Lib.hid (HK2.out.set (HR8.out.ty _ rfl) (.inl rfl) _)⟩ ?_
    clear N2 M2 Y2 HB2 HK2 c8 ce8 fe8 d1 d4 d6 HP8 HR8
    intro w3 ⟨N3, M3, Y3, HB3, HK3⟩
    have HN := Lib.hid (show matchNo n m = { n1 with nxt := n1.nxt.set m.frm.toNat (mx 1 (mn (x - 2) m.index + 1)) } from by rw [HXe.out]; unfold matchNo; rw [HM0.out, F1.out.1])
    obtain ⟨n2, hn2⟩ : ∃ gn : Fed.Node, gn = { n1 with nxt := n1.nxt.set m.frm.toNat (mx 1 (mn (x - 2) m.index + 1)) } := ⟨_, rfl⟩
    rw [← hn2] at N3 HN
    have HEn2 := Lib.hid hn2
    clear hn2
    have e2 : n2.nxt.getD m.frm.toNat 0 = mx 1 (mn (x - 2) m.index + 1) := by
      rw [HEn2.out]
      show (n1.nxt.set m.frm.toNat (mx 1 (mn (x - 2) m.index + 1))).getD m.frm.toNat 0 = _
      simp [List.getD_eq_getElem?_getD, List.getElem?_set_self HF8.out]
    have hl2 : n2.log.length ≤ 1000000 := by rw [HEn2.out]; exact l1
    have hn2 : m.frm.toNat < n2.nxt.length := by rw [HEn2.out]; show _ < (n1.nxt.set _ _).length; rw [List.length_set]; exact HF8.out
    have ha2 : 1 ≤ n2.nxt.getD m.frm.toNat 0 := by rw [e2]; exact hv0
    have hb2 : n2.nxt.getD m.frm.toNat 0 ≤ n2.log.length + 1 := by rw [e2, HEn2.out]; exact hv1
    have G := Lib.hid (And.intro hn2 (And.intro ha2 hb2))
    have HE := Lib.hid (show matchS ⟨n, []⟩ m = ⟨n2, [entriesMsg n2 m.frm]⟩ from by rw [HS2.out, HN.out])
    clear e2 hn2 ha2 hb2 hv0 hv1 HN HS2 HXe HX2 HX0 HX1 HM0 HEn1 x0 x1
    go_wp2_with fail
    refine Go.RT.wp_region_tree [0, 0, 0, 4, 14, 30, 31, 127] (.s 0 (.s 1 (.p 2 (.s 3 (.w 4 [0] (.w 5 [0] (.w 6 [] (.w 7 [] .nil .stop) .stop) (.w 6 [] (.w 5 [0] (.w 7 [] .nil .stop) .stop) .stop)) .stop))))) (by kernel_rfl) (by kernel_rfl) ?_
    refine name_world (F := fun W => Hid (NB W B w.heap.size n2 σ ω) ∧ Hid (W.heap[w.heap.size + 2]? = some (.cells #[.int .i64 0, .int .i64 0, .int .i64 0, .slice none 0 0, .int .i64 0, .int .i64 0, .int .i64 0, .slice none 0 0, .slice none 0 0, .slice none 0 0, .slice none 0 0, .int .i64 0, .int .i64 0] 28 (0, 0))) ∧ Hid (Below B w W) ∧ Hid (Kp w W) ∧ Hid (W.heap[w.heap.size + 1]? = some (.cells #[.int .i64 m.kind, .int .i64 m.frm, .int .i64 m.to, .int .i64 m.term, .int .i64 m.index, .int .i64 m.logTerm, .bool m.ok, .slice A m.entries.length c, .int .i64 m.commit, .int .i64 m.form] 34 (0, 0)))) _ ⟨Lib.hid (N3.out.drew), Lib.hid (Y3.out), Lib.hid (HB3.out.drew), Lib.hid (HK3.out), Lib.hid (M3.out)⟩ ?_
    clear N3 Y3 HB3 HK3 M3
    intro w3d ⟨Nd, Yd, HBd, HKd, Md⟩
    obtain ⟨cd0, cd1, cd2, cd3, cd4, cd5, cd6, cd7, cd8, cd9, cd10, cd11, cd12⟩ := MM.cells13 Nd.out.blk
    have dd1 : w3d.cell? ⟨w.heap.size + 1, 1, none⟩ = some (.int .i64 m.frm) := MM.cell_blk Md.out rfl
    repeat (first | (refine Go.RT.step_p rfl (fun K hK => ?_); go_simp; refine hK _ ?_; clear hK K) | (refine Go.RT.step_s rfl (fun K hK => ?_); go_simp; refine hK _ ?_; clear hK K))
    (refine Go.RT.step_w rfl rfl (fun K hK => ?_) Go.RT.step_stop)
    go_wp2_with fail
    have hc := rsend_any w3d _ n2 σ Nd.out.toV m.frm.toNat hl2 G.out.1 G.out.2.1 G.out.2.2
    rw [Int.toNat_of_nonneg hf0] at hc
    refine hc.mono ?_
    rintro e w4 ⟨A2, c2, rfl, hr4, hb4⟩
    have N4 := Lib.hid (Nd.out.below hb4)
    have Y4 := Lib.hid ((hb4.block _ (MM.blk_lt Yd.out)).trans Yd.out)
    have HB4 := Lib.hid (HBd.out.trans (hb4.mono (Nat.le_trans hB HBd.out.size)))
    have HK4 := Lib.hid (HKd.out.trans (Kp.old (fun k hk => hb4.block k hk)))
    have R4 := Lib.hid (hr4.mono (ok' := fun k => B ≤ k ∧ MM.Ty w4 k 40) (fun k hk _ => ⟨Nat.le_trans (Nat.le_trans hB HBd.out.size) hk.1, hk.2⟩))
    clear hr4 hb4 hc
    have hsz : w.heap.size + 2 < w4.heap.size := MM.blk_lt Y4.out
    have hsz0 : w.heap.size < w4.heap.size := by omega
    have hBs : B ≤ w4.heap.size := by omega
    have hBr : B ≤ w.heap.size + 2 := by omega
    have hwr : w.heap.size ≤ w.heap.size + 2 := by omega
    have hne9 : w4.heap.size ≠ w.heap.size + 2 := by omega
    obtain ⟨ce0, ce1, ce2, ce3, ce4, ce5, ce6, ce7, ce8, ce9, ce10, ce11, ce12⟩ := MM.cells13 N4.out.blk
    obtain ⟨ye0, ye1, ye2, ye3, ye4, ye5, ye6, ye7, ye8, ye9, ye10, ye11, ye12⟩ := MM.cells13 Y4.out
    obtain ⟨ze0, ze1, ze2, ze3, ze4, ze5, ze6, ze7, ze8, ze9, ze10, ze11, ze12⟩ := MM.frees13 Y4.out
    go_wp2_with fail
    refine Go.RT.QK_normal _ _ _ _ (hK _ _ ?_ ?_) <;> clear hK K
    · repeat (first | exact Go.RT.again_nil | (refine Go.RT.again_not rfl rfl ?_) | (refine Go.RT.again_one rfl (by go_simp <;> rfl) ?_))
    (refine Go.RT.step_w rfl rfl (fun K hK => ?_) ?_)
    · go_wp2
      refine Go.RT.QK_normal _ _ _ _ (hK _ _ ?_ ?_) <;> clear hK K
      · repeat (first | exact Go.RT.again_nil | (refine Go.RT.again_not rfl rfl ?_) | (refine Go.RT.again_one rfl (by go_simp <;> rfl) ?_))
      (refine Go.RT.step_w rfl rfl (fun K hK => ?_) Go.RT.step_stop)
      go_wp2
      refine Go.RT.QK_normal _ _ _ _ (hK _ _ ?_ ?_) <;> clear hK K
      · repeat (first | exact Go.RT.again_nil | (refine Go.RT.again_not rfl rfl ?_) | (refine Go.RT.again_one rfl (by go_simp <;> rfl) ?_))
      (refine Go.RT.step_w rfl rfl (fun K hK => ?_) Go.RT.step_stop)
      go_wp2
      refine Go.RT.QK_normal _ _ _ _ (hK _ _ ?_ ?_) <;> clear hK K
      · repeat (first | exact Go.RT.again_nil | (refine Go.RT.again_not rfl rfl ?_) | (refine Go.RT.again_one rfl (by go_simp <;> rfl) ?_))
      refine Go.RT.step_nil ?_
      go_wp2_with fail
      refine name_world (F := fun W => Hid (W.heap[w.heap.size + 2]? = some (.cells #[.int .i64 n2.id, .int .i64 n2.term, .int .i64 n2.vote, .slice σ.A3 n2.log.length σ.k3, .int .i64 n2.form, .int .i64 n2.role, .int .i64 n2.commit, .slice σ.A7 n2.votes.length σ.k7, .slice σ.A8 n2.nxt.length σ.k8, .slice σ.A9 n2.mtch.length σ.k9, .slice σ.A10 n2.forms.length σ.k10, .int .i64 n2.clock, .int .i64 n2.due] 28 (0, 0))) ∧ Hid (NodeOs W B n2 σ ω) ∧ Hid (Below B w W) ∧ Hid (Kp w W) ∧ Hid (W.heap[w4.heap.size]? = some (.cells #[.int .i64 (entriesMsg n2 m.frm).kind, .int .i64 (entriesMsg n2 m.frm).frm, .int .i64 (entriesMsg n2 m.frm).to, .int .i64 (entriesMsg n2 m.frm).term, .int .i64 (entriesMsg n2 m.frm).index, .int .i64 (entriesMsg n2 m.frm).logTerm, .bool (entriesMsg n2 m.frm).ok, .slice A2 (entriesMsg n2 m.frm).entries.length c2, .int .i64 (entriesMsg n2 m.frm).commit, .int .i64 (entriesMsg n2 m.frm).form] 34 (0, 0))) ∧ Hid (MM.Rd W (fun k => B ≤ k ∧ MM.Ty W k 40) 2 (.slice A2 (entriesMsg n2 m.frm).entries.length c2) (entriesMsg n2 m.frm).entries.length (entsC (entriesMsg n2 m.frm).entries))) _ ⟨Lib.hid ((old13 _ (MM.blk_lt Y4.out)).trans ((set13 Y4.out).trans rfl)), Lib.hid (((N4.out.rows.types (fun k t hk ht' => far13 (ty_ne hk ⟨_, _, Y4.out⟩ (by rcases ht' with rfl | rfl | rfl <;> decide)))).step (fun k _ hk => Below.heap_alloc _ _ k hk))), Lib.hid ((below13 HB4.out hBr).alloc (by rw [size13]; exact hBs) _), Lib.hid ((HK4.out.new13 hwr).trans (Kp.old (fun k hk => Below.heap_alloc _ _ k hk))), Lib.hid (new13 _), Lib.hid (rd_far R4.out (fun k t hk ht => (old13 _ (Ty_lt hk)).trans (far13 (ty_ne hk ⟨_, _, Y4.out⟩ (by rw [ht]; decide)))))⟩ ?_
      intro wf ⟨Y9, N9, B9, K9, O9, R9⟩
      obtain ⟨u0, u1, u2, u3, u4, u5, u6, u7, u8, u9, u10, u11, u12⟩ := MM.cells13 Y9.out
      refine bodyPost_ret (v := .tuple #[.agg #[.int .i64 n2.id, .int .i64 n2.term, .int .i64 n2.vote, .slice σ.A3 n2.log.length σ.k3, .int .i64 n2.form, .int .i64 n2.role, .int .i64 n2.commit, .slice σ.A7 n2.votes.length σ.k7, .slice σ.A8 n2.nxt.length σ.k8, .slice σ.A9 n2.mtch.length σ.k9, .slice σ.A10 n2.forms.length σ.k10, .int .i64 n2.clock, .int .i64 n2.due], .slice (some ⟨w4.heap.size, 0, none⟩) 1 1]) (by simp [results, Try.results116, go_sem, u0, u1, u2, u3, u4, u5, u6, u7, u8, u9, u10, u11, u12]) rfl ?_
      rw [HE.out]
      exact ⟨σ, ω, _, _, _, rfl, N9.out, OutAt.one (m := entriesMsg n2 m.frm) O9.out hBs R9.out, B9.out, K9.out⟩
    (refine Go.RT.step_w rfl rfl (fun K hK => ?_) Go.RT.step_stop)
    go_wp2
    refine Go.RT.QK_normal _ _ _ _ (hK _ _ ?_ ?_) <;> clear hK K
    · repeat (first | exact Go.RT.again_nil | (refine Go.RT.again_not rfl rfl ?_) | (refine Go.RT.again_one rfl (by go_simp <;> rfl) ?_))
    (refine Go.RT.step_w rfl rfl (fun K hK => ?_) Go.RT.step_stop)
    go_wp2
    refine Go.RT.QK_normal _ _ _ _ (hK _ _ ?_ ?_) <;> clear hK K
    · repeat (first | exact Go.RT.again_nil | (refine Go.RT.again_not rfl rfl ?_) | (refine Go.RT.again_one rfl (by go_simp <;> rfl) ?_))
    (refine Go.RT.step_w rfl rfl (fun K hK => ?_) Go.RT.step_stop)
    go_wp2
    refine Go.RT.QK_normal _ _ _ _ (hK _ _ ?_ ?_) <;> clear hK K
    · repeat (first | exact Go.RT.again_nil | (refine Go.RT.again_not rfl rfl ?_) | (refine Go.RT.again_one rfl (by go_simp <;> rfl) ?_))
    refine Go.RT.step_nil ?_
    go_wp2_with fail
    refine name_world (F := fun W => Hid (W.heap[w.heap.size + 2]? = some (.cells #[.int .i64 n2.id, .int .i64 n2.term, .int .i64 n2.vote, .slice σ.A3 n2.log.length σ.k3, .int .i64 n2.form, .int .i64 n2.role, .int .i64 n2.commit, .slice σ.A7 n2.votes.length σ.k7, .slice σ.A8 n2.nxt.length σ.k8, .slice σ.A9 n2.mtch.length σ.k9, .slice σ.A10 n2.forms.length σ.k10, .int .i64 n2.clock, .int .i64 n2.due] 28 (0, 0))) ∧ Hid (NodeOs W B n2 σ ω) ∧ Hid (Below B w W) ∧ Hid (Kp w W) ∧ Hid (W.heap[w4.heap.size]? = some (.cells #[.int .i64 (entriesMsg n2 m.frm).kind, .int .i64 (entriesMsg n2 m.frm).frm, .int .i64 (entriesMsg n2 m.frm).to, .int .i64 (entriesMsg n2 m.frm).term, .int .i64 (entriesMsg n2 m.frm).index, .int .i64 (entriesMsg n2 m.frm).logTerm, .bool (entriesMsg n2 m.frm).ok, .slice A2 (entriesMsg n2 m.frm).entries.length c2, .int .i64 (entriesMsg n2 m.frm).commit, .int .i64 (entriesMsg n2 m.frm).form] 34 (0, 0))) ∧ Hid (MM.Rd W (fun k => B ≤ k ∧ MM.Ty W k 40) 2 (.slice A2 (entriesMsg n2 m.frm).entries.length c2) (entriesMsg n2 m.frm).entries.length (entsC (entriesMsg n2 m.frm).entries))) _ ⟨Lib.hid ((old13 _ (MM.blk_lt Y4.out)).trans ((set13 Y4.out).trans rfl)), Lib.hid (((N4.out.rows.types (fun k t hk ht' => far13 (ty_ne hk ⟨_, _, Y4.out⟩ (by rcases ht' with rfl | rfl | rfl <;> decide)))).step (fun k _ hk => Below.heap_alloc _ _ k hk))), Lib.hid ((below13 HB4.out hBr).alloc (by rw [size13]; exact hBs) _), Lib.hid ((HK4.out.new13 hwr).trans (Kp.old (fun k hk => Below.heap_alloc _ _ k hk))), Lib.hid (new13 _), Lib.hid (rd_far R4.out (fun k t hk ht => (old13 _ (Ty_lt hk)).trans (far13 (ty_ne hk ⟨_, _, Y4.out⟩ (by rw [ht]; decide)))))⟩ ?_
    intro wf ⟨Y9, N9, B9, K9, O9, R9⟩
    obtain ⟨u0, u1, u2, u3, u4, u5, u6, u7, u8, u9, u10, u11, u12⟩ := MM.cells13 Y9.out
    refine bodyPost_ret (v := .tuple #[.agg #[.int .i64 n2.id, .int .i64 n2.term, .int .i64 n2.vote, .slice σ.A3 n2.log.length σ.k3, .int .i64 n2.form, .int .i64 n2.role, .int .i64 n2.commit, .slice σ.A7 n2.votes.length σ.k7, .slice σ.A8 n2.nxt.length σ.k8, .slice σ.A9 n2.mtch.length σ.k9, .slice σ.A10 n2.forms.length σ.k10, .int .i64 n2.clock, .int .i64 n2.due], .slice (some ⟨w4.heap.size, 0, none⟩) 1 1]) (by simp [results, Try.results116, go_sem, u0, u1, u2, u3, u4, u5, u6, u7, u8, u9, u10, u11, u12]) rfl ?_
    rw [HE.out]
    exact ⟨σ, ω, _, _, _, rfl, N9.out, OutAt.one (m := entriesMsg n2 m.frm) O9.out hBs R9.out, B9.out, K9.out⟩
  case neg =>
    have hok2 : m.ok = true := by cases hq : m.ok; exact absurd hq hok; rfl
    have HS2 := Lib.hid (HS.out.trans (if_neg hok))
    rw [hok2] at d6
    clear hok hok2 HS HX1 HX0
    obtain ⟨p9, hp9⟩ := N2.out.rows.hm.some_of (by omega)
    have hr9 := N2.out.rows.hm
    rw [hp9] at hr9
    obtain ⟨cap9, e9, q91, q92⟩ := hr9.form
    have c9 : w2.cell? ⟨w.heap.size, 9, none⟩ = some (.slice (some ⟨p9, 0, none⟩) n1.mtch.length cap9) := N2.out.c 9 _ (congrArg some e9)
    have HP9 := Lib.hid hp9
    have HR9 := Lib.hid hr9
    clear e9 hp9 hr9
    have ce9 : w2.cell? ⟨p9, m.frm.toNat, none⟩ = some (.int .i64 (n1.mtch.getD (m.frm.toNat) 0)) := HR9.out.cell (intsC_get (HF9.out))
    have fe9 : w2.frozen? ⟨p9, m.frm.toNat, none⟩ = false := HR9.out.free _
    obtain ⟨y, hy⟩ : ∃ y, y = n1.mtch.getD m.frm.toNat 0 := ⟨_, rfl⟩
    rw [← hy] at ce9 HY
    have HYe := Lib.hid hy
    obtain ⟨y0, y1⟩ := HY.out
    clear hy HY
    go_wp2_with fail
    refine Go.RT.wp_region_tree [0, 1, 0, 4, 0, 16, 0, 64, 240, 496, 0, 1024, 4080, 8191, 16383] (.p 0 (.s 1 (.p 2 (.s 3 (.p 4 (.s 5 (.p 6 (.s 7 (.p 8 (.s 9 (.p 10 (.s 11 (.p 12 (.p 13 (.w 14 [] .nil .stop))))))))))))))) (by kernel_rfl) (by kernel_rfl) ?_
    repeat (first | (refine Go.RT.step_p rfl (fun K hK => ?_); go_simp; refine hK _ ?_; clear hK K) | (refine Go.RT.step_s rfl (fun K hK => ?_); go_simp; refine hK _ ?_; clear hK K))
    (refine Go.RT.step_w rfl rfl (fun K hK => ?_) Go.RT.step_stop)
    go_wp2
    refine Go.RT.QK_normal _ _ _ _ (hK _ _ ?_ ?_) <;> clear hK K
    · repeat (first | exact Go.RT.again_nil | (refine Go.RT.again_not rfl rfl ?_) | (refine Go.RT.again_one rfl (by go_simp <;> rfl) ?_))
    refine Go.RT.step_nil ?_
    go_wp2_with fail
    refine name_world (F := fun W => Hid (NB W B w.heap.size { n1 with mtch := n1.mtch.set m.frm.toNat (mx y m.index) } σ ω) ∧ Hid (W.heap[w.heap.size + 1]? = some (.cells #[.int .i64 m.kind, .int .i64 m.frm, .int .i64 m.to, .int .i64 m.term, .int .i64 m.index, .int .i64 m.logTerm, .bool m.ok, .slice A m.entries.length c, .int .i64 m.commit, .int .i64 m.form] 34 (0, 0))) ∧ Hid (W.heap[w.heap.size + 2]? = some (.cells #[.int .i64 0, .int .i64 0, .int .i64 0, .slice none 0 0, .int .i64 0, .int .i64 0, .int .i64 0, .slice none 0 0, .slice none 0 0, .slice none 0 0, .slice none 0 0, .int .i64 0, .int .i64 0] 28 (0, 0))) ∧ Hid (Below B w W) ∧ Hid (Kp w W)) _ ⟨Lib.hid ((N2.out.set_m HP9.out HF9.out).drew), Lib.hid ((Below.heap_setCell _ _ _ _ (ty_ne ⟨_, _, M2.out⟩ (HR9.out.ty _ rfl) (by decide))).trans M2.out), Lib.hid ((Below.heap_setCell _ _ _ _ (ty_ne ⟨_, _, Y2.out⟩ (HR9.out.ty _ rfl) (by decide))).trans Y2.out), Lib.hid ((HB2.out.setCell (HR9.out.lt _ rfl).1 _).drew), Lib.hid (HK2.out.set (HR9.out.ty _ rfl) (.inl rfl) _)⟩ ?_
    clear N2 M2 Y2 HB2 HK2 c9 ce9 fe9 d1 d4 d6 HP9 HR9
    intro w3 ⟨N3, M3, Y3, HB3, HK3⟩
    obtain ⟨n2, hn2⟩ : ∃ gn : Fed.Node, gn = { n1 with mtch := n1.mtch.set m.frm.toNat (mx y m.index) } := ⟨_, rfl⟩
    rw [← hn2] at N3
    have HEn2 := Lib.hid hn2
    clear hn2
    have f2 : n2.nxt = n1.nxt ∧ n2.votes = n1.votes ∧ n2.commit = n1.commit ∧ n2.log = n1.log := by rw [HEn2.out]; exact ⟨rfl, rfl, rfl, rfl⟩
    have g2 : n2.mtch.getD m.frm.toNat 0 = mx y m.index := by
      rw [HEn2.out]
      show (n1.mtch.set m.frm.toNat (mx y m.index)).getD m.frm.toNat 0 = _
      simp [List.getD_eq_getElem?_getD, List.getElem?_set_self HF9.out]
    have G2 := Lib.hid g2
    have g3 : n2.mtch.length = n1.mtch.length := by rw [HEn2.out]; show (n1.mtch.set _ _).length = _; rw [List.length_set]
    have G3 := Lib.hid g3
    have F2 := Lib.hid f2
    have h9' : m.frm.toNat < n2.mtch.length := by rw [g3]; exact HF9.out
    have H9' := Lib.hid h9'
    have h8' : m.frm.toNat < n2.nxt.length := by rw [f2.1]; exact HF8.out
    have H8' := Lib.hid h8'
    have hf9' : m.frm < (n2.mtch.length : Int) := by rw [g3]; exact hf9
    have hf8' : m.frm < (n2.nxt.length : Int) := by rw [f2.1]; exact hf8
    clear f2 g2 g3 h9' h8' hf9 hf8
    obtain ⟨p8, hp8⟩ := N3.out.rows.hn.some_of (by omega)
    have hr8 := N3.out.rows.hn
    rw [hp8] at hr8
    obtain ⟨cap8, e8, q81, q82⟩ := hr8.form
    have c8 : w3.cell? ⟨w.heap.size, 8, none⟩ = some (.slice (some ⟨p8, 0, none⟩) n2.nxt.length cap8) := N3.out.c 8 _ (congrArg some e8)
    have HP8 := Lib.hid hp8
    have HR8 := Lib.hid hr8
    clear e8 hp8 hr8
    have ce8 : w3.cell? ⟨p8, m.frm.toNat, none⟩ = some (.int .i64 (n2.nxt.getD (m.frm.toNat) 0)) := HR8.out.cell (intsC_get (H8'.out))
    have fe8 : w3.frozen? ⟨p8, m.frm.toNat, none⟩ = false := HR8.out.free _
    obtain ⟨p9, hp9⟩ := N3.out.rows.hm.some_of (by omega)
    have hr9 := N3.out.rows.hm
    rw [hp9] at hr9
    obtain ⟨cap9, e9, q91, q92⟩ := hr9.form
    have c9 : w3.cell? ⟨w.heap.size, 9, none⟩ = some (.slice (some ⟨p9, 0, none⟩) n2.mtch.length cap9) := N3.out.c 9 _ (congrArg some e9)
    have HP9 := Lib.hid hp9
    have HR9 := Lib.hid hr9
    clear e9 hp9 hr9
    have ce9 : w3.cell? ⟨p9, m.frm.toNat, none⟩ = some (.int .i64 (n2.mtch.getD (m.frm.toNat) 0)) := HR9.out.cell (intsC_get (H9'.out))
    have fe9 : w3.frozen? ⟨p9, m.frm.toNat, none⟩ = false := HR9.out.free _
    have d1 : w3.cell? ⟨w.heap.size + 1, 1, none⟩ = some (.int .i64 m.frm) := MM.cell_blk M3.out rfl
    rw [G2.out] at ce9
    obtain ⟨z, hz⟩ : ∃ z, z = mx y m.index := ⟨_, rfl⟩
    rw [← hz] at ce9
    have hzb : -1000000 ≤ z ∧ z ≤ 1000000 := by rw [hz]; unfold mx; omega
    obtain ⟨zb0, zb1⟩ := hzb
    have HZ := Lib.hid hz
    clear hz
    go_wp2_with fail
    refine Go.RT.wp_region_tree [0, 1, 0, 4, 0, 16, 0, 64, 240, 496, 1008, 2047, 4095] (.p 0 (.s 1 (.p 2 (.s 3 (.p 4 (.s 5 (.p 6 (.s 7 (.p 8 (.s 9 (.p 10 (.p 11 (.w 12 [] .nil .stop))))))))))))) (by kernel_rfl) (by kernel_rfl) ?_
    repeat (first | (refine Go.RT.step_p rfl (fun K hK => ?_); go_simp; refine hK _ ?_; clear hK K) | (refine Go.RT.step_s rfl (fun K hK => ?_); go_simp; refine hK _ ?_; clear hK K))
    (refine Go.RT.step_w rfl rfl (fun K hK => ?_) Go.RT.step_stop)
    go_wp2
    refine Go.RT.QK_normal _ _ _ _ (hK _ _ ?_ ?_) <;> clear hK K
    · repeat (first | exact Go.RT.again_nil | (refine Go.RT.again_not rfl rfl ?_) | (refine Go.RT.again_one rfl (by go_simp <;> rfl) ?_))
    refine Go.RT.step_nil ?_
    go_upto_region 7 with (fail)
    refine name_world (F := fun W => Hid (NB W B w.heap.size { n2 with nxt := n2.nxt.set m.frm.toNat (z + 1) } σ ω) ∧ Hid (W.heap[w.heap.size + 1]? = some (.cells #[.int .i64 m.kind, .int .i64 m.frm, .int .i64 m.to, .int .i64 m.term, .int .i64 m.index, .int .i64 m.logTerm, .bool m.ok, .slice A m.entries.length c, .int .i64 m.commit, .int .i64 m.form] 34 (0, 0))) ∧ Hid (W.heap[w.heap.size + 2]? = some (.cells #[.int .i64 0, .int .i64 0, .int .i64 0, .slice none 0 0, .int .i64 0, .int .i64 0, .int .i64 0, .slice none 0 0, .slice none 0 0, .slice none 0 0, .slice none 0 0, .int .i64 0, .int .i64 0] 28 (0, 0))) ∧ Hid (Below B w W) ∧ Hid (Kp w W)) _ ⟨Lib.hid ((N3.out.set_n HP8.out H8'.out).drew), Lib.hid ((Below.heap_setCell _ _ _ _ (ty_ne ⟨_, _, M3.out⟩ (HR8.out.ty _ rfl) (by decide))).trans M3.out), Lib.hid ((Below.heap_setCell _ _ _ _ (ty_ne ⟨_, _, Y3.out⟩ (HR8.out.ty _ rfl) (by decide))).trans Y3.out), Lib.hid ((HB3.out.setCell (HR8.out.lt _ rfl).1 _).drew), Lib.hid (HK3.out.set (HR8.out.ty _ rfl) (.inl rfl) _)⟩ ?_
    clear N3 M3 Y3 HB3 HK3 c8 ce8 fe8 c9 ce9 fe9 d1 HP8 HR8 HP9 HR9 hf9' hf8'
    intro w4 ⟨N4, M4, Y4, HB4, HK4⟩
    obtain ⟨n3, hn3⟩ : ∃ gn : Fed.Node, gn = { n2 with nxt := n2.nxt.set m.frm.toNat (z + 1) } := ⟨_, rfl⟩
    rw [← hn3] at N4
    have HEn3 := Lib.hid hn3
    clear hn3
    have e3 : n3 = matchN1 n m := by
      rw [HEn3.out, HZ.out, HEn2.out]
      unfold matchN1
      rw [HM0.out, HYe.out, F1.out.1, F1.out.2.1]
    have HE3 := Lib.hid e3
    have k1 : n3.log.length ≤ 1000000 := by rw [HEn3.out]; show n2.log.length ≤ _; rw [F2.out.2.2.2]; exact l1
    have k2 : n3.mtch.length = n3.votes.length := by rw [HEn3.out]; show n2.mtch.length = n2.votes.length; rw [G3.out, F2.out.2.1]; exact L4.out
    have k3 : n3.mtch.length ≤ 1000 := by rw [k2, HEn3.out]; show n2.votes.length ≤ _; rw [F2.out.2.1]; exact l2
    have k4 : 0 ≤ n3.commit := by rw [HEn3.out]; show 0 ≤ n2.commit; rw [F2.out.2.2.1]; exact hcm
    have K2 := Lib.hid k2
    clear k2 e3
    obtain ⟨c0, c1, c2, c3, c4, c5, c6, c7, c8, c9, c10, c11, c12⟩ := MM.cells13 N4.out.blk
    go_wp2_with fail
    refine (rreached_any _ _ n3 σ N4.out.toV k1 k3 K2.out k4).mono ?_
    rintro e w5 ⟨rfl, hb5⟩
    have N5 := Lib.hid (N4.out.below hb5)
    have Y5 := Lib.hid ((hb5.block _ (MM.blk_lt Y4.out)).trans Y4.out)
    have HB5 := Lib.hid (HB4.out.trans (hb5.mono (Nat.le_trans hB HB4.out.size)))
    have HK5 := Lib.hid (HK4.out.trans (Kp.old (fun k hk => hb5.block k hk)))
    clear hb5 N4 Y4 HB4 HK4 M4 c0 c1 c2 c3 c4 c5 c6 c7 c8 c9 c10 c11 c12
    have c6 : w5.cell? ⟨w.heap.size, 6, none⟩ = some (.int .i64 n3.commit) := N5.out.c 6 _ rfl
    have g6 : w5.frozen? ⟨w.heap.size, 6, none⟩ = false := N5.out.fr 6
    go_upto_region 8 with (fail)
    refine name_world (F := fun W => Hid (NB W B w.heap.size { n3 with commit := reachedN n3 } σ ω) ∧ Hid (W.heap[w.heap.size + 2]? = some (.cells #[.int .i64 0, .int .i64 0, .int .i64 0, .slice none 0 0, .int .i64 0, .int .i64 0, .int .i64 0, .slice none 0 0, .slice none 0 0, .slice none 0 0, .slice none 0 0, .int .i64 0, .int .i64 0] 28 (0, 0))) ∧ Hid (Below B w W) ∧ Hid (Kp w W)) _ ⟨Lib.hid (N5.out.set rfl ⟨rfl, rfl, rfl, rfl, rfl⟩), Lib.hid ((Below.heap_setCell _ _ _ _ (by show w.heap.size + 2 ≠ w.heap.size; omega)).trans Y5.out), Lib.hid (HB5.out.setCell hB _), Lib.hid (HK5.out.new (Nat.le_refl _) _)⟩ ?_
    clear N5 Y5 HB5 HK5 c6 g6
    intro w6 ⟨N6, Y6, HB6, HK6⟩
    obtain ⟨n4, hn4⟩ : ∃ gn : Fed.Node, gn = { n3 with commit := reachedN n3 } := ⟨_, rfl⟩
    rw [← hn4] at N6
    have HEn4 := Lib.hid hn4
    clear hn4
    have HE := Lib.hid (show matchS ⟨n, []⟩ m = ⟨n4, []⟩ from by rw [HS2.out, HEn4.out, HE3.out]; rfl)
    obtain ⟨c0, c1, c2, c3, c4, c5, c6, c7, c8, c9, c10, c11, c12⟩ := MM.cells13 N6.out.blk
    obtain ⟨y0, y1, y2, y3, y4, y5, y6, y7, y8, y9, y10, y11, y12⟩ := MM.cells13 Y6.out
    obtain ⟨z0, z1, z2, z3, z4, z5, z6, z7, z8, z9, z10, z11, z12⟩ := MM.frees13 Y6.out
    go_wp2_with fail
    refine name_world (F := fun W => Hid (W.heap[w.heap.size + 2]? = some (.cells #[.int .i64 n4.id, .int .i64 n4.term, .int .i64 n4.vote, .slice σ.A3 n4.log.length σ.k3, .int .i64 n4.form, .int .i64 n4.role, .int .i64 n4.commit, .slice σ.A7 n4.votes.length σ.k7, .slice σ.A8 n4.nxt.length σ.k8, .slice σ.A9 n4.mtch.length σ.k9, .slice σ.A10 n4.forms.length σ.k10, .int .i64 n4.clock, .int .i64 n4.due] 28 (0, 0))) ∧ Hid (NodeOs W B n4 σ ω) ∧ Hid (Below B w W) ∧ Hid (Kp w W)) _ ⟨Lib.hid ((set13 Y6.out).trans rfl), Lib.hid (N6.out.rows.types (fun k t hk ht' => far13 (ty_ne hk ⟨_, _, Y6.out⟩ (by rcases ht' with rfl | rfl | rfl <;> decide)))), Lib.hid (below13 HB6.out (by omega)), Lib.hid (HK6.out.new13 (by omega))⟩ ?_
    intro wf ⟨Y9, N9, B9, K9⟩
    obtain ⟨u0, u1, u2, u3, u4, u5, u6, u7, u8, u9, u10, u11, u12⟩ := MM.cells13 Y9.out
    refine bodyPost_ret (v := .tuple #[.agg #[.int .i64 n4.id, .int .i64 n4.term, .int .i64 n4.vote, .slice σ.A3 n4.log.length σ.k3, .int .i64 n4.form, .int .i64 n4.role, .int .i64 n4.commit, .slice σ.A7 n4.votes.length σ.k7, .slice σ.A8 n4.nxt.length σ.k8, .slice σ.A9 n4.mtch.length σ.k9, .slice σ.A10 n4.forms.length σ.k10, .int .i64 n4.clock, .int .i64 n4.due], .slice none 0 0]) (by simp [results, Try.results116, go_sem, u0, u1, u2, u3, u4, u5, u6, u7, u8, u9, u10, u11, u12]) rfl ?_
    rw [HE.out]
    exact ⟨σ, ω, none, 0, none, rfl, N9.out, OutAt.nil _ _ _, B9.out, K9.out⟩


end Go.Proofs.Ytnkmljdkokcdjaa
