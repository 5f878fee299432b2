/-
  The group's Leader answers as the plain function; New lays a group.
-/
import Derived.WalkKit
import Derived.WalkSpells
import Derived.Lib.Hide
import Derived.Outline
import Derived.Test.YtnkmljdkokcdjaaChecked
import Derived.Test.YtnkmljdkokcdjaaMn
import Derived.Test.YtnkmljdkokcdjaaMem
import Derived.Test.YtnkmljdkokcdjaaFed
import Derived.Test.YtnkmljdkokcdjaaMo
import Derived.Deep.DeepCutAuto
import Derived.Deep.CutBlock
import Derived.Deep.OwnRows
import Derived.IntWalk
import Derived.Test.YtnkmljdkokcdjaaGg
set_option linter.unusedVariables false
set_option linter.unusedSimpArgs false
namespace Go.Proofs.Ytnkmljdkokcdjaa
open Go.RowKit Fed
set_option linter.unusedVariables false
attribute [local go_sem high] Fed.max2_int Fed.min2_int

theorem leadTo_cases (s : GS) : ∀ i : Nat, s.leadTo i = -1 ∨ ∃ a : Nat, a < i ∧ s.leadTo i = a
  | 0 => .inl rfl
  | i + 1 => by
    unfold GS.leadTo
    split
    · exact .inr ⟨i, by omega, rfl⟩
    · rcases leadTo_cases s i with h | ⟨a, h1, h2⟩
      · exact .inl h
      · exact .inr ⟨a, by omega, h2⟩
theorem leadTo_yes {s : GS} {i : Nat} (h : (s.us.getD i false && decide ((s.ns.getD i Fed.blank).role = 2) && (decide (s.leadTo i < 0) || decide ((s.ns.getD (s.leadTo i).toNat Fed.blank).term < (s.ns.getD i Fed.blank).term))) = true) : s.leadTo (i + 1) = (i : Int) := by
  show (if _ = true then _ else _) = _
  rw [if_pos h]
theorem leadTo_no {s : GS} {i : Nat} (h : (s.us.getD i false && decide ((s.ns.getD i Fed.blank).role = 2) && (decide (s.leadTo i < 0) || decide ((s.ns.getD (s.leadTo i).toNat Fed.blank).term < (s.ns.getD i Fed.blank).term))) = false) : s.leadTo (i + 1) = s.leadTo i := by
  show (if _ = true then _ else _) = _
  rw [if_neg (by rw [h]; simp)]
set_option maxRecDepth 100000 in
set_option maxHeartbeats 40000000 in
theorem gLeader_any (w : World) (B g : Nat) (s : GS) (μ : GM) (ok : Nat → Prop) (h : GroupAt w B g s μ ok) (hl : s.ns.length ≤ 1000) (h0 : 0 < s.ns.length) :
    Calls Try.prog 39 #[.pointer (some ⟨g, 0, none⟩)] w fun e w' => e = .returned (.int .i64 s.leader) ∧ Below w.heap.size w w' := by
  have c0 := h.c0
  obtain ⟨pb, hp, ea, _, _, _, _⟩ := h.place h0
  rw [ea] at c0
  have HP := Lib.hid hp
  have HA := Lib.hid ea
  clear hp ea
  have H := Lib.hid h
  have HB := Lib.hid (Below.refl w.heap.size w)
  have HS := Lib.hid (show s.leader = s.leadTo s.ns.length from rfl)
  clear h
  go_enter Try.func39, Try.ntmps39
  go_wp2_with fail
  go_loopw [3, 11] (fun t3 t11 wr => ∃ i : Nat, i ≤ s.ns.length ∧ t3 = .int .i64 (s.leadTo i) ∧ t11 = .int .i64 i ∧ Hid (GroupAt wr B g s μ ok) ∧ Hid (Below w.heap.size w wr)) (fun _ t11 _ => s.ns.length - (intOf t11).toNat)
  case atStart => exact ⟨0, by omega, rfl, rfl, H, HB⟩
  case round =>
    clear H HB c0
    obtain ⟨i, hi, rfl, rfl, H, HB⟩ := hrel
    by_cases hlt : i < s.ns.length
    case neg =>
      have hb : decide ((i : Int) < (s.ns.length : Int)) = false := decide_eq_false (by omega)
      obtain rfl : i = s.ns.length := by omega
      go_wp2_with fail
      go_ret
      exact ⟨by rw [HS.out]; rfl, HB.out⟩
    case pos =>
      have hb : decide ((i : Int) < (s.ns.length : Int)) = true := decide_eq_true (by omega)
      obtain ⟨pb', hp, ea, hc1, hc2, hf, σ, v, hc⟩ := H.out.place hlt
      rw [HP.out] at hp
      injection hp with hp
      subst hp
      obtain ⟨u, hu⟩ : ∃ u, u = s.us.getD i false := ⟨_, rfl⟩
      rw [← hu] at hc
      have HU := Lib.hid hu
      obtain ⟨nd, hnd⟩ : ∃ nd, nd = s.ns.getD i Fed.blank := ⟨_, rfl⟩
      have hnd' : s.node (i : Int) = nd := by rw [hnd]; unfold GS.node; rw [Int.toNat_natCast]
      rw [hnd'] at hc
      have HND := Lib.hid hnd
      have x0 : wr.cell? ⟨pb, i * 14, none⟩ = some (.int .i64 nd.id) := hc 0 _ rfl
      have x1 : wr.cell? ⟨pb, i * 14 + 1, none⟩ = some (.int .i64 nd.term) := hc 1 _ rfl
      have x2 : wr.cell? ⟨pb, i * 14 + 2, none⟩ = some (.int .i64 nd.vote) := hc 2 _ rfl
      have x3 : wr.cell? ⟨pb, i * 14 + 3, none⟩ = some (.slice σ.A3 nd.log.length σ.k3) := hc 3 _ rfl
      have x4 : wr.cell? ⟨pb, i * 14 + 4, none⟩ = some (.int .i64 nd.form) := hc 4 _ rfl
      have x5 : wr.cell? ⟨pb, i * 14 + 5, none⟩ = some (.int .i64 nd.role) := hc 5 _ rfl
      have x6 : wr.cell? ⟨pb, i * 14 + 6, none⟩ = some (.int .i64 nd.commit) := hc 6 _ rfl
      have x7 : wr.cell? ⟨pb, i * 14 + 7, none⟩ = some (.slice σ.A7 nd.votes.length σ.k7) := hc 7 _ rfl
      have x8 : wr.cell? ⟨pb, i * 14 + 8, none⟩ = some (.slice σ.A8 nd.nxt.length σ.k8) := hc 8 _ rfl
      have x9 : wr.cell? ⟨pb, i * 14 + 9, none⟩ = some (.slice σ.A9 nd.mtch.length σ.k9) := hc 9 _ rfl
      have x10 : wr.cell? ⟨pb, i * 14 + 10, none⟩ = some (.slice σ.A10 nd.forms.length σ.k10) := hc 10 _ rfl
      have x11 : wr.cell? ⟨pb, i * 14 + 11, none⟩ = some (.int .i64 nd.clock) := hc 11 _ rfl
      have x12 : wr.cell? ⟨pb, i * 14 + 12, none⟩ = some (.int .i64 nd.due) := hc 12 _ rfl
      have x13 : wr.cell? ⟨pb, i * 14 + 13, none⟩ = some (.bool u) := hc 13 _ rfl
      clear hc hf v hu hnd hnd' ea
      go_upto_region 5 with (fail)
      refine name_world (F := fun W => Hid (W.heap[wr.heap.size]? = some (.cells #[.int .i64 nd.id, .int .i64 nd.term, .int .i64 nd.vote, .slice σ.A3 nd.log.length σ.k3, .int .i64 nd.form, .int .i64 nd.role, .int .i64 nd.commit, .slice σ.A7 nd.votes.length σ.k7, .slice σ.A8 nd.nxt.length σ.k8, .slice σ.A9 nd.mtch.length σ.k9, .slice σ.A10 nd.forms.length σ.k10, .int .i64 nd.clock, .int .i64 nd.due, .bool u] 96 (0, 0))) ∧ Hid (GroupAt W B g s μ ok) ∧ Hid (Below w.heap.size w W)) _ (by exact ⟨Lib.hid (MM.alloc_new _ _), Lib.hid (H.out.alloc _), Lib.hid (HB.out.alloc HB.out.size _)⟩) ?_
      clear H HB
      intro w2 ⟨R2, G2, HB2⟩
      have d1 : w2.cell? ⟨wr.heap.size, 1, none⟩ = some (.int .i64 nd.term) := MM.cell_blk R2.out rfl
      have d5 : w2.cell? ⟨wr.heap.size, 5, none⟩ = some (.int .i64 nd.role) := MM.cell_blk R2.out rfl
      have d13 : w2.cell? ⟨wr.heap.size, 13, none⟩ = some (.bool u) := MM.cell_blk R2.out rfl
      have c0 := G2.out.c0
      rw [HA.out] at c0
      have hg := G2.out.lt
      cases u
      · have LN := Lib.hid (leadTo_no (s := s) (i := i) (by rw [← HU.out, ← HND.out]; rfl))
        clear HND
        refine Go.RT.wp_region_tree [0, 1, 3, 7, 15, 31, 63, 127, 255, 511, 1023, 2047, 4095, 8191, 16383, 4095, 36863, 102399, 233471, 4095, 1019903, 2068479, 4165631, 8359935, 16777215, 33554431, 67108863] (.p 0 (.s 1 (.p 2 (.p 3 (.p 4 (.s 5 (.p 6 (.p 7 (.p 8 (.p 9 (.p 10 (.p 11 (.p 12 (.p 13 (.s 14 (.p 15 (.p 16 (.p 17 (.s 18 (.p 19 (.p 20 (.p 21 (.p 22 (.s 23 (.p 24 (.p 25 (.p 26 .nil))))))))))))))))))))))))))) (by kernel_rfl) (by kernel_rfl) ?_
        repeat (first | (refine Go.RT.step_p rfl (fun K hK => ?_); go_simp; refine hK _ ?_; clear hK K) | (refine Go.RT.step_s rfl (fun K hK => ?_); go_simp; refine hK _ ?_; clear hK K))
        refine Go.RT.step_nil ?_
        go_wp2_with fail
        have G3 := Lib.hid (G2.out.step (w1 := w2.drew) (fun _ _ => rfl) (Nat.le_refl _))
        have HB3 := Lib.hid HB2.out.drew
        go_roundw
        case rel =>
          first | exact ⟨i + 1, by omega, by rw [LN.out], by go_num, G3, HB3⟩ | ((repeat apply Exists.intro); refine ⟨?_, rfl⟩; exact ⟨i + 1, by omega, by rw [LN.out], by go_num, G3, HB3⟩)
        case measure => simp [intOf]; omega
      · by_cases hr : nd.role = 2
        · have hrb : (nd.role == 2) = true := by rw [hr]; rfl
          rcases leadTo_cases s i with hm | ⟨a, ha, hm⟩
          · have HL := Lib.hid hm
            rw [hm]
            have HR := Lib.hid hr
            clear hm hr
            have LN := Lib.hid (leadTo_yes (s := s) (i := i) (by rw [← HU.out, ← HND.out]; rw [HL.out, decide_eq_true HR.out]; rfl))
            clear HND
            refine Go.RT.wp_region_tree [0, 1, 3, 7, 15, 31, 63, 127, 255, 511, 1023, 2047, 4095, 8191, 16383, 4095, 36863, 102399, 233471, 4095, 1019903, 2068479, 4165631, 8359935, 16777215, 33554431, 67108863] (.p 0 (.s 1 (.p 2 (.p 3 (.p 4 (.s 5 (.p 6 (.p 7 (.p 8 (.p 9 (.p 10 (.p 11 (.p 12 (.p 13 (.s 14 (.p 15 (.p 16 (.p 17 (.s 18 (.p 19 (.p 20 (.p 21 (.p 22 (.s 23 (.p 24 (.p 25 (.p 26 .nil))))))))))))))))))))))))))) (by kernel_rfl) (by kernel_rfl) ?_
            repeat (first | (refine Go.RT.step_p rfl (fun K hK => ?_); go_simp; refine hK _ ?_; clear hK K) | (refine Go.RT.step_s rfl (fun K hK => ?_); go_simp; refine hK _ ?_; clear hK K))
            refine Go.RT.step_nil ?_
            go_wp2_with fail
            have G3 := Lib.hid (G2.out.step (w1 := w2.drew) (fun _ _ => rfl) (Nat.le_refl _))
            have HB3 := Lib.hid HB2.out.drew
            go_roundw
            case rel =>
              first | exact ⟨i + 1, by omega, by rw [LN.out], by go_num, G3, HB3⟩ | ((repeat apply Exists.intro); refine ⟨?_, rfl⟩; exact ⟨i + 1, by omega, by rw [LN.out], by go_num, G3, HB3⟩)
            case measure => simp [intOf]; omega
          · have HL := Lib.hid hm
            rw [hm]
            have HR := Lib.hid hr
            clear hm hr
            obtain ⟨pa, hpa, _, _, _, _, ρ, _, hca⟩ := G2.out.place (i := a) (by omega)
            rw [HP.out] at hpa
            injection hpa with hpa
            subst hpa
            obtain ⟨na, hna⟩ : ∃ na, na = s.ns.getD a Fed.blank := ⟨_, rfl⟩
            have hna' : s.node (a : Int) = na := by rw [hna]; unfold GS.node; rw [Int.toNat_natCast]
            rw [hna'] at hca
            have HNA := Lib.hid hna
            have e1 : w2.cell? ⟨pb, a * 14 + 1, none⟩ = some (.int .i64 na.term) := hca 1 _ rfl
            have hal : a < s.ns.length := by omega
            have hab : decide ((a : Int) < 0) = false := decide_eq_false (by omega)
            have hpl : pb < w2.heap.size := (G2.out.ltp pb HP.out).2
            clear hna hna' hca
            by_cases ht : na.term < nd.term
            · have htb : decide (na.term < nd.term) = true := decide_eq_true ht
              have HT := Lib.hid ht
              clear ht
              have LN := Lib.hid (leadTo_yes (s := s) (i := i) (by rw [← HU.out, ← HND.out]; rw [HL.out, decide_eq_true HR.out, Int.toNat_natCast, ← HNA.out, decide_eq_true HT.out]; simp))
              clear HND HNA
              refine Go.RT.wp_region_tree [0, 1, 3, 7, 15, 31, 63, 127, 255, 511, 1023, 2047, 4095, 8191, 16383, 4095, 36863, 102399, 233471, 4095, 1019903, 2068479, 4165631, 8359935, 16777215, 33554431, 67108863] (.p 0 (.s 1 (.p 2 (.p 3 (.p 4 (.s 5 (.p 6 (.p 7 (.p 8 (.p 9 (.p 10 (.p 11 (.p 12 (.p 13 (.s 14 (.p 15 (.p 16 (.p 17 (.s 18 (.p 19 (.p 20 (.p 21 (.p 22 (.s 23 (.p 24 (.p 25 (.p 26 .nil))))))))))))))))))))))))))) (by kernel_rfl) (by kernel_rfl) ?_
              repeat (first | (refine Go.RT.step_p rfl (fun K hK => ?_); go_simp; refine hK _ ?_; clear hK K) | (refine Go.RT.step_s rfl (fun K hK => ?_); go_simp; refine hK _ ?_; clear hK K))
              refine Go.RT.step_nil ?_
              go_wp2_with fail
              have G3 := Lib.hid (G2.out.step (w1 := w2.drew) (fun _ _ => rfl) (Nat.le_refl _))
              have HB3 := Lib.hid HB2.out.drew
              go_roundw
              case rel =>
                first | exact ⟨i + 1, by omega, by rw [LN.out], by go_num, G3, HB3⟩ | ((repeat apply Exists.intro); refine ⟨?_, rfl⟩; exact ⟨i + 1, by omega, by rw [LN.out], by go_num, G3, HB3⟩)
              case measure => simp [intOf]; omega
            · have htb : decide (na.term < nd.term) = false := decide_eq_false ht
              have HT := Lib.hid ht
              clear ht
              have LN := Lib.hid (leadTo_no (s := s) (i := i) (by rw [← HU.out, ← HND.out]; rw [HL.out, decide_eq_true HR.out, Int.toNat_natCast, ← HNA.out, decide_eq_false HT.out, decide_eq_false (by omega)]; rfl))
              clear HND HNA
              refine Go.RT.wp_region_tree [0, 1, 3, 7, 15, 31, 63, 127, 255, 511, 1023, 2047, 4095, 8191, 16383, 4095, 36863, 102399, 233471, 4095, 1019903, 2068479, 4165631, 8359935, 16777215, 33554431, 67108863] (.p 0 (.s 1 (.p 2 (.p 3 (.p 4 (.s 5 (.p 6 (.p 7 (.p 8 (.p 9 (.p 10 (.p 11 (.p 12 (.p 13 (.s 14 (.p 15 (.p 16 (.p 17 (.s 18 (.p 19 (.p 20 (.p 21 (.p 22 (.s 23 (.p 24 (.p 25 (.p 26 .nil))))))))))))))))))))))))))) (by kernel_rfl) (by kernel_rfl) ?_
              repeat (first | (refine Go.RT.step_p rfl (fun K hK => ?_); go_simp; refine hK _ ?_; clear hK K) | (refine Go.RT.step_s rfl (fun K hK => ?_); go_simp; refine hK _ ?_; clear hK K))
              refine Go.RT.step_nil ?_
              go_wp2_with fail
              have G3 := Lib.hid (G2.out.step (w1 := w2.drew) (fun _ _ => rfl) (Nat.le_refl _))
              have HB3 := Lib.hid HB2.out.drew
              go_roundw
              case rel =>
                first | exact ⟨i + 1, by omega, by rw [LN.out]; rw [HL.out], by go_num, G3, HB3⟩ | ((repeat apply Exists.intro); refine ⟨?_, rfl⟩; exact ⟨i + 1, by omega, by rw [LN.out]; rw [HL.out], by go_num, G3, HB3⟩)
              case measure => simp [intOf]; omega
        · have hrb : (nd.role == 2) = false := by simpa using hr
          have HR := Lib.hid hr
          clear hr
          have LN := Lib.hid (leadTo_no (s := s) (i := i) (by rw [← HU.out, ← HND.out]; rw [decide_eq_false HR.out]; rfl))
          clear HND
          refine Go.RT.wp_region_tree [0, 1, 3, 7, 15, 31, 63, 127, 255, 511, 1023, 2047, 4095, 8191, 16383, 4095, 36863, 102399, 233471, 4095, 1019903, 2068479, 4165631, 8359935, 16777215, 33554431, 67108863] (.p 0 (.s 1 (.p 2 (.p 3 (.p 4 (.s 5 (.p 6 (.p 7 (.p 8 (.p 9 (.p 10 (.p 11 (.p 12 (.p 13 (.s 14 (.p 15 (.p 16 (.p 17 (.s 18 (.p 19 (.p 20 (.p 21 (.p 22 (.s 23 (.p 24 (.p 25 (.p 26 .nil))))))))))))))))))))))))))) (by kernel_rfl) (by kernel_rfl) ?_
          repeat (first | (refine Go.RT.step_p rfl (fun K hK => ?_); go_simp; refine hK _ ?_; clear hK K) | (refine Go.RT.step_s rfl (fun K hK => ?_); go_simp; refine hK _ ?_; clear hK K))
          refine Go.RT.step_nil ?_
          go_wp2_with fail
          have G3 := Lib.hid (G2.out.step (w1 := w2.drew) (fun _ _ => rfl) (Nat.le_refl _))
          have HB3 := Lib.hid HB2.out.drew
          go_roundw
          case rel =>
            first | exact ⟨i + 1, by omega, by rw [LN.out], by go_num, G3, HB3⟩ | ((repeat apply Exists.intro); refine ⟨?_, rfl⟩; exact ⟨i + 1, by omega, by rw [LN.out], by go_num, G3, HB3⟩)
          case measure => simp [intOf]; omega

end Go.Proofs.Ytnkmljdkokcdjaa
namespace Go.Proofs.Ytnkmljdkokcdjaa
open Go.RowKit Fed
set_option linter.unusedVariables false
attribute [local go_sem high] Fed.max2_int Fed.min2_int

/-- One more node. -/
theorem GroupAt.grow {w w1 : World} {B g : Nat} {s : GS} {μ : GM} {ok : Nat → Prop} (h : GroupAt w B g s μ ok) {cs : List Value} (p1 : MM.Row w B 96 14 (.slice μ.A s.ns.length μ.c) s.ns.length cs μ.p) (p2 : ∀ i n u, s.ns[i]? = some n → s.us[i]? = some u → ∃ σ, NodeVs w ok n σ ∧ ∀ j x, (placeL n σ u)[j]? = some x → cs[i * 14 + j]? = some x)
    {A' : Option Addr} {c' : Nat} {ob' : Option Nat} {n : Fed.Node} {σ : Sl5} {u : Bool} (hn : NodeVs w ok n σ) (hr : MM.Row w1 B 96 14 (.slice A' (s.ns.length + 1) c') (s.ns.length + 1) (cs ++ placeL n σ u) ob') (hg : w.grownBy w1 μ.p) (hob : ob' = μ.p ∨ ∃ b, ob' = some b ∧ w.heap.size ≤ b) :
    GroupAt (w1.setCell ⟨g, 0, none⟩ (.slice A' (s.ns.length + 1) c')) B g ⟨s.ns ++ [n], s.us ++ [u], s.f⟩ { μ with A := A', c := c', p := ob' } ok ∧ GStep w (w1.setCell ⟨g, 0, none⟩ (.slice A' (s.ns.length + 1) c')) B g μ { μ with A := A', c := c', p := ob' } ok ok := by
  have hbl : Below B w w1 := (Below.refl B w).grown hg h.Bsize (fun k hk => (h.ltp k hk).1)
  have kp : ∀ k, k < w.heap.size → μ.p ≠ some k → w1.heap[k]? = w.heap[k]? := fun k hk hne => hg.block k hk (fun e => hne e.symm)
  have hg1 : w1.heap[g]? = w.heap[g]? := kp g h.lt (fun q => ty_ne h.tyg (h.typ g q) (by decide) rfl)
  have far : ∀ k, k ≠ g → (w1.setCell ⟨g, 0, none⟩ (.slice A' (s.ns.length + 1) c')).heap[k]? = w1.heap[k]? := fun k hk => Below.heap_setCell w1 _ _ k hk
  have okg : ∀ k, ok k → k ≠ g := fun k hk e => h.no k hk (.inl e)
  have okk : ∀ k, ok k → (w1.setCell ⟨g, 0, none⟩ (.slice A' (s.ns.length + 1) c')).heap[k]? = w.heap[k]? := fun k hk => (far k (okg k hk)).trans (kp k (h.okl k hk) (fun q => h.no k hk (.inr (.inl q))))
  have hsz : w.heap.size ≤ (w1.setCell ⟨g, 0, none⟩ (.slice A' (s.ns.length + 1) c')).heap.size := by have := hbl.size; simpa [World.setCell] using this
  have hown : ∀ k, GM.owns g { μ with A := A', c := c', p := ob' } k → μ.owns g k ∨ w.heap.size ≤ k := by
    rintro k (q | q | q)
    · exact .inl (.inl q)
    · rcases hob with e | ⟨b, e, hb⟩
      · exact .inl (.inr (.inl (e ▸ q)))
      · have q' : ob' = some k := q
        rw [e] at q'; injection q' with q'; exact .inr (by omega)
    · exact .inl (.inr (.inr q))
  have hcl : cs.length = s.ns.length * 14 := p1.len
  refine ⟨⟨h.hB, by rw [List.length_append]; exact (setCell_blk _ (hg1.trans h.blk)).trans rfl, by simp [h.ul], ⟨cs ++ placeL n σ u, ?_, fun i m v hm hv => ?_⟩, h.fl.step (fun k hk => ?_) (fun k hk _ => okk k hk), fun k hk q => ?_, fun k hk => Nat.lt_of_lt_of_le (h.okl k hk) hsz⟩, ⟨hbl.setCell (p := ⟨g, 0, none⟩) h.hB _, fun k hk hn => (far k (fun e => hn (.inl e))).trans (kp k hk (fun q => hn (.inr (.inl q)))), hown, fun k q => .inl q⟩⟩
  · rw [List.length_append]
    exact hr.far (fun k hk => ty_ne (hr.ty k hk) ⟨_, _, hg1.trans h.blk⟩ (by decide)) _
  · have hm' : (s.ns ++ [n])[i]? = some m := hm
    have hv' : (s.us ++ [u])[i]? = some v := hv
    by_cases hin : i < s.ns.length
    · rw [List.getElem?_append_left hin] at hm'
      rw [List.getElem?_append_left (by rw [h.ul]; exact hin)] at hv'
      obtain ⟨τ, q, hc⟩ := p2 i m v hm' hv'
      refine ⟨τ, q.step fun k hk _ => okk k hk, fun j x hx => ?_⟩
      have h9 := hc j x hx
      rw [List.getElem?_append_left (List.getElem?_eq_some_iff.1 h9).1]
      exact h9
    · have hie : i = s.ns.length := by
        have := (List.getElem?_eq_some_iff.1 hm').1
        simp at this; omega
      subst hie
      rw [List.getElem?_append_right (Nat.le_refl _), Nat.sub_self] at hm'
      rw [List.getElem?_append_right (by rw [h.ul]; exact Nat.le_refl _), h.ul, Nat.sub_self] at hv'
      simp at hm' hv'
      subst hm' hv'
      refine ⟨σ, hn.step fun k hk _ => okk k hk, fun j x hx => ?_⟩
      rw [List.getElem?_append_right (by omega), hcl, show s.ns.length * 14 + j - s.ns.length * 14 = j from by omega]
      exact hx
  · exact (far k (ty_ne (h.tyf k hk) h.tyg (by decide))).trans (kp k (h.ltf k hk).2 (fun q => ty_ne (h.tyf k hk) (h.typ k q) (by decide) rfl))
  · rcases hown k q with q | q
    · exact h.no k hk q
    · have := h.okl k hk; omega
theorem placeL_one (n : Fed.Node) (σ : Sl5) (u : Bool) : ∀ x ∈ placeL n σ u, x.oneCell' = true := by
  intro x hx
  rcases List.mem_append.1 hx with hx | hx
  · exact nodeL_one n σ x hx
  · rw [List.mem_singleton.1 hx]; rfl
def firstN (k i : Nat) : GS := ⟨(List.range i).map fun j : Nat => newN (j : Int) k 1, List.replicate i true, []⟩
theorem firstN_succ (k i : Nat) : firstN k (i + 1) = ⟨(firstN k i).ns ++ [newN (i : Int) k 1], (firstN k i).us ++ [true], []⟩ := by
  unfold firstN
  rw [List.range_succ, List.map_append, List.replicate_succ']
  rfl
theorem firstN_len (k i : Nat) : (firstN k i).ns.length = i := by simp [firstN]
set_option maxRecDepth 100000 in
set_option maxHeartbeats 40000000 in
theorem gNew_any (w : World) (k : Nat) (hk1 : 1 ≤ k) (hk : k ≤ 1000) :
    Calls Try.prog 36 #[.int .i64 (k : Int)] w fun e w' => ∃ (g : Nat) (μ : GM) (ok : Nat → Prop), e = .returned (.pointer (some ⟨g, 0, none⟩)) ∧ GroupAt w' w.heap.size g (GS.new k) μ ok ∧ (∀ x, ok x → w.heap.size ≤ x) ∧ Below w.heap.size w w' := by
  obtain ⟨i0, hi0, hz0, hz1, hz2⟩ := info_parts info96
  go_enter Try.func36, Try.ntmps36
  have hmx : mx (k : Int) 0 = (k : Int) := by rw [mx_eq]; omega
  go_upto_region 2 with (fail)
  refine name_world (F := fun W => Hid (∃ (μ : GM) (ok : Nat → Prop), GroupAt W w.heap.size w.heap.size (firstN k 0) μ ok ∧ (∀ x, ok x → w.heap.size ≤ x)) ∧ Hid (Below w.heap.size w W)) _ (by exact ⟨Lib.hid (⟨⟨none, 0, none, 0, none, none⟩, fun _ => False, ⟨Nat.le_refl _, MM.alloc_new _ _, rfl, ⟨[], MM.Row.nil _ _ _ _ _, fun i n u h => by simp [firstN] at h⟩, FlyAt.nil _ _ _ _, fun _ h => h.elim, fun _ h => h.elim⟩, fun _ h => h.elim⟩), Lib.hid ((Below.refl _ w).alloc (Nat.le_refl _) _)⟩) ?_
  intro w1 ⟨G, HB⟩
  go_wp2_with fail
  go_loopw [9] (fun t9 wr => ∃ i : Nat, i ≤ k ∧ t9 = .int .i64 i ∧ Hid (∃ (μ : GM) (ok : Nat → Prop), GroupAt wr w.heap.size w.heap.size (firstN k i) μ ok ∧ ∀ x, ok x → w.heap.size ≤ x) ∧ Hid (Below w.heap.size w wr)) (fun t9 _ => k - (intOf t9).toNat)
  case atStart => exact ⟨0, by omega, rfl, G, HB⟩
  case round =>
    clear G HB
    obtain ⟨i, hi, rfl, G, HB⟩ := hrel
    by_cases hlt : i < k
    case neg =>
      have hb : decide ((i : Int) < (k : Int)) = false := decide_eq_false (by omega)
      obtain rfl : i = k := by omega
      go_wp2_with fail
      go_ret
      obtain ⟨μ, ok, hG, hok⟩ := G.out
      exact ⟨_, μ, ok, rfl, hG, hok, HB.out⟩
    case pos =>
      have hb : decide ((i : Int) < (k : Int)) = true := decide_eq_true (by omega)
      obtain ⟨μ, ok, hG, hok⟩ := G.out
      have c0 := hG.c0
      rw [firstN_len] at c0
      have G1 := Lib.hid hG
      have HOK := Lib.hid hok
      clear hG hok G
      go_upto_region 5 with (fail)
      refine Go.RT.wp_region_tree [0, 0, 2, 6, 14, 0, 0, 96, 224, 480, 1022, 2047, 4095, 8191] (.p 0 (.p 1 (.p 2 (.p 3 (.s 4 (.p 5 (.p 6 (.w 7 [4] (.p 8 (.w 9 [4] (.w 10 [] (.p 11 (.p 12 (.w 13 [] .nil .stop))) .stop) .stop)) .stop)))))))) (by kernel_rfl) (by kernel_rfl) ?_
      repeat (first | (refine Go.RT.step_p rfl (fun K hK => ?_); go_simp; refine hK _ ?_; clear hK K) | (refine Go.RT.step_s rfl (fun K hK => ?_); go_simp; refine hK _ ?_; clear hK K))
      (refine Go.RT.step_w rfl rfl (fun K hK => ?_) Go.RT.step_stop)
      go_wp2_with fail
      refine (new_c _ (i : Int) 1 (k : Int) k rfl hk (by omega) (by omega)).mono ?_
      rintro e w3 ⟨σ, rfl, hb3, hn3⟩
      have hb0 : Below wr.heap.size wr w3 := (Below.refl _ wr).drew.trans hb3
      have G3 := Lib.hid (G1.out.newer hb0)
      have N3 := Lib.hid (hn3.mono (ok' := (fun x => ok x ∨ (wr.heap.size ≤ x ∧ x < w3.heap.size))) (fun x hx hl => .inr ⟨hx, hl⟩))
      have HB3 := Lib.hid hb0
      have c03 := G3.out.c0
      rw [firstN_len] at c03
      have hg3 := G3.out.lt
      clear hb3 hn3 hb0
      go_wp2_with fail
      refine Go.RT.QK_normal _ _ _ _ (hK _ _ ?_ ?_) <;> clear hK K
      · repeat (first | exact Go.RT.again_nil | (refine Go.RT.again_not rfl rfl ?_) | (refine Go.RT.again_one rfl (by go_simp <;> rfl) ?_))
      repeat (first | (refine Go.RT.step_p rfl (fun K hK => ?_); go_simp; refine hK _ ?_; clear hK K) | (refine Go.RT.step_s rfl (fun K hK => ?_); go_simp; refine hK _ ?_; clear hK K))
      (refine Go.RT.step_w rfl rfl (fun K hK => ?_) Go.RT.step_stop)
      go_wp2
      refine Go.RT.QK_normal _ _ _ _ (hK _ _ ?_ ?_) <;> clear hK K
      · repeat (first | exact Go.RT.again_nil | (refine Go.RT.again_not rfl rfl ?_) | (refine Go.RT.again_one rfl (by go_simp <;> rfl) ?_))
      (refine Go.RT.step_w rfl rfl (fun K hK => ?_) Go.RT.step_stop)
      have G4 := Lib.hid (G3.out.alloc (.cells #[.int .i64 (newN (i : Int) k 1).id, .int .i64 (newN (i : Int) k 1).term, .int .i64 (newN (i : Int) k 1).vote, .slice σ.A3 (newN (i : Int) k 1).log.length σ.k3, .int .i64 (newN (i : Int) k 1).form, .int .i64 (newN (i : Int) k 1).role, .int .i64 (newN (i : Int) k 1).commit, .slice σ.A7 (newN (i : Int) k 1).votes.length σ.k7, .slice σ.A8 (newN (i : Int) k 1).nxt.length σ.k8, .slice σ.A9 (newN (i : Int) k 1).mtch.length σ.k9, .slice σ.A10 (newN (i : Int) k 1).forms.length σ.k10, .int .i64 (newN (i : Int) k 1).clock, .int .i64 (newN (i : Int) k 1).due, .bool true] 96 (0, 0)))
      have N4 := Lib.hid (N3.out.step (w1 := w3.alloc (.cells #[.int .i64 (newN (i : Int) k 1).id, .int .i64 (newN (i : Int) k 1).term, .int .i64 (newN (i : Int) k 1).vote, .slice σ.A3 (newN (i : Int) k 1).log.length σ.k3, .int .i64 (newN (i : Int) k 1).form, .int .i64 (newN (i : Int) k 1).role, .int .i64 (newN (i : Int) k 1).commit, .slice σ.A7 (newN (i : Int) k 1).votes.length σ.k7, .slice σ.A8 (newN (i : Int) k 1).nxt.length σ.k8, .slice σ.A9 (newN (i : Int) k 1).mtch.length σ.k9, .slice σ.A10 (newN (i : Int) k 1).forms.length σ.k10, .int .i64 (newN (i : Int) k 1).clock, .int .i64 (newN (i : Int) k 1).due, .bool true] 96 (0, 0))) (fun x _ hl => Below.heap_alloc _ _ x hl))
      obtain ⟨cs, p1, p2⟩ := G4.out.pl
      have p1' := p1
      rw [firstN_len] at p1'
      have P1 := Lib.hid p1
      have P2 := Lib.hid p2
      clear p1 p2
      refine MM.wpList_append_row _ rfl (.tmp 16) (.tmp 21) 90 rfl w.heap.size 96 i0 _ 14 192 Try.underlying90 hi0 hz0 hz1 hz2 rfl (by decide) (.slice μ.A i μ.c) i cs μ.p rfl p1' (fun _ => True) _ 1 (placeL (newN (i : Int) k 1) σ true) rfl (MM.Rd.lit (MM.alloc_new _ _) trivial rfl (Nat.le_refl _) (by simp [maxLen]) rfl) (placeL_one _ _ _) (by simp only [maxLen]; omega) (by omega) G4.out.Bsize ?_
      intro v' w5 ob' hr hg hob
      obtain ⟨A', c', rfl, _, _⟩ := hr.slice
      have HP := Lib.hid (G4.out.grow P1.out P2.out N4.out (by rw [firstN_len]; exact hr) hg hob)
      have hk5 := hg.block w.heap.size G4.out.lt (fun q => ty_ne G4.out.tyg (G4.out.typ _ q.symm) (by decide) rfl)
      have c5 := (World.cell?_of_block (a := ⟨w.heap.size, 0, none⟩) hk5).trans G4.out.c0
      rw [firstN_len] at c5
      have g5 := (World.frozen?_of_block (a := ⟨w.heap.size, 0, none⟩) hk5).trans (G4.out.fr 0)
      clear p1' hr hg hob hk5
      go_wp2_with fail
      refine Go.RT.QK_normal _ _ _ _ (hK _ _ ?_ ?_) <;> clear hK K
      · repeat (first | exact Go.RT.again_nil | (refine Go.RT.again_not rfl rfl ?_) | (refine Go.RT.again_one rfl (by go_simp <;> rfl) ?_))
      repeat (first | (refine Go.RT.step_p rfl (fun K hK => ?_); go_simp; refine hK _ ?_; clear hK K) | (refine Go.RT.step_s rfl (fun K hK => ?_); go_simp; refine hK _ ?_; clear hK K))
      (refine Go.RT.step_w rfl rfl (fun K hK => ?_) Go.RT.step_stop)
      go_wp2
      refine Go.RT.QK_normal _ _ _ _ (hK _ _ ?_ ?_) <;> clear hK K
      · repeat (first | exact Go.RT.again_nil | (refine Go.RT.again_not rfl rfl ?_) | (refine Go.RT.again_one rfl (by go_simp <;> rfl) ?_))
      refine Go.RT.step_nil ?_
      have h9 := HP.out
      rw [firstN_len] at h9
      have G6 := Lib.hid h9.1
      have S6 := Lib.hid h9.2
      clear h9 HP c5 g5
      go_wp2_with fail
      go_roundw
      case rel =>
        exact ⟨i + 1, by omega, by go_num, Lib.hid (by rw [firstN_succ]; exact ⟨_, _, G6.out, fun x hx => by
          rcases hx with hx | hx
          · exact HOK.out x hx
          · have := HB.out.size; omega⟩), Lib.hid ((HB.out.trans (HB3.out.mono HB.out.size)).trans (((Below.refl _ w3).alloc (Nat.le_trans HB.out.size HB3.out.size) _).trans S6.out.below))⟩
      case measure => simp [intOf]; omega

end Go.Proofs.Ytnkmljdkokcdjaa
