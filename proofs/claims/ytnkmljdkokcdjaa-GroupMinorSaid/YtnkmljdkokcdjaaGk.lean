/-
  The group's Leader answers as the plain function. Condition: a group lies there.
-/
import Derived.WalkKit
import Derived.WalkSpells
import Derived.Lib.Hide
import Derived.Outline
import Derived.Test.YtnkmljdkokcdjaaChecked
import Derived.Test.YtnkmljdkokcdjaaMn
import Derived.Test.YtnkmljdkokcdjaaMem
import Derived.Test.YtnkmljdkokcdjaaFed
import Derived.Test.YtnkmljdkokcdjaaGj
import Derived.Deep.DeepCutAuto
import Derived.Deep.CutBlock
import Derived.Deep.OwnRows
import Derived.IntWalk
set_option linter.unusedVariables false
set_option linter.unusedSimpArgs false
namespace Go.Proofs.Ytnkmljdkokcdjaa
open Go.RowKit Fed
set_option linter.unusedVariables false
attribute [local go_sem high] Fed.max2_int Fed.min2_int

theorem leadTo_cases (s : GS) : ∀ i : Nat, s.leadTo i = -1 ∨ ∃ a : Nat, a < i ∧ s.leadTo i = a
  | 0 => .inl rfl
  | i + 1 => by
    unfold GS.leadTo
    split
    · exact .inr ⟨i, by omega, rfl⟩
    · rcases leadTo_cases s i with h | ⟨a, h1, h2⟩
      · exact .inl h
      · exact .inr ⟨a, by omega, h2⟩
theorem leadTo_yes {s : GS} {i : Nat} (h : (s.us.getD i false && decide ((s.ns.getD i Fed.blank).role = 2) && (decide (s.leadTo i < 0) || decide ((s.ns.getD (s.leadTo i).toNat Fed.blank).term < (s.ns.getD i Fed.blank).term))) = true) : s.leadTo (i + 1) = (i : Int) := by
  show (if _ = true then _ else _) = _
  rw [if_pos h]
theorem leadTo_no {s : GS} {i : Nat} (h : (s.us.getD i false && decide ((s.ns.getD i Fed.blank).role = 2) && (decide (s.leadTo i < 0) || decide ((s.ns.getD (s.leadTo i).toNat Fed.blank).term < (s.ns.getD i Fed.blank).term))) = false) : s.leadTo (i + 1) = s.leadTo i := by
  show (if _ = true then _ else _) = _
  rw [if_neg (by rw [h]; simp)]
set_option maxRecDepth 100000 in
set_option maxHeartbeats 40000000 in
theorem gLeader_any (w : World) (B g : Nat) (s : GS) (μ : GM) (ok : Nat → Prop) (h : GroupAt w B g s μ ok) (hl : s.ns.length ≤ 1000) (h0 : 0 < s.ns.length) :
    Calls Try.prog 39 #[.pointer (some ⟨g, 0, none⟩)] w fun e w' => e = .returned (.int .i64 s.leader) ∧ Below w.heap.size w w' := by
  have c0 := h.c0
  obtain ⟨pb, hp, ea, _, _, _, _⟩ := h.place h0
  rw [ea] at c0
  have HP := Lib.hid hp
  have HA := Lib.hid ea
  clear hp ea
  have H := Lib.hid h
  have HB := Lib.hid (Below.refl w.heap.size w)
  have HS := Lib.hid (show s.leader = s.leadTo s.ns.length from rfl)
  clear h
  go_enter Try.func39, Try.ntmps39
  go_wp2_with fail
  go_loopw [3, 11] (fun t3 t11 wr => ∃ i : Nat, i ≤ s.ns.length ∧ t3 = .int .i64 (s.leadTo i) ∧ t11 = .int .i64 i ∧ Hid (GroupAt wr B g s μ ok) ∧ Hid (Below w.heap.size w wr)) (fun _ t11 _ => s.ns.length - (intOf t11).toNat)
  case atStart => exact ⟨0, by omega, rfl, rfl, H, HB⟩
  case round =>
    clear H HB c0
    obtain ⟨i, hi, rfl, rfl, H, HB⟩ := hrel
    by_cases hlt : i < s.ns.length
    case neg =>
      have hb : decide ((i : Int) < (s.ns.length : Int)) = false := decide_eq_false (by omega)
      obtain rfl : i = s.ns.length := by omega
      go_wp2_with fail
      go_ret
      exact ⟨by rw [HS.out]; rfl, HB.out⟩
    case pos =>
      have hb : decide ((i : Int) < (s.ns.length : Int)) = true := decide_eq_true (by omega)
      obtain ⟨pb', hp, ea, hc1, hc2, hf, σ, v, hc⟩ := H.out.place hlt
      rw [HP.out] at hp
      injection hp with hp
      subst hp
      obtain ⟨u, hu⟩ : ∃ u, u = s.us.getD i false := ⟨_, rfl⟩
      rw [← hu] at hc
      have HU := Lib.hid hu
      obtain ⟨nd, hnd⟩ : ∃ nd, nd = s.ns.getD i Fed.blank := ⟨_, rfl⟩
      have hnd' : s.node (i : Int) = nd := by rw [hnd]; unfold GS.node; rw [Int.toNat_natCast]
      rw [hnd'] at hc
      have HND := Lib.hid hnd
      have x0 : wr.cell? ⟨pb, i * 14, none⟩ = some (.int .i64 nd.id) := hc 0 _ rfl
      have x1 : wr.cell? ⟨pb, i * 14 + 1, none⟩ = some (.int .i64 nd.term) := hc 1 _ rfl
      have x2 : wr.cell? ⟨pb, i * 14 + 2, none⟩ = some (.int .i64 nd.vote) := hc 2 _ rfl
      have x3 : wr.cell? ⟨pb, i * 14 + 3, none⟩ = some (.slice σ.A3 nd.log.length σ.k3) := hc 3 _ rfl
      have x4 : wr.cell? ⟨pb, i * 14 + 4, none⟩ = some (.int .i64 nd.form) := hc 4 _ rfl
      have x5 : wr.cell? ⟨pb, i * 14 + 5, none⟩ = some (.int .i64 nd.role) := hc 5 _ rfl
      have x6 : wr.cell? ⟨pb, i * 14 + 6, none⟩ = some (.int .i64 nd.commit) := hc 6 _ rfl
      have x7 : wr.cell? ⟨pb, i * 14 + 7, none⟩ = some (.slice σ.A7 nd.votes.length σ.k7) := hc 7 _ rfl
      have x8 : wr.cell? ⟨pb, i * 14 + 8, none⟩ = some (.slice σ.A8 nd.nxt.length σ.k8) := hc 8 _ rfl
      have x9 : wr.cell? ⟨pb, i * 14 + 9, none⟩ = some (.slice σ.A9 nd.mtch.length σ.k9) := hc 9 _ rfl
      have x10 : wr.cell? ⟨pb, i * 14 + 10, none⟩ = some (.slice σ.A10 nd.forms.length σ.k10) := hc 10 _ rfl
      have x11 : wr.cell? ⟨pb, i * 14 + 11, none⟩ = some (.int .i64 nd.clock) := hc 11 _ rfl
      have x12 : wr.cell? ⟨pb, i * 14 + 12, none⟩ = some (.int .i64 nd.due) := hc 12 _ rfl
      have x13 : wr.cell? ⟨pb, i * 14 + 13, none⟩ = some (.bool u) := hc 13 _ rfl
      clear hc hf v hu hnd hnd' ea
      go_upto_region 5 with (fail)
      refine name_world (F := fun W => Hid (W.heap[wr.heap.size]? = some (.cells #[.int .i64 nd.id, .int .i64 nd.term, .int .i64 nd.vote, .slice σ.A3 nd.log.length σ.k3, .int .i64 nd.form, .int .i64 nd.role, .int .i64 nd.commit, .slice σ.A7 nd.votes.length σ.k7, .slice σ.A8 nd.nxt.length σ.k8, .slice σ.A9 nd.mtch.length σ.k9, .slice σ.A10 nd.forms.length σ.k10, .int .i64 nd.clock, .int .i64 nd.due, .bool u] 96 (0, 0))) ∧ Hid (GroupAt W B g s μ ok) ∧ Hid (Below w.heap.size w W)) _ (by exact ⟨Lib.hid (MM.alloc_new _ _), Lib.hid (H.out.alloc _), Lib.hid (HB.out.alloc HB.out.size _)⟩) ?_
      clear H HB
      intro w2 ⟨R2, G2, HB2⟩
      have d1 : w2.cell? ⟨wr.heap.size, 1, none⟩ = some (.int .i64 nd.term) := MM.cell_blk R2.out rfl
      have d5 : w2.cell? ⟨wr.heap.size, 5, none⟩ = some (.int .i64 nd.role) := MM.cell_blk R2.out rfl
      have d13 : w2.cell? ⟨wr.heap.size, 13, none⟩ = some (.bool u) := MM.cell_blk R2.out rfl
      have c0 := G2.out.c0
      rw [HA.out] at c0
      have hg := G2.out.lt
      cases u
      · have LN := Lib.hid (leadTo_no (s := s) (i := i) (by rw [← HU.out, ← HND.out]; rfl))
        clear HND
        refine Go.RT.wp_region_tree [0, 1, 3, 7, 15, 31, 63, 127, 255, 511, 1023, 2047, 4095, 8191, 16383, 4095, 36863, 102399, 233471, 4095, 1019903, 2068479, 4165631, 8359935, 16777215, 33554431, 67108863] (.p 0 (.s 1 (.p 2 (.p 3 (.p 4 (.s 5 (.p 6 (.p 7 (.p 8 (.p 9 (.p 10 (.p 11 (.p 12 (.p 13 (.s 14 (.p 15 (.p 16 (.p 17 (.s 18 (.p 19 (.p 20 (.p 21 (.p 22 (.s 23 (.p 24 (.p 25 (.p 26 .nil))))))))))))))))))))))))))) (by kernel_rfl) (by kernel_rfl) ?_
        repeat (first | (refine Go.RT.step_p rfl (fun K hK => ?_); go_simp; refine hK _ ?_; clear hK K) | (refine Go.RT.step_s rfl (fun K hK => ?_); go_simp; refine hK _ ?_; clear hK K))
        refine Go.RT.step_nil ?_
        go_wp2_with fail
        have G3 := Lib.hid (G2.out.step (w1 := w2.drew) (fun _ _ => rfl) (Nat.le_refl _))
        have HB3 := Lib.hid HB2.out.drew
        go_roundw
        case rel =>
          first | exact ⟨i + 1, by omega, by rw [LN.out], by go_num, G3, HB3⟩ | ((repeat apply Exists.intro); refine ⟨?_, rfl⟩; exact ⟨i + 1, by omega, by rw [LN.out], by go_num, G3, HB3⟩)
        case measure => simp [intOf]; omega
      · by_cases hr : nd.role = 2
        · have hrb : (nd.role == 2) = true := by rw [hr]; rfl
          rcases leadTo_cases s i with hm | ⟨a, ha, hm⟩
          · have HL := Lib.hid hm
            rw [hm]
            have HR := Lib.hid hr
            clear hm hr
            have LN := Lib.hid (leadTo_yes (s := s) (i := i) (by rw [← HU.out, ← HND.out]; rw [HL.out, decide_eq_true HR.out]; rfl))
            clear HND
            refine Go.RT.wp_region_tree [0, 1, 3, 7, 15, 31, 63, 127, 255, 511, 1023, 2047, 4095, 8191, 16383, 4095, 36863, 102399, 233471, 4095, 1019903, 2068479, 4165631, 8359935, 16777215, 33554431, 67108863] (.p 0 (.s 1 (.p 2 (.p 3 (.p 4 (.s 5 (.p 6 (.p 7 (.p 8 (.p 9 (.p 10 (.p 11 (.p 12 (.p 13 (.s 14 (.p 15 (.p 16 (.p 17 (.s 18 (.p 19 (.p 20 (.p 21 (.p 22 (.s 23 (.p 24 (.p 25 (.p 26 .nil))))))))))))))))))))))))))) (by kernel_rfl) (by kernel_rfl) ?_
            repeat (first | (refine Go.RT.step_p rfl (fun K hK => ?_); go_simp; refine hK _ ?_; clear hK K) | (refine Go.RT.step_s rfl (fun K hK => ?_); go_simp; refine hK _ ?_; clear hK K))
            refine Go.RT.step_nil ?_
            go_wp2_with fail
            have G3 := Lib.hid (G2.out.step (w1 := w2.drew) (fun _ _ => rfl) (Nat.le_refl _))
            have HB3 := Lib.hid HB2.out.drew
            go_roundw
            case rel =>
              first | exact ⟨i + 1, by omega, by rw [LN.out], by go_num, G3, HB3⟩ | ((repeat apply Exists.intro); refine ⟨?_, rfl⟩; exact ⟨i + 1, by omega, by rw [LN.out], by go_num, G3, HB3⟩)
            case measure => simp [intOf]; omega
          · have HL := Lib.hid hm
            rw [hm]
            have HR := Lib.hid hr
            clear hm hr
            obtain ⟨pa, hpa, _, _, _, _, ρ, _, hca⟩ := G2.out.place (i := a) (by omega)
            rw [HP.out] at hpa
            injection hpa with hpa
            subst hpa
            obtain ⟨na, hna⟩ : ∃ na, na = s.ns.getD a Fed.blank := ⟨_, rfl⟩
            have hna' : s.node (a : Int) = na := by rw [hna]; unfold GS.node; rw [Int.toNat_natCast]
            rw [hna'] at hca
            have HNA := Lib.hid hna
            have e1 : w2.cell? ⟨pb, a * 14 + 1, none⟩ = some (.int .i64 na.term) := hca 1 _ rfl
            have hal : a < s.ns.length := by omega
            have hab : decide ((a : Int) < 0) = false := decide_eq_false (by omega)
            have hpl : pb < w2.heap.size := (G2.out.ltp pb HP.out).2
            clear hna hna' hca
            by_cases ht : na.term < nd.term
            · have htb : decide (na.term < nd.term) = true := decide_eq_true ht
              have HT := Lib.hid ht
              clear ht
              have LN := Lib.hid (leadTo_yes (s := s) (i := i) (by rw [← HU.out, ← HND.out]; rw [HL.out, decide_eq_true HR.out, Int.toNat_natCast, ← HNA.out, decide_eq_true HT.out]; simp))
              clear HND HNA
              refine Go.RT.wp_region_tree [0, 1, 3, 7, 15, 31, 63, 127, 255, 511, 1023, 2047, 4095, 8191, 16383, 4095, 36863, 102399, 233471, 4095, 1019903, 2068479, 4165631, 8359935, 16777215, 33554431, 67108863] (.p 0 (.s 1 (.p 2 (.p 3 (.p 4 (.s 5 (.p 6 (.p 7 (.p 8 (.p 9 (.p 10 (.p 11 (.p 12 (.p 13 (.s 14 (.p 15 (.p 16 (.p 17 (.s 18 (.p 19 (.p 20 (.p 21 (.p 22 (.s 23 (.p 24 (.p 25 (.p 26 .nil))))))))))))))))))))))))))) (by kernel_rfl) (by kernel_rfl) ?_
              repeat (first | (refine Go.RT.step_p rfl (fun K hK => ?_); go_simp; refine hK _ ?_; clear hK K) | (refine Go.RT.step_s rfl (fun K hK => ?_); go_simp; refine hK _ ?_; clear hK K))
              refine Go.RT.step_nil ?_
              go_wp2_with fail
              have G3 := Lib.hid (G2.out.step (w1 := w2.drew) (fun _ _ => rfl) (Nat.le_refl _))
              have HB3 := Lib.hid HB2.out.drew
              go_roundw
              case rel =>
                first | exact ⟨i + 1, by omega, by rw [LN.out], by go_num, G3, HB3⟩ | ((repeat apply Exists.intro); refine ⟨?_, rfl⟩; exact ⟨i + 1, by omega, by rw [LN.out], by go_num, G3, HB3⟩)
              case measure => simp [intOf]; omega
            · have htb : decide (na.term < nd.term) = false := decide_eq_false ht
              have HT := Lib.hid ht
              clear ht
              have LN := Lib.hid (leadTo_no (s := s) (i := i) (by rw [← HU.out, ← HND.out]; rw [HL.out, decide_eq_true HR.out, Int.toNat_natCast, ← HNA.out, decide_eq_false HT.out, decide_eq_false (by omega)]; rfl))
              clear HND HNA
              refine Go.RT.wp_region_tree [0, 1, 3, 7, 15, 31, 63, 127, 255, 511, 1023, 2047, 4095, 8191, 16383, 4095, 36863, 102399, 233471, 4095, 1019903, 2068479, 4165631, 8359935, 16777215, 33554431, 67108863] (.p 0 (.s 1 (.p 2 (.p 3 (.p 4 (.s 5 (.p 6 (.p 7 (.p 8 (.p 9 (.p 10 (.p 11 (.p 12 (.p 13 (.s 14 (.p 15 (.p 16 (.p 17 (.s 18 (.p 19 (.p 20 (.p 21 (.p 22 (.s 23 (.p 24 (.p 25 (.p 26 .nil))))))))))))))))))))))))))) (by kernel_rfl) (by kernel_rfl) ?_
              repeat (first | (refine Go.RT.step_p rfl (fun K hK => ?_); go_simp; refine hK _ ?_; clear hK K) | (refine Go.RT.step_s rfl (fun K hK => ?_); go_simp; refine hK _ ?_; clear hK K))
              refine Go.RT.step_nil ?_
              go_wp2_with fail
              have G3 := Lib.hid (G2.out.step (w1 := w2.drew) (fun _ _ => rfl) (Nat.le_refl _))
              have HB3 := Lib.hid HB2.out.drew
              go_roundw
              case rel =>
                first | exact ⟨i + 1, by omega, by rw [LN.out]; rw [HL.out], by go_num, G3, HB3⟩ | ((repeat apply Exists.intro); refine ⟨?_, rfl⟩; exact ⟨i + 1, by omega, by rw [LN.out]; rw [HL.out], by go_num, G3, HB3⟩)
              case measure => simp [intOf]; omega
        · have hrb : (nd.role == 2) = false := by simpa using hr
          have HR := Lib.hid hr
          clear hr
          have LN := Lib.hid (leadTo_no (s := s) (i := i) (by rw [← HU.out, ← HND.out]; rw [decide_eq_false HR.out]; rfl))
          clear HND
          refine Go.RT.wp_region_tree [0, 1, 3, 7, 15, 31, 63, 127, 255, 511, 1023, 2047, 4095, 8191, 16383, 4095, 36863, 102399, 233471, 4095, 1019903, 2068479, 4165631, 8359935, 16777215, 33554431, 67108863] (.p 0 (.s 1 (.p 2 (.p 3 (.p 4 (.s 5 (.p 6 (.p 7 (.p 8 (.p 9 (.p 10 (.p 11 (.p 12 (.p 13 (.s 14 (.p 15 (.p 16 (.p 17 (.s 18 (.p 19 (.p 20 (.p 21 (.p 22 (.s 23 (.p 24 (.p 25 (.p 26 .nil))))))))))))))))))))))))))) (by kernel_rfl) (by kernel_rfl) ?_
          repeat (first | (refine Go.RT.step_p rfl (fun K hK => ?_); go_simp; refine hK _ ?_; clear hK K) | (refine Go.RT.step_s rfl (fun K hK => ?_); go_simp; refine hK _ ?_; clear hK K))
          refine Go.RT.step_nil ?_
          go_wp2_with fail
          have G3 := Lib.hid (G2.out.step (w1 := w2.drew) (fun _ _ => rfl) (Nat.le_refl _))
          have HB3 := Lib.hid HB2.out.drew
          go_roundw
          case rel =>
            first | exact ⟨i + 1, by omega, by rw [LN.out], by go_num, G3, HB3⟩ | ((repeat apply Exists.intro); refine ⟨?_, rfl⟩; exact ⟨i + 1, by omega, by rw [LN.out], by go_num, G3, HB3⟩)
          case measure => simp [intOf]; omega

end Go.Proofs.Ytnkmljdkokcdjaa
