/-
  The law RaftLogs returns true, and writes nothing that was there, for any int and any row of ints.
-/
import Derived.WalkKit
import Derived.WalkSpells
import Derived.Lib.Hide
import Derived.Outline
import Derived.Test.YtnkmljdkokcdjaaChecked
import Derived.Test.YtnkmljdkokcdjaaMn
import Derived.Test.YtnkmljdkokcdjaaMem
import Derived.Test.YtnkmljdkokcdjaaFed
import Derived.Test.YtnkmljdkokcdjaaRq1
import Derived.Test.YtnkmljdkokcdjaaMi
import Derived.Test.YtnkmljdkokcdjaaMl
import Derived.Test.YtnkmljdkokcdjaaMf
import Derived.Deep.DeepCutAuto
import Derived.Deep.CutBlock
import Derived.Deep.OwnRows
import Derived.IntWalk
set_option linter.unusedVariables false
set_option linter.unusedSimpArgs false
namespace Go.Proofs.Ytnkmljdkokcdjaa
open Go.RowKit Fed
set_option linter.unusedVariables false
attribute [local go_sem high] Fed.max2_int Fed.min2_int

theorem min4_int (P : Program) (w : World) (ts : Array TypeId) (t : TypeId) (a b c d : Int) : (Builtin.min_ ts t #[.int .i64 a, .int .i64 b, .int .i64 c, .int .i64 d]).run P w = .ok (.int .i64 (mn (mn (mn a b) c) d)) w := by
  simp [Builtin.min_, Builtin.min2]
  rfl
attribute [local go_sem high] min4_int
theorem rents_front (w : World) (ok1 ok2 : Nat → Prop) (A1 A2 : Option Addr) (n1 n2 c1 c2 k : Nat) (l1 l2 : List Fed.Entry) (h1 : MM.Rd w ok1 2 (.slice A1 n1 c1) n1 (entsC l1)) (h2 : MM.Rd w ok2 2 (.slice A2 n2 c2) n2 (entsC l2)) (e1 : l1.length = n1) (e2 : l2.length = n2) (k1 : k ≤ n1) (k2 : k ≤ n2) (he : l1.take k = l2.take k) :
    Calls Try.prog 28 #[.slice A1 k c1, .slice A2 k c2] w fun e w' => e = .returned (.bool true) ∧ Below w.heap.size w w' := by
  subst e1 e2
  have hc1 : l1.length ≤ c1 := by obtain ⟨_, _, e, h, _⟩ := h1.slice; injection e with _ _ e3; omega
  have hc2 : l2.length ≤ c2 := by obtain ⟨_, _, e, h, _⟩ := h2.slice; injection e with _ _ e3; omega
  have hl : (l1.take k).length = k := by rw [List.length_take]; omega
  have := rents_same w ok1 ok2 A1 A2 c1 c2 (l1.take k) (by rw [hl, ← entsC_take]; exact rd_front h1 k1 (by omega) (Nat.le_refl _)) (by rw [he, show (l2.take k).length = k from by rw [List.length_take]; omega, ← entsC_take]; exact rd_front h2 k2 (by omega) (Nat.le_refl _))
  rw [hl] at this
  exact this
set_option maxRecDepth 100000 in
set_option maxHeartbeats 40000000 in
theorem logs_law (a0 : Int) (v1 : Value) (l1 : List Int) (x0 : (Lit.int .i64 a0).wf = true) (w : World) (hr1 : MM.Rd w (fun j => j < w.heap.size) 1 v1 l1.length (intsC l1)) (hw1 : ∀ x, x ∈ l1 → (Lit.int .i64 x).wf = true) :
    Calls Try.prog 8 #[.int .i64 a0, v1] w fun e w' => e = .returned (.bool true) ∧ Below w.heap.size w w' := by
  have HR := Lib.hid hr1
  have HW := Lib.hid hw1
  clear hr1 hw1
  go_enter Try.func8, Try.ntmps8
  go_wp2_with fail
  refine (known_any _).mono ?_
  rintro e w1 ⟨rfl, hb1⟩
  have HB1 := Lib.hid hb1
  clear hb1
  go_wp2_with fail
  refine (within_fn _ a0 5 x0 (by omega) (by omega)).mono ?_
  rintro e w' ⟨rfl, rfl⟩
  have hv := wi_range a0 5 (by omega)
  generalize wi a0 5 = k at hv ⊢
  obtain ⟨k, rfl⟩ : ∃ k' : Nat, k = k' := ⟨k.toNat, by omega⟩
  have hk5 : k < 5 := by omega
  clear hv
  have hws : IntKind.i64.wrap (1 + (k : Int)) = ((k + 1 : Nat) : Int) := by rw [IntWalk.i64_in _ (by omega)]; omega
  go_wp2_with fail
  obtain ⟨K, hK⟩ : ∃ K : Nat, (k : Int) + 1 = K := ⟨k + 1, by omega⟩
  rw [hK]
  have hK1 : 1 ≤ K := by omega
  have hK5 : K ≤ 5 := by omega
  clear hws hk5 hK
  refine (play_all _ K l1 v1 400 hK1 hK5 ((HR.out.step (fun x hx _ => HB1.out.block x hx)).mono (fun x hx _ => Nat.lt_of_lt_of_le hx HB1.out.size)) HW.out (by omega)).mono ?_
  rintro e w2 ⟨b, c, ok, rfl, hn, hb, hb2⟩
  have SY := Sys.states (k := K) hK1 l1 (min l1.length 400)
  have LN := Lib.hid SY.len
  obtain ⟨G, g, hni, -⟩ := SY.inv
  have GI := Lib.hid g
  have NI := Lib.hid hni
  have NBX := Lib.hid (show ∀ n, n ∈ (pstates K l1 (min l1.length 400)).ns → n.log.length ≤ 800 from fun n hm => by have := (SY.nb n hm).l; omega)
  have NA := Lib.hid hn
  have HB2 := Lib.hid (HB1.out.trans (hb2.mono HB1.out.size))
  clear SY g hni hn hb hb2 HB1 HR HW
  generalize (pstates K l1 (min l1.length 400)).ns = ns at LN NI NBX NA
  go_wp2_with fail
  go_loopw [7] (fun t7 wr => ∃ i : Nat, i ≤ K ∧ t7 = .int .i64 i ∧ Hid (NodesAt wr ok b ns) ∧ Hid (Below w.heap.size w wr)) (fun t7 _ => K - (intOf t7).toNat)
  case atStart => exact ⟨0, by omega, rfl, NA, HB2⟩
  case round =>
    clear NA HB2
    obtain ⟨i, hi, rfl, NA, HB⟩ := hrel
    by_cases hlt : i < K
    · have hltb : decide ((i : Int) < (K : Int)) = true := decide_eq_true (by omega)
      obtain ⟨n, hn⟩ : ∃ n, ns[i]? = some n := ⟨_, List.getElem?_eq_getElem (by rw [LN.out]; omega)⟩
      have Hn := Lib.hid hn
      have Ln := Lib.hid (NBX.out n (List.mem_of_getElem? hn))
      clear hn
      go_wp2_with fail
      go_loopw [8] (fun t8 wr => ∃ j : Nat, j ≤ i ∧ t8 = .int .i64 j ∧ Hid (NodesAt wr ok b ns) ∧ Hid (Below w.heap.size w wr)) (fun t8 _ => i - (intOf t8).toNat)
      case atStart => exact ⟨0, by omega, rfl, NA, HB⟩
      case round =>
        clear NA HB
        obtain ⟨j, hj, rfl, NA, HB⟩ := hrel
        by_cases hltj : j < i
        · have hltjb : decide ((j : Int) < (i : Int)) = true := decide_eq_true (by omega)
          obtain ⟨m, hm⟩ : ∃ m, ns[j]? = some m := ⟨_, List.getElem?_eq_getElem (by rw [LN.out]; omega)⟩
          have Hm := Lib.hid hm
          have Lm := Lib.hid (NBX.out m (List.mem_of_getElem? hm))
          clear hm
          have hjK : j < K := by omega
          obtain ⟨σ, vσ, hcσ⟩ := NA.out.at_ i n Hn.out
          have Vσ := Lib.hid vσ
          have c3 : wr.cell? ⟨b, i * 13 + 3, none⟩ = some (.slice σ.A3 n.log.length σ.k3) := hcσ 3 _ rfl
          have c6 : wr.cell? ⟨b, i * 13 + 6, none⟩ = some (.int .i64 n.commit) := hcσ 6 _ rfl
          clear vσ hcσ
          obtain ⟨τ, vτ, hcτ⟩ := NA.out.at_ j m Hm.out
          have Vτ := Lib.hid vτ
          have d3 : wr.cell? ⟨b, j * 13 + 3, none⟩ = some (.slice τ.A3 m.log.length τ.k3) := hcτ 3 _ rfl
          have d6 : wr.cell? ⟨b, j * 13 + 6, none⟩ = some (.int .i64 m.commit) := hcτ 6 _ rfl
          clear vτ hcτ
          go_upto_region 12 with (fail)
          clear hltjb
          refine Go.RT.wp_region_tree [0, 0, 3, 7, 15, 31, 0, 0, 192, 448, 960, 1984, 4095, 8191] (.p 0 (.p 1 (.p 2 (.p 3 (.s 4 (.p 5 (.p 6 (.p 7 (.p 8 (.p 9 (.s 10 (.p 11 (.p 12 (.w 13 [] .nil .stop)))))))))))))) (by kernel_rfl) (by kernel_rfl) ?_
          repeat (first | (refine Go.RT.step_p rfl (fun K hK => ?_); go_simp; refine hK _ ?_; clear hK K) | (refine Go.RT.step_s rfl (fun K hK => ?_); go_simp; refine hK _ ?_; clear hK K))
          (refine Go.RT.step_w rfl rfl (fun K hK => ?_) Go.RT.step_stop)
          go_wp2
          refine Go.RT.QK_normal _ _ _ _ (hK _ _ ?_ ?_) <;> clear hK K
          · repeat (first | exact Go.RT.again_nil | (refine Go.RT.again_not rfl rfl ?_) | (refine Go.RT.again_one rfl (by go_simp <;> rfl) ?_))
          refine Go.RT.step_nil ?_
          have hmn : mn (n.log.length : Int) (m.log.length : Int) = ((min n.log.length m.log.length : Nat) : Int) := by rw [mn_eq]; omega
          clear c3 c6 d3 d6
          go_wp2_with fail
          go_loopw [9] (fun t9 wr => ∃ at_ : Nat, at_ ≤ n.log.length ∧ at_ ≤ m.log.length ∧ t9 = .int .i64 at_ ∧ Hid (NodesAt wr ok b ns) ∧ Hid (Below w.heap.size w wr)) (fun t9 _ => (intOf t9).toNat)
          case atStart => exact ⟨min n.log.length m.log.length, by omega, by omega, by rw [← hmn], Lib.hid NA.out.drew, Lib.hid HB.out.drew⟩
          case round =>
            clear NA HB hmn
            obtain ⟨at_, ha1, ha2, rfl, NA, HB⟩ := hrel
            by_cases h0 : 0 < at_
            · obtain ⟨p, rfl⟩ : ∃ p, at_ = p + 1 := ⟨at_ - 1, by omega⟩
              have hgt : decide ((0 : Int) < (p : Int) + 1) = true := decide_eq_true (by omega)
              have hpw : IntKind.i64.wrap ((p : Int) + 1 - 1) = (p : Int) := by rw [IntWalk.i64_in _ (by have := Ln.out; omega)]; omega
              have hpv : IntKind.i64.wrap (p : Int) = (p : Int) := IntWalk.i64_in _ (by have := Ln.out; omega)
              obtain ⟨σ, vσ, hcσ⟩ := NA.out.at_ i n Hn.out
              obtain ⟨τ, vτ, hcτ⟩ := NA.out.at_ j m Hm.out
              have Vσ := Lib.hid vσ
              have Vτ := Lib.hid vτ
              have rσ := Vσ.out.hl
              obtain ⟨_, Ax, cx, ea, _, _, r1⟩ := rσ
              injection ea with ea1 el ea2
              clear el
              subst ea2
              obtain ⟨bc, oc, e', _, _, gc⟩ := r1 (by omega)
              have c3 : wr.cell? ⟨b, i * 13 + 3, none⟩ = some (.slice (some ⟨bc, oc, none⟩) n.log.length σ.k3) := by rw [← e', ← ea1]; exact hcσ 3 _ rfl
              clear r1 ea1 e'
              have rτ := Vτ.out.hl
              obtain ⟨_, Ax, cx, ea, _, _, r1⟩ := rτ
              injection ea with ea1 el ea2
              clear el
              subst ea2
              obtain ⟨bd, od, e', _, _, gd⟩ := r1 (by omega)
              have d3 : wr.cell? ⟨b, j * 13 + 3, none⟩ = some (.slice (some ⟨bd, od, none⟩) m.log.length τ.k3) := by rw [← e', ← ea1]; exact hcτ 3 _ rfl
              clear r1 ea1 e'
              obtain ⟨en, hen⟩ : ∃ e, n.log[p]? = some e := ⟨_, List.getElem?_eq_getElem (by omega)⟩
              obtain ⟨em, hem⟩ : ∃ e, m.log[p]? = some e := ⟨_, List.getElem?_eq_getElem (by omega)⟩
              have x0 : wr.cell? ⟨bc, oc + p * 2, none⟩ = some (.int .i64 en.term) := gc _ _ (entsC_get hen).1
              have y0 : wr.cell? ⟨bd, od + p * 2, none⟩ = some (.int .i64 em.term) := gd _ _ (entsC_get hem).1
              have tn : termAt n.log ((p + 1 : Nat) : Int) = en.term := by rw [termAt_eq (by omega) ha1, Nat.add_sub_cancel, hen]; rfl
              have tm : termAt m.log ((p + 1 : Nat) : Int) = em.term := by rw [termAt_eq (by omega) ha2, Nat.add_sub_cancel, hem]; rfl
              have HA := Lib.hid (And.intro ha1 ha2)
              have hp1 : p < n.log.length := ha1
              have hp2 : p < m.log.length := ha2
              have hi1 : (p : Int) < (n.log.length : Int) := by omega
              have hi2 : (p : Int) < (m.log.length : Int) := by omega
              have hi0 : (0 : Int) ≤ (p : Int) := by omega
              clear hcσ hcτ gc gd hen hem vσ vτ
              by_cases het : en.term = em.term
              · have HE := Lib.hid (show n.log.take (p + 1) = m.log.take (p + 1) from (NI.out i n Hn.out).same (NI.out j m Hm.out) (by omega) HA.out.1 HA.out.2 (by rw [tn, tm, het]))
                have hne : (en.term != em.term) = false := by simp [het]
                clear tn tm het ha1 ha2 h0
                go_upto_region 13 with (fail)
                refine Go.RT.wp_region_tree [0, 1, 3, 7, 7, 31, 63, 127, 7, 263, 1023, 2047, 4095, 7, 7, 24583, 57351, 122887, 7, 262151, 1040391, 2088967, 4186119, 8388607, 16777215] (.p 0 (.p 1 (.p 2 (.p 3 (.p 4 (.p 5 (.p 6 (.s 7 (.p 8 (.p 9 (.p 10 (.p 11 (.s 12 (.p 13 (.p 14 (.p 15 (.p 16 (.s 17 (.p 18 (.p 19 (.p 20 (.p 21 (.s 22 (.p 23 (.p 24 .nil))))))))))))))))))))))))) (by kernel_rfl) (by kernel_rfl) ?_
                repeat (first | (refine Go.RT.step_p rfl (fun K hK => ?_); go_simp; refine hK _ ?_; clear hK K) | (refine Go.RT.step_s rfl (fun K hK => ?_); go_simp; refine hK _ ?_; clear hK K))
                refine Go.RT.step_nil ?_
                clear x0 y0 c3 d3 hne hgt hpw hpv hp1 hp2 hi1 hi2 hi0 Vσ Vτ
                obtain ⟨σ, vσ, hcσ⟩ := NA.out.at_ i n Hn.out
                have Vσ := Lib.hid vσ
                have c3 : wr.cell? ⟨b, i * 13 + 3, none⟩ = some (.slice σ.A3 n.log.length σ.k3) := hcσ 3 _ rfl
                clear vσ hcσ
                obtain ⟨τ, vτ, hcτ⟩ := NA.out.at_ j m Hm.out
                have Vτ := Lib.hid vτ
                have d3 : wr.cell? ⟨b, j * 13 + 3, none⟩ = some (.slice τ.A3 m.log.length τ.k3) := hcτ 3 _ rfl
                clear vτ hcτ
                have HS := Lib.hid (show n.log.length ≤ σ.k3 ∧ m.log.length ≤ τ.k3 from ⟨by obtain ⟨_, _, e, h, _⟩ := Vσ.out.hl.slice; injection e with _ _ e3; omega, by obtain ⟨_, _, e, h, _⟩ := Vτ.out.hl.slice; injection e with _ _ e3; omega⟩)
                have hk1 : ((p : Int) + 1) ≤ (σ.k3 : Int) := by have := HS.out; have := HA.out; omega
                have hk2 : ((p : Int) + 1) ≤ (τ.k3 : Int) := by have := HS.out; have := HA.out; omega
                have hk0 : (0 : Int) ≤ ((p : Int) + 1) := by omega
                go_upto_region 15 with (fail)
                refine Go.RT.wp_region_tree [0, 0, 3, 7, 15, 0, 63, 0, 0, 384, 896, 1920, 0, 8064, 16383, 32767] (.p 0 (.p 1 (.p 2 (.p 3 (.s 4 (.p 5 (.p 6 (.p 7 (.p 8 (.p 9 (.p 10 (.s 11 (.p 12 (.p 13 (.w 14 [] (.p 15 .nil) .stop))))))))))))))) (by kernel_rfl) (by kernel_rfl) ?_
                repeat (first | (refine Go.RT.step_p rfl (fun K hK => ?_); go_simp; refine hK _ ?_; clear hK K) | (refine Go.RT.step_s rfl (fun K hK => ?_); go_simp; refine hK _ ?_; clear hK K))
                (refine Go.RT.step_w rfl rfl (fun K hK => ?_) Go.RT.step_stop)
                go_wp2_with fail
                refine (rents_front _ _ _ σ.A3 τ.A3 n.log.length m.log.length σ.k3 τ.k3 (p + 1) n.log m.log (Vσ.out.hl.drew.drew) (Vτ.out.hl.drew.drew) rfl rfl HA.out.1 HA.out.2 HE.out).mono ?_
                rintro e w5 ⟨rfl, hb5⟩
                have NA5 := Lib.hid (NA.out.drew.drew.below hb5)
                have HB5 := Lib.hid (HB.out.drew.drew.trans (hb5.mono HB.out.size))
                clear hb5 c3 d3 Vσ Vτ HE HS NA HB hk0 hk1 hk2
                go_wp2_with fail
                refine Go.RT.QK_normal _ _ _ _ (hK _ _ ?_ ?_) <;> clear hK K
                · repeat (first | exact Go.RT.again_nil | (refine Go.RT.again_not rfl rfl ?_) | (refine Go.RT.again_one rfl (by go_simp <;> rfl) ?_))
                repeat (first | (refine Go.RT.step_p rfl (fun K hK => ?_); go_simp; refine hK _ ?_; clear hK K) | (refine Go.RT.step_s rfl (fun K hK => ?_); go_simp; refine hK _ ?_; clear hK K))
                refine Go.RT.step_nil ?_
                obtain ⟨q, hq⟩ : ∃ q : Nat, mn (mn (mn n.commit m.commit) (n.log.length : Int)) (m.log.length : Int) = (q : Int) := ⟨(mn (mn (mn n.commit m.commit) (n.log.length : Int)) (m.log.length : Int)).toNat, by have := (NI.out i n Hn.out).cm.1; have := (NI.out j m Hm.out).cm.1; simp only [mn_eq]; omega⟩
                have HQ := Lib.hid (show (q : Int) ≤ n.commit ∧ (q : Int) ≤ m.commit ∧ q ≤ n.log.length ∧ q ≤ m.log.length from by simp only [mn_eq] at hq; omega)
                have HE := Lib.hid (show n.log.take q = m.log.take q from (NI.out i n Hn.out).commits GI.out (NI.out j m Hm.out) HQ.out.1 HQ.out.2.1)
                obtain ⟨σ, vσ, hcσ⟩ := NA5.out.at_ i n Hn.out
                have Vσ := Lib.hid vσ
                have c3 : w5.cell? ⟨b, i * 13 + 3, none⟩ = some (.slice σ.A3 n.log.length σ.k3) := hcσ 3 _ rfl
                have c6 : w5.cell? ⟨b, i * 13 + 6, none⟩ = some (.int .i64 n.commit) := hcσ 6 _ rfl
                clear vσ hcσ
                obtain ⟨τ, vτ, hcτ⟩ := NA5.out.at_ j m Hm.out
                have Vτ := Lib.hid vτ
                have d3 : w5.cell? ⟨b, j * 13 + 3, none⟩ = some (.slice τ.A3 m.log.length τ.k3) := hcτ 3 _ rfl
                have d6 : w5.cell? ⟨b, j * 13 + 6, none⟩ = some (.int .i64 m.commit) := hcτ 6 _ rfl
                clear vτ hcτ
                go_upto_region 17 with (fail)
                refine Go.RT.wp_region_tree [0, 0, 3, 7, 15, 0, 0, 96, 224, 480, 0, 0, 3072, 7168, 15360, 31744, 0, 0, 196608, 458752, 983040, 2031616, 4194303, 8388607] (.p 0 (.p 1 (.p 2 (.p 3 (.s 4 (.p 5 (.p 6 (.p 7 (.p 8 (.s 9 (.p 10 (.p 11 (.p 12 (.p 13 (.s 14 (.p 15 (.p 16 (.p 17 (.p 18 (.p 19 (.s 20 (.p 21 (.p 22 (.w 23 [] .nil .stop)))))))))))))))))))))))) (by kernel_rfl) (by kernel_rfl) ?_
                repeat (first | (refine Go.RT.step_p rfl (fun K hK => ?_); go_simp; refine hK _ ?_; clear hK K) | (refine Go.RT.step_s rfl (fun K hK => ?_); go_simp; refine hK _ ?_; clear hK K))
                (refine Go.RT.step_w rfl rfl (fun K hK => ?_) Go.RT.step_stop)
                go_wp2
                refine Go.RT.QK_normal _ _ _ _ (hK _ _ ?_ ?_) <;> clear hK K
                · repeat (first | exact Go.RT.again_nil | (refine Go.RT.again_not rfl rfl ?_) | (refine Go.RT.again_one rfl (by go_simp <;> rfl) ?_))
                refine Go.RT.step_nil ?_
                have HS := Lib.hid (show n.log.length ≤ σ.k3 ∧ m.log.length ≤ τ.k3 from ⟨by obtain ⟨_, _, e, h, _⟩ := Vσ.out.hl.slice; injection e with _ _ e3; omega, by obtain ⟨_, _, e, h, _⟩ := Vτ.out.hl.slice; injection e with _ _ e3; omega⟩)
                have hk1 : (q : Int) ≤ (σ.k3 : Int) := by have := HS.out; have := HQ.out; omega
                have hk2 : (q : Int) ≤ (τ.k3 : Int) := by have := HS.out; have := HQ.out; omega
                have hk0 : (0 : Int) ≤ (q : Int) := by omega
                have C3 : w5.drew.cell? ⟨b, i * 13 + 3, none⟩ = some (.slice σ.A3 n.log.length σ.k3) := c3
                have D3 : w5.drew.cell? ⟨b, j * 13 + 3, none⟩ = some (.slice τ.A3 m.log.length τ.k3) := d3
                try rw [hq]
                go_upto_region 18 with (fail)
                try rw [hq]
                refine Go.RT.wp_region_tree [0, 0, 3, 7, 15, 0, 63, 0, 0, 384, 896, 1920, 0, 8064, 16383, 32767] (.p 0 (.p 1 (.p 2 (.p 3 (.s 4 (.p 5 (.p 6 (.p 7 (.p 8 (.p 9 (.p 10 (.s 11 (.p 12 (.p 13 (.w 14 [] (.p 15 .nil) .stop))))))))))))))) (by kernel_rfl) (by kernel_rfl) ?_
                repeat (first | (refine Go.RT.step_p rfl (fun K hK => ?_); go_simp; refine hK _ ?_; clear hK K) | (refine Go.RT.step_s rfl (fun K hK => ?_); go_simp; refine hK _ ?_; clear hK K))
                (refine Go.RT.step_w rfl rfl (fun K hK => ?_) Go.RT.step_stop)
                go_wp2_with fail
                refine (rents_front _ _ _ σ.A3 τ.A3 n.log.length m.log.length σ.k3 τ.k3 q n.log m.log (Vσ.out.hl.drew.drew) (Vτ.out.hl.drew.drew) rfl rfl HQ.out.2.2.1 HQ.out.2.2.2 HE.out).mono ?_
                rintro e w6 ⟨rfl, hb6⟩
                have NA6 := Lib.hid (NA5.out.drew.drew.below hb6)
                have HB6 := Lib.hid (HB5.out.drew.drew.trans (hb6.mono HB5.out.size))
                clear hb6 c3 c6 d3 d6 C3 D3 Vσ Vτ HE HS NA5 HB5 hk0 hk1 hk2 hq
                go_wp2_with fail
                refine Go.RT.QK_normal _ _ _ _ (hK _ _ ?_ ?_) <;> clear hK K
                · repeat (first | exact Go.RT.again_nil | (refine Go.RT.again_not rfl rfl ?_) | (refine Go.RT.again_one rfl (by go_simp <;> rfl) ?_))
                repeat (first | (refine Go.RT.step_p rfl (fun K hK => ?_); go_simp; refine hK _ ?_; clear hK K) | (refine Go.RT.step_s rfl (fun K hK => ?_); go_simp; refine hK _ ?_; clear hK K))
                refine Go.RT.step_nil ?_
                go_wp2_with fail
                go_roundw
                case rel => exact ⟨j + 1, by omega, by go_num, NA6, HB6⟩
                case measure => simp [intOf]; omega
              · have hne : (en.term != em.term) = true := by simpa using het
                clear tn tm het ha1 ha2 h0
                go_upto_region 13 with (fail)
                refine Go.RT.wp_region_tree [0, 1, 3, 7, 7, 31, 63, 127, 7, 263, 1023, 2047, 4095, 7, 7, 24583, 57351, 122887, 7, 262151, 1040391, 2088967, 4186119, 8388607, 16777215] (.p 0 (.p 1 (.p 2 (.p 3 (.p 4 (.p 5 (.p 6 (.s 7 (.p 8 (.p 9 (.p 10 (.p 11 (.s 12 (.p 13 (.p 14 (.p 15 (.p 16 (.s 17 (.p 18 (.p 19 (.p 20 (.p 21 (.s 22 (.p 23 (.p 24 .nil))))))))))))))))))))))))) (by kernel_rfl) (by kernel_rfl) ?_
                repeat (first | (refine Go.RT.step_p rfl (fun K hK => ?_); go_simp; refine hK _ ?_; clear hK K) | (refine Go.RT.step_s rfl (fun K hK => ?_); go_simp; refine hK _ ?_; clear hK K))
                refine Go.RT.step_nil ?_
                clear x0 y0 c3 d3 Vσ Vτ
                go_wp2_with fail
                go_roundw
                case rel => exact ⟨p, by have := HA.out; omega, by have := HA.out; omega, by go_num, Lib.hid NA.out.drew, Lib.hid HB.out.drew⟩
                case measure => first | (simp [intOf]; done) | (simp [intOf]; omega)
            · obtain rfl : at_ = 0 := by omega
              have HE := Lib.hid (show n.log.take 0 = m.log.take 0 from rfl)
              have HA := Lib.hid (And.intro ha1 ha2)
              clear h0 ha1 ha2
              go_upto_region 13 with (fail)
              refine Go.RT.wp_region_tree [0, 1, 3, 7, 7, 31, 63, 127, 7, 263, 1023, 2047, 4095, 7, 7, 24583, 57351, 122887, 7, 262151, 1040391, 2088967, 4186119, 8388607, 16777215] (.p 0 (.p 1 (.p 2 (.p 3 (.p 4 (.p 5 (.p 6 (.s 7 (.p 8 (.p 9 (.p 10 (.p 11 (.s 12 (.p 13 (.p 14 (.p 15 (.p 16 (.s 17 (.p 18 (.p 19 (.p 20 (.p 21 (.s 22 (.p 23 (.p 24 .nil))))))))))))))))))))))))) (by kernel_rfl) (by kernel_rfl) ?_
              repeat (first | (refine Go.RT.step_p rfl (fun K hK => ?_); go_simp; refine hK _ ?_; clear hK K) | (refine Go.RT.step_s rfl (fun K hK => ?_); go_simp; refine hK _ ?_; clear hK K))
              refine Go.RT.step_nil ?_
              obtain ⟨σ, vσ, hcσ⟩ := NA.out.at_ i n Hn.out
              have Vσ := Lib.hid vσ
              have c3 : wr.cell? ⟨b, i * 13 + 3, none⟩ = some (.slice σ.A3 n.log.length σ.k3) := hcσ 3 _ rfl
              clear vσ hcσ
              obtain ⟨τ, vτ, hcτ⟩ := NA.out.at_ j m Hm.out
              have Vτ := Lib.hid vτ
              have d3 : wr.cell? ⟨b, j * 13 + 3, none⟩ = some (.slice τ.A3 m.log.length τ.k3) := hcτ 3 _ rfl
              clear vτ hcτ
              have HS := Lib.hid (show n.log.length ≤ σ.k3 ∧ m.log.length ≤ τ.k3 from ⟨by obtain ⟨_, _, e, h, _⟩ := Vσ.out.hl.slice; injection e with _ _ e3; omega, by obtain ⟨_, _, e, h, _⟩ := Vτ.out.hl.slice; injection e with _ _ e3; omega⟩)
              have hk1 : (0 : Int) ≤ (σ.k3 : Int) := by have := HS.out; have := HA.out; omega
              have hk2 : (0 : Int) ≤ (τ.k3 : Int) := by have := HS.out; have := HA.out; omega
              have hk0 : (0 : Int) ≤ (0 : Int) := by omega
              go_upto_region 15 with (fail)
              refine Go.RT.wp_region_tree [0, 0, 3, 7, 15, 0, 63, 0, 0, 384, 896, 1920, 0, 8064, 16383, 32767] (.p 0 (.p 1 (.p 2 (.p 3 (.s 4 (.p 5 (.p 6 (.p 7 (.p 8 (.p 9 (.p 10 (.s 11 (.p 12 (.p 13 (.w 14 [] (.p 15 .nil) .stop))))))))))))))) (by kernel_rfl) (by kernel_rfl) ?_
              repeat (first | (refine Go.RT.step_p rfl (fun K hK => ?_); go_simp; refine hK _ ?_; clear hK K) | (refine Go.RT.step_s rfl (fun K hK => ?_); go_simp; refine hK _ ?_; clear hK K))
              (refine Go.RT.step_w rfl rfl (fun K hK => ?_) Go.RT.step_stop)
              go_wp2_with fail
              refine (rents_front _ _ _ σ.A3 τ.A3 n.log.length m.log.length σ.k3 τ.k3 (0) n.log m.log (Vσ.out.hl.drew.drew) (Vτ.out.hl.drew.drew) rfl rfl HA.out.1 HA.out.2 HE.out).mono ?_
              rintro e w5 ⟨rfl, hb5⟩
              have NA5 := Lib.hid (NA.out.drew.drew.below hb5)
              have HB5 := Lib.hid (HB.out.drew.drew.trans (hb5.mono HB.out.size))
              clear hb5 c3 d3 Vσ Vτ HE HS NA HB hk0 hk1 hk2
              go_wp2_with fail
              refine Go.RT.QK_normal _ _ _ _ (hK _ _ ?_ ?_) <;> clear hK K
              · repeat (first | exact Go.RT.again_nil | (refine Go.RT.again_not rfl rfl ?_) | (refine Go.RT.again_one rfl (by go_simp <;> rfl) ?_))
              repeat (first | (refine Go.RT.step_p rfl (fun K hK => ?_); go_simp; refine hK _ ?_; clear hK K) | (refine Go.RT.step_s rfl (fun K hK => ?_); go_simp; refine hK _ ?_; clear hK K))
              refine Go.RT.step_nil ?_
              obtain ⟨q, hq⟩ : ∃ q : Nat, mn (mn (mn n.commit m.commit) (n.log.length : Int)) (m.log.length : Int) = (q : Int) := ⟨(mn (mn (mn n.commit m.commit) (n.log.length : Int)) (m.log.length : Int)).toNat, by have := (NI.out i n Hn.out).cm.1; have := (NI.out j m Hm.out).cm.1; simp only [mn_eq]; omega⟩
              have HQ := Lib.hid (show (q : Int) ≤ n.commit ∧ (q : Int) ≤ m.commit ∧ q ≤ n.log.length ∧ q ≤ m.log.length from by simp only [mn_eq] at hq; omega)
              have HE := Lib.hid (show n.log.take q = m.log.take q from (NI.out i n Hn.out).commits GI.out (NI.out j m Hm.out) HQ.out.1 HQ.out.2.1)
              obtain ⟨σ, vσ, hcσ⟩ := NA5.out.at_ i n Hn.out
              have Vσ := Lib.hid vσ
              have c3 : w5.cell? ⟨b, i * 13 + 3, none⟩ = some (.slice σ.A3 n.log.length σ.k3) := hcσ 3 _ rfl
              have c6 : w5.cell? ⟨b, i * 13 + 6, none⟩ = some (.int .i64 n.commit) := hcσ 6 _ rfl
              clear vσ hcσ
              obtain ⟨τ, vτ, hcτ⟩ := NA5.out.at_ j m Hm.out
              have Vτ := Lib.hid vτ
              have d3 : w5.cell? ⟨b, j * 13 + 3, none⟩ = some (.slice τ.A3 m.log.length τ.k3) := hcτ 3 _ rfl
              have d6 : w5.cell? ⟨b, j * 13 + 6, none⟩ = some (.int .i64 m.commit) := hcτ 6 _ rfl
              clear vτ hcτ
              go_upto_region 17 with (fail)
              refine Go.RT.wp_region_tree [0, 0, 3, 7, 15, 0, 0, 96, 224, 480, 0, 0, 3072, 7168, 15360, 31744, 0, 0, 196608, 458752, 983040, 2031616, 4194303, 8388607] (.p 0 (.p 1 (.p 2 (.p 3 (.s 4 (.p 5 (.p 6 (.p 7 (.p 8 (.s 9 (.p 10 (.p 11 (.p 12 (.p 13 (.s 14 (.p 15 (.p 16 (.p 17 (.p 18 (.p 19 (.s 20 (.p 21 (.p 22 (.w 23 [] .nil .stop)))))))))))))))))))))))) (by kernel_rfl) (by kernel_rfl) ?_
              repeat (first | (refine Go.RT.step_p rfl (fun K hK => ?_); go_simp; refine hK _ ?_; clear hK K) | (refine Go.RT.step_s rfl (fun K hK => ?_); go_simp; refine hK _ ?_; clear hK K))
              (refine Go.RT.step_w rfl rfl (fun K hK => ?_) Go.RT.step_stop)
              go_wp2
              refine Go.RT.QK_normal _ _ _ _ (hK _ _ ?_ ?_) <;> clear hK K
              · repeat (first | exact Go.RT.again_nil | (refine Go.RT.again_not rfl rfl ?_) | (refine Go.RT.again_one rfl (by go_simp <;> rfl) ?_))
              refine Go.RT.step_nil ?_
              have HS := Lib.hid (show n.log.length ≤ σ.k3 ∧ m.log.length ≤ τ.k3 from ⟨by obtain ⟨_, _, e, h, _⟩ := Vσ.out.hl.slice; injection e with _ _ e3; omega, by obtain ⟨_, _, e, h, _⟩ := Vτ.out.hl.slice; injection e with _ _ e3; omega⟩)
              have hk1 : (q : Int) ≤ (σ.k3 : Int) := by have := HS.out; have := HQ.out; omega
              have hk2 : (q : Int) ≤ (τ.k3 : Int) := by have := HS.out; have := HQ.out; omega
              have hk0 : (0 : Int) ≤ (q : Int) := by omega
              have C3 : w5.drew.cell? ⟨b, i * 13 + 3, none⟩ = some (.slice σ.A3 n.log.length σ.k3) := c3
              have D3 : w5.drew.cell? ⟨b, j * 13 + 3, none⟩ = some (.slice τ.A3 m.log.length τ.k3) := d3
              try rw [hq]
              go_upto_region 18 with (fail)
              try rw [hq]
              refine Go.RT.wp_region_tree [0, 0, 3, 7, 15, 0, 63, 0, 0, 384, 896, 1920, 0, 8064, 16383, 32767] (.p 0 (.p 1 (.p 2 (.p 3 (.s 4 (.p 5 (.p 6 (.p 7 (.p 8 (.p 9 (.p 10 (.s 11 (.p 12 (.p 13 (.w 14 [] (.p 15 .nil) .stop))))))))))))))) (by kernel_rfl) (by kernel_rfl) ?_
              repeat (first | (refine Go.RT.step_p rfl (fun K hK => ?_); go_simp; refine hK _ ?_; clear hK K) | (refine Go.RT.step_s rfl (fun K hK => ?_); go_simp; refine hK _ ?_; clear hK K))
              (refine Go.RT.step_w rfl rfl (fun K hK => ?_) Go.RT.step_stop)
              go_wp2_with fail
              refine (rents_front _ _ _ σ.A3 τ.A3 n.log.length m.log.length σ.k3 τ.k3 q n.log m.log (Vσ.out.hl.drew.drew) (Vτ.out.hl.drew.drew) rfl rfl HQ.out.2.2.1 HQ.out.2.2.2 HE.out).mono ?_
              rintro e w6 ⟨rfl, hb6⟩
              have NA6 := Lib.hid (NA5.out.drew.drew.below hb6)
              have HB6 := Lib.hid (HB5.out.drew.drew.trans (hb6.mono HB5.out.size))
              clear hb6 c3 c6 d3 d6 C3 D3 Vσ Vτ HE HS NA5 HB5 hk0 hk1 hk2 hq
              go_wp2_with fail
              refine Go.RT.QK_normal _ _ _ _ (hK _ _ ?_ ?_) <;> clear hK K
              · repeat (first | exact Go.RT.again_nil | (refine Go.RT.again_not rfl rfl ?_) | (refine Go.RT.again_one rfl (by go_simp <;> rfl) ?_))
              repeat (first | (refine Go.RT.step_p rfl (fun K hK => ?_); go_simp; refine hK _ ?_; clear hK K) | (refine Go.RT.step_s rfl (fun K hK => ?_); go_simp; refine hK _ ?_; clear hK K))
              refine Go.RT.step_nil ?_
              go_wp2_with fail
              go_roundw
              case rel => exact ⟨j + 1, by omega, by go_num, NA6, HB6⟩
              case measure => simp [intOf]; omega
        · obtain rfl : j = i := by omega
          have hltjb : decide ((j : Int) < (j : Int)) = false := by simp
          go_wp2_with fail
          go_roundw
          case rel => exact ⟨j + 1, by omega, by go_num, NA, HB⟩
          case measure => simp [intOf]; omega
    · obtain rfl : i = K := by omega
      have hltb : decide ((i : Int) < (i : Int)) = false := by simp
      go_wp2_with fail
      go_ret
      exact ⟨rfl, HB.out⟩

end Go.Proofs.Ytnkmljdkokcdjaa
