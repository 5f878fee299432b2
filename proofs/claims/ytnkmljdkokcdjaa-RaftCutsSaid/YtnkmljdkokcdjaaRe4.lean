/-
  take puts entries behind a place, as the plain takeL says. Conditions: lengths are bounded as the theorem says.
-/
import Derived.WalkKit
import Derived.WalkSpells
import Derived.Lib.Hide
import Derived.Outline
import Derived.Test.YtnkmljdkokcdjaaChecked
import Derived.Test.YtnkmljdkokcdjaaRg
import Derived.Test.YtnkmljdkokcdjaaMem
import Derived.Test.YtnkmljdkokcdjaaFed
import Derived.Test.YtnkmljdkokcdjaaRe3
import Derived.Deep.DeepCutAuto
import Derived.Deep.CutBlock
import Derived.IntWalk
namespace Go.Proofs.Ytnkmljdkokcdjaa
open Go.RowKit Fed
set_option linter.unusedVariables false
attribute [local go_sem high] Fed.max2_int Fed.min2_int

theorem rd_front {w : World} {ok : Nat → Prop} {sz n c hi m : Nat} {A : Option Addr} {xs : List Value} (h : MM.Rd w ok sz (.slice A n c) n xs) (h1 : hi ≤ n) (h2 : hi ≤ m) (h3 : m ≤ c) : MM.Rd w ok sz (.slice A hi m) hi (xs.take (hi * sz)) := by
  have := h.cut (lo := 0) (Nat.zero_le _) h1 h2 h3
  have e : (if m = 0 then A else A.map (·.add (0 * sz))) = A := by
    split
    · rfl
    · cases A <;> simp [Addr.add]
  rw [e] at this
  simpa using this
set_option maxRecDepth 100000 in
set_option maxHeartbeats 4000000 in
theorem take_any (w : World) (B g : Nat) (s : NS) (μ : NM) (k : Nat) (es : List Fed.Entry) (A : Option Addr) (c : Nat) (h : NodeAt w B g s μ) (hr : MM.Rd w (fun k => k < B) 2 (.slice A es.length c) es.length (entsC es)) (hl : s.n.log.length ≤ 700000) (hk : k ≤ s.n.log.length) (he : es.length ≤ 1000) :
    Calls Try.prog 107 #[.pointer (some ⟨g, 0, none⟩), .int .i64 k, .slice A es.length c] w
      fun e w' => ∃ μ', e = .returned (.tuple #[]) ∧ NodeAt w' B g ⟨{ s.n with log := takeL s.n.log k es }, s.out⟩ μ' ∧ Below B w w' ∧ Keep g w w' ∧ μ'.o = μ.o := by
  obtain ⟨i0, hi, hz0, hz1, hz2⟩ := info_parts info40
  have H := Lib.hid h
  have HR := Lib.hid hr
  clear h hr
  go_enter Try.func107, Try.ntmps107
  go_wp2
  go_loopw [1, 10] (fun t1 t10 wr => ∃ (j : Nat) (L : List Fed.Entry) (μ' : NM), j ≤ es.length ∧ t1 = .int .i64 ((k : Int) + j) ∧ t10 = .int .i64 j ∧ k + j ≤ L.length ∧ L.length ≤ 701000 + j ∧ Hid (takeL L (k + j) (es.drop j) = takeL s.n.log k es) ∧ Hid (NodeAt wr B g ⟨{ s.n with log := L }, s.out⟩ μ') ∧ Hid (Below B w wr) ∧ Hid (Keep g w wr) ∧ Hid (μ'.o = μ.o)) (fun _ t10 _ => es.length - (intOf t10).toNat)
  case atStart => exact ⟨0, s.n.log, μ, by omega, by simp, rfl, by omega, by omega, Lib.hid rfl, H, Lib.hid (Below.refl _ _), Lib.hid (Keep.refl _ _), Lib.hid rfl⟩
  case round =>
    obtain ⟨j, L, μ', hj, rfl, rfl, hkl, hll, HT, HN, HB, HK, HMO⟩ := hrel
    by_cases hlt : j < es.length
    case neg =>
      obtain rfl : j = es.length := by omega
      have HT2 := Lib.hid (show takeL s.n.log k es = L from by rw [← HT.out, List.drop_length]; rfl)
      have hb : decide ((es.length : Int) < es.length) = false := by simp
      go_wp2
      go_end0
      first | exact ⟨μ', rfl, by rw [HT2.out]; exact HN.out, HB.out, HK.out, HMO.out⟩ | exact ⟨rfl, μ', by rw [HT2.out]; exact HN.out, HB.out, HK.out, HMO.out⟩
    have hltb : decide ((j : Int) < es.length) = true := decide_eq_true (by omega)
    obtain ⟨x, hx⟩ : ∃ x, es[j]? = some x := ⟨_, List.getElem?_eq_getElem hlt⟩
    have hrd := HR.out.step (w1 := wr) (fun k hk _ => HB.out.block k hk)
    obtain ⟨_, A', c', ea, hc1, hc2, hrest⟩ := hrd
    injection ea with ea1 _ ea2
    subst ea1 ea2
    obtain ⟨be, oe, rfl, hbB, hbs, hcell⟩ := hrest (by omega)
    have x0 : wr.cell? ⟨be, oe + j * 2, none⟩ = some (.int .i64 x.term) := hcell _ _ (entsC_get hx).1
    have x1 : wr.cell? ⟨be, oe + (j * 2 + 1), none⟩ = some (.string x.data) := hcell _ _ (entsC_get hx).2
    rw [← Nat.add_assoc] at x1
    have HCELL := Lib.hid hcell
    have HX := Lib.hid hx
    have HHR := Lib.hid hrest
    have hst : es.drop j = x :: es.drop (j + 1) := by rw [List.drop_eq_getElem_cons hlt]; congr 1; have := List.getElem?_eq_getElem hlt; rw [hx] at this; injection this with this; exact this.symm
    have HST := Lib.hid (show takeL L (k + j) (es.drop j) = if termAt L ((k : Int) + j + 1) = x.term ∧ k + j + 1 ≤ L.length then takeL L (k + j + 1) (es.drop (j + 1)) else takeL (L.take (k + j) ++ [x]) (k + j + 1) (es.drop (j + 1)) from by
      rw [hst]
      conv => lhs; unfold takeL
      rw [show (((k + j + 1 : Nat) : Nat) : Int) = (k : Int) + j + 1 from by omega])
    have hsz := HN.out.Bsize
    have hB1 : Below B w (wr.alloc (.cells #[.int .i64 x.term, .string x.data] 40)) := HB.out.alloc hsz _
    have hN1 : NodeAt (wr.alloc (.cells #[.int .i64 x.term, .string x.data] 40)) B g ⟨{ s.n with log := L }, s.out⟩ μ' := HN.out.alloc _
    have hY1 := MM.alloc_new wr (.cells #[.int .i64 x.term, .string x.data] 40)
    clear hcell hx hrest hst
    go_upto_region 4 with (fail)
    obtain ⟨bx, hbx⟩ : ∃ bx, bx = wr.heap.size := ⟨_, rfl⟩
    rw [← hbx] at hY1 ⊢
    obtain ⟨w1, hw1⟩ : ∃ W, W = wr.alloc (.cells #[.int .i64 x.term, .string x.data] 40) := ⟨_, rfl⟩
    have qKK1 : Keep g w (wr.alloc (.cells #[.int .i64 x.term, .string x.data] 40)) := HK.out.alloc _
    have qN1 : NodeAt (wr.alloc (.cells #[.int .i64 x.term, .string x.data] 40)) B g ⟨{ s.n with log := L }, s.out⟩ μ' := hN1
    have qB1 : Below B w (wr.alloc (.cells #[.int .i64 x.term, .string x.data] 40)) := hB1
    have qY1 : ((wr.alloc (.cells #[.int .i64 x.term, .string x.data] 40))).heap[bx]? = some (.cells #[.int .i64 x.term, .string x.data] 40 (0, 0)) := hY1
    rw [← hw1] at qKK1 qN1 qB1 qY1 ⊢
    have HKK1 := Lib.hid qKK1
    have HN1 := Lib.hid qN1
    have HB1 := Lib.hid qB1
    have HY1 := Lib.hid qY1
    clear qKK1 qN1 qB1 qY1 hw1 hN1 hB1 hY1 hbx
    have HK1 : Hid (Keep g w w1) := HKK1
    have y0 : w1.cell? ⟨bx, 0, none⟩ = some (.int .i64 x.term) := MM.cell_blk HY1.out rfl
    by_cases hc : termAt L ((k : Int) + j + 1) = x.term ∧ k + j + 1 ≤ L.length
    · obtain ⟨ht, hle⟩ := hc
      have htb : (termAt L ((k : Int) + j + 1) == x.term) = true := by simpa using ht
      have hlb : decide ((k : Int) + j + 1 ≤ L.length) = true := decide_eq_true (by omega)
      have HT2 := Lib.hid (show takeL L (k + (j + 1)) (es.drop (j + 1)) = takeL s.n.log k es from by rw [← HT.out, HST.out, if_pos ⟨ht, hle⟩]; rfl)
      clear ht
      refine Go.RT.wp_region_tree [0, 0, 3, 0, 8, 31, 63, 127, 127, 383, 1023, 2047] (.p 0 (.p 1 (.p 3 (.s 4 (.w 2 [4] (.p 5 (.p 6 (.p 7 (.p 8 (.w 9 [] (.p 10 (.p 11 .nil)) .stop))))) .stop))))) (by kernel_rfl) (by kernel_rfl) ?_
      repeat (first | (refine Go.RT.step_p rfl (fun K hK => ?_); go_simp; refine hK _ ?_; clear hK K) | (refine Go.RT.step_s rfl (fun K hK => ?_); go_simp; refine hK _ ?_; clear hK K))
      (refine Go.RT.step_w rfl rfl (fun K hK => ?_) Go.RT.step_stop)
      go_wp2_with fail
      refine (term_any _ B g ⟨{ s.n with log := L }, s.out⟩ μ' _ (by omega) (by omega) (HN1.out.below (by repeat (first | exact Below.refl _ _ | refine Below.setCell ?_ (by simp) _ | refine Below.alloc ?_ (by simp) _ | refine Below.drew ?_)))).mono ?_
      rintro e w2 ⟨rfl, rfl⟩
      go_wp2_with fail
      refine Go.RT.QK_normal _ _ _ _ (hK _ _ ?_ ?_) <;> clear hK K
      · repeat (first | exact Go.RT.again_nil | (refine Go.RT.again_not rfl rfl ?_) | (refine Go.RT.again_one rfl (by go_simp <;> rfl) ?_))
      repeat (first | (refine Go.RT.step_p rfl (fun K hK => ?_); go_simp; refine hK _ ?_; clear hK K) | (refine Go.RT.step_s rfl (fun K hK => ?_); go_simp; refine hK _ ?_; clear hK K))
      (refine Go.RT.step_w rfl rfl (fun K hK => ?_) Go.RT.step_stop)
      go_wp2_with fail
      refine (last_any _ B g ⟨{ s.n with log := L }, s.out⟩ μ' (HN1.out.below (by repeat (first | exact Below.refl _ _ | refine Below.setCell ?_ (by simp) _ | refine Below.alloc ?_ (by simp) _ | refine Below.drew ?_)))).mono ?_
      rintro e w2 ⟨rfl, rfl⟩
      go_wp2_with fail
      refine Go.RT.QK_normal _ _ _ _ (hK _ _ ?_ ?_) <;> clear hK K
      · repeat (first | exact Go.RT.again_nil | (refine Go.RT.again_not rfl rfl ?_) | (refine Go.RT.again_one rfl (by go_simp <;> rfl) ?_))
      repeat (first | (refine Go.RT.step_p rfl (fun K hK => ?_); go_simp; refine hK _ ?_; clear hK K) | (refine Go.RT.step_s rfl (fun K hK => ?_); go_simp; refine hK _ ?_; clear hK K))
      refine Go.RT.step_nil ?_
      go_wp2
      go_roundw
      case rel => exact ⟨j + 1, L, μ', by omega, by go_num, by go_num, by omega, by omega, HT2, Lib.hid HN1.out.drew, Lib.hid HB1.out.drew, HK1, HMO⟩
      case measure => simp [intOf]; omega
    have HT2 := Lib.hid (show takeL (L.take (k + j) ++ [x]) (k + (j + 1)) (es.drop (j + 1)) = takeL s.n.log k es from by rw [← HT.out, HST.out, if_neg hc]; rfl)
    have HCC := Lib.hid hc
    clear hc
    go_cut [27] (fun v27 wc => v27 = .bool false ∧ wc = w1.drew)
    case first =>
      by_cases ht : termAt L ((k : Int) + j + 1) = x.term
      · have htb : (termAt L ((k : Int) + j + 1) == x.term) = true := by simpa using ht
        have hlb : decide ((k : Int) + j + 1 ≤ L.length) = false := decide_eq_false (fun h9 => HCC.out ⟨ht, by omega⟩)
        clear ht
        refine Go.RT.wp_region_tree [0, 0, 3, 0, 8, 31, 63, 127, 127, 383, 1023, 2047] (.p 0 (.p 1 (.p 3 (.s 4 (.w 2 [4] (.p 5 (.p 6 (.p 7 (.p 8 (.w 9 [] (.p 10 (.p 11 .nil)) .stop))))) .stop))))) (by kernel_rfl) (by kernel_rfl) ?_
        repeat (first | (refine Go.RT.step_p rfl (fun K hK => ?_); go_simp; refine hK _ ?_; clear hK K) | (refine Go.RT.step_s rfl (fun K hK => ?_); go_simp; refine hK _ ?_; clear hK K))
        (refine Go.RT.step_w rfl rfl (fun K hK => ?_) Go.RT.step_stop)
        go_wp2_with fail
        refine (term_any _ B g ⟨{ s.n with log := L }, s.out⟩ μ' _ (by omega) (by omega) (HN1.out.below (by repeat (first | exact Below.refl _ _ | refine Below.setCell ?_ (by simp) _ | refine Below.alloc ?_ (by simp) _ | refine Below.drew ?_)))).mono ?_
        rintro e w2 ⟨rfl, rfl⟩
        go_wp2_with fail
        refine Go.RT.QK_normal _ _ _ _ (hK _ _ ?_ ?_) <;> clear hK K
        · repeat (first | exact Go.RT.again_nil | (refine Go.RT.again_not rfl rfl ?_) | (refine Go.RT.again_one rfl (by go_simp <;> rfl) ?_))
        repeat (first | (refine Go.RT.step_p rfl (fun K hK => ?_); go_simp; refine hK _ ?_; clear hK K) | (refine Go.RT.step_s rfl (fun K hK => ?_); go_simp; refine hK _ ?_; clear hK K))
        (refine Go.RT.step_w rfl rfl (fun K hK => ?_) Go.RT.step_stop)
        go_wp2_with fail
        refine (last_any _ B g ⟨{ s.n with log := L }, s.out⟩ μ' (HN1.out.below (by repeat (first | exact Below.refl _ _ | refine Below.setCell ?_ (by simp) _ | refine Below.alloc ?_ (by simp) _ | refine Below.drew ?_)))).mono ?_
        rintro e w2 ⟨rfl, rfl⟩
        go_wp2_with fail
        refine Go.RT.QK_normal _ _ _ _ (hK _ _ ?_ ?_) <;> clear hK K
        · repeat (first | exact Go.RT.again_nil | (refine Go.RT.again_not rfl rfl ?_) | (refine Go.RT.again_one rfl (by go_simp <;> rfl) ?_))
        repeat (first | (refine Go.RT.step_p rfl (fun K hK => ?_); go_simp; refine hK _ ?_; clear hK K) | (refine Go.RT.step_s rfl (fun K hK => ?_); go_simp; refine hK _ ?_; clear hK K))
        refine Go.RT.step_nil ?_
        go_wp2_with fail
        go_meet
        case rel => exact ⟨rfl, rfl⟩
      · have htb : (termAt L ((k : Int) + j + 1) == x.term) = false := by simpa using ht
        clear ht
        refine Go.RT.wp_region_tree [0, 0, 3, 0, 8, 31, 63, 127, 127, 383, 1023, 2047] (.p 0 (.p 1 (.p 3 (.s 4 (.w 2 [4] (.p 5 (.p 6 (.p 7 (.p 8 (.w 9 [] (.p 10 (.p 11 .nil)) .stop))))) .stop))))) (by kernel_rfl) (by kernel_rfl) ?_
        repeat (first | (refine Go.RT.step_p rfl (fun K hK => ?_); go_simp; refine hK _ ?_; clear hK K) | (refine Go.RT.step_s rfl (fun K hK => ?_); go_simp; refine hK _ ?_; clear hK K))
        (refine Go.RT.step_w rfl rfl (fun K hK => ?_) Go.RT.step_stop)
        go_wp2_with fail
        refine (term_any _ B g ⟨{ s.n with log := L }, s.out⟩ μ' _ (by omega) (by omega) (HN1.out.below (by repeat (first | exact Below.refl _ _ | refine Below.setCell ?_ (by simp) _ | refine Below.alloc ?_ (by simp) _ | refine Below.drew ?_)))).mono ?_
        rintro e w2 ⟨rfl, rfl⟩
        go_wp2_with fail
        refine Go.RT.QK_normal _ _ _ _ (hK _ _ ?_ ?_) <;> clear hK K
        · repeat (first | exact Go.RT.again_nil | (refine Go.RT.again_not rfl rfl ?_) | (refine Go.RT.again_one rfl (by go_simp <;> rfl) ?_))
        repeat (first | (refine Go.RT.step_p rfl (fun K hK => ?_); go_simp; refine hK _ ?_; clear hK K) | (refine Go.RT.step_s rfl (fun K hK => ?_); go_simp; refine hK _ ?_; clear hK K))
        (refine Go.RT.skip_w rfl rfl ?_ Go.RT.step_stop)
        (try simp only [Act.put, List.setIfInBounds_toArray, List.set_cons_zero, List.set_cons_succ])
        repeat (first | (refine Go.RT.step_p rfl (fun K hK => ?_); go_simp; refine hK _ ?_; clear hK K) | (refine Go.RT.step_s rfl (fun K hK => ?_); go_simp; refine hK _ ?_; clear hK K))
        refine Go.RT.step_nil ?_
        go_wp2_with fail
        go_meet
        case rel => exact ⟨rfl, rfl⟩
    case rest =>
      obtain ⟨rfl, rfl⟩ := hcut
      obtain ⟨w2, hw2⟩ : ∃ W, W = w1.drew := ⟨_, rfl⟩
      have qK2 : Keep g w (w1.drew) := HK1.out.drew
      have qN2 : NodeAt (w1.drew) B g ⟨{ s.n with log := L }, s.out⟩ μ' := HN1.out.drew
      have qB2 : Below B w (w1.drew) := HB1.out.drew
      have qY2 : ((w1.drew)).heap[bx]? = some (.cells #[.int .i64 x.term, .string x.data] 40 (0, 0)) := HY1.out
      rw [← hw2] at qK2 qN2 qB2 qY2 ⊢
      have HK2 := Lib.hid qK2
      have HN2 := Lib.hid qN2
      have HB2 := Lib.hid qB2
      have HY2 := Lib.hid qY2
      clear qK2 qN2 qB2 qY2 hw2 HY1 HN1 HB1 y0
      have y0 : w2.cell? ⟨bx, 0, none⟩ = some (.int .i64 x.term) := MM.cell_blk HY2.out rfl
      have y1 : w2.cell? ⟨bx, 1, none⟩ = some (.string x.data) := MM.cell_blk HY2.out rfl
      obtain ⟨A3, k3, e3, u3, _⟩ := HN2.out.hl.slice
      have c3 : w2.cell? ⟨g, 3, none⟩ = some (.slice A3 L.length k3) := HN2.out.c 3 _ (congrArg some e3)
      have E3 := Lib.hid e3
      clear e3
      have hu3 : L.length ≤ k3 := u3
      have hlt2 := HN2.out.lt
      have hlb2 := MM.blk_lt HY2.out
      have hbs2 := HN2.out.Bsize
      have hw2 : 0 ≤ (k : Int) + (j : Int) := by omega
      have hw3 : (k : Int) + (j : Int) ≤ (k3 : Int) := by omega
      have hw4 : (k : Int) + (j : Int) ≤ max ((k : Int) + (j : Int)) 0 := by omega
      have hw5 : ((k : Int) + (j : Int)).toNat = k + j := by omega
      have hw1 : IntKind.i64.wrap ((k : Int) + (j : Int)) = (k : Int) + (j : Int) := IntWalk.i64_in _ (by omega)
      go_wp2
      refine Go.RT.wp_region_tree [0, 0, 2, 6, 14, 30, 0, 64, 0, 256, 1022, 0, 2048, 8190, 16383, 32767, 65535, 131071] (.p 0 (.p 1 (.p 2 (.p 3 (.p 4 (.s 5 (.p 6 (.p 7 (.p 8 (.p 9 (.p 10 (.s 11 (.w 12 [5] (.w 13 [] (.p 14 (.p 15 (.p 16 (.w 17 [] .nil .stop)))) .stop) .stop))))))))))))) (by kernel_rfl) (by kernel_rfl) ?_
      repeat (first | (refine Go.RT.step_p rfl (fun K hK => ?_); go_simp; refine hK _ ?_; clear hK K) | (refine Go.RT.step_s rfl (fun K hK => ?_); go_simp; refine hK _ ?_; clear hK K))
      (refine Go.RT.step_w rfl rfl (fun K hK => ?_) Go.RT.step_stop)
      go_wp2
      refine Go.RT.QK_normal _ _ _ _ (hK _ _ ?_ ?_) <;> clear hK K
      · repeat (first | exact Go.RT.again_nil | (refine Go.RT.again_not rfl rfl ?_) | (refine Go.RT.again_one rfl (by go_simp <;> rfl) ?_))
      (refine Go.RT.step_w rfl rfl (fun K hK => ?_) Go.RT.step_stop)
      refine MM.wpList_append_full _ rfl (.tmp 38) (.tmp 40) 24 rfl 40 i0 _ 2 24 Try.underlying24 hi hz0 hz1 hz2 rfl (by decide) (fun _ => True) _ (k + j) (entsC (L.take (k + j))) rfl ?own (fun _ => True) _ 1 [.int .i64 x.term, .string x.data] rfl ?src ?one (by decide) ?h63 ?hby ?h
      case own =>
        have h9 : MM.Rd w2 (fun _ => True) 2 (.slice A3 L.length k3) L.length (entsC L) := by
          rw [← E3.out]
          exact HN2.out.hl.rd.mono (fun _ _ _ => trivial)
        rw [← entsC_take]
        exact (rd_front h9 hkl (Nat.le_refl _) (by omega)).below (by repeat (first | exact Below.refl _ _ | refine Below.setCell ?_ (by simp) _ | refine Below.alloc ?_ (by simp) _ | refine Below.drew ?_))
      case src => exact MM.Rd.lit (MM.alloc_new _ _) trivial rfl (Nat.le_refl _) (by simp [maxLen]) rfl
      case one => intro u hu; simp at hu; rcases hu with rfl | rfl <;> rfl
      case h63 => simp only [maxLen]; omega
      case hby => omega
      intro v' w3 g' hrow hgr
      obtain ⟨A', k', rfl, _, _⟩ := hrow.slice
      have hlg := hrow.lt g' rfl
      have c3' := HN2.out.gc hgr (by repeat (first | exact Below.refl _ _ | refine Below.setCell ?_ (by simp) _ | refine Below.alloc ?_ (by simp) _ | refine Below.drew ?_)) (fun _ h => by cases h) (t := 40) (by decide) 3 _ rfl
      have fr3' := HN2.out.gfr hgr (by repeat (first | exact Below.refl _ _ | refine Below.setCell ?_ (by simp) _ | refine Below.alloc ?_ (by simp) _ | refine Below.drew ?_)) (fun _ h => by cases h) (t := 40) (by decide) 3
      have HGR := Lib.hid hgr
      have HRW := Lib.hid (show MM.Row w3 B 40 2 (.slice A' (k + j + 1) k') (L.take (k + j) ++ [x]).length (entsC (L.take (k + j) ++ [x])) (some g') from by
        rw [show (L.take (k + j) ++ [x]).length = k + j + 1 from by simp; omega, entsC_append]
        exact hrow.lower (by simp; omega))
      clear hgr hrow
      go_wp2
      refine Go.RT.QK_normal _ _ _ _ (hK _ _ ?_ ?_) <;> clear hK K
      · repeat (first | exact Go.RT.again_nil | (refine Go.RT.again_not rfl rfl ?_) | (refine Go.RT.again_one rfl (by go_simp <;> rfl) ?_))
      repeat (first | (refine Go.RT.step_p rfl (fun K hK => ?_); go_simp; refine hK _ ?_; clear hK K) | (refine Go.RT.step_s rfl (fun K hK => ?_); go_simp; refine hK _ ?_; clear hK K))
      (refine Go.RT.step_w rfl rfl (fun K hK => ?_) Go.RT.step_stop)
      go_wp2
      refine Go.RT.QK_normal _ _ _ _ (hK _ _ ?_ ?_) <;> clear hK K
      · repeat (first | exact Go.RT.again_nil | (refine Go.RT.again_not rfl rfl ?_) | (refine Go.RT.again_one rfl (by go_simp <;> rfl) ?_))
      refine Go.RT.step_nil ?_
      have hN4 := NodeAt.put_log (l' := L.take (k + j) ++ [x]) (HN2.out.below (by repeat (first | exact Below.refl _ _ | refine Below.setCell ?_ (by simp) _ | refine Below.alloc ?_ (by simp) _ | refine Below.drew ?_))) HGR.out (.inl rfl) HRW.out (.inr ⟨g', rfl, hlg.1⟩)
      have hB4 : Below B w (w3.setCell ⟨g, 3, none⟩ (.slice A' (k + j + 1) k')) := (((HB2.out.trans (Below.mono (B' := B) (by repeat (first | exact Below.refl _ _ | refine Below.setCell ?_ (by simp) _ | refine Below.alloc ?_ (by simp) _ | refine Below.drew ?_)) HN2.out.Bsize)).grown HGR.out (by simp; omega) (fun _ h => by cases h))).setCell (p := ⟨g, 3, none⟩) HN2.out.hB _
      have hlen4 : (L.take (k + j) ++ [x]).length = k + j + 1 := by simp; omega
      have HN4 := Lib.hid hN4
      have HB4 := Lib.hid hB4
      have HK4 : Hid (Keep g w (w3.setCell ⟨g, 3, none⟩ (.slice A' (k + j + 1) k'))) := Lib.hid (((HK2.out.alloc _).drew.grown HGR.out).set _)
      clear hw1 hw2 hw3 hw4 hw5 hN4 hB4
      go_wp2
      go_roundw
      case rel => exact ⟨j + 1, L.take (k + j) ++ [x], _, by omega, by go_num, by go_num, by omega, by omega, HT2, HN4, HB4, HK4, HMO⟩
      case measure => simp [intOf]; omega

end Go.Proofs.Ytnkmljdkokcdjaa
