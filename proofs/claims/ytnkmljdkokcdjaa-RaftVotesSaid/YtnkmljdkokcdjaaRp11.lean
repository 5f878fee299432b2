/-
  What stands behind the law's switch: both sides are the same. Condition: the states may be walked.
-/
import Derived.WalkKit
import Derived.WalkSpells
import Derived.Lib.Hide
import Derived.Outline
import Derived.Test.YtnkmljdkokcdjaaChecked
import Derived.Test.YtnkmljdkokcdjaaMn
import Derived.Test.YtnkmljdkokcdjaaMem
import Derived.Test.YtnkmljdkokcdjaaFed
import Derived.Test.YtnkmljdkokcdjaaMg
import Derived.Test.YtnkmljdkokcdjaaRp6w
import Derived.Test.YtnkmljdkokcdjaaMh
import Derived.Test.YtnkmljdkokcdjaaRp5
import Derived.Test.YtnkmljdkokcdjaaRl1
import Derived.Test.YtnkmljdkokcdjaaRn6
import Derived.Test.YtnkmljdkokcdjaaRn11
import Derived.Test.YtnkmljdkokcdjaaMm
import Derived.Test.YtnkmljdkokcdjaaMj
import Derived.Test.YtnkmljdkokcdjaaRn12
import Derived.Deep.DeepCutAuto
import Derived.Deep.CutBlock
import Derived.Deep.OwnRows
import Derived.IntWalk
set_option linter.unusedVariables false
set_option linter.unusedSimpArgs false
namespace Go.Proofs.Ytnkmljdkokcdjaa
open Go.RowKit Fed
set_option linter.unusedVariables false
attribute [local go_sem high] Fed.max2_int Fed.min2_int

set_option maxRecDepth 100000 in
set_option maxHeartbeats 40000000 in
theorem sw_rest {Q : Exit → Act → World → Prop} (w wc : World) (size id' ba bb ca cb c3 c4 c5 : Nat) (A3 A4 A5 : Option Addr) (s0 s1 : PS) (f' : List Fed.Msg) (r : NS) (c0 c1 c2 c3' c4' c5' c6 c7 c11 c12 c13 c17 c18 c19 c20 c21 c22 c23 c24 c25 c26 c27 c28 c29 c30 c31 c32 c33 c34 c35 c36 c37 c38 c39 c40 c41 c42 c43 c44 c45 c46 c47 c48 c49 c50 c51 c52 c53 c54 c55 c56 c57 c58 c59 c60 c61 c62 c63 c64 c65 c66 c67 c68 c69 c70 c71 c72 c73 c74 c75 c76 c77 c78 c79 c80 c81 c82 c83 c84 c85 c86 c87 c88 c89 c90 c91 c92 c93 c94 c95 c96 c97 c98 c99 c100 c101 c102 c103 c104 c105 c106 c107 c108 c109 c110 c111 c112 c113 c114 c115 c116 c117 c118 c119 c120 c121 c122 c123 c124 c125 c126 c127 c128 c129 c130 c131 c132 c133 c134 c135 c136 c137 c138 c139 c140 c141 c142 c143 c144 c145 c146 c147 c148 c149 c150 c151 c152 c153 c154 c155 c156 c157 c158 c159 c160 c161 c162 c163 c164 c165 c166 c167 c168 c169 c170 c171 c172 c173 c174 c175 c176 c177 c178 c179 c180 c181 c182 c183 c184 c185 c186 c187 c188 c189 c190 c191 c192 c193 c194 c195 c196 c197 c198 c199 c200 c201 c202 c203 c204 c205 c206 c207 c208 c209 c210 c211 c212 c213 c214 c215 c216 c217 c218 c219 c220 c221 c222 c223 c224 c225 c226 c227 c228 c229 c230 c231 c232 c233 c234 c235 c236 c237 c238 c239 c240 c241 c242 c243 c244 c245 c246 c247 c248 c249 c250 c251 c252 c253 c254 c255 c256 c257 c258 c259 c260 c261 c262 c263 c264 c265 c266 : Value) (h0 : 1 ≤ size) (h5 : size ≤ 5) (p4 : size ≤ ca) (p5 : ca ≤ maxLen) (r4 : size ≤ cb) (r5 : cb ≤ maxLen) (hid' : id' < size) (hro : r.out.length ≤ 1000000) (HFL : Hid (f'.length ≤ 1000)) (HS1 : Hid (s1 = pfin ⟨s0.ns, f'⟩ id' r)) (HAB : Hid (ba ≠ bb)) (HGI : Hid (Fed.Good size s0)) (HGJ : Hid (Fed.Good size s1)) (PA' : Hid (NodesAt wc (fun k => k ≠ ba ∧ k ≠ bb) ba (s0.ns.set id' r.n))) (PB' : Hid (NodesAt wc (fun k => k ≠ ba ∧ k ≠ bb) bb (s0.ns.set id' r.n))) (F' : Hid (MsgsV wc (fun k => k ≠ ba ∧ k ≠ bb) (.slice A3 f'.length c3) f')) (M1 : Hid (MsgsV wc (fun k => k ≠ ba ∧ k ≠ bb) (.slice A4 r.out.length c4) r.out)) (M2 : Hid (MsgsV wc (fun k => k ≠ ba ∧ k ≠ bb) (.slice A5 r.out.length c5) r.out)) (HB' : Hid (Below w.heap.size w wc))
    (hR : Hid (∀ (v6 v7 v10 v237 v238 v239 v240 v241 v242 v243 v244 v245 v246 v247 v248 v249 v250 v251 v252 v253 v254 v255 v256 v257 v258 v259 v260 v261 v262 v263 v264 v265 : Value) (wc : World), (∃ (A3 : Option Addr) (c3 : Nat), v10 = .slice A3 s1.f.length c3 ∧ Hid (NodesAt wc (fun k => k ≠ ba ∧ k ≠ bb) ba s1.ns) ∧ Hid (NodesAt wc (fun k => k ≠ ba ∧ k ≠ bb) bb s1.ns) ∧ Hid (MsgsV wc (fun k => k ≠ ba ∧ k ≠ bb) (.slice A3 s1.f.length c3) s1.f) ∧ Hid (Below w.heap.size w wc)) → Q .normal ⟨#[c0, c1, c2, c3', c4', c5', v6, v7, .slice (some ⟨ba, 0, none⟩) size ca, .slice (some ⟨bb, 0, none⟩) size cb, v10, c11, c12, c13, .int .i64 id', .slice A4 r.out.length c4, .slice A5 r.out.length c5, c17, c18, c19, c20, c21, c22, c23, c24, c25, c26, c27, c28, c29, c30, c31, c32, c33, c34, c35, c36, c37, c38, c39, c40, c41, c42, c43, c44, c45, c46, c47, c48, c49, c50, c51, c52, c53, c54, c55, c56, c57, c58, c59, c60, c61, c62, c63, c64, c65, c66, c67, c68, c69, c70, c71, c72, c73, c74, c75, c76, c77, c78, c79, c80, c81, c82, c83, c84, c85, c86, c87, c88, c89, c90, c91, c92, c93, c94, c95, c96, c97, c98, c99, c100, c101, c102, c103, c104, c105, c106, c107, c108, c109, c110, c111, c112, c113, c114, c115, c116, c117, c118, c119, c120, c121, c122, c123, c124, c125, c126, c127, c128, c129, c130, c131, c132, c133, c134, c135, c136, c137, c138, c139, c140, c141, c142, c143, c144, c145, c146, c147, c148, c149, c150, c151, c152, c153, c154, c155, c156, c157, c158, c159, c160, c161, c162, c163, c164, c165, c166, c167, c168, c169, c170, c171, c172, c173, c174, c175, c176, c177, c178, c179, c180, c181, c182, c183, c184, c185, c186, c187, c188, c189, c190, c191, c192, c193, c194, c195, c196, c197, c198, c199, c200, c201, c202, c203, c204, c205, c206, c207, c208, c209, c210, c211, c212, c213, c214, c215, c216, c217, c218, c219, c220, c221, c222, c223, c224, c225, c226, c227, c228, c229, c230, c231, c232, c233, c234, c235, c236, v237, v238, v239, v240, v241, v242, v243, v244, v245, v246, v247, v248, v249, v250, v251, v252, v253, v254, v255, v256, v257, v258, v259, v260, v261, v262, v263, v264, v265, c266], []⟩ wc)) : Code.wp Try.prog swRest Q ⟨#[c0, c1, c2, c3', c4', c5', c6, c7, .slice (some ⟨ba, 0, none⟩) size ca, .slice (some ⟨bb, 0, none⟩) size cb, .slice A3 f'.length c3, c11, c12, c13, .int .i64 id', .slice A4 r.out.length c4, .slice A5 r.out.length c5, c17, c18, c19, c20, c21, c22, c23, c24, c25, c26, c27, c28, c29, c30, c31, c32, c33, c34, c35, c36, c37, c38, c39, c40, c41, c42, c43, c44, c45, c46, c47, c48, c49, c50, c51, c52, c53, c54, c55, c56, c57, c58, c59, c60, c61, c62, c63, c64, c65, c66, c67, c68, c69, c70, c71, c72, c73, c74, c75, c76, c77, c78, c79, c80, c81, c82, c83, c84, c85, c86, c87, c88, c89, c90, c91, c92, c93, c94, c95, c96, c97, c98, c99, c100, c101, c102, c103, c104, c105, c106, c107, c108, c109, c110, c111, c112, c113, c114, c115, c116, c117, c118, c119, c120, c121, c122, c123, c124, c125, c126, c127, c128, c129, c130, c131, c132, c133, c134, c135, c136, c137, c138, c139, c140, c141, c142, c143, c144, c145, c146, c147, c148, c149, c150, c151, c152, c153, c154, c155, c156, c157, c158, c159, c160, c161, c162, c163, c164, c165, c166, c167, c168, c169, c170, c171, c172, c173, c174, c175, c176, c177, c178, c179, c180, c181, c182, c183, c184, c185, c186, c187, c188, c189, c190, c191, c192, c193, c194, c195, c196, c197, c198, c199, c200, c201, c202, c203, c204, c205, c206, c207, c208, c209, c210, c211, c212, c213, c214, c215, c216, c217, c218, c219, c220, c221, c222, c223, c224, c225, c226, c227, c228, c229, c230, c231, c232, c233, c234, c235, c236, c237, c238, c239, c240, c241, c242, c243, c244, c245, c246, c247, c248, c249, c250, c251, c252, c253, c254, c255, c256, c257, c258, c259, c260, c261, c262, c263, c264, c265, c266], []⟩ wc := by
  conv => arg 2; whnf
  have hn : (s0.ns.set id' r.n)[id']? = some r.n := List.getElem?_set_self (by rw [HGI.out.len]; exact hid')
  have G := Lib.hid (show NodeGood size r.n from HGJ.out.ns r.n (by rw [HS1.out]; exact List.mem_of_getElem? hn))
  obtain ⟨σ, v1, hc1⟩ := PA'.out.at_ id' r.n hn
  obtain ⟨τ, v2, hc2⟩ := PB'.out.at_ id' r.n hn
  have V1 := Lib.hid v1
  have V2 := Lib.hid v2
  obtain ⟨c0, c1, c2, c3, c4, c5, c6, c7, c8, c9, c10, c11, c12⟩ := cellsL hc1
  obtain ⟨d0, d1, d2, d3, d4, d5, d6, d7, d8, d9, d10, d11, d12⟩ := cellsL hc2
  clear v1 v2 hc1 hc2 hn
  go_step
  go_step
  refine Go.RT.wp_region_tree [0, 0, 3, 7, 0, 0, 48, 112, 255, 511, 1023, 2047, 2047, 8191, 16383, 32767] (.p 0 (.p 1 (.p 2 (.s 3 (.p 4 (.p 5 (.p 6 (.s 7 (.w 8 [] (.p 9 (.p 10 (.p 11 (.p 12 (.w 13 [] (.p 14 (.p 15 .nil)) .stop))))) .stop))))))))) (by as_aux_lemma => kernel_rfl) (by as_aux_lemma => kernel_rfl) ?_
  repeat (first | (refine Go.RT.step_p rfl (fun K hK => ?_); go_simp; refine hK _ ?_; clear hK K) | (refine Go.RT.step_s rfl (fun K hK => ?_); go_simp; refine hK _ ?_; clear hK K))
  (refine Go.RT.step_w rfl rfl (fun K hK => ?_) Go.RT.step_stop)
  go_wp2_with fail
  have gx := G.out
  refine (rsame_any _ _ _ r.n σ τ (V1.out.step (w1 := wc.drew) (fun _ _ _ => rfl)) (V2.out.step (w1 := wc.drew) (fun _ _ _ => rfl)) (by have := gx.l; omega) (by rw [gx.v]; omega) (by rw [gx.x, gx.v]) (by rw [gx.m, gx.v]) (by rw [gx.f, gx.v])).mono ?_
  rintro e w2 ⟨rfl, hb2⟩
  clear gx
  have PA2 := Lib.hid (PA'.out.drew.below hb2)
  have PB2 := Lib.hid (PB'.out.drew.below hb2)
  have F2 := Lib.hid ((F'.out.step (w1 := wc.drew) (fun _ _ _ => rfl)).below hb2)
  have M12 := Lib.hid ((M1.out.step (w1 := wc.drew) (fun _ _ _ => rfl)).below hb2)
  have M22 := Lib.hid ((M2.out.step (w1 := wc.drew) (fun _ _ _ => rfl)).below hb2)
  have HB2 := Lib.hid (HB'.out.drew.trans (hb2.mono HB'.out.size))
  clear hb2 PA' PB' F' M1 M2 HB' V1 V2 c0 d0 c1 d1 c2 d2 c3 d3 c4 d4 c5 d5 c6 d6 c7 d7 c8 d8 c9 d9 c10 d10 c11 d11 c12 d12
  go_wp2_with fail
  refine Go.RT.QK_normal _ _ _ _ (hK _ _ ?_ ?_) <;> clear hK K
  · repeat (first | exact Go.RT.again_nil | (refine Go.RT.again_not rfl rfl ?_) | (refine Go.RT.again_one rfl (by go_simp <;> rfl) ?_))
  repeat (first | (refine Go.RT.step_p rfl (fun K hK => ?_); go_simp; refine hK _ ?_; clear hK K) | (refine Go.RT.step_s rfl (fun K hK => ?_); go_simp; refine hK _ ?_; clear hK K))
  (refine Go.RT.step_w rfl rfl (fun K hK => ?_) Go.RT.step_stop)
  go_wp2_with fail
  refine (rmsgs_any _ _ _ r.out A4 A5 c4 c5 M12.out M22.out hro).mono ?_
  rintro e w3 ⟨rfl, hb3⟩
  have PA3 := Lib.hid (PA2.out.below hb3)
  have PB3 := Lib.hid (PB2.out.below hb3)
  have F3 := Lib.hid (F2.out.below hb3)
  have M13 := Lib.hid (M12.out.below hb3)
  have HB3 := Lib.hid (HB2.out.trans (hb3.mono HB2.out.size))
  clear hb3 PA2 PB2 F2 M12 M22 HB2
  go_wp2_with fail
  refine Go.RT.QK_normal _ _ _ _ (hK _ _ ?_ ?_) <;> clear hK K
  · repeat (first | exact Go.RT.again_nil | (refine Go.RT.again_not rfl rfl ?_) | (refine Go.RT.again_one rfl (by go_simp <;> rfl) ?_))
  repeat (first | (refine Go.RT.step_p rfl (fun K hK => ?_); go_simp; refine hK _ ?_; clear hK K) | (refine Go.RT.step_s rfl (fun K hK => ?_); go_simp; refine hK _ ?_; clear hK K))
  refine Go.RT.step_nil ?_
  go_upto_region 42 with (fail)
  have F4 := Lib.hid (F3.out.mono (ok' := (fun k => (k ≠ ba ∧ k ≠ bb) ∧ k < w3.heap.size)) (fun k hk hl => ⟨hk, hl⟩))
  have M4 := Lib.hid (M13.out.mono (ok' := (fun k => (k ≠ ba ∧ k ≠ bb) ∧ k < w3.heap.size)) (fun k hk hl => ⟨hk, hl⟩))
  have SBa := Lib.hid (show ba < w3.heap.size ∧ bb < w3.heap.size from ⟨PA3.out.lt, PB3.out.lt⟩)
  obtain ⟨fz, hfz⟩ : ∃ fz, fz = f' ++ r.out := ⟨_, rfl⟩
  have HFZ := Lib.hid hfz
  have HRO := Lib.hid hro
  clear F3 M13 hfz hro
  go_wp2_with (at_builtin; (refine append_fly _ rfl (.tmp 253) (.tmp 254) rfl rfl w3.heap.size _ [] none (fun k => (k ≠ ba ∧ k ≠ bb) ∧ k < w3.heap.size) rfl (FlyAt.nil _ _ _ _) _ f' rfl (F4.out.below ((Below.refl _ _).alloc (Nat.le_refl _) _)) (fun k hk e => by cases e) (by have := HFL.out; simp; omega) (by simp) f' rfl ?_))
  intro A6 c6 w5 ob5 hf5 kp5 hob5 hbl5
  have HF5 := Lib.hid (hf5.mono (ok' := (fun k => (k ≠ ba ∧ k ≠ bb) ∧ k < w3.heap.size)) (fun k hk _ => hk.1))
  have HB5 := Lib.hid (show Below w3.heap.size w3 w5 from ((Below.refl _ w3).alloc (Nat.le_refl _) _).trans hbl5)
  clear hf5 kp5 hob5 hbl5
  go_wp2_with (at_builtin; (refine append_fly _ rfl (.tmp 255) (.tmp 256) rfl rfl w3.heap.size _ _ ob5 (fun k => (k ≠ ba ∧ k ≠ bb) ∧ k < w3.heap.size) rfl HF5.out _ r.out rfl (M4.out.step (fun k hk hl => HB5.out.block k hl)) (fun k hk e => by have h1 := (HF5.out.lt k e).1; have h2 := hk.2; omega) (by have := HFL.out; have := HRO.out; omega) HB5.out.size fz HFZ.out ?_))
  intro A7 c7 w6 ob6 hf6 kp6 hob6 hbl6
  have HB6 := Lib.hid (HB5.out.trans hbl6)
  have F6 := Lib.hid (hf6.toV (ok' := (fun k => k ≠ ba ∧ k ≠ bb)) (fun k _ hk => ⟨by have := SBa.out; omega, by have := SBa.out; omega⟩) (fun k hk _ => hk.1.1))
  have PA6 := Lib.hid (PA3.out.below HB6.out)
  have PB6 := Lib.hid (PB3.out.below HB6.out)
  have HBw := Lib.hid (HB3.out.trans (HB6.out.mono HB3.out.size))
  clear hf6 kp6 hob6 hbl6 HF5 HB5 F4 M4 PA3 PB3 HB3 HB6
  have HLZ := Lib.hid (show fz.length ≤ 1001000 from by have h1 := HFZ.out; have := HFL.out; have := HRO.out; rw [h1, List.length_append]; omega)
  go_upto_region 43 with (fail)
  by_cases hgt : 40 < fz.length
  · have hgb : decide ((40 : Int) < (fz.length : Int)) = true := decide_eq_true (by omega)
    have hlz := HLZ.out
    have hsw : IntKind.i64.wrap ((fz.length : Int) - 40) = (fz.length : Int) - 40 := IntWalk.i64_in _ (by omega)
    have hs0 : (0 : Int) ≤ (fz.length : Int) - 40 := by omega
    have hs1 : (fz.length : Int) - 40 ≤ (fz.length : Int) := by omega
    have hsn : ((fz.length : Int) - 40).toNat = fz.length - 40 := by omega
    have FW := F6.out
    obtain ⟨cs1, rd1, mr1⟩ := FW
    obtain ⟨lq1, Ax1, cx1, ea, sl1, sl2, r1⟩ := rd1
    injection ea with ea1 el ea2
    clear el lq1
    subst ea2
    obtain ⟨bz, oz, e', _, _, _⟩ := r1 (by omega)
    obtain rfl := ea1.trans e'
    have HGT := Lib.hid hgt
    have SLZ := Lib.hid sl1
    clear r1 mr1 ea1 e' hlz hgt sl2
    have FF := Lib.hid (show MsgsV w6 (fun k => k ≠ ba ∧ k ≠ bb) (.slice (some ⟨bz, oz + (fz.length - 40) * 10, none⟩) (fz.length - (fz.length - 40)) (c7 - (fz.length - 40))) (fz.drop (fz.length - 40)) from by have h9 := F6.out.back (lo := fz.length - 40) (by omega) SLZ.out; rw [if_neg (by have := HGT.out; have := SLZ.out; omega), show Option.map (fun (x : Addr) => x.add ((fz.length - 40) * 10)) (some ⟨bz, oz, none⟩) = some ⟨bz, oz + (fz.length - 40) * 10, none⟩ from by simp [Addr.add_lit]] at h9; exact h9)
    go_wp2_with fail
    refine hR.out _ _ _ _ _ _ _ _ _ _ _ _ _ _ _ _ _ _ _ _ _ _ _ _ _ _ _ _ _ _ _ _ _ ?_
    have EP : s1 = ⟨s0.ns.set id' r.n, trim fz⟩ := by rw [HS1.out, HFZ.out]; rfl
    exact ⟨(some ⟨bz, oz + (fz.length - 40) * 10, none⟩), (c7 - (fz.length - 40)), by rw [EP]; exact (by show _ = Value.slice _ (fz.drop (fz.length - 40)).length _; rw [List.length_drop]), Lib.hid (by rw [EP]; exact PA6.out), Lib.hid (by rw [EP]; exact PB6.out), Lib.hid (by rw [EP]; exact by have h9 := FF.out; rw [show fz.length - (fz.length - 40) = (trim fz).length from by unfold trim; rw [List.length_drop]] at h9; exact h9), HBw⟩
  · have hgb : decide ((40 : Int) < (fz.length : Int)) = false := decide_eq_false (by omega)
    have HTR := Lib.hid (show trim fz = fz from by unfold trim; rw [show fz.length - 40 = 0 from by omega]; rfl)
    clear hgt
    go_wp2_with fail
    refine hR.out _ _ _ _ _ _ _ _ _ _ _ _ _ _ _ _ _ _ _ _ _ _ _ _ _ _ _ _ _ _ _ _ _ ?_
    have EP : s1 = ⟨s0.ns.set id' r.n, trim fz⟩ := by rw [HS1.out, HFZ.out]; rfl
    exact ⟨A7, c7, by rw [EP]; exact (by show Value.slice A7 fz.length c7 = Value.slice A7 (trim fz).length c7; rw [HTR.out]), Lib.hid (by rw [EP]; exact PA6.out), Lib.hid (by rw [EP]; exact PB6.out), Lib.hid (by rw [EP]; exact by show MsgsV _ _ (.slice A7 (trim fz).length c7) (trim fz); rw [HTR.out]; exact F6.out), HBw⟩

end Go.Proofs.Ytnkmljdkokcdjaa
