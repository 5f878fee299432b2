/-
  The law's switch: a message flies twice. Condition: the state may be walked.
-/
import Derived.WalkKit
import Derived.WalkSpells
import Derived.Lib.Hide
import Derived.Outline
import Derived.Test.YtnkmljdkokcdjaaChecked
import Derived.Test.YtnkmljdkokcdjaaMn
import Derived.Test.YtnkmljdkokcdjaaMem
import Derived.Test.YtnkmljdkokcdjaaFed
import Derived.Test.YtnkmljdkokcdjaaMg
import Derived.Test.YtnkmljdkokcdjaaRp6w
import Derived.Test.YtnkmljdkokcdjaaMh
import Derived.Test.YtnkmljdkokcdjaaRp5
import Derived.Test.YtnkmljdkokcdjaaRl1
import Derived.Test.YtnkmljdkokcdjaaRn6
import Derived.Test.YtnkmljdkokcdjaaRn11
import Derived.Test.YtnkmljdkokcdjaaMm
import Derived.Test.YtnkmljdkokcdjaaMj
import Derived.Test.YtnkmljdkokcdjaaRn12
import Derived.Deep.DeepCutAuto
import Derived.Deep.CutBlock
import Derived.Deep.OwnRows
import Derived.IntWalk
set_option linter.unusedVariables false
set_option linter.unusedSimpArgs false
namespace Go.Proofs.Ytnkmljdkokcdjaa
open Go.RowKit Fed
set_option linter.unusedVariables false
attribute [local go_sem high] Fed.max2_int Fed.min2_int

set_option maxRecDepth 100000 in
set_option maxHeartbeats 40000000 in
theorem sw_twice {Q : Exit → Act → World → Prop} (w wr : World) (size q id ba bb ca cb cf : Nat) (Af : Option Addr) (s0 s1 : PS) (c0 c1 c2 c3 c4 c5 c6 c7 c11 c12 c18 c19 c20 c21 c22 c23 c24 c25 c26 c27 c28 c29 c30 c31 c32 c33 c34 c35 c36 c37 c38 c39 c40 c41 c42 c43 c44 c45 c46 c47 c48 c49 c50 c51 c52 c53 c54 c55 c56 c57 c58 c59 c60 c61 c62 c63 c64 c65 c66 c67 c68 c69 c70 c71 c72 c73 c74 c75 c76 c77 c78 c79 c80 c81 c82 c83 c84 c85 c86 c87 c88 c89 c90 c91 c92 c93 c94 c95 c96 c97 c98 c99 c100 c101 c102 c103 c104 c105 c106 c107 c108 c109 c110 c111 c112 c113 c114 c115 c116 c117 c118 c119 c120 c121 c122 c123 c124 c125 c126 c127 c128 c129 c130 c131 c132 c133 c134 c135 c136 c137 c138 c139 c140 c141 c142 c143 c144 c145 c146 c147 c148 c149 c150 c151 c152 c153 c154 c155 c156 c157 c158 c159 c160 c161 c162 c163 c164 c165 c166 c167 c168 c169 c170 c171 c172 c173 c174 c175 c176 c177 c178 c179 c180 c181 c182 c183 c184 c185 c186 c187 c188 c189 c190 c191 c192 c193 c194 c195 c196 c197 c198 c199 c200 c201 c202 c203 c204 c205 c206 c207 c208 c209 c210 c211 c212 c213 c214 c215 c216 c217 c218 c219 c220 c221 c222 c223 c224 c225 c226 c227 c228 c229 c230 c231 c232 c233 c234 c235 c236 c237 c238 c239 c240 c241 c242 c243 c244 c245 c246 c247 c248 c249 c250 c251 c252 c253 c254 c255 c256 c257 c258 c259 c260 c261 c262 c263 c264 c265 c266 : Value) (h0 : 1 ≤ size) (h5 : size ≤ 5) (p4 : size ≤ ca) (p5 : ca ≤ maxLen) (r4 : size ≤ cb) (r5 : cb ≤ maxLen) (hq0 : 0 ≤ (q : Int)) (hq1 : (q : Int) < 1073741824) (hidl : id < size) (HID : Hid (id = q / 12 % size)) (HAB : Hid (ba ≠ bb)) (HBA : Hid (w.heap.size ≤ ba ∧ w.heap.size ≤ bb)) (HGI : Hid (Fed.Good size s0)) (HQ : Hid (s1 = pstep tickS handleS proposeS size q s0)) (PA : Hid (NodesAt wr (fun k => k ≠ ba ∧ k ≠ bb) ba s0.ns)) (PB : Hid (NodesAt wr (fun k => k ≠ ba ∧ k ≠ bb) bb s0.ns)) (F : Hid (MsgsV wr (fun k => k ≠ ba ∧ k ≠ bb) (.slice Af s0.f.length cf) s0.f)) (HB : Hid (Below w.heap.size w wr)) (k4 : ¬ q % 12 < 4) (k9 : ¬ q % 12 < 9) (k10 : q % 12 < 10)
    (hN : Hid (∀ (v6 v7 v10 v14 v15 v16 v18 v19 v20 v21 v22 v68 v69 v70 v71 v72 v73 v74 v75 v76 v77 v78 v79 v80 v81 v82 v83 v84 v85 v86 v87 v88 v89 v90 v91 v92 v93 v94 v95 v96 v97 v98 v99 v100 v101 v102 v103 v104 v105 v106 v107 v108 v109 v110 v111 v112 v113 v114 v115 v116 v117 v118 v119 v120 v121 v122 v123 v124 v125 v126 v127 v128 v129 v130 v131 v132 v133 v134 v135 v136 v137 v138 v139 v140 v141 v142 v143 v144 v145 v146 v147 v148 v149 v150 v151 v152 v153 v154 v155 v156 v157 v158 v159 v160 v161 v162 v163 v164 v165 v166 v167 v168 v169 v170 v171 v172 v173 v174 v175 v176 v177 v178 v179 v180 v181 v182 v183 v184 v185 v186 v187 v188 v189 v190 v191 v192 v193 v194 v195 v196 v197 v198 v199 v200 v201 v202 v203 v204 v205 v206 v207 v208 v209 v210 v211 v212 v213 v214 v215 v216 v217 v218 v219 v220 v221 v222 v223 v224 v225 v226 v227 v228 v229 v230 v231 v232 v233 v234 v235 v236 : Value) (wc : World), (∃ (f' : List Fed.Msg) (id' : Nat) (r : NS) (A3 : Option Addr) (c3 : Nat) (A4 : Option Addr) (c4 : Nat) (A5 : Option Addr) (c5 : Nat), v10 = .slice A3 f'.length c3 ∧ v14 = .int .i64 id' ∧ v15 = .slice A4 r.out.length c4 ∧ v16 = .slice A5 r.out.length c5 ∧ id' < size ∧ r.out.length ≤ 1000000 ∧ Hid (f'.length ≤ 1000) ∧ Hid (s1 = pfin ⟨s0.ns, f'⟩ id' r) ∧ Hid (NodesAt wc (fun k => k ≠ ba ∧ k ≠ bb) ba (s0.ns.set id' r.n)) ∧ Hid (NodesAt wc (fun k => k ≠ ba ∧ k ≠ bb) bb (s0.ns.set id' r.n)) ∧ Hid (MsgsV wc (fun k => k ≠ ba ∧ k ≠ bb) (.slice A3 f'.length c3) f') ∧ Hid (MsgsV wc (fun k => k ≠ ba ∧ k ≠ bb) (.slice A4 r.out.length c4) r.out) ∧ Hid (MsgsV wc (fun k => k ≠ ba ∧ k ≠ bb) (.slice A5 r.out.length c5) r.out) ∧ Hid (Below w.heap.size w wc)) → Q .normal ⟨#[c0, c1, c2, c3, c4, c5, v6, v7, .slice (some ⟨ba, 0, none⟩) size ca, .slice (some ⟨bb, 0, none⟩) size cb, v10, c11, c12, .int .i64 q, v14, v15, v16, .int .i64 ((q : Int) % 12), v18, v19, v20, v21, v22, c23, c24, c25, c26, c27, c28, c29, c30, c31, c32, c33, c34, c35, c36, c37, c38, c39, c40, c41, c42, c43, c44, c45, c46, c47, c48, c49, c50, c51, c52, c53, c54, c55, c56, c57, c58, c59, c60, c61, c62, c63, c64, c65, c66, c67, v68, v69, v70, v71, v72, v73, v74, v75, v76, v77, v78, v79, v80, v81, v82, v83, v84, v85, v86, v87, v88, v89, v90, v91, v92, v93, v94, v95, v96, v97, v98, v99, v100, v101, v102, v103, v104, v105, v106, v107, v108, v109, v110, v111, v112, v113, v114, v115, v116, v117, v118, v119, v120, v121, v122, v123, v124, v125, v126, v127, v128, v129, v130, v131, v132, v133, v134, v135, v136, v137, v138, v139, v140, v141, v142, v143, v144, v145, v146, v147, v148, v149, v150, v151, v152, v153, v154, v155, v156, v157, v158, v159, v160, v161, v162, v163, v164, v165, v166, v167, v168, v169, v170, v171, v172, v173, v174, v175, v176, v177, v178, v179, v180, v181, v182, v183, v184, v185, v186, v187, v188, v189, v190, v191, v192, v193, v194, v195, v196, v197, v198, v199, v200, v201, v202, v203, v204, v205, v206, v207, v208, v209, v210, v211, v212, v213, v214, v215, v216, v217, v218, v219, v220, v221, v222, v223, v224, v225, v226, v227, v228, v229, v230, v231, v232, v233, v234, v235, v236, c237, c238, c239, c240, c241, c242, c243, c244, c245, c246, c247, c248, c249, c250, c251, c252, c253, c254, c255, c256, c257, c258, c259, c260, c261, c262, c263, c264, c265, c266], []⟩ wc)) (hC : Hid (∀ (v6 v7 v10 v14 v15 v16 v18 v19 v20 v21 v22 v68 v69 v70 v71 v72 v73 v74 v75 v76 v77 v78 v79 v80 v81 v82 v83 v84 v85 v86 v87 v88 v89 v90 v91 v92 v93 v94 v95 v96 v97 v98 v99 v100 v101 v102 v103 v104 v105 v106 v107 v108 v109 v110 v111 v112 v113 v114 v115 v116 v117 v118 v119 v120 v121 v122 v123 v124 v125 v126 v127 v128 v129 v130 v131 v132 v133 v134 v135 v136 v137 v138 v139 v140 v141 v142 v143 v144 v145 v146 v147 v148 v149 v150 v151 v152 v153 v154 v155 v156 v157 v158 v159 v160 v161 v162 v163 v164 v165 v166 v167 v168 v169 v170 v171 v172 v173 v174 v175 v176 v177 v178 v179 v180 v181 v182 v183 v184 v185 v186 v187 v188 v189 v190 v191 v192 v193 v194 v195 v196 v197 v198 v199 v200 v201 v202 v203 v204 v205 v206 v207 v208 v209 v210 v211 v212 v213 v214 v215 v216 v217 v218 v219 v220 v221 v222 v223 v224 v225 v226 v227 v228 v229 v230 v231 v232 v233 v234 v235 v236 : Value) (wc : World), (∃ (A3 : Option Addr) (c3 : Nat), v10 = .slice A3 s1.f.length c3 ∧ Hid (NodesAt wc (fun k => k ≠ ba ∧ k ≠ bb) ba s1.ns) ∧ Hid (NodesAt wc (fun k => k ≠ ba ∧ k ≠ bb) bb s1.ns) ∧ Hid (MsgsV wc (fun k => k ≠ ba ∧ k ≠ bb) (.slice A3 s1.f.length c3) s1.f) ∧ Hid (Below w.heap.size w wc)) → Q (.exit 3) ⟨#[c0, c1, c2, c3, c4, c5, v6, v7, .slice (some ⟨ba, 0, none⟩) size ca, .slice (some ⟨bb, 0, none⟩) size cb, v10, c11, c12, .int .i64 q, v14, v15, v16, .int .i64 ((q : Int) % 12), v18, v19, v20, v21, v22, c23, c24, c25, c26, c27, c28, c29, c30, c31, c32, c33, c34, c35, c36, c37, c38, c39, c40, c41, c42, c43, c44, c45, c46, c47, c48, c49, c50, c51, c52, c53, c54, c55, c56, c57, c58, c59, c60, c61, c62, c63, c64, c65, c66, c67, v68, v69, v70, v71, v72, v73, v74, v75, v76, v77, v78, v79, v80, v81, v82, v83, v84, v85, v86, v87, v88, v89, v90, v91, v92, v93, v94, v95, v96, v97, v98, v99, v100, v101, v102, v103, v104, v105, v106, v107, v108, v109, v110, v111, v112, v113, v114, v115, v116, v117, v118, v119, v120, v121, v122, v123, v124, v125, v126, v127, v128, v129, v130, v131, v132, v133, v134, v135, v136, v137, v138, v139, v140, v141, v142, v143, v144, v145, v146, v147, v148, v149, v150, v151, v152, v153, v154, v155, v156, v157, v158, v159, v160, v161, v162, v163, v164, v165, v166, v167, v168, v169, v170, v171, v172, v173, v174, v175, v176, v177, v178, v179, v180, v181, v182, v183, v184, v185, v186, v187, v188, v189, v190, v191, v192, v193, v194, v195, v196, v197, v198, v199, v200, v201, v202, v203, v204, v205, v206, v207, v208, v209, v210, v211, v212, v213, v214, v215, v216, v217, v218, v219, v220, v221, v222, v223, v224, v225, v226, v227, v228, v229, v230, v231, v232, v233, v234, v235, v236, c237, c238, c239, c240, c241, c242, c243, c244, c245, c246, c247, c248, c249, c250, c251, c252, c253, c254, c255, c256, c257, c258, c259, c260, c261, c262, c263, c264, c265, c266], []⟩ wc)) : Code.wp Try.prog swBlk Q ⟨#[c0, c1, c2, c3, c4, c5, c6, c7, .slice (some ⟨ba, 0, none⟩) size ca, .slice (some ⟨bb, 0, none⟩) size cb, .slice Af s0.f.length cf, c11, c12, .int .i64 q, .int .i64 id, .slice none 0 0, .slice none 0 0, .int .i64 ((q : Int) % 12), c18, c19, c20, c21, c22, c23, c24, c25, c26, c27, c28, c29, c30, c31, c32, c33, c34, c35, c36, c37, c38, c39, c40, c41, c42, c43, c44, c45, c46, c47, c48, c49, c50, c51, c52, c53, c54, c55, c56, c57, c58, c59, c60, c61, c62, c63, c64, c65, c66, c67, c68, c69, c70, c71, c72, c73, c74, c75, c76, c77, c78, c79, c80, c81, c82, c83, c84, c85, c86, c87, c88, c89, c90, c91, c92, c93, c94, c95, c96, c97, c98, c99, c100, c101, c102, c103, c104, c105, c106, c107, c108, c109, c110, c111, c112, c113, c114, c115, c116, c117, c118, c119, c120, c121, c122, c123, c124, c125, c126, c127, c128, c129, c130, c131, c132, c133, c134, c135, c136, c137, c138, c139, c140, c141, c142, c143, c144, c145, c146, c147, c148, c149, c150, c151, c152, c153, c154, c155, c156, c157, c158, c159, c160, c161, c162, c163, c164, c165, c166, c167, c168, c169, c170, c171, c172, c173, c174, c175, c176, c177, c178, c179, c180, c181, c182, c183, c184, c185, c186, c187, c188, c189, c190, c191, c192, c193, c194, c195, c196, c197, c198, c199, c200, c201, c202, c203, c204, c205, c206, c207, c208, c209, c210, c211, c212, c213, c214, c215, c216, c217, c218, c219, c220, c221, c222, c223, c224, c225, c226, c227, c228, c229, c230, c231, c232, c233, c234, c235, c236, c237, c238, c239, c240, c241, c242, c243, c244, c245, c246, c247, c248, c249, c250, c251, c252, c253, c254, c255, c256, c257, c258, c259, c260, c261, c262, c263, c264, c265, c266], []⟩ wr := by
  conv => arg 2; whnf
  have k4b : decide ((q : Int) % 12 < 4) = false := decide_eq_false (by omega)
  have k9b : decide ((q : Int) % 12 < 9) = false := decide_eq_false (by omega)
  have k10b : decide ((q : Int) % 12 < 10) = true := decide_eq_true (by omega)
  have FLE := Lib.hid HGI.out.fl
  go_upto_region 31 with (fail)
  clear k4b k9b k10b
  by_cases f0 : 0 < s0.f.length
  · have f0b : decide ((0 : Int) < (s0.f.length : Int)) = true := decide_eq_true (by omega)
    have hf1 : 1 ≤ s0.f.length := f0
    obtain ⟨p, hp⟩ : ∃ p, p = q / 12 % s0.f.length := ⟨_, rfl⟩
    have hpl : p < s0.f.length := by rw [hp]; exact Nat.mod_lt _ f0
    obtain ⟨m, hm⟩ : ∃ m, s0.f[p]? = some m := ⟨_, List.getElem?_eq_getElem hpl⟩
    have hmd : s0.f.getD p noMsg = m := by rw [List.getD_eq_getElem?_getD, hm]; rfl
    obtain ⟨fz, hfz⟩ : ∃ fz, fz = s0.f ++ [m] := ⟨_, rfl⟩
    have HFZ := Lib.hid hfz
    have HQ1 := Lib.hid (show s1 = ⟨s0.ns, fz⟩ from by
      rw [hfz, HQ.out]; unfold pstep; rw [if_neg (by omega), if_neg (by omega), if_pos (by omega), if_pos f0, ← hp, hmd])
    have hqv : (IntKind.i64.wrap ((q : Int) / 12)).tmod (s0.f.length : Int) = (p : Int) := by rw [IntWalk.i64_in _ (by omega), Int.tmod_eq_emod_of_nonneg (by omega), hp, Int.natCast_emod, Int.natCast_ediv]; rfl
    clear HQ hmd k4 k9 k10 hp hfz
    have FV := F.out
    obtain ⟨cs1, rd1, mr1⟩ := FV
    obtain ⟨lq1, Ax1, cx1, ea, sl1, sl2, r1⟩ := rd1
    injection ea with ea1 el ea2
    clear el lq1
    subst ea2
    obtain ⟨bf, of, e', kf, bfl, g1⟩ := r1 (by omega)
    obtain ⟨ve1, rv1, gm1⟩ := mr1.get hm
    obtain ⟨Am, cm, rfl, _, _⟩ := rv1.slice
    have RV := Lib.hid (rv1.mono (ok' := (fun k => (k ≠ ba ∧ k ≠ bb) ∧ k < wr.heap.size)) (fun k hk hl => ⟨hk, hl⟩))
    have SL1 := Lib.hid sl1
    obtain rfl := ea1.trans e'
    clear r1 ea1 e' rv1 mr1 sl1 sl2 hm
    have x0 : wr.cell? ⟨bf, of + p * 10, none⟩ = some (.int .i64 m.kind) := g1 _ _ (gm1 0 _ rfl)
    have x1 : wr.cell? ⟨bf, of + p * 10 + 1, none⟩ = some (.int .i64 m.frm) := g1 _ _ (gm1 1 _ rfl)
    have x2 : wr.cell? ⟨bf, of + p * 10 + 2, none⟩ = some (.int .i64 m.to) := g1 _ _ (gm1 2 _ rfl)
    have x3 : wr.cell? ⟨bf, of + p * 10 + 3, none⟩ = some (.int .i64 m.term) := g1 _ _ (gm1 3 _ rfl)
    have x4 : wr.cell? ⟨bf, of + p * 10 + 4, none⟩ = some (.int .i64 m.index) := g1 _ _ (gm1 4 _ rfl)
    have x5 : wr.cell? ⟨bf, of + p * 10 + 5, none⟩ = some (.int .i64 m.logTerm) := g1 _ _ (gm1 5 _ rfl)
    have x6 : wr.cell? ⟨bf, of + p * 10 + 6, none⟩ = some (.bool m.ok) := g1 _ _ (gm1 6 _ rfl)
    have x7 : wr.cell? ⟨bf, of + p * 10 + 7, none⟩ = some (.slice Am m.entries.length cm) := g1 _ _ (gm1 7 _ rfl)
    have x8 : wr.cell? ⟨bf, of + p * 10 + 8, none⟩ = some (.int .i64 m.commit) := g1 _ _ (gm1 8 _ rfl)
    have x9 : wr.cell? ⟨bf, of + p * 10 + 9, none⟩ = some (.int .i64 m.form) := g1 _ _ (gm1 9 _ rfl)
    clear g1 gm1
    have FN := Lib.hid (F.out.mono (ok' := (fun k => (k ≠ ba ∧ k ≠ bb) ∧ k < wr.heap.size)) (fun k hk hl => ⟨hk, hl⟩))
    have NBW := Lib.hid (show ba < wr.heap.size ∧ bb < wr.heap.size from ⟨PA.out.lt, PB.out.lt⟩)
    have BFL := Lib.hid bfl
    go_upto_region 32 with (fail)
    clear f0b
    have hne1 : ¬ (s0.f.length : Int) = 0 := by omega
    have hne2 : ¬ s0.f.length = 0 := by omega
    have hne3 : ¬ s0.f = [] := fun c => by rw [c] at hf1; simp at hf1
    refine Go.RT.wp_region_tree [0, 0, 3, 0, 0, 16, 0, 64, 240, 504, 1016, 2040, 4095, 8191] (.p 1 (.p 3 (.p 4 (.p 5 (.p 6 (.p 7 (.p 8 (.p 9 (.s 10 (.w 0 [10] (.w 2 [10] (.w 11 [] (.w 12 [] (.w 13 [] .nil .stop) .stop) .stop) (.w 11 [] (.w 2 [10] (.w 12 [] (.w 13 [] .nil .stop) .stop) .stop) .stop)) (.w 11 [] (.w 0 [10] (.w 2 [10] (.w 12 [] (.w 13 [] .nil .stop) .stop) .stop) .stop) .stop))))))))))) (by as_aux_lemma => kernel_rfl) (by as_aux_lemma => kernel_rfl) ?_
    repeat (first | (refine Go.RT.step_p rfl (fun K hK => ?_); go_simp; refine hK _ ?_; clear hK K) | (refine Go.RT.step_s rfl (fun K hK => ?_); go_simp; refine hK _ ?_; clear hK K))
    (refine Go.RT.step_w rfl rfl (fun K hK => ?_) ?_)
    · repeat (first | go_values | go_skip | go_guarded | go_step | go_upon)
      refine Go.RT.QK_normal _ _ _ _ (hK _ _ ?_ ?_) <;> clear hK K
      · repeat (first | exact Go.RT.again_nil | (refine Go.RT.again_not rfl rfl ?_) | (refine Go.RT.again_one rfl (by go_simp <;> rfl) ?_))
      (refine Go.RT.step_w rfl rfl (fun K hK => ?_) ?_)
      · refine append_fly _ rfl (.tmp 184) (.tmp 185) rfl rfl wr.heap.size _ [] none (fun k => (k ≠ ba ∧ k ≠ bb) ∧ k < wr.heap.size) rfl (FlyAt.nil _ _ _ _) _ s0.f rfl (FN.out.step (fun k hk hl => Below.heap_alloc _ _ k hl)) (fun k hk e => by cases e) (by have := FLE.out; simp; omega) (by simp; try omega) s0.f rfl ?_
        intro A4 c4 w4 ob4 hf4 kp4 hob4 hbl4
        have HF4 := Lib.hid (hf4.mono (ok' := (fun k => (k ≠ ba ∧ k ≠ bb) ∧ k < wr.heap.size)) (fun k hk _ => hk.1))
        have HB4 := Lib.hid (show Below wr.heap.size wr w4 from Below.trans ((Below.refl _ wr).drew.alloc (Nat.le_refl _) _) hbl4)
        have y0 : w4.cell? ⟨bf, of + p * 10, none⟩ = some (.int .i64 m.kind) := (World.cell?_of_block (a := ⟨bf, of + p * 10, none⟩) (HB4.out.block bf BFL.out)).trans x0
        have y1 : w4.cell? ⟨bf, of + p * 10 + 1, none⟩ = some (.int .i64 m.frm) := (World.cell?_of_block (a := ⟨bf, of + p * 10 + 1, none⟩) (HB4.out.block bf BFL.out)).trans x1
        have y2 : w4.cell? ⟨bf, of + p * 10 + 2, none⟩ = some (.int .i64 m.to) := (World.cell?_of_block (a := ⟨bf, of + p * 10 + 2, none⟩) (HB4.out.block bf BFL.out)).trans x2
        have y3 : w4.cell? ⟨bf, of + p * 10 + 3, none⟩ = some (.int .i64 m.term) := (World.cell?_of_block (a := ⟨bf, of + p * 10 + 3, none⟩) (HB4.out.block bf BFL.out)).trans x3
        have y4 : w4.cell? ⟨bf, of + p * 10 + 4, none⟩ = some (.int .i64 m.index) := (World.cell?_of_block (a := ⟨bf, of + p * 10 + 4, none⟩) (HB4.out.block bf BFL.out)).trans x4
        have y5 : w4.cell? ⟨bf, of + p * 10 + 5, none⟩ = some (.int .i64 m.logTerm) := (World.cell?_of_block (a := ⟨bf, of + p * 10 + 5, none⟩) (HB4.out.block bf BFL.out)).trans x5
        have y6 : w4.cell? ⟨bf, of + p * 10 + 6, none⟩ = some (.bool m.ok) := (World.cell?_of_block (a := ⟨bf, of + p * 10 + 6, none⟩) (HB4.out.block bf BFL.out)).trans x6
        have y7 : w4.cell? ⟨bf, of + p * 10 + 7, none⟩ = some (.slice Am m.entries.length cm) := (World.cell?_of_block (a := ⟨bf, of + p * 10 + 7, none⟩) (HB4.out.block bf BFL.out)).trans x7
        have y8 : w4.cell? ⟨bf, of + p * 10 + 8, none⟩ = some (.int .i64 m.commit) := (World.cell?_of_block (a := ⟨bf, of + p * 10 + 8, none⟩) (HB4.out.block bf BFL.out)).trans x8
        have y9 : w4.cell? ⟨bf, of + p * 10 + 9, none⟩ = some (.int .i64 m.form) := (World.cell?_of_block (a := ⟨bf, of + p * 10 + 9, none⟩) (HB4.out.block bf BFL.out)).trans x9
        clear hf4 kp4 hob4 hbl4
        repeat (first | go_values | go_skip | go_guarded | go_step | go_upon)
        refine Go.RT.QK_normal _ _ _ _ (hK _ _ ?_ ?_) <;> clear hK K
        · repeat (first | exact Go.RT.again_nil | (refine Go.RT.again_not rfl rfl ?_) | (refine Go.RT.again_one rfl (by go_simp <;> rfl) ?_))
        (refine Go.RT.step_w rfl rfl (fun K hK => ?_) Go.RT.step_stop)
        repeat (first | go_values | go_skip | go_guarded | go_step | go_upon)
        refine Go.RT.QK_normal _ _ _ _ (hK _ _ ?_ ?_) <;> clear hK K
        · repeat (first | exact Go.RT.again_nil | (refine Go.RT.again_not rfl rfl ?_) | (refine Go.RT.again_one rfl (by go_simp <;> rfl) ?_))
        (refine Go.RT.step_w rfl rfl (fun K hK => ?_) Go.RT.step_stop)
        refine append_fly1 _ rfl (.tmp 186) (.tmp 195) rfl rfl wr.heap.size _ _ ob4 (fun k => (k ≠ ba ∧ k ≠ bb) ∧ k < wr.heap.size) rfl (HF4.out.below ((Below.refl _ _).alloc (Nat.le_refl _) _)) (w4.heap.size) m Am cm rfl (MM.alloc_new _ _) (RV.out.step (fun k hk hl => (Below.heap_alloc _ _ k (by have := HB4.out.size; omega)).trans (HB4.out.block k hl))) (fun k hk e => by have h1 := (HF4.out.lt k e).1; have h2 := hk.2; omega) (by have := FLE.out; omega) (by have := HB4.out.size; simp; omega) fz HFZ.out ?_
        intro A5 c5 w5 ob5 hf5 kp5 hob5 hbl5
        have HB5 := Lib.hid (show Below wr.heap.size wr w5 from (HB4.out.alloc HB4.out.size _).trans hbl5)
        have F5 := Lib.hid (hf5.toV (ok' := (fun k => k ≠ ba ∧ k ≠ bb)) (fun k _ hk => ⟨by have := NBW.out; omega, by have := NBW.out; omega⟩) (fun k hk _ => hk.1.1))
        have PA5 := Lib.hid (PA.out.below HB5.out)
        have PB5 := Lib.hid (PB.out.below HB5.out)
        have HBw := Lib.hid (HB.out.trans (HB5.out.mono HB.out.size))
        clear hf5 kp5 hob5 hbl5 HF4 HB4 NBW PA PB RV HB F FN HB5
        repeat (first | go_values | go_skip | go_guarded | go_step | go_upon)
        refine Go.RT.QK_normal _ _ _ _ (hK _ _ ?_ ?_) <;> clear hK K
        · repeat (first | exact Go.RT.again_nil | (refine Go.RT.again_not rfl rfl ?_) | (refine Go.RT.again_one rfl (by go_simp <;> rfl) ?_))
        (refine Go.RT.step_w rfl rfl (fun K hK => ?_) Go.RT.step_stop)
        repeat (first | go_values | go_skip | go_guarded | go_step | go_upon)
        refine Go.RT.QK_normal _ _ _ _ (hK _ _ ?_ ?_) <;> clear hK K
        · repeat (first | exact Go.RT.again_nil | (refine Go.RT.again_not rfl rfl ?_) | (refine Go.RT.again_one rfl (by go_simp <;> rfl) ?_))
        refine Go.RT.step_nil ?_
        repeat (first | go_values | go_skip | go_guarded | go_step | go_upon)
        go_wp2_with fail
        refine hC.out _ _ _ _ _ _ _ _ _ _ _ _ _ _ _ _ _ _ _ _ _ _ _ _ _ _ _ _ _ _ _ _ _ _ _ _ _ _ _ _ _ _ _ _ _ _ _ _ _ _ _ _ _ _ _ _ _ _ _ _ _ _ _ _ _ _ _ _ _ _ _ _ _ _ _ _ _ _ _ _ _ _ _ _ _ _ _ _ _ _ _ _ _ _ _ _ _ _ _ _ _ _ _ _ _ _ _ _ _ _ _ _ _ _ _ _ _ _ _ _ _ _ _ _ _ _ _ _ _ _ _ _ _ _ _ _ _ _ _ _ _ _ _ _ _ _ _ _ _ _ _ _ _ _ _ _ _ _ _ _ _ _ _ _ _ _ _ _ _ _ _ _ _ _ _ _ _ _ _ _ _ ?_
        have EP : s1 = ⟨s0.ns, fz⟩ := HQ1.out
        exact ⟨A5, c5, by rw [EP], Lib.hid (by rw [EP]; exact PA5.out), Lib.hid (by rw [EP]; exact PB5.out), Lib.hid (by rw [EP]; exact F5.out), HBw⟩
      (refine Go.RT.step_w rfl rfl (fun K hK => ?_) Go.RT.step_stop)
      repeat (first | go_values | go_skip | go_guarded | go_step | go_upon)
      refine Go.RT.QK_normal _ _ _ _ (hK _ _ ?_ ?_) <;> clear hK K
      · repeat (first | exact Go.RT.again_nil | (refine Go.RT.again_not rfl rfl ?_) | (refine Go.RT.again_one rfl (by go_simp <;> rfl) ?_))
      (refine Go.RT.step_w rfl rfl (fun K hK => ?_) Go.RT.step_stop)
      refine append_fly _ rfl (.tmp 184) (.tmp 185) rfl rfl wr.heap.size _ [] none (fun k => (k ≠ ba ∧ k ≠ bb) ∧ k < wr.heap.size) rfl (FlyAt.nil _ _ _ _) _ s0.f rfl (FN.out.step (fun k hk hl => by show ((wr.alloc _).alloc _).heap[k]? = _; exact (Below.heap_alloc _ _ k (by simp; omega)).trans (Below.heap_alloc _ _ k hl))) (fun k hk e => by cases e) (by have := FLE.out; simp; omega) (by simp; try omega) s0.f rfl ?_
      intro A4 c4 w4 ob4 hf4 kp4 hob4 hbl4
      have HF4 := Lib.hid (hf4.mono (ok' := (fun k => (k ≠ ba ∧ k ≠ bb) ∧ k < wr.heap.size)) (fun k hk _ => hk.1))
      have HB4 := Lib.hid (show Below wr.heap.size wr w4 from Below.trans (((Below.refl _ wr).drew.alloc (Nat.le_refl _) _).alloc (by simp) _) hbl4)
      have X4 := Lib.hid (show w4.heap[wr.heap.size + 1]? = some (.cells #[.int .i64 m.kind, .int .i64 m.frm, .int .i64 m.to, .int .i64 m.term, .int .i64 m.index, .int .i64 m.logTerm, .bool m.ok, .slice Am m.entries.length cm, .int .i64 m.commit, .int .i64 m.form] 34 (0, 0)) from (kp4 (wr.heap.size + 1) (by simp) (by simp)).trans (by show ((wr.alloc _).alloc _).heap[wr.heap.size + 1]? = _; exact MM.alloc_new1 _ _ _))
      have y0 : w4.cell? ⟨bf, of + p * 10, none⟩ = some (.int .i64 m.kind) := (World.cell?_of_block (a := ⟨bf, of + p * 10, none⟩) (HB4.out.block bf BFL.out)).trans x0
      have y1 : w4.cell? ⟨bf, of + p * 10 + 1, none⟩ = some (.int .i64 m.frm) := (World.cell?_of_block (a := ⟨bf, of + p * 10 + 1, none⟩) (HB4.out.block bf BFL.out)).trans x1
      have y2 : w4.cell? ⟨bf, of + p * 10 + 2, none⟩ = some (.int .i64 m.to) := (World.cell?_of_block (a := ⟨bf, of + p * 10 + 2, none⟩) (HB4.out.block bf BFL.out)).trans x2
      have y3 : w4.cell? ⟨bf, of + p * 10 + 3, none⟩ = some (.int .i64 m.term) := (World.cell?_of_block (a := ⟨bf, of + p * 10 + 3, none⟩) (HB4.out.block bf BFL.out)).trans x3
      have y4 : w4.cell? ⟨bf, of + p * 10 + 4, none⟩ = some (.int .i64 m.index) := (World.cell?_of_block (a := ⟨bf, of + p * 10 + 4, none⟩) (HB4.out.block bf BFL.out)).trans x4
      have y5 : w4.cell? ⟨bf, of + p * 10 + 5, none⟩ = some (.int .i64 m.logTerm) := (World.cell?_of_block (a := ⟨bf, of + p * 10 + 5, none⟩) (HB4.out.block bf BFL.out)).trans x5
      have y6 : w4.cell? ⟨bf, of + p * 10 + 6, none⟩ = some (.bool m.ok) := (World.cell?_of_block (a := ⟨bf, of + p * 10 + 6, none⟩) (HB4.out.block bf BFL.out)).trans x6
      have y7 : w4.cell? ⟨bf, of + p * 10 + 7, none⟩ = some (.slice Am m.entries.length cm) := (World.cell?_of_block (a := ⟨bf, of + p * 10 + 7, none⟩) (HB4.out.block bf BFL.out)).trans x7
      have y8 : w4.cell? ⟨bf, of + p * 10 + 8, none⟩ = some (.int .i64 m.commit) := (World.cell?_of_block (a := ⟨bf, of + p * 10 + 8, none⟩) (HB4.out.block bf BFL.out)).trans x8
      have y9 : w4.cell? ⟨bf, of + p * 10 + 9, none⟩ = some (.int .i64 m.form) := (World.cell?_of_block (a := ⟨bf, of + p * 10 + 9, none⟩) (HB4.out.block bf BFL.out)).trans x9
      clear hf4 kp4 hob4 hbl4
      repeat (first | go_values | go_skip | go_guarded | go_step | go_upon)
      refine Go.RT.QK_normal _ _ _ _ (hK _ _ ?_ ?_) <;> clear hK K
      · repeat (first | exact Go.RT.again_nil | (refine Go.RT.again_not rfl rfl ?_) | (refine Go.RT.again_one rfl (by go_simp <;> rfl) ?_))
      (refine Go.RT.step_w rfl rfl (fun K hK => ?_) Go.RT.step_stop)
      refine append_fly1 _ rfl (.tmp 186) (.tmp 195) rfl rfl wr.heap.size _ _ ob4 (fun k => (k ≠ ba ∧ k ≠ bb) ∧ k < wr.heap.size) rfl (HF4.out) (wr.heap.size + 1) m Am cm rfl (X4.out) (RV.out.step (fun k hk hl => HB4.out.block k hl)) (fun k hk e => by have h1 := (HF4.out.lt k e).1; have h2 := hk.2; omega) (by have := FLE.out; omega) (HB4.out.size) fz HFZ.out ?_
      intro A5 c5 w5 ob5 hf5 kp5 hob5 hbl5
      have HB5 := Lib.hid (show Below wr.heap.size wr w5 from HB4.out.trans hbl5)
      have F5 := Lib.hid (hf5.toV (ok' := (fun k => k ≠ ba ∧ k ≠ bb)) (fun k _ hk => ⟨by have := NBW.out; omega, by have := NBW.out; omega⟩) (fun k hk _ => hk.1.1))
      have PA5 := Lib.hid (PA.out.below HB5.out)
      have PB5 := Lib.hid (PB.out.below HB5.out)
      have HBw := Lib.hid (HB.out.trans (HB5.out.mono HB.out.size))
      clear hf5 kp5 hob5 hbl5 HF4 HB4 NBW PA PB RV HB F FN HB5
      repeat (first | go_values | go_skip | go_guarded | go_step | go_upon)
      refine Go.RT.QK_normal _ _ _ _ (hK _ _ ?_ ?_) <;> clear hK K
      · repeat (first | exact Go.RT.again_nil | (refine Go.RT.again_not rfl rfl ?_) | (refine Go.RT.again_one rfl (by go_simp <;> rfl) ?_))
      (refine Go.RT.step_w rfl rfl (fun K hK => ?_) Go.RT.step_stop)
      repeat (first | go_values | go_skip | go_guarded | go_step | go_upon)
      refine Go.RT.QK_normal _ _ _ _ (hK _ _ ?_ ?_) <;> clear hK K
      · repeat (first | exact Go.RT.again_nil | (refine Go.RT.again_not rfl rfl ?_) | (refine Go.RT.again_one rfl (by go_simp <;> rfl) ?_))
      refine Go.RT.step_nil ?_
      repeat (first | go_values | go_skip | go_guarded | go_step | go_upon)
      go_wp2_with fail
      refine hC.out _ _ _ _ _ _ _ _ _ _ _ _ _ _ _ _ _ _ _ _ _ _ _ _ _ _ _ _ _ _ _ _ _ _ _ _ _ _ _ _ _ _ _ _ _ _ _ _ _ _ _ _ _ _ _ _ _ _ _ _ _ _ _ _ _ _ _ _ _ _ _ _ _ _ _ _ _ _ _ _ _ _ _ _ _ _ _ _ _ _ _ _ _ _ _ _ _ _ _ _ _ _ _ _ _ _ _ _ _ _ _ _ _ _ _ _ _ _ _ _ _ _ _ _ _ _ _ _ _ _ _ _ _ _ _ _ _ _ _ _ _ _ _ _ _ _ _ _ _ _ _ _ _ _ _ _ _ _ _ _ _ _ _ _ _ _ _ _ _ _ _ _ _ _ _ _ _ _ _ _ _ ?_
      have EP : s1 = ⟨s0.ns, fz⟩ := HQ1.out
      exact ⟨A5, c5, by rw [EP], Lib.hid (by rw [EP]; exact PA5.out), Lib.hid (by rw [EP]; exact PB5.out), Lib.hid (by rw [EP]; exact F5.out), HBw⟩
    (refine Go.RT.step_w rfl rfl (fun K hK => ?_) Go.RT.step_stop)
    repeat (first | go_values | go_skip | go_guarded | go_step | go_upon)
    refine Go.RT.QK_normal _ _ _ _ (hK _ _ ?_ ?_) <;> clear hK K
    · repeat (first | exact Go.RT.again_nil | (refine Go.RT.again_not rfl rfl ?_) | (refine Go.RT.again_one rfl (by go_simp <;> rfl) ?_))
    (refine Go.RT.step_w rfl rfl (fun K hK => ?_) Go.RT.step_stop)
    repeat (first | go_values | go_skip | go_guarded | go_step | go_upon)
    refine Go.RT.QK_normal _ _ _ _ (hK _ _ ?_ ?_) <;> clear hK K
    · repeat (first | exact Go.RT.again_nil | (refine Go.RT.again_not rfl rfl ?_) | (refine Go.RT.again_one rfl (by go_simp <;> rfl) ?_))
    (refine Go.RT.step_w rfl rfl (fun K hK => ?_) Go.RT.step_stop)
    refine append_fly _ rfl (.tmp 184) (.tmp 185) rfl rfl wr.heap.size _ [] none (fun k => (k ≠ ba ∧ k ≠ bb) ∧ k < wr.heap.size) rfl (FlyAt.nil _ _ _ _) _ s0.f rfl (FN.out.step (fun k hk hl => by show ((wr.alloc _).alloc _).heap[k]? = _; exact (Below.heap_alloc _ _ k (by simp; omega)).trans (Below.heap_alloc _ _ k hl))) (fun k hk e => by cases e) (by have := FLE.out; simp; omega) (by simp; try omega) s0.f rfl ?_
    intro A4 c4 w4 ob4 hf4 kp4 hob4 hbl4
    have HF4 := Lib.hid (hf4.mono (ok' := (fun k => (k ≠ ba ∧ k ≠ bb) ∧ k < wr.heap.size)) (fun k hk _ => hk.1))
    have HB4 := Lib.hid (show Below wr.heap.size wr w4 from Below.trans (((Below.refl _ wr).drew.alloc (Nat.le_refl _) _).alloc (by simp) _) hbl4)
    have X4 := Lib.hid (show w4.heap[wr.heap.size]? = some (.cells #[.int .i64 m.kind, .int .i64 m.frm, .int .i64 m.to, .int .i64 m.term, .int .i64 m.index, .int .i64 m.logTerm, .bool m.ok, .slice Am m.entries.length cm, .int .i64 m.commit, .int .i64 m.form] 34 (0, 0)) from (kp4 wr.heap.size (by simp; omega) (by simp)).trans (by show ((wr.alloc _).alloc _).heap[wr.heap.size]? = _; exact (Below.heap_alloc _ _ _ (by simp)).trans (MM.alloc_new _ _)))
    have y0 : w4.cell? ⟨bf, of + p * 10, none⟩ = some (.int .i64 m.kind) := (World.cell?_of_block (a := ⟨bf, of + p * 10, none⟩) (HB4.out.block bf BFL.out)).trans x0
    have y1 : w4.cell? ⟨bf, of + p * 10 + 1, none⟩ = some (.int .i64 m.frm) := (World.cell?_of_block (a := ⟨bf, of + p * 10 + 1, none⟩) (HB4.out.block bf BFL.out)).trans x1
    have y2 : w4.cell? ⟨bf, of + p * 10 + 2, none⟩ = some (.int .i64 m.to) := (World.cell?_of_block (a := ⟨bf, of + p * 10 + 2, none⟩) (HB4.out.block bf BFL.out)).trans x2
    have y3 : w4.cell? ⟨bf, of + p * 10 + 3, none⟩ = some (.int .i64 m.term) := (World.cell?_of_block (a := ⟨bf, of + p * 10 + 3, none⟩) (HB4.out.block bf BFL.out)).trans x3
    have y4 : w4.cell? ⟨bf, of + p * 10 + 4, none⟩ = some (.int .i64 m.index) := (World.cell?_of_block (a := ⟨bf, of + p * 10 + 4, none⟩) (HB4.out.block bf BFL.out)).trans x4
    have y5 : w4.cell? ⟨bf, of + p * 10 + 5, none⟩ = some (.int .i64 m.logTerm) := (World.cell?_of_block (a := ⟨bf, of + p * 10 + 5, none⟩) (HB4.out.block bf BFL.out)).trans x5
    have y6 : w4.cell? ⟨bf, of + p * 10 + 6, none⟩ = some (.bool m.ok) := (World.cell?_of_block (a := ⟨bf, of + p * 10 + 6, none⟩) (HB4.out.block bf BFL.out)).trans x6
    have y7 : w4.cell? ⟨bf, of + p * 10 + 7, none⟩ = some (.slice Am m.entries.length cm) := (World.cell?_of_block (a := ⟨bf, of + p * 10 + 7, none⟩) (HB4.out.block bf BFL.out)).trans x7
    have y8 : w4.cell? ⟨bf, of + p * 10 + 8, none⟩ = some (.int .i64 m.commit) := (World.cell?_of_block (a := ⟨bf, of + p * 10 + 8, none⟩) (HB4.out.block bf BFL.out)).trans x8
    have y9 : w4.cell? ⟨bf, of + p * 10 + 9, none⟩ = some (.int .i64 m.form) := (World.cell?_of_block (a := ⟨bf, of + p * 10 + 9, none⟩) (HB4.out.block bf BFL.out)).trans x9
    clear hf4 kp4 hob4 hbl4
    repeat (first | go_values | go_skip | go_guarded | go_step | go_upon)
    refine Go.RT.QK_normal _ _ _ _ (hK _ _ ?_ ?_) <;> clear hK K
    · repeat (first | exact Go.RT.again_nil | (refine Go.RT.again_not rfl rfl ?_) | (refine Go.RT.again_one rfl (by go_simp <;> rfl) ?_))
    (refine Go.RT.step_w rfl rfl (fun K hK => ?_) Go.RT.step_stop)
    refine append_fly1 _ rfl (.tmp 186) (.tmp 195) rfl rfl wr.heap.size _ _ ob4 (fun k => (k ≠ ba ∧ k ≠ bb) ∧ k < wr.heap.size) rfl (HF4.out) (wr.heap.size) m Am cm rfl (X4.out) (RV.out.step (fun k hk hl => HB4.out.block k hl)) (fun k hk e => by have h1 := (HF4.out.lt k e).1; have h2 := hk.2; omega) (by have := FLE.out; omega) (HB4.out.size) fz HFZ.out ?_
    intro A5 c5 w5 ob5 hf5 kp5 hob5 hbl5
    have HB5 := Lib.hid (show Below wr.heap.size wr w5 from HB4.out.trans hbl5)
    have F5 := Lib.hid (hf5.toV (ok' := (fun k => k ≠ ba ∧ k ≠ bb)) (fun k _ hk => ⟨by have := NBW.out; omega, by have := NBW.out; omega⟩) (fun k hk _ => hk.1.1))
    have PA5 := Lib.hid (PA.out.below HB5.out)
    have PB5 := Lib.hid (PB.out.below HB5.out)
    have HBw := Lib.hid (HB.out.trans (HB5.out.mono HB.out.size))
    clear hf5 kp5 hob5 hbl5 HF4 HB4 NBW PA PB RV HB F FN HB5
    repeat (first | go_values | go_skip | go_guarded | go_step | go_upon)
    refine Go.RT.QK_normal _ _ _ _ (hK _ _ ?_ ?_) <;> clear hK K
    · repeat (first | exact Go.RT.again_nil | (refine Go.RT.again_not rfl rfl ?_) | (refine Go.RT.again_one rfl (by go_simp <;> rfl) ?_))
    (refine Go.RT.step_w rfl rfl (fun K hK => ?_) Go.RT.step_stop)
    repeat (first | go_values | go_skip | go_guarded | go_step | go_upon)
    refine Go.RT.QK_normal _ _ _ _ (hK _ _ ?_ ?_) <;> clear hK K
    · repeat (first | exact Go.RT.again_nil | (refine Go.RT.again_not rfl rfl ?_) | (refine Go.RT.again_one rfl (by go_simp <;> rfl) ?_))
    refine Go.RT.step_nil ?_
    repeat (first | go_values | go_skip | go_guarded | go_step | go_upon)
    go_wp2_with fail
    refine hC.out _ _ _ _ _ _ _ _ _ _ _ _ _ _ _ _ _ _ _ _ _ _ _ _ _ _ _ _ _ _ _ _ _ _ _ _ _ _ _ _ _ _ _ _ _ _ _ _ _ _ _ _ _ _ _ _ _ _ _ _ _ _ _ _ _ _ _ _ _ _ _ _ _ _ _ _ _ _ _ _ _ _ _ _ _ _ _ _ _ _ _ _ _ _ _ _ _ _ _ _ _ _ _ _ _ _ _ _ _ _ _ _ _ _ _ _ _ _ _ _ _ _ _ _ _ _ _ _ _ _ _ _ _ _ _ _ _ _ _ _ _ _ _ _ _ _ _ _ _ _ _ _ _ _ _ _ _ _ _ _ _ _ _ _ _ _ _ _ _ _ _ _ _ _ _ _ _ _ _ _ _ ?_
    have EP : s1 = ⟨s0.ns, fz⟩ := HQ1.out
    exact ⟨A5, c5, by rw [EP], Lib.hid (by rw [EP]; exact PA5.out), Lib.hid (by rw [EP]; exact PB5.out), Lib.hid (by rw [EP]; exact F5.out), HBw⟩
  · have f0b : decide ((0 : Int) < (s0.f.length : Int)) = false := decide_eq_false (by omega)
    have HQ1 := Lib.hid (show s1 = s0 from by rw [HQ.out]; unfold pstep; rw [if_neg (by omega), if_neg (by omega), if_pos (by omega), if_neg f0])
    clear HQ k4 k9 k10
    go_wp2_with fail
    refine hC.out _ _ _ _ _ _ _ _ _ _ _ _ _ _ _ _ _ _ _ _ _ _ _ _ _ _ _ _ _ _ _ _ _ _ _ _ _ _ _ _ _ _ _ _ _ _ _ _ _ _ _ _ _ _ _ _ _ _ _ _ _ _ _ _ _ _ _ _ _ _ _ _ _ _ _ _ _ _ _ _ _ _ _ _ _ _ _ _ _ _ _ _ _ _ _ _ _ _ _ _ _ _ _ _ _ _ _ _ _ _ _ _ _ _ _ _ _ _ _ _ _ _ _ _ _ _ _ _ _ _ _ _ _ _ _ _ _ _ _ _ _ _ _ _ _ _ _ _ _ _ _ _ _ _ _ _ _ _ _ _ _ _ _ _ _ _ _ _ _ _ _ _ _ _ _ _ _ _ _ _ _ ?_
    have EP : s1 = s0 := HQ1.out
    exact ⟨Af, cf, by rw [EP], Lib.hid (by rw [EP]; exact PA.out), Lib.hid (by rw [EP]; exact PB.out), Lib.hid (by rw [EP]; exact F.out), HB⟩

end Go.Proofs.Ytnkmljdkokcdjaa
