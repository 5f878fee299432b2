/-
  The law's switch: a message is handed. Condition: the state may be walked.
-/
import Derived.WalkKit
import Derived.WalkSpells
import Derived.Lib.Hide
import Derived.Outline
import Derived.Test.YtnkmljdkokcdjaaChecked
import Derived.Test.YtnkmljdkokcdjaaMn
import Derived.Test.YtnkmljdkokcdjaaMem
import Derived.Test.YtnkmljdkokcdjaaFed
import Derived.Test.YtnkmljdkokcdjaaMg
import Derived.Test.YtnkmljdkokcdjaaRp6w
import Derived.Test.YtnkmljdkokcdjaaMh
import Derived.Test.YtnkmljdkokcdjaaRp5
import Derived.Test.YtnkmljdkokcdjaaRl1
import Derived.Test.YtnkmljdkokcdjaaRn6
import Derived.Test.YtnkmljdkokcdjaaRn11
import Derived.Test.YtnkmljdkokcdjaaMm
import Derived.Test.YtnkmljdkokcdjaaMj
import Derived.Test.YtnkmljdkokcdjaaRn12
import Derived.Deep.DeepCutAuto
import Derived.Deep.CutBlock
import Derived.Deep.OwnRows
import Derived.IntWalk
set_option linter.unusedVariables false
set_option linter.unusedSimpArgs false
namespace Go.Proofs.Ytnkmljdkokcdjaa
open Go.RowKit Fed
set_option linter.unusedVariables false
attribute [local go_sem high] Fed.max2_int Fed.min2_int

set_option maxRecDepth 100000 in
set_option maxHeartbeats 40000000 in
theorem sw_hand {Q : Exit → Act → World → Prop} (w wr : World) (size q id ba bb ca cb cf : Nat) (Af : Option Addr) (s0 s1 : PS) (c0 c1 c2 c3 c4 c5 c6 c7 c11 c12 c18 c19 c20 c21 c22 c23 c24 c25 c26 c27 c28 c29 c30 c31 c32 c33 c34 c35 c36 c37 c38 c39 c40 c41 c42 c43 c44 c45 c46 c47 c48 c49 c50 c51 c52 c53 c54 c55 c56 c57 c58 c59 c60 c61 c62 c63 c64 c65 c66 c67 c68 c69 c70 c71 c72 c73 c74 c75 c76 c77 c78 c79 c80 c81 c82 c83 c84 c85 c86 c87 c88 c89 c90 c91 c92 c93 c94 c95 c96 c97 c98 c99 c100 c101 c102 c103 c104 c105 c106 c107 c108 c109 c110 c111 c112 c113 c114 c115 c116 c117 c118 c119 c120 c121 c122 c123 c124 c125 c126 c127 c128 c129 c130 c131 c132 c133 c134 c135 c136 c137 c138 c139 c140 c141 c142 c143 c144 c145 c146 c147 c148 c149 c150 c151 c152 c153 c154 c155 c156 c157 c158 c159 c160 c161 c162 c163 c164 c165 c166 c167 c168 c169 c170 c171 c172 c173 c174 c175 c176 c177 c178 c179 c180 c181 c182 c183 c184 c185 c186 c187 c188 c189 c190 c191 c192 c193 c194 c195 c196 c197 c198 c199 c200 c201 c202 c203 c204 c205 c206 c207 c208 c209 c210 c211 c212 c213 c214 c215 c216 c217 c218 c219 c220 c221 c222 c223 c224 c225 c226 c227 c228 c229 c230 c231 c232 c233 c234 c235 c236 c237 c238 c239 c240 c241 c242 c243 c244 c245 c246 c247 c248 c249 c250 c251 c252 c253 c254 c255 c256 c257 c258 c259 c260 c261 c262 c263 c264 c265 c266 : Value) (h0 : 1 ≤ size) (h5 : size ≤ 5) (p4 : size ≤ ca) (p5 : ca ≤ maxLen) (r4 : size ≤ cb) (r5 : cb ≤ maxLen) (hq0 : 0 ≤ (q : Int)) (hq1 : (q : Int) < 1073741824) (hidl : id < size) (HID : Hid (id = q / 12 % size)) (HAB : Hid (ba ≠ bb)) (HBA : Hid (w.heap.size ≤ ba ∧ w.heap.size ≤ bb)) (HGI : Hid (Fed.Good size s0)) (HQ : Hid (s1 = pstep tickS handleS proposeS size q s0)) (PA : Hid (NodesAt wr (fun k => k ≠ ba ∧ k ≠ bb) ba s0.ns)) (PB : Hid (NodesAt wr (fun k => k ≠ ba ∧ k ≠ bb) bb s0.ns)) (F : Hid (MsgsV wr (fun k => k ≠ ba ∧ k ≠ bb) (.slice Af s0.f.length cf) s0.f)) (HB : Hid (Below w.heap.size w wr)) (k4 : ¬ q % 12 < 4) (k9 : q % 12 < 9)
    (hN : Hid (∀ (v6 v7 v10 v14 v15 v16 v18 v19 v20 v21 v22 v68 v69 v70 v71 v72 v73 v74 v75 v76 v77 v78 v79 v80 v81 v82 v83 v84 v85 v86 v87 v88 v89 v90 v91 v92 v93 v94 v95 v96 v97 v98 v99 v100 v101 v102 v103 v104 v105 v106 v107 v108 v109 v110 v111 v112 v113 v114 v115 v116 v117 v118 v119 v120 v121 v122 v123 v124 v125 v126 v127 v128 v129 v130 v131 v132 v133 v134 v135 v136 v137 v138 v139 v140 v141 v142 v143 v144 v145 v146 v147 v148 v149 v150 v151 v152 v153 v154 v155 v156 v157 v158 v159 v160 v161 v162 v163 v164 v165 v166 v167 v168 v169 v170 v171 v172 v173 v174 v175 v176 v177 v178 v179 v180 v181 v182 v183 v184 v185 v186 v187 v188 v189 v190 v191 v192 v193 v194 v195 v196 v197 v198 v199 v200 v201 v202 v203 v204 v205 v206 v207 v208 v209 v210 v211 v212 v213 v214 v215 v216 v217 v218 v219 v220 v221 v222 v223 v224 v225 v226 v227 v228 v229 v230 v231 v232 v233 v234 v235 v236 : Value) (wc : World), (∃ (f' : List Fed.Msg) (id' : Nat) (r : NS) (A3 : Option Addr) (c3 : Nat) (A4 : Option Addr) (c4 : Nat) (A5 : Option Addr) (c5 : Nat), v10 = .slice A3 f'.length c3 ∧ v14 = .int .i64 id' ∧ v15 = .slice A4 r.out.length c4 ∧ v16 = .slice A5 r.out.length c5 ∧ id' < size ∧ r.out.length ≤ 1000000 ∧ Hid (f'.length ≤ 1000) ∧ Hid (s1 = pfin ⟨s0.ns, f'⟩ id' r) ∧ Hid (NodesAt wc (fun k => k ≠ ba ∧ k ≠ bb) ba (s0.ns.set id' r.n)) ∧ Hid (NodesAt wc (fun k => k ≠ ba ∧ k ≠ bb) bb (s0.ns.set id' r.n)) ∧ Hid (MsgsV wc (fun k => k ≠ ba ∧ k ≠ bb) (.slice A3 f'.length c3) f') ∧ Hid (MsgsV wc (fun k => k ≠ ba ∧ k ≠ bb) (.slice A4 r.out.length c4) r.out) ∧ Hid (MsgsV wc (fun k => k ≠ ba ∧ k ≠ bb) (.slice A5 r.out.length c5) r.out) ∧ Hid (Below w.heap.size w wc)) → Q .normal ⟨#[c0, c1, c2, c3, c4, c5, v6, v7, .slice (some ⟨ba, 0, none⟩) size ca, .slice (some ⟨bb, 0, none⟩) size cb, v10, c11, c12, .int .i64 q, v14, v15, v16, .int .i64 ((q : Int) % 12), v18, v19, v20, v21, v22, c23, c24, c25, c26, c27, c28, c29, c30, c31, c32, c33, c34, c35, c36, c37, c38, c39, c40, c41, c42, c43, c44, c45, c46, c47, c48, c49, c50, c51, c52, c53, c54, c55, c56, c57, c58, c59, c60, c61, c62, c63, c64, c65, c66, c67, v68, v69, v70, v71, v72, v73, v74, v75, v76, v77, v78, v79, v80, v81, v82, v83, v84, v85, v86, v87, v88, v89, v90, v91, v92, v93, v94, v95, v96, v97, v98, v99, v100, v101, v102, v103, v104, v105, v106, v107, v108, v109, v110, v111, v112, v113, v114, v115, v116, v117, v118, v119, v120, v121, v122, v123, v124, v125, v126, v127, v128, v129, v130, v131, v132, v133, v134, v135, v136, v137, v138, v139, v140, v141, v142, v143, v144, v145, v146, v147, v148, v149, v150, v151, v152, v153, v154, v155, v156, v157, v158, v159, v160, v161, v162, v163, v164, v165, v166, v167, v168, v169, v170, v171, v172, v173, v174, v175, v176, v177, v178, v179, v180, v181, v182, v183, v184, v185, v186, v187, v188, v189, v190, v191, v192, v193, v194, v195, v196, v197, v198, v199, v200, v201, v202, v203, v204, v205, v206, v207, v208, v209, v210, v211, v212, v213, v214, v215, v216, v217, v218, v219, v220, v221, v222, v223, v224, v225, v226, v227, v228, v229, v230, v231, v232, v233, v234, v235, v236, c237, c238, c239, c240, c241, c242, c243, c244, c245, c246, c247, c248, c249, c250, c251, c252, c253, c254, c255, c256, c257, c258, c259, c260, c261, c262, c263, c264, c265, c266], []⟩ wc)) (hC : Hid (∀ (v6 v7 v10 v14 v15 v16 v18 v19 v20 v21 v22 v68 v69 v70 v71 v72 v73 v74 v75 v76 v77 v78 v79 v80 v81 v82 v83 v84 v85 v86 v87 v88 v89 v90 v91 v92 v93 v94 v95 v96 v97 v98 v99 v100 v101 v102 v103 v104 v105 v106 v107 v108 v109 v110 v111 v112 v113 v114 v115 v116 v117 v118 v119 v120 v121 v122 v123 v124 v125 v126 v127 v128 v129 v130 v131 v132 v133 v134 v135 v136 v137 v138 v139 v140 v141 v142 v143 v144 v145 v146 v147 v148 v149 v150 v151 v152 v153 v154 v155 v156 v157 v158 v159 v160 v161 v162 v163 v164 v165 v166 v167 v168 v169 v170 v171 v172 v173 v174 v175 v176 v177 v178 v179 v180 v181 v182 v183 v184 v185 v186 v187 v188 v189 v190 v191 v192 v193 v194 v195 v196 v197 v198 v199 v200 v201 v202 v203 v204 v205 v206 v207 v208 v209 v210 v211 v212 v213 v214 v215 v216 v217 v218 v219 v220 v221 v222 v223 v224 v225 v226 v227 v228 v229 v230 v231 v232 v233 v234 v235 v236 : Value) (wc : World), (∃ (A3 : Option Addr) (c3 : Nat), v10 = .slice A3 s1.f.length c3 ∧ Hid (NodesAt wc (fun k => k ≠ ba ∧ k ≠ bb) ba s1.ns) ∧ Hid (NodesAt wc (fun k => k ≠ ba ∧ k ≠ bb) bb s1.ns) ∧ Hid (MsgsV wc (fun k => k ≠ ba ∧ k ≠ bb) (.slice A3 s1.f.length c3) s1.f) ∧ Hid (Below w.heap.size w wc)) → Q (.exit 3) ⟨#[c0, c1, c2, c3, c4, c5, v6, v7, .slice (some ⟨ba, 0, none⟩) size ca, .slice (some ⟨bb, 0, none⟩) size cb, v10, c11, c12, .int .i64 q, v14, v15, v16, .int .i64 ((q : Int) % 12), v18, v19, v20, v21, v22, c23, c24, c25, c26, c27, c28, c29, c30, c31, c32, c33, c34, c35, c36, c37, c38, c39, c40, c41, c42, c43, c44, c45, c46, c47, c48, c49, c50, c51, c52, c53, c54, c55, c56, c57, c58, c59, c60, c61, c62, c63, c64, c65, c66, c67, v68, v69, v70, v71, v72, v73, v74, v75, v76, v77, v78, v79, v80, v81, v82, v83, v84, v85, v86, v87, v88, v89, v90, v91, v92, v93, v94, v95, v96, v97, v98, v99, v100, v101, v102, v103, v104, v105, v106, v107, v108, v109, v110, v111, v112, v113, v114, v115, v116, v117, v118, v119, v120, v121, v122, v123, v124, v125, v126, v127, v128, v129, v130, v131, v132, v133, v134, v135, v136, v137, v138, v139, v140, v141, v142, v143, v144, v145, v146, v147, v148, v149, v150, v151, v152, v153, v154, v155, v156, v157, v158, v159, v160, v161, v162, v163, v164, v165, v166, v167, v168, v169, v170, v171, v172, v173, v174, v175, v176, v177, v178, v179, v180, v181, v182, v183, v184, v185, v186, v187, v188, v189, v190, v191, v192, v193, v194, v195, v196, v197, v198, v199, v200, v201, v202, v203, v204, v205, v206, v207, v208, v209, v210, v211, v212, v213, v214, v215, v216, v217, v218, v219, v220, v221, v222, v223, v224, v225, v226, v227, v228, v229, v230, v231, v232, v233, v234, v235, v236, c237, c238, c239, c240, c241, c242, c243, c244, c245, c246, c247, c248, c249, c250, c251, c252, c253, c254, c255, c256, c257, c258, c259, c260, c261, c262, c263, c264, c265, c266], []⟩ wc)) : Code.wp Try.prog swBlk Q ⟨#[c0, c1, c2, c3, c4, c5, c6, c7, .slice (some ⟨ba, 0, none⟩) size ca, .slice (some ⟨bb, 0, none⟩) size cb, .slice Af s0.f.length cf, c11, c12, .int .i64 q, .int .i64 id, .slice none 0 0, .slice none 0 0, .int .i64 ((q : Int) % 12), c18, c19, c20, c21, c22, c23, c24, c25, c26, c27, c28, c29, c30, c31, c32, c33, c34, c35, c36, c37, c38, c39, c40, c41, c42, c43, c44, c45, c46, c47, c48, c49, c50, c51, c52, c53, c54, c55, c56, c57, c58, c59, c60, c61, c62, c63, c64, c65, c66, c67, c68, c69, c70, c71, c72, c73, c74, c75, c76, c77, c78, c79, c80, c81, c82, c83, c84, c85, c86, c87, c88, c89, c90, c91, c92, c93, c94, c95, c96, c97, c98, c99, c100, c101, c102, c103, c104, c105, c106, c107, c108, c109, c110, c111, c112, c113, c114, c115, c116, c117, c118, c119, c120, c121, c122, c123, c124, c125, c126, c127, c128, c129, c130, c131, c132, c133, c134, c135, c136, c137, c138, c139, c140, c141, c142, c143, c144, c145, c146, c147, c148, c149, c150, c151, c152, c153, c154, c155, c156, c157, c158, c159, c160, c161, c162, c163, c164, c165, c166, c167, c168, c169, c170, c171, c172, c173, c174, c175, c176, c177, c178, c179, c180, c181, c182, c183, c184, c185, c186, c187, c188, c189, c190, c191, c192, c193, c194, c195, c196, c197, c198, c199, c200, c201, c202, c203, c204, c205, c206, c207, c208, c209, c210, c211, c212, c213, c214, c215, c216, c217, c218, c219, c220, c221, c222, c223, c224, c225, c226, c227, c228, c229, c230, c231, c232, c233, c234, c235, c236, c237, c238, c239, c240, c241, c242, c243, c244, c245, c246, c247, c248, c249, c250, c251, c252, c253, c254, c255, c256, c257, c258, c259, c260, c261, c262, c263, c264, c265, c266], []⟩ wr := by
  conv => arg 2; whnf
  have k4b : decide ((q : Int) % 12 < 4) = false := decide_eq_false (by omega)
  have k9b : decide ((q : Int) % 12 < 9) = true := decide_eq_true (by omega)
  by_cases f0 : s0.f.length = 0
  · have HQ1 := Lib.hid (show s1 = s0 from by rw [HQ.out]; unfold pstep; rw [if_neg (by omega), if_pos k9, if_pos f0])
    clear HQ
    have f0b : ((s0.f.length : Int) == 0) = true := by simp [f0]
    have HLS := Lib.hid f0
    clear k9 f0
    go_wp2_with fail
    refine hC.out _ _ _ _ _ _ _ _ _ _ _ _ _ _ _ _ _ _ _ _ _ _ _ _ _ _ _ _ _ _ _ _ _ _ _ _ _ _ _ _ _ _ _ _ _ _ _ _ _ _ _ _ _ _ _ _ _ _ _ _ _ _ _ _ _ _ _ _ _ _ _ _ _ _ _ _ _ _ _ _ _ _ _ _ _ _ _ _ _ _ _ _ _ _ _ _ _ _ _ _ _ _ _ _ _ _ _ _ _ _ _ _ _ _ _ _ _ _ _ _ _ _ _ _ _ _ _ _ _ _ _ _ _ _ _ _ _ _ _ _ _ _ _ _ _ _ _ _ _ _ _ _ _ _ _ _ _ _ _ _ _ _ _ _ _ _ _ _ _ _ _ _ _ _ _ _ _ _ _ _ _ ?_
    have EP : s1 = s0 := HQ1.out
    exact ⟨Af, cf, by rw [EP], Lib.hid (by rw [EP]; exact PA.out), Lib.hid (by rw [EP]; exact PB.out), Lib.hid (by rw [EP]; exact F.out), HB⟩
  · have f0b : ((s0.f.length : Int) == 0) = false := by simpa using f0
    obtain ⟨M, hM⟩ : ∃ M, M = min s0.f.length 4 := ⟨_, rfl⟩
    have hM1 : 1 ≤ M := by omega
    have hM4 : M ≤ 4 := by omega
    have hmn : mn (s0.f.length : Int) 4 = (M : Int) := by rw [mn_eq]; omega
    obtain ⟨p, hp⟩ : ∃ p, p = q / 12 % M := ⟨_, rfl⟩
    have hpl : p < s0.f.length := by
      have := Nat.mod_lt (q / 12) hM1
      omega
    obtain ⟨m, hm⟩ : ∃ m, s0.f[p]? = some m := ⟨_, List.getElem?_eq_getElem hpl⟩
    have hmd : s0.f.getD p noMsg = m := by rw [List.getD_eq_getElem?_getD, hm]; rfl
    have MG := Lib.hid (HGI.out.f m (List.mem_of_getElem? hm))
    obtain ⟨id', hid'⟩ : ∃ id' : Nat, m.to = (id' : Int) := ⟨m.to.toNat, by have := MG.out.t0; omega⟩
    have hidl' : id' < size := by have := MG.out.t1; omega
    have HQ1 := Lib.hid (show s1 = pfin ⟨s0.ns, s0.f.eraseIdx p⟩ id' (handleS (nodeAt s0 id') m) from by
      rw [HQ.out]; unfold pstep; rw [if_neg (by omega), if_pos k9, if_neg f0, ← hM, ← hp, hmd, hid']; rfl)
    have HFL := Lib.hid (HGI.out.fl)
    have HTO := Lib.hid hid'
    have HP := Lib.hid hp
    clear HQ hmd hM f0 k9 k4 hid'
    have FV := F.out
    obtain ⟨cs1, rd1, mr1⟩ := FV
    obtain ⟨lq1, Ax1, cx1, ea, sl1, sl2, r1⟩ := rd1
    injection ea with ea1 el ea2
    clear el lq1
    subst ea2
    obtain ⟨bf, of, e', kf, _, g1⟩ := r1 (by omega)
    obtain ⟨ve1, rv1, gm1⟩ := mr1.get hm
    obtain ⟨Am, cm, rfl, _, _⟩ := rv1.slice
    have RV := Lib.hid rv1
    have SL1 := Lib.hid sl1
    obtain rfl := ea1.trans e'
    clear r1 ea1 e' rv1 mr1 sl1 sl2 hm
    have x0 : wr.cell? ⟨bf, of + p * 10, none⟩ = some (.int .i64 m.kind) := g1 _ _ (gm1 0 _ rfl)
    have x1 : wr.cell? ⟨bf, of + p * 10 + 1, none⟩ = some (.int .i64 m.frm) := g1 _ _ (gm1 1 _ rfl)
    have x2 : wr.cell? ⟨bf, of + p * 10 + 2, none⟩ = some (.int .i64 m.to) := g1 _ _ (gm1 2 _ rfl)
    have x3 : wr.cell? ⟨bf, of + p * 10 + 3, none⟩ = some (.int .i64 m.term) := g1 _ _ (gm1 3 _ rfl)
    have x4 : wr.cell? ⟨bf, of + p * 10 + 4, none⟩ = some (.int .i64 m.index) := g1 _ _ (gm1 4 _ rfl)
    have x5 : wr.cell? ⟨bf, of + p * 10 + 5, none⟩ = some (.int .i64 m.logTerm) := g1 _ _ (gm1 5 _ rfl)
    have x6 : wr.cell? ⟨bf, of + p * 10 + 6, none⟩ = some (.bool m.ok) := g1 _ _ (gm1 6 _ rfl)
    have x7 : wr.cell? ⟨bf, of + p * 10 + 7, none⟩ = some (.slice Am m.entries.length cm) := g1 _ _ (gm1 7 _ rfl)
    have x8 : wr.cell? ⟨bf, of + p * 10 + 8, none⟩ = some (.int .i64 m.commit) := g1 _ _ (gm1 8 _ rfl)
    have x9 : wr.cell? ⟨bf, of + p * 10 + 9, none⟩ = some (.int .i64 m.form) := g1 _ _ (gm1 9 _ rfl)
    clear g1 gm1
    go_upto_region 24 with (fail)
    clear k4b k9b f0b
    go_upto_region 25 with (fail)
    rw [show (q : Int) / 12 % (M : Int) = ((p : Nat) : Int) from by rw [hp, Int.natCast_emod, Int.natCast_ediv]; rfl]
    clear hp
    have NBM := Lib.hid (show wr.heap.size ≠ ba ∧ wr.heap.size ≠ bb from ⟨by have := PA.out.lt; omega, by have := PB.out.lt; omega⟩)
    go_upto_region 26 with (fail)
    refine name_world (F := fun W => Hid (NodesAt W (fun k => k ≠ ba ∧ k ≠ bb) ba s0.ns) ∧ Hid (NodesAt W (fun k => k ≠ ba ∧ k ≠ bb) bb s0.ns) ∧ Hid (MsgsV W (fun k => k ≠ ba ∧ k ≠ bb) (.slice (some ⟨bf, of, none⟩) s0.f.length cf) s0.f) ∧ Hid (MM.Rd W (fun k => k ≠ ba ∧ k ≠ bb) 2 (.slice Am m.entries.length cm) m.entries.length (entsC m.entries)) ∧ Hid (W.heap[wr.heap.size]? = some (.cells #[.int .i64 m.kind, .int .i64 m.frm, .int .i64 m.to, .int .i64 m.term, .int .i64 m.index, .int .i64 m.logTerm, .bool m.ok, .slice Am m.entries.length cm, .int .i64 m.commit, .int .i64 m.form] 34 (0, 0))) ∧ Hid (Below w.heap.size w W)) _ (by exact ⟨Lib.hid (PA.out.below ((Below.refl _ _).alloc (Nat.le_refl _) _)), Lib.hid (PB.out.below ((Below.refl _ _).alloc (Nat.le_refl _) _)), Lib.hid (F.out.below ((Below.refl _ _).alloc (Nat.le_refl _) _)), Lib.hid (RV.out.alloc _), Lib.hid (MM.alloc_new _ _), Lib.hid (HB.out.alloc HB.out.size _)⟩) ?_
    clear PA PB F RV HB x0 x1 x2 x3 x4 x5 x6 x7 x8 x9
    intro wm ⟨PA, PB, F, RV, X, HB⟩
    have FN := Lib.hid (F.out.mono (ok' := (fun k => (k ≠ ba ∧ k ≠ bb) ∧ k < wm.heap.size)) (fun k hk hl => ⟨hk, hl⟩))
    have hpc : p ≤ cf := by have := SL1.out; omega
    have hpl1 : p + 1 ≤ s0.f.length := hpl
    have hpc2 : p + 1 ≤ cf := by have := SL1.out; omega
    have hfl9 : s0.f.length ≤ 1000 := HFL.out
    have hpw : IntKind.i64.wrap ((p : Int) + 1) = (p : Int) + 1 := IntWalk.i64_in _ (by omega)
    clear hfl9
    have hpi : (p : Int) + 1 ≤ (s0.f.length : Int) := by omega
    have hp0 : (0 : Int) ≤ (p : Int) + 1 := by omega
    have hpn : ((p : Int) + 1).toNat = p + 1 := rfl
    have hlc : s0.f.length ≤ cf := SL1.out
    refine Go.RT.wp_region_tree [0, 0, 0, 6, 15, 0, 0, 64, 224, 511, 1023] (.p 1 (.p 2 (.p 3 (.p 5 (.p 6 (.p 7 (.p 8 (.w 0 [] (.w 4 [] (.w 9 [] (.w 10 [] .nil .stop) .stop) .stop) .stop)))))))) (by as_aux_lemma => kernel_rfl) (by as_aux_lemma => kernel_rfl) ?_
    repeat (first | (refine Go.RT.step_p rfl (fun K hK => ?_); go_simp; refine hK _ ?_; clear hK K) | (refine Go.RT.step_s rfl (fun K hK => ?_); go_simp; refine hK _ ?_; clear hK K))
    (refine Go.RT.step_w rfl rfl (fun K hK => ?_) Go.RT.step_stop)
    have HPL := Lib.hid hpl
    clear hpl hpw hpi hp0 hpn hpl1 hpc hpc2 hlc hmn hM1 hM4
    repeat (first | go_values | go_skip | go_guarded | go_step | go_upon)
    refine Go.RT.QK_normal _ _ _ _ (hK _ _ ?_ ?_) <;> clear hK K
    · repeat (first | exact Go.RT.again_nil | (refine Go.RT.again_not rfl rfl ?_) | (refine Go.RT.again_one rfl (by go_simp <;> rfl) ?_))
    (refine Go.RT.step_w rfl rfl (fun K hK => ?_) Go.RT.step_stop)
    refine append_fly _ rfl (.tmp 142) (.tmp 145) rfl rfl wm.heap.size _ [] none (fun k => (k ≠ ba ∧ k ≠ bb) ∧ k < wm.heap.size) rfl (FlyAt.nil _ _ _ _) _ (s0.f.take p) rfl (by exact MsgsV.front (FN.out.step (fun k hk hl => Below.heap_alloc _ _ k hl)) (by have := HPL.out; omega) (by have := HPL.out; have := SL1.out; omega) (by omega)) (fun k hk e => by cases e) (by rw [List.length_take]; simp; have := HFL.out; omega) (by simp) (s0.f.take p) rfl ?_
    intro A4 c4 w4 ob4 hf4 kp4 hob4 hbl4
    have HF4 := Lib.hid (hf4.mono (ok' := (fun k => (k ≠ ba ∧ k ≠ bb) ∧ k < wm.heap.size)) (fun k hk _ => hk.1))
    have HB4 := Lib.hid (show Below wm.heap.size wm w4 from ((Below.refl _ wm).drew.alloc (Nat.le_refl _) _).trans hbl4)
    clear hf4 kp4 hob4 hbl4
    repeat (first | go_values | go_skip | go_guarded | go_step | go_upon)
    refine Go.RT.QK_normal _ _ _ _ (hK _ _ ?_ ?_) <;> clear hK K
    · repeat (first | exact Go.RT.again_nil | (refine Go.RT.again_not rfl rfl ?_) | (refine Go.RT.again_one rfl (by go_simp <;> rfl) ?_))
    (refine Go.RT.step_w rfl rfl (fun K hK => ?_) Go.RT.step_stop)
    refine append_fly _ rfl (.tmp 146) (.tmp 150) rfl rfl wm.heap.size _ _ ob4 (fun k => (k ≠ ba ∧ k ≠ bb) ∧ k < wm.heap.size) rfl HF4.out _ (s0.f.drop (p + 1)) rfl (by have h9 := MsgsV.back (FN.out.step (fun k hk hl => HB4.out.block k hl)) (lo := p + 1) HPL.out SL1.out; exact h9) (fun k hk e => by have h1 := (HF4.out.lt k e).1; have h2 := hk.2; omega) (by rw [List.length_take, List.length_drop]; have := HFL.out; omega) HB4.out.size (s0.f.eraseIdx p) (List.eraseIdx_eq_take_drop_succ _ _) ?_
    intro A5 c5 w5 ob5 hf5 kp5 hob5 hbl5
    have HB5 := Lib.hid (HB4.out.trans hbl5)
    have NBW := Lib.hid (show ba < wm.heap.size ∧ bb < wm.heap.size from ⟨PA.out.lt, PB.out.lt⟩)
    have F5 := Lib.hid (hf5.toV (ok' := (fun k => k ≠ ba ∧ k ≠ bb)) (fun k _ hk => ⟨by have := NBW.out; omega, by have := NBW.out; omega⟩) (fun k hk _ => hk.1.1))
    have PA5 := Lib.hid (PA.out.below HB5.out)
    have PB5 := Lib.hid (PB.out.below HB5.out)
    have RV5 := Lib.hid (RV.out.below HB5.out)
    have X5 := Lib.hid ((HB5.out.block _ (MM.blk_lt X.out)).trans X.out)
    have HBw := Lib.hid (HB.out.trans (HB5.out.mono HB.out.size))
    clear hf5 kp5 hob5 hbl5 HF4 HB4 NBW PA PB RV X HB F FN
    repeat (first | go_values | go_skip | go_guarded | go_step | go_upon)
    refine Go.RT.QK_normal _ _ _ _ (hK _ _ ?_ ?_) <;> clear hK K
    · repeat (first | exact Go.RT.again_nil | (refine Go.RT.again_not rfl rfl ?_) | (refine Go.RT.again_one rfl (by go_simp <;> rfl) ?_))
    (refine Go.RT.step_w rfl rfl (fun K hK => ?_) Go.RT.step_stop)
    repeat (first | go_values | go_skip | go_guarded | go_step | go_upon)
    refine Go.RT.QK_normal _ _ _ _ (hK _ _ ?_ ?_) <;> clear hK K
    · repeat (first | exact Go.RT.again_nil | (refine Go.RT.again_not rfl rfl ?_) | (refine Go.RT.again_one rfl (by go_simp <;> rfl) ?_))
    refine Go.RT.step_nil ?_
    have PA := PA5
    have PB := PB5
    have RV := RV5
    have X := X5
    have HB := HBw
    have F := F5
    clear PA5 PB5 RV5 X5 HBw F5 HB5
    have hidl := hidl'
    have d2 : w5.cell? ⟨wr.heap.size, 2, none⟩ = some (.int .i64 m.to) := MM.cell_blk X.out rfl
    go_upto_region 28 with (fail)
    rw [HTO.out]
    clear d2
    obtain ⟨n, hn⟩ : ∃ n, s0.ns[id']? = some n := ⟨_, List.getElem?_eq_getElem (by rw [HGI.out.len]; exact hidl)⟩
    have HNA := Lib.hid (show nodeAt s0 id' = n from by unfold nodeAt; rw [List.getD_eq_getElem?_getD, hn]; rfl)
    have G := Lib.hid (HGI.out.ns n (List.mem_of_getElem? hn))
    obtain ⟨σ, v1, hc1⟩ := PA.out.at_ id' n hn
    obtain ⟨τ, v2, hc2⟩ := PB.out.at_ id' n hn
    have V1 := Lib.hid v1
    have V2 := Lib.hid v2
    have HC2 := Lib.hid hc2
    obtain ⟨c0, c1, c2, c3, c4, c5, c6, c7, c8, c9, c10, c11, c12⟩ := cellsL hc1
    clear v1 v2 hc1 hc2 hn
    obtain ⟨d0, d1, d2, d3, d4, d5, d6, d7, d8, d9⟩ := MM.cells10 X.out
    refine Go.RT.wp_region_tree [0, 0, 0, 0, 12, 28, 0, 124, 252, 508, 508, 1023, 3071, 8191] (.p 0 (.p 1 (.p 2 (.p 3 (.p 4 (.s 5 (.s 6 (.w 7 [] (.p 8 (.p 9 (.p 10 (.p 11 (.w 12 [] (.w 13 [] .nil .stop) .stop))))) .stop)))))))) (by as_aux_lemma => kernel_rfl) (by as_aux_lemma => kernel_rfl) ?_
    repeat (first | (refine Go.RT.step_p rfl (fun K hK => ?_); go_simp; refine hK _ ?_; clear hK K) | (refine Go.RT.step_s rfl (fun K hK => ?_); go_simp; refine hK _ ?_; clear hK K))
    (refine Go.RT.step_w rfl rfl (fun K hK => ?_) Go.RT.step_stop)
    repeat (first | go_values | go_skip | go_guarded | go_step | go_upon)
    have gx := G.out
    refine (handle_c _ _ n σ (V1.out.step (w1 := w5.drew) (fun _ _ _ => rfl)) m Am cm _ RV.out.drew (by have := gx.l; omega) (by rw [gx.v]; omega) (by rw [gx.x, gx.v]) (by rw [gx.m, gx.v]) (by rw [gx.f, gx.v]) MG.out.e (by have := gx.c0; omega) (by have := gx.c1; omega) gx.cm ⟨MG.out.i0, MG.out.i1⟩ (fun i hi => gx.hx i (by rw [← gx.x]; exact hi)) (fun i hi => gx.hy i (by rw [← gx.m]; exact hi))).mono ?_
    rintro e w2 ⟨τ1, Ao, ko, rfl, hn2, hm2, hb2⟩
    clear gx
    have PA2 := Lib.hid (PA.out.drew.below hb2)
    have PB2 := Lib.hid (PB.out.drew.below hb2)
    have F2 := Lib.hid ((F.out.step (w1 := w5.drew) (fun _ _ _ => rfl)).below hb2)
    have HB2 := Lib.hid (HB.out.drew.trans (hb2.mono HB.out.size))
    have HN2 := Lib.hid (hn2.mono (ok' := (fun k => k ≠ ba ∧ k ≠ bb)) (fun k hk _ => ⟨fun e => by have h9 : w5.heap.size ≤ k := hk; have := PA.out.lt; omega, fun e => by have h9 : w5.heap.size ≤ k := hk; have := PB.out.lt; omega⟩))
    have HM2 := Lib.hid (hm2.mono (ok' := (fun k => k ≠ ba ∧ k ≠ bb)) (fun k hk _ => ⟨fun e => by have h9 : w5.heap.size ≤ k := hk; have := PA.out.lt; omega, fun e => by have h9 : w5.heap.size ≤ k := hk; have := PB.out.lt; omega⟩))
    have V22 := Lib.hid ((V2.out.step (w1 := w5.drew) (fun _ _ _ => rfl)).below hb2)
    have hil : id' < s0.ns.length := by rw [HGI.out.len]; exact hidl
    have HC3 := Lib.hid (show ∀ (j : Nat) (u : Value), (nodeL n τ)[j]? = some u → w2.cell? ⟨bb, id' * 13 + j, none⟩ = some u from fun j u hj => (World.cell?_of_block (a := ⟨bb, id' * 13 + j, none⟩) (hb2.block bb PB.out.lt)).trans (HC2.out j u hj))
    have X2 := Lib.hid ((hb2.block _ (MM.blk_lt X.out)).trans X.out)
    have RV2 := Lib.hid ((RV.out.drew).below hb2)
    obtain ⟨ca0, ca1, ca2, ca3, ca4, ca5, ca6, ca7, ca8, ca9, ca10, ca11, ca12⟩ := moved13 (hb2.block ba PA.out.lt) c0 c1 c2 c3 c4 c5 c6 c7 c8 c9 c10 c11 c12
    obtain ⟨cf0, cf1, cf2, cf3, cf4, cf5, cf6, cf7, cf8, cf9, cf10, cf11, cf12⟩ := frozen13 PA2.out.free (id' * 13)
    clear hb2 hn2 hm2 c0 c1 c2 c3 c4 c5 c6 c7 c8 c9 c10 c11 c12
    clear d0 d1 d2 d3 d4 d5 d6 d7 d8 d9
    dsimp only
    repeat (first | go_values | go_skip | go_guarded | go_step | go_upon)
    refine Go.RT.QK_normal _ _ _ _ (hK _ _ ?_ ?_) <;> clear hK K
    · repeat (first | exact Go.RT.again_nil | (refine Go.RT.again_not rfl rfl ?_) | (refine Go.RT.again_one rfl (by go_simp <;> rfl) ?_))
    repeat (first | (refine Go.RT.step_p rfl (fun K hK => ?_); go_simp; refine hK _ ?_; clear hK K) | (refine Go.RT.step_s rfl (fun K hK => ?_); go_simp; refine hK _ ?_; clear hK K))
    (refine Go.RT.step_w rfl rfl (fun K hK => ?_) Go.RT.step_stop)
    repeat (first | go_values | go_skip | go_guarded | go_step | go_upon)
    refine Go.RT.QK_normal _ _ _ _ (hK _ _ ?_ ?_) <;> clear hK K
    · repeat (first | exact Go.RT.again_nil | (refine Go.RT.again_not rfl rfl ?_) | (refine Go.RT.again_one rfl (by go_simp <;> rfl) ?_))
    (refine Go.RT.step_w rfl rfl (fun K hK => ?_) Go.RT.step_stop)
    repeat (first | go_values | go_skip | go_guarded | go_step | go_upon)
    refine Go.RT.QK_normal _ _ _ _ (hK _ _ ?_ ?_) <;> clear hK K
    · repeat (first | exact Go.RT.again_nil | (refine Go.RT.again_not rfl rfl ?_) | (refine Go.RT.again_one rfl (by go_simp <;> rfl) ?_))
    refine Go.RT.step_nil ?_
    go_upto_region 29 with (fail)
    refine name_world (F := fun W => Hid (NodesAt W (fun k => k ≠ ba ∧ k ≠ bb) ba (s0.ns.set id' (handleS n m).n)) ∧ Hid (NodesAt W (fun k => k ≠ ba ∧ k ≠ bb) bb s0.ns) ∧ Hid (MsgsV W (fun k => k ≠ ba ∧ k ≠ bb) (.slice A5 (s0.f.eraseIdx p).length c5) (s0.f.eraseIdx p)) ∧ Hid (MsgsV W (fun k => k ≠ ba ∧ k ≠ bb) (.slice Ao (handleS n m).out.length ko) (handleS n m).out) ∧ Hid (Below w.heap.size w W) ∧ Hid (NodeVs W (fun k => k ≠ ba ∧ k ≠ bb) n τ) ∧ Hid (∀ (j : Nat) (u : Value), (nodeL n τ)[j]? = some u → W.cell? ⟨bb, id' * 13 + j, none⟩ = some u) ∧ Hid (W.heap[wr.heap.size]? = some (.cells #[.int .i64 m.kind, .int .i64 m.frm, .int .i64 m.to, .int .i64 m.term, .int .i64 m.index, .int .i64 m.logTerm, .bool m.ok, .slice Am m.entries.length cm, .int .i64 m.commit, .int .i64 m.form] 34 (0, 0))) ∧ Hid (MM.Rd W (fun k => k ≠ ba ∧ k ≠ bb) 2 (.slice Am m.entries.length cm) m.entries.length (entsC m.entries))) _ (by exact ⟨Lib.hid (PA2.out.set13 hil HN2.out), Lib.hid (PB2.out.step (far13o (Ne.symm HAB.out)) (fun k hk _ => far13o hk.1)), Lib.hid (F2.out.step (fun k hk _ => far13o hk.1)), Lib.hid (HM2.out.step (fun k hk _ => far13o hk.1)), Lib.hid (below13o HB2.out HBA.out.1), Lib.hid (V22.out.step (fun k hk _ => far13o hk.1)), Lib.hid (fun j u hj => (World.cell?_of_block (a := ⟨bb, id' * 13 + j, none⟩) (far13o (Ne.symm HAB.out))).trans (HC3.out j u hj)), Lib.hid ((far13o NBM.out.1).trans X2.out), Lib.hid (RV2.out.step (fun k hk _ => far13o hk.1))⟩) ?_
    clear PA PB F HB HN2 V2 V22 V1 HC2 HC3 PA2 PB2 F2 HB2 HM2 X X2 RV RV2 ca0 cf0 ca1 cf1 ca2 cf2 ca3 cf3 ca4 cf4 ca5 cf5 ca6 cf6 ca7 cf7 ca8 cf8 ca9 cf9 ca10 cf10 ca11 cf11 ca12 cf12
    intro w3 ⟨PA, PB, F, M1, HB, V2, HC2, X, RV⟩
    obtain ⟨c0, c1, c2, c3, c4, c5, c6, c7, c8, c9, c10, c11, c12⟩ := cellsL HC2.out
    obtain ⟨d0, d1, d2, d3, d4, d5, d6, d7, d8, d9⟩ := MM.cells10 X.out
    refine Go.RT.wp_region_tree [0, 0, 0, 0, 12, 28, 0, 124, 252, 508, 508, 1023, 3071, 8191] (.p 0 (.p 1 (.p 2 (.p 3 (.p 4 (.s 5 (.s 6 (.w 7 [] (.p 8 (.p 9 (.p 10 (.p 11 (.w 12 [] (.w 13 [] .nil .stop) .stop))))) .stop)))))))) (by as_aux_lemma => kernel_rfl) (by as_aux_lemma => kernel_rfl) ?_
    repeat (first | (refine Go.RT.step_p rfl (fun K hK => ?_); go_simp; refine hK _ ?_; clear hK K) | (refine Go.RT.step_s rfl (fun K hK => ?_); go_simp; refine hK _ ?_; clear hK K))
    (refine Go.RT.step_w rfl rfl (fun K hK => ?_) Go.RT.step_stop)
    repeat (first | go_values | go_skip | go_guarded | go_step | go_upon)
    have gx := G.out
    refine (rhandle_any _ _ n τ (V2.out.step (w1 := w3.drew) (fun _ _ _ => rfl)) m Am cm _ RV.out.drew (by have := gx.l; omega) (by rw [gx.v]; omega) (by rw [gx.x, gx.v]) (by rw [gx.m, gx.v]) (by rw [gx.f, gx.v]) MG.out.e (by have := gx.c0; omega) (by have := gx.c1; omega) gx.cm ⟨MG.out.i0, MG.out.i1⟩ gx.i0 (by rw [gx.v]; exact gx.i1) MG.out.f0 (by rw [gx.v]; exact MG.out.f1) ⟨MG.out.k0, MG.out.k1⟩ (fun i hi => gx.hx i (by rw [← gx.x]; exact hi)) (fun i hi => gx.hy i (by rw [← gx.m]; exact hi)) (fun h1 _ _ _ => gx.ld h1 _ (by have := MG.out.f0; have := MG.out.f1; omega))).mono ?_
    rintro e w4 ⟨τ2, Ap, kp, rfl, hn2, hm2, hb2⟩
    clear gx
    have PA2 := Lib.hid (PA.out.drew.below hb2)
    have PB2 := Lib.hid (PB.out.drew.below hb2)
    have F2 := Lib.hid ((F.out.step (w1 := w3.drew) (fun _ _ _ => rfl)).below hb2)
    have HB2 := Lib.hid (HB.out.drew.trans (hb2.mono HB.out.size))
    have HN2 := Lib.hid (hn2.mono (ok' := (fun k => k ≠ ba ∧ k ≠ bb)) (fun k hk _ => ⟨fun e => by have h9 : w3.heap.size ≤ k := hk; have := PA.out.lt; omega, fun e => by have h9 : w3.heap.size ≤ k := hk; have := PB.out.lt; omega⟩))
    have HM2 := Lib.hid (hm2.mono (ok' := (fun k => k ≠ ba ∧ k ≠ bb)) (fun k hk _ => ⟨fun e => by have h9 : w3.heap.size ≤ k := hk; have := PA.out.lt; omega, fun e => by have h9 : w3.heap.size ≤ k := hk; have := PB.out.lt; omega⟩))
    have M12 := Lib.hid ((M1.out.step (w1 := w3.drew) (fun _ _ _ => rfl)).below hb2)
    obtain ⟨ca0, ca1, ca2, ca3, ca4, ca5, ca6, ca7, ca8, ca9, ca10, ca11, ca12⟩ := moved13 (hb2.block bb PB.out.lt) c0 c1 c2 c3 c4 c5 c6 c7 c8 c9 c10 c11 c12
    obtain ⟨cf0, cf1, cf2, cf3, cf4, cf5, cf6, cf7, cf8, cf9, cf10, cf11, cf12⟩ := frozen13 PB2.out.free (id' * 13)
    clear hb2 hn2 hm2 c0 c1 c2 c3 c4 c5 c6 c7 c8 c9 c10 c11 c12
    clear d0 d1 d2 d3 d4 d5 d6 d7 d8 d9
    dsimp only
    repeat (first | go_values | go_skip | go_guarded | go_step | go_upon)
    refine Go.RT.QK_normal _ _ _ _ (hK _ _ ?_ ?_) <;> clear hK K
    · repeat (first | exact Go.RT.again_nil | (refine Go.RT.again_not rfl rfl ?_) | (refine Go.RT.again_one rfl (by go_simp <;> rfl) ?_))
    repeat (first | (refine Go.RT.step_p rfl (fun K hK => ?_); go_simp; refine hK _ ?_; clear hK K) | (refine Go.RT.step_s rfl (fun K hK => ?_); go_simp; refine hK _ ?_; clear hK K))
    (refine Go.RT.step_w rfl rfl (fun K hK => ?_) Go.RT.step_stop)
    repeat (first | go_values | go_skip | go_guarded | go_step | go_upon)
    refine Go.RT.QK_normal _ _ _ _ (hK _ _ ?_ ?_) <;> clear hK K
    · repeat (first | exact Go.RT.again_nil | (refine Go.RT.again_not rfl rfl ?_) | (refine Go.RT.again_one rfl (by go_simp <;> rfl) ?_))
    (refine Go.RT.step_w rfl rfl (fun K hK => ?_) Go.RT.step_stop)
    repeat (first | go_values | go_skip | go_guarded | go_step | go_upon)
    refine Go.RT.QK_normal _ _ _ _ (hK _ _ ?_ ?_) <;> clear hK K
    · repeat (first | exact Go.RT.again_nil | (refine Go.RT.again_not rfl rfl ?_) | (refine Go.RT.again_one rfl (by go_simp <;> rfl) ?_))
    refine Go.RT.step_nil ?_
    have HTL := Lib.hid (show (handleS n m).out.length ≤ 1000000 from handleS_out n m (by rw [G.out.v]; omega))
    repeat (first | go_values | go_skip | go_guarded | go_step | go_upon)
    refine name_world (F := fun W => Hid (NodesAt W (fun k => k ≠ ba ∧ k ≠ bb) ba (s0.ns.set id' (handleS n m).n)) ∧ Hid (NodesAt W (fun k => k ≠ ba ∧ k ≠ bb) bb (s0.ns.set id' (handleS n m).n)) ∧ Hid (MsgsV W (fun k => k ≠ ba ∧ k ≠ bb) (.slice A5 (s0.f.eraseIdx p).length c5) (s0.f.eraseIdx p)) ∧ Hid (MsgsV W (fun k => k ≠ ba ∧ k ≠ bb) (.slice Ao (handleS n m).out.length ko) (handleS n m).out) ∧ Hid (MsgsV W (fun k => k ≠ ba ∧ k ≠ bb) (.slice Ap (handleS n m).out.length kp) (handleS n m).out) ∧ Hid (Below w.heap.size w W)) _ (by exact ⟨Lib.hid (PA2.out.step (far13o HAB.out) (fun k hk _ => far13o hk.2)), Lib.hid (PB2.out.set13 hil HN2.out), Lib.hid (F2.out.step (fun k hk _ => far13o hk.2)), Lib.hid (M12.out.step (fun k hk _ => far13o hk.2)), Lib.hid (HM2.out.step (fun k hk _ => far13o hk.2)), Lib.hid (below13o HB2.out HBA.out.2)⟩) ?_
    clear PA PB F HB HN2 V2 PA2 PB2 F2 HB2 HC2 M1 HM2 M12 X RV ca0 cf0 ca1 cf1 ca2 cf2 ca3 cf3 ca4 cf4 ca5 cf5 ca6 cf6 ca7 cf7 ca8 cf8 ca9 cf9 ca10 cf10 ca11 cf11 ca12 cf12
    intro w5 ⟨PA, PB, F, M1, M2, HB⟩
    have HSF := Lib.hid (show s1 = pfin ⟨s0.ns, s0.f.eraseIdx p⟩ id' (handleS n m) from by have h9 := HQ1.out; rw [HNA.out] at h9; exact h9)
    refine hN.out _ _ _ _ _ _ _ _ _ _ _ _ _ _ _ _ _ _ _ _ _ _ _ _ _ _ _ _ _ _ _ _ _ _ _ _ _ _ _ _ _ _ _ _ _ _ _ _ _ _ _ _ _ _ _ _ _ _ _ _ _ _ _ _ _ _ _ _ _ _ _ _ _ _ _ _ _ _ _ _ _ _ _ _ _ _ _ _ _ _ _ _ _ _ _ _ _ _ _ _ _ _ _ _ _ _ _ _ _ _ _ _ _ _ _ _ _ _ _ _ _ _ _ _ _ _ _ _ _ _ _ _ _ _ _ _ _ _ _ _ _ _ _ _ _ _ _ _ _ _ _ _ _ _ _ _ _ _ _ _ _ _ _ _ _ _ _ _ _ _ _ _ _ _ _ _ _ _ _ _ _ ?_
    exact ⟨s0.f.eraseIdx p, id', handleS n m, A5, c5, Ao, ko, Ap, kp, rfl, rfl, rfl, rfl, hidl, HTL.out, Lib.hid (by have h1 := HFL.out; have h2 := List.length_eraseIdx_le s0.f p; omega), HSF, PA, PB, F, M1, M2, HB⟩

end Go.Proofs.Ytnkmljdkokcdjaa
