/-
  The group's Applied answers as the plain function. Condition: the group may be walked.
-/
import Derived.RangeFuncNested
import Derived.RangeFuncBound
import Derived.RangeFuncCalls
import Derived.RangeFuncLeaves
import Derived.RangeFuncBox
import Derived.Maps.AppendAt
import Derived.Shelf.Abstract
import Derived.Shelf.RegionOpen
import Derived.WalkKit
import Derived.OwnWalkIn
import Derived.TacticsInMore
import Derived.LoopNIn
import Derived.LoopIn
import Derived.Test.YtnkmljdkokcdjaaGo
import Derived.WalkSpells
import Derived.Lib.Hide
import Derived.Outline
import Derived.Test.YtnkmljdkokcdjaaChecked
import Derived.Test.YtnkmljdkokcdjaaMn
import Derived.Test.YtnkmljdkokcdjaaMem
import Derived.Test.YtnkmljdkokcdjaaFed
import Derived.Test.YtnkmljdkokcdjaaGb
import Derived.Test.YtnkmljdkokcdjaaGg
import Derived.Test.YtnkmljdkokcdjaaClone
import Derived.Test.YtnkmljdkokcdjaaMf
import Derived.Deep.DeepCutAuto
import Derived.Deep.CutBlock
import Derived.Deep.OwnRows
import Derived.IntWalk
set_option linter.unusedVariables false
set_option linter.unusedSimpArgs false
namespace Go.Proofs.Ytnkmljdkokcdjaa
open Go Go.RowKit Go.Shelf Fed
set_option linter.unusedVariables false
attribute [local go_sem high] Fed.max2_int Fed.min2_int

attribute [local go_sem] Oper.semAt_some
theorem calls_of_wpM {P : Program} {f : FuncId} {fn : Func} {c : Code} {args : Array Value} {w : World} {R : Ending → World → Prop} (hf : P.funcs[f]? = some fn) (hb : fn.body = some c)
    (h : c.wp P (bodyPostM Fence.wide 5 P fn R) { tmps := args ++ Array.replicate (fn.ntmps - args.size) undef, defers := [] } w) : Calls P f args w R :=
  callsIn_wide.1 (callsIn_of_wp_marks (F := Fence.wide) (n := 5) hf hb trivial (wpIn_wide.2 h) rfl)
theorem rd_of_owns {w : World} {base : Nat} {e : TypeId} {sz n : Nat} {v : Value} {xs : List Value} (h : w.ownsRow base e sz v n xs) : MM.Rd w (fun k => base ≤ k) sz v n xs := by
  obtain ⟨h1, ⟨rfl, rfl⟩ | ⟨g, cap, cur, rfl, h3, h4, h5, h6, h7, h8⟩⟩ := h
  · exact ⟨h1, none, 0, rfl, Nat.le_refl _, by simp [maxLen], fun q => absurd q (by omega)⟩
  · exact MM.Row.rd (base := base) (e := e) (ob := some g) ⟨h1, cap, cur, rfl, h3, h4, h5, h6, h7, h8⟩ |>.mono (fun k hk _ => by injection hk with hk; omega)
theorem range_wide {α : Type} {g : Operand} {ps : Array Tmp} {assign body : Code} {Q : Exit → Act → World → Prop} {a : Act} {w : World} {gf : Nat} {lb : Array Value} (enc : α → Value) (p q : Nat)
    (hg : a.eval g = .func (.func gf) #[] lb) (eg : ∀ args w, (callFunc gf args).run Try.prog w = .ok (.enter gf args) w)
    {Kp : World → World → Prop} {S Sp : List α → Prop} {N : Nat} {w0 : World} (hseq : SeqStopsK Fence.wide 4 Try.prog gf lb (fun x => #[enc x]) Kp S Sp N w0)
    (hKt : ∀ {A B C : World}, Kp A B → Kp B C → Kp A C) (hKb : ∀ (W : World) (l : Nat) (o o' : Obj), w.heap.size ≤ l → W.heap[l]? = some o → o.isCells = false → o.isWalk = false → Kp W (W.putObj l o')) (hb0 : Below w0.heap.size w0 w) (hps : 1 = ps.size)
    (I : List α → World → Prop) (hI : OwnFrom w.heap.size I) (h0 : I [] w)
    (hassign : ∀ (l : Nat) (x : α) (W : World) (K : Act → World → Prop), K { tmps := (a.tmps.setIfInBounds p (enc x)).setIfInBounds q (enc x), defers := [] } W →
      assign.wpIn (Fence.wide.inRound l) 3 Try.prog (Exit.then K (fun _ _ _ => False)) { tmps := (ps.zip #[enc x]).foldl (fun t (p, v) => t.setIfInBounds p v) a.tmps, defers := [] } W)
    (hbody : ∀ (l : Nat) (pre : List α) (x : α) (W : World), I pre W → pre.length < N → body.wpIn (Fence.wide.inRound l) 3 Try.prog (ownPostG w.heap.size Kp I (fun _ _ _ => False) (pre ++ [x]) W) { tmps := (a.tmps.setIfInBounds p (enc x)).setIfInBounds q (enc x), defers := [] } W)
    (hdone : ∀ (D : Nat) (xs : List α) (W : World), w.heap.size ≤ D → S xs → I xs W → W.heap[D]? = some (.deferred (some [])) → Q .normal { a with defers := { target := .collected D, args := #[] } :: a.defers } W) :
    (Code.rangeFunc g ps assign body).wp Try.prog Q a w :=
  wpIn_wide.1 (wpIn_rangeFunc_ownG (F := Fence.wide) (n := 5) rfl (by omega) hg trivial eg (encs := fun x => #[enc x]) hseq hKt hKb hb0 (fun _ => hps) I (fun _ _ _ => False) hI (fun _ _ _ _ _ hs _ _ => hs) h0 (fun x => { tmps := (a.tmps.setIfInBounds p (enc x)).setIfInBounds q (enc x), defers := [] }) hassign hbody hdone (fun _ _ _ _ _ _ h _ => h.elim))
/-- Texts. -/
def textsC (l : List ByteArray) : List Value := l.map Value.string
theorem said_any (w : World) (A : Option Addr) (len cap : Nat) :
    Calls Try.prog 79 #[.slice A len cap] w fun e w' => e = .returned (.func (.func 119) #[] #[.pointer (some ⟨w.heap.size, 0, none⟩)]) ∧ w' = w.alloc (.cells #[.slice A len cap] 24) := by
  go_enter Try.func79, Try.ntmps79
  go_wp2
  go_ret
  exact ⟨rfl, rfl⟩
theorem gApplied_down (w : World) (B g : Nat) (s : GS) (μ : GM) (ok : Nat → Prop) (h : GroupAt w B g s μ ok) (id : Int) (hl : s.ns.length ≤ 1000) (hd : s.isUp id = false) :
    Calls Try.prog 43 #[.pointer (some ⟨g, 0, none⟩), .int .i64 id] w fun e w' => e = .returned (.slice none 0 0) ∧ w = w' := by
  have HU := Lib.hid (gup_any w B g s μ ok h id hl)
  have HD := Lib.hid hd
  clear h hd
  go_enter Try.func43, Try.ntmps43
  go_wp2_with fail
  refine HU.out.mono ?_
  rintro e w' ⟨⟨i, pb, h1, _, _, _, _⟩ | ⟨h1, rfl⟩, rfl⟩
  · rw [HD.out] at h1; cases h1
  · clear h1
    go_wp2_with fail
    go_ret
    exact ⟨rfl, rfl⟩
set_option maxRecDepth 100000 in
set_option maxHeartbeats 40000000 in
theorem gApplied_up (w : World) (B g : Nat) (s : GS) (μ : GM) (ok : Nat → Prop) (h : GroupAt w B g s μ ok) (K : Nat) (G : GoodG K s) (hK : K ≤ 1000) (id : Int) (hd : s.isUp id = true) :
    Calls Try.prog 43 #[.pointer (some ⟨g, 0, none⟩), .int .i64 id] w fun e w' => ∃ v ob, e = .returned v ∧ MM.Row w' w.heap.size 9 1 v (s.applied id).length (textsC (s.applied id)) ob ∧ Below w.heap.size w w' := by
  have HU := Lib.hid (gup_any w B g s μ ok h id (by rw [G.len]; omega))
  have H := Lib.hid h
  have HG := Lib.hid G
  have HD := Lib.hid hd
  clear h hd G
  refine calls_of_wpM Try.func43 rfl ?_
  simp only [Try.ntmps43, List.size_toArray, List.length_cons, List.length_nil, Nat.reduceAdd, Nat.reduceSub, Array.replicate_succ, Array.replicate_zero, List.push_toArray, List.append_toArray, List.nil_append, List.cons_append]
  go_wp2_with fail
  refine HU.out.mono ?_
  rintro e w' ⟨⟨i, pb, h1, rfl, hi, hp, rfl⟩ | ⟨h1, rfl⟩, rfl⟩
  rotate_left
  · rw [HD.out] at h1; cases h1
  obtain ⟨pb', hp', _, _, _, _, σ, hv, hc⟩ := H.out.place hi
  rw [hp] at hp'
  injection hp' with hp'
  subst hp'
  have gx := HG.out.node hi
  have HA := Lib.hid (show s.applied (i : Int) = datas ((s.node (i : Int)).log.take (s.node (i : Int)).commit.toNat) from by unfold GS.applied; rw [if_pos h1]; rfl)
  have hpl := (H.out.ltp pb hp).2
  have x3 : w.cell? ⟨pb, i * 14 + 3, none⟩ = some (.slice σ.A3 (s.node (i : Int)).log.length σ.k3) := hc 3 _ rfl
  have x6 : w.cell? ⟨pb, i * 14 + 6, none⟩ = some (.int .i64 (s.node (i : Int)).commit) := hc 6 _ rfl
  have hcm : 0 ≤ (s.node (i : Int)).commit := gx.cm
  have hll : (s.node (i : Int)).log.length ≤ 100000 := gx.l
  clear h1 hp hc gx
  generalize s.node (i : Int) = n at *
  obtain ⟨c, hcc⟩ : ∃ c : Nat, c = min n.commit.toNat n.log.length := ⟨_, rfl⟩
  have hm1 : mx n.commit 0 = n.commit := by rw [mx_eq]; omega
  have hm2 : mn n.commit (n.log.length : Int) = (c : Int) := by rw [mn_eq]; omega
  have hcl : c ≤ n.log.length := by omega
  obtain ⟨lq, Aq, cq, ea, sl1, sl2, hrest⟩ := hv.hl
  injection ea with ea1 el ea2
  have hck : c ≤ σ.k3 := by omega
  have HF := Lib.hid (show MM.Rd w (fun k => k < w.heap.size) 2 (.slice σ.A3 c σ.k3) c (entsC (n.log.take c)) from by rw [← entsC_take]; exact (rd_front hv.hl hcl hck (Nat.le_refl _)).mono (fun k _ hl => hl))
  have HCC := Lib.hid hcc
  clear hv lq ea1 el ea2 hrest hcc
  go_upto_region 5 with (fail)
  refine name_world (F := fun W => Hid (W.heap[w.heap.size]? = some (.cells #[.slice none 0 0] 61 (0, 0))) ∧ Hid (W.cell? ⟨pb, i * 14 + 3, none⟩ = some (.slice σ.A3 n.log.length σ.k3)) ∧ Hid (W.cell? ⟨pb, i * 14 + 6, none⟩ = some (.int .i64 n.commit)) ∧ Hid (Below w.heap.size w W)) _ (by exact ⟨Lib.hid (MM.alloc_new _ _), Lib.hid ((World.cell?_of_block (a := ⟨pb, i * 14 + 3, none⟩) (Below.heap_alloc _ _ _ hpl)).trans x3), Lib.hid ((World.cell?_of_block (a := ⟨pb, i * 14 + 6, none⟩) (Below.heap_alloc _ _ _ hpl)).trans x6), Lib.hid ((Below.refl _ w).alloc (Nat.le_refl _) _)⟩) ?_
  clear x3 x6
  intro w2 ⟨R2, y3, y6, HB2⟩
  have e3 := y3.out
  have e6 := y6.out
  have hpl2 : pb < w2.heap.size := Nat.lt_of_lt_of_le hpl HB2.out.size
  refine Go.RT.wp_region_tree [0, 1, 3, 7, 15, 0, 32, 96, 224, 480, 992, 0, 2048, 6144, 14336, 30720, 63488, 131040, 262143, 524287] (.p 0 (.p 1 (.p 2 (.p 3 (.s 4 (.p 5 (.p 6 (.p 7 (.p 8 (.s 9 (.p 10 (.p 11 (.p 12 (.p 13 (.p 14 (.s 15 (.p 16 (.p 17 (.p 18 (.w 19 [] .nil .stop)))))))))))))))))))) (by kernel_rfl) (by kernel_rfl) ?_
  repeat (first | (refine Go.RT.step_p rfl (fun K hK => ?_); go_simp; refine hK _ ?_; clear hK K) | (refine Go.RT.step_s rfl (fun K hK => ?_); go_simp; refine hK _ ?_; clear hK K))
  (refine Go.RT.step_w rfl rfl (fun K hK => ?_) Go.RT.step_stop)
  go_wp2_with fail
  refine (said_any _ _ _ _).mono ?_
  rintro e w3 ⟨rfl, rfl⟩
  go_wp2_with fail
  refine Go.RT.QK_normal _ _ _ _ (hK _ _ ?_ ?_) <;> clear hK K
  · repeat (first | exact Go.RT.again_nil | (refine Go.RT.again_not rfl rfl ?_) | (refine Go.RT.again_one rfl (by go_simp <;> rfl) ?_))
  refine Go.RT.step_nil ?_
  refine name_world (F := fun W => Hid (Boxed W w.heap.size 61 (.slice none 0 0)) ∧ Hid (Boxed W w2.heap.size 24 (.slice σ.A3 c σ.k3)) ∧ Hid (MM.Rd W (fun k => k < w.heap.size) 2 (.slice σ.A3 c σ.k3) c (entsC (n.log.take c))) ∧ Hid (Below w.heap.size w W)) _ (by exact ⟨Lib.hid ((Below.heap_alloc _ _ _ (MM.blk_lt R2.out)).trans R2.out), Lib.hid (MM.alloc_new _ _), Lib.hid (HF.out.step (fun k hk hl => (Below.heap_alloc _ _ _ (Nat.lt_of_lt_of_le hk HB2.out.size)).trans (HB2.out.block k hk))), Lib.hid ((HB2.out.alloc HB2.out.size _).drew)⟩) ?_
  intro w3 ⟨R3, S3, HR3, HB3⟩
  have hz3 : w.heap.size + 2 ≤ w3.heap.size := by have h1 := MM.blk_lt S3.out; have h2 := MM.blk_lt R2.out; omega
  have htk : (n.log.take c).length = c := by rw [List.length_take]; omega
  have HR3' : MM.Rd w3 (fun k => k < w.heap.size) 2 (.slice σ.A3 (n.log.take c).length σ.k3) (n.log.take c).length (entsC (n.log.take c)) := by rw [htk]; exact HR3.out
  have hc3 : w3.cell? ⟨w2.heap.size, 0, none⟩ = some (.slice σ.A3 (n.log.take c).length σ.k3) := by rw [htk]; exact Boxed.cell S3.out
  obtain ⟨i0, hi0, hz0, hz1, hz2⟩ := info_parts info9
  go_wp2_with fail
  refine range_wide (gf := 119) (lb := #[.pointer (some ⟨w2.heap.size, 0, none⟩)]) Value.string 33 7 rfl (enters_of Try.func119 (by kernel_rfl) rfl)
    (said_stops 4 (by omega) w2.heap.size w.heap.size σ.A3 σ.k3 (n.log.take c) (by omega) w3 (MM.blk_lt S3.out) (by omega) hc3 HR3') belowK_t (belowK_b (by omega)) (Below.refl _ _) rfl
    (fun pre W => (∃ v, Boxed W w.heap.size 61 v ∧ W.ownsRow w.heap.size 9 1 v pre.length (textsC pre) ∧ True) ∧ Below w.heap.size w W)
    (OwnFrom.and (Own.from (holdsRow_own w.heap.size w.heap.size 61 9 1 (fun pre : List ByteArray => pre.length) (fun pre => textsC pre) (fun _ _ => True)) _) (ownFrom_below (Nat.le_refl _) (by omega)))
    ⟨⟨_, R3.out, World.ownsRow_nil _ _ _ _, trivial⟩, HB3.out⟩ ?assign ?body ?done
  case assign =>
    intro l x W K hK
    gi_wp2
    exact hK
  case body =>
    rintro l pre x W ⟨⟨v, hv, hrow, _⟩, hB⟩ hln
    have hvc := hv.cell
    have hlp : pre.length ≤ 100000 := by omega
    simp only [List.setIfInBounds_toArray, List.set_cons_zero, List.set_cons_succ]
    gi_wp2_with (gi_at_builtin; refine wpListIn_append_own _ rfl (.tmp 34) (.tmp 36) 61 rfl w.heap.size 9 i0 _ 1 16 Try.underlying61 hi0 hz0 hz1 hz2 rfl (by decide) _ _ _ rfl (hrow.alloc _) ⟨W.heap.size, 0, none⟩ 1 1 [.string x] rfl rfl (cell_one_new _ _ _) (by simp [Value.oneCell']) (by simp only [maxLen]; omega) (by omega) (by have := hB.size; simp; omega) ?_; intro v' w1 hown' hgrow _; obtain ⟨g', cap', rfl⟩ := ownsRow_succ hown'; obtain ⟨hv1, hv2, hr2, hk2, hb2⟩ := hv.appended (by decide) hrow hB.size (Nat.le_refl _) hown' hgrow; have hc1 := hv1.cell; have hf1 := hv1.frozen)
    exact ⟨hk2.from _, hb2, ⟨⟨_, hv2, by simpa [textsC] using hr2, trivial⟩, hB.trans hb2⟩⟩
  case done =>
    rintro D ys W hD rfl ⟨⟨v, hv, hrow, _⟩, hB⟩ hK
    have hvc := hv.cell
    have hds : (datas (n.log.take c)).length ≤ 100000 := by have := datas_take_len n.log c; omega
    have HRD := Lib.hid (rd_of_owns hrow)
    have HB := Lib.hid hB
    have HK := Lib.hid hK
    obtain ⟨lq, Av, cv, rfl, _, _⟩ := rd_of_owns hrow
    clear hrow hB hK hv HR3' hc3
    dsimp only
    go_wp2_with fail
    refine (clone_string _ _ _ _ _ HRD.out (fun u hu => by obtain ⟨b, _, rfl⟩ := List.mem_map.1 hu; rfl) (by omega)).mono ?_
    rintro e w5 ⟨v', ob, rfl, hr5, hb5⟩
    have hDl : D < W.heap.size := MM.blk_lt HK.out
    have HK5 := Lib.hid ((hb5.block D hDl).trans HK.out)
    have HR5 := Lib.hid hr5
    have HB5 := Lib.hid (HB.out.trans (hb5.mono HB.out.size))
    clear hr5 hb5
    go_wp2_with fail
    refine ⟨by simp, .inl ⟨_, _, rfl, run_takeDeferred HK5.out, ?_⟩⟩
    refine ⟨_, results_tmp rfl _ _ _, v', ob, rfl, ?_, ?_⟩
    · have htk2 : n.log.take c = n.log.take n.commit.toNat := by rw [HCC.out, ← List.take_eq_take_min]
      rw [HA.out, ← htk2]
      have hr := HR5.out
      refine (hr.lower HB.out.size).step (w1 := w5.putObj D (.deferred none)) (fun k hk _ => ?_)
      refine (grownBy_putObj' w5 D (.deferred none)).block k (hr.lt k hk).2 (fun e => ?_)
      injection e with e
      obtain ⟨_, _, h9⟩ := hr.ty k hk
      rw [e, HK5.out] at h9
      cases h9
    · exact HB5.out.trans (belowK_b (w := w) (Nat.le_refl _) w5 D _ _ (by omega) HK5.out rfl rfl)

end Go.Proofs.Ytnkmljdkokcdjaa
