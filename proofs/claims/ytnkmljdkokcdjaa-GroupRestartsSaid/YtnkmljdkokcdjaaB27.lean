/-
The iterator over the data of entries that have any ('said'): its contract.
The group's Applied answers as the plain function. Condition: the group may be walked.
Contracts over a group that is all newer than the call. Conditions: the group may be walked.
Both groups side by side: the program's at g, the document's at x, in blocks apart; what a step of one leaves of the other.
Contracts over both groups side by side: each step of one leaves the other. Condition: the group may be walked.
The document's Applied: the data of what a node has applied.
-/
import Derived.RangeFuncNested
import Derived.RangeFuncBound
import Derived.RangeFuncCalls
import Derived.RangeFuncLeaves
import Derived.RangeFuncBox
import Derived.Shelf.Abstract
import Derived.Shelf.RegionOpen
import Derived.WalkKit
import Derived.OwnWalkIn
import Derived.TacticsInMore
import Derived.LoopNIn
import Derived.LoopIn
import Derived.IntWalk
import Derived.Lib.Hide
import Derived.Test.YtnkmljdkokcdjaaB11
import Derived.Test.YtnkmljdkokcdjaaChecked
import Derived.Maps.AppendAt
import Derived.WalkSpells
import Derived.Outline
import Derived.Test.YtnkmljdkokcdjaaB0
import Derived.Test.YtnkmljdkokcdjaaB1
import Derived.Test.YtnkmljdkokcdjaaB12
import Derived.Test.YtnkmljdkokcdjaaB14
import Derived.Test.YtnkmljdkokcdjaaB2
import Derived.Test.YtnkmljdkokcdjaaB10
import Derived.Deep.DeepCutAuto
import Derived.Deep.CutBlock
import Derived.Deep.OwnRows
import Derived.Test.YtnkmljdkokcdjaaB26
import Derived.Test.YtnkmljdkokcdjaaB15
import Derived.Test.YtnkmljdkokcdjaaB19
import Derived.Test.YtnkmljdkokcdjaaB4
set_option maxRecDepth 100000
set_option maxHeartbeats 40000000
set_option linter.unusedVariables false
set_option linter.unusedSimpArgs false
namespace Go.Proofs.Ytnkmljdkokcdjaa
open Go Go.RowKit Go.Shelf Fed
attribute [local go_sem] Oper.semAt_some
theorem datas_succ {es : List Fed.Entry} {k : Nat} {e : Fed.Entry} (h : es[k]? = some e) : datas (es.take (k + 1)) = datas (es.take k) ++ (if e.data.toList.isEmpty = true then [] else [e.data]) := by
 unfold datas
 rw [List.take_add_one, h, List.filter_append, List.map_append]
 by_cases hd : e.data.toList.isEmpty = true
 ·rw [if_pos hd]; simp [hd]
 ·rw [if_neg hd]; simp [hd]
theorem datas_take_len (es : List Fed.Entry) (k : Nat) : (datas (es.take k)).length ≤ k := by
 unfold datas
 rw [List.length_map]
 exact Nat.le_trans (List.length_filter_le _ _) (List.length_take_le _ _)
theorem datas_prefix (es : List Fed.Entry) (k : Nat) : datas (es.take k) <+: datas es := by
 have h : datas es = datas (es.take k) ++ datas (es.drop k) := by
  unfold datas
  rw [← List.map_append, ← List.filter_append, List.take_append_drop]
 rw [h]
 exact List.prefix_append _ _
theorem said1_in (n : Nat) (hn : 1 ≤ n) (l Bs n0 b o len cap : Nat) (es : List Fed.Entry) (hlen : es.length = len) (hl : len ≤ 1000000) (B0 : Nat) (hb : b < n0) (J Jx : List ByteArray → World → Prop) (hJ : AbidesFrom B0 J)
  (hY : ∀ pre x W, J pre W → pre.length < len → YieldAt Fence.wide (n - 1) Try.prog l #[.string x] W fun e W' =>
   (e = .returned (.bool true) ∧ J (pre ++ [x]) W' ∧ Below n0 W W') ∨ (e = .returned (.bool false) ∧ Jx (pre ++ [x]) W'))
  (W : World) (hn0 : n0 ≤ W.heap.size) (hB0 : B0 ≤ W.heap.size) (hBs : W.cell? ⟨Bs, 0, none⟩ = some (.slice (some ⟨b, o, none⟩) len cap)) (hc : ∀ j u, (entsC es)[j]? = some u → W.cell? ⟨b, o + j, none⟩ = some u) (h0 : J [] W) :
  CallsIn Fence.wide n Try.prog 119 #[.func (.yield l) #[] #[], .pointer (some ⟨Bs, 0, none⟩)] W fun e W' => (∃ v, e = .returned v) ∧
   ((∃ ys, ys = datas es ∧ J ys W') ∨ (∃ pre, pre <+: datas es ∧ Jx pre W')) := by
 refine callsIn_of_wp Try.func119 rfl trivial ?_ rfl
 simp only [Try.ntmps119, List.size_toArray, List.length_cons, List.length_nil, Nat.reduceAdd, Nat.reduceSub, Array.replicate_succ, Array.replicate_zero, List.push_toArray, List.append_toArray, List.nil_append, List.cons_append]
 gi_wp2
 gi_loopw [7] (fun i wr => ∃ k : Nat, k ≤ len ∧ i = .int .i64 k ∧ J (datas (es.take k)) wr ∧ Below n0 W wr)
  (fun i _ => len - (intOf i).toNat)
 case atStart => exact ⟨0, Nat.zero_le _, rfl, h0, Below.refl _ _⟩
 case round =>
  obtain ⟨k, hk, rfl, hJs, hnx⟩ := hrel
  by_cases hlt : k < len
  ·obtain ⟨e, he⟩ : ∃ e, es[k]? = some e := ⟨_, List.getElem?_eq_getElem (by omega)⟩
   obtain ⟨g1, g2⟩ := entsC_get he
   have c1 : wr.cell? ⟨b, o + k * 2, none⟩ = some (.int .i64 e.term) := (hnx.cell (p := ⟨b, o + k * 2, none⟩) hb).trans (hc _ _ g1)
   have c2 : wr.cell? ⟨b, o + k * 2 + 1, none⟩ = some (.string e.data) := (hnx.cell (p := ⟨b, o + (k * 2 + 1), none⟩) hb).trans (hc _ _ g2)
   have hsz := hnx.size
   have hJ' : J (datas (es.take k)) (wr.alloc (.cells #[.int .i64 e.term, .string e.data] 40 (0, 0))) := hJ _ wr _ none hJs (World.grownBy_alloc wr _ none) (fun r q => by cases q)
   have hnx' : Below n0 W (wr.alloc (.cells #[.int .i64 e.term, .string e.data] 40 (0, 0))) := hnx.alloc (by omega) _
   have hds := datas_succ he
   cases hd : e.data.toList.isEmpty
   rotate_left
   ·rw [if_pos hd, List.append_nil] at hds
    have HDS := Hd hds
    clear g1 g2 hds
    gi_wp2
    refine ⟨fun _ h => (by cases h), ?_⟩
    gi_wp2
    go_roundw
    case rel => exact ⟨k + 1, by omega, by simp, by rw [HDS.out]; exact hJ', hnx'⟩
    case measure => simp [intOf]; omega
   ·rw [if_neg (by rw [hd]; simp)] at hds
    have HDS := Hd hds
    clear g1 g2 hds
    obtain ⟨fn, tmps, assign, body, hy, hR⟩ := hY _ e.data _ hJ' (Nat.lt_of_le_of_lt (datas_take_len es k) hlt)
    gi_wp2
    refine hR.mono ?_
    rintro e' W3 (⟨rfl, hJ3, hk3⟩ | ⟨rfl, hJx3⟩)
    ·gi_wp2
     go_roundw
     case rel => exact ⟨k + 1, by omega, by simp, by rw [HDS.out]; exact hJ3, hnx'.trans hk3⟩
     case measure => simp [intOf]; omega
    ·gi_wp2
     refine bodyPost_ret (results_none rfl _ _ _) rfl ?_
     exact ⟨⟨_, rfl⟩, .inr ⟨_, by rw [← HDS.out]; exact datas_prefix es (k + 1), hJx3⟩⟩
  ·obtain rfl : k = len := by omega
   gi_wp2
   go_end0
   exact ⟨⟨_, rfl⟩, .inl ⟨_, by rw [← hlen, List.take_length], hJs⟩⟩
theorem said1_nil (n : Nat) (l Bs : Nat) (A : Option Addr) (cap : Nat) (J : List ByteArray → World → Prop) (W : World) (hBs : W.cell? ⟨Bs, 0, none⟩ = some (.slice A 0 cap)) (h0 : J [] W) :
  CallsIn Fence.wide n Try.prog 119 #[.func (.yield l) #[] #[], .pointer (some ⟨Bs, 0, none⟩)] W fun e W' => (∃ v, e = .returned v) ∧ J [] W' := by
 refine callsIn_of_wp Try.func119 rfl trivial ?_ rfl
 simp only [Try.ntmps119, List.size_toArray, List.length_cons, List.length_nil, Nat.reduceAdd, Nat.reduceSub, Array.replicate_succ, Array.replicate_zero, List.push_toArray, List.append_toArray, List.nil_append, List.cons_append]
 gi_wp2
 gi_loopw [7] (fun i wr => i = .int .i64 0 ∧ J [] wr) (fun _ _ => 0)
 case atStart => exact ⟨rfl, h0⟩
 case round =>
  obtain ⟨rfl, hJs⟩ := hrel
  gi_wp2
  go_end0
  exact ⟨⟨_, rfl⟩, hJs⟩
theorem said_stops (n : Nat) (hn : 1 ≤ n) (Bs n0 : Nat) (A : Option Addr) (cap : Nat) (es : List Fed.Entry) (hl : es.length ≤ 1000000) (w : World) (hBs : Bs < w.heap.size) (hn0 : n0 ≤ w.heap.size)
  (hc : w.cell? ⟨Bs, 0, none⟩ = some (.slice A es.length cap)) (hr : MM.Rd w (fun k => k < n0) 2 (.slice A es.length cap) es.length (entsC es)) :
  SeqStopsK Fence.wide n Try.prog 119 #[.pointer (some ⟨Bs, 0, none⟩)] (fun x : ByteArray => #[Value.string x]) (Below n0) (fun ys => ys = datas es) (fun pre => pre <+: datas es) es.length w := fun l J Jx W hW hJ _ hY h0 => by
 have hc' := (hW.cell (p := ⟨Bs, 0, none⟩) hBs).trans hc
 rcases Nat.eq_zero_or_pos es.length with h | h
 ·obtain rfl : es = [] := List.eq_nil_of_length_eq_zero h
  exact (said1_nil n l Bs A cap J W hc' h0).mono fun e W' ⟨he, hj⟩ => ⟨he, .inl ⟨_, rfl, hj⟩⟩
 ·obtain ⟨_, A', c', e, _, _, hrest⟩ := hr
  injection e with e1 e2 e3
  subst e1 e3
  obtain ⟨b, o, rfl, hb, hbl, hcell⟩ := hrest h
  exact said1_in n hn l Bs n0 b o es.length cap es rfl hl W.heap.size hb J Jx hJ hY W (Nat.le_trans hn0 hW.size) (Nat.le_refl _) hc' (fun j u hj => (hW.cell (p := ⟨b, o + j, none⟩) hbl).trans (hcell j u hj)) h0
end Go.Proofs.Ytnkmljdkokcdjaa
namespace Go.Proofs.Ytnkmljdkokcdjaa
open Go Go.RowKit Go.Shelf Fed Go.RT
attribute [local go_sem high] Fed.max2_int Fed.min2_int Fed.MA Fed.ZN Fed.ZM Fed.NA
attribute [local go_sem] Oper.semAt_some
theorem calls_of_wpM {P : Program} {f : FuncId} {fn : Func} {c : Code} {args : Array Value} {w : World} {R : Ending → World → Prop} (hf : P.funcs[f]? = some fn) (hb : fn.body = some c)
  (h : c.wp P (bodyPostM Fence.wide 5 P fn R) { tmps := args ++ Array.replicate (fn.ntmps - args.size) undef, defers := [] } w) : Calls P f args w R :=
 callsIn_wide.1 (callsIn_of_wp_marks (F := Fence.wide) (n := 5) hf hb trivial (wpIn_wide.2 h) rfl)
theorem rd_of_owns {w : World} {base : Nat} {e : TypeId} {sz n : Nat} {v : Value} {xs : List Value} (h : w.ownsRow base e sz v n xs) : MM.Rd w (fun k => base ≤ k) sz v n xs := by
 obtain ⟨h1, ⟨rfl, rfl⟩ | ⟨g, cap, cur, rfl, h3, h4, h5, h6, h7, h8⟩⟩ := h
 ·exact ⟨h1, none, 0, rfl, Nat.le_refl _, by simp [maxLen], fun q => absurd q (by omega)⟩
 ·exact MM.Row.rd (base := base) (e := e) (ob := some g) ⟨h1, cap, cur, rfl, h3, h4, h5, h6, h7, h8⟩ |>.mono (fun k hk _ => by injection hk with hk; omega)
theorem range_wide {α : Type} {g : Operand} {ps : Array Tmp} {assign body : Code} {Q : Exit → Act → World → Prop} {a : Act} {w : World} {gf : Nat} {lb : Array Value} (enc : α → Value) (p q : Nat)
  (hg : a.eval g = .func (.func gf) #[] lb) (eg : ∀ args w, (callFunc gf args).run Try.prog w = .ok (.enter gf args) w)
  {Kp : World → World → Prop} {S Sp : List α → Prop} {N : Nat} {w0 : World} (hseq : SeqStopsK Fence.wide 4 Try.prog gf lb (fun x => #[enc x]) Kp S Sp N w0)
  (hKt : ∀ {A B C : World}, Kp A B → Kp B C → Kp A C) (hKb : ∀ (W : World) (l : Nat) (o o' : Obj), w.heap.size ≤ l → W.heap[l]? = some o → o.isCells = false → o.isWalk = false → Kp W (W.putObj l o')) (hb0 : Below w0.heap.size w0 w) (hps : 1 = ps.size)
  (I : List α → World → Prop) (hI : OwnFrom w.heap.size I) (h0 : I [] w)
  (hassign : ∀ (l : Nat) (x : α) (W : World) (K : Act → World → Prop), K { tmps := (a.tmps.setIfInBounds p (enc x)).setIfInBounds q (enc x), defers := [] } W →
   assign.wpIn (Fence.wide.inRound l) 3 Try.prog (Exit.then K (fun _ _ _ => False)) { tmps := (ps.zip #[enc x]).foldl (fun t (p, v) => t.setIfInBounds p v) a.tmps, defers := [] } W)
  (hbody : ∀ (l : Nat) (pre : List α) (x : α) (W : World), I pre W → pre.length < N → body.wpIn (Fence.wide.inRound l) 3 Try.prog (ownPostG w.heap.size Kp I (fun _ _ _ => False) (pre ++ [x]) W) { tmps := (a.tmps.setIfInBounds p (enc x)).setIfInBounds q (enc x), defers := [] } W)
  (hdone : ∀ (D : Nat) (xs : List α) (W : World), w.heap.size ≤ D → S xs → I xs W → W.heap[D]? = some (.deferred (some [])) → Q .normal { a with defers := { target := .collected D, args := #[] } :: a.defers } W) :
  (Code.rangeFunc g ps assign body).wp Try.prog Q a w :=
 wpIn_wide.1 (wpIn_rangeFunc_ownG (F := Fence.wide) (n := 5) rfl (by omega) hg trivial eg (encs := fun x => #[enc x]) hseq hKt hKb hb0 (fun _ => hps) I (fun _ _ _ => False) hI (fun _ _ _ _ _ hs _ _ => hs) h0 (fun x => { tmps := (a.tmps.setIfInBounds p (enc x)).setIfInBounds q (enc x), defers := [] }) hassign hbody hdone (fun _ _ _ _ _ _ h _ => h.elim))
def textsC (l : List ByteArray) : List Value := l.map Value.string
theorem said_any (w : World) (A : Option Addr) (len cap : Nat) :
  Calls Try.prog 79 #[.slice A len cap] w fun e w' => e = .returned (.func (.func 119) #[] #[.pointer (some ⟨w.heap.size, 0, none⟩)]) ∧ w' = w.alloc (.cells #[.slice A len cap] 24) := by
 go_enter Try.func79, Try.ntmps79
 go_wp2
 go_ret
 exact ⟨rfl, rfl⟩
theorem gApplied_down (w : World) (B g : Nat) (s : GS) (μ : GM) (ok : Nat → Prop) (h : GroupAt w B g s μ ok) (id : Int) (hl : s.ns.length ≤ 1000) (hd : s.isUp id = false) :
  Calls Try.prog 43 #[.pointer (some ⟨g, 0, none⟩), .int .i64 id] w fun e w' => e = .returned (.slice none 0 0) ∧ w = w' := by
 have HU := Hd (gup_any w B g s μ ok h id hl)
 have HD := Hd hd
 clear h hd
 go_enter Try.func43, Try.ntmps43
 go_wp2_with fail
 refine HU.out.mono ?_
 rintro e w' ⟨⟨i, pb, h1, _, _, _, _⟩ | ⟨h1, rfl⟩, rfl⟩
 ·rw [HD.out] at h1; cases h1
 ·clear h1
  go_wp2_with fail
  go_ret
  exact ⟨rfl, rfl⟩
theorem gApplied_up (w : World) (B g : Nat) (s : GS) (μ : GM) (ok : Nat → Prop) (h : GroupAt w B g s μ ok) (K : Nat) (G : GoodG K s) (hK : K ≤ 1000) (id : Int) (hd : s.isUp id = true) :
  Calls Try.prog 43 #[.pointer (some ⟨g, 0, none⟩), .int .i64 id] w fun e w' => ∃ v ob, e = .returned v ∧ MM.Row w' w.heap.size 9 1 v (s.applied id).length (textsC (s.applied id)) ob ∧ Below w.heap.size w w' := by
 have HU := Hd (gup_any w B g s μ ok h id (by rw [G.len]; omega))
 have H := Hd h
 have HG := Hd G
 have HD := Hd hd
 clear h hd G
 refine calls_of_wpM Try.func43 rfl ?_
 simp only [Try.ntmps43, List.size_toArray, List.length_cons, List.length_nil, Nat.reduceAdd, Nat.reduceSub, Array.replicate_succ, Array.replicate_zero, List.push_toArray, List.append_toArray, List.nil_append, List.cons_append]
 go_wp2_with fail
 refine HU.out.mono ?_
 rintro e w' ⟨⟨i, pb, h1, rfl, hi, hp, rfl⟩ | ⟨h1, rfl⟩, rfl⟩
 rotate_left
 ·rw [HD.out] at h1; cases h1
 obtain ⟨pb', hp', _, _, _, _, σ, hv, hc⟩ := H.out.place hi
 rw [hp] at hp'
 injection hp' with hp'
 subst hp'
 have gx := HG.out.node hi
 have HA := Hd (show s.applied (i : Int) = datas ((s.node (i : Int)).log.take (s.node (i : Int)).commit.toNat) from by unfold GS.applied; rw [if_pos h1]; rfl)
 have hpl := (H.out.ltp pb hp).2
 have x3 : w.cell? ⟨pb, i * 14 + 3, none⟩ = some (.slice σ.A3 (s.node (i : Int)).log.length σ.k3) := hc 3 _ rfl
 have x6 : w.cell? ⟨pb, i * 14 + 6, none⟩ = some (.int .i64 (s.node (i : Int)).commit) := hc 6 _ rfl
 have hcm : 0 ≤ (s.node (i : Int)).commit := gx.cm
 have hll : (s.node (i : Int)).log.length ≤ 100000 := gx.l
 clear h1 hp hc gx
 generalize s.node (i : Int) = n at *
 obtain ⟨c, hcc⟩ : ∃ c : Nat, c = min n.commit.toNat n.log.length := ⟨_, rfl⟩
 have hm1 : mx n.commit 0 = n.commit := by rw [mx_eq]; omega
 have hm2 : mn n.commit (n.log.length : Int) = (c : Int) := by rw [mn_eq]; omega
 have hcl : c ≤ n.log.length := by omega
 obtain ⟨lq, Aq, cq, ea, sl1, sl2, hrest⟩ := hv.hl
 injection ea with ea1 el ea2
 have hck : c ≤ σ.k3 := by omega
 have HF := Hd (show MM.Rd w (fun k => k < w.heap.size) 2 (.slice σ.A3 c σ.k3) c (entsC (n.log.take c)) from by rw [← entsC_take]; exact (rd_front hv.hl hcl hck (Nat.le_refl _)).mono (fun k _ hl => hl))
 have HCC := Hd hcc
 clear hv lq ea1 el ea2 hrest hcc
 go_upto_region 5 with (fail)
 refine name_world (F := fun W => Hid (W.heap[w.heap.size]? = some (.cells #[.slice none 0 0] 61 (0, 0))) ∧ Hid (W.cell? ⟨pb, i * 14 + 3, none⟩ = some (.slice σ.A3 n.log.length σ.k3)) ∧ Hid (W.cell? ⟨pb, i * 14 + 6, none⟩ = some (.int .i64 n.commit)) ∧ Hid (Below w.heap.size w W)) _ (by exact ⟨Hd (MM.alloc_new _ _), Hd ((World.cell?_of_block (a := ⟨pb, i * 14 + 3, none⟩) (Below.heap_alloc _ _ _ hpl)).trans x3), Hd ((World.cell?_of_block (a := ⟨pb, i * 14 + 6, none⟩) (Below.heap_alloc _ _ _ hpl)).trans x6), Hd ((Below.refl _ w).alloc (Nat.le_refl _) _)⟩) ?_
 clear x3 x6
 intro w2 ⟨R2, y3, y6, HB2⟩
 have e3 := y3.out
 have e6 := y6.out
 have hpl2 : pb < w2.heap.size := Nat.lt_of_lt_of_le hpl HB2.out.size
 refine wT (.p 0 (.p 1 (.p 2 (.p 3 (.s 4 (.p 5 (.p 6 (.p 7 (.p 8 (.s 9 (.p 10 (.p 11 (.p 12 (.p 13 (.p 14 (.s 15 (.p 16 (.p 17 (.p 18 (.w 19 [] .nil .stop)))))))))))))))))))) (by kernel_rfl) (by kernel_rfl) ?_
 repeat ((first | refine sP rfl fun K hK => ?_ | refine sS rfl fun K hK => ?_); go_simp; refine hK _ ?_; clear hK K)
 refine sW rfl rfl (fun K hK => ?_) sT
 go_wp2_with fail
 refine (said_any _ _ _ _).mono ?_
 rintro e w3 ⟨rfl, rfl⟩
 go_wp2_with fail
 refine qN _ _ _ _ (hK _ _ ?_ ?_) <;> clear hK K
 ·repeat first | exact aN | refine aO rfl rfl ?_ | refine aI rfl (by go_simp <;> rfl) ?_
 refine sN ?_
 refine name_world (F := fun W => Hid (Boxed W w.heap.size 61 (.slice none 0 0)) ∧ Hid (Boxed W w2.heap.size 24 (.slice σ.A3 c σ.k3)) ∧ Hid (MM.Rd W (fun k => k < w.heap.size) 2 (.slice σ.A3 c σ.k3) c (entsC (n.log.take c))) ∧ Hid (Below w.heap.size w W)) _ (by exact ⟨Hd ((Below.heap_alloc _ _ _ (MM.blk_lt R2.out)).trans R2.out), Hd (MM.alloc_new _ _), Hd (HF.out.step (fun k hk hl => (Below.heap_alloc _ _ _ (Nat.lt_of_lt_of_le hk HB2.out.size)).trans (HB2.out.block k hk))), Hd ((HB2.out.alloc HB2.out.size _).drew)⟩) ?_
 intro w3 ⟨R3, S3, HR3, HB3⟩
 have hz3 : w.heap.size + 2 ≤ w3.heap.size := by have h1 := MM.blk_lt S3.out; have h2 := MM.blk_lt R2.out; omega
 have htk : (n.log.take c).length = c := by rw [List.length_take]; omega
 have HR3' : MM.Rd w3 (fun k => k < w.heap.size) 2 (.slice σ.A3 (n.log.take c).length σ.k3) (n.log.take c).length (entsC (n.log.take c)) := by rw [htk]; exact HR3.out
 have hc3 : w3.cell? ⟨w2.heap.size, 0, none⟩ = some (.slice σ.A3 (n.log.take c).length σ.k3) := by rw [htk]; exact Boxed.cell S3.out
 obtain ⟨i0, hi0, hz0, hz1, hz2⟩ := info_parts info9
 go_wp2_with fail
 refine range_wide (gf := 119) (lb := #[.pointer (some ⟨w2.heap.size, 0, none⟩)]) Value.string 33 7 rfl (enters_of Try.func119 (by kernel_rfl) rfl)
  (said_stops 4 (by omega) w2.heap.size w.heap.size σ.A3 σ.k3 (n.log.take c) (by omega) w3 (MM.blk_lt S3.out) (by omega) hc3 HR3') belowK_t (belowK_b (by omega)) (Below.refl _ _) rfl
  (fun pre W => (∃ v, Boxed W w.heap.size 61 v ∧ W.ownsRow w.heap.size 9 1 v pre.length (textsC pre) ∧ True) ∧ Below w.heap.size w W)
  (OwnFrom.and (Own.from (holdsRow_own w.heap.size w.heap.size 61 9 1 (fun pre : List ByteArray => pre.length) (fun pre => textsC pre) (fun _ _ => True)) _) (ownFrom_below (Nat.le_refl _) (by omega)))
  ⟨⟨_, R3.out, World.ownsRow_nil _ _ _ _, trivial⟩, HB3.out⟩ ?assign ?body ?done
 case assign =>
  intro l x W K hK
  gi_wp2
  exact hK
 case body =>
  rintro l pre x W ⟨⟨v, hv, hrow, _⟩, hB⟩ hln
  have hvc := hv.cell
  have hlp : pre.length ≤ 100000 := by omega
  simp only [List.setIfInBounds_toArray, List.set_cons_zero, List.set_cons_succ]
  gi_wp2_with (gi_at_builtin; refine wpListIn_append_own _ rfl (.tmp 34) (.tmp 36) 61 rfl w.heap.size 9 i0 _ 1 16 Try.underlying61 hi0 hz0 hz1 hz2 rfl (by decide) _ _ _ rfl (hrow.alloc _) ⟨W.heap.size, 0, none⟩ 1 1 [.string x] rfl rfl (cell_one_new _ _ _) (by simp [Value.oneCell']) (by simp only [maxLen]; omega) (by omega) (by have := hB.size; simp; omega) ?_; intro v' w1 hown' hgrow _; obtain ⟨g', cap', rfl⟩ := ownsRow_succ hown'; obtain ⟨hv1, hv2, hr2, hk2, hb2⟩ := hv.appended (by decide) hrow hB.size (Nat.le_refl _) hown' hgrow; have hc1 := hv1.cell; have hf1 := hv1.frozen)
  exact ⟨hk2.from _, hb2, ⟨⟨_, hv2, by simpa [textsC] using hr2, trivial⟩, hB.trans hb2⟩⟩
 case done =>
  rintro D ys W hD rfl ⟨⟨v, hv, hrow, _⟩, hB⟩ hK
  have hvc := hv.cell
  have hds : (datas (n.log.take c)).length ≤ 100000 := by have := datas_take_len n.log c; omega
  have HRD := Hd (rd_of_owns hrow)
  have HB := Hd hB
  have HK := Hd hK
  obtain ⟨lq, Av, cv, rfl, _, _⟩ := rd_of_owns hrow
  clear hrow hB hK hv HR3' hc3
  dsimp only
  go_wp2_with fail
  refine (clone_string _ _ _ _ _ HRD.out (fun u hu => by obtain ⟨b, _, rfl⟩ := List.mem_map.1 hu; rfl) (by omega)).mono ?_
  rintro e w5 ⟨v', ob, rfl, hr5, hb5⟩
  have hDl : D < W.heap.size := MM.blk_lt HK.out
  have HK5 := Hd ((hb5.block D hDl).trans HK.out)
  have HR5 := Hd hr5
  have HB5 := Hd (HB.out.trans (hb5.mono HB.out.size))
  clear hr5 hb5
  go_wp2_with fail
  refine ⟨by simp, .inl ⟨_, _, rfl, run_takeDeferred HK5.out, ?_⟩⟩
  refine ⟨_, results_tmp rfl _ _ _, v', ob, rfl, ?_, ?_⟩
  ·have htk2 : n.log.take c = n.log.take n.commit.toNat := by rw [HCC.out, ← List.take_eq_take_min]
   rw [HA.out, ← htk2]
   have hr := HR5.out
   refine (hr.lower HB.out.size).step (w1 := w5.putObj D (.deferred none)) (fun k hk _ => ?_)
   refine (grownBy_putObj' w5 D (.deferred none)).block k (hr.lt k hk).2 (fun e => ?_)
   injection e with e
   obtain ⟨_, _, h9⟩ := hr.ty k hk
   rw [e, HK5.out] at h9
   cases h9
  ·exact HB5.out.trans (belowK_b (w := w) (Nat.le_refl _) w5 D _ _ (by omega) HK5.out rfl rfl)
end Go.Proofs.Ytnkmljdkokcdjaa
namespace Go.Proofs.Ytnkmljdkokcdjaa
open Go.RowKit Fed
attribute [local go_sem high] Fed.max2_int Fed.min2_int Fed.MA Fed.ZN Fed.ZM Fed.NA
theorem GroupAt.lower {w : World} {B B' g : Nat} {s : GS} {μ : GM} {ok : Nat → Prop} (h : GroupAt w B g s μ ok) (hb : B' ≤ B) : GroupAt w B' g s μ ok := by
 obtain ⟨cs, p1, p2⟩ := h.pl
 obtain ⟨ds, f1, f2⟩ := h.fl
 exact ⟨Nat.le_trans hb h.hB, h.blk, h.ul, ⟨cs, p1.lower hb, p2⟩, ⟨ds, f1.lower hb, f2⟩, h.no, h.okl⟩
def GrpAt (w0 w : World) (g : Nat) (s : GS) (Z : Nat → Prop) : Prop := ∃ μ ok, GroupAt w w0.heap.size g s μ ok ∧ Below w0.heap.size w0 w ∧ ∀ k, Z k → k < w.heap.size ∧ ¬ μ.owns g k ∧ ¬ ok k
def Stays (w w' : World) (Z : Nat → Prop) : Prop := ∀ k, Z k → w'.heap[k]? = w.heap[k]?
theorem Stays.trans {w w1 w2 : World} {Z : Nat → Prop} (h : Stays w w1 Z) (h' : Stays w1 w2 Z) : Stays w w2 Z := fun k hk => (h' k hk).trans (h k hk)
theorem Stays.refl (w : World) (Z : Nat → Prop) : Stays w w Z := fun _ _ => rfl
theorem GrpAt.go {w0 w w' : World} {g : Nat} {s' : GS} {μ μ' : GM} {ok ok' Z : Nat → Prop} (hb : Below w0.heap.size w0 w) (hz : ∀ k, Z k → k < w.heap.size ∧ ¬ μ.owns g k ∧ ¬ ok k) (h' : GroupAt w' w0.heap.size g s' μ' ok') (hs : GStep w w' w0.heap.size g μ μ' ok ok') : GrpAt w0 w' g s' Z ∧ Stays w w' Z :=
 ⟨⟨μ', ok', h', hb.trans hs.below, fun k hk => ⟨Nat.lt_of_lt_of_le (hz k hk).1 hs.below.size, fun q => by rcases hs.own k q with q | q; exact (hz k hk).2.1 q; have := (hz k hk).1; omega, fun q => by rcases hs.oks k q with q | q; exact (hz k hk).2.2 q; have := (hz k hk).1; omega⟩⟩, fun k hk => hs.keep k (hz k hk).1 (hz k hk).2.1⟩
theorem GrpAt.bel {w0 w : World} {g : Nat} {s : GS} {Z : Nat → Prop} (h : GrpAt w0 w g s Z) : Below w0.heap.size w0 w := by obtain ⟨_, _, _, hb, _⟩ := h; exact hb
theorem GrpAt.below {w0 w w' : World} {g : Nat} {s : GS} {Z : Nat → Prop} (h : GrpAt w0 w g s Z) (hb : Below w.heap.size w w') : GrpAt w0 w' g s Z := by
 obtain ⟨μ, ok, h1, h2, h3⟩ := h
 exact ⟨μ, ok, h1.below hb, h2.trans (hb.mono h2.size), fun k hk => ⟨Nat.lt_of_lt_of_le (h3 k hk).1 hb.size, (h3 k hk).2⟩⟩
theorem GrpAt.newer {w0 w w' : World} {g : Nat} {s : GS} {Z : Nat → Prop} (h : GrpAt w0 w g s Z) (hb : Below w.heap.size w w') : GrpAt w0 w' g s (fun k => Z k ∨ (w.heap.size ≤ k ∧ k < w'.heap.size)) := by
 obtain ⟨μ, ok, h1, h2, h3⟩ := h
 refine ⟨μ, ok, h1.below hb, h2.trans (hb.mono h2.size), fun k hk => ?_⟩
 rcases hk with hk | hk
 ·exact ⟨Nat.lt_of_lt_of_le (h3 k hk).1 hb.size, (h3 k hk).2⟩
 ·exact ⟨hk.2, fun q => by have := (h1.ownlt k q).2; omega, fun q => by have := h1.okl k q; omega⟩
theorem GrpAt.touch {w0 w w' : World} {g : Nat} {s : GS} {Z Z' : Nat → Prop} (h : GrpAt w0 w g s Z) (hm : ∀ k, k < w.heap.size → ¬ Z k → w'.heap[k]? = w.heap[k]?) (hb : Below w0.heap.size w w') (hz' : ∀ k, Z' k → Z k ∨ (w.heap.size ≤ k ∧ k < w'.heap.size)) : GrpAt w0 w' g s Z' := by
 obtain ⟨μ, ok, h1, h2, h3⟩ := h
 refine ⟨μ, ok, h1.step (fun k hk => hm k (by rcases hk with hk | hk; exact (h1.ownlt k hk).2; exact h1.okl k hk) (fun q => by rcases hk with hk | hk; exact (h3 k q).2.1 hk; exact (h3 k q).2.2 hk)) hb.size, h2.trans hb, fun k hk => ?_⟩
 rcases hz' k hk with hk | hk
 ·exact ⟨Nat.lt_of_lt_of_le (h3 k hk).1 hb.size, (h3 k hk).2⟩
 ·exact ⟨hk.2, fun q => by have := (h1.ownlt k q).2; omega, fun q => by have := h1.okl k q; omega⟩
theorem GrpAt.drew {w0 w : World} {g : Nat} {s : GS} {Z : Nat → Prop} (h : GrpAt w0 w g s Z) : GrpAt w0 w.drew g s Z := h.below ((Below.refl _ w).drew)
theorem GrpAt.alloc {w0 w : World} {g : Nat} {s : GS} {Z : Nat → Prop} (h : GrpAt w0 w g s Z) (o : Obj) : GrpAt w0 (w.alloc o) g s Z := h.below ((Below.refl _ w).alloc (Nat.le_refl _) o)
section
variable (w0 w : World) (g : Nat) (s : GS) (Z : Nat → Prop) (h : GrpAt w0 w g s Z) (K : Nat) (G : GoodG K s) (hK : K ≤ 1000)
include h G hK
theorem tickG (id : Int) : Calls Try.prog 49 #[.pointer (some ⟨g, 0, none⟩), .int .i64 id] w fun e w' => e = .returned (.tuple #[]) ∧ GrpAt w0 w' g (s.tick id) Z ∧ Stays w w' Z := by
 obtain ⟨μ, ok, h1, h2, hz⟩ := h
 refine (gTick_any w _ g s μ ok h1 K G hK id).mono ?_
 rintro e w' ⟨μ', ok', rfl, h3, h4⟩
 exact ⟨rfl, GrpAt.go h2 hz h3 h4⟩
theorem propG (id : Int) (d : ByteArray) : Calls Try.prog 41 #[.pointer (some ⟨g, 0, none⟩), .int .i64 id, .string d] w fun e w' => e = .returned (.bool (s.propOk id)) ∧ GrpAt w0 w' g (s.prop id d) Z ∧ Stays w w' Z := by
 obtain ⟨μ, ok, h1, h2, hz⟩ := h
 refine (gPropose_any w _ g s μ ok h1 K G hK id d).mono ?_
 rintro e w' ⟨μ', ok', rfl, h3, h4⟩
 exact ⟨rfl, GrpAt.go h2 hz h3 h4⟩
theorem deliverG (a : Int) : Calls Try.prog 46 #[.pointer (some ⟨g, 0, none⟩), .int .i64 a] w fun e w' => e = .returned (.bool (s.has a)) ∧ GrpAt w0 w' g (s.deliver a) Z ∧ Stays w w' Z := by
 obtain ⟨μ, ok, h1, h2, hz⟩ := h
 refine (gDeliver_any w _ g s μ ok h1 K G hK a).mono ?_
 rintro e w' ⟨μ', ok', rfl, h3, h4⟩
 exact ⟨rfl, GrpAt.go h2 hz h3 h4⟩
theorem flightG : Calls Try.prog 47 #[.pointer (some ⟨g, 0, none⟩)] w fun e w' => e = .returned (.int .i64 s.f.length) ∧ w = w' := by
 obtain ⟨μ, ok, h1, h2, hz⟩ := h
 have h3 := G.fl
 have h4 := hK
 exact gFlight_any w _ g s μ ok h1
theorem upG (id : Int) : Calls Try.prog 40 #[.pointer (some ⟨g, 0, none⟩), .int .i64 id] w fun e w' => e = .returned (.bool (s.isUp id)) ∧ w = w' := by
 obtain ⟨μ, ok, h1, h2, hz⟩ := h
 exact gUp_any w _ g s μ ok h1 id (by rw [G.len]; omega)
theorem leaderG (h0 : 0 < K) : Calls Try.prog 39 #[.pointer (some ⟨g, 0, none⟩)] w fun e w' => e = .returned (.int .i64 s.leader) ∧ GrpAt w0 w' g s Z ∧ Below w.heap.size w w' := by
 have h' := h
 obtain ⟨μ, ok, h1, h2, hz⟩ := h
 refine (gLeader_any w _ g s μ ok h1 (by rw [G.len]; omega) (by rw [G.len]; exact h0)).mono ?_
 rintro e w' ⟨rfl, hb⟩
 exact ⟨rfl, h'.below hb, hb⟩
theorem appliedRowG (id : Int) : Calls Try.prog 43 #[.pointer (some ⟨g, 0, none⟩), .int .i64 id] w fun e w' => (∃ A c ob, e = .returned (.slice A (s.applied id).length c) ∧ MM.Row w' w.heap.size 9 1 (.slice A (s.applied id).length c) (s.applied id).length (textsC (s.applied id)) ob) ∧ GrpAt w0 w' g s Z ∧ Below w.heap.size w w' := by
 have h' := h
 obtain ⟨μ, ok, h1, h2, hz⟩ := h
 cases hu : s.isUp id
 ·refine (gApplied_down w _ g s μ ok h1 id (by rw [G.len]; omega) hu).mono ?_
  rintro e w' ⟨rfl, rfl⟩
  have e0 : s.applied id = [] := by unfold GS.applied; rw [hu]; rfl
  rw [e0]
  exact ⟨⟨none, 0, none, rfl, MM.Row.nil _ _ _ _ _⟩, h', Below.refl _ _⟩
 ·refine (gApplied_up w _ g s μ ok h1 K G hK id hu).mono ?_
  rintro e w' ⟨v, ob, rfl, hr, hb⟩
  obtain ⟨A, c, rfl, _, _⟩ := hr.slice
  exact ⟨⟨A, c, ob, rfl, hr⟩, h'.below hb, hb⟩
theorem appliedG (id : Int) : Calls Try.prog 43 #[.pointer (some ⟨g, 0, none⟩), .int .i64 id] w fun e w' => (∃ A c, e = .returned (.slice A (s.applied id).length c) ∧ MM.Rd w' (fun k => w.heap.size ≤ k) 1 (.slice A (s.applied id).length c) (s.applied id).length (textsC (s.applied id))) ∧ GrpAt w0 w' g s Z ∧ Below w.heap.size w w' := by
 refine (appliedRowG w0 w g s Z h K G hK id).mono ?_
 rintro e w' ⟨⟨A, c, ob, rfl, hr⟩, h2, h3⟩
 exact ⟨⟨A, c, rfl, hr.rd.mono (fun k hk _ => (hr.lt k hk).1)⟩, h2, h3⟩
theorem nodeG (id : Int) : Calls Try.prog 48 #[.pointer (some ⟨g, 0, none⟩), .int .i64 id] w fun e w' => NodeSays w w' s id e ∧ GrpAt w0 w' g s Z ∧ Below w.heap.size w w' := by
 have h' := h
 obtain ⟨μ, ok, h1, h2, hz⟩ := h
 refine (gNode_any w _ g s μ ok h1 K G hK id).mono ?_
 rintro e w' ⟨h3, hb⟩
 exact ⟨h3, h'.below hb, hb⟩
end
theorem newG (w0 w : World) (k : Int) (n : Nat) (hkn : k = n) (h1 : 1 ≤ n) (hk : n ≤ 1000) (hb : Below w0.heap.size w0 w) :
  Calls Try.prog 36 #[.int .i64 k] w fun e w' => ∃ g, e = .returned (.pointer (some ⟨g, 0, none⟩)) ∧ GrpAt w0 w' g (GS.new n) (fun k => k < w.heap.size) := by
 subst hkn
 refine (gNew_any w n h1 hk).mono ?_
 rintro e w' ⟨g, μ, ok, rfl, h2, h3, h4⟩
 exact ⟨g, rfl, μ, ok, h2.lower hb.size, hb.trans (h4.mono hb.size), fun k hk => ⟨Nat.lt_of_lt_of_le hk h4.size, fun q => by have := (h2.ownlt k q).1; omega, fun q => by have := h3 k q; omega⟩⟩
end Go.Proofs.Ytnkmljdkokcdjaa
namespace Go.Proofs.Ytnkmljdkokcdjaa
open Go Go.RowKit Fed
def Both (w0 w : World) (g x : Nat) (s t : GS) (Z : Nat → Prop) : Prop :=
 ∃ ρ ok2, RefAt w w0.heap.size x t ρ ok2 ∧ GrpAt w0 w g s (fun k => ρ.owns x k ∨ ok2 k ∨ Z k) ∧ ∀ k, Z k → ¬ ρ.owns x k ∧ ¬ ok2 k
theorem RefAt.stay {w w' w0 : World} {B g x : Nat} {s t : GS} {ρ : RM} {ok Z : Nat → Prop} (r : RefAt w B x t ρ ok) (hg : GrpAt w0 w' g s (fun k => ρ.owns x k ∨ ok k ∨ Z k)) (hs : Stays w w' (fun k => ρ.owns x k ∨ ok k ∨ Z k)) : RefAt w' B x t ρ ok := by
 have hm : ∀ k, ρ.owns x k ∨ ok k → w'.heap[k]? = w.heap[k]? := fun k hk => hs k (by rcases hk with hk | hk; exact .inl hk; exact .inr (.inl hk))
 obtain ⟨μ, o, h1, h2, h3⟩ := hg
 exact ⟨r.hB, (hm x (.inl (.inl rfl))).trans r.blk, r.ul, r.nl.step (fun k hk => hm k (.inl (.inr (.inl hk)))) (fun k hk _ => hm k (.inr hk)), r.up.step fun k hk _ => hm k (.inl (.inr (.inr (.inl hk)))), r.fl.step (fun k hk => hm k (.inl (.inr (.inr (.inr hk))))) (fun k hk _ => hm k (.inr hk)), r.no, fun k hk => (h3 k (.inr (.inl hk))).1⟩
theorem Both.left {w0 w w' : World} {g x : Nat} {s' t : GS} {ρ : RM} {ok Z : Nat → Prop} (r : RefAt w w0.heap.size x t ρ ok) (hz : ∀ k, Z k → ¬ ρ.owns x k ∧ ¬ ok k) (hg : GrpAt w0 w' g s' (fun k => ρ.owns x k ∨ ok k ∨ Z k)) (hs : Stays w w' (fun k => ρ.owns x k ∨ ok k ∨ Z k)) : Both w0 w' g x s' t Z ∧ Stays w w' Z :=
 ⟨⟨ρ, ok, r.stay hg hs, hg, hz⟩, fun k hk => hs k (.inr (.inr hk))⟩
theorem Both.right {w0 w w' : World} {g x : Nat} {s t t' : GS} {ρ ρ' : RM} {ok ok' Z : Nat → Prop} (hg : GrpAt w0 w g s (fun k => ρ.owns x k ∨ ok k ∨ Z k)) (hz : ∀ k, Z k → ¬ ρ.owns x k ∧ ¬ ok k) (r : RefAt w' w0.heap.size x t' ρ' ok') (o : OStep w w' w0.heap.size (ρ.owns x) (ρ'.owns x) ok ok') : Both w0 w' g x s t' Z ∧ Stays w w' Z := by
 have hl : ∀ k, Z k → k < w.heap.size := fun k hk => by obtain ⟨μ, q, h1, h2, h3⟩ := hg; exact (h3 k (.inr (.inr hk))).1
 refine ⟨⟨ρ', ok', r, hg.touch (fun k hk hn => o.keep k hk (fun q => hn (.inl q))) o.below ?_, fun k hk => ⟨fun q => ?_, fun q => ?_⟩⟩, fun k hk => o.keep k (hl k hk) (hz k hk).1⟩
 ·intro k hk
  rcases hk with hk | hk | hk
  ·rcases o.own k hk with q | q
   ·exact .inl (.inl q)
   ·exact .inr ⟨q, (r.ownlt k hk).2⟩
  ·rcases o.oks k hk with q | q
   ·exact .inl (.inr (.inl q))
   ·exact .inr ⟨q, r.okl k hk⟩
  ·exact .inl (.inr (.inr hk))
 ·rcases o.own k q with q | q
  ·exact (hz k hk).1 q
  ·have := hl k hk; omega
 ·rcases o.oks k q with q | q
  ·exact (hz k hk).2 q
  ·have := hl k hk; omega
end Go.Proofs.Ytnkmljdkokcdjaa
namespace Go.Proofs.Ytnkmljdkokcdjaa
open Go.RowKit Fed
attribute [local go_sem high] Fed.max2_int Fed.min2_int Fed.MA Fed.ZN Fed.ZM Fed.NA
def StaysB (w0 w w' : World) (Z : Nat → Prop) : Prop := Stays w w' Z ∧ Below w0.heap.size w w'
theorem StaysB.trans {w0 w w1 w2 : World} {Z : Nat → Prop} (h : StaysB w0 w w1 Z) (h' : StaysB w0 w1 w2 Z) : StaysB w0 w w2 Z := ⟨h.1.trans h'.1, h.2.trans h'.2⟩
theorem StaysB.refl (w0 w : World) (Z : Nat → Prop) : StaysB w0 w w Z := ⟨Stays.refl w Z, Below.refl _ _⟩
theorem b_gtick {w0 w : World} {g x : Nat} {s t : GS} {Z : Nat → Prop} (h : Both w0 w g x s t Z) {K : Nat} (G : GoodG K s) (hK : K ≤ 1000) (id : Int) : Calls Try.prog 49 #[.pointer (some ⟨g, 0, none⟩), .int .i64 id] w fun e w' => e = .returned (.tuple #[]) ∧ Both w0 w' g x (s.tick id) t Z ∧ StaysB w0 w w' Z := by
 obtain ⟨ρ, ok, r, p, z⟩ := h
 obtain ⟨μ, o, h1, h2, hz⟩ := p
 refine (gTick_any w _ g s μ o h1 K G hK id).mono ?_
 rintro e w' ⟨μ', o', rfl, h3, h4⟩
 obtain ⟨q1, q2⟩ := GrpAt.go h2 hz h3 h4
 exact ⟨rfl, (Both.left r z q1 q2).1, (Both.left r z q1 q2).2, h4.below⟩
theorem b_rtick {w0 w : World} {g x : Nat} {s t : GS} {Z : Nat → Prop} (h : Both w0 w g x s t Z) {K : Nat} (G : GoodG K t) (hK : K ≤ 1000) (id : Int) : Calls Try.prog 86 #[.pointer (some ⟨x, 0, none⟩), .int .i64 id] w fun e w' => e = .returned (.tuple #[]) ∧ Both w0 w' g x s (t.tick id) Z ∧ StaysB w0 w w' Z := by
 obtain ⟨ρ, ok, r, p, z⟩ := h
 refine (rTick_any w _ x t ρ ok r K G hK id).mono ?_
 rintro e w' ⟨ρ', ok', rfl, h1, h2⟩
 exact ⟨rfl, (Both.right (t := t) p z h1 h2).1, (Both.right (t := t) p z h1 h2).2, h2.below⟩
theorem b_gdeliver {w0 w : World} {g x : Nat} {s t : GS} {Z : Nat → Prop} (h : Both w0 w g x s t Z) {K : Nat} (G : GoodG K s) (hK : K ≤ 1000) (id : Int) : Calls Try.prog 46 #[.pointer (some ⟨g, 0, none⟩), .int .i64 id] w fun e w' => e = .returned (.bool (s.has id)) ∧ Both w0 w' g x (s.deliver id) t Z ∧ StaysB w0 w w' Z := by
 obtain ⟨ρ, ok, r, p, z⟩ := h
 obtain ⟨μ, o, h1, h2, hz⟩ := p
 refine (gDeliver_any w _ g s μ o h1 K G hK id).mono ?_
 rintro e w' ⟨μ', o', rfl, h3, h4⟩
 obtain ⟨q1, q2⟩ := GrpAt.go h2 hz h3 h4
 exact ⟨rfl, (Both.left r z q1 q2).1, (Both.left r z q1 q2).2, h4.below⟩
theorem b_rdeliver {w0 w : World} {g x : Nat} {s t : GS} {Z : Nat → Prop} (h : Both w0 w g x s t Z) {K : Nat} (G : GoodG K t) (hK : K ≤ 1000) (id : Int) : Calls Try.prog 54 #[.pointer (some ⟨x, 0, none⟩), .int .i64 id] w fun e w' => e = .returned (.bool (t.has id)) ∧ Both w0 w' g x s (t.deliver id) Z ∧ StaysB w0 w w' Z := by
 obtain ⟨ρ, ok, r, p, z⟩ := h
 refine (rDeliver_any w _ x t ρ ok r K G hK id).mono ?_
 rintro e w' ⟨ρ', ok', rfl, h1, h2⟩
 exact ⟨rfl, (Both.right (t := t) p z h1 h2).1, (Both.right (t := t) p z h1 h2).2, h2.below⟩
theorem b_gprop {w0 w : World} {g x : Nat} {s t : GS} {Z : Nat → Prop} (h : Both w0 w g x s t Z) {K : Nat} (G : GoodG K s) (hK : K ≤ 1000) (id : Int) (d : ByteArray) : Calls Try.prog 41 #[.pointer (some ⟨g, 0, none⟩), .int .i64 id, .string d] w fun e w' => e = .returned (.bool (s.propOk id)) ∧ Both w0 w' g x (s.prop id d) t Z ∧ StaysB w0 w w' Z := by
 obtain ⟨ρ, ok, r, p, z⟩ := h
 obtain ⟨μ, o, h1, h2, hz⟩ := p
 refine (gPropose_any w _ g s μ o h1 K G hK id d).mono ?_
 rintro e w' ⟨μ', o', rfl, h3, h4⟩
 obtain ⟨q1, q2⟩ := GrpAt.go h2 hz h3 h4
 exact ⟨rfl, (Both.left r z q1 q2).1, (Both.left r z q1 q2).2, h4.below⟩
theorem b_rprop {w0 w : World} {g x : Nat} {s t : GS} {Z : Nat → Prop} (h : Both w0 w g x s t Z) {K : Nat} (G : GoodG K t) (hK : K ≤ 1000) (id : Int) (d : ByteArray) : Calls Try.prog 90 #[.pointer (some ⟨x, 0, none⟩), .int .i64 id, .string d] w fun e w' => e = .returned (.bool (t.propOk id)) ∧ Both w0 w' g x s (t.prop id d) Z ∧ StaysB w0 w w' Z := by
 obtain ⟨ρ, ok, r, p, z⟩ := h
 refine (rPropose_any w _ x t ρ ok r K G hK id d).mono ?_
 rintro e w' ⟨ρ', ok', rfl, h1, h2⟩
 exact ⟨rfl, (Both.right (t := t) p z h1 h2).1, (Both.right (t := t) p z h1 h2).2, h2.below⟩
theorem b_gcrash {w0 w : World} {g x : Nat} {s t : GS} {Z : Nat → Prop} (h : Both w0 w g x s t Z) {K : Nat} (G : GoodG K s) (hK : K ≤ 1000) (id : Int) : Calls Try.prog 37 #[.pointer (some ⟨g, 0, none⟩), .int .i64 id] w fun e w' => e = .returned (.bool (s.isUp id)) ∧ Both w0 w' g x (s.crash id) t Z ∧ StaysB w0 w w' Z := by
 obtain ⟨ρ, ok, r, p, z⟩ := h
 obtain ⟨μ, o, h1, h2, hz⟩ := p
 refine (gCrash_any w _ g s μ o h1 id (by rw [G.len]; omega)).mono ?_
 rintro e w' ⟨rfl, h3, h4⟩
 obtain ⟨q1, q2⟩ := GrpAt.go h2 hz h3 h4
 exact ⟨rfl, (Both.left r z q1 q2).1, (Both.left r z q1 q2).2, h4.below⟩
theorem b_rstart {w0 w : World} {g x : Nat} {s t : GS} {Z : Nat → Prop} (h : Both w0 w g x s t Z) {K : Nat} (G : GoodG K t) (hK : K ≤ 1000) (id : Int) (form : Int) : Calls Try.prog 91 #[.pointer (some ⟨x, 0, none⟩), .int .i64 id, .int .i64 form] w fun e w' => e = .returned (.bool (t.startOk id form)) ∧ Both w0 w' g x s (t.start id form) Z ∧ StaysB w0 w w' Z := by
 obtain ⟨ρ, ok, r, p, z⟩ := h
 refine (rStart_any w _ x t ρ ok r K G hK id form).mono ?_
 rintro e w' ⟨ρ', ok', rfl, h1, h2⟩
 exact ⟨rfl, (Both.right (t := t) p z h1 h2).1, (Both.right (t := t) p z h1 h2).2, h2.below⟩
theorem b_rcrash {w0 w : World} {g x : Nat} {s t : GS} {Z : Nat → Prop} (h : Both w0 w g x s t Z) {K : Nat} (G : GoodG K t) (hK : K ≤ 1000) (id : Int) : Calls Try.prog 56 #[.pointer (some ⟨x, 0, none⟩), .int .i64 id] w fun e w' => e = .returned (.bool (t.isUp id)) ∧ Both w0 w' g x s (t.crash id) Z ∧ StaysB w0 w w' Z := by
 obtain ⟨ρ, ok, r, p, z⟩ := h
 refine (rCrash_any w _ x t ρ ok r id (by rw [G.len]; exact hK)).mono ?_
 rintro e w' ⟨ρ', ok', rfl, h1, h2⟩
 exact ⟨rfl, (Both.right (t := t) p z h1 h2).1, (Both.right (t := t) p z h1 h2).2, h2.below⟩
theorem b_rdrop {w0 w : World} {g x : Nat} {s t : GS} {Z : Nat → Prop} (h : Both w0 w g x s t Z) {K : Nat} (G : GoodG K t) (hK : K ≤ 1000) (id : Int) : Calls Try.prog 87 #[.pointer (some ⟨x, 0, none⟩), .int .i64 id] w fun e w' => e = .returned (.bool (t.has id)) ∧ Both w0 w' g x s (t.cut id) Z ∧ StaysB w0 w w' Z := by
 obtain ⟨ρ, ok, r, p, z⟩ := h
 refine (rDrop_any w _ x t ρ ok r id (by have := G.fl; omega)).mono ?_
 rintro e w' ⟨ρ', rfl, h1, h2⟩
 exact ⟨rfl, (Both.right (t := t) p z h1 h2).1, (Both.right (t := t) p z h1 h2).2, h2.below⟩
theorem b_rtwice {w0 w : World} {g x : Nat} {s t : GS} {Z : Nat → Prop} (h : Both w0 w g x s t Z) {K : Nat} (G : GoodG K t) (hK : K ≤ 1000) (id : Int) : Calls Try.prog 88 #[.pointer (some ⟨x, 0, none⟩), .int .i64 id] w fun e w' => e = .returned (.bool (t.has id)) ∧ Both w0 w' g x s (t.twice id) Z ∧ StaysB w0 w w' Z := by
 obtain ⟨ρ, ok, r, p, z⟩ := h
 refine (rTwice_any w _ x t ρ ok r id (by have := G.fl; omega)).mono ?_
 rintro e w' ⟨ρ', rfl, h1, h2⟩
 exact ⟨rfl, (Both.right (t := t) p z h1 h2).1, (Both.right (t := t) p z h1 h2).2, h2.below⟩
theorem b_rflight {w0 w : World} {g x : Nat} {s t : GS} {Z : Nat → Prop} (h : Both w0 w g x s t Z) {K : Nat} (G : GoodG K t) (hK : K ≤ 1000) : Calls Try.prog 52 #[.pointer (some ⟨x, 0, none⟩)] w fun e w' => e = .returned (.int .i64 t.f.length) ∧ w = w' := by
 obtain ⟨ρ, ok, r, p, z⟩ := h
 exact rFlight_any w _ x t ρ ok r
theorem b_gdrop {w0 w : World} {g x : Nat} {s t : GS} {Z : Nat → Prop} (h : Both w0 w g x s t Z) {K : Nat} (G : GoodG K s) (hK : K ≤ 1000) (id : Int) : Calls Try.prog 44 #[.pointer (some ⟨g, 0, none⟩), .int .i64 id] w fun e w' => e = .returned (.bool (s.has id)) ∧ Both w0 w' g x (s.cut id) t Z ∧ StaysB w0 w w' Z := by
 obtain ⟨ρ, ok, r, p, z⟩ := h
 obtain ⟨μ, o, h1, h2, hz⟩ := p
 refine (gDrop_any w _ g s μ o h1 id (by have := G.fl; omega)).mono ?_
 rintro e w' ⟨μ', rfl, h3, h4⟩
 obtain ⟨q1, q2⟩ := GrpAt.go h2 hz h3 h4
 exact ⟨rfl, (Both.left r z q1 q2).1, (Both.left r z q1 q2).2, h4.below⟩
theorem b_gtwice {w0 w : World} {g x : Nat} {s t : GS} {Z : Nat → Prop} (h : Both w0 w g x s t Z) {K : Nat} (G : GoodG K s) (hK : K ≤ 1000) (id : Int) : Calls Try.prog 45 #[.pointer (some ⟨g, 0, none⟩), .int .i64 id] w fun e w' => e = .returned (.bool (s.has id)) ∧ Both w0 w' g x (s.twice id) t Z ∧ StaysB w0 w w' Z := by
 obtain ⟨ρ, ok, r, p, z⟩ := h
 obtain ⟨μ, o, h1, h2, hz⟩ := p
 refine (gTwice_any w _ g s μ o h1 id (by have := G.fl; omega)).mono ?_
 rintro e w' ⟨μ', o', rfl, h3, h4⟩
 obtain ⟨q1, q2⟩ := GrpAt.go h2 hz h3 h4
 exact ⟨rfl, (Both.left r z q1 q2).1, (Both.left r z q1 q2).2, h4.below⟩
theorem b_gstart {w0 w : World} {g x : Nat} {s t : GS} {Z : Nat → Prop} (h : Both w0 w g x s t Z) {K : Nat} (G : GoodG K s) (hK : K ≤ 1000) (id : Int) (form : Int) : Calls Try.prog 57 #[.pointer (some ⟨g, 0, none⟩), .int .i64 id, .int .i64 form] w fun e w' => e = .returned (.bool (s.startOk id form)) ∧ Both w0 w' g x (s.start id form) t Z ∧ StaysB w0 w w' Z := by
 obtain ⟨ρ, ok, r, p, z⟩ := h
 obtain ⟨μ, o, h1, h2, hz⟩ := p
 refine (gStart_any w _ g s μ o h1 K G hK id form).mono ?_
 rintro e w' ⟨μ', o', rfl, h3, h4⟩
 obtain ⟨q1, q2⟩ := GrpAt.go h2 hz h3 h4
 exact ⟨rfl, (Both.left r z q1 q2).1, (Both.left r z q1 q2).2, h4.below⟩
theorem Both.below {w0 w w' : World} {g x : Nat} {s t : GS} {Z : Nat → Prop} (h : Both w0 w g x s t Z) (hb : Below w.heap.size w w') : Both w0 w' g x s t Z := by
 obtain ⟨ρ, ok, r, p, z⟩ := h
 exact ⟨ρ, ok, r.below hb, p.below hb, z⟩
theorem b_rleader {w0 w : World} {g x : Nat} {s t : GS} {Z : Nat → Prop} (h : Both w0 w g x s t Z) {K : Nat} (G : GoodG K t) (hK : K ≤ 1000) (h0 : 0 < K) : Calls Try.prog 89 #[.pointer (some ⟨x, 0, none⟩)] w fun e w' => e = .returned (.int .i64 t.leader) ∧ Both w0 w' g x s t Z ∧ Below w.heap.size w w' := by
 have H := h
 obtain ⟨ρ, ok, r, p, z⟩ := h
 refine (rLeader_any w _ x t ρ ok r (by rw [G.len]; exact hK) (by rw [G.len]; exact h0)).mono ?_
 rintro e w' ⟨rfl, hb⟩
 exact ⟨rfl, H.below hb, hb⟩
theorem b_gup {w0 w : World} {g x : Nat} {s t : GS} {Z : Nat → Prop} (h : Both w0 w g x s t Z) {K : Nat} (G : GoodG K s) (hK : K ≤ 1000) (id : Int) : Calls Try.prog 40 #[.pointer (some ⟨g, 0, none⟩), .int .i64 id] w fun e w' => e = .returned (.bool (s.isUp id)) ∧ w = w' := by
 obtain ⟨ρ, ok, r, p, z⟩ := h
 exact upG w0 w g s _ p K G hK id
end Go.Proofs.Ytnkmljdkokcdjaa
namespace Go.Proofs.Ytnkmljdkokcdjaa
open Go.RowKit Fed
attribute [local go_sem high] Fed.max2_int Fed.min2_int Fed.MA Fed.ZN Fed.ZM Fed.NA
end Go.Proofs.Ytnkmljdkokcdjaa
