/- The iterator over the data of entries that have any ('said'): its contract. -/
import Derived.RangeFuncNested
import Derived.RangeFuncBound
import Derived.RangeFuncCalls
import Derived.RangeFuncLeaves
import Derived.RangeFuncBox
import Derived.Shelf.Abstract
import Derived.Shelf.RegionOpen
import Derived.WalkKit
import Derived.OwnWalkIn
import Derived.TacticsInMore
import Derived.LoopNIn
import Derived.LoopIn
import Derived.IntWalk
import Derived.Lib.Hide
import Derived.Test.YtnkmljdkokcdjaaGa
import Derived.Test.YtnkmljdkokcdjaaChecked
set_option linter.unusedVariables false
set_option linter.unusedSimpArgs false
namespace Go.Proofs.Ytnkmljdkokcdjaa
open Go Go.RowKit Go.Shelf Fed
set_option linter.unusedVariables false
attribute [local go_sem] Oper.semAt_some

theorem datas_succ {es : List Fed.Entry} {k : Nat} {e : Fed.Entry} (h : es[k]? = some e) : datas (es.take (k + 1)) = datas (es.take k) ++ (if e.data.toList.isEmpty = true then [] else [e.data]) := by
  unfold datas
  rw [List.take_add_one, h, List.filter_append, List.map_append]
  by_cases hd : e.data.toList.isEmpty = true
  · rw [if_pos hd]; simp [hd]
  · rw [if_neg hd]; simp [hd]
theorem datas_take_len (es : List Fed.Entry) (k : Nat) : (datas (es.take k)).length ≤ k := by
  unfold datas
  rw [List.length_map]
  exact Nat.le_trans (List.length_filter_le _ _) (List.length_take_le _ _)
theorem datas_prefix (es : List Fed.Entry) (k : Nat) : datas (es.take k) <+: datas es := by
  have h : datas es = datas (es.take k) ++ datas (es.drop k) := by
    unfold datas
    rw [← List.map_append, ← List.filter_append, List.take_append_drop]
  rw [h]
  exact List.prefix_append _ _
set_option maxRecDepth 100000 in
set_option maxHeartbeats 4000000 in
theorem said1_in (n : Nat) (hn : 1 ≤ n) (l Bs n0 b o len cap : Nat) (es : List Fed.Entry) (hlen : es.length = len) (hl : len ≤ 1000000) (B0 : Nat) (hb : b < n0) (J Jx : List ByteArray → World → Prop) (hJ : AbidesFrom B0 J)
    (hY : ∀ pre x W, J pre W → pre.length < len → YieldAt Fence.wide (n - 1) Try.prog l #[.string x] W fun e W' =>
      (e = .returned (.bool true) ∧ J (pre ++ [x]) W' ∧ Below n0 W W') ∨ (e = .returned (.bool false) ∧ Jx (pre ++ [x]) W'))
    (W : World) (hn0 : n0 ≤ W.heap.size) (hB0 : B0 ≤ W.heap.size) (hBs : W.cell? ⟨Bs, 0, none⟩ = some (.slice (some ⟨b, o, none⟩) len cap)) (hc : ∀ j u, (entsC es)[j]? = some u → W.cell? ⟨b, o + j, none⟩ = some u) (h0 : J [] W) :
    CallsIn Fence.wide n Try.prog 119 #[.func (.yield l) #[] #[], .pointer (some ⟨Bs, 0, none⟩)] W fun e W' => (∃ v, e = .returned v) ∧
      ((∃ ys, ys = datas es ∧ J ys W') ∨ (∃ pre, pre <+: datas es ∧ Jx pre W')) := by
  refine callsIn_of_wp Try.func119 rfl trivial ?_ rfl
  simp only [Try.ntmps119, List.size_toArray, List.length_cons, List.length_nil, Nat.reduceAdd, Nat.reduceSub, Array.replicate_succ, Array.replicate_zero, List.push_toArray, List.append_toArray, List.nil_append, List.cons_append]
  gi_wp2
  gi_loopw [7] (fun i wr => ∃ k : Nat, k ≤ len ∧ i = .int .i64 k ∧ J (datas (es.take k)) wr ∧ Below n0 W wr)
    (fun i _ => len - (intOf i).toNat)
  case atStart => exact ⟨0, Nat.zero_le _, rfl, h0, Below.refl _ _⟩
  case round =>
    obtain ⟨k, hk, rfl, hJs, hnx⟩ := hrel
    by_cases hlt : k < len
    · obtain ⟨e, he⟩ : ∃ e, es[k]? = some e := ⟨_, List.getElem?_eq_getElem (by omega)⟩
      obtain ⟨g1, g2⟩ := entsC_get he
      have c1 : wr.cell? ⟨b, o + k * 2, none⟩ = some (.int .i64 e.term) := (hnx.cell (p := ⟨b, o + k * 2, none⟩) hb).trans (hc _ _ g1)
      have c2 : wr.cell? ⟨b, o + k * 2 + 1, none⟩ = some (.string e.data) := (hnx.cell (p := ⟨b, o + (k * 2 + 1), none⟩) hb).trans (hc _ _ g2)
      have hsz := hnx.size
      have hJ' : J (datas (es.take k)) (wr.alloc (.cells #[.int .i64 e.term, .string e.data] 40 (0, 0))) := hJ _ wr _ none hJs (World.grownBy_alloc wr _ none) (fun r q => by cases q)
      have hnx' : Below n0 W (wr.alloc (.cells #[.int .i64 e.term, .string e.data] 40 (0, 0))) := hnx.alloc (by omega) _
      have hds := datas_succ he
      cases hd : e.data.toList.isEmpty
      rotate_left
      · rw [if_pos hd, List.append_nil] at hds
        have HDS := Lib.hid hds
        clear g1 g2 hds
        gi_wp2
        refine ⟨fun _ h => (by cases h), ?_⟩
        gi_wp2
        go_roundw
        case rel => exact ⟨k + 1, by omega, by simp, by rw [HDS.out]; exact hJ', hnx'⟩
        case measure => simp [intOf]; omega
      · rw [if_neg (by rw [hd]; simp)] at hds
        have HDS := Lib.hid hds
        clear g1 g2 hds
        obtain ⟨fn, tmps, assign, body, hy, hR⟩ := hY _ e.data _ hJ' (Nat.lt_of_le_of_lt (datas_take_len es k) hlt)
        gi_wp2
        refine hR.mono ?_
        rintro e' W3 (⟨rfl, hJ3, hk3⟩ | ⟨rfl, hJx3⟩)
        · gi_wp2
          go_roundw
          case rel => exact ⟨k + 1, by omega, by simp, by rw [HDS.out]; exact hJ3, hnx'.trans hk3⟩
          case measure => simp [intOf]; omega
        · gi_wp2
          refine bodyPost_ret (results_none rfl _ _ _) rfl ?_
          exact ⟨⟨_, rfl⟩, .inr ⟨_, by rw [← HDS.out]; exact datas_prefix es (k + 1), hJx3⟩⟩
    · obtain rfl : k = len := by omega
      gi_wp2
      go_end0
      exact ⟨⟨_, rfl⟩, .inl ⟨_, by rw [← hlen, List.take_length], hJs⟩⟩
set_option maxRecDepth 100000 in
set_option maxHeartbeats 1000000 in
theorem said1_nil (n : Nat) (l Bs : Nat) (A : Option Addr) (cap : Nat) (J : List ByteArray → World → Prop) (W : World) (hBs : W.cell? ⟨Bs, 0, none⟩ = some (.slice A 0 cap)) (h0 : J [] W) :
    CallsIn Fence.wide n Try.prog 119 #[.func (.yield l) #[] #[], .pointer (some ⟨Bs, 0, none⟩)] W fun e W' => (∃ v, e = .returned v) ∧ J [] W' := by
  refine callsIn_of_wp Try.func119 rfl trivial ?_ rfl
  simp only [Try.ntmps119, List.size_toArray, List.length_cons, List.length_nil, Nat.reduceAdd, Nat.reduceSub, Array.replicate_succ, Array.replicate_zero, List.push_toArray, List.append_toArray, List.nil_append, List.cons_append]
  gi_wp2
  gi_loopw [7] (fun i wr => i = .int .i64 0 ∧ J [] wr) (fun _ _ => 0)
  case atStart => exact ⟨rfl, h0⟩
  case round =>
    obtain ⟨rfl, hJs⟩ := hrel
    gi_wp2
    go_end0
    exact ⟨⟨_, rfl⟩, hJs⟩
theorem said_stops (n : Nat) (hn : 1 ≤ n) (Bs n0 : Nat) (A : Option Addr) (cap : Nat) (es : List Fed.Entry) (hl : es.length ≤ 1000000) (w : World) (hBs : Bs < w.heap.size) (hn0 : n0 ≤ w.heap.size)
    (hc : w.cell? ⟨Bs, 0, none⟩ = some (.slice A es.length cap)) (hr : MM.Rd w (fun k => k < n0) 2 (.slice A es.length cap) es.length (entsC es)) :
    SeqStopsK Fence.wide n Try.prog 119 #[.pointer (some ⟨Bs, 0, none⟩)] (fun x : ByteArray => #[Value.string x]) (Below n0) (fun ys => ys = datas es) (fun pre => pre <+: datas es) es.length w := fun l J Jx W hW hJ _ hY h0 => by
  have hc' := (hW.cell (p := ⟨Bs, 0, none⟩) hBs).trans hc
  rcases Nat.eq_zero_or_pos es.length with h | h
  · obtain rfl : es = [] := List.eq_nil_of_length_eq_zero h
    exact (said1_nil n l Bs A cap J W hc' h0).mono fun e W' ⟨he, hj⟩ => ⟨he, .inl ⟨_, rfl, hj⟩⟩
  · obtain ⟨_, A', c', e, _, _, hrest⟩ := hr
    injection e with e1 e2 e3
    subst e1 e3
    obtain ⟨b, o, rfl, hb, hbl, hcell⟩ := hrest h
    exact said1_in n hn l Bs n0 b o es.length cap es rfl hl W.heap.size hb J Jx hJ hY W (Nat.le_trans hn0 hW.size) (Nat.le_refl _) hc' (fun j u hj => (hW.cell (p := ⟨b, o + j, none⟩) hbl).trans (hcell j u hj)) h0
end Go.Proofs.Ytnkmljdkokcdjaa
