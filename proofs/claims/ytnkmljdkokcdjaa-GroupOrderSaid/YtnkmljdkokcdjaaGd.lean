/-
  slices.Delete of one message takes it out of its row. Condition: the row is the group's own.
-/
import Derived.WalkKit
import Derived.WalkSpells
import Derived.Lib.Hide
import Derived.Outline
import Derived.Test.YtnkmljdkokcdjaaChecked
import Derived.Test.YtnkmljdkokcdjaaMn
import Derived.Test.YtnkmljdkokcdjaaMem
import Derived.Test.YtnkmljdkokcdjaaFed
import Derived.Test.YtnkmljdkokcdjaaGc
import Derived.Test.YtnkmljdkokcdjaaMf
import Derived.Deep.DeepCutAuto
import Derived.Deep.CutBlock
import Derived.Deep.OwnRows
import Derived.IntWalk
set_option linter.unusedVariables false
set_option linter.unusedSimpArgs false
namespace Go.Proofs.Ytnkmljdkokcdjaa
open Go.RowKit Fed
set_option linter.unusedVariables false
attribute [local go_sem high] Fed.max2_int Fed.min2_int

theorem setCells_eq {b : Nat} : ∀ {us : List Value} {w : World} {o : Nat}, w.setCells b o us = putL w b o us
  | [], _, _ => rfl
  | u :: us, w, o => by rw [World.setCells, putL, setCells_eq]
def zmL : List Value := [.int .i64 0, .int .i64 0, .int .i64 0, .int .i64 0, .int .i64 0, .int .i64 0, .bool false, .slice none 0 0, .int .i64 0, .int .i64 0]
theorem run_clear34 (w : World) (ty : TypeId) (b o c : Nat) (hc : ∀ j, j < 10 → (w.cell? ⟨b, o + j, none⟩).isSome = true) (hf : ∀ j, j < 10 → w.frozen? ⟨b, o + j, none⟩ = false) :
    (Builtin.clear_ #[30] ty #[.slice (some ⟨b, o, none⟩) 1 c]).run Try.prog w = .ok (.tuple #[]) (putL w b o zmL) := by
  obtain ⟨i0, hi, hz0, hz1, hz2⟩ := info_parts info34
  have hzc : (Builtin.zeroCells (Value.agg #[.int .i64 0, .int .i64 0, .int .i64 0, .int .i64 0, .int .i64 0, .int .i64 0, .bool false, .slice none 0 0, .int .i64 0, .int .i64 0]).cells 1).toList = zmL := by kernel_rfl
  have hv : ∀ w, (zeroValue 34).run Try.prog w = .ok (.agg #[.int .i64 0, .int .i64 0, .int .i64 0, .int .i64 0, .int .i64 0, .int .i64 0, .bool false, .slice none 0 0, .int .i64 0, .int .i64 0]) w := fun w => by simp [zeroValue, typeInfo, hi, hz0]
  have hst := run_storeCells_cells (P := Try.prog) b o zmL 0 w (by simpa [zmL] using hc) (by simpa [zmL] using hf) (by intro v hv'; simp only [zmL, List.mem_cons, List.not_mem_nil, or_false] at hv'; rcases hv' with rfl | rfl | rfl | rfl | rfl | rfl | rfl | rfl | rfl | rfl <;> rfl)
  simp only [Nat.add_zero] at hst
  simp [Builtin.clear_, run_underlying Try.underlying30, hv, hzc, hst, setCells_eq]
theorem wpList_clear34 {ops : Array Oper} {rest : List Oper} {o : Oper} {a : Act} {Q : Exit → Act → World → Prop} (w : World) (hgd : o.guard = none) (s : Operand)
    (ho : o.op = .call { callee := .builtin .clear, args := #[s], argTypes := #[30] }) (b off c : Nat) (hs : a.eval s = .slice (some ⟨b, off, none⟩) 1 c)
    (hc : ∀ j, j < 10 → (w.cell? ⟨b, off + j, none⟩).isSome = true) (hf : ∀ j, j < 10 → w.frozen? ⟨b, off + j, none⟩ = false)
    (h : wpList Try.prog ops Q rest (a.put o.dst (.tuple #[])) (putL w b off zmL)) : wpList Try.prog ops Q (o :: rest) a w := by
  refine wpList_plain hgd fun K hK => ?_
  unfold Oper.wp
  simp [execOp, ho, resolve, invoke, builtin, hs, run_clear34 w _ b off c hc hf, Result.andThen]
  exact hK _ _ h
/-- Onto a row that has room: in place. -/
theorem wpList_append_room {ops : Array Oper} {rest : List Oper} {o : Oper} {a : Act} {Q : Exit → Act → World → Prop} (w : World) (hgd : o.guard = none) (s x : Operand)
    (ho : o.op = .call { callee := .builtin .append, args := #[s, x], argTypes := #[30, 30] })
    (g n cap : Nat) (cur : Array Value) (xs : List Value) (hs : a.eval s = .slice (some ⟨g, 0, none⟩) n cap) (hb : w.heap[g]? = some (.cells cur 34 (0, 0))) (hsz : cur.size = cap * 10) (hxs : cur.toList.take (n * 10) = xs)
    (ok : Nat → Prop) (u : Value) (m : Nat) (news : List Value) (hx : a.eval x = u) (hsrc : MM.Rd w ok 10 u m news) (h1 : ∀ u ∈ news, u.oneCell' = true) (hroom : n + m ≤ cap)
    (h : ∀ w' cur', w'.heap[g]? = some (.cells cur' 34 (0, 0)) → cur'.size = cap * 10 → cur'.toList.take ((n + m) * 10) = xs ++ news → (∀ k, k ≠ g → w'.heap[k]? = w.heap[k]?) → (∀ B, B ≤ g → Below B w w') → wpList Try.prog ops Q rest (a.put o.dst (.slice (some ⟨g, 0, none⟩) (n + m) cap)) w') : wpList Try.prog ops Q (o :: rest) a w := by
  obtain ⟨i0, hi, hz0, hz1, hz2⟩ := info_parts info34
  obtain ⟨hl, A, c, rfl, hmc, hcm, hsr⟩ := hsrc
  refine wpList_plain hgd fun K hK => ?_
  rcases Nat.eq_zero_or_pos m with rfl | hm
  · obtain rfl : news = [] := List.eq_nil_of_length_eq_zero (by simpa using hl)
    have hrun := MM.run_append_none (P := Try.prog) w 30 o.type 34 i0 Try.underlying30 hi (some ⟨g, 0, none⟩) A n cap c (by omega)
    unfold Oper.wp
    simp [execOp, ho, resolve, invoke, builtin, hs, hx, hrun, Result.andThen]
    exact hK _ _ (h w cur hb hsz (by simpa using hxs) (fun _ _ => rfl) (fun B _ => Below.refl _ _))
  · obtain ⟨b, o', rfl, _, _, hcell⟩ := hsr hm
    have hrun := run_append_room (P := Try.prog) w 30 o.type 34 i0 Try.underlying30 hi g n cap cur hb ⟨b, o', none⟩ m c news (by rw [hl]; try rw [hz1]) (fun j u hj => by rw [Addr.add_lit]; exact hcell j u hj) h1 hroom (by rw [hl, hsz, hz1, ← Nat.add_mul]; exact Nat.mul_le_mul_right _ hroom)
    unfold Oper.wp
    simp [execOp, ho, resolve, invoke, builtin, hs, hx, hrun, Result.andThen]
    refine hK _ _ (h _ _ (setRow_heap w g cur _ 34 _ hb) ?_ ?_ (fun k hk => setRow_other w g k _ hk) (fun B hB => ?_))
    · have h8 : n * 10 + m * 10 ≤ cap * 10 := by rw [← Nat.add_mul]; exact Nat.mul_le_mul_right _ hroom
      have h9 : cur.toList.length = cap * 10 := by rw [Array.length_toList, hsz]
      simp only [List.size_toArray, List.length_append, List.length_take, List.length_drop, h9, hl, hz1]
      omega
    · have h8 : n * 10 + m * 10 ≤ cap * 10 := by rw [← Nat.add_mul]; exact Nat.mul_le_mul_right _ hroom
      have hxl : xs.length = n * 10 := by rw [← hxs, List.length_take, Array.length_toList, hsz]; omega
      have hlen : (xs ++ news).length = (n + m) * 10 := by rw [List.length_append, hxl, hl, Nat.add_mul]
      show List.take _ (List.toArray _).toList = _
      rw [hz1, ← List.append_assoc, hxs, ← hlen]
      exact List.take_left
    · exact ⟨rfl, rfl, rfl, by simp, fun k hk => setRow_other w g k _ (by omega)⟩
set_option maxRecDepth 100000 in
set_option maxHeartbeats 40000000 in
theorem gdelete_any (w : World) (B : Nat) (fb d i : Nat) (ms : List Fed.Msg) (ok : Nat → Prop) (h : FlyAt w B (.slice (some ⟨fb, 0, none⟩) ms.length d) ms (some fb) ok) (hno : ∀ k, ok k → k ≠ fb) (hi : i < ms.length) (hl : ms.length ≤ 1000000) :
    Calls Try.prog 120 #[.slice (some ⟨fb, 0, none⟩) ms.length d, .int .i64 i, .int .i64 ((i : Int) + 1)] w fun e w' => e = .returned (.slice (some ⟨fb, 0, none⟩) (ms.eraseIdx i).length d) ∧ FlyAt w' B (.slice (some ⟨fb, 0, none⟩) (ms.eraseIdx i).length d) (ms.eraseIdx i) (some fb) ok ∧ (∀ k, k ≠ fb → w'.heap[k]? = w.heap[k]?) ∧ (∀ B, B ≤ fb → Below B w w') := by
  obtain ⟨cs, hrow, hms⟩ := h
  have hcl := hrow.len
  have h1 := hms.one_cell
  have hV : MsgsV w (fun k => k = fb ∨ ok k) (.slice (some ⟨fb, 0, none⟩) ms.length d) ms := ⟨cs, hrow.rd.mono fun k hk _ => by injection hk with hk; exact .inl hk.symm, hms.mono fun k hk _ => .inr hk⟩
  have hrow0 := hrow
  obtain ⟨_, cap, cur, e0, hB, hblk, hnc, hcm, hcs, htake⟩ := hrow
  injection e0 with _ _ e0
  subst e0
  obtain ⟨n, hn⟩ : ∃ n, n = ms.length := ⟨_, rfl⟩
  rw [← hn] at hi hl hnc hcl htake ⊢
  have hel : (ms.eraseIdx i).length = n - 1 := by rw [List.length_eraseIdx, if_pos (by omega), hn]
  have HB := Lib.hid hV
  have hback : MM.Rd w (fun k => k = fb ∨ ok k) 10 (.slice (if d = i + 1 then (some ⟨fb, 0, none⟩) else (some (⟨fb, 0, none⟩ : Addr)).map (·.add ((i + 1) * 10))) (n - (i + 1)) (d - (i + 1))) (n - (i + 1)) ((cs.drop ((i + 1) * 10)).take ((n - (i + 1)) * 10)) := by
    have h9 := hrow0.rd.cut (lo := i + 1) (hi := n) (m := d) (by omega) (by omega) (by omega) (by omega)
    rw [hn] at h9 ⊢
    exact h9.mono fun k hk _ => by injection hk with hk; exact .inl hk.symm
  have hdt : (cs.drop ((i + 1) * 10)).take ((n - (i + 1)) * 10) = cs.drop ((i + 1) * 10) := by
    rw [List.take_of_length_le]
    rw [List.length_drop, hcl, ← Nat.sub_mul]
    exact Nat.le_refl _
  rw [hdt] at hback
  obtain ⟨A, hA, hback⟩ : ∃ A : Addr, (if d = i + 1 then some (⟨fb, 0, none⟩ : Addr) else some ⟨fb, (i + 1) * 10, none⟩) = some A ∧ MM.Rd w (fun k => k = fb ∨ ok k) 10 (.slice (some A) (n - (i + 1)) (d - (i + 1))) (n - (i + 1)) (cs.drop ((i + 1) * 10)) := by
    by_cases hd : d = i + 1
    · rw [if_pos hd] at hback
      exact ⟨_, if_pos hd, hback⟩
    · rw [if_neg hd] at hback
      refine ⟨_, if_neg hd, ?_⟩
      simpa [Addr.add_lit] using hback
  have HBK := Lib.hid hback
  have H1 := Lib.hid h1
  have HBL := Lib.hid hblk
  have HCS := Lib.hid hcs
  have HTK := Lib.hid htake
  have HEL := Lib.hid hel
  have HN := Lib.hid hn
  have HMS := Lib.hid hms
  have HNO := Lib.hid hno
  have hid' : i + 1 ≤ d := by omega
  have hic : i ≤ d := by omega
  have hin : i + 1 ≤ n := hi
  have hpi : (i : Int) + 1 ≤ (n : Int) := by omega
  have hp0 : (0 : Int) ≤ (i : Int) + 1 := by omega
  have hpn : ((i : Int) + 1).toNat = i + 1 := rfl
  have hsum : i + (n - (i + 1)) = n - 1 := by omega
  have hnd : ((i : Int) == (i : Int) + 1) = false := by simp; omega
  clear hrow0 hback h1 hblk hcs htake hel hn hms hV hno hdt
  go_enter Try.func120, Try.ntmps120
  go_wp2_with fail
  refine Go.RT.wp_region_tree [0, 0, 3, 0, 0, 24, 63, 127] (.p 0 (.p 1 (.p 2 (.p 3 (.p 4 (.p 5 (.w 6 [] (.w 7 [] .nil .stop) .stop))))))) (by kernel_rfl) (by kernel_rfl) ?_
  repeat (first | (refine Go.RT.step_p rfl (fun K hK => ?_); go_simp; refine hK _ ?_; clear hK K) | (refine Go.RT.step_s rfl (fun K hK => ?_); go_simp; refine hK _ ?_; clear hK K))
  (refine Go.RT.step_w rfl rfl (fun K hK => ?_) Go.RT.step_stop)
  refine wpList_append_room _ rfl (.tmp 22) (.tmp 25) rfl fb i d cur (cs.take (i * 10)) rfl HBL.out HCS.out (by rw [← HTK.out, List.take_take]; congr 1; have : i * 10 ≤ n * 10 := Nat.mul_le_mul_right _ (by omega); omega) (fun k => k = fb ∨ ok k) _ (n - (i + 1)) (cs.drop ((i + 1) * 10)) rfl HBK.out.drew (fun u hu => H1.out u (List.mem_of_mem_drop hu)) (by omega) ?_
  intro w1 cur1 hb1 hs1 ht1 hk1 hB1
  have HB1 := Lib.hid hb1
  have HS1 := Lib.hid hs1
  have HT1 := Lib.hid ht1
  have HK1 := Lib.hid hk1
  have HBB1 := Lib.hid hB1
  clear hb1 hs1 ht1 hk1 hB1
  go_wp2_with fail
  refine Go.RT.QK_normal _ _ _ _ (hK _ _ ?_ ?_) <;> clear hK K
  · repeat (first | exact Go.RT.again_nil | (refine Go.RT.again_not rfl rfl ?_) | (refine Go.RT.again_one rfl (by go_simp <;> rfl) ?_))
  (refine Go.RT.step_w rfl rfl (fun K hK => ?_) Go.RT.step_stop)
  go_wp2
  refine Go.RT.QK_normal _ _ _ _ (hK _ _ ?_ ?_) <;> clear hK K
  · repeat (first | exact Go.RT.again_nil | (refine Go.RT.again_not rfl rfl ?_) | (refine Go.RT.again_one rfl (by go_simp <;> rfl) ?_))
  refine Go.RT.step_nil ?_
  have hc10 : ∀ j, j < 10 → (w1.cell? ⟨fb, (n - 1) * 10 + j, none⟩).isSome = true := fun j hj => by
    have : (n - 1) * 10 + 10 ≤ d * 10 := by have : (n - 1 + 1) * 10 ≤ d * 10 := Nat.mul_le_mul_right _ (by omega)
                                            omega
    have hlt : (n - 1) * 10 + j < cur1.size := by rw [HS1.out]; omega
    simp [World.cell?, HB1.out, hlt]
  have HC10 := Lib.hid hc10
  have hone : n - (n - 1) = 1 := by omega
  clear hc10
  have hclr : ∀ ty, (Builtin.clear_ #[30] ty #[.slice (some ⟨fb, (n - 1) * 10, none⟩) 1 (d - (n - 1))]).run Try.prog w1 = .ok (.tuple #[]) (putL w1 fb ((n - 1) * 10) zmL) := fun ty => run_clear34 w1 ty fb _ _ HC10.out (fun j _ => MM.free_blk HB1.out)
  obtain ⟨w2, hw2⟩ : ∃ w2, w2 = putL w1 fb ((n - 1) * 10) zmL := ⟨_, rfl⟩
  rw [← hw2] at hclr
  have HW2 := Lib.hid hw2
  clear hw2
  go_wp2_with fail
  go_ret
  have e2 := HW2.out
  subst e2
  have hmul : (n - 1) * 10 + 10 = n * 10 := by omega
  obtain ⟨cur2, k1, k2, k3⟩ := putL_blk (us := zmL) (o := (n - 1) * 10) HB1.out (by rw [HS1.out]; show (n - 1) * 10 + 10 ≤ d * 10; rw [hmul]; exact Nat.mul_le_mul_right _ (by omega))
  have hes : cs.take (i * 10) ++ cs.drop ((i + 1) * 10) = cur1.toList.take ((n - 1) * 10) := by rw [← HT1.out, hsum]
  have hkeep : cur2.toList.take ((n - 1) * 10) = cs.take (i * 10) ++ cs.drop ((i + 1) * 10) := by
    rw [hes]
    apply List.ext_getElem?
    intro q
    rw [List.getElem?_take, List.getElem?_take]
    split
    · rw [Array.getElem?_toList, Array.getElem?_toList, k3, if_neg (by omega)]
    · rfl
  have herase : ms.eraseIdx i = ms.take i ++ ms.drop (i + 1) := List.eraseIdx_eq_take_drop_succ _ _
  have HM2 := (HMS.out.take' i).append (HMS.out.drop' (i + 1))
  rw [← herase] at HM2
  rw [HEL.out]
  have HK2 : ∀ k, k ≠ fb → w1.heap[k]? = w.heap[k]? := HK1.out
  refine ⟨rfl, ⟨_, ⟨?_, d, cur2, by rw [HEL.out], hB, k1, by have := HEL.out; omega, hcm, by rw [k2]; exact HS1.out, by rw [HEL.out]; exact hkeep⟩, HM2.step fun k hk _ => (putL_far (HNO.out k hk)).trans (HK2 k (HNO.out k hk))⟩, fun k hk => (putL_far hk).trans (HK2 k hk), fun B' hB' => putL_below ((Below.refl B' w).drew.trans (HBB1.out B' hB')) hB'⟩
  rw [HEL.out, List.length_append, List.length_take, List.length_drop, hcl]
  omega

end Go.Proofs.Ytnkmljdkokcdjaa
