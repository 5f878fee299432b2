/-
  Messages that are gathered, appended to one another.
-/
import Derived.Test.YtnkmljdkokcdjaaMg
import Derived.Test.YtnkmljdkokcdjaaMh
import Derived.Test.YtnkmljdkokcdjaaRn3
import Derived.Test.YtnkmljdkokcdjaaMf
set_option linter.unusedVariables false
set_option linter.unusedSimpArgs false
namespace Fed
open Go Go.RowKit Go.Proofs.Ytnkmljdkokcdjaa
set_option linter.unusedVariables false

theorem MsgsR.drop' {w : World} {ok : Nat → Prop} : ∀ {ms : List Fed.Msg} {cs : List Value} (k : Nat), MsgsR w ok ms cs → MsgsR w ok (ms.drop k) (cs.drop (k * 10))
  | ms, cs, 0, h => by simpa using h
  | [], cs, k + 1, h => by cases h; simp [MsgsR]
  | m :: ms, cs, k + 1, ⟨ve, rest, h1, h2, h3⟩ => by
    have := MsgsR.drop' k h3
    rw [List.drop_succ_cons, h1, show (k + 1) * 10 = (msgC m ve).length + k * 10 from by show _ = 10 + k * 10; omega, ← List.drop_drop, List.drop_left]
    exact this
theorem MsgsR.take' {w : World} {ok : Nat → Prop} : ∀ {ms : List Fed.Msg} {cs : List Value} (k : Nat), MsgsR w ok ms cs → MsgsR w ok (ms.take k) (cs.take (k * 10))
  | ms, cs, 0, h => by simp [MsgsR]
  | [], cs, k + 1, h => by cases h; simp [MsgsR]
  | m :: ms, cs, k + 1, ⟨ve, rest, h1, h2, h3⟩ => by
    have := MsgsR.take' k h3
    rw [List.take_succ_cons, h1]
    refine ⟨ve, rest.take (k * 10), ?_, h2, this⟩
    rw [List.take_append, show (msgC m ve).length = 10 from rfl, List.take_of_length_le (by show 10 ≤ _; omega), show (k + 1) * 10 - 10 = k * 10 from by omega]
theorem MsgsV.cutV {w : World} {ok : Nat → Prop} {ms : List Fed.Msg} {A : Option Addr} {c lo hi m : Nat} (h : MsgsV w ok (.slice A ms.length c) ms) (h1 : lo ≤ hi) (h2 : hi ≤ ms.length) (h3 : hi ≤ m) (h4 : m ≤ c) :
    MsgsV w ok (.slice (if m = lo then A else A.map (·.add (lo * 10))) (hi - lo) (m - lo)) ((ms.drop lo).take (hi - lo)) := by
  obtain ⟨cs, k1, k2⟩ := h
  refine ⟨_, ?_, (k2.drop' lo).take' (hi - lo)⟩
  have := k1.cut h1 h2 h3 h4
  rw [show ((ms.drop lo).take (hi - lo)).length = hi - lo from by rw [List.length_take, List.length_drop]; omega]
  exact this
theorem MsgsV.front {w : World} {ok : Nat → Prop} {ms : List Fed.Msg} {A : Option Addr} {c hi m : Nat} (h : MsgsV w ok (.slice A ms.length c) ms) (h1 : hi ≤ ms.length) (h2 : hi ≤ m) (h3 : m ≤ c) : MsgsV w ok (.slice A hi m) (ms.take hi) := by
  obtain ⟨cs, k1, k2⟩ := h
  refine ⟨_, ?_, k2.take' hi⟩
  rw [show (ms.take hi).length = hi from by rw [List.length_take]; omega]
  exact rd_front k1 h1 h2 h3
theorem MsgsV.back {w : World} {ok : Nat → Prop} {ms : List Fed.Msg} {A : Option Addr} {c lo : Nat} (h : MsgsV w ok (.slice A ms.length c) ms) (h1 : lo ≤ ms.length) (h3 : ms.length ≤ c) :
    MsgsV w ok (.slice (if c = lo then A else A.map (·.add (lo * 10))) (ms.length - lo) (c - lo)) (ms.drop lo) := by
  have := h.cutV h1 (Nat.le_refl _) h3 (Nat.le_refl _)
  rwa [List.take_of_length_le (by rw [List.length_drop]; exact Nat.le_refl _)] at this
theorem MsgsV.len {w : World} {ok : Nat → Prop} {ms : List Fed.Msg} {A : Option Addr} {n c : Nat} (h : MsgsV w ok (.slice A n c) ms) : n = ms.length ∧ ms.length ≤ c ∧ c ≤ maxLen := by
  obtain ⟨cs, k1, k2⟩ := h
  obtain ⟨A', c', e, h1, h2⟩ := k1.slice
  injection e with _ e2 e3
  subst e3
  exact ⟨e2, h1, h2⟩
end Fed
namespace Go.Proofs.Ytnkmljdkokcdjaa
open Go Go.RowKit Fed
set_option linter.unusedVariables false
theorem letter_eq : ∀ x, x < 8 → ({ data := #[97, 98, 99, 100, 101, 102, 103, 104] } : ByteArray).extract x (x + 1) = letter x := by
  intro x hx
  have h : x = 0 ∨ x = 1 ∨ x = 2 ∨ x = 3 ∨ x = 4 ∨ x = 5 ∨ x = 6 ∨ x = 7 := by omega
  rcases h with rfl | rfl | rfl | rfl | rfl | rfl | rfl | rfl <;> rfl
/-- Messages that are gathered in a row of one's own, newer than B; their entries lie elsewhere. -/
def FlyAt (w : World) (B : Nat) (v : Value) (ms : List Fed.Msg) (ob : Option Nat) (ok : Nat → Prop) : Prop :=
  ∃ cs, MM.Row w B 34 10 v ms.length cs ob ∧ MsgsR w ok ms cs
namespace FlyAt
variable {w w1 : World} {B : Nat} {v : Value} {ms : List Fed.Msg} {ob : Option Nat} {ok ok' : Nat → Prop}
theorem nil (w : World) (B : Nat) (A : Option Addr) (ok : Nat → Prop) : FlyAt w B (.slice A 0 0) [] none ok := ⟨[], MM.Row.nil _ _ _ _ _, rfl⟩
theorem step (h : FlyAt w B v ms ob ok) (hr : ∀ k, ob = some k → w1.heap[k]? = w.heap[k]?) (hm : ∀ k, ok k → k < w.heap.size → w1.heap[k]? = w.heap[k]?) : FlyAt w1 B v ms ob ok := by
  obtain ⟨cs, h1, h2⟩ := h
  exact ⟨cs, h1.step fun k hk _ => hr k hk, h2.step hm⟩
theorem below (h : FlyAt w B v ms ob ok) (hb : Below w.heap.size w w1) : FlyAt w1 B v ms ob ok := by
  obtain ⟨cs, h1, h2⟩ := h
  exact ⟨cs, h1.below hb, h2.step fun k _ hk => hb.block k hk⟩
theorem drew (h : FlyAt w B v ms ob ok) : FlyAt w.drew B v ms ob ok := h.step (fun _ _ => rfl) (fun _ _ _ => rfl)
theorem mono (h : FlyAt w B v ms ob ok) (hok : ∀ k, ok k → k < w.heap.size → ok' k) : FlyAt w B v ms ob ok' := by
  obtain ⟨cs, h1, h2⟩ := h
  exact ⟨cs, h1, h2.mono hok⟩
theorem toV (h : FlyAt w B v ms ob ok) (hb : ∀ k, ob = some k → B ≤ k → ok' k) (hok : ∀ k, ok k → k < w.heap.size → ok' k) : MsgsV w ok' v ms := by
  obtain ⟨cs, h1, h2⟩ := h
  exact ⟨cs, h1.rd.mono fun k hk _ => hb k hk (h1.lt k hk).1, h2.mono hok⟩
theorem lt (h : FlyAt w B v ms ob ok) : ∀ k, ob = some k → B ≤ k ∧ k < w.heap.size := by
  obtain ⟨cs, h1, _⟩ := h
  exact h1.lt
theorem slice (h : FlyAt w B v ms ob ok) : ∃ A c, v = .slice A ms.length c ∧ ms.length ≤ c ∧ c ≤ maxLen := by
  obtain ⟨cs, h1, _⟩ := h
  exact h1.slice
end FlyAt
/-- Messages are appended to messages. -/
theorem append_fly {ops : Array Oper} {rest : List Oper} {o : Oper} {a : Act} {Q : Exit → Act → World → Prop} (w : World) (hgd : o.guard = none) (s x : Operand)
    (ho : o.op = .call { callee := .builtin .append, args := #[s, x], argTypes := #[30, 30] }) (hty : o.type = 30)
    (B : Nat) (v : Value) (ms : List Fed.Msg) (ob : Option Nat) (ok : Nat → Prop) (hs : a.eval s = v) (h : FlyAt w B v ms ob ok) (X : Value) (ys : List Fed.Msg) (hx : a.eval x = X) (hX : MsgsV w ok X ys) (hno : ∀ k, ok k → ob ≠ some k)
    (hl : ms.length + ys.length ≤ 2000000) (hB : B ≤ w.heap.size) (zs : List Fed.Msg) (hzs : zs = ms ++ ys)
    (hK : ∀ A' c' w' ob', FlyAt w' B (.slice A' zs.length c') zs ob' (fun k => ok k ∧ k < w.heap.size) → (∀ k, k < w.heap.size → ob ≠ some k → w'.heap[k]? = w.heap[k]?) → (ob' = ob ∨ ∃ b, ob' = some b ∧ w.heap.size ≤ b) → Below B w w' → wpList Try.prog ops Q rest (a.put o.dst (.slice A' zs.length c')) w') : wpList Try.prog ops Q (o :: rest) a w := by
  subst hzs
  obtain ⟨i0, hi, hz0, hz1, hz2⟩ := info_parts info34
  obtain ⟨cs, h1, h2⟩ := h
  obtain ⟨ds, k1, k2⟩ := hX
  refine MM.wpList_append_row _ hgd s x 30 ho B 34 i0 _ 10 96 Try.underlying30 hi hz0 hz1 hz2 rfl (by decide) v ms.length cs ob hs h1 ok X ys.length ds hx k1 k2.one_cell (by simp only [maxLen]; omega) (by omega) hB ?_
  intro v' w' ob' hr hg hob
  obtain ⟨A', c', rfl, _, _⟩ := hr.slice
  have kp : ∀ k, k < w.heap.size → ob ≠ some k → w'.heap[k]? = w.heap[k]? := fun k hk hne => hg.block k hk (fun e => hne e.symm)
  rw [← List.length_append] at hr ⊢
  refine hK A' c' w' ob' ⟨cs ++ ds, hr, ?_⟩ kp hob ((Below.refl B w).grown hg hB (fun k hk => (h1.lt k hk).1))
  exact ((h2.append k2).mono (ok' := fun k => ok k ∧ k < w.heap.size) fun k hk hlt => ⟨hk, hlt⟩).step fun k hk _ => kp k hk.2 (hno k hk.1)
/-- One message of a literal is appended to messages. -/
theorem append_fly1 {ops : Array Oper} {rest : List Oper} {o : Oper} {a : Act} {Q : Exit → Act → World → Prop} (w : World) (hgd : o.guard = none) (s x : Operand)
    (ho : o.op = .call { callee := .builtin .append, args := #[s, x], argTypes := #[30, 30] }) (hty : o.type = 30)
    (B : Nat) (v : Value) (ms : List Fed.Msg) (ob : Option Nat) (ok : Nat → Prop) (hs : a.eval s = v) (h : FlyAt w B v ms ob ok) (b : Nat) (m : Fed.Msg) (A : Option Addr) (c : Nat) (hx : a.eval x = .slice (some ⟨b, 0, none⟩) 1 1)
    (hb : w.heap[b]? = some (.cells #[.int .i64 m.kind, .int .i64 m.frm, .int .i64 m.to, .int .i64 m.term, .int .i64 m.index, .int .i64 m.logTerm, .bool m.ok, .slice A m.entries.length c, .int .i64 m.commit, .int .i64 m.form] 34 (0, 0)))
    (he : MM.Rd w ok 2 (.slice A m.entries.length c) m.entries.length (entsC m.entries)) (hno : ∀ k, ok k → ob ≠ some k)
    (hl : ms.length ≤ 1000000) (hB : B ≤ w.heap.size) (zs : List Fed.Msg) (hzs : zs = ms ++ [m])
    (hK : ∀ A' c' w' ob', FlyAt w' B (.slice A' zs.length c') zs ob' (fun k => ok k ∧ k < w.heap.size) → (∀ k, k < w.heap.size → ob ≠ some k → w'.heap[k]? = w.heap[k]?) → (ob' = ob ∨ ∃ b, ob' = some b ∧ w.heap.size ≤ b) → Below B w w' → wpList Try.prog ops Q rest (a.put o.dst (.slice A' zs.length c')) w') : wpList Try.prog ops Q (o :: rest) a w := by
  subst hzs
  obtain ⟨i0, hi, hz0, hz1, hz2⟩ := info_parts info34
  obtain ⟨cs, h1, h2⟩ := h
  refine MM.wpList_append_row _ hgd s x 30 ho B 34 i0 _ 10 96 Try.underlying30 hi hz0 hz1 hz2 rfl (by decide) v ms.length cs ob hs h1 (fun _ => True) _ 1 (msgC m (.slice A m.entries.length c)) hx (MM.Rd.lit hb trivial rfl (Nat.le_refl _) (by simp [maxLen]) (by simp [msgC])) (msgC_one rfl) (by simp only [maxLen]; omega) (by omega) hB ?_
  intro v' w' ob' hr hg hob
  obtain ⟨A', c', rfl, _, _⟩ := hr.slice
  have kp : ∀ k, k < w.heap.size → ob ≠ some k → w'.heap[k]? = w.heap[k]? := fun k hk hne => hg.block k hk (fun e => hne e.symm)
  have hl1 : (ms ++ [m]).length = ms.length + 1 := by simp
  rw [← hl1] at hr ⊢
  refine hK A' c' w' ob' ⟨cs ++ msgC m (.slice A m.entries.length c), hr, ?_⟩ kp hob ((Below.refl B w).grown hg hB (fun k hk => (h1.lt k hk).1))
  exact ((h2.append (MsgsR.one he)).mono (ok' := fun k => ok k ∧ k < w.heap.size) fun k hk hlt => ⟨hk, hlt⟩).step fun k hk _ => kp k hk.2 (hno k hk.1)
end Go.Proofs.Ytnkmljdkokcdjaa
