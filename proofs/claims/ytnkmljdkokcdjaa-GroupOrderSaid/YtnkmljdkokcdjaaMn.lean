/-
  Regions of operations whose order is drawn: a tree of orders; an invariant.
-/
import Derived.Orders
import Derived.Tactics
import Derived.WalkKit
set_option linter.unusedVariables false
set_option linter.unusedSimpArgs false
namespace Go.RT
open Go

/-- What leaves a walk that does not panic. -/
def QO (Q : Exit → Act → World → Prop) : Exit → Act → World → Prop
  | .outgrown, a, w => Q .outgrown a w
  | _, _, _ => False

/-- One operation of a region, carried out. -/
def wpW (P : Program) (o : Oper) (a : Act) (w : World) (K : Act → World → Prop) (Q : Exit → Act → World → Prop) : Prop :=
  o.wp P a w K (QO Q) ∨ (o.asks P a w ∧ LetsOut Q)

/-- The slot in which an operation leaves its value. -/
def slotOf (a : Act) : Option Tmp → Value
  | some d => a.tmps.getD d undef
  | none => undef

/-- Operation h, carried out once more, leaves what it left. -/
def Again (P : Program) (ops : Array Oper) (h : Nat) (a : Act) (w : World) : Prop :=
  ∀ o, ops[h]? = some o → Region.wanted o (yielded ops a.tmps) = true → (execOp a.eval o).run P w = .ok (.value (slotOf a o.dst)) w

inductive T where
  | nil
  | stop
  | p (i : Nat) (t : T)
  | s (i : Nat) (t : T)
  | w (i : Nat) (hs : List Nat) (t e : T)

def wpC (P : Program) (ops : Array Oper) (Q : Exit → Act → World → Prop) : T → Act → World → Prop
  | .nil, a, w => Q .normal a w
  | .stop, _, _ => True
  | .p i t, a, w => ∃ o, ops[i]? = some o ∧ if Region.wanted o (yielded ops a.tmps) = true then ∃ v, (∀ w', (execOp a.eval o).run P w' = .ok (.value v) w') ∧ wpC P ops Q t (a.put o.dst v) w else wpC P ops Q t (a.put o.dst undef) w
  | .s i t, a, w => ∃ o, ops[i]? = some o ∧ if Region.wanted o (yielded ops a.tmps) = true then ∃ v, (execOp a.eval o).run P w = .ok (.value v) w ∧ wpC P ops Q t (a.put o.dst v) w else wpC P ops Q t (a.put o.dst undef) w
  | .w i hs t e, a, w => (∃ o, ops[i]? = some o ∧ if Region.wanted o (yielded ops a.tmps) = true then wpW P o a w (fun a' w' => (∀ h ∈ hs, Again P ops h a' w') ∧ wpC P ops Q t a' w') Q else wpC P ops Q t (a.put o.dst undef) w) ∧ wpC P ops Q e a w

/-! ### what is looked at once, by reckoning -/
def depsIn (o : Oper) (D : Nat) : Bool := o.after.toList.all fun e => !Region.binds .any e || D.testBit e.on
def maskOf (B : List Nat) (o : Oper) : Nat := o.after.toList.foldl (fun s e => if Region.binds .any e then s ||| 2 ^ e.on ||| B.getD e.on 0 else s) 0
def maskOk (ops : Array Oper) (B : List Nat) : Bool :=
  (List.range ops.size).all fun i => match ops[i]? with
    | some o => (B.getD i 0 == maskOf B o) && o.after.toList.all (fun e => !Region.binds .any e || decide (e.on < i))
    | none => false
def pairsOk (ops : Array Oper) (B : List Nat) : Bool :=
  (List.range ops.size).all fun i => (List.range ops.size).all fun j => i == j || match ops[i]?, ops[j]? with
    | some x, some y => (match x.dst with | some d => y.dst != some d | none => true) && ((B.getD i 0).testBit j || (B.getD j 0).testBit i || x.apart ops y)
    | _, _ => false
def alts : T → List Nat
  | .w i _ _ e => i :: alts e
  | _ => []
def coverOk (ops : Array Oper) (D : Nat) (l : List Nat) : Bool :=
  (List.range ops.size).all fun j => D.testBit j || l.contains j || match ops[j]? with | some o => !depsIn o D | none => false
/-- What operation i leaves is looked at by those alone that wait for it. -/
def dstOk (ops : Array Oper) (B : List Nat) (i : Nat) (o : Oper) : Bool :=
  match o.dst with
  | some d => (List.range ops.size).all (fun h => (B.getD h 0).testBit i || match ops[h]? with | some x => !(x.looksAt ops).contains d | none => true)
  | none => true
def okT (ops : Array Oper) (B : List Nat) : Bool → T → Nat → Nat → Bool
  | top, .nil, D, _ => top && (List.range ops.size).all fun i => D.testBit i
  | top, .stop, _, _ => !top
  | top, .p i t, D, S => match ops[i]? with
    | some o => top && !D.testBit i && depsIn o D && dstOk ops B i o && okT ops B true t (D ||| 2 ^ i) S
    | none => false
  | top, .s i t, D, S => match ops[i]? with
    | some o => top && !D.testBit i && depsIn o D && dstOk ops B i o && okT ops B true t (D ||| 2 ^ i) (S ||| 2 ^ i)
    | none => false
  | top, .w i hs t e, D, S => match ops[i]? with
    | some o => (!top || coverOk ops D (alts (.w i hs t e))) && !D.testBit i && depsIn o D && (List.range ops.size).all (fun h => !S.testBit h || (B.getD i 0).testBit h || hs.contains h) && okT ops B true t (D ||| 2 ^ i) S && okT ops B false e D S
    | none => false

/-! ### sound -/
section
variable {P : Program} {ops : Array Oper} {Q : Exit → Act → World → Prop} {B : List Nat}

theorem bit_or {D i k : Nat} : (D ||| 2 ^ i).testBit k = (D.testBit k || decide (i = k)) := by
  rw [Nat.testBit_or, Nat.testBit_two_pow]

theorem or_swap (D i j : Nat) : (D ||| 2 ^ i) ||| 2 ^ j = (D ||| 2 ^ j) ||| 2 ^ i := by
  rw [Nat.or_assoc, Nat.or_comm (2 ^ i), ← Nat.or_assoc]

theorem depsIn_mono {o : Oper} {D D' : Nat} (h : depsIn o D = true) (hD : ∀ k, D.testBit k = true → D'.testBit k = true) : depsIn o D' = true := by
  unfold depsIn at *
  rw [List.all_eq_true] at *
  intro e he
  have := h e he
  simp only [Bool.or_eq_true, Bool.not_eq_true'] at *
  exact this.imp id (hD _)

theorem depsIn_or {o : Oper} {D : Nat} (h : depsIn o D = true) (j : Nat) : depsIn o (D ||| 2 ^ j) = true :=
  depsIn_mono h fun k hk => by rw [bit_or, hk, Bool.true_or]

/-- Whatever is listed has what it waits for listed. -/
def Closed (ops : Array Oper) (D : Nat) : Prop := ∀ k, D.testBit k = true → ∃ o, ops[k]? = some o ∧ depsIn o D = true

theorem Closed.or {D : Nat} (h : Closed ops D) {j : Nat} {o : Oper} (hj : ops[j]? = some o) (hd : depsIn o D = true) : Closed ops (D ||| 2 ^ j) := by
  intro k hk
  rw [bit_or, Bool.or_eq_true, decide_eq_true_eq] at hk
  rcases hk with hk | rfl
  · obtain ⟨o', h1, h2⟩ := h k hk
    exact ⟨o', h1, depsIn_or h2 j⟩
  · exact ⟨o, hj, depsIn_or hd _⟩

theorem mask_bit (B : List Nat) (l : List Edge) : ∀ (s : Nat) (j : Nat), (l.foldl (fun s e => if Region.binds .any e then s ||| 2 ^ e.on ||| B.getD e.on 0 else s) s).testBit j = true →
    s.testBit j = true ∨ ∃ e ∈ l, Region.binds .any e = true ∧ (e.on = j ∨ (B.getD e.on 0).testBit j = true) := by
  induction l with
  | nil => intro s j h; exact .inl h
  | cons e l ih =>
    intro s j h
    rw [List.foldl_cons] at h
    rcases ih _ _ h with h1 | ⟨e', he', h2⟩
    · split at h1
      · rename_i hb
        rw [Nat.testBit_or, bit_or, Bool.or_eq_true, Bool.or_eq_true, decide_eq_true_eq] at h1
        rcases h1 with (h1 | h1) | h1
        · exact .inl h1
        · exact .inr ⟨e, List.mem_cons_self, hb, .inl h1⟩
        · exact .inr ⟨e, List.mem_cons_self, hb, .inr h1⟩
      · exact .inl h1
    · exact .inr ⟨e', List.mem_cons_of_mem _ he', h2⟩

theorem lt_of_some {i : Nat} {o : Oper} (h : ops[i]? = some o) : i < ops.size := (Array.getElem?_eq_some_iff.1 h).1

theorem mask_row (hB : maskOk ops B = true) {i : Nat} {o : Oper} (h : ops[i]? = some o) : B.getD i 0 = maskOf B o ∧ ∀ e ∈ o.after.toList, Region.binds .any e = true → e.on < i := by
  unfold maskOk at hB
  rw [List.all_eq_true] at hB
  have h1 := hB i (List.mem_range.2 (lt_of_some h))
  rw [h] at h1
  simp only [Bool.and_eq_true, beq_iff_eq, List.all_eq_true, Bool.or_eq_true, Bool.not_eq_true', decide_eq_true_eq] at h1
  exact ⟨h1.1, fun e he hb => (h1.2 e he).resolve_left (by rw [hb]; simp)⟩

/-- What is ready has all that it leads back to listed. -/
theorem mask_in (hB : maskOk ops B = true) {D : Nat} (hD : Closed ops D) : ∀ (n i : Nat), i ≤ n → ∀ o, ops[i]? = some o → depsIn o D = true → ∀ j, (B.getD i 0).testBit j = true → D.testBit j = true := by
  intro n
  induction n with
  | zero =>
    intro i hi o ho hd j hj
    obtain ⟨h1, h2⟩ := mask_row hB ho
    rw [h1] at hj
    rcases mask_bit B _ _ _ hj with h3 | ⟨e, he, hb, _⟩
    · simp at h3
    · have := h2 e he hb; omega
  | succ n ih =>
    intro i hi o ho hd j hj
    obtain ⟨h1, h2⟩ := mask_row hB ho
    rw [h1] at hj
    rcases mask_bit B _ _ _ hj with h3 | ⟨e, he, hb, h4⟩
    · simp at h3
    · have hlt := h2 e he hb
      have hin : D.testBit e.on = true := by
        unfold depsIn at hd
        rw [List.all_eq_true] at hd
        have := hd e he
        rw [hb] at this
        simpa using this
      rcases h4 with h4 | h4
      · rw [← h4]; exact hin
      · obtain ⟨o', ho', hd'⟩ := hD _ hin
        exact ih e.on (by omega) o' ho' hd' j h4

theorem pair_ok (hp : pairsOk ops B = true) {i j : Nat} {x y : Oper} (hi : ops[i]? = some x) (hj : ops[j]? = some y) (hne : i ≠ j) :
    (∀ d, x.dst = some d → y.dst ≠ some d) ∧ ((B.getD i 0).testBit j = true ∨ (B.getD j 0).testBit i = true ∨ x.apart ops y = true) := by
  unfold pairsOk at hp
  rw [List.all_eq_true] at hp
  have h1 := hp i (List.mem_range.2 (lt_of_some hi))
  rw [List.all_eq_true] at h1
  have h2 := h1 j (List.mem_range.2 (lt_of_some hj))
  simp only [hi, hj, Bool.or_eq_true, beq_iff_eq, hne, false_or, Bool.and_eq_true] at h2
  refine ⟨fun d hd => ?_, ?_⟩
  · have h3 := h2.1
    rw [hd] at h3
    simpa using h3
  · rcases h2.2 with (h | h) | h
    · exact .inl h
    · exact .inr (.inl h)
    · exact .inr (.inr h)

theorem upon_QO {o : Oper} {a : Act} {K K' : Act → World → Prop} (hK : ∀ a w, K a w → K' a w) {r : Result Next} (h : o.upon P a K (QO Q) r) : o.upon P a K' Q r := by
  cases r with
  | ok n w' =>
    cases n <;> simp only [Oper.upon] at h ⊢ <;>
      first
        | exact hK _ _ h
        | exact Calls.mono h (fun e w'' he => by
            cases e with
            | returned v => exact hK _ _ he
            | panicked c => exact he.elim
            | outgrown => exact he)
        | exact Rows.mono h (fun _ _ he => hK _ _ he)
  | halt x w' =>
    cases x <;> simp only [Oper.upon] at h ⊢
    exact h.elim

theorem wpW_mono {o : Oper} {a : Act} {w : World} {K K' : Act → World → Prop} (hK : ∀ a w, K a w → K' a w) (h : wpW P o a w K Q) : wpW P o a w K' Q :=
  h.imp (fun h => Oper.wp_mono hK h) id

/-- Operation j, carried out behind the writing of operation i's slot, is the same ahead of it. -/
theorem wpW_put {oi oj : Oper} {v : Value} (hap : oi.apart ops oj = true) (hsi : ∀ cs b, oi.op ≠ .select cs b) (hsj : ∀ cs b, oj.op ≠ .select cs b) {K : Act → World → Prop} {a : Act} {w : World}
    (h : wpW P oj (a.put oi.dst v) w K Q) :
    wpW P oj a w (fun a' w' => (execOp a'.eval oi = execOp a.eval oi ∧ Region.wanted oi (yielded ops a'.tmps) = Region.wanted oi (yielded ops a.tmps)) ∧ K (a'.put oi.dst v) w') Q := by
  obtain ⟨h1, h2, h3⟩ := Oper.apart_spec hap
  have keep : ∀ (b : Act) (u : Value), execOp (b.put oj.dst u).eval oi = execOp b.eval oi ∧ Region.wanted oi (yielded ops (b.put oj.dst u).tmps) = Region.wanted oi (yielded ops b.tmps) :=
    fun b u => ⟨execOp_put oi hsi b oj.dst u h3, wanted_put oi b oj.dst u h3⟩
  rcases h with h | ⟨h, hl⟩
  · refine .inl ?_
    unfold Oper.wp at *
    rw [execOp_put oj hsj a oi.dst v h1] at h
    generalize (execOp a.eval oj).run P w = r at *
    cases r with
    | ok n w' =>
      cases n <;> simp only [Oper.upon] at h ⊢
      case value u => exact ⟨keep a u, by rw [← Act.put_comm a v u h2]; exact h⟩
      case skip => exact ⟨keep a undef, by rw [← Act.put_comm a v undef h2]; exact h⟩
      case defer d =>
        refine ⟨keep { a with defers := d :: a.defers } undef, ?_⟩
        rw [← Act.put_comm _ v undef h2, ← Act.put_defers]
        exact h
      case enter f args =>
        refine Calls.mono h fun e w'' he => ?_
        cases e with
        | returned u => exact ⟨keep a u, by rw [← Act.put_comm a v u h2]; exact he⟩
        | panicked c => exact he
        | outgrown => exact he
      case row row args => exact Rows.mono h fun u w'' he => ⟨keep a u, by rw [← Act.put_comm a v u h2]; exact he⟩
    | halt x w' =>
      cases x <;> simp only [Oper.upon] at h ⊢
      exact h
  · refine .inr ⟨?_, hl⟩
    unfold Oper.asks at *
    rw [execOp_put oj hsj a oi.dst v h1] at h
    exact h

theorem put_again (a : Act) (dst : Option Tmp) (v u : Value) (h : slotOf (a.put dst v) dst = u) : a.put dst u = a.put dst v := by
  cases dst with
  | none => rfl
  | some d =>
    by_cases hd : d < a.tmps.size
    · have : slotOf (a.put (some d) v) (some d) = v := by
        simp [slotOf, Act.put, Array.getElem?_setIfInBounds_self_of_lt hd]
      rw [← h, this]
    · have e : ∀ x, a.put (some d) x = a := fun x => by
        have : a.tmps.setIfInBounds d x = a.tmps := by
          simp [Array.setIfInBounds, hd]
        simp [Act.put, this]
      rw [e, e]

theorem dst_ok {i h : Nat} {o x : Oper} (hd : dstOk ops B i o = true) (hx : ops[h]? = some x) (hb : (B.getD h 0).testBit i = false) : ∀ d, o.dst = some d → d ∉ x.looksAt ops := by
  intro d hdst
  unfold dstOk at hd
  rw [hdst] at hd
  simp only [List.all_eq_true, List.mem_range] at hd
  have h1 := hd h (lt_of_some hx)
  rw [hb, hx] at h1
  simpa using h1

theorem slot_put {a : Act} {d e : Option Tmp} {v : Value} (h : ∀ x, e = some x → d ≠ some x) : slotOf (a.put d v) e = slotOf a e := by
  cases e with
  | none => rfl
  | some x =>
    cases d with
    | none => rfl
    | some y =>
      have hne : y ≠ x := fun he => h x rfl (by rw [he])
      simp [slotOf, Act.put, Array.getElem?_setIfInBounds_ne hne]

/-- What holds behind operation j: the world is as it was, or what may still come reads again as it read. -/
def Ex (P : Program) (ops : Array Oper) (B : List Nat) (S j : Nat) (w : World) (a' : Act) (w' : World) : Prop :=
  w' = w ∨ ∀ h, S.testBit h = true → (B.getD j 0).testBit h = false → Again P ops h a' w'

/-- Operation j from here, then the tree. -/
def Goes (P : Program) (ops : Array Oper) (B : List Nat) (Q : Exit → Act → World → Prop) (S j : Nat) (oj : Oper) (t : T) (a : Act) (w : World) : Prop :=
  if Region.wanted oj (yielded ops a.tmps) = true then wpW P oj a w (fun a' w' => Ex P ops B S j w a' w' ∧ wpC P ops Q t a' w') Q else wpC P ops Q t (a.put oj.dst undef) w

theorem choose {j : Nat} {oj : Oper} (hj : ops[j]? = some oj) {a : Act} {w : World} : ∀ (t0 : T) (top : Bool) (D S : Nat), (∀ k, S.testBit k = true → k < ops.size) → okT ops B top t0 D S = true → j ∈ alts t0 → wpC P ops Q t0 a w →
    ∃ t, okT ops B true t (D ||| 2 ^ j) S = true ∧ Goes P ops B Q S j oj t a w := by
  intro t0
  induction t0 with
  | nil => intro top D S _ _ h; cases h
  | stop => intro top D S _ _ h; cases h
  | p _ _ _ => intro top D S _ _ h; cases h
  | s _ _ _ => intro top D S _ _ h; cases h
  | w i hs t e _ ihe =>
    intro top D S hS hok hm hw
    simp only [okT] at hok
    obtain ⟨⟨o, ho, h1⟩, h2⟩ := hw
    rw [ho] at hok
    simp only [Bool.and_eq_true] at hok
    obtain ⟨⟨⟨⟨⟨_, _⟩, _⟩, hh⟩, ht⟩, he⟩ := hok
    rcases List.mem_cons.1 hm with rfl | hm
    · rw [hj] at ho
      injection ho with ho
      subst ho
      refine ⟨t, ht, ?_⟩
      unfold Goes
      split
      · rename_i hwt
        rw [if_pos hwt] at h1
        refine wpW_mono (fun a' w' hq => ⟨.inr fun h hSh hBh => hq.1 h ?_, hq.2⟩) h1
        rw [List.all_eq_true] at hh
        have h3 := hh h (List.mem_range.2 (hS h hSh))
        rw [hSh, hBh] at h3
        simpa using h3
      · rename_i hwt
        rw [if_neg hwt] at h1
        exact h1
    · exact ihe false D S hS he hm h2

theorem again_back {h : Nat} {x o : Oper} {a : Act} {w : World} {v : Value} (hsx : ∀ cs b, x.op ≠ .select cs b) (hx : ops[h]? = some x) (hd : ∀ d, o.dst = some d → d ∉ x.looksAt ops) (hne : ∀ d, x.dst = some d → o.dst ≠ some d)
    (hA : Again P ops h (a.put o.dst v) w) : Again P ops h a w := by
  intro x' hx' hw
  rw [hx] at hx'
  injection hx' with hx'
  subst hx'
  have h1 := hA x hx (by rw [wanted_put x a o.dst v hd]; exact hw)
  rw [execOp_put x hsx a o.dst v hd, slot_put hne] at h1
  exact h1

theorem bubble (hB : maskOk ops B = true) (hp : pairsOk ops B = true) (hsel : Region.noSelect ops = true) {j : Nat} {oj : Oper} (hj : ops[j]? = some oj) :
    ∀ (t0 : T) (D S : Nat) (a : Act) (w : World), okT ops B true t0 D S = true → Closed ops D → (∀ k, S.testBit k = true → D.testBit k = true) → D.testBit j = false → depsIn oj D = true → wpC P ops Q t0 a w →
      ∃ (t : T) (b : Bool), okT ops B true t (D ||| 2 ^ j) (if b then S ||| 2 ^ j else S) = true ∧ Goes P ops B Q S j oj t a w := by
  have hs := Region.noSelect_spec hsel
  intro t0
  induction t0 with
  | nil =>
    intro D S a w hok _ _ hDj _ _
    simp only [okT, Bool.true_and, List.all_eq_true, List.mem_range] at hok
    rw [hok j (lt_of_some hj)] at hDj
    cases hDj
  | stop => intro D S a w hok; simp [okT] at hok
  | w i hs' t e _ _ =>
    intro D S a w hok hC hSD hDj hdj hw
    have hok' := hok
    simp only [okT] at hok
    obtain ⟨⟨o, ho, _⟩, _⟩ := id hw
    rw [ho] at hok
    simp only [Bool.and_eq_true, Bool.not_true, Bool.false_or] at hok
    obtain ⟨⟨⟨⟨⟨hcov, _⟩, _⟩, _⟩, _⟩, _⟩ := hok
    have hm : j ∈ alts (.w i hs' t e) := by
      unfold coverOk at hcov
      rw [List.all_eq_true] at hcov
      have h1 := hcov j (List.mem_range.2 (lt_of_some hj))
      rw [hDj, hj] at h1
      simpa [hdj] using h1
    obtain ⟨t', h1, h2⟩ := choose hj (P := P) (Q := Q) _ true D S (fun k hk => by obtain ⟨o', ho', _⟩ := hC k (hSD k hk); exact lt_of_some ho') hok' hm hw
    exact ⟨t', false, h1, h2⟩
  | p i t ih =>
    intro D S a w hok hC hSD hDj hdj hw
    simp only [okT] at hok
    obtain ⟨oi, hi, h1⟩ := hw
    rw [hi] at hok
    simp only [Bool.and_eq_true, Bool.not_eq_true', Bool.true_and] at hok
    obtain ⟨⟨⟨hDi, hdi⟩, hdst⟩, ht⟩ := hok
    by_cases hij : i = j
    · subst hij
      rw [hj] at hi
      injection hi with hi
      subst hi
      refine ⟨t, false, ht, ?_⟩
      unfold Goes
      split
      · rename_i hwt
        rw [if_pos hwt] at h1
        obtain ⟨v, hr, hT⟩ := h1
        refine .inl ?_
        unfold Oper.wp
        rw [hr w]
        exact ⟨.inl rfl, hT⟩
      · rename_i hwt
        rw [if_neg hwt] at h1
        exact h1
    · have hBij : (B.getD i 0).testBit j = false := by
        cases hb : (B.getD i 0).testBit j
        · rfl
        · rw [mask_in hB hC i i (Nat.le_refl _) oi hi hdi j hb] at hDj; cases hDj
      have hBji : (B.getD j 0).testBit i = false := by
        cases hb : (B.getD j 0).testBit i
        · rfl
        · rw [mask_in hB hC j j (Nat.le_refl _) oj hj hdj i hb] at hDi; cases hDi
      obtain ⟨hdd, hap⟩ := pair_ok hp hi hj hij
      have hap : oi.apart ops oj = true := by
        rcases hap with h | h | h
        · rw [hBij] at h; cases h
        · rw [hBji] at h; cases h
        · exact h
      obtain ⟨a1, a2, a3⟩ := Oper.apart_spec hap
      have hsi := fun cs b => hs i oi cs b hi
      have hsj := fun cs b => hs j oj cs b hj
      have exS : ∀ (v : Value) (a' : Act) (w' : World), Ex P ops B S j w (a'.put oi.dst v) w' → Ex P ops B S j w a' w' := by
        intro v a' w' hE
        rcases hE with hE | hE
        · exact .inl hE
        · refine .inr fun h hSh hBh => ?_
          obtain ⟨x, hx, hdx⟩ := hC h (hSD h hSh)
          have hhi : h ≠ i := fun e => by rw [e] at hSh; rw [hSD i hSh] at hDi; cases hDi
          have hBhi : (B.getD h 0).testBit i = false := by
            cases hb : (B.getD h 0).testBit i
            · rfl
            · rw [mask_in hB hC h h (Nat.le_refl _) x hx hdx i hb] at hDi; cases hDi
          exact again_back (fun cs b => hs h x cs b hx) hx (dst_ok hdst hx hBhi) (pair_ok hp hx hi hhi).1 (hE h hSh hBh)
      have okk : ∀ (t' : T) (b : Bool), okT ops B true t' (D ||| 2 ^ i ||| 2 ^ j) (if b then S ||| 2 ^ j else S) = true → okT ops B true (.p i t') (D ||| 2 ^ j) (if b then S ||| 2 ^ j else S) = true := by
        intro t' b h
        rw [or_swap] at h
        simp only [okT, hi, Bool.and_eq_true, Bool.not_eq_true', Bool.true_and]
        refine ⟨⟨⟨?_, depsIn_or hdi j⟩, hdst⟩, h⟩
        rw [bit_or, hDi, Bool.false_or, decide_eq_false_iff_not]
        exact fun e => hij e.symm
      have hDj' : (D ||| 2 ^ i).testBit j = false := by rw [bit_or, hDj, Bool.false_or, decide_eq_false_iff_not]; exact hij
      have hSD' : ∀ k, S.testBit k = true → (D ||| 2 ^ i).testBit k = true := fun k hk => by rw [bit_or, hSD k hk, Bool.true_or]
      by_cases hwi : Region.wanted oi (yielded ops a.tmps) = true
      · rw [if_pos hwi] at h1
        obtain ⟨v, hr, hT⟩ := h1
        obtain ⟨t', b, h2, h3⟩ := ih (D ||| 2 ^ i) S (a.put oi.dst v) w ht (hC.or hi hdi) hSD' hDj' (depsIn_or hdj i) hT
        refine ⟨.p i t', b, okk t' b h2, ?_⟩
        unfold Goes at *
        rw [wanted_put oj a oi.dst v a1] at h3
        split
        · rename_i hwj
          rw [if_pos hwj] at h3
          refine wpW_mono (fun a' w' hq => ?_) (wpW_put hap hsi hsj h3)
          obtain ⟨⟨e1, e2⟩, hE, hT'⟩ := hq
          refine ⟨exS v a' w' hE, oi, hi, ?_⟩
          rw [e2, if_pos hwi]
          exact ⟨v, fun w2 => by rw [e1]; exact hr w2, hT'⟩
        · rename_i hwj
          rw [if_neg hwj] at h3
          refine ⟨oi, hi, ?_⟩
          rw [wanted_put oi a oj.dst undef a3, if_pos hwi]
          exact ⟨v, fun w2 => by rw [execOp_put oi hsi a oj.dst undef a3]; exact hr w2, by rw [← Act.put_comm a v undef a2]; exact h3⟩
      · rw [if_neg hwi] at h1
        obtain ⟨t', b, h2, h3⟩ := ih (D ||| 2 ^ i) S (a.put oi.dst undef) w ht (hC.or hi hdi) hSD' hDj' (depsIn_or hdj i) h1
        refine ⟨.p i t', b, okk t' b h2, ?_⟩
        unfold Goes at *
        rw [wanted_put oj a oi.dst undef a1] at h3
        split
        · rename_i hwj
          rw [if_pos hwj] at h3
          refine wpW_mono (fun a' w' hq => ?_) (wpW_put hap hsi hsj h3)
          obtain ⟨⟨e1, e2⟩, hE, hT'⟩ := hq
          refine ⟨exS undef a' w' hE, oi, hi, ?_⟩
          rw [e2, if_neg hwi]
          exact hT'
        · rename_i hwj
          rw [if_neg hwj] at h3
          refine ⟨oi, hi, ?_⟩
          rw [wanted_put oi a oj.dst undef a3, if_neg hwi, ← Act.put_comm a undef undef a2]
          exact h3
  | s i t ih =>
    intro D S a w hok hC hSD hDj hdj hw
    simp only [okT] at hok
    obtain ⟨oi, hi, h1⟩ := hw
    rw [hi] at hok
    simp only [Bool.and_eq_true, Bool.not_eq_true', Bool.true_and] at hok
    obtain ⟨⟨⟨hDi, hdi⟩, hdst⟩, ht⟩ := hok
    by_cases hij : i = j
    · subst hij
      rw [hj] at hi
      injection hi with hi
      subst hi
      refine ⟨t, true, ht, ?_⟩
      unfold Goes
      split
      · rename_i hwt
        rw [if_pos hwt] at h1
        obtain ⟨v, hr, hT⟩ := h1
        refine .inl ?_
        unfold Oper.wp
        rw [hr]
        exact ⟨.inl rfl, hT⟩
      · rename_i hwt
        rw [if_neg hwt] at h1
        exact h1
    · have hBij : (B.getD i 0).testBit j = false := by
        cases hb : (B.getD i 0).testBit j
        · rfl
        · rw [mask_in hB hC i i (Nat.le_refl _) oi hi hdi j hb] at hDj; cases hDj
      have hBji : (B.getD j 0).testBit i = false := by
        cases hb : (B.getD j 0).testBit i
        · rfl
        · rw [mask_in hB hC j j (Nat.le_refl _) oj hj hdj i hb] at hDi; cases hDi
      have hBii : (B.getD i 0).testBit i = false := by
        cases hb : (B.getD i 0).testBit i
        · rfl
        · rw [mask_in hB hC i i (Nat.le_refl _) oi hi hdi i hb] at hDi; cases hDi
      obtain ⟨hdd, hap⟩ := pair_ok hp hi hj hij
      have hap : oi.apart ops oj = true := by
        rcases hap with h | h | h
        · rw [hBij] at h; cases h
        · rw [hBji] at h; cases h
        · exact h
      obtain ⟨a1, a2, a3⟩ := Oper.apart_spec hap
      have hsi := fun cs b => hs i oi cs b hi
      have hsj := fun cs b => hs j oj cs b hj
      have self := dst_ok hdst hi hBii
      have exS : ∀ (v : Value) (a' : Act) (w' : World), Ex P ops B (S ||| 2 ^ i) j w (a'.put oi.dst v) w' → Ex P ops B S j w a' w' := by
        intro v a' w' hE
        rcases hE with hE | hE
        · exact .inl hE
        · refine .inr fun h hSh hBh => ?_
          obtain ⟨x, hx, hdx⟩ := hC h (hSD h hSh)
          have hhi : h ≠ i := fun e => by rw [e] at hSh; rw [hSD i hSh] at hDi; cases hDi
          have hBhi : (B.getD h 0).testBit i = false := by
            cases hb : (B.getD h 0).testBit i
            · rfl
            · rw [mask_in hB hC h h (Nat.le_refl _) x hx hdx i hb] at hDi; cases hDi
          exact again_back (fun cs b => hs h x cs b hx) hx (dst_ok hdst hx hBhi) (pair_ok hp hx hi hhi).1 (hE h (by rw [bit_or, hSh, Bool.true_or]) hBh)
      have okk : ∀ (t' : T) (b : Bool), okT ops B true t' (D ||| 2 ^ i ||| 2 ^ j) (if b then S ||| 2 ^ i ||| 2 ^ j else S ||| 2 ^ i) = true → okT ops B true (.s i t') (D ||| 2 ^ j) (if b then S ||| 2 ^ j else S) = true := by
        intro t' b h
        rw [or_swap] at h
        simp only [okT, hi, Bool.and_eq_true, Bool.not_eq_true', Bool.true_and]
        refine ⟨⟨⟨?_, depsIn_or hdi j⟩, hdst⟩, ?_⟩
        · rw [bit_or, hDi, Bool.false_or, decide_eq_false_iff_not]
          exact fun e => hij e.symm
        · cases b
          · exact h
          · simp only [if_true] at h ⊢
            rw [or_swap S] at h
            exact h
      have hDj' : (D ||| 2 ^ i).testBit j = false := by rw [bit_or, hDj, Bool.false_or, decide_eq_false_iff_not]; exact hij
      have hSD' : ∀ k, (S ||| 2 ^ i).testBit k = true → (D ||| 2 ^ i).testBit k = true := fun k hk => by
        rw [bit_or, Bool.or_eq_true] at hk
        rw [bit_or, Bool.or_eq_true]
        exact hk.imp (hSD k) id
      by_cases hwi : Region.wanted oi (yielded ops a.tmps) = true
      · rw [if_pos hwi] at h1
        obtain ⟨v, hr, hT⟩ := h1
        obtain ⟨t', b, h2, h3⟩ := ih (D ||| 2 ^ i) (S ||| 2 ^ i) (a.put oi.dst v) w ht (hC.or hi hdi) hSD' hDj' (depsIn_or hdj i) hT
        refine ⟨.s i t', b, okk t' b h2, ?_⟩
        unfold Goes at *
        rw [wanted_put oj a oi.dst v a1] at h3
        split
        · rename_i hwj
          rw [if_pos hwj] at h3
          refine wpW_mono (fun a' w' hq => ?_) (wpW_put hap hsi hsj h3)
          obtain ⟨⟨e1, e2⟩, hE, hT'⟩ := hq
          refine ⟨exS v a' w' hE, oi, hi, ?_⟩
          rw [e2, if_pos hwi]
          rcases hE with rfl | hE
          · exact ⟨v, by rw [e1]; exact hr, hT'⟩
          · have h4 := hE i (by rw [bit_or]; simp) hBji oi hi (by rw [wanted_put oi a' oi.dst v self, e2]; exact hwi)
            rw [execOp_put oi hsi a' oi.dst v self] at h4
            exact ⟨_, h4, by rw [put_again a' oi.dst v _ rfl]; exact hT'⟩
        · rename_i hwj
          rw [if_neg hwj] at h3
          refine ⟨oi, hi, ?_⟩
          rw [wanted_put oi a oj.dst undef a3, if_pos hwi]
          exact ⟨v, by rw [execOp_put oi hsi a oj.dst undef a3]; exact hr, by rw [← Act.put_comm a v undef a2]; exact h3⟩
      · rw [if_neg hwi] at h1
        obtain ⟨t', b, h2, h3⟩ := ih (D ||| 2 ^ i) (S ||| 2 ^ i) (a.put oi.dst undef) w ht (hC.or hi hdi) hSD' hDj' (depsIn_or hdj i) h1
        refine ⟨.s i t', b, okk t' b h2, ?_⟩
        unfold Goes at *
        rw [wanted_put oj a oi.dst undef a1] at h3
        split
        · rename_i hwj
          rw [if_pos hwj] at h3
          refine wpW_mono (fun a' w' hq => ?_) (wpW_put hap hsi hsj h3)
          obtain ⟨⟨e1, e2⟩, hE, hT'⟩ := hq
          refine ⟨exS undef a' w' hE, oi, hi, ?_⟩
          rw [e2, if_neg hwi]
          exact hT'
        · rename_i hwj
          rw [if_neg hwj] at h3
          refine ⟨oi, hi, ?_⟩
          rw [wanted_put oi a oj.dst undef a3, if_neg hwi, ← Act.put_comm a undef undef a2]
          exact h3

def cnt (n D : Nat) : Nat := ((List.range n).filter fun i => !D.testBit i).length

theorem cnt_list (D j : Nat) (hDj : D.testBit j = false) : ∀ l : List Nat, l.Nodup → ((l.filter fun i => !(D ||| 2 ^ j).testBit i).length + if j ∈ l then 1 else 0) = (l.filter fun i => !D.testBit i).length
  | [], _ => rfl
  | x :: l, hn => by
    rw [List.nodup_cons] at hn
    have ih := cnt_list D j hDj l hn.2
    rw [List.filter_cons, List.filter_cons, bit_or]
    by_cases hx : j = x
    · subst hx
      rw [hDj]
      have : ¬ j ∈ l := hn.1
      simp only [this, if_false] at ih
      simp only [decide_true, Bool.or_true, Bool.not_true, Bool.false_eq_true, if_false, List.mem_cons_self, if_true, Bool.not_false, List.length_cons]
      omega
    · have e1 : decide (j = x) = false := decide_eq_false hx
      rw [e1, Bool.or_false]
      have e2 : (j ∈ x :: l) ↔ j ∈ l := by simp [hx]
      simp only [e2]
      cases D.testBit x
      · simp only [Bool.not_false, if_true, List.length_cons]
        omega
      · simp only [Bool.not_true, Bool.false_eq_true, if_false]
        exact ih

theorem cnt_step {n D j : Nat} (hj : j < n) (hDj : D.testBit j = false) : cnt n (D ||| 2 ^ j) + 1 = cnt n D := by
  have := cnt_list D j hDj (List.range n) List.nodup_range
  simp only [List.mem_range, hj, if_true] at this
  exact this

theorem ready_in {D : Nat} {listed : Array Bool} (hsz : listed.size = ops.size) (hl : ∀ k, k < ops.size → listed.getD k true = D.testBit k) {j : Nat} :
    j ∈ Region.ready .any ops listed ↔ ∃ o, ops[j]? = some o ∧ D.testBit j = false ∧ (depsIn o D = true ∨ ¬ ∀ e ∈ o.after.toList, Region.binds .any e = true → e.on < ops.size) ∧ ∀ e ∈ o.after.toList, Region.binds .any e = true → e.on < ops.size := by
  rw [mem_ready]
  constructor
  · rintro ⟨h1, o, ho, h2⟩
    have hlt : ∀ e ∈ o.after.toList, Region.binds .any e = true → e.on < ops.size := by
      intro e he hb
      have h3 := h2 e (by simpa using he) hb
      by_cases hx : e.on < ops.size
      · exact hx
      · rw [← hsz] at hx
        simp [Array.getElem?_eq_none (Nat.not_lt.1 hx)] at h3
    refine ⟨o, ho, by rw [← hl j (lt_of_some ho)]; exact h1, .inl ?_, hlt⟩
    unfold depsIn
    rw [List.all_eq_true]
    intro e he
    cases hb : Region.binds .any e
    · rfl
    · have h3 := h2 e (by simpa using he) hb
      have h4 := hl e.on (hlt e he hb)
      have h5 : e.on < listed.size := by rw [hsz]; exact hlt e he hb
      simp only [Bool.not_true, Bool.false_or]
      rw [← h4]
      simp [h5] at h3 ⊢
      exact h3
  · rintro ⟨o, ho, h1, h2, hlt⟩
    refine ⟨by rw [hl j (lt_of_some ho)]; exact h1, o, ho, fun e he hb => ?_⟩
    have h2 : depsIn o D = true := h2.resolve_right (fun h => h hlt)
    have he' : e ∈ o.after.toList := by simpa using he
    unfold depsIn at h2
    rw [List.all_eq_true] at h2
    have h3 := h2 e he'
    rw [hb] at h3
    simp only [Bool.not_true, Bool.false_or] at h3
    rw [← hl e.on (hlt e he' hb)] at h3
    have h5 : e.on < listed.size := by rw [hsz]; exact hlt e he' hb
    simp [h5] at h3 ⊢
    exact h3

theorem sound (hB : maskOk ops B = true) (hp : pairsOk ops B = true) (hsel : Region.noSelect ops = true) :
    ∀ (fuel : Nat) (t : T) (D S : Nat) (listed : Array Bool) (a : Act) (w : World), okT ops B true t D S = true → Closed ops D → (∀ k, S.testBit k = true → D.testBit k = true) → listed.size = ops.size →
      (∀ k, k < ops.size → listed.getD k true = D.testBit k) → cnt ops.size D ≤ fuel → wpC P ops Q t a w → wpAny P .any ops Q fuel listed a w := by
  have bound : ∀ {i : Nat} {o : Oper}, ops[i]? = some o → ∀ e ∈ o.after.toList, Region.binds .any e = true → e.on < ops.size := fun ho e he hb => Nat.lt_trans ((mask_row hB ho).2 e he hb) (lt_of_some ho)
  have nilOf : ∀ (t : T) (D S : Nat) (listed : Array Bool) (a : Act) (w : World), okT ops B true t D S = true → listed.size = ops.size → (∀ k, k < ops.size → listed.getD k true = D.testBit k) → Region.ready .any ops listed = [] → wpC P ops Q t a w → Q .normal a w := by
    intro t D S listed a w hok hsz hl hr hw
    have no : ∀ {i : Nat} {o : Oper}, ops[i]? = some o → D.testBit i = false → depsIn o D = true → False := fun {i o} ho h1 h2 => by
      have := (ready_in hsz hl).2 ⟨o, ho, h1, .inl h2, bound ho⟩
      rw [hr] at this
      cases this
    cases t with
    | nil => exact hw
    | stop => simp [okT] at hok
    | p i t =>
      simp only [okT] at hok
      obtain ⟨o, ho, _⟩ := hw
      rw [ho] at hok
      simp only [Bool.and_eq_true, Bool.not_eq_true', Bool.true_and] at hok
      exact (no ho hok.1.1.1 hok.1.1.2).elim
    | s i t =>
      simp only [okT] at hok
      obtain ⟨o, ho, _⟩ := hw
      rw [ho] at hok
      simp only [Bool.and_eq_true, Bool.not_eq_true', Bool.true_and] at hok
      exact (no ho hok.1.1.1 hok.1.1.2).elim
    | w i hs t e =>
      simp only [okT] at hok
      obtain ⟨⟨o, ho, _⟩, _⟩ := hw
      rw [ho] at hok
      simp only [Bool.and_eq_true, Bool.not_eq_true'] at hok
      exact (no ho hok.1.1.1.1.2 hok.1.1.1.2).elim
  intro fuel
  induction fuel with
  | zero =>
    intro t D S listed a w hok hC hSD hsz hl hc hw
    have hr : Region.ready .any ops listed = [] := by
      rw [List.eq_nil_iff_forall_not_mem]
      intro j hj
      obtain ⟨o, ho, h1, _⟩ := (ready_in hsz hl).1 hj
      have := cnt_step (lt_of_some ho) h1
      omega
    exact ⟨hr, nilOf t D S listed a w hok hsz hl hr hw⟩
  | succ fuel ih =>
    intro t D S listed a w hok hC hSD hsz hl hc hw
    refine ⟨fun hr => nilOf t D S listed a w hok hsz hl hr hw, fun j hj => ?_⟩
    obtain ⟨o, ho, h1, h2, h3⟩ := (ready_in hsz hl).1 hj
    have h2 : depsIn o D = true := h2.resolve_right (fun h => h h3)
    obtain ⟨t', b, h4, h5⟩ := bubble hB hp hsel ho t D S a w hok hC hSD h1 h2 hw
    have next : ∀ a' w', wpC P ops Q t' a' w' → wpAny P .any ops Q fuel (listed.setIfInBounds j true) a' w' := by
      intro a' w' h
      refine ih t' (D ||| 2 ^ j) _ _ a' w' h4 (hC.or ho h2) (fun k hk => ?_) (by simp [hsz]) (fun k hk => ?_) (by have := cnt_step (lt_of_some ho) h1; omega) h
      · cases b
        · rw [bit_or, hSD k (by simpa using hk), Bool.true_or]
        · simp only [if_true] at hk
          rw [bit_or, Bool.or_eq_true] at hk
          rw [bit_or, Bool.or_eq_true]
          exact hk.imp (hSD k) id
      · rw [bit_or]
        by_cases hjk : j = k
        · subst hjk
          have : j < listed.size := by rw [hsz]; exact hk
          simp [this]
        · rw [getD_set_ne true hjk, hl k hk, decide_eq_false hjk, Bool.or_false]
    unfold wpOp
    rw [ho]
    unfold Goes at h5
    simp only []
    split
    · rename_i hwt
      rw [if_pos hwt] at h5
      exact h5.imp (fun h => upon_QO (fun a' w' hq => next a' w' hq.2) h) id
    · rename_i hwt
      rw [if_neg hwt] at h5
      exact next _ _ h5

theorem cnt_zero (n : Nat) : cnt n 0 ≤ n := by
  have := List.length_filter_le (fun i => !(0 : Nat).testBit i) (List.range n)
  rw [List.length_range] at this
  exact this
end

/-- All that is looked at once. -/
def okAll (l : List Oper) (B : List Nat) (t : T) : Bool :=
  maskOk l.toArray B && pairsOk l.toArray B && Region.noSelect l.toArray && okT l.toArray B true t 0 0

/-- A REGION THAT DRAWS ITS ORDER, BY A TREE. -/
theorem wp_region_tree {P : Program} {Q : Exit → Act → World → Prop} {a : Act} {w : World} {id : Nat} {l : List Oper} (B : List Nat) (t : T) (hm : P.follows .mixedOrders = true) (hok : okAll l B t = true)
    (h : wpC P l.toArray Q t a w.drew) : (Code.region id l.toArray true).wp P Q a w := by
  unfold okAll at hok
  simp only [Bool.and_eq_true] at hok
  obtain ⟨⟨⟨h1, h2⟩, h3⟩, h4⟩ := hok
  refine wp_region_any hm ?_
  refine sound h1 h2 h3 _ t 0 0 _ a _ h4 (fun k hk => by simp at hk) (fun k hk => by simp at hk) (by simp) (fun k hk => ?_) (cnt_zero _) h
  simp at hk ⊢
  simp [hk]

/-! ### one step of the walk each -/
section
variable {P : Program} {ops : Array Oper} {Q : Exit → Act → World → Prop} {a : Act} {w : World}
theorem step_p {i : Nat} {t : T} {o : Oper} (ho : ops[i]? = some o)
    (h : ∀ K : Act → Prop, (∀ a, wpC P ops Q t a w → K a) → if Region.wanted o (yielded ops a.tmps) = true then ∃ v, (∀ w', (execOp a.eval o).run P w' = .ok (.value v) w') ∧ K (a.put o.dst v) else K (a.put o.dst undef)) : wpC P ops Q (.p i t) a w :=
  ⟨o, ho, h _ (fun _ h => h)⟩
theorem step_s {i : Nat} {t : T} {o : Oper} (ho : ops[i]? = some o)
    (h : ∀ K : Act → Prop, (∀ a, wpC P ops Q t a w → K a) → if Region.wanted o (yielded ops a.tmps) = true then ∃ v, (execOp a.eval o).run P w = .ok (.value v) w ∧ K (a.put o.dst v) else K (a.put o.dst undef)) : wpC P ops Q (.s i t) a w :=
  ⟨o, ho, h _ (fun _ h => h)⟩
/-- What follows behind an operation of a chain. -/
def QK (K : Act → World → Prop) (Q : Exit → Act → World → Prop) : Exit → Act → World → Prop
  | .normal, a, w => K a w
  | .outgrown, a, w => Q .outgrown a w
  | _, _, _ => False
theorem QK_normal (K : Act → World → Prop) (Q : Exit → Act → World → Prop) (a : Act) (w : World) (h : K a w) : QK K Q .normal a w := h
theorem upon_QK {o : Oper} {K : Act → World → Prop} {r : Result Next} (h : o.upon P a K (QK K Q) r) : o.upon P a K (QO Q) r := by
  cases r with
  | ok n w' =>
    cases n <;> simp only [Oper.upon] at h ⊢ <;>
      first
        | exact h
        | exact Calls.mono h (fun e w'' he => by
            cases e with
            | returned v => exact he
            | panicked c => exact he.elim
            | outgrown => exact he)
  | halt x w' =>
    cases x <;> simp only [Oper.upon] at h ⊢
    exact h.elim
theorem step_w {i : Nat} {hs : List Nat} {t e : T} {o : Oper} (ho : ops[i]? = some o) (hw : Region.wanted o (yielded ops a.tmps) = true)
    (h : ∀ K : Act → World → Prop, (∀ a w, (∀ h ∈ hs, Again P ops h a w) → wpC P ops Q t a w → K a w) → wpList P ops (QK K Q) [o] a w) (he : wpC P ops Q e a w) : wpC P ops Q (.w i hs t e) a w := by
  refine ⟨⟨o, ho, ?_⟩, he⟩
  rw [if_pos hw]
  have h1 := h (fun a' w' => (∀ h ∈ hs, Again P ops h a' w') ∧ wpC P ops Q t a' w') (fun _ _ h1 h2 => ⟨h1, h2⟩)
  unfold wpList at h1
  rw [if_pos hw] at h1
  exact h1.imp (fun h => upon_QK h) id
theorem skip_w {i : Nat} {hs : List Nat} {t e : T} {o : Oper} (ho : ops[i]? = some o) (hw : Region.wanted o (yielded ops a.tmps) = false)
    (h : wpC P ops Q t (a.put o.dst undef) w) (he : wpC P ops Q e a w) : wpC P ops Q (.w i hs t e) a w := by
  refine ⟨⟨o, ho, ?_⟩, he⟩
  rw [if_neg (by rw [hw]; exact Bool.false_ne_true)]
  exact h
theorem step_stop : wpC P ops Q .stop a w := trivial
theorem step_nil (h : Q .normal a w) : wpC P ops Q .nil a w := h
theorem again_nil : ∀ h ∈ ([] : List Nat), Again P ops h a w := fun _ h => by cases h
theorem again_one {h : Nat} {hs : List Nat} {o : Oper} (ho : ops[h]? = some o) (h1 : (execOp a.eval o).run P w = .ok (.value (slotOf a o.dst)) w) (h2 : ∀ h ∈ hs, Again P ops h a w) : ∀ k ∈ h :: hs, Again P ops k a w := by
  intro k hk
  rcases List.mem_cons.1 hk with rfl | hk
  · intro o' ho' _
    rw [ho] at ho'
    injection ho' with ho'
    subst ho'
    exact h1
  · exact h2 k hk
theorem again_not {h : Nat} {hs : List Nat} {o : Oper} (ho : ops[h]? = some o) (h1 : Region.wanted o (yielded ops a.tmps) = false) (h2 : ∀ h ∈ hs, Again P ops h a w) : ∀ k ∈ h :: hs, Again P ops k a w := by
  intro k hk
  rcases List.mem_cons.1 hk with rfl | hk
  · intro o' ho' hw
    rw [ho] at ho'
    injection ho' with ho'
    subst ho'
    rw [h1] at hw
    cases hw
  · exact h2 k hk
theorem again_cons {h : Nat} {hs : List Nat} {o : Oper} (ho : ops[h]? = some o) (h1 : Region.wanted o (yielded ops a.tmps) = true → (execOp a.eval o).run P w = .ok (.value (slotOf a o.dst)) w) (h2 : ∀ h ∈ hs, Again P ops h a w) : ∀ k ∈ h :: hs, Again P ops k a w := by
  intro k hk
  rcases List.mem_cons.1 hk with rfl | hk
  · intro o' ho' hw
    rw [ho] at ho'
    injection ho' with ho'
    subst ho'
    exact h1 hw
  · exact h2 k hk
end
end Go.RT
namespace Go.RT
open Go
section
variable {P : Program} {ops : Array Oper} {Q : Exit → Act → World → Prop}
theorem inv_sound (B : List Nat) (hB : maskOk ops B = true) (I : Nat → Act → World → Prop)
    (hstep : ∀ (D i : Nat) (o : Oper) (a : Act) (w : World), ops[i]? = some o → D.testBit i = false → depsIn o D = true → I D a w → wpOp P ops Q i (fun a' w' => I (D ||| 2 ^ i) a' w') a w)
    (hend : ∀ (D : Nat) (a : Act) (w : World), (∀ i, i < ops.size → D.testBit i = true) → I D a w → Q .normal a w) :
    ∀ (fuel : Nat) (D : Nat) (listed : Array Bool) (a : Act) (w : World), Closed ops D → listed.size = ops.size → (∀ k, k < ops.size → listed.getD k true = D.testBit k) → cnt ops.size D ≤ fuel → I D a w → wpAny P .any ops Q fuel listed a w := by
  have bound : ∀ {i : Nat} {o : Oper}, ops[i]? = some o → ∀ e ∈ o.after.toList, Region.binds .any e = true → e.on < ops.size := fun ho e he hb => Nat.lt_trans ((mask_row hB ho).2 e he hb) (lt_of_some ho)
  have full : ∀ (D : Nat) (listed : Array Bool), listed.size = ops.size → (∀ k, k < ops.size → listed.getD k true = D.testBit k) → Region.ready .any ops listed = [] → ∀ n i, i ≤ n → i < ops.size → D.testBit i = true := by
    intro D listed hsz hl hr n
    induction n with
    | zero =>
      intro i hi hlt
      obtain rfl : i = 0 := by omega
      cases h : D.testBit 0 with
      | true => rfl
      | false =>
        have ho : ops[0]? = some ops[0] := Array.getElem?_eq_getElem hlt
        have hd : depsIn ops[0] D = true := by
          unfold depsIn
          rw [List.all_eq_true]
          intro e he
          cases hb : Region.binds .any e with
          | false => rfl
          | true => have := (mask_row hB ho).2 e he hb; omega
        have := (ready_in hsz hl).2 ⟨_, ho, h, .inl hd, bound ho⟩
        rw [hr] at this
        cases this
    | succ n ih =>
      intro i hi hlt
      cases h : D.testBit i with
      | true => rfl
      | false =>
        have ho : ops[i]? = some ops[i] := Array.getElem?_eq_getElem hlt
        have hd : depsIn ops[i] D = true := by
          unfold depsIn
          rw [List.all_eq_true]
          intro e he
          cases hb : Region.binds .any e with
          | false => rfl
          | true =>
            have h1 := (mask_row hB ho).2 e he hb
            have h2 := ih e.on (by omega) (by omega)
            rw [h2]; simp
        have := (ready_in hsz hl).2 ⟨_, ho, h, .inl hd, bound ho⟩
        rw [hr] at this
        cases this
  intro fuel
  induction fuel with
  | zero =>
    intro D listed a w hC hsz hl hc hI
    have hr : Region.ready .any ops listed = [] := by
      rw [List.eq_nil_iff_forall_not_mem]
      intro j hj
      obtain ⟨o, ho, h1, _⟩ := (ready_in hsz hl).1 hj
      have := cnt_step (lt_of_some ho) h1
      omega
    exact ⟨hr, hend D a w (fun i hi => full D listed hsz hl hr i i (Nat.le_refl _) hi) hI⟩
  | succ fuel ih =>
    intro D listed a w hC hsz hl hc hI
    refine ⟨fun hr => hend D a w (fun i hi => full D listed hsz hl hr i i (Nat.le_refl _) hi) hI, fun j hj => ?_⟩
    obtain ⟨o, ho, h1, h2, h3⟩ := (ready_in hsz hl).1 hj
    have h2 : depsIn o D = true := h2.resolve_right (fun h => h h3)
    refine wpOp_mono (fun a' w' h => ?_) (hstep D j o a w ho h1 h2 hI)
    refine ih (D ||| 2 ^ j) _ a' w' (hC.or ho h2) (by simp [hsz]) (fun k hk => ?_) (by have := cnt_step (lt_of_some ho) h1; omega) h
    rw [bit_or]
    by_cases hjk : j = k
    · subst hjk
      have : j < listed.size := by rw [hsz]; exact hk
      simp [this]
    · rw [getD_set_ne true hjk, hl k hk, decide_eq_false hjk, Bool.or_false]
end
theorem wp_region_inv {P : Program} {Q : Exit → Act → World → Prop} {a : Act} {w : World} {id : Nat} {l : List Oper} (B : List Nat) (hm : P.follows .mixedOrders = true) (hB : maskOk l.toArray B = true) (I : Nat → Act → World → Prop)
    (h0 : I 0 a w.drew)
    (hstep : ∀ (D i : Nat) (o : Oper) (a : Act) (w : World), l[i]? = some o → D.testBit i = false → depsIn o D = true → I D a w → wpOp P l.toArray Q i (fun a' w' => I (D ||| 2 ^ i) a' w') a w)
    (hend : ∀ (D : Nat) (a : Act) (w : World), (∀ i, i < l.length → D.testBit i = true) → I D a w → Q .normal a w) : (Code.region id l.toArray true).wp P Q a w := by
  refine wp_region_any hm ?_
  refine inv_sound B hB I (fun D i o a w h => hstep D i o a w (by simpa using h)) (fun D a w h => hend D a w (by simpa using h)) _ 0 _ a _ (fun k hk => by simp at hk) (by simp) (fun k hk => ?_) (cnt_zero _) h0
  simp at hk ⊢
  simp [hk]
end Go.RT
namespace Go.RT
open Go
section
variable {P : Program} {ops : Array Oper} {Q : Exit → Act → World → Prop} {K : Act → World → Prop} {a : Act} {w w' : World} {i : Nat} {o : Oper}
theorem wanted_none (hg : o.guard = none) (c : Nat → Option Bool) : Region.wanted o c = true := by simp [Region.wanted, hg]
theorem wpOp_val {v : Value} (ho : ops[i]? = some o) (hg : o.guard = none) (hrun : (execOp a.eval o).run P w = .ok (.value v) w') (hk : K (a.put o.dst v) w') : wpOp P ops Q i K a w := by
  unfold wpOp
  rw [ho]
  show if Region.wanted o (yielded ops a.tmps) = true then _ else _
  rw [if_pos (wanted_none hg _)]
  left
  unfold Oper.wp
  rw [hrun]
  exact hk
theorem wpOp_skip (ho : ops[i]? = some o) (hg : o.guard = none) (hrun : (execOp a.eval o).run P w = .ok .skip w') (hk : K (a.put o.dst undef) w') : wpOp P ops Q i K a w := by
  unfold wpOp
  rw [ho]
  show if Region.wanted o (yielded ops a.tmps) = true then _ else _
  rw [if_pos (wanted_none hg _)]
  left
  unfold Oper.wp
  rw [hrun]
  exact hk
end
end Go.RT
