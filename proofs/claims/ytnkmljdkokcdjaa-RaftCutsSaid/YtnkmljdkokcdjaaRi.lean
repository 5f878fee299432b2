/- A region of operations whose order is drawn, by what holds of what has been done: if each operation that may come next keeps it, every order does. -/
import Derived.Test.YtnkmljdkokcdjaaRg
namespace Go.RT
open Go
section
variable {P : Program} {ops : Array Oper} {Q : Exit → Act → World → Prop}
theorem inv_sound (B : List Nat) (hB : maskOk ops B = true) (I : Nat → Act → World → Prop)
    (hstep : ∀ (D i : Nat) (o : Oper) (a : Act) (w : World), ops[i]? = some o → D.testBit i = false → depsIn o D = true → I D a w → wpOp P ops Q i (fun a' w' => I (D ||| 2 ^ i) a' w') a w)
    (hend : ∀ (D : Nat) (a : Act) (w : World), (∀ i, i < ops.size → D.testBit i = true) → I D a w → Q .normal a w) :
    ∀ (fuel : Nat) (D : Nat) (listed : Array Bool) (a : Act) (w : World), Closed ops D → listed.size = ops.size → (∀ k, k < ops.size → listed.getD k true = D.testBit k) → cnt ops.size D ≤ fuel → I D a w → wpAny P .any ops Q fuel listed a w := by
  have bound : ∀ {i : Nat} {o : Oper}, ops[i]? = some o → ∀ e ∈ o.after.toList, Region.binds .any e = true → e.on < ops.size := fun ho e he hb => Nat.lt_trans ((mask_row hB ho).2 e he hb) (lt_of_some ho)
  have full : ∀ (D : Nat) (listed : Array Bool), listed.size = ops.size → (∀ k, k < ops.size → listed.getD k true = D.testBit k) → Region.ready .any ops listed = [] → ∀ n i, i ≤ n → i < ops.size → D.testBit i = true := by
    intro D listed hsz hl hr n
    induction n with
    | zero =>
      intro i hi hlt
      obtain rfl : i = 0 := by omega
      cases h : D.testBit 0 with
      | true => rfl
      | false =>
        have ho : ops[0]? = some ops[0] := Array.getElem?_eq_getElem hlt
        have hd : depsIn ops[0] D = true := by
          unfold depsIn
          rw [List.all_eq_true]
          intro e he
          cases hb : Region.binds .any e with
          | false => rfl
          | true => have := (mask_row hB ho).2 e he hb; omega
        have := (ready_in hsz hl).2 ⟨_, ho, h, .inl hd, bound ho⟩
        rw [hr] at this
        cases this
    | succ n ih =>
      intro i hi hlt
      cases h : D.testBit i with
      | true => rfl
      | false =>
        have ho : ops[i]? = some ops[i] := Array.getElem?_eq_getElem hlt
        have hd : depsIn ops[i] D = true := by
          unfold depsIn
          rw [List.all_eq_true]
          intro e he
          cases hb : Region.binds .any e with
          | false => rfl
          | true =>
            have h1 := (mask_row hB ho).2 e he hb
            have h2 := ih e.on (by omega) (by omega)
            rw [h2]; simp
        have := (ready_in hsz hl).2 ⟨_, ho, h, .inl hd, bound ho⟩
        rw [hr] at this
        cases this
  intro fuel
  induction fuel with
  | zero =>
    intro D listed a w hC hsz hl hc hI
    have hr : Region.ready .any ops listed = [] := by
      rw [List.eq_nil_iff_forall_not_mem]
      intro j hj
      obtain ⟨o, ho, h1, _⟩ := (ready_in hsz hl).1 hj
      have := cnt_step (lt_of_some ho) h1
      omega
    exact ⟨hr, hend D a w (fun i hi => full D listed hsz hl hr i i (Nat.le_refl _) hi) hI⟩
  | succ fuel ih =>
    intro D listed a w hC hsz hl hc hI
    refine ⟨fun hr => hend D a w (fun i hi => full D listed hsz hl hr i i (Nat.le_refl _) hi) hI, fun j hj => ?_⟩
    obtain ⟨o, ho, h1, h2, h3⟩ := (ready_in hsz hl).1 hj
    have h2 : depsIn o D = true := h2.resolve_right (fun h => h h3)
    refine wpOp_mono (fun a' w' h => ?_) (hstep D j o a w ho h1 h2 hI)
    refine ih (D ||| 2 ^ j) _ a' w' (hC.or ho h2) (by simp [hsz]) (fun k hk => ?_) (by have := cnt_step (lt_of_some ho) h1; omega) h
    rw [bit_or]
    by_cases hjk : j = k
    · subst hjk
      have : j < listed.size := by rw [hsz]; exact hk
      simp [this]
    · rw [getD_set_ne true hjk, hl k hk, decide_eq_false hjk, Bool.or_false]
end
theorem wp_region_inv {P : Program} {Q : Exit → Act → World → Prop} {a : Act} {w : World} {id : Nat} {l : List Oper} (B : List Nat) (hm : P.follows .mixedOrders = true) (hB : maskOk l.toArray B = true) (I : Nat → Act → World → Prop)
    (h0 : I 0 a w.drew)
    (hstep : ∀ (D i : Nat) (o : Oper) (a : Act) (w : World), l[i]? = some o → D.testBit i = false → depsIn o D = true → I D a w → wpOp P l.toArray Q i (fun a' w' => I (D ||| 2 ^ i) a' w') a w)
    (hend : ∀ (D : Nat) (a : Act) (w : World), (∀ i, i < l.length → D.testBit i = true) → I D a w → Q .normal a w) : (Code.region id l.toArray true).wp P Q a w := by
  refine wp_region_any hm ?_
  refine inv_sound B hB I (fun D i o a w h => hstep D i o a w (by simpa using h)) (fun D a w h => hend D a w (by simpa using h)) _ 0 _ a _ (fun k hk => by simp at hk) (by simp) (fun k hk => ?_) (cnt_zero _) h0
  simp at hk ⊢
  simp [hk]
end Go.RT
namespace Go.RT
open Go
section
variable {P : Program} {ops : Array Oper} {Q : Exit → Act → World → Prop} {K : Act → World → Prop} {a : Act} {w w' : World} {i : Nat} {o : Oper}
theorem wanted_none (hg : o.guard = none) (c : Nat → Option Bool) : Region.wanted o c = true := by simp [Region.wanted, hg]
theorem wpOp_val {v : Value} (ho : ops[i]? = some o) (hg : o.guard = none) (hrun : (execOp a.eval o).run P w = .ok (.value v) w') (hk : K (a.put o.dst v) w') : wpOp P ops Q i K a w := by
  unfold wpOp
  rw [ho]
  show if Region.wanted o (yielded ops a.tmps) = true then _ else _
  rw [if_pos (wanted_none hg _)]
  left
  unfold Oper.wp
  rw [hrun]
  exact hk
theorem wpOp_skip (ho : ops[i]? = some o) (hg : o.guard = none) (hrun : (execOp a.eval o).run P w = .ok .skip w') (hk : K (a.put o.dst undef) w') : wpOp P ops Q i K a w := by
  unfold wpOp
  rw [ho]
  show if Region.wanted o (yielded ops a.tmps) = true then _ else _
  rw [if_pos (wanted_none hg _)]
  left
  unfold Oper.wp
  rw [hrun]
  exact hk
end
end Go.RT
