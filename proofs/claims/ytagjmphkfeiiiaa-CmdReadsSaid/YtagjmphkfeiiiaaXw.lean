/-
  Words beside the print's: a string appended as one step of a region that draws its order; conditions: none.
-/
import Derived.Test.YtagjmphkfeiiiaaWAll
import Derived.Test.YtagjmphkfeiiiaaWLast
import Derived.Lib.AppendStr
import Derived.ScopeJumps
import Derived.Laws.EntriesVeiled
import Derived.WalkMore
namespace Go.Proofs.YtagjmphkfeiiiaaW.PrintWords
open Go.RowKit Go.Proofs.YtagjmphkfeiiiaaW.PrintLast
section
variable {P : Program} (w : World)
theorem append_str_lies (base : Nat) (t u ty e : TypeId) (i : TypeInfo) (ht : P.underlying t = some (.slice e)) (hu : P.underlying u = some .string) (hi : P.info? e = some i) (hz : i.zero = some (.int .u8 0))
    (hsize : i.size = 1) (hby : i.bytes = 1) (v : Value) (n : Nat) (xs : List Value) (hown : w.ownsRow base e 1 v n xs) (s : ByteArray)
    (hbytes : n + s.size ≤ 140737488355328) (v1 : Value) (w1 : World) (h : (Builtin.append_ #[t, u] ty #[v, .string s]).run P w = .ok v1 w1) :
    v1.ownBlock = v.ownBlock ∨ v1.ownBlock = some w.heap.size := by
  have hxl : xs.length = n := by simpa using hown.1
  rcases hown.2 with ⟨rfl, rfl⟩ | ⟨g, cap, cur, rfl, hbg, hg, hnc, hcm, hcs, htake⟩
  · by_cases hm : s.size = 0
    · have hn : Lib.strCells s = [] := List.eq_nil_of_length_eq_zero (by rw [Lib.strCells_length]; exact hm)
      have hf := Lib.run_firstCells_string (P := P) w 1 s
      rw [hm] at hf
      have h2 : (Builtin.append_ #[t, u] ty #[.slice none 0 0, .string s]).run P w = .ok (.slice none 0 0) w := by
        simp [Builtin.append_, run_underlying ht, run_underlying hu, sizeOf, typeInfo, hi, hsize, Builtin.lenOf, hm, hf]
      rw [h2] at h
      injection h with h3 h4
      subst h3
      exact .inl rfl
    · have hr := run_append_nil_string (P := P) w t u ty e i (.int .u8 0) ht hu hi hz s (by omega) (by omega) (by rw [hby]; omega)
      rw [hr] at h
      injection h with h3 h4
      subst h3
      exact .inr rfl
  · by_cases hroom : n + s.size ≤ cap
    · have hcs' : cur.size = cap := by simpa using hcs
      have hr := Lib.run_append_room_string (P := P) w t u ty e i ht hu hi hsize g n cap cur hg s hroom (by omega)
      rw [hr] at h
      injection h with h3 h4
      subst h3
      exact .inl rfl
    · have holds : ∀ j u, xs[j]? = some u → w.cell? ((⟨g, 0, none⟩ : Addr).add j) = some u := hown.cells (g := g) rfl
      have hr := Lib.run_append_grow_string (P := P) w t u ty e i (.int .u8 0) ht hu hi hz ⟨g, 0, none⟩ n cap xs (by rw [hsize]; simpa using hxl) holds s (by omega) (by omega) (by rw [hby]; exact growslice_fits (by omega) (by omega))
      rw [hr] at h
      injection h with h3 h4
      subst h3
      exact .inr rfl
end
section
variable {P : Program} {o : Oper} {a : Act}
theorem append_str_run {w0 W : World} (base : Nat) (s x : Operand) (t u e : TypeId)
    (ho : o.op = .call { callee := .builtin .append, args := #[s, x], argTypes := #[t, u] })
    (ht : P.underlying t = some (.slice e)) (hu : P.underlying u = some .string) (hinfo : (P.info? e).map (fun i => (i.zero, i.size, i.bytes)) = some (some (.int .u8 0), 1, 1))
    (v : Value) (xs : List Int) (y : ByteArray) (ok : Nat → Prop) (hs : a.eval s = v) (hx : a.eval x = .string y) (hfresh : ∀ k, W.heap.size ≤ k → ok k)
    (HO : (Kd.int .u8).R e W base ok v xs) (HB : Below base w0 W) (hbase : base ≤ W.heap.size) (hl : xs.length + y.size ≤ 140737488355328) :
    ∃ v1 w1, (execOp a.eval o).run P W = .ok (.value v1) w1 ∧ (Kd.int .u8).R e w1 base ok v1 (xs ++ bytesOf y) ∧ Below base w0 w1 ∧ W.grownBy w1 v.ownBlock ∧ (v1.ownBlock = v.ownBlock ∨ ∃ b, v1.ownBlock = some b ∧ W.heap.size ≤ b) := by
  obtain ⟨i0, hi, hzz⟩ := Option.map_eq_some_iff.1 hinfo
  simp only [Prod.mk.injEq] at hzz
  obtain ⟨hz0, hz1, hz2⟩ := hzz
  have hown0 : W.ownsRow base e 1 v xs.length (nums .u8 xs) := Kd.own_of_R HO
  obtain ⟨v1, w1, hr, hown, hg, _⟩ := Lib.run_append_own_string (P := P) (w := W) base t u o.type e i0 ht hu hi hz0 hz1 hz2 v xs.length (nums .u8 xs) hown0 y (by simp only [maxLen]; omega) hl hbase
  have hat := append_str_lies (P := P) W base t u o.type e i0 ht hu hi hz0 hz1 hz2 v xs.length (nums .u8 xs) hown0 y hl v1 w1 hr
  have hl2 : (xs ++ bytesOf y).length = xs.length + y.size := by rw [List.length_append, bytesOf_length]
  have hc : nums .u8 (xs ++ bytesOf y) = nums .u8 xs ++ Lib.strCells y := by
    rw [nums_append]
    congr 1
    simp [nums, bytesOf, Lib.strCells]
  refine ⟨v1, w1, ?_, Kd.R_of_own (h1 := fun _ => rfl) (enc := Value.int .u8) ?_ ?_, HB.grown hg hbase (own_base hown0), hg, ?_⟩
  · unfold execOp
    simp only [ho, resolve, invoke, builtin, Sem.run_bind, Sem.run_pure, Result.andThen_ok, List.map_toArray, List.map_cons, List.map_nil, hs, hx, hr]
  · show w1.ownsRow base e 1 v1 (xs ++ bytesOf y).length (nums .u8 (xs ++ bytesOf y))
    rw [hl2, hc]
    exact hown
  · intro k hk
    rcases hat with hat | hat
    · exact HO.1 k (by rw [← hat]; exact hk)
    · rw [hat] at hk
      injection hk with hk
      subst hk
      exact hfresh _ (Nat.le_refl _)
  · rcases hat with hat | hat
    · exact .inl hat
    · exact .inr ⟨_, hat, Nat.le_refl _⟩
end
section
variable {P : Program} {ops : Array Oper} {rest : List Oper} {o : Oper} {a : Act} {Q : Exit → Act → World → Prop} {Kc : Act → World → Prop}
theorem Kd.R_append_str {w0 W : World} (base : Nat) (hgd : o.guard = none) (s x : Operand) (t u e : TypeId)
    (ho : o.op = .call { callee := .builtin .append, args := #[s, x], argTypes := #[t, u] })
    (ht : P.underlying t = some (.slice e)) (hu : P.underlying u = some .string) (hinfo : (P.info? e).map (fun i => (i.zero, i.size, i.bytes)) = some (some (.int .u8 0), 1, 1))
    (v : Value) (xs : List Int) (y : ByteArray) (ok : Nat → Prop) (hs : a.eval s = v) (hx : a.eval x = .string y) (hfresh : ∀ k, W.heap.size ≤ k → ok k)
    (HO : (Kd.int .u8).R e W base ok v xs) (HB : Below base w0 W) (hbase : base ≤ W.heap.size) (hl : xs.length + y.size ≤ 140737488355328)
    (h : ∀ v1 w1, (Kd.int .u8).R e w1 base ok v1 (xs ++ bytesOf y) → Below base w0 w1 → W.grownBy w1 v.ownBlock → (v1.ownBlock = v.ownBlock ∨ ∃ b, v1.ownBlock = some b ∧ W.heap.size ≤ b) → wpList P ops Q rest (a.put o.dst v1) w1) :
    wpList P ops Q (o :: rest) a W := by
  obtain ⟨v1, w1, hr, h1, h2, h3, h4⟩ := append_str_run base s x t u e ho ht hu hinfo v xs y ok hs hx hfresh HO HB hbase hl
  exact event_run hgd hr (h v1 w1 h1 h2 h3 h4)
theorem Kd.R_append_str_step {w0 W : World} (base : Nat) (hw : Region.wanted o (yielded ops a.tmps) = true) (s x : Operand) (t u e : TypeId)
    (ho : o.op = .call { callee := .builtin .append, args := #[s, x], argTypes := #[t, u] })
    (ht : P.underlying t = some (.slice e)) (hu : P.underlying u = some .string) (hinfo : (P.info? e).map (fun i => (i.zero, i.size, i.bytes)) = some (some (.int .u8 0), 1, 1))
    (v : Value) (xs : List Int) (y : ByteArray) (ok : Nat → Prop) (hs : a.eval s = v) (hx : a.eval x = .string y) (hfresh : ∀ k, W.heap.size ≤ k → ok k)
    (HO : (Kd.int .u8).R e W base ok v xs) (HB : Below base w0 W) (hbase : base ≤ W.heap.size) (hl : xs.length + y.size ≤ 140737488355328)
    (h : ∀ v1 w1, (Kd.int .u8).R e w1 base ok v1 (xs ++ bytesOf y) → Below base w0 w1 → W.grownBy w1 v.ownBlock → (v1.ownBlock = v.ownBlock ∨ ∃ b, v1.ownBlock = some b ∧ W.heap.size ≤ b) → Kc (a.put o.dst v1) w1) :
    if Region.wanted o (yielded ops a.tmps) = true then Oper.wp P o a W Kc Q else Kc (a.put o.dst undef) W := by
  obtain ⟨v1, w1, hr, h1, h2, h3, h4⟩ := append_str_run base s x t u e ho ht hu hinfo v xs y ok hs hx hfresh HO HB hbase hl
  exact event_step hw hr (h v1 w1 h1 h2 h3 h4)
end
section
variable {P : Program} {a : Act} {w : World} {Q : Exit → Act → World → Prop}
theorem wp_scope_ghost {c rest : Code} (l : Nat) (J : Nat → Act → World → Prop) (hf : findLabel c l = some rest)
    (pass : ∀ k a w, J k a w → rest.wp P (Exit.jump l (fun a' w' => ∃ k', k' < k ∧ J k' a' w') Q) a w)
    (first : (∀ k a w, J k a w → rest.wp P (Exit.jump l (fun a' w' => ∃ k', J k' a' w') Q) a w) → c.wp P (Exit.jump l (fun a' w' => ∃ k', J k' a' w') Q) a w) :
    (Code.scope c).wp P Q a w := by
  classical
  have hmin : ∀ n a w, J n a w → ∃ m, J m a w ∧ ∀ j, J j a w → m ≤ j := by
    intro n
    induction n using Nat.strongRecOn with
    | _ n ih =>
      intro a w h
      by_cases hx : ∃ j, j < n ∧ J j a w
      · obtain ⟨j, hj, hJ⟩ := hx
        exact ih j hj a w hJ
      · exact ⟨n, h, fun j hj => by
          by_cases hlt : j < n
          · exact absurd ⟨j, hlt, hj⟩ hx
          · omega⟩
  have hm : ∀ a w, ∃ m, (∃ k, J k a w) → J m a w ∧ ∀ j, J j a w → m ≤ j := by
    intro a w
    by_cases hx : ∃ k, J k a w
    · obtain ⟨k, hk⟩ := hx
      obtain ⟨m, h1, h2⟩ := hmin k a w hk
      exact ⟨m, fun _ => ⟨h1, h2⟩⟩
    · exact ⟨0, fun h => absurd h hx⟩
  refine wp_scope_jumps l (fun a w => ∃ k, J k a w) (fun a w => (hm a w).choose) hf (first fun k a w hk => ?_) (fun a w hx => ?_)
  · refine Go.wp_mono (pass k a w hk) fun e a' w' h => ?_
    cases e with
    | goto l' =>
      obtain ⟨h1, k', _, h2⟩ := h
      exact ⟨h1, k', h2⟩
    | normal => exact h
    | exit id => exact h
    | ret => exact h
    | panic ch => exact h
    | outgrown => exact h
  · obtain ⟨h1, h2⟩ := (hm a w).choose_spec hx
    refine Go.wp_mono (pass _ a w h1) fun e a' w' h => ?_
    cases e with
    | goto l' =>
      obtain ⟨h3, k', hlt, h4⟩ := h
      exact ⟨h3, ⟨k', h4⟩, Nat.lt_of_le_of_lt (((hm a' w').choose_spec ⟨k', h4⟩).2 k' h4) hlt⟩
    | normal => exact h
    | exit id => exact h
    | ret => exact h
    | panic ch => exact h
    | outgrown => exact h
theorem wp_scope_label {rest : Code} (l : Nat) (J : Nat → Act → World → Prop) (k : Nat) (h0 : J k a w)
    (pass : ∀ k a w, J k a w → rest.wp P (Exit.jump l (fun a' w' => ∃ k', k' < k ∧ J k' a' w') Q) a w) : (Code.scope ((Code.label l).seq rest)).wp P Q a w :=
  wp_scope_ghost (rest := Code.skip.seq rest) l J (by simp [findLabel]) (fun k a w h => wp_seq (wp_skip (pass k a w h))) fun hp => by
    have h1 := hp k a w h0
    refine wp_seq (wp_label ?_)
    refine Go.wp_mono (pass k a w h0) fun e a' w' h => ?_
    cases e with
    | goto l' =>
      obtain ⟨h1, k', _, h2⟩ := h
      exact ⟨h1, k', h2⟩
    | normal => exact h
    | exit id => exact h
    | ret => exact h
    | panic ch => exact h
    | outgrown => exact h
theorem wp_scope_behind {c0 rest : Code} (l : Nat) (J : Nat → Act → World → Prop) (a1 : Act) (k1 : Nat) (hf : findLabel c0 l = none) (h1 : J k1 a1 w)
    (h0 : c0.wp P (fun e a' w' => e = .normal ∧ a' = a1 ∧ w' = w) a w)
    (pass : ∀ k a w, J k a w → rest.wp P (Exit.jump l (fun a' w' => ∃ k', k' < k ∧ J k' a' w') Q) a w) : (Code.scope (c0.seq ((Code.label l).seq rest))).wp P Q a w :=
  wp_scope_ghost (rest := Code.skip.seq rest) l J (by simp [findLabel, hf]) (fun k a w h => wp_seq (wp_skip (pass k a w h))) fun _ => wp_seq (Go.wp_mono h0 fun e a' w' h => by
    obtain ⟨rfl, rfl, rfl⟩ := h
    refine wp_seq (wp_label ?_)
    refine Go.wp_mono (pass k1 a' w' h1) fun e a'' w'' h => ?_
    cases e with
    | goto l' =>
      obtain ⟨h1, k', _, h2⟩ := h
      exact ⟨h1, k', h2⟩
    | normal => exact h
    | exit id => exact h
    | ret => exact h
    | panic ch => exact h
    | outgrown => exact h)
end
theorem cells3 {w : World} {g t : Nat} {v0 v1 v2 : Value} (h : w.heap[g]? = some (.cells #[v0, v1, v2] t (0, 0))) : w.cell? ⟨g, 0, none⟩ = some v0 ∧ w.cell? ⟨g, 1, none⟩ = some v1 ∧ w.cell? ⟨g, 2, none⟩ = some v2 := ⟨(blk_cell h 0).trans rfl, (blk_cell h 1).trans rfl, (blk_cell h 2).trans rfl⟩
theorem froz3 {w : World} {g t : Nat} {cs : Array Value} (h : w.heap[g]? = some (.cells cs t (0, 0))) : w.frozen? ⟨g, 0, none⟩ = false ∧ w.frozen? ⟨g, 1, none⟩ = false ∧ w.frozen? ⟨g, 2, none⟩ = false := ⟨blk_frozen h 0, blk_frozen h 1, blk_frozen h 2⟩
theorem cells4 {w : World} {g t : Nat} {v0 v1 v2 v3 : Value} (h : w.heap[g]? = some (.cells #[v0, v1, v2, v3] t (0, 0))) : w.cell? ⟨g, 0, none⟩ = some v0 ∧ w.cell? ⟨g, 1, none⟩ = some v1 ∧ w.cell? ⟨g, 2, none⟩ = some v2 ∧ w.cell? ⟨g, 3, none⟩ = some v3 := ⟨(blk_cell h 0).trans rfl, (blk_cell h 1).trans rfl, (blk_cell h 2).trans rfl, (blk_cell h 3).trans rfl⟩
theorem froz4 {w : World} {g t : Nat} {cs : Array Value} (h : w.heap[g]? = some (.cells cs t (0, 0))) : w.frozen? ⟨g, 0, none⟩ = false ∧ w.frozen? ⟨g, 1, none⟩ = false ∧ w.frozen? ⟨g, 2, none⟩ = false ∧ w.frozen? ⟨g, 3, none⟩ = false := ⟨blk_frozen h 0, blk_frozen h 1, blk_frozen h 2, blk_frozen h 3⟩
theorem cells6 {w : World} {g t : Nat} {v0 v1 v2 v3 v4 v5 : Value} (h : w.heap[g]? = some (.cells #[v0, v1, v2, v3, v4, v5] t (0, 0))) : w.cell? ⟨g, 0, none⟩ = some v0 ∧ w.cell? ⟨g, 1, none⟩ = some v1 ∧ w.cell? ⟨g, 2, none⟩ = some v2 ∧ w.cell? ⟨g, 3, none⟩ = some v3 ∧ w.cell? ⟨g, 4, none⟩ = some v4 ∧ w.cell? ⟨g, 5, none⟩ = some v5 := ⟨(blk_cell h 0).trans rfl, (blk_cell h 1).trans rfl, (blk_cell h 2).trans rfl, (blk_cell h 3).trans rfl, (blk_cell h 4).trans rfl, (blk_cell h 5).trans rfl⟩
theorem froz6 {w : World} {g t : Nat} {cs : Array Value} (h : w.heap[g]? = some (.cells cs t (0, 0))) : w.frozen? ⟨g, 0, none⟩ = false ∧ w.frozen? ⟨g, 1, none⟩ = false ∧ w.frozen? ⟨g, 2, none⟩ = false ∧ w.frozen? ⟨g, 3, none⟩ = false ∧ w.frozen? ⟨g, 4, none⟩ = false ∧ w.frozen? ⟨g, 5, none⟩ = false := ⟨blk_frozen h 0, blk_frozen h 1, blk_frozen h 2, blk_frozen h 3, blk_frozen h 4, blk_frozen h 5⟩
def bv (n m : Nat) : Array Bool := ((List.range n).map fun i => m.testBit i).toArray
def BytesAt (w : World) (ad : Addr) (s : ByteArray) : Prop := ∀ j, j < s.size → w.cell? (ad.add j) = some (.int .u8 (bt s j))
theorem BytesAt.get {w : World} {ad : Addr} {s : ByteArray} (h : BytesAt w ad s) (i : Int) (h0 : 0 ≤ i) (h1 : i < s.size) : w.cell? (ad.add i.toNat) = some (.int .u8 (bt s i)) := by
  have h2 := h i.toNat (by omega)
  rw [Int.toNat_of_nonneg h0] at h2
  exact h2
theorem BytesAt.below {w w1 : World} {ad : Addr} {s : ByteArray} (h : BytesAt w ad s) (hb : Below w.heap.size w w1) : BytesAt w1 ad s := fun j hj => pw_cell_below hb (h j hj)
section
variable {P : Program} {ops : Array Oper} {rest : List Oper} {o : Oper} {a : Act} {Q : Exit → Act → World → Prop}
theorem bytes_event {W : World} (hgd : o.guard = none) (src dst e : TypeId) (x : Operand) (ho : o.op = .convert src dst x) {u : TypeDesc} (hs : P.underlying src = some u) (hd : P.underlying dst = some (.slice e)) (he : P.underlying e = some (.int .u8))
    (s : ByteArray) (hx : a.eval x = .string s)
    (h : ∀ ad w1 c, BytesAt w1 ad s → Below W.heap.size W w1 → wpList P ops Q rest (a.put o.dst (.slice (some ad) s.size c)) w1) : wpList P ops Q (o :: rest) a W := by
  refine Kd.event_run hgd ?_ (h ⟨W.heap.size, 0, none⟩ (Lib.bytesWorld W e s) (grownCap W s.size 0 e) (fun j hj => ?_) (bytes_below (Below.refl _ _) (Nat.le_refl _) e s))
  · unfold execOp
    simp only [ho, hx, Sem.run_bind, print_bytes src dst e hs hd he s W, Result.andThen_ok, Sem.run_pure]
  · rw [add_plain, Lib.bytesWorld_cell W e s j hj]
    simp [bt, hj]
    rfl
end
section
variable {P : Program} {ops : Array Oper} {Q : Exit → Act → World → Prop}
theorem enter_value {oi : Oper} {a : Act} {w : World} {f : FuncId} {fn : Func} {c : Operand} {as : Array Operand} {ts : Array TypeId} {fst cap : Array Value} (hf : P.funcs[f]? = some fn) (hname : (fn.name == "runtime.NumGoroutine") = false) (hb : fn.body.isSome = true) (args : Array Value)
    (hop : oi.op = .call { callee := .value c, args := as, argTypes := ts }) (hc : a.eval c = .func (.func f) fst cap) (hargs : fst ++ as.map a.eval ++ cap = args) : (execOp a.eval oi).run P w = .ok (.enter f args) w := by
  have he := enters_ hf hname hb args w
  subst hargs
  unfold execOp
  simp only [hop, resolve, hc, Deferred.ofValue, invoke, Sem.run_bind, Sem.run_pure, Result.andThen_ok]
  exact he
theorem goesV_ {oi : Oper} {N : Option Tmp} {a : Act} {w : World} {K : Act → World → Prop} {f : FuncId} {fn : Func} {c : Operand} {as : Array Operand} {ts : Array TypeId} {fst cap : Array Value} (hf : P.funcs[f]? = some fn) (hname : (fn.name == "runtime.NumGoroutine") = false) (hb : fn.body.isSome = true) (args : Array Value)
    (hw : Region.wanted oi (yielded ops a.tmps) = true) (hN : oi.dst = N) (hop : oi.op = .call { callee := .value c, args := as, argTypes := ts }) (hc : a.eval c = .func (.func f) fst cap) (hargs : fst ++ as.map a.eval ++ cap = args)
    (h : Calls P f args w fun e w' => ∃ v, e = .returned v ∧ K (a.put N v) w') : if Region.wanted oi (yielded ops a.tmps) = true then Oper.wp P oi a w K Q else K (a.put N undef) w :=
  call_ f args hw hN (enter_value hf hname hb args hop hc hargs) h
theorem goesLV_ {rest : List Oper} {oi : Oper} {a : Act} {w : World} (N : Option Tmp) (hd : oi.dst = N) (hg : oi.guard = none) {f : FuncId} {fn : Func} {c : Operand} {as : Array Operand} {ts : Array TypeId} {fst cap : Array Value} (hf : P.funcs[f]? = some fn) (hname : (fn.name == "runtime.NumGoroutine") = false) (hb : fn.body.isSome = true) (args : Array Value)
    (hop : oi.op = .call { callee := .value c, args := as, argTypes := ts }) (hc : a.eval c = .func (.func f) fst cap) (hargs : fst ++ as.map a.eval ++ cap = args)
    (h : Calls P f args w fun e w' => ∃ v, e = .returned v ∧ wpList P ops Q rest (a.put N v) w') : wpList P ops Q (oi :: rest) a w := by
  refine wpList_plain hg fun K hK => ?_
  have hrun := enter_value (w := w) hf hname hb args hop hc hargs
  unfold Oper.wp
  rw [hrun, Oper.upon_enter]
  refine h.mono fun e w'' hh => ?_
  obtain ⟨v, rfl, hk⟩ := hh
  subst hd
  exact hK _ _ hk
end
end Go.Proofs.YtagjmphkfeiiiaaW.PrintWords
