/- Rows of the call's own, with the block that is theirs named; rows that are read, with the block they lie in; append, cut, load, store. -/
import Derived.WalkKit
import Derived.ArgAppend
import Derived.Laws.OwnMore
set_option linter.unusedVariables false
set_option linter.unusedSimpArgs false
namespace Go.MM
open Go Go.RowKit

theorem ret_int {k : IntKind} {a b : Int} (h : a = b) : Ending.returned (.int k a) = .returned (.int k b) := by rw [h]
theorem ret_bool {a b : Bool} (h : a = b) : Ending.returned (.bool a) = .returned (.bool b) := by rw [h]

/-- v is a slice of n elements (type e, sz cells each) that lies at the head of block ob; none: it has no room at all. -/
def Row (w : World) (base : Nat) (e : TypeId) (sz : Nat) (v : Value) (n : Nat) (xs : List Value) (ob : Option Nat) : Prop :=
  xs.length = n * sz ∧ match ob with
    | some g => ∃ cap cur, v = .slice (some ⟨g, 0, none⟩) n cap ∧ base ≤ g ∧ w.heap[g]? = some (.cells cur e (0, 0)) ∧ n ≤ cap ∧ cap ≤ maxLen ∧ cur.size = cap * sz ∧ cur.toList.take (n * sz) = xs
    | none => n = 0 ∧ ∃ A, v = .slice A 0 0

/-- v is a slice of n elements that reads as xs; what it leads to lies in ok. -/
def Rd (w : World) (ok : Nat → Prop) (sz : Nat) (v : Value) (n : Nat) (xs : List Value) : Prop :=
  xs.length = n * sz ∧ ∃ A c, v = .slice A n c ∧ n ≤ c ∧ c ≤ maxLen ∧
    (0 < n → ∃ b o, A = some ⟨b, o, none⟩ ∧ ok b ∧ b < w.heap.size ∧ ∀ j u, xs[j]? = some u → w.cell? ⟨b, o + j, none⟩ = some u)

/-- Block k is of element type t. -/
def Ty (w : World) (k : Nat) (t : TypeId) : Prop := ∃ c f, w.heap[k]? = some (.cells c t f)

section
variable {w w1 : World} {base base' : Nat} {e : TypeId} {sz n : Nat} {v : Value} {xs : List Value} {ob : Option Nat} {ok ok' : Nat → Prop}

theorem blk_lt {k : Nat} {o : Obj} (h : w.heap[k]? = some o) : k < w.heap.size := (Array.getElem?_eq_some_iff.1 h).1

theorem Row.len (h : Row w base e sz v n xs ob) : xs.length = n * sz := h.1
theorem Row.slice (h : Row w base e sz v n xs ob) : ∃ A c, v = .slice A n c ∧ n ≤ c ∧ c ≤ maxLen := by
  cases ob with
  | none => obtain ⟨_, rfl, A, rfl⟩ := h; exact ⟨A, 0, rfl, Nat.le_refl _, by simp [maxLen]⟩
  | some g => obtain ⟨_, cap, cur, rfl, _, _, h1, h2, _⟩ := h; exact ⟨_, cap, rfl, h1, h2⟩
theorem Row.lt (h : Row w base e sz v n xs ob) : ∀ k, ob = some k → base ≤ k ∧ k < w.heap.size := by
  rintro k rfl
  obtain ⟨_, cap, cur, _, h1, h2, _⟩ := h
  exact ⟨h1, blk_lt h2⟩
theorem Row.ty (h : Row w base e sz v n xs ob) : ∀ k, ob = some k → Ty w k e := by
  rintro k rfl
  obtain ⟨_, cap, cur, _, h1, h2, _⟩ := h
  exact ⟨_, _, h2⟩
theorem Row.nil (w : World) (base : Nat) (e : TypeId) (sz : Nat) (A : Option Addr) : Row w base e sz (.slice A 0 0) 0 [] none := ⟨by simp, rfl, A, rfl⟩
theorem Row.step (h : Row w base e sz v n xs ob) (hm : ∀ k, ob = some k → k < w.heap.size → w1.heap[k]? = w.heap[k]?) : Row w1 base e sz v n xs ob := by
  cases ob with
  | none => exact h
  | some g =>
    obtain ⟨h0, cap, cur, h1, h2, h3, h4⟩ := h
    exact ⟨h0, cap, cur, h1, h2, (hm g rfl (blk_lt h3)).trans h3, h4⟩
theorem Row.lower (h : Row w base e sz v n xs ob) (hb : base' ≤ base) : Row w base' e sz v n xs ob := by
  cases ob with
  | none => exact h
  | some g =>
    obtain ⟨h0, cap, cur, h1, h2, h3⟩ := h
    exact ⟨h0, cap, cur, h1, Nat.le_trans hb h2, h3⟩
theorem Row.below (h : Row w base e sz v n xs ob) (hb : Below w.heap.size w w1) : Row w1 base e sz v n xs ob := h.step fun k _ hk => hb.block k hk
theorem Row.grown (h : Row w base e sz v n xs ob) {row : Option Nat} (hg : w.grownBy w1 row) (hne : ∀ k, ob = some k → some k ≠ row) : Row w1 base e sz v n xs ob := h.step fun k hk hlt => hg.block k hlt (hne k hk)
theorem Row.far (h : Row w base e sz v n xs ob) {p : Addr} (hne : ∀ k, ob = some k → k ≠ p.block) (u : Value) : Row (w.setCell p u) base e sz v n xs ob := h.step fun k hk _ => Below.heap_setCell w p u k (hne k hk)
theorem Row.alloc (h : Row w base e sz v n xs ob) (o : Obj) : Row (w.alloc o) base e sz v n xs ob := h.step fun k _ hk => Below.heap_alloc w o k hk
theorem Row.drew (h : Row w base e sz v n xs ob) : Row w.drew base e sz v n xs ob := h
theorem Row.cell {g : Nat} (h : Row w base e sz v n xs (some g)) {j : Nat} {u : Value} (hj : xs[j]? = some u) : w.cell? ⟨g, j, none⟩ = some u := by
  obtain ⟨h0, cap, cur, h1, h2, h3, h4, h5, h6, h7⟩ := h
  have hjl : j < n * sz := by rw [← h0]; exact (List.getElem?_eq_some_iff.1 hj).1
  rw [← h7, List.getElem?_take, if_pos hjl, Array.getElem?_toList] at hj
  simp [World.cell?, h3, hj]
theorem Row.free {g : Nat} (h : Row w base e sz v n xs (some g)) (j : Nat) : w.frozen? ⟨g, j, none⟩ = false := by
  obtain ⟨h0, cap, cur, h1, h2, h3, _⟩ := h
  simp [World.frozen?, h3]
theorem Row.set {g i : Nat} {u : Value} (h : Row w base e 1 v n xs (some g)) (hi : i < n) : Row (w.setCell ⟨g, i, none⟩ u) base e 1 v n (xs.set i u) (some g) := by
  obtain ⟨h0, cap, cur, h1, h2, h3, h4, h5, h6, h7⟩ := h
  refine ⟨by rw [List.length_set]; exact h0, cap, cur.setIfInBounds i u, h1, h2, ?_, h4, h5, by simp [h6], ?_⟩
  · simp [World.setCell, Array.getElem?_modify, h3]
  · rw [Array.toList_setIfInBounds, ← h7, List.take_set]
theorem Row.some_of (h : Row w base e sz v n xs ob) (hn : 0 < n) : ∃ g, ob = some g := by
  cases ob with
  | none => obtain ⟨_, h1, _⟩ := h; omega
  | some g => exact ⟨g, rfl⟩
theorem Row.form {g : Nat} (h : Row w base e sz v n xs (some g)) : ∃ cap, v = .slice (some ⟨g, 0, none⟩) n cap ∧ n ≤ cap ∧ cap ≤ maxLen := by
  obtain ⟨_, cap, cur, h1, _, _, h2, h3, _⟩ := h
  exact ⟨cap, h1, h2, h3⟩
theorem Row.rd (h : Row w base e sz v n xs ob) : Rd w (fun k => ob = some k) sz v n xs := by
  cases ob with
  | none => obtain ⟨h0, rfl, A, rfl⟩ := h; exact ⟨h0, A, 0, rfl, Nat.le_refl _, by simp [maxLen], fun h => absurd h (by omega)⟩
  | some g =>
    obtain ⟨cap, rfl, h1, h2⟩ := h.form
    exact ⟨h.1, _, cap, rfl, h1, h2, fun _ => ⟨g, 0, rfl, rfl, (h.lt g rfl).2, fun j u hj => by rw [Nat.zero_add]; exact h.cell hj⟩⟩

theorem Rd.slice (h : Rd w ok sz v n xs) : ∃ A c, v = .slice A n c ∧ n ≤ c ∧ c ≤ maxLen := by
  obtain ⟨_, A, c, h1, h2, h3, _⟩ := h
  exact ⟨A, c, h1, h2, h3⟩
theorem Rd.mono (h : Rd w ok sz v n xs) (hok : ∀ k, ok k → k < w.heap.size → ok' k) : Rd w ok' sz v n xs := by
  obtain ⟨h0, A, c, h1, h2, h3, h4⟩ := h
  exact ⟨h0, A, c, h1, h2, h3, fun hn => by obtain ⟨b, o, e1, e2, e3, e4⟩ := h4 hn; exact ⟨b, o, e1, hok b e2 e3, e3, e4⟩⟩
theorem Rd.step (h : Rd w ok sz v n xs) (hm : ∀ k, ok k → k < w.heap.size → w1.heap[k]? = w.heap[k]?) : Rd w1 ok sz v n xs := by
  obtain ⟨h0, A, c, h1, h2, h3, h4⟩ := h
  refine ⟨h0, A, c, h1, h2, h3, fun hn => ?_⟩
  obtain ⟨b, o, e1, e2, e3, e4⟩ := h4 hn
  refine ⟨b, o, e1, e2, ?_, fun j u hj => ?_⟩
  · have := hm b e2 e3
    rw [Array.getElem?_eq_getElem e3] at this
    exact blk_lt this
  · exact (World.cell?_of_block (a := ⟨b, o + j, none⟩) (hm b e2 e3)).trans (e4 j u hj)
theorem Rd.below (h : Rd w ok sz v n xs) (hb : Below w.heap.size w w1) : Rd w1 ok sz v n xs := h.step fun k _ hk => hb.block k hk
theorem Rd.alloc (h : Rd w ok sz v n xs) (o : Obj) : Rd (w.alloc o) ok sz v n xs := h.step fun k _ hk => Below.heap_alloc w o k hk
theorem Rd.drew (h : Rd w ok sz v n xs) : Rd w.drew ok sz v n xs := h
theorem Rd.far (h : Rd w ok sz v n xs) {p : Addr} (hne : ∀ k, ok k → k ≠ p.block) (u : Value) : Rd (w.setCell p u) ok sz v n xs := h.step fun k hk _ => Below.heap_setCell w p u k (hne k hk)
theorem Rd.grown (h : Rd w ok sz v n xs) {row : Option Nat} (hg : w.grownBy w1 row) (hne : ∀ k, ok k → some k ≠ row) : Rd w1 ok sz v n xs := h.step fun k hk hlt => hg.block k hlt (hne k hk)
theorem Rd.nil (w : World) (ok : Nat → Prop) (sz : Nat) (A : Option Addr) (c : Nat) (hc : c ≤ maxLen) : Rd w ok sz (.slice A 0 c) 0 [] := ⟨by simp, A, c, rfl, Nat.zero_le _, hc, fun h => absurd h (by omega)⟩
/-- A part of it: from lo on, hi - lo of them, whatever capacity. -/
theorem Rd.cut {A : Option Addr} {c : Nat} (h : Rd w ok sz (.slice A n c) n xs) {lo hi m : Nat} (h1 : lo ≤ hi) (h2 : hi ≤ n) (h3 : hi ≤ m) (h4 : m ≤ c) :
    Rd w ok sz (.slice (if m = lo then A else A.map (·.add (lo * sz))) (hi - lo) (m - lo)) (hi - lo) ((xs.drop (lo * sz)).take ((hi - lo) * sz)) := by
  obtain ⟨h0, A', c', e, hnc, hcm, hc⟩ := h
  injection e with e1 e2 e3
  subst e1 e3
  refine ⟨?_, _, _, rfl, by omega, by omega, fun hn => ?_⟩
  · rw [List.length_take, List.length_drop, h0, ← Nat.sub_mul]
    exact Nat.min_eq_left (Nat.mul_le_mul_right _ (by omega))
  · obtain ⟨b, o, rfl, k1, k2, k3⟩ := hc (by omega)
    refine ⟨b, o + lo * sz, ?_, k1, k2, fun j u hj => ?_⟩
    · rw [if_neg (by omega)]
      simp [Addr.add_lit]
    · rw [List.getElem?_take] at hj
      split at hj
      · rw [List.getElem?_drop] at hj
        have := k3 _ _ hj
        rwa [← Nat.add_assoc] at this
      · cases hj
end

/-- What a literal has just laid. -/
theorem Rd.lit {w : World} {ok : Nat → Prop} {sz n c b : Nat} {xs : List Value} {arr : Array Value} {t : TypeId} {f : Nat × Nat} (hb : w.heap[b]? = some (.cells arr t f)) (hok : ok b) (hx : xs.length = n * sz) (hnc : n ≤ c) (hc : c ≤ maxLen) (he : arr.toList.take (n * sz) = xs) :
    Rd w ok sz (.slice (some ⟨b, 0, none⟩) n c) n xs := by
  refine ⟨hx, _, c, rfl, hnc, hc, fun _ => ⟨b, 0, rfl, hok, blk_lt hb, fun j u hj => ?_⟩⟩
  have hjl : j < n * sz := by rw [← hx]; exact (List.getElem?_eq_some_iff.1 hj).1
  rw [← he, List.getElem?_take, if_pos hjl, Array.getElem?_toList] at hj
  simp [World.cell?, hb, hj]
theorem cell_blk {w : World} {b i : Nat} {c : Array Value} {t : TypeId} {f : Nat × Nat} {u : Value} (h : w.heap[b]? = some (.cells c t f)) (hi : c[i]? = some u) : w.cell? ⟨b, i, none⟩ = some u := by
  simp [World.cell?, h, hi]
theorem free_blk {w : World} {b i : Nat} {c : Array Value} {t : TypeId} (h : w.heap[b]? = some (.cells c t (0, 0))) : w.frozen? ⟨b, i, none⟩ = false := by
  simp [World.frozen?, h]
theorem cells13 {w : World} {b t : Nat} {f : Nat × Nat} {a0 a1 a2 a3 a4 a5 a6 a7 a8 a9 a10 a11 a12 : Value} (h : w.heap[b]? = some (.cells #[a0, a1, a2, a3, a4, a5, a6, a7, a8, a9, a10, a11, a12] t f)) : w.cell? ⟨b, 0, none⟩ = some a0 ∧ w.cell? ⟨b, 1, none⟩ = some a1 ∧ w.cell? ⟨b, 2, none⟩ = some a2 ∧ w.cell? ⟨b, 3, none⟩ = some a3 ∧ w.cell? ⟨b, 4, none⟩ = some a4 ∧ w.cell? ⟨b, 5, none⟩ = some a5 ∧ w.cell? ⟨b, 6, none⟩ = some a6 ∧ w.cell? ⟨b, 7, none⟩ = some a7 ∧ w.cell? ⟨b, 8, none⟩ = some a8 ∧ w.cell? ⟨b, 9, none⟩ = some a9 ∧ w.cell? ⟨b, 10, none⟩ = some a10 ∧ w.cell? ⟨b, 11, none⟩ = some a11 ∧ w.cell? ⟨b, 12, none⟩ = some a12 :=
  ⟨cell_blk h rfl, cell_blk h rfl, cell_blk h rfl, cell_blk h rfl, cell_blk h rfl, cell_blk h rfl, cell_blk h rfl, cell_blk h rfl, cell_blk h rfl, cell_blk h rfl, cell_blk h rfl, cell_blk h rfl, cell_blk h rfl⟩
theorem cells10 {w : World} {b t : Nat} {f : Nat × Nat} {a0 a1 a2 a3 a4 a5 a6 a7 a8 a9 : Value} (h : w.heap[b]? = some (.cells #[a0, a1, a2, a3, a4, a5, a6, a7, a8, a9] t f)) : w.cell? ⟨b, 0, none⟩ = some a0 ∧ w.cell? ⟨b, 1, none⟩ = some a1 ∧ w.cell? ⟨b, 2, none⟩ = some a2 ∧ w.cell? ⟨b, 3, none⟩ = some a3 ∧ w.cell? ⟨b, 4, none⟩ = some a4 ∧ w.cell? ⟨b, 5, none⟩ = some a5 ∧ w.cell? ⟨b, 6, none⟩ = some a6 ∧ w.cell? ⟨b, 7, none⟩ = some a7 ∧ w.cell? ⟨b, 8, none⟩ = some a8 ∧ w.cell? ⟨b, 9, none⟩ = some a9 :=
  ⟨cell_blk h rfl, cell_blk h rfl, cell_blk h rfl, cell_blk h rfl, cell_blk h rfl, cell_blk h rfl, cell_blk h rfl, cell_blk h rfl, cell_blk h rfl, cell_blk h rfl⟩
theorem frees13 {w : World} {b t : Nat} {c : Array Value} (h : w.heap[b]? = some (.cells c t (0, 0))) : w.frozen? ⟨b, 0, none⟩ = false ∧ w.frozen? ⟨b, 1, none⟩ = false ∧ w.frozen? ⟨b, 2, none⟩ = false ∧ w.frozen? ⟨b, 3, none⟩ = false ∧ w.frozen? ⟨b, 4, none⟩ = false ∧ w.frozen? ⟨b, 5, none⟩ = false ∧ w.frozen? ⟨b, 6, none⟩ = false ∧ w.frozen? ⟨b, 7, none⟩ = false ∧ w.frozen? ⟨b, 8, none⟩ = false ∧ w.frozen? ⟨b, 9, none⟩ = false ∧ w.frozen? ⟨b, 10, none⟩ = false ∧ w.frozen? ⟨b, 11, none⟩ = false ∧ w.frozen? ⟨b, 12, none⟩ = false :=
  ⟨free_blk h, free_blk h, free_blk h, free_blk h, free_blk h, free_blk h, free_blk h, free_blk h, free_blk h, free_blk h, free_blk h, free_blk h, free_blk h⟩
theorem alloc_new (w : World) (o : Obj) : (w.alloc o).heap[w.heap.size]? = some o := by
  show (w.heap.push o)[w.heap.size]? = _
  simp
theorem alloc_new1 (w : World) (o p : Obj) : ((w.alloc o).alloc p).heap[w.heap.size + 1]? = some p := by
  have := alloc_new (w.alloc o) p
  simpa using this

/-! ### append onto a row of the call's own -/
section
variable {P : Program} (w : World)
theorem run_append_none (t ty e : TypeId) (i : TypeInfo) (ht : P.underlying t = some (.slice e)) (hi : P.info? e = some i) (A A' : Option Addr) (n c c' : Nat) (hnc : n ≤ c) :
    (Builtin.append_ #[t, t] ty #[.slice A n c, .slice A' 0 c']).run P w = .ok (.slice A n c) w := by
  cases A <;> cases A' <;> simp [Builtin.append_, run_underlying ht, sizeOf, typeInfo, hi, Builtin.lenOf, Builtin.firstCells, hnc, storeCells, loadCells, loadCellsFrom, Result.andThen]

theorem run_append_row (base : Nat) (t ty e : TypeId) (i : TypeInfo) (z : Value) (size bytes : Nat) (ht : P.underlying t = some (.slice e)) (hi : P.info? e = some i) (hz : i.zero = some z)
    (hsize : i.size = size) (hby : i.bytes = bytes) (hzs : z.cells.size = size) (hsz : 0 < size)
    (v : Value) (n : Nat) (xs : List Value) (ob : Option Nat) (hown : Row w base e size v n xs ob)
    (ok : Nat → Prop) (u : Value) (m : Nat) (news : List Value) (hsrc : Rd w ok size u m news) (h1 : ∀ u ∈ news, u.oneCell' = true)
    (h63 : n + m ≤ maxLen) (hbytes : (n + m) * bytes ≤ 140737488355328) (hbase : base ≤ w.heap.size) :
    ∃ v' w' ob', (Builtin.append_ #[t, t] ty #[v, u]).run P w = .ok v' w' ∧ Row w' base e size v' (n + m) (xs ++ news) ob' ∧ w.grownBy w' ob ∧ (ob' = ob ∨ ∃ b, ob' = some b ∧ w.heap.size ≤ b) := by
  obtain ⟨hl, A, c, rfl, hmc, hcm, hsr⟩ := hsrc
  rcases Nat.eq_zero_or_pos m with rfl | hm
  · obtain rfl : news = [] := List.eq_nil_of_length_eq_zero (by rw [hl]; simp)
    obtain ⟨B, c2, rfl, hnc2, _⟩ := hown.slice
    exact ⟨_, w, ob, run_append_none w t ty e i ht hi B A n c2 c hnc2, by simpa using hown, ⟨rfl, rfl, rfl, Nat.le_refl _, fun _ _ _ => rfl⟩, .inl rfl⟩
  obtain ⟨b, o, rfl, _, _, hcell⟩ := hsr hm
  have hnews : ∀ j u, news[j]? = some u → w.cell? ((⟨b, o, none⟩ : Addr).add j) = some u := fun j u hj => by rw [Addr.add_lit]; exact hcell j u hj
  have fresh : ∀ (v' : Value) (w' : World), w'.ownsRow w.heap.size e size v' (n + m) (xs ++ news) → ∃ g, w.heap.size ≤ g ∧ Row w' base e size v' (n + m) (xs ++ news) (some g) := by
    rintro v' w' ⟨k0, k | ⟨g, cap, cur, k1, k2, k3⟩⟩
    · omega
    · exact ⟨g, k2, k0, cap, cur, k1, Nat.le_trans hbase k2, k3⟩
  cases ob with
  | none =>
    obtain ⟨h0, rfl, B, rfl⟩ := hown
    obtain rfl : xs = [] := List.eq_nil_of_length_eq_zero (by rw [h0]; simp)
    cases B with
    | none =>
      obtain ⟨v', w', hrun, r1, r2, _⟩ := run_append_own (P := P) w w.heap.size t ty e i z size bytes ht hi hz hsize hby hzs hsz (.slice none 0 0) 0 [] (World.ownsRow_nil w _ e size) _ m c news hl hnews h1 h63 hbytes (Nat.le_refl _)
      obtain ⟨g, hg, hr⟩ := fresh v' w' r1
      exact ⟨v', w', some g, hrun, hr, ⟨r2.os, r2.tape, r2.output, r2.size, fun k hk _ => r2.block k hk (by simp [Value.ownBlock])⟩, .inr ⟨g, rfl, hg⟩⟩
    | some B =>
      obtain ⟨v', w', hrun, r1, r2⟩ := run_append_arg_grows (P := P) w t ty e i z size bytes ht hi hz hsize hby hzs hsz B 0 0 [] (by simp) (fun j u hj => by simp at hj) _ m c news hl hnews (by omega) h63 hbytes
      obtain ⟨g, hg, hr⟩ := fresh v' w' r1
      exact ⟨v', w', some g, hrun, hr, r2, .inr ⟨g, rfl, hg⟩⟩
  | some g =>
    have hown' := hown
    obtain ⟨h0, cap, cur, rfl, h2, h3, h4, h5, h6, h7⟩ := hown
    by_cases hroom : n + m ≤ cap
    · subst hsize
      have hr := run_append_room (P := P) w t ty e i ht hi g n cap cur h3 _ m c news hl hnews h1 hroom (by rw [hl, h6, ← Nat.add_mul]; exact Nat.mul_le_mul_right _ hroom)
      have hlen : (xs ++ news).length = (n + m) * i.size := by rw [List.length_append, h0, hl, Nat.add_mul]
      refine ⟨_, _, some g, hr, ⟨hlen, cap, _, rfl, h2, setRow_heap w g cur _ e _ h3, hroom, h5, ?_, ?_⟩, ⟨rfl, rfl, rfl, by simp, fun k _ hk => setRow_other w g k _ (fun e => hk (by rw [e]))⟩, .inl rfl⟩
      · have h8 : n * i.size + m * i.size ≤ cap * i.size := by rw [← Nat.add_mul]; exact Nat.mul_le_mul_right _ hroom
        have h9 : cur.toList.length = cap * i.size := by rw [Array.length_toList, h6]
        simp only [List.size_toArray, List.length_append, List.length_take, List.length_drop, h9, hl]
        omega
      · rw [List.append_assoc, ← List.append_assoc, h7, ← hlen]
        exact List.take_left
    · obtain ⟨v', w', hrun, r1, r2⟩ := run_append_arg_grows (P := P) w t ty e i z size bytes ht hi hz hsize hby hzs hsz ⟨g, 0, none⟩ n cap xs h0 (fun j u hj => by rw [Addr.add_lit, Nat.zero_add]; exact hown'.cell hj) _ m c news hl hnews (by omega) h63 hbytes
      obtain ⟨g', hg', hr⟩ := fresh v' w' r1
      exact ⟨v', w', some g', hrun, hr, ⟨r2.os, r2.tape, r2.output, r2.size, fun k hk _ => r2.block k hk (by simp)⟩, .inr ⟨g', rfl, hg'⟩⟩

/-- For the walk. -/
theorem wpList_append_row {ops : Array Oper} {rest : List Oper} {o : Oper} {a : Act} {Q : Exit → Act → World → Prop} (hgd : o.guard = none) (s x : Operand) (t : TypeId)
    (ho : o.op = .call { callee := .builtin .append, args := #[s, x], argTypes := #[t, t] })
    (base : Nat) (e : TypeId) (i : TypeInfo) (z : Value) (size bytes : Nat) (ht : P.underlying t = some (.slice e)) (hi : P.info? e = some i) (hz : i.zero = some z)
    (hsize : i.size = size) (hby : i.bytes = bytes) (hzs : z.cells.size = size) (hsz : 0 < size)
    (v : Value) (n : Nat) (xs : List Value) (ob : Option Nat) (hs : a.eval s = v) (hown : Row w base e size v n xs ob)
    (ok : Nat → Prop) (u : Value) (m : Nat) (news : List Value) (hx : a.eval x = u) (hsrc : Rd w ok size u m news) (h1 : ∀ u ∈ news, u.oneCell' = true)
    (h63 : n + m ≤ maxLen) (hbytes : (n + m) * bytes ≤ 140737488355328) (hbase : base ≤ w.heap.size)
    (h : ∀ v' w' ob', Row w' base e size v' (n + m) (xs ++ news) ob' → w.grownBy w' ob → (ob' = ob ∨ ∃ b, ob' = some b ∧ w.heap.size ≤ b) → wpList P ops Q rest (a.put o.dst v') w') : wpList P ops Q (o :: rest) a w := by
  refine wpList_plain hgd fun K hK => ?_
  obtain ⟨v', w', ob', hrun, h2, h3, h4⟩ := run_append_row (P := P) w base t o.type e i z size bytes ht hi hz hsize hby hzs hsz v n xs ob hown ok u m news hsrc h1 h63 hbytes hbase
  unfold Oper.wp
  simp [execOp, ho, resolve, invoke, builtin, hs, hx, hrun, Result.andThen]
  exact hK _ _ (h v' w' ob' h2 h3 h4)

/-- Onto what is only read, where it has no room: a new row. -/
theorem wpList_append_full {ops : Array Oper} {rest : List Oper} {o : Oper} {a : Act} {Q : Exit → Act → World → Prop} (hgd : o.guard = none) (s x : Operand) (t : TypeId)
    (ho : o.op = .call { callee := .builtin .append, args := #[s, x], argTypes := #[t, t] })
    (e : TypeId) (i : TypeInfo) (z : Value) (size bytes : Nat) (ht : P.underlying t = some (.slice e)) (hi : P.info? e = some i) (hz : i.zero = some z)
    (hsize : i.size = size) (hby : i.bytes = bytes) (hzs : z.cells.size = size) (hsz : 0 < size)
    (ok0 : Nat → Prop) (A : Option Addr) (n : Nat) (xs : List Value) (hs : a.eval s = .slice A n n) (hown : Rd w ok0 size (.slice A n n) n xs)
    (ok : Nat → Prop) (u : Value) (m : Nat) (news : List Value) (hx : a.eval x = u) (hsrc : Rd w ok size u m news) (h1 : ∀ u ∈ news, u.oneCell' = true) (hm : 0 < m)
    (h63 : n + m ≤ maxLen) (hbytes : (n + m) * bytes ≤ 140737488355328)
    (h : ∀ v' w' g, Row w' w.heap.size e size v' (n + m) (xs ++ news) (some g) → w.grownBy w' none → wpList P ops Q rest (a.put o.dst v') w') : wpList P ops Q (o :: rest) a w := by
  obtain ⟨hl, A', c, rfl, hmc, hcm, hsr⟩ := hsrc
  obtain ⟨b, o', rfl, _, _, hcell⟩ := hsr hm
  obtain ⟨h0, A2, c2, e2, _, _, hold⟩ := hown
  injection e2 with e2 _ e3
  subst e2 e3
  rcases Nat.eq_zero_or_pos n with rfl | hn
  · obtain rfl : xs = [] := List.eq_nil_of_length_eq_zero (by rw [h0]; simp)
    refine wpList_append_row w hgd s x t ho w.heap.size e i z size bytes ht hi hz hsize hby hzs hsz _ 0 [] none hs ⟨by simp, rfl, A, rfl⟩ (fun _ => True) _ m news hx ⟨hl, _, _, rfl, hmc, hcm, fun _ => ⟨b, o', rfl, trivial, ?_, hcell⟩⟩ h1 h63 hbytes (Nat.le_refl _) ?_
    · have hp : 0 < news.length := by rw [hl]; exact Nat.mul_pos hm hsz
      have := hcell 0 _ (List.getElem?_eq_getElem hp)
      exact World.block_lt_of_cell? w _ this
    · intro v' w' ob' h2 h3 h4
      rcases h4 with rfl | ⟨g, rfl, hg⟩
      · obtain ⟨_, h5, _⟩ := h2; omega
      · exact h v' w' g h2 h3
  · refine wpList_append_grows w hgd s x t ho e i z size bytes ht hi hz hsize hby hzs hsz A n n xs hs (fun e => by obtain ⟨_, _, e', _⟩ := hold hn; rw [e] at e'; cases e') h0 ?_ ⟨b, o', none⟩ m c news hx hl (fun j u hj => by rw [Addr.add_lit]; exact hcell j u hj) h1 (by omega) h63 hbytes ?_
    · intro ad e j u hj
      obtain ⟨b2, o2, e', _, _, hc2⟩ := hold hn
      rw [e] at e'
      injection e' with e'
      rw [e', Addr.add_lit]
      exact hc2 j u hj
    · rintro v' w' ⟨k0, k | ⟨g, cap, cur, k1, k2, k3⟩⟩ hg
      · omega
      · exact h v' w' g ⟨k0, cap, cur, k1, k2, k3⟩ hg
end
end Go.MM
