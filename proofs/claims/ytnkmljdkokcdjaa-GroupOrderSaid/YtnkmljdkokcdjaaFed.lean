/- What the program's nodes, entries and messages are, as plain data; how they lie in memory. -/
import Derived.Test.YtnkmljdkokcdjaaMem
import Derived.Deep.Draws
set_option linter.unusedVariables false
set_option linter.unusedSimpArgs false
namespace Fed
open Go Go.RowKit

structure Entry where
  term : Int
  data : ByteArray
structure Msg where
  kind : Int
  frm : Int
  to : Int
  term : Int
  index : Int
  logTerm : Int
  ok : Bool
  entries : List Entry
  commit : Int
  form : Int
structure Node where
  id : Int
  term : Int
  vote : Int
  log : List Entry
  form : Int
  role : Int
  commit : Int
  votes : List Bool
  nxt : List Int
  mtch : List Int
  forms : List Int
  clock : Int
  due : Int
/-- A node at work: it, and what it sends. -/
structure NS where
  n : Node
  out : List Msg

def entC (e : Entry) : List Value := [.int .i64 e.term, .string e.data]
def entsC (l : List Entry) : List Value := l.flatMap entC
def boolsC (l : List Bool) : List Value := l.map Value.bool
def intsC (l : List Int) : List Value := l.map (Value.int .i64)
def msgC (m : Msg) (ve : Value) : List Value := [.int .i64 m.kind, .int .i64 m.frm, .int .i64 m.to, .int .i64 m.term, .int .i64 m.index, .int .i64 m.logTerm, .bool m.ok, ve, .int .i64 m.commit, .int .i64 m.form]
def MsgsR (w : World) (ok : Nat → Prop) : List Msg → List Value → Prop
  | [], cs => cs = []
  | m :: ms, cs => ∃ ve rest, cs = msgC m ve ++ rest ∧ MM.Rd w ok 2 ve m.entries.length (entsC m.entries) ∧ MsgsR w ok ms rest

/-- The greater, the smaller of two numbers, as Go tells them. -/
def mx (a b : Int) : Int := if a < b then b else a
def mn (a b : Int) : Int := if b < a then b else a
theorem mx_eq (a b : Int) : mx a b = max a b := by unfold mx; omega
theorem mn_eq (a b : Int) : mn a b = min a b := by unfold mn; omega
theorem max2_int (P : Program) (w : World) (ts : Array TypeId) (t : TypeId) (x y : Int) : (Builtin.max_ ts t #[.int .i64 x, .int .i64 y]).run P w = .ok (.int .i64 (mx x y)) w := by
  rw [run_max_int2]; rfl
theorem min2_int (P : Program) (w : World) (ts : Array TypeId) (t : TypeId) (x y : Int) : (Builtin.min_ ts t #[.int .i64 x, .int .i64 y]).run P w = .ok (.int .i64 (mn x y)) w := by
  rw [run_min_int2]; rfl
def termAt (l : List Entry) (k : Int) : Int := if 1 ≤ k ∧ k ≤ l.length then ((l[(k - 1).toNat]?).map (·.term)).getD 0 else 0

/-- What is sent of a node's entries to another one. -/
def entriesAt (n : Node) (to : Int) : Int := mx 0 (mn (n.nxt.getD to.toNat 0 - 1) n.log.length)
def entriesMsg (n : Node) (to : Int) : Msg :=
  ⟨3, n.id, to, n.term, entriesAt n to, termAt n.log (entriesAt n to), false, (n.log.drop (entriesAt n to).toNat).take ((mn (entriesAt n to + 5) n.log.length).toNat - (entriesAt n to).toNat), n.commit, 0⟩


/-- To all others, by their numbers, up to k. -/
def spreadMsgs (n : Node) (k : Nat) : List Msg := ((List.range k).filter fun i : Nat => decide ((i : Int) ≠ n.id)).map fun i : Nat => entriesMsg n (i : Int)
theorem spreadMsgs_skip {n : Node} {k : Nat} (h : (k : Int) = n.id) : spreadMsgs n (k + 1) = spreadMsgs n k := by
  unfold spreadMsgs
  rw [List.range_succ, List.filter_append]
  simp [h]
theorem spreadMsgs_step {n : Node} {k : Nat} (h : (k : Int) ≠ n.id) : spreadMsgs n (k + 1) = spreadMsgs n k ++ [entriesMsg n k] := by
  unfold spreadMsgs
  rw [List.range_succ, List.filter_append]
  simp [h]
theorem spreadMsgs_le (n : Node) (k : Nat) : (spreadMsgs n k).length ≤ k := by
  unfold spreadMsgs
  rw [List.length_map]
  have := List.length_filter_le (fun i : Nat => decide ((i : Int) ≠ n.id)) (List.range k)
  rwa [List.length_range] at this

/-- It asks for a vote. -/
def voteMsg (n : Node) (to : Int) : Msg := ⟨1, n.id, to, n.term, n.log.length, termAt n.log n.log.length, false, [], 0, 0⟩
def askMsgs (n : Node) (k : Nat) : List Msg := ((List.range k).filter fun i : Nat => decide ((i : Int) ≠ n.id)).map fun i : Nat => voteMsg n (i : Int)
theorem askMsgs_skip {n : Node} {k : Nat} (h : (k : Int) = n.id) : askMsgs n (k + 1) = askMsgs n k := by
  unfold askMsgs
  rw [List.range_succ, List.filter_append]
  simp [h]
theorem askMsgs_step {n : Node} {k : Nat} (h : (k : Int) ≠ n.id) : askMsgs n (k + 1) = askMsgs n k ++ [voteMsg n k] := by
  unfold askMsgs
  rw [List.range_succ, List.filter_append]
  simp [h]
theorem askMsgs_le (n : Node) (k : Nat) : (askMsgs n k).length ≤ k := by
  unfold askMsgs
  rw [List.length_map]
  have := List.length_filter_le (fun i : Nat => decide ((i : Int) ≠ n.id)) (List.range k)
  rwa [List.length_range] at this
/-- An entry of its own behind all; sent to all others. -/
def putN (n : Node) (d : ByteArray) : Node := { n with log := n.log ++ [⟨n.term, d⟩], mtch := n.mtch.set n.id.toNat (n.log.length + 1), commit := if n.votes.length = 1 then n.log.length + 1 else n.commit }
def putS (s : NS) (d : ByteArray) : NS := ⟨putN s.n d, s.out ++ spreadMsgs (putN s.n d) s.n.votes.length⟩

/-- It leads. -/
def leadN (n : Node) : Node := { n with role := 2, nxt := List.replicate n.votes.length ((n.log.length : Int) + 1), mtch := List.replicate n.votes.length 0 }
def leadS (s : NS) : NS := putS ⟨leadN s.n, s.out⟩ ⟨#[]⟩

/-- It stands for being chosen. -/
def standN (n : Node) : Node := { n with term := n.term + 1, role := 1, vote := n.id, votes := (List.replicate n.votes.length false).set n.id.toNat true, due := n.clock + 5 + 2 * n.id }
def standS (s : NS) : NS := if s.n.votes.length = 1 then leadS ⟨standN s.n, s.out ++ askMsgs (standN s.n) s.n.votes.length⟩ else ⟨standN s.n, s.out ++ askMsgs (standN s.n) s.n.votes.length⟩

theorem entsC_length (l : List Entry) : (entsC l).length = l.length * 2 := by
  induction l with
  | nil => rfl
  | cons e l ih => simp [entsC, entC] at ih ⊢; omega
theorem entsC_append (a b : List Entry) : entsC (a ++ b) = entsC a ++ entsC b := by simp [entsC]
theorem entsC_get {l : List Entry} {i : Nat} {e : Entry} (h : l[i]? = some e) : (entsC l)[i * 2]? = some (.int .i64 e.term) ∧ (entsC l)[i * 2 + 1]? = some (.string e.data) := by
  induction l generalizing i with
  | nil => cases h
  | cons x l ih =>
    cases i with
    | zero => simp at h; subst h; simp [entsC, entC]
    | succ i =>
      have := ih (i := i) (by simpa using h)
      have e1 : entsC (x :: l) = [.int .i64 x.term, .string x.data] ++ entsC l := rfl
      rw [e1]
      simp only [List.cons_append, List.nil_append]
      rw [show (i + 1) * 2 = i * 2 + 1 + 1 from by omega]
      simpa using this
theorem entsC_drop (l : List Entry) (k : Nat) : (entsC l).drop (k * 2) = entsC (l.drop k) := by
  induction l generalizing k with
  | nil => simp [entsC]
  | cons x l ih =>
    cases k with
    | zero => simp
    | succ k =>
      have e1 : entsC (x :: l) = [.int .i64 x.term, .string x.data] ++ entsC l := rfl
      rw [e1, show (k + 1) * 2 = 2 + k * 2 from by omega, ← List.drop_drop]
      simpa using ih k
theorem entsC_take (l : List Entry) (k : Nat) : (entsC l).take (k * 2) = entsC (l.take k) := by
  induction l generalizing k with
  | nil => simp [entsC]
  | cons x l ih =>
    cases k with
    | zero => simp [entsC]
    | succ k =>
      have e1 : ∀ l, entsC (x :: l) = .int .i64 x.term :: .string x.data :: entsC l := fun _ => rfl
      rw [e1, show (k + 1) * 2 = k * 2 + 1 + 1 from by omega]
      simp only [List.take_succ_cons]
      rw [ih k, ← e1]
theorem entsC_one (l : List Entry) : ∀ u ∈ entsC l, u.oneCell' = true := by
  intro u hu
  simp only [entsC, List.mem_flatMap, entC] at hu
  obtain ⟨e, _, he⟩ := hu
  rcases List.mem_cons.1 he with rfl | he
  · rfl
  · rcases List.mem_cons.1 he with rfl | he
    · rfl
    · cases he
theorem boolsC_one (l : List Bool) : ∀ u ∈ boolsC l, u.oneCell' = true := by
  intro u hu
  obtain ⟨b, _, rfl⟩ := List.mem_map.1 hu
  rfl
theorem intsC_one (l : List Int) : ∀ u ∈ intsC l, u.oneCell' = true := by
  intro u hu
  obtain ⟨b, _, rfl⟩ := List.mem_map.1 hu
  rfl
theorem intsC_get {l : List Int} {i : Nat} (h : i < l.length) : (intsC l)[i]? = some (.int .i64 (l.getD i 0)) := by
  simp [intsC, List.getElem?_eq_getElem h, List.getD_eq_getElem?_getD]
theorem boolsC_get {l : List Bool} {i : Nat} (h : i < l.length) : (boolsC l)[i]? = some (.bool (l.getD i false)) := by
  simp [boolsC, List.getElem?_eq_getElem h, List.getD_eq_getElem?_getD]

section
variable {w w1 : World} {ok ok' : Nat → Prop} {ms : List Msg} {cs : List Value}
theorem MsgsR.step (hm : ∀ k, ok k → k < w.heap.size → w1.heap[k]? = w.heap[k]?) : ∀ {ms : List Msg} {cs : List Value}, MsgsR w ok ms cs → MsgsR w1 ok ms cs
  | [], _, h => h
  | _ :: _, _, ⟨ve, rest, h1, h2, h3⟩ => ⟨ve, rest, h1, h2.step hm, MsgsR.step hm h3⟩
theorem MsgsR.mono (hok : ∀ k, ok k → k < w.heap.size → ok' k) : ∀ {ms : List Msg} {cs : List Value}, MsgsR w ok ms cs → MsgsR w ok' ms cs
  | [], _, h => h
  | _ :: _, _, ⟨ve, rest, h1, h2, h3⟩ => ⟨ve, rest, h1, h2.mono hok, MsgsR.mono hok h3⟩
theorem MsgsR.append : ∀ {ms ms' : List Msg} {cs cs' : List Value}, MsgsR w ok ms cs → MsgsR w ok ms' cs' → MsgsR w ok (ms ++ ms') (cs ++ cs')
  | [], _, _, _, h, h' => by cases h; exact h'
  | m :: ms, _, _, _, ⟨ve, rest, h1, h2, h3⟩, h' => ⟨ve, _, by rw [h1, List.append_assoc], h2, MsgsR.append h3 h'⟩
theorem MsgsR.one {m : Msg} {ve : Value} (h : MM.Rd w ok 2 ve m.entries.length (entsC m.entries)) : MsgsR w ok [m] (msgC m ve) := ⟨ve, [], by simp, h, rfl⟩
theorem MsgsR.length : ∀ {ms : List Msg} {cs : List Value}, MsgsR w ok ms cs → cs.length = ms.length * 10
  | [], _, h => by cases h; rfl
  | m :: ms, _, ⟨ve, rest, h1, h2, h3⟩ => by rw [h1]; simp [msgC, MsgsR.length h3]; omega
theorem msgC_one {m : Msg} {ve : Value} (h : ve.oneCell' = true) : ∀ u ∈ msgC m ve, u.oneCell' = true := by
  intro u hu
  simp only [msgC, List.mem_cons, List.not_mem_nil, or_false] at hu
  rcases hu with rfl | rfl | rfl | rfl | rfl | rfl | rfl | rfl | rfl | rfl <;> first | rfl | exact h
theorem rd_one {sz n : Nat} {v : Value} {xs : List Value} (h : MM.Rd w ok sz v n xs) : v.oneCell' = true := by
  obtain ⟨A, c, rfl, _⟩ := h.slice
  rfl
theorem MsgsR.one_cell : ∀ {ms : List Msg} {cs : List Value}, MsgsR w ok ms cs → ∀ u ∈ cs, u.oneCell' = true
  | [], _, h => by cases h; intro u hu; cases hu
  | m :: ms, _, ⟨ve, rest, h1, h2, h3⟩ => by
    rw [h1]
    intro u hu
    rcases List.mem_append.1 hu with hu | hu
    · exact msgC_one (rd_one h2) u hu
    · exact MsgsR.one_cell h3 u hu
theorem MsgsR.get : ∀ {ms : List Msg} {cs : List Value} {i : Nat} {m : Msg}, MsgsR w ok ms cs → ms[i]? = some m → ∃ ve, MM.Rd w ok 2 ve m.entries.length (entsC m.entries) ∧ ∀ j u, (msgC m ve)[j]? = some u → cs[i * 10 + j]? = some u
  | [], _, _, _, _, h => by cases h
  | m :: ms, _, 0, _, ⟨ve, rest, h1, h2, h3⟩, h => by
    simp at h
    subst h
    refine ⟨ve, h2, fun j u hj => ?_⟩
    have hjl := (List.getElem?_eq_some_iff.1 hj).1
    rw [h1, Nat.zero_mul, Nat.zero_add, List.getElem?_append_left hjl]
    exact hj
  | m :: ms, _, i + 1, _, ⟨ve, rest, h1, h2, h3⟩, h => by
    obtain ⟨ve', k1, k2⟩ := MsgsR.get (i := i) h3 (by simpa using h)
    refine ⟨ve', k1, fun j u hj => ?_⟩
    have hl : (msgC m ve).length = 10 := rfl
    rw [h1, List.getElem?_append_right (by rw [hl]; omega), hl, show (i + 1) * 10 + j - 10 = i * 10 + j from by omega]
    exact k2 j u hj
end

/-- A slice's value, and the block that is its own. -/
structure Sl where
  v : Value
  ob : Option Nat
structure NM where
  l : Sl
  v : Sl
  n : Sl
  m : Sl
  f : Sl
  o : Sl

def cellsN (s : NS) (μ : NM) : Array Value := #[.int .i64 s.n.id, .int .i64 s.n.term, .int .i64 s.n.vote, μ.l.v, .int .i64 s.n.form, .int .i64 s.n.role, .int .i64 s.n.commit, μ.v.v, μ.n.v, μ.m.v, μ.f.v, .int .i64 s.n.clock, .int .i64 s.n.due, μ.o.v]

/-- The node at work s lies at block g, with the rows μ; all of it is newer than B. -/
structure NodeAt (w : World) (B g : Nat) (s : NS) (μ : NM) : Prop where
  hB : B ≤ g
  blk : w.heap[g]? = some (.cells (cellsN s μ) 82 (0, 0))
  hl : MM.Row w B 40 2 μ.l.v s.n.log.length (entsC s.n.log) μ.l.ob
  hv : MM.Row w B 4 1 μ.v.v s.n.votes.length (boolsC s.n.votes) μ.v.ob
  hn : MM.Row w B 3 1 μ.n.v s.n.nxt.length (intsC s.n.nxt) μ.n.ob
  hm : MM.Row w B 3 1 μ.m.v s.n.mtch.length (intsC s.n.mtch) μ.m.ob
  hf : MM.Row w B 3 1 μ.f.v s.n.forms.length (intsC s.n.forms) μ.f.ob
  ho : ∃ cs, MM.Row w B 34 10 μ.o.v s.out.length cs μ.o.ob ∧ MsgsR w (fun k => B ≤ k ∧ MM.Ty w k 40 ∧ μ.l.ob ≠ some k) s.out cs
  nm : ∀ k, μ.n.ob = some k → μ.m.ob ≠ some k
  nf : ∀ k, μ.n.ob = some k → μ.f.ob ≠ some k
  mf : ∀ k, μ.m.ob = some k → μ.f.ob ≠ some k

theorem ty_ne {w : World} {a b t u : Nat} (h1 : MM.Ty w a t) (h2 : MM.Ty w b u) (h : t ≠ u) : a ≠ b := by
  rintro rfl
  obtain ⟨c, f, h1⟩ := h1
  obtain ⟨c', f', h2⟩ := h2
  rw [h1] at h2
  injection h2 with h2
  injection h2 with _ h2
  exact h h2

/-- The variables that hold a node's place stay. -/
def Boxes (w w' : World) : Prop := ∀ (k : Nat) (c : Array Value) (f : Nat × Nat), w.heap[k]? = some (.cells c 79 f) → w'.heap[k]? = some (.cells c 79 f)
theorem Boxes.refl (w : World) : Boxes w w := fun _ _ _ h => h
theorem Boxes.trans {a b c : World} (h : Boxes a b) (h' : Boxes b c) : Boxes a c := fun k _ _ hk => h' k _ _ (h k _ _ hk)
theorem Boxes.below {w w' : World} (h : Below w.heap.size w w') : Boxes w w' := fun k _ _ hk => (h.block k (MM.blk_lt hk)).trans hk
theorem Boxes.setCell (w : World) {p : Addr} {t : Nat} (u : Value) (ht : MM.Ty w p.block t) (hne : t ≠ 79) : Boxes w (w.setCell p u) := fun k c f hk =>
  (Below.heap_setCell w p u k (ty_ne ⟨c, f, hk⟩ ht (Ne.symm hne))).trans hk
theorem Boxes.grown {w w' : World} {row : Option Nat} {t : Nat} (hg : w.grownBy w' row) (ht : ∀ k, row = some k → MM.Ty w k t) (hne : t ≠ 79) : Boxes w w' := fun k c f hk =>
  (hg.block k (MM.blk_lt hk) (fun e => ty_ne ⟨c, f, hk⟩ (ht k e.symm) (Ne.symm hne) rfl)).trans hk
theorem Boxes.cell {w w' : World} (h : Boxes w w') {k : Nat} {v : Value} (hk : w.heap[k]? = some (.cells #[v] 79 (0, 0))) : w'.cell? ⟨k, 0, none⟩ = some v := by
  simp [World.cell?, h k _ _ hk]

namespace NodeAt
variable {w w1 : World} {B g : Nat} {s : NS} {μ : NM}
theorem lt (h : NodeAt w B g s μ) : g < w.heap.size := MM.blk_lt h.blk
theorem tyg (h : NodeAt w B g s μ) : MM.Ty w g 82 := ⟨_, _, h.blk⟩
/-- All that the node has, but its own block, stays where its blocks do. -/
theorem step (h : NodeAt w B g s μ) (hm : ∀ k, B ≤ k → k < w.heap.size → w1.heap[k]? = w.heap[k]?) : NodeAt w1 B g s μ where
  hB := h.hB
  blk := (hm g h.hB h.lt).trans h.blk
  hl := h.hl.step fun k hk hlt => hm k (h.hl.lt k hk).1 hlt
  hv := h.hv.step fun k hk hlt => hm k (h.hv.lt k hk).1 hlt
  hn := h.hn.step fun k hk hlt => hm k (h.hn.lt k hk).1 hlt
  hm := h.hm.step fun k hk hlt => hm k (h.hm.lt k hk).1 hlt
  hf := h.hf.step fun k hk hlt => hm k (h.hf.lt k hk).1 hlt
  ho := by
    obtain ⟨cs, h1, h2⟩ := h.ho
    refine ⟨cs, h1.step fun k hk hlt => hm k (h1.lt k hk).1 hlt, ?_⟩
    have h3 := h2.mono (ok' := fun k => B ≤ k ∧ μ.l.ob ≠ some k ∧ MM.Ty w1 k 40) fun k hk hlt => ⟨hk.1, hk.2.2, by
      obtain ⟨c, f, hc⟩ := hk.2.1
      exact ⟨c, f, (hm k hk.1 hlt).trans hc⟩⟩
    exact (h3.step fun k hk hlt => hm k hk.1 hlt).mono fun k hk _ => ⟨hk.1, hk.2.2, hk.2.1⟩
  nm := h.nm
  nf := h.nf
  mf := h.mf
theorem below (h : NodeAt w B g s μ) (hb : Below w.heap.size w w1) : NodeAt w1 B g s μ := h.step fun k _ hk => hb.block k hk
theorem alloc (h : NodeAt w B g s μ) (o : Obj) : NodeAt (w.alloc o) B g s μ := h.step fun k _ hk => Below.heap_alloc w o k hk
theorem drew (h : NodeAt w B g s μ) : NodeAt w.drew B g s μ := h.step fun _ _ _ => rfl
theorem drewN (h : NodeAt w B g s μ) (n : Nat) : NodeAt (w.drewN n) B g s μ := h.step fun _ _ _ => rfl
/-- A store into a block that is none of the node's: one made since. -/
theorem c (h : NodeAt w B g s μ) (i : Nat) (u : Value) (hi : (cellsN s μ)[i]? = some u) : w.cell? ⟨g, i, none⟩ = some u := by
  simp [World.cell?, h.blk, hi]
theorem fr (h : NodeAt w B g s μ) (i : Nat) : w.frozen? ⟨g, i, none⟩ = false := by
  simp [World.frozen?, h.blk]
theorem ngl (h : NodeAt w B g s μ) : ∀ k, μ.l.ob = some k → k ≠ g := fun k hk => ty_ne (h.hl.ty k hk) h.tyg (by decide)
theorem ngv (h : NodeAt w B g s μ) : ∀ k, μ.v.ob = some k → k ≠ g := fun k hk => ty_ne (h.hv.ty k hk) h.tyg (by decide)
theorem ngn (h : NodeAt w B g s μ) : ∀ k, μ.n.ob = some k → k ≠ g := fun k hk => ty_ne (h.hn.ty k hk) h.tyg (by decide)
theorem ngm (h : NodeAt w B g s μ) : ∀ k, μ.m.ob = some k → k ≠ g := fun k hk => ty_ne (h.hm.ty k hk) h.tyg (by decide)
theorem ngf (h : NodeAt w B g s μ) : ∀ k, μ.f.ob = some k → k ≠ g := fun k hk => ty_ne (h.hf.ty k hk) h.tyg (by decide)
/-- A store into the node's own block. -/
theorem setg (h : NodeAt w B g s μ) {s' : NS} {i : Nat} {u : Value} (hc : (cellsN s μ).setIfInBounds i u = cellsN s' μ) (el : s'.n.log = s.n.log) (ev : s'.n.votes = s.n.votes) (en : s'.n.nxt = s.n.nxt) (em : s'.n.mtch = s.n.mtch) (ef : s'.n.forms = s.n.forms) (eo : s'.out = s.out) :
    NodeAt (w.setCell ⟨g, i, none⟩ u) B g s' μ where
  hB := h.hB
  blk := by simp [World.setCell, Array.getElem?_modify, h.blk, hc]
  hl := by rw [el]; exact h.hl.far h.ngl u
  hv := by rw [ev]; exact h.hv.far h.ngv u
  hn := by rw [en]; exact h.hn.far h.ngn u
  hm := by rw [em]; exact h.hm.far h.ngm u
  hf := by rw [ef]; exact h.hf.far h.ngf u
  ho := by
    rw [eo]
    obtain ⟨cs, h1, h2⟩ := h.ho
    refine ⟨cs, h1.far (fun k hk => ty_ne (h1.ty k hk) h.tyg (by decide)) u, ?_⟩
    have far : ∀ k, MM.Ty w k 40 → (w.setCell ⟨g, i, none⟩ u).heap[k]? = w.heap[k]? := fun k hk => Below.heap_setCell w _ u k (ty_ne hk h.tyg (by decide))
    have h3 := h2.step (w1 := w.setCell ⟨g, i, none⟩ u) fun k hk _ => far k hk.2.1
    exact (h2.mono (ok' := fun k => (B ≤ k ∧ MM.Ty (w.setCell ⟨g, i, none⟩ u) k 40 ∧ μ.l.ob ≠ some k) ∧ MM.Ty w k 40) fun k hk _ => ⟨⟨hk.1, by obtain ⟨c, f, hc⟩ := hk.2.1; exact ⟨c, f, (far k hk.2.1).trans hc⟩, hk.2.2⟩, hk.2.1⟩).step (fun k hk _ => far k hk.2) |>.mono fun k hk _ => hk.1
  nm := h.nm
  nf := h.nf
  mf := h.mf
/-- What is sent stands behind all, and its row in its field. -/
theorem put_out {W : World} {v' : Value} {ob' : Option Nat} {m : Msg} {ve : Value} {cs : List Value} (h : NodeAt W B g s μ) (hr : MsgsR W (fun k => B ≤ k ∧ MM.Ty W k 40 ∧ μ.l.ob ≠ some k) s.out cs) (ht : ∀ k, μ.o.ob = some k → MM.Ty W k 34) (hg : W.grownBy w1 μ.o.ob)
    (hrow : MM.Row w1 B 34 10 v' (s.out.length + 1) (cs ++ msgC m ve) ob') (hm : MM.Rd W (fun k => B ≤ k ∧ MM.Ty W k 40 ∧ μ.l.ob ≠ some k) 2 ve m.entries.length (entsC m.entries)) :
    NodeAt (w1.setCell ⟨g, 13, none⟩ v') B g ⟨s.n, s.out ++ [m]⟩ { μ with o := ⟨v', ob'⟩ } := by
  have ne : ∀ k t, MM.Ty W k t → t ≠ 34 → some k ≠ μ.o.ob := fun k t hk hne e => ty_ne hk (ht k e.symm) hne rfl
  have keep : ∀ k t, MM.Ty W k t → t ≠ 34 → w1.heap[k]? = W.heap[k]? := fun k t hk hne => hg.block k (by obtain ⟨_, _, hc⟩ := hk; exact MM.blk_lt hc) (ne k t hk hne)
  have keep2 : ∀ k t, MM.Ty W k t → t ≠ 34 → t ≠ 82 → (w1.setCell ⟨g, 13, none⟩ v').heap[k]? = W.heap[k]? := fun k t hk h1 h2 =>
    (Below.heap_setCell w1 _ v' k (ty_ne hk h.tyg h2)).trans (keep k t hk h1)
  have hb1 : w1.heap[g]? = some (.cells (cellsN s μ) 82 (0, 0)) := (keep g _ h.tyg (by decide)).trans h.blk
  refine ⟨h.hB, ?_, h.hl.step fun k hk _ => keep2 k _ (h.hl.ty k hk) (by decide) (by decide), h.hv.step fun k hk _ => keep2 k _ (h.hv.ty k hk) (by decide) (by decide), h.hn.step fun k hk _ => keep2 k _ (h.hn.ty k hk) (by decide) (by decide), h.hm.step fun k hk _ => keep2 k _ (h.hm.ty k hk) (by decide) (by decide), h.hf.step fun k hk _ => keep2 k _ (h.hf.ty k hk) (by decide) (by decide), ?_, h.nm, h.nf, h.mf⟩
  · simp [World.setCell, Array.getElem?_modify, hb1, cellsN]
  · refine ⟨cs ++ msgC m ve, by simpa using hrow.far (fun k hk => ty_ne (hrow.ty k hk) ⟨_, _, hb1⟩ (by decide)) v', ?_⟩
    have all := hr.append (MsgsR.one hm)
    refine ((all.mono (ok' := fun k => (B ≤ k ∧ MM.Ty (w1.setCell ⟨g, 13, none⟩ v') k 40 ∧ μ.l.ob ≠ some k) ∧ MM.Ty W k 40) fun k hk _ => ⟨⟨hk.1, ?_, hk.2.2⟩, hk.2.1⟩).step (fun k hk _ => keep2 k _ hk.2 (by decide) (by decide))).mono fun k hk _ => hk.1
    obtain ⟨c, f, hc⟩ := hk.2.1
    exact ⟨c, f, (keep2 k _ hk.2.1 (by decide) (by decide)).trans hc⟩
/-- A new log, and its row in its field. -/
theorem put_log {W : World} {row : Option Nat} {v' : Value} {ob' : Option Nat} {l' : List Entry} (h : NodeAt W B g s μ) (hg : W.grownBy w1 row) (hrw : row = none ∨ row = μ.l.ob) (hrow : MM.Row w1 B 40 2 v' l'.length (entsC l') ob') (hob : ob' = μ.l.ob ∨ ∃ b, ob' = some b ∧ W.heap.size ≤ b) :
    NodeAt (w1.setCell ⟨g, 3, none⟩ v') B g ⟨{ s.n with log := l' }, s.out⟩ { μ with l := ⟨v', ob'⟩ } := by
  have keep0 : ∀ k, k < W.heap.size → μ.l.ob ≠ some k → w1.heap[k]? = W.heap[k]? := fun k hk hne => hg.block k hk (by
    rcases hrw with e | e
    · rw [e]; simp
    · rw [e]; exact fun e => hne e.symm)
  have keep : ∀ k t, MM.Ty W k t → t ≠ 40 → w1.heap[k]? = W.heap[k]? := fun k t hk hne => keep0 k (by obtain ⟨_, _, hc⟩ := hk; exact MM.blk_lt hc) fun e => ty_ne hk (h.hl.ty k e) hne rfl
  have keep2 : ∀ k t, MM.Ty W k t → t ≠ 40 → t ≠ 82 → (w1.setCell ⟨g, 3, none⟩ v').heap[k]? = W.heap[k]? := fun k t hk h1 h2 =>
    (Below.heap_setCell w1 _ v' k (ty_ne hk h.tyg h2)).trans (keep k t hk h1)
  have hb1 : w1.heap[g]? = some (.cells (cellsN s μ) 82 (0, 0)) := (keep g _ h.tyg (by decide)).trans h.blk
  obtain ⟨cs, hro, hrm⟩ := h.ho
  refine ⟨h.hB, ?_, hrow.far (fun k hk => ty_ne (hrow.ty k hk) ⟨_, _, hb1⟩ (by decide)) v', h.hv.step fun k hk _ => keep2 k _ (h.hv.ty k hk) (by decide) (by decide), h.hn.step fun k hk _ => keep2 k _ (h.hn.ty k hk) (by decide) (by decide), h.hm.step fun k hk _ => keep2 k _ (h.hm.ty k hk) (by decide) (by decide), h.hf.step fun k hk _ => keep2 k _ (h.hf.ty k hk) (by decide) (by decide), ?_, h.nm, h.nf, h.mf⟩
  · simp [World.setCell, Array.getElem?_modify, hb1, cellsN]
  · refine ⟨cs, hro.step fun k hk _ => keep2 k _ (hro.ty k hk) (by decide) (by decide), ?_⟩
    have kk : ∀ k, MM.Ty W k 40 → μ.l.ob ≠ some k → (w1.setCell ⟨g, 3, none⟩ v').heap[k]? = W.heap[k]? := fun k hk hne =>
      (Below.heap_setCell w1 _ v' k (ty_ne hk h.tyg (by decide))).trans (keep0 k (by obtain ⟨_, _, hc⟩ := hk; exact MM.blk_lt hc) hne)
    refine ((hrm.mono (ok' := fun k => (B ≤ k ∧ MM.Ty (w1.setCell ⟨g, 3, none⟩ v') k 40 ∧ ob' ≠ some k) ∧ MM.Ty W k 40 ∧ μ.l.ob ≠ some k) fun k hk hlt => ⟨⟨hk.1, ?_, ?_⟩, hk.2⟩).step (fun k hk _ => kk k hk.2.1 hk.2.2)).mono fun k hk _ => hk.1
    · obtain ⟨c, f, hc⟩ := hk.2.1
      exact ⟨c, f, (kk k hk.2.1 hk.2.2).trans hc⟩
    · rcases hob with e | ⟨b, e, hb⟩
      · rw [e]; exact hk.2.2
      · rw [e]; intro e'; injection e' with e'; omega
/-- A store into one of the node's own rows. -/
theorem seti {b i t : Nat} {u : Value} (h : NodeAt w B g s μ) (ht : MM.Ty w b t) (hto : t ≠ 40) (htg : t ≠ 82) (htm : t ≠ 34) {s' : NS} (el : s'.n.log = s.n.log) (eo : s'.out = s.out) (hc : cellsN s' μ = cellsN s μ)
    (hv : MM.Row (w.setCell ⟨b, i, none⟩ u) B 4 1 μ.v.v s'.n.votes.length (boolsC s'.n.votes) μ.v.ob) (hn : MM.Row (w.setCell ⟨b, i, none⟩ u) B 3 1 μ.n.v s'.n.nxt.length (intsC s'.n.nxt) μ.n.ob) (hm : MM.Row (w.setCell ⟨b, i, none⟩ u) B 3 1 μ.m.v s'.n.mtch.length (intsC s'.n.mtch) μ.m.ob) (hf : MM.Row (w.setCell ⟨b, i, none⟩ u) B 3 1 μ.f.v s'.n.forms.length (intsC s'.n.forms) μ.f.ob) :
    NodeAt (w.setCell ⟨b, i, none⟩ u) B g s' μ := by
  have far : ∀ k t', MM.Ty w k t' → t' ≠ t → (w.setCell ⟨b, i, none⟩ u).heap[k]? = w.heap[k]? := fun k t' hk hne => Below.heap_setCell w _ u k (ty_ne hk ht hne)
  refine ⟨h.hB, ?_, ?_, hv, hn, hm, hf, ?_, h.nm, h.nf, h.mf⟩
  · rw [hc]; exact (far g _ h.tyg (Ne.symm htg)).trans h.blk
  · rw [el]; exact h.hl.step fun k hk _ => far k _ (h.hl.ty k hk) (Ne.symm hto)
  · rw [eo]
    obtain ⟨cs, hro, hrm⟩ := h.ho
    refine ⟨cs, hro.step fun k hk _ => far k _ (hro.ty k hk) (Ne.symm htm), ?_⟩
    refine ((hrm.mono (ok' := fun k => (B ≤ k ∧ MM.Ty (w.setCell ⟨b, i, none⟩ u) k 40 ∧ μ.l.ob ≠ some k) ∧ MM.Ty w k 40) fun k hk _ => ⟨⟨hk.1, ?_, hk.2.2⟩, hk.2.1⟩).step (fun k hk _ => far k _ hk.2 (Ne.symm hto))).mono fun k hk _ => hk.1
    obtain ⟨c, f, hc⟩ := hk.2.1
    exact ⟨c, f, (far k _ hk.2.1 (Ne.symm hto)).trans hc⟩
theorem set_m {b i : Nat} {x : Int} (h : NodeAt w B g s μ) (hb : μ.m.ob = some b) (hi : i < s.n.mtch.length) : NodeAt (w.setCell ⟨b, i, none⟩ (.int .i64 x)) B g ⟨{ s.n with mtch := s.n.mtch.set i x }, s.out⟩ μ := by
  have hr := h.hm
  rw [hb] at hr
  refine h.seti (hr.ty b rfl) (by decide) (by decide) (by decide) rfl rfl rfl (h.hv.far (fun k hk => ty_ne (h.hv.ty k hk) (hr.ty b rfl) (by decide)) _) (h.hn.far (fun k hk e => h.nm k hk (by rw [hb, e])) _) ?_ (h.hf.far (fun k hk e => h.mf b hb (by rw [hk, e])) _)
  have := hr.set (i := i) (u := .int .i64 x) hi
  rw [hb]
  simpa [intsC, List.map_set] using this
theorem set_n {b i : Nat} {x : Int} (h : NodeAt w B g s μ) (hb : μ.n.ob = some b) (hi : i < s.n.nxt.length) : NodeAt (w.setCell ⟨b, i, none⟩ (.int .i64 x)) B g ⟨{ s.n with nxt := s.n.nxt.set i x }, s.out⟩ μ := by
  have hr := h.hn
  rw [hb] at hr
  refine h.seti (hr.ty b rfl) (by decide) (by decide) (by decide) rfl rfl rfl (h.hv.far (fun k hk => ty_ne (h.hv.ty k hk) (hr.ty b rfl) (by decide)) _) ?_ (h.hm.far (fun k hk e => h.nm b hb (by rw [hk, e])) _) (h.hf.far (fun k hk e => h.nf b hb (by rw [hk, e])) _)
  have := hr.set (i := i) (u := .int .i64 x) hi
  rw [hb]
  simpa [intsC, List.map_set] using this
theorem set_f {b i : Nat} {x : Int} (h : NodeAt w B g s μ) (hb : μ.f.ob = some b) (hi : i < s.n.forms.length) : NodeAt (w.setCell ⟨b, i, none⟩ (.int .i64 x)) B g ⟨{ s.n with forms := s.n.forms.set i x }, s.out⟩ μ := by
  have hr := h.hf
  rw [hb] at hr
  refine h.seti (hr.ty b rfl) (by decide) (by decide) (by decide) rfl rfl rfl (h.hv.far (fun k hk => ty_ne (h.hv.ty k hk) (hr.ty b rfl) (by decide)) _) (h.hn.far (fun k hk e => h.nf k hk (by rw [hb, e])) _) (h.hm.far (fun k hk e => h.mf k hk (by rw [hb, e])) _) ?_
  have := hr.set (i := i) (u := .int .i64 x) hi
  rw [hb]
  simpa [intsC, List.map_set] using this
theorem set_v {b i : Nat} {x : Bool} (h : NodeAt w B g s μ) (hb : μ.v.ob = some b) (hi : i < s.n.votes.length) : NodeAt (w.setCell ⟨b, i, none⟩ (.bool x)) B g ⟨{ s.n with votes := s.n.votes.set i x }, s.out⟩ μ := by
  have hr := h.hv
  rw [hb] at hr
  have tb := hr.ty b rfl
  refine h.seti tb (by decide) (by decide) (by decide) rfl rfl rfl ?_ (h.hn.far (fun k hk => ty_ne (h.hn.ty k hk) tb (by decide)) _) (h.hm.far (fun k hk => ty_ne (h.hm.ty k hk) tb (by decide)) _) (h.hf.far (fun k hk => ty_ne (h.hf.ty k hk) tb (by decide)) _)
  have := hr.set (i := i) (u := .bool x) hi
  rw [hb]
  simpa [boolsC, List.map_set] using this
/-- Rows that are new, in their fields. -/
theorem rows (h : NodeAt w B g s μ) {i : Nat} {u : Value} {s' : NS} {μ' : NM} (hc : (cellsN s μ).setIfInBounds i u = cellsN s' μ') (el : s'.n.log = s.n.log) (eo : s'.out = s.out) (ml : μ'.l = μ.l) (mo : μ'.o = μ.o)
    (hv : MM.Row w B 4 1 μ'.v.v s'.n.votes.length (boolsC s'.n.votes) μ'.v.ob) (hn : MM.Row w B 3 1 μ'.n.v s'.n.nxt.length (intsC s'.n.nxt) μ'.n.ob) (hm : MM.Row w B 3 1 μ'.m.v s'.n.mtch.length (intsC s'.n.mtch) μ'.m.ob) (hf : MM.Row w B 3 1 μ'.f.v s'.n.forms.length (intsC s'.n.forms) μ'.f.ob)
    (nm : ∀ k, μ'.n.ob = some k → μ'.m.ob ≠ some k) (nf : ∀ k, μ'.n.ob = some k → μ'.f.ob ≠ some k) (mf : ∀ k, μ'.m.ob = some k → μ'.f.ob ≠ some k) : NodeAt (w.setCell ⟨g, i, none⟩ u) B g s' μ' := by
  have far : ∀ k t, MM.Ty w k t → t ≠ 82 → (w.setCell ⟨g, i, none⟩ u).heap[k]? = w.heap[k]? := fun k t hk hne => Below.heap_setCell w _ u k (ty_ne hk h.tyg hne)
  refine ⟨h.hB, by simp [World.setCell, Array.getElem?_modify, h.blk, hc], ?_, hv.step fun k hk _ => far k _ (hv.ty k hk) (by decide), hn.step fun k hk _ => far k _ (hn.ty k hk) (by decide), hm.step fun k hk _ => far k _ (hm.ty k hk) (by decide), hf.step fun k hk _ => far k _ (hf.ty k hk) (by decide), ?_, nm, nf, mf⟩
  · rw [el, ml]; exact h.hl.step fun k hk _ => far k _ (h.hl.ty k hk) (by decide)
  · rw [eo, mo, ml]
    obtain ⟨cs, hro, hrm⟩ := h.ho
    refine ⟨cs, hro.step fun k hk _ => far k _ (hro.ty k hk) (by decide), ?_⟩
    refine ((hrm.mono (ok' := fun k => (B ≤ k ∧ MM.Ty (w.setCell ⟨g, i, none⟩ u) k 40 ∧ μ.l.ob ≠ some k) ∧ MM.Ty w k 40) fun k hk _ => ⟨⟨hk.1, ?_, hk.2.2⟩, hk.2.1⟩).step (fun k hk _ => far k _ hk.2 (by decide))).mono fun k hk _ => hk.1
    obtain ⟨c, f, hc⟩ := hk.2.1
    exact ⟨c, f, (far k _ hk.2.1 (by decide)).trans hc⟩
theorem gblk {W : World} {row : Option Nat} {t : Nat} (h : NodeAt w B g s μ) (hg : W.grownBy w1 row) (hb : Below w.heap.size w W) (ht : ∀ k, row = some k → MM.Ty w k t) (hne : t ≠ 82) : w1.heap[g]? = w.heap[g]? :=
  (hg.block g (Nat.lt_of_lt_of_le h.lt hb.size) (fun e => ty_ne (ht g e.symm) h.tyg hne rfl)).trans (hb.block g h.lt)
theorem gc {W : World} {row : Option Nat} {t : Nat} (h : NodeAt w B g s μ) (hg : W.grownBy w1 row) (hb : Below w.heap.size w W) (ht : ∀ k, row = some k → MM.Ty w k t) (hne : t ≠ 82) (i : Nat) (u : Value) (hi : (cellsN s μ)[i]? = some u) : w1.cell? ⟨g, i, none⟩ = some u :=
  (World.cell?_of_block (a := ⟨g, i, none⟩) (h.gblk hg hb ht hne)).trans (h.c i u hi)
theorem gfr {W : World} {row : Option Nat} {t : Nat} (h : NodeAt w B g s μ) (hg : W.grownBy w1 row) (hb : Below w.heap.size w W) (ht : ∀ k, row = some k → MM.Ty w k t) (hne : t ≠ 82) (i : Nat) : w1.frozen? ⟨g, i, none⟩ = false :=
  (World.frozen?_of_block (a := ⟨g, i, none⟩) (h.gblk hg hb ht hne)).trans (h.fr i)
theorem Bsize (h : NodeAt w B g s μ) : B ≤ w.heap.size := Nat.le_trans h.hB (Nat.le_of_lt h.lt)
theorem anyRow {sz n : Nat} {v : Value} {xs : List Value} (hr : MM.Rd w (fun k => B ≤ k ∧ MM.Ty w k 40 ∧ μ.l.ob ≠ some k) sz v n xs) (hm : ∀ k, B ≤ k → k < w.heap.size → w1.heap[k]? = w.heap[k]?) :
    MM.Rd w1 (fun k => B ≤ k ∧ MM.Ty w1 k 40 ∧ μ.l.ob ≠ some k) sz v n xs := by
  refine ((hr.mono (ok' := fun k => (B ≤ k ∧ MM.Ty w1 k 40 ∧ μ.l.ob ≠ some k)) fun k hk hlt => ⟨hk.1, ?_, hk.2.2⟩).step fun k hk hlt => hm k hk.1 hlt)
  obtain ⟨c, f, hc⟩ := hk.2.1
  exact ⟨c, f, (hm k hk.1 hlt).trans hc⟩
theorem anyMsgs {ms : List Msg} {cs : List Value} (hr : MsgsR w (fun k => B ≤ k ∧ MM.Ty w k 40 ∧ μ.l.ob ≠ some k) ms cs) (hm : ∀ k, B ≤ k → k < w.heap.size → w1.heap[k]? = w.heap[k]?) :
    MsgsR w1 (fun k => B ≤ k ∧ MM.Ty w1 k 40 ∧ μ.l.ob ≠ some k) ms cs := by
  refine ((hr.mono (ok' := fun k => (B ≤ k ∧ MM.Ty w1 k 40 ∧ μ.l.ob ≠ some k)) fun k hk hlt => ⟨hk.1, ?_, hk.2.2⟩).step fun k hk hlt => hm k hk.1 hlt)
  obtain ⟨c, f, hc⟩ := hk.2.1
  exact ⟨c, f, (hm k hk.1 hlt).trans hc⟩
end NodeAt
/-- A node's cells. -/
def nodeC (n : Node) (vl vv vn vm vf : Value) : Array Value := #[.int .i64 n.id, .int .i64 n.term, .int .i64 n.vote, vl, .int .i64 n.form, .int .i64 n.role, .int .i64 n.commit, vv, vn, vm, vf, .int .i64 n.clock, .int .i64 n.due]
/-- What a node's rows lead to. -/
structure NodeV (w : World) (ok : Nat → Prop) (n : Node) (vl vv vn vm vf : Value) : Prop where
  hl : MM.Rd w ok 2 vl n.log.length (entsC n.log)
  hv : MM.Rd w ok 1 vv n.votes.length (boolsC n.votes)
  hn : MM.Rd w ok 1 vn n.nxt.length (intsC n.nxt)
  hm : MM.Rd w ok 1 vm n.mtch.length (intsC n.mtch)
  hf : MM.Rd w ok 1 vf n.forms.length (intsC n.forms)
def MsgsV (w : World) (ok : Nat → Prop) (v : Value) (ms : List Msg) : Prop := ∃ cs, MM.Rd w ok 10 v ms.length cs ∧ MsgsR w ok ms cs
section
variable {w w1 : World} {ok ok' : Nat → Prop} {n : Node} {vl vv vn vm vf v : Value} {ms : List Msg}
theorem NodeV.step (h : NodeV w ok n vl vv vn vm vf) (hm : ∀ k, ok k → k < w.heap.size → w1.heap[k]? = w.heap[k]?) : NodeV w1 ok n vl vv vn vm vf := ⟨h.hl.step hm, h.hv.step hm, h.hn.step hm, h.hm.step hm, h.hf.step hm⟩
theorem NodeV.mono (h : NodeV w ok n vl vv vn vm vf) (hok : ∀ k, ok k → k < w.heap.size → ok' k) : NodeV w ok' n vl vv vn vm vf := ⟨h.hl.mono hok, h.hv.mono hok, h.hn.mono hok, h.hm.mono hok, h.hf.mono hok⟩
theorem NodeV.below (h : NodeV w ok n vl vv vn vm vf) (hb : Below w.heap.size w w1) : NodeV w1 ok n vl vv vn vm vf := h.step fun k _ hk => hb.block k hk
theorem MsgsV.step (h : MsgsV w ok v ms) (hm : ∀ k, ok k → k < w.heap.size → w1.heap[k]? = w.heap[k]?) : MsgsV w1 ok v ms := by
  obtain ⟨cs, h1, h2⟩ := h
  exact ⟨cs, h1.step hm, h2.step hm⟩
theorem MsgsV.mono (h : MsgsV w ok v ms) (hok : ∀ k, ok k → k < w.heap.size → ok' k) : MsgsV w ok' v ms := by
  obtain ⟨cs, h1, h2⟩ := h
  exact ⟨cs, h1.mono hok, h2.mono hok⟩
theorem MsgsV.below (h : MsgsV w ok v ms) (hb : Below w.heap.size w w1) : MsgsV w1 ok v ms := h.step fun k _ hk => hb.block k hk
end
theorem NodeAt.nodeV {w : World} {B g : Nat} {s : NS} {μ : NM} (h : NodeAt w B g s μ) : NodeV w (fun k => B ≤ k) s.n μ.l.v μ.v.v μ.n.v μ.m.v μ.f.v :=
  ⟨h.hl.rd.mono fun k hk _ => (h.hl.lt k hk).1, h.hv.rd.mono fun k hk _ => (h.hv.lt k hk).1, h.hn.rd.mono fun k hk _ => (h.hn.lt k hk).1, h.hm.rd.mono fun k hk _ => (h.hm.lt k hk).1, h.hf.rd.mono fun k hk _ => (h.hf.lt k hk).1⟩

end Fed
