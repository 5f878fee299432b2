/- What entries bear has no say in what nodes do: every step goes with a map of the data. In plain Lean. -/
import Derived.Test.YtnkmljdkokcdjaaGu
set_option linter.unusedVariables false
set_option linter.unusedSimpArgs false
namespace Fed
open Go Go.RowKit Go.Proofs.Ytnkmljdkokcdjaa
set_option linter.unusedVariables false
variable (f : ByteArray → ByteArray)

def mapE (e : Entry) : Entry := ⟨e.term, f e.data⟩
def mapN (n : Node) : Node := { n with log := n.log.map (mapE f) }
def mapM (m : Msg) : Msg := { m with entries := m.entries.map (mapE f) }
def mapS (s : NS) : NS := ⟨mapN f s.n, s.out.map (mapM f)⟩
def mapG (s : GS) : GS := ⟨s.ns.map (mapN f), s.us, s.f.map (mapM f)⟩
theorem termAt_map (l : List Entry) (k : Int) : termAt (l.map (mapE f)) k = termAt l k := by
  unfold termAt
  rw [List.length_map, List.getElem?_map]
  cases l[(k - 1).toNat]? <;> rfl
theorem entriesMsg_map (n : Node) (t : Int) : entriesMsg (mapN f n) t = mapM f (entriesMsg n t) := by
  have ha : entriesAt (mapN f n) t = entriesAt n t := by unfold entriesAt mapN; rw [List.length_map]
  unfold entriesMsg
  rw [ha]
  unfold mapM mapN
  simp only [List.length_map, termAt_map, List.map_take, List.map_drop]
theorem spread_map (n : Node) (k : Nat) : spreadMsgs (mapN f n) k = (spreadMsgs n k).map (mapM f) := by
  unfold spreadMsgs
  rw [List.map_map]
  refine List.map_congr_left fun i _ => ?_
  exact entriesMsg_map f n _
theorem asks_map (n : Node) (k : Nat) : askMsgs (mapN f n) k = (askMsgs n k).map (mapM f) := by
  unfold askMsgs
  rw [List.map_map]
  refine List.map_congr_left fun i _ => ?_
  show voteMsg (mapN f n) i = mapM f (voteMsg n i)
  unfold voteMsg mapM mapN
  simp only [List.length_map, termAt_map, List.map_nil]
theorem putN_map (n : Node) (d : ByteArray) : putN (mapN f n) (f d) = mapN f (putN n d) := by
  unfold putN mapN
  simp only [List.length_map, List.map_append, List.map_cons, List.map_nil]
  rfl
theorem putS_map (s : NS) (d : ByteArray) : putS (mapS f s) (f d) = mapS f (putS s d) := by
  unfold putS mapS
  rw [putN_map, spread_map, List.map_append]
  rfl
theorem leadN_map (n : Node) : leadN (mapN f n) = mapN f (leadN n) := by
  unfold leadN mapN
  simp only [List.length_map]
theorem leadS_map (h0 : f ⟨#[]⟩ = ⟨#[]⟩) (s : NS) : leadS (mapS f s) = mapS f (leadS s) := by
  unfold leadS
  have e : (⟨leadN (mapS f s).n, (mapS f s).out⟩ : NS) = mapS f ⟨leadN s.n, s.out⟩ := by
    unfold mapS
    rw [leadN_map]
  rw [e, ← putS_map, h0]
theorem standN_map (n : Node) : standN (mapN f n) = mapN f (standN n) := rfl
theorem standS_map (h0 : f ⟨#[]⟩ = ⟨#[]⟩) (s : NS) : standS (mapS f s) = mapS f (standS s) := by
  unfold standS
  have e : (⟨standN (mapS f s).n, (mapS f s).out ++ askMsgs (standN (mapS f s).n) (mapS f s).n.votes.length⟩ : NS) = mapS f ⟨standN s.n, s.out ++ askMsgs (standN s.n) s.n.votes.length⟩ := by
    unfold mapS
    rw [List.map_append, ← asks_map, ← standN_map]
    rfl
  rw [e]
  show (if s.n.votes.length = 1 then _ else _) = _
  split
  · exact leadS_map f h0 _
  · rfl
theorem tickS_map (h0 : f ⟨#[]⟩ = ⟨#[]⟩) (n : Node) : tickS (mapN f n) = mapS f (tickS n) := by
  have e : ({ mapN f n with clock := (mapN f n).clock + 1 } : Node) = mapN f { n with clock := n.clock + 1 } := rfl
  unfold tickS
  rw [e]
  show (if decide (0 ≤ n.id ∧ n.id < n.votes.length) = false then _ else if n.role = 2 then (if (n.clock + 1).tmod 2 = 0 then _ else _) else if n.due ≤ n.clock + 1 then _ else _) = _
  split
  · rfl
  split
  · split
    · unfold mapS
      rw [← spread_map]
      rfl
    · rfl
  split
  · exact standS_map f h0 ⟨{ n with clock := n.clock + 1 }, []⟩
  · rfl
theorem voteOk_map (n : Node) (m : Msg) : voteOk (mapN f n) (mapM f m) = voteOk n m := by
  unfold voteOk mapN mapM
  simp only [List.length_map, termAt_map]
theorem voteS_map (s : NS) (m : Msg) : voteS (mapS f s) (mapM f m) = mapS f (voteS s m) := by
  unfold voteS
  show (if voteOk (mapN f s.n) (mapM f m) = true then _ else _) = _
  rw [voteOk_map]
  split
  · unfold mapS; rw [List.map_append]; rfl
  · unfold mapS; rw [List.map_append]; rfl
theorem votedS_map (h0 : f ⟨#[]⟩ = ⟨#[]⟩) (s : NS) (m : Msg) : votedS (mapS f s) (mapM f m) = mapS f (votedS s m) := by
  unfold votedS
  show (if s.n.role ≠ 1 ∨ m.term ≠ s.n.term ∨ m.ok = false then _ else if s.n.votes.length < 2 * countT (votedN s.n m).votes then _ else _) = _
  split
  · rfl
  split
  · exact leadS_map f h0 ⟨votedN s.n m, s.out⟩
  · rfl
theorem takeL_map : ∀ (es log : List Entry) (k : Nat), takeL (log.map (mapE f)) k (es.map (mapE f)) = (takeL log k es).map (mapE f)
  | [], log, k => rfl
  | e :: es, log, k => by
    show takeL (log.map (mapE f)) k (mapE f e :: es.map (mapE f)) = _
    unfold takeL
    rw [termAt_map, List.length_map]
    show (if termAt log ((k + 1 : Nat) : Int) = e.term ∧ k + 1 ≤ log.length then _ else _) = _
    split
    · exact takeL_map es log (k + 1)
    · have h := takeL_map es (log.take k ++ [e]) (k + 1)
      rw [List.map_append, List.map_take] at h
      exact h
theorem fits_map (n : Node) (m : Msg) : fits (mapN f n) (mapM f m) = fits n m := by
  unfold fits mapN mapM
  simp only [List.length_map, termAt_map]
theorem appendN_map (n : Node) (m : Msg) : appendN (mapN f n) (mapM f m) = mapN f (appendN n m) := by
  unfold appendN mapN mapM
  simp only [List.length_map, takeL_map]
theorem appendS_map (s : NS) (m : Msg) : appendS (mapS f s) (mapM f m) = mapS f (appendS s m) := by
  unfold appendS
  show (if m.term ≠ s.n.term then _ else if fits (mapN f s.n) (mapM f m) = false then _ else _) = _
  rw [fits_map]
  split
  · unfold mapS; rw [List.map_append]
    show (⟨mapN f s.n, s.out.map (mapM f) ++ [matchMsg (mapN f s.n) m.frm (mapN f s.n).log.length false]⟩ : NS) = _
    unfold mapN matchMsg mapM
    simp only [List.length_map, List.map_cons, List.map_nil]
  split
  · unfold mapS; rw [List.map_append]
    show (⟨appendN0 (mapN f s.n), s.out.map (mapM f) ++ [matchMsg (mapN f s.n) m.frm (mn (mapN f s.n).log.length (m.index - 1)) false]⟩ : NS) = _
    unfold mapN matchMsg mapM appendN0
    simp only [List.length_map, List.map_cons, List.map_nil]
  · have e : appendN (mapS f s).n (mapM f m) = mapN f (appendN s.n m) := appendN_map f s.n m
    rw [e]
    unfold mapS; rw [List.map_append]
    show (⟨mapN f (appendN s.n m), s.out.map (mapM f) ++ [matchMsg (mapN f s.n) m.frm (m.index + ((mapM f m).entries.length : Int)) true]⟩ : NS) = _
    unfold mapN matchMsg mapM
    simp only [List.length_map, List.map_cons, List.map_nil]
theorem reachedFrom_map (n : Node) : ∀ k, reachedFrom (mapN f n) k = reachedFrom n k
  | 0 => rfl
  | k + 1 => by
    unfold reachedFrom
    rw [reachedFrom_map n k]
    show (if ((k + 1 : Nat) : Int) ≤ n.commit then n.commit else if termAt (n.log.map (mapE f)) ((k + 1 : Nat) : Int) = n.term ∧ n.votes.length < 2 * countG n.mtch ((k + 1 : Nat) : Int) then _ else _) = _
    rw [termAt_map]
theorem matchS_map (s : NS) (m : Msg) : matchS (mapS f s) (mapM f m) = mapS f (matchS s m) := by
  unfold matchS
  show (if s.n.role ≠ 2 ∨ m.term ≠ s.n.term then _ else if m.ok = false then _ else _) = _
  split
  · rfl
  split
  · show (⟨mapN f (matchNo s.n m), s.out.map (mapM f) ++ [entriesMsg (mapN f (matchNo s.n m)) m.frm]⟩ : NS) = _
    rw [entriesMsg_map]
    unfold mapS; rw [List.map_append]
    rfl
  · have e : matchYes (mapN f s.n) (mapM f m) = mapN f (matchYes s.n m) := by
      unfold matchYes reachedN
      have e1 : matchN1 (mapN f s.n) (mapM f m) = mapN f (matchN1 s.n m) := rfl
      rw [e1, reachedFrom_map]
      show ({ mapN f (matchN1 s.n m) with commit := reachedFrom (matchN1 s.n m) ((matchN1 s.n m).log.map (mapE f)).length } : Node) = _
      rw [List.length_map]
      rfl
    show (⟨matchYes (mapN f s.n) (mapM f m), s.out.map (mapM f)⟩ : NS) = _
    rw [e]
    rfl
theorem handleIn_map (h0 : f ⟨#[]⟩ = ⟨#[]⟩) (s : NS) (m : Msg) : handleIn (mapS f s) (mapM f m) = mapS f (handleIn s m) := by
  unfold handleIn
  show (if m.kind = 1 then _ else if m.kind = 2 then _ else if m.kind = 3 then _ else if m.kind = 4 then _ else _) = _
  split
  · exact voteS_map f s m
  split
  · exact votedS_map f h0 s m
  split
  · exact appendS_map f s m
  split
  · exact matchS_map f s m
  · rfl
theorem bump_map (n : Node) (m : Msg) : bump (mapN f n) (mapM f m) = mapN f (bump n m) := by
  unfold bump
  show (if n.term < m.term then _ else _) = _
  split <;> rfl
theorem handleS_map (h0 : f ⟨#[]⟩ = ⟨#[]⟩) (n : Node) (m : Msg) : handleS (mapN f n) (mapM f m) = mapS f (handleS n m) := by
  unfold handleS
  show (if (0 ≤ m.frm ∧ m.frm < n.votes.length) ∧ (0 ≤ n.id ∧ n.id < n.votes.length) then _ else _) = _
  split
  · rw [bump_map]
    exact handleIn_map f h0 ⟨bump n m, []⟩ m
  · rfl
theorem proposeS_map (n : Node) (d : ByteArray) : proposeS (mapN f n) (f d) = mapS f (proposeS n d) := by
  unfold proposeS
  show (if n.role = 2 ∧ 0 ≤ n.id ∧ n.id < n.votes.length then _ else _) = _
  split
  · exact putS_map f ⟨n, []⟩ d
  · rfl
section
variable {f}
theorem isUp_map (s : GS) (id : Int) : (mapG f s).isUp id = s.isUp id := by unfold GS.isUp mapG; rw [List.length_map]
theorem has_map (s : GS) (a : Int) : (mapG f s).has a = s.has a := by unfold GS.has mapG; rw [List.length_map]
theorem node_map (s : GS) {id : Int} (h : s.isUp id = true) : (mapG f s).node id = mapN f (s.node id) := by
  obtain ⟨h0, h1⟩ := isUp_bounds h
  unfold GS.node mapG
  rw [List.getD_eq_getElem?_getD, List.getD_eq_getElem?_getD, List.getElem?_map, List.getElem?_eq_getElem (by omega)]
  rfl
theorem msg_map (s : GS) {a : Int} (h : s.has a = true) : (mapG f s).msg a = mapM f (s.msg a) := by
  have h1 := (has_bounds h).2
  unfold GS.msg mapG
  rw [List.getD_eq_getElem?_getD, List.getD_eq_getElem?_getD, List.getElem?_map, List.getElem?_eq_getElem h1]
  rfl
theorem put_map (s : GS) (id : Int) (r : NS) : (mapG f s).put id (mapS f r) = mapG f (s.put id r) := by
  unfold GS.put mapG mapS
  simp only [List.map_set, List.map_append]
theorem tick_map (h0 : f ⟨#[]⟩ = ⟨#[]⟩) (s : GS) (id : Int) : (mapG f s).tick id = mapG f (s.tick id) := by
  unfold GS.tick
  rw [isUp_map]
  split
  · rename_i hu
    rw [node_map s hu, tickS_map f h0, put_map]
  · rfl
theorem prop_map (s : GS) (id : Int) (d : ByteArray) : (mapG f s).prop id (f d) = mapG f (s.prop id d) := by
  unfold GS.prop
  rw [isUp_map]
  split
  · rename_i hu
    rw [node_map s hu, proposeS_map, put_map]
  · rfl
theorem cut_map (s : GS) (a : Int) : (mapG f s).cut a = mapG f (s.cut a) := by
  unfold GS.cut
  rw [has_map]
  split
  · unfold mapG
    simp only [List.eraseIdx_eq_take_drop_succ, List.map_append, List.map_take, List.map_drop]
  · rfl
theorem deliver_map (h0 : f ⟨#[]⟩ = ⟨#[]⟩) (s : GS) (a : Int) : (mapG f s).deliver a = mapG f (s.deliver a) := by
  unfold GS.deliver
  rw [has_map]
  split
  · rename_i hh
    rw [msg_map s hh, isUp_map]
    show (if s.isUp (s.msg a).to = true then ((mapG f s).cut a).put (s.msg a).to (handleS ((mapG f s).node (s.msg a).to) (mapM f (s.msg a))) else (mapG f s).cut a) = _
    split
    · rename_i hu
      rw [node_map s hu, handleS_map f h0, cut_map, put_map]
    · exact cut_map s a
  · rfl
theorem drain_map (h0 : f ⟨#[]⟩ = ⟨#[]⟩) : ∀ (q : Nat) (s : GS), drain q (mapG f s) = mapG f (drain q s)
  | 0, s => rfl
  | q + 1, s => by
    unfold Go.Proofs.Ytnkmljdkokcdjaa.drain
    rw [has_map]
    split
    · rw [deliver_map h0, drain_map h0 q]
    · rfl
theorem ticksTo_map (h0 : f ⟨#[]⟩ = ⟨#[]⟩) (s : GS) : ∀ i, ticksTo (mapG f s) i = mapG f (ticksTo s i)
  | 0 => rfl
  | i + 1 => by
    show (ticksTo (mapG f s) i).tick (i : Int) = _
    rw [ticksTo_map h0 s i, tick_map h0]
    rfl
theorem settle_map (h0 : f ⟨#[]⟩ = ⟨#[]⟩) : ∀ (r : Nat) (s : GS), settleS r (mapG f s) = mapG f (settleS r s)
  | 0, s => rfl
  | r + 1, s => by
    show settleS r (roundS (mapG f s)) = _
    have e : roundS (mapG f s) = mapG f (roundS s) := by unfold roundS; rw [ticksTo_map h0, drain_map h0]
    rw [e, settle_map h0 r]
    rfl
theorem leadTo_map (s : GS) : ∀ i, i ≤ s.ns.length → (mapG f s).leadTo i = s.leadTo i
  | 0, _ => rfl
  | i + 1, hi => by
    have ih := leadTo_map s i (by omega)
    have g : ∀ j, j < s.ns.length → (s.ns.map (mapN f)).getD j blank = mapN f (s.ns.getD j blank) := fun j hj => by
      rw [List.getD_eq_getElem?_getD, List.getD_eq_getElem?_getD, List.getElem?_map, List.getElem?_eq_getElem hj]; rfl
    show (if (s.us.getD i false && decide (((s.ns.map (mapN f)).getD i blank).role = 2) && (decide ((mapG f s).leadTo i < 0) || decide (((s.ns.map (mapN f)).getD ((mapG f s).leadTo i).toNat blank).term < ((s.ns.map (mapN f)).getD i blank).term))) = true then _ else _) = _
    rw [ih, g i (by omega)]
    rcases leadTo_cases s i with h | ⟨a, ha, h⟩
    · have e : s.leadTo (i + 1) = if (s.us.getD i false && decide ((s.ns.getD i blank).role = 2) && (decide (s.leadTo i < 0) || decide ((s.ns.getD (s.leadTo i).toNat blank).term < (s.ns.getD i blank).term))) = true then (i : Int) else s.leadTo i := rfl
      rw [e, h, decide_eq_true (show (-1 : Int) < 0 by decide), Bool.true_or, Bool.true_or]
      rfl
    · have e : s.leadTo (i + 1) = if (s.us.getD i false && decide ((s.ns.getD i blank).role = 2) && (decide (s.leadTo i < 0) || decide ((s.ns.getD (s.leadTo i).toNat blank).term < (s.ns.getD i blank).term))) = true then (i : Int) else s.leadTo i := rfl
      rw [e, h, Int.toNat_natCast, g a (by omega)]
      rfl
theorem leader_map (s : GS) : (mapG f s).leader = s.leader := by
  unfold GS.leader
  show (mapG f s).leadTo (s.ns.map (mapN f)).length = _
  rw [List.length_map, leadTo_map s _ (Nat.le_refl _)]
theorem propOk_map (s : GS) (id : Int) : (mapG f s).propOk id = s.propOk id := by
  unfold GS.propOk
  rw [isUp_map]
  cases hu : s.isUp id
  · rfl
  · rw [node_map s hu]; rfl
theorem datas_map (hf : ∀ d, (f d).toList.isEmpty = d.toList.isEmpty) (l : List Entry) : datas (l.map (mapE f)) = (datas l).map f := by
  unfold datas
  rw [List.filter_map, List.map_map, List.map_map]
  have e : ((fun e : Entry => !e.data.toList.isEmpty) ∘ mapE f) = fun e : Entry => !e.data.toList.isEmpty := by
    funext e
    show (!(f e.data).toList.isEmpty) = _
    rw [hf]
  rw [e]
  rfl
theorem applied_map (hf : ∀ d, (f d).toList.isEmpty = d.toList.isEmpty) (s : GS) (id : Int) : (mapG f s).applied id = (s.applied id).map f := by
  unfold GS.applied
  rw [isUp_map]
  split
  · rename_i hu
    rw [node_map s hu]
    unfold appliedN
    show datas ((((s.node id).log).map (mapE f)).take (s.node id).commit.toNat) = _
    rw [← List.map_take, datas_map hf]
  · rfl
end
end Fed
