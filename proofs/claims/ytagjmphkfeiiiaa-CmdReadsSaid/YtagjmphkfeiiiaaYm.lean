/-
  The laws' Make: a command that may be; conditions: the text is no longer than 200.
-/
import Derived.Test.YtagjmphkfeiiiaaQx13
import Derived.Test.YtagjmphkfeiiiaaYw
namespace Go.Proofs.Ytagjmphkfeiiiaa.Ym
open Go.RowKit Go.Proofs.YtagjmphkfeiiiaaW.PrintWords Go.Proofs.YtagjmphkfeiiiaaW.PrintLast Go.Proofs.YtagjmphkfeiiiaaW.PrintMore Go.Proofs.Ytagjmphkfeiiiaa.Q Go.Proofs.Ytagjmphkfeiiiaa.Ya Go.Proofs.Ytagjmphkfeiiiaa.Yb Go.Proofs.Ytagjmphkfeiiiaa.Yc Go.Proofs.Ytagjmphkfeiiiaa.Yd Go.Proofs.Ytagjmphkfeiiiaa.Yh Go.Proofs.Ytagjmphkfeiiiaa.Yi Go.Proofs.Ytagjmphkfeiiiaa.Yw
theorem ba_append (a b : ByteArray) : (a ++ b).size = a.size + b.size := ByteArray.size_append
theorem ba_extract (s : ByteArray) (i j : Nat) : (s.extract i j).size = min j s.size - i := ByteArray.size_extract
theorem rck (m : Nat) (h : m < 3) : ((⟨#[114, 99, 107]⟩ : ByteArray).extract m (m + 1)).size = 1 := by
  rw [ba_extract]
  have : (⟨#[114, 99, 107]⟩ : ByteArray).size = 3 := rfl
  omega
theorem okw_of (a b : ByteArray) (g : Bool) (h1 : 1 ≤ a.size) (h2 : a.size ≤ 300) (h3 : b.size ≤ 4000) (h4 : g = true → b = (⟨#[]⟩ : ByteArray)) : okw ⟨a, b, g⟩ = true := by
  unfold okw
  simp only [Bool.and_eq_true, decide_eq_true_eq]
  refine ⟨⟨⟨h1, h2⟩, h3⟩, ?_⟩
  cases g with
  | false => rfl
  | true => rw [h4 rfl]; simp [tl_nil]
theorem kk (a4 : ByteArray) (hs : a4.size ≤ 200) (v p : Int) (h : 0 ≤ v % 3) (h3 : v % 3 < 3) : ((⟨#[114, 99, 107]⟩ : ByteArray).extract (v % 3).toNat (v % 3 + 1).toNat).size = 1 ∧ (a4.extract 0 p.toNat).size ≤ 200 := by
  have em : (v % 3 + 1).toNat = (v % 3).toNat + 1 := by omega
  refine ⟨by rw [em]; exact rck _ (by omega), ?_⟩
  rw [ba_extract]
  omega
theorem lim2 {x y : Nat} (h : x = 1 ∧ y ≤ 200) : x + y ≤ 9223372036854775807 := by omega
theorem kk2 (a b : ByteArray) (h : a.size = 1 ∧ b.size ≤ 200) : 1 ≤ (a ++ b).size ∧ (a ++ b).size ≤ 300 := by
  rw [ba_append]
  generalize a.size = x at *
  generalize b.size = y at *
  omega
theorem w3_of (x : Int) (h : 0 ≤ x) (h3 : x < 3) : wrap64 (x + 1) = x + 1 := by unfold wrap64; omega
theorem ws_of (n : Nat) (h : n ≤ 200) : wrap64 ((n : Int) + 1) = (n : Int) + 1 := by unfold wrap64; omega
theorem f1 {i n : Nat} (h : i < n) : 0 ≤ (i : Int) ∧ (i : Int) < (n : Int) := by omega
theorem f2 {x : Int} (h : 0 ≤ x) : 0 ≤ x % 3 ∧ x % 3 < 3 ∧ x % 3 ≤ x % 3 + 1 ∧ x % 3 + 1 ≤ 3 := by omega
theorem f3 {p : Int} {n : Nat} (h : p < (n : Int) + 1) : p ≤ (n : Int) := by omega
theorem f4 {n : Nat} (h : n ≤ 200) : (0 : Int) < (n : Int) + 1 ∧ (n : Int) + 1 < 9223372036854775808 := by omega
theorem f5 {i m : Nat} (h : m = i) (h20 : i < 20) : m < 3518437208883 := by omega
theorem f6 (a4 : ByteArray) (hs : a4.size ≤ 200) (n m : Nat) : (a4.extract n m).size ≤ 4000 := by rw [ba_extract]; omega
theorem round (l3 : List Int) (a4 : ByteArray) (hs : a4.size ≤ 200) (K I T : Int) (B : Bool) (tx : ByteArray) (i : Nat) (hi : i < l3.length) (h20 : i < 20) (ws : List S40) (hw : ws.length = i) :
    ∃ x : S40, okw x = true ∧ ∀ k, federationlaw7_Make.j3 (k + 1 + 1) l3 a4 (i : Int) true K I T B ws tx = federationlaw7_Make.l0 k l3 a4 ((i + 1 : Nat) : Int) K I T B (ws ++ [x]) tx := by
  obtain ⟨v, hv, hv0, hv1⟩ := within_some (rd l3 (i : Int)) 1073741824 (by decide) (by decide)
  obtain ⟨p, hp, hp0, hp1⟩ := within_some (wrap64 (Int.tdiv v 3)) ((a4.size : Int) + 1) (f4 hs).1 (f4 hs).2
  obtain ⟨q, hq, hq0, hq1⟩ := within_some (wrap64 (Int.tdiv v 7)) ((a4.size : Int) + 1) (f4 hs).1 (f4 hs).2
  have e3 : Int.tmod v 3 = v % 3 := Int.tmod_eq_emod_of_nonneg hv0
  have hj4 : ∀ k x y z, federationlaw7_Make.j4 (k + 1) l3 a4 (i : Int) K I T B ws tx x y z = federationlaw7_Make.l0 k l3 a4 ((i + 1 : Nat) : Int) K I T B (ws ++ [⟨x, y, z⟩]) tx := by
    intro k x y z
    simp only [federationlaw7_Make.j4]
    rw [if_pos (f5 hw h20), wrap_succ i 20 h20 (by decide)]
  have base : ∀ k, federationlaw7_Make.j3 (k + 1 + 1) l3 a4 (i : Int) true K I T B ws tx = if Int.tmod v 5 = 0 then federationlaw7_Make.j4 (k + 1) l3 a4 (i : Int) K I T B ws tx (((⟨#[114, 99, 107]⟩ : ByteArray).extract (v % 3).toNat (v % 3 + 1).toNat) ++ (a4.extract 0 p.toNat)) (⟨#[]⟩ : ByteArray) (Int.tmod v 5 == 0) else federationlaw7_Make.j4 (k + 1) l3 a4 (i : Int) K I T B ws tx (((⟨#[114, 99, 107]⟩ : ByteArray).extract (v % 3).toNat (v % 3 + 1).toNat) ++ (a4.extract 0 p.toNat)) (a4.extract q.toNat a4.size) (Int.tmod v 5 == 0) := by
    intro k
    simp only [federationlaw7_Make.j3, if_true]
    rw [if_pos (f1 hi).1, if_pos (f1 hi).2, hv]
    simp only [Option.bind_some]
    rw [e3, w3_of _ (f2 hv0).1 (f2 hv0).2.1, if_pos (f2 hv0).1, if_pos (f2 hv0).2.2.1, if_pos (f2 hv0).2.2.2, ws_of _ hs, hp]
    simp only [Option.bind_some]
    rw [if_pos hp0, if_pos (f3 hp1), if_pos (lim2 (kk a4 hs v p (f2 hv0).1 (f2 hv0).2.1)), hq]
    simp only [Option.bind_some]
    rw [if_pos hq0, if_pos (f3 hq1)]
  by_cases h5 : Int.tmod v 5 = 0
  · refine ⟨⟨_, (⟨#[]⟩ : ByteArray), Int.tmod v 5 == 0⟩, okw_of _ _ _ (kk2 _ _ (kk a4 hs v p (f2 hv0).1 (f2 hv0).2.1)).1 (kk2 _ _ (kk a4 hs v p (f2 hv0).1 (f2 hv0).2.1)).2 (by decide) (fun _ => rfl), fun k => ?_⟩
    rw [base, if_pos h5, hj4]
  · refine ⟨⟨_, a4.extract q.toNat a4.size, Int.tmod v 5 == 0⟩, okw_of _ _ _ (kk2 _ _ (kk a4 hs v p (f2 hv0).1 (f2 hv0).2.1)).1 (kk2 _ _ (kk a4 hs v p (f2 hv0).1 (f2 hv0).2.1)).2 (f6 a4 hs _ _) (fun h => absurd (by simpa using h) h5), fun k => ?_⟩
    rw [base, if_neg h5, hj4]
theorem loop (l3 : List Int) (a4 : ByteArray) (hs : a4.size ≤ 200) (K I T : Int) (B : Bool) (tx : ByteArray) : ∀ (d i : Nat) (ws : List S40), i + d = min l3.length 20 → ws.length = i → ws.all okw = true →
    ∃ ws', Ev (fun k => federationlaw7_Make.l0 k l3 a4 (i : Int) K I T B ws tx) (K, I, T, B, ws', tx) ∧ ws'.length ≤ 20 ∧ ws'.all okw = true := by
  intro d
  induction d with
  | zero =>
    intro i ws hi hw ho
    refine ⟨ws, ⟨2, fun k hk => ?_⟩, by omega, ho⟩
    obtain ⟨m, rfl⟩ : ∃ m, k = m + 1 + 1 := ⟨k - 2, by omega⟩
    show federationlaw7_Make.l0 (m + 1 + 1) l3 a4 (i : Int) K I T B ws tx = _
    rw [federationlaw7_Make.l0]
    by_cases h : (i : Int) < (l3.length : Int)
    · rw [if_pos h, federationlaw7_Make.j3, if_neg (by simp; omega)]
    · rw [if_neg h, federationlaw7_Make.j3, if_neg (by decide)]
  | succ d ih =>
    intro i ws hi hw ho
    obtain ⟨x, hx, hstep⟩ := round l3 a4 hs K I T B tx i (by omega) (by omega) ws hw
    obtain ⟨ws', ⟨N, hN⟩, h1, h2⟩ := ih (i + 1) (ws ++ [x]) (by omega) (by simp; omega) (by rw [List.all_append, ho]; simp [hx])
    refine ⟨ws', ⟨N + 3, fun k hk => ?_⟩, h1, h2⟩
    obtain ⟨m, rfl⟩ : ∃ m, k = m + 1 + 1 + 1 := ⟨k - 3, by omega⟩
    show federationlaw7_Make.l0 (m + 1 + 1 + 1) l3 a4 (i : Int) K I T B ws tx = _
    rw [federationlaw7_Make.l0, if_pos (by omega), decide_eq_true (show (i : Int) < 20 by omega), hstep]
    exact hN m (by omega)
theorem make_ev (a0 a1 a2 : Int) (l3 : List Int) (a4 : ByteArray) (hs : a4.size ≤ 200) :
    ∃ c : C, Ev (fun k => federationlaw7_Make.f k a0 a1 a2 l3 a4) (c.kind, c.id, c.txn, c.com, c.ws, c.text) ∧ right c = true ∧ c.id < 9223372036854775808 ∧ c.txn < 9223372036854775808 := by
  obtain ⟨t, ht, ht0, ht1⟩ := within_some a0 6 (by decide) (by decide)
  obtain ⟨u, hu, hu0, hu1⟩ := within_some a1 200 (by decide) (by decide)
  obtain ⟨v, hv, hv0, hv1⟩ := within_some a1 1099511627776 (by decide) (by decide)
  obtain ⟨j, hj, hj0, hj1⟩ := within_some (wrap64 (Int.tdiv a0 6)) 3 (by decide) (by decide)
  obtain ⟨T, hT, hT0, hT1⟩ := within_some a2 1073741824 (by decide) (by decide)
  obtain ⟨b, hb, _, _⟩ := within_some a2 2 (by decide) (by decide)
  obtain ⟨I, hI⟩ : ∃ I, I = rd [u, v, 9223372036854775807] j := ⟨_, rfl⟩
  have hI0 : 0 ≤ I ∧ I < 9223372036854775808 := by
    have : j = 0 ∨ j = 1 ∨ j = 2 := by omega
    rcases this with rfl | rfl | rfl
    · rw [hI]; show 0 ≤ u ∧ u < 9223372036854775808; omega
    · rw [hI]; show 0 ≤ v ∧ v < 9223372036854775808; omega
    · rw [hI]; show (0 : Int) ≤ 9223372036854775807 ∧ (9223372036854775807 : Int) < 9223372036854775808; omega
  have key : ∀ (tx : ByteArray), tx.size ≤ 40 → (t = 5 ∨ tx = (⟨#[]⟩ : ByteArray)) → ∃ c : C, Ev (fun k => federationlaw7_Make.j0 k a2 l3 a4 t I T false tx) (c.kind, c.id, c.txn, c.com, c.ws, c.text) ∧ right c = true ∧ c.id < 9223372036854775808 ∧ c.txn < 9223372036854775808 := by
    intro tx htx h5
    have hj1' : ∀ {x : Bool} {r}, Ev (fun k => federationlaw7_Make.j1 k a2 l3 a4 x t I T false tx) r → (x = !(decide (t = 2) || decide (t = 3))) → Ev (fun k => federationlaw7_Make.j0 k a2 l3 a4 t I T false tx) r := by
      intro x r h hx
      subst hx
      refine Ev.step (f := fun k => federationlaw7_Make.j1 k a2 l3 a4 (!(decide (t = 2) || decide (t = 3))) t I T false tx) (fun k => ?_) h
      simp only [federationlaw7_Make.j0]
      by_cases h2 : t = 2
      · rw [if_pos h2]; simp [h2]
      · rw [if_neg h2]
        by_cases h3 : t = 3
        · simp [h3]
        · have e : (t != 3) = true := by simpa using h3
          simp [h2, h3, e]
    have htxe : (decide (t = 5) || (tx.toList == ([] : List UInt8))) = true := by
      rcases h5 with h | h
      · simp [h]
      · rw [h, tl_nil]; simp
    by_cases hw : t = 2 ∨ t = 3
    · obtain ⟨ws, hev, hl, ho⟩ := loop l3 a4 hs t I T (b == 0) tx (min l3.length 20) 0 [] (by omega) rfl rfl
      refine ⟨⟨t, I, T, b == 0, ws, tx⟩, hj1' (x := false) (Ev.step (f := fun k => federationlaw7_Make.l0 k l3 a4 ((0 : Nat) : Int) t I T (b == 0) ([] : List S40) tx) (fun k => ?_) hev) ?_, ?_, hI0.2, by dsimp only; omega⟩
      · simp only [federationlaw7_Make.j1]
        rw [if_neg (by decide), hb]
        rfl
      · rcases hw with h | h <;> simp [h]
      · unfold right head fin
        dsimp only
        rw [htxe, ho]
        rcases hw with h | h <;> simp [h, hI0.1, hT0, htx] <;> omega
    · refine ⟨⟨t, I, T, false, [], tx⟩, hj1' (x := true) (Ev.step (f := fun _ => some (t, I, T, false, ([] : List S40), tx)) (fun k => ?_) (Ev.now _)) ?_, ?_, hI0.2, by dsimp only; omega⟩
      · simp only [federationlaw7_Make.j1, if_true]
      · have h2 : ¬ t = 2 := fun h => hw (.inl h)
        have h3 : ¬ t = 3 := fun h => hw (.inr h)
        simp [h2, h3]
      · unfold right head fin
        dsimp only
        rw [htxe]
        simp [ht0, hI0.1, hT0, htx]
        omega
  have hf : ∀ k, federationlaw7_Make.f k a0 a1 a2 l3 a4 = if t = 5 then (if 0 ≤ mn (a4.size : Int) 40 then (if mn (a4.size : Int) 40 ≤ (a4.size : Int) then federationlaw7_Make.j0 k a2 l3 a4 t I T false (a4.extract 0 (mn (a4.size : Int) 40 : Int).toNat) else none) else none) else federationlaw7_Make.j0 k a2 l3 a4 t I T false (⟨#[]⟩ : ByteArray) := by
    intro k
    unfold federationlaw7_Make.f
    rw [ht, hu, hv, hj]
    simp only [Option.bind_some]
    rw [if_pos hj0, if_pos (by simp; omega), hT, hI]
    rfl
  by_cases h5 : t = 5
  · obtain ⟨c, e, h⟩ := key (a4.extract 0 (mn (a4.size : Int) 40 : Int).toNat) (by rw [ba_extract]; unfold mn; split <;> omega) (.inl h5)
    refine ⟨c, Ev.congr (fun k => ?_) e, h⟩
    rw [hf, if_pos h5, if_pos (by unfold mn; split <;> omega), if_pos (by unfold mn; split <;> omega)]
  · obtain ⟨c, e, h⟩ := key (⟨#[]⟩ : ByteArray) (by decide) (.inr rfl)
    refine ⟨c, Ev.congr (fun k => ?_) e, h⟩
    rw [hf, if_neg h5]
theorem Ev.succ {α : Type} {g : Nat → Option α} {r : α} (h : Ev (fun k => g (k + 1)) r) : Ev g r := Ev.step (fun _ => rfl) h
theorem ok2 {c : C} (hr : right c = true) (hi : c.id < 9223372036854775808) (ht : c.txn < 9223372036854775808) : Ok c 2 := ⟨by unfold may; rw [hr]; simp, hi, ht, .inr rfl⟩
theorem ok1 {c : C} (hr : right c = true) (hi : c.id < 9223372036854775808) (ht : c.txn < 9223372036854775808) (h5 : c.kind ≠ 5) : Ok c 1 := ⟨by unfold may; rw [hr]; simp [h5], hi, ht, .inl rfl⟩
end Go.Proofs.Ytagjmphkfeiiiaa.Ym
