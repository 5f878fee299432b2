/- One function's walk, or a law's, by the text that a program of this session prints; what each theorem says stands in it. -/
import Derived.Test.YtagjmphkfeiiiaaQx0
import Derived.Test.YtagjmphkfeiiiaaQx1
import Derived.Test.YtagjmphkfeiiiaaQx5
import Derived.Test.YtagjmphkfeiiiaaQx6
import Derived.Test.YtagjmphkfeiiiaaQx7
import Derived.Test.YtagjmphkfeiiiaaXs
namespace Go.Proofs.Ytagjmphkfeiiiaa.Q
open Go.RowKit Go.Proofs.YtagjmphkfeiiiaaW.PrintWords Go.Proofs.YtagjmphkfeiiiaaW.PrintLast Go.Proofs.YtagjmphkfeiiiaaW.PrintMore
attribute [local go_sem] min2_int min_two
set_option linter.unusedVariables false
set_option linter.unusedSimpArgs false
attribute [local go_sem high] eqA40
def own_new60.f (a0 : ByteArray) (a1 : Bool) : Option (ByteArray × Bool) := some (a0, a1)
def cmd_Decode.j0 : Nat → ByteArray → Int → Option (Int × Int × Int × Bool × (List (S40)) × ByteArray × Int × Bool)
  | 0, _, _ => none
  | k + 1, x0, x3 => if 1 ≤ (x0.size : Int) then ((own_new60.f (x0.extract 1 x0.size) false).bind fun bt325 => ((cmd_reader_command.f k bt325.1 bt325.2 x3).bind fun bt328 => ((cmd_Encode.f k bt328.1 bt328.2.1 bt328.2.2.1 bt328.2.2.2.1 bt328.2.2.2.2.1 bt328.2.2.2.2.2.1 x3).bind fun bt338 => (if bt328.2.2.2.2.2.2.2 = true then (some (0, 0, 0, false, ([] : List (S40)), (⟨#[]⟩ : ByteArray), 0, false)) else (if bt338.2 = true then (if bt338.1.toList = x0.toList then (if ([] : List (S40)).length + bt328.2.2.2.2.1.length < 3518437208883 then (some (bt328.1, bt328.2.1, bt328.2.2.1, bt328.2.2.2.1, (([] : List (S40)) ++ bt328.2.2.2.2.1), bt328.2.2.2.2.2.1, x3, true)) else (none)) else (some (0, 0, 0, false, ([] : List (S40)), (⟨#[]⟩ : ByteArray), 0, false))) else (some (0, 0, 0, false, ([] : List (S40)), (⟨#[]⟩ : ByteArray), 0, false))))))) else (none)
def cmd_Decode.f (k : Nat) (a0 : ByteArray) : Option (Int × Int × Int × Bool × (List (S40)) × ByteArray × Int × Bool) := (strings_HasPrefix.f a0 (⟨#[49]⟩ : ByteArray)).bind fun t323 => (if t323 = true then (cmd_Decode.j0 k a0 1) else ((strings_HasPrefix.f a0 (⟨#[50]⟩ : ByteArray)).bind fun t324 => (if t324 = true then (cmd_Decode.j0 k a0 2) else (some (0, 0, 0, false, ([] : List (S40)), (⟨#[]⟩ : ByteArray), 0, false)))))
theorem cmd_Decode.mono_l : ∀ k, (∀ y0 y1, LeO (cmd_Decode.j0 k y0 y1) (cmd_Decode.j0 (k + 1) y0 y1))
  | 0 => fun _ _ r h => by simp [cmd_Decode.j0] at h
  | k + 1 => by
    have ih0 := cmd_Decode.mono_l k
    · intro y0 y1
      unfold cmd_Decode.j0
      repeat' first
      | (with_reducible exact ih0 _ _)
      | (with_reducible exact cmd_Encode.mono _ _ _ _ _ _ _ _)
      | (with_reducible exact cmd_reader_command.mono _ _ _ _)
      | (with_reducible exact LeO.refl _)
      | (with_reducible exact LeO.none _)
      | (with_reducible refine LeO.ite ?_ ?_)
      | (with_reducible refine LeO.bind ?_ (fun _ => ?_))
theorem cmd_Decode.mono : ∀ a0 k, LeO (cmd_Decode.f k a0) (cmd_Decode.f (k + 1) a0) := by
  intro a0 k
  have ih0 := cmd_Decode.mono_l k
  unfold cmd_Decode.f
  repeat' first
      | (with_reducible exact ih0 _ _)
      | (with_reducible exact cmd_Encode.mono _ _ _ _ _ _ _ _)
      | (with_reducible exact cmd_reader_command.mono _ _ _ _)
      | (with_reducible exact LeO.refl _)
      | (with_reducible exact LeO.none _)
      | (with_reducible refine LeO.ite ?_ ?_)
      | (with_reducible refine LeO.bind ?_ (fun _ => ?_))
set_option maxHeartbeats 8000000 in
set_option maxRecDepth 100000 in
theorem cmd_Decode.calls (k : Nat) (a0 : ByteArray) (r1 : Int) (r2 : Int) (r3 : Int) (r4 : Bool) (r5 : List (S40)) (r6 : ByteArray) (r7 : Int) (r8 : Bool) (w : World) (h : cmd_Decode.f k a0 = some (r1, r2, r3, r4, r5, r6, r7, r8)) :
  Calls Try.prog 18 #[.string a0] w fun e w' => ∃ v4_ : Value, e = .returned (.tuple #[.agg #[.int .i64 r1, .int .i64 r2, .int .i64 r3, .bool r4, v4_, .string r6], .int .i64 r7, .bool r8]) ∧ Kd.R k40 40 w' w.heap.size (fun _ => True) v4_ r5 ∧ Below w.heap.size w w' := by
 have hu26 := Try.underlying26
 have HB := am (Below.refl w.heap.size w)
 have H : ((strings_HasPrefix.f a0 (⟨#[49]⟩ : ByteArray)).bind fun t323 => (if t323 = true then (cmd_Decode.j0 k a0 1) else ((strings_HasPrefix.f a0 (⟨#[50]⟩ : ByteArray)).bind fun t324 => (if t324 = true then (cmd_Decode.j0 k a0 2) else (some (0, 0, 0, false, ([] : List (S40)), (⟨#[]⟩ : ByteArray), 0, false)))))) = some (r1, r2, r3, r4, r5, r6, r7, r8) := h
 clear h
 have HC2 := am H
 clear H
 go_enter Try.func18, Try.ntmps18
 go_upto_block 0 with (first | ((with_reducible refine gate_dst (N := 2) rfl ?_); refine bx 2 26 (cs := #[.int .i64 0, .int .i64 0, .int .i64 0, .bool false, .slice none 0 0, .string (⟨#[]⟩ : ByteArray)]) ?_; intro gb322 hg w3 hbox hb; have n_ := z4 (below_step bel hb) (hbox) ((by rw [hg]; exact (below_size bel) : w.heap.size ≤ gb322)) ((by rw [hg]; exact (below_size bel) : w.heap.size ≤ gb322)); clear HB; obtain ⟨HB, BK322, GW322, GE322⟩ := n_; clear hb hbox hg))
 (try simp only [Act.put, List.setIfInBounds_toArray, List.set_cons_zero, List.set_cons_succ])
 go_cut [3] (fun v3 wc => ∃ (kq : Nat) (x3_1 : Int) (x323000_1 : Int) (x323001_1 : Int) (x323002_1 : Int) (x323003_1 : Bool) (x323005_1 : ByteArray), v3 = .int .i64 x3_1 ∧ Aside0 (cmd_Decode.j0 kq a0 x3_1 = some (r1, r2, r3, r4, r5, r6, r7, r8)) ∧ Aside0 (kq ≤ k) ∧ Aside0 (wc.heap[gb322]? = some (.cells #[.int .i64 x323000_1, .int .i64 x323001_1, .int .i64 x323002_1, .bool x323003_1, (.slice none 0 0), .string x323005_1] 26 (0, 0))) ∧ Aside0 (Below w.heap.size w wc))
 case first =>
  have H := HC2.out
  clear HC2
  replace H := Option.bind_eq_some_iff.mp H
  obtain ⟨t323, A40, H⟩ := H
  replace H : (if t323 = true then (cmd_Decode.j0 k a0 1) else ((strings_HasPrefix.f a0 (⟨#[50]⟩ : ByteArray)).bind fun t324 => (if t324 = true then (cmd_Decode.j0 k a0 2) else (some (0, 0, 0, false, ([] : List (S40)), (⟨#[]⟩ : ByteArray), 0, false))))) = some (r1, r2, r3, r4, r5, r6, r7, r8) := H
  have A4 := am A40
  clear A40
  by_cases c5 : t323 = true
  ·subst c5
   have H1 : (cmd_Decode.j0 k a0 1) = some (r1, r2, r3, r4, r5, r6, r7, r8) := by rw [if_pos rfl] at H; exact H
   clear H
   have H := H1
   clear H1
   have H' := am H
   clear H
   go_wp2_with (first | ((with_reducible refine gate_callee (f := 30) rfl ?_); refine goesL_ (some 11) rfl rfl Try.func30 (by kernel_rfl) rfl #[.string a0, .string (⟨#[49]⟩ : ByteArray)] rfl ar ?_; (with_reducible refine (strings_HasPrefix.calls a0 (⟨#[49]⟩ : ByteArray) true _ A4.out).mono ?_); rintro e w' ⟨rfl, ⟨nd, rfl⟩⟩; refine ⟨_, rfl, ?_⟩))
   go_meet
   case rel => exact ⟨_, (1), (0), (0), (0), (false), ((⟨#[]⟩ : ByteArray)), (by first | rfl | (simp; done) | (simp [*]; done)), H', ⟨by first | omega | exact Nat.le_refl _⟩, ⟨bk BK322.out⟩, ⟨bel⟩⟩
  ·replace c5 := Bool.eq_false_iff.mpr c5
   subst c5
   have H1 : ((strings_HasPrefix.f a0 (⟨#[50]⟩ : ByteArray)).bind fun t324 => (if t324 = true then (cmd_Decode.j0 k a0 2) else (some (0, 0, 0, false, ([] : List (S40)), (⟨#[]⟩ : ByteArray), 0, false)))) = some (r1, r2, r3, r4, r5, r6, r7, r8) := by rw [if_neg (show ¬ (false = true) by decide)] at H; exact H
   clear H
   have H := H1
   clear H1
   replace H := Option.bind_eq_some_iff.mp H
   obtain ⟨t324, A60, H⟩ := H
   replace H : (if t324 = true then (cmd_Decode.j0 k a0 2) else (some (0, 0, 0, false, ([] : List (S40)), (⟨#[]⟩ : ByteArray), 0, false))) = some (r1, r2, r3, r4, r5, r6, r7, r8) := H
   have A6 := am A60
   clear A60
   by_cases c7 : t324 = true
   ·subst c7
    have H1 : (cmd_Decode.j0 k a0 2) = some (r1, r2, r3, r4, r5, r6, r7, r8) := by rw [if_pos rfl] at H; exact H
    clear H
    have H := H1
    clear H1
    have H' := am H
    clear H
    go_wp2_with (first | ((with_reducible refine gate_callee (f := 30) rfl ?_); refine goesL_ (some 11) rfl rfl Try.func30 (by kernel_rfl) rfl #[.string a0, .string (⟨#[49]⟩ : ByteArray)] rfl ar ?_; (with_reducible refine (strings_HasPrefix.calls a0 (⟨#[49]⟩ : ByteArray) false _ A4.out).mono ?_); rintro e w' ⟨rfl, ⟨nd, rfl⟩⟩; refine ⟨_, rfl, ?_⟩) | ((with_reducible refine gate_callee (f := 30) rfl ?_); refine goesL_ (some 14) rfl rfl Try.func30 (by kernel_rfl) rfl #[.string a0, .string (⟨#[50]⟩ : ByteArray)] rfl ar ?_; (with_reducible refine (strings_HasPrefix.calls a0 (⟨#[50]⟩ : ByteArray) true _ A6.out).mono ?_); rintro e w' ⟨rfl, ⟨nd, rfl⟩⟩; refine ⟨_, rfl, ?_⟩))
    go_meet
    case rel => exact ⟨_, (2), (0), (0), (0), (false), ((⟨#[]⟩ : ByteArray)), (by first | rfl | (simp; done) | (simp [*]; done)), H', ⟨by first | omega | exact Nat.le_refl _⟩, ⟨bk BK322.out⟩, ⟨bel⟩⟩
   ·replace c7 := Bool.eq_false_iff.mpr c7
    subst c7
    have H1 : (some (0, 0, 0, false, ([] : List (S40)), (⟨#[]⟩ : ByteArray), 0, false)) = some (r1, r2, r3, r4, r5, r6, r7, r8) := by rw [if_neg (show ¬ (false = true) by decide)] at H; exact H
    clear H
    have H := H1
    clear H1
    simp only [Option.some.injEq, Prod.mk.injEq] at H
    obtain ⟨rfl, rfl, rfl, rfl, rfl, rfl, rfl, rfl⟩ := H
    go_wp2_with (first | ((with_reducible refine gate_callee (f := 30) rfl ?_); refine goesL_ (some 11) rfl rfl Try.func30 (by kernel_rfl) rfl #[.string a0, .string (⟨#[49]⟩ : ByteArray)] rfl ar ?_; (with_reducible refine (strings_HasPrefix.calls a0 (⟨#[49]⟩ : ByteArray) false _ A4.out).mono ?_); rintro e w' ⟨rfl, ⟨nd, rfl⟩⟩; refine ⟨_, rfl, ?_⟩; (try (rw [drewN_self w3]; generalize hq_ : World.drewN w3 _ = w3; have n0_ : Aside0 (w3.heap[gb322]? = some (.cells #[.int .i64 0, .int .i64 0, .int .i64 0, .bool false, .slice none 0 0, .string (⟨#[]⟩ : ByteArray)] 26 (0, 0))) := ⟨by rw [← hq_]; exact (bk BK322.out)⟩; have n1_ : Aside0 (Below w.heap.size w w3) := ⟨by rw [← hq_]; exact bel⟩; clear BK322 HB hq_; have BK322 := n0_; have HB := n1_; clear n0_ n1_))) | ((with_reducible refine gate_callee (f := 30) rfl ?_); refine goesL_ (some 14) rfl rfl Try.func30 (by kernel_rfl) rfl #[.string a0, .string (⟨#[50]⟩ : ByteArray)] rfl ar ?_; (with_reducible refine (strings_HasPrefix.calls a0 (⟨#[50]⟩ : ByteArray) false _ A6.out).mono ?_); rintro e w' ⟨rfl, ⟨nd, rfl⟩⟩; refine ⟨_, rfl, ?_⟩; (try (rw [drewN_self w3]; generalize hq_ : World.drewN w3 _ = w3; have n0_ : Aside0 (w3.heap[gb322]? = some (.cells #[.int .i64 0, .int .i64 0, .int .i64 0, .bool false, .slice none 0 0, .string (⟨#[]⟩ : ByteArray)] 26 (0, 0))) := ⟨by rw [← hq_]; exact (bk BK322.out)⟩; have n1_ : Aside0 (Below w.heap.size w w3) := ⟨by rw [← hq_]; exact bel⟩; clear BK322 HB hq_; have BK322 := n0_; have HB := n1_; clear n0_ n1_)); obtain ⟨hcz8_0, hcz8_1, hcz8_2, hcz8_3, hcz8_4, hcz8_5⟩ := cells6 BK322.out; obtain ⟨hfz8_0, hfz8_1, hfz8_2, hfz8_3, hfz8_4, hfz8_5⟩ := froz6 BK322.out))
    refine bodyPost_ret (results_ctt rfl _ _ gb322 26 #[.int .i64 0, .int .i64 0, .int .i64 0, .bool false, .slice none 0 0, .string (⟨#[]⟩ : ByteArray)] (0, 0) _ rfl (bp BK322.out) Try.underlying26 rfl (by kernel_rfl)) rfl ?_
    exact ⟨_, er, by first | exact Kd.R_nil _ _ _ _ _ | exact Kd.N_nil _ _ _ _ _ | exact Kd.V_nil _ _ _ _ _ | exact Kd.Q_nil _ _ _ _ _ | exact Kd.S_nil _ _ _ _ _, bel⟩
 case rest =>
  clear HC2
  try clear c1
  try clear p2
  try clear c3
  try clear c5
  try clear c7
  try clear hcz8_0 hcz8_1 hcz8_2 hcz8_3 hcz8_4 hcz8_5
  try clear hfz8_0 hfz8_1 hfz8_2 hfz8_3 hfz8_4 hfz8_5
  obtain ⟨kq, x3_1, x323000_1, x323001_1, x323002_1, x323003_1, x323005_1, rfl, HA, HJ1, BK322, HB⟩ := hcut
  cases kq with
  | zero => exact absurd HA.out (by simp [cmd_Decode.j0])
  | succ kj1 =>
   have H := HA.out
   clear HA
   simp only [cmd_Decode.j0] at H
   by_cases c9 : 1 ≤ (a0.size : Int)
   ·rw [if_pos c9] at H
    have c9b0 := eq_true c9
    have c9b1 : decide (1 ≤ (a0.size : Int)) = true := decide_eq_true c9
    clear c9
    replace H := Option.bind_eq_some_iff.mp H
    obtain ⟨⟨t325, t326⟩, A100, H⟩ := H
    replace H : ((cmd_reader_command.f kj1 t325 t326 x3_1).bind fun bt328 => ((cmd_Encode.f kj1 bt328.1 bt328.2.1 bt328.2.2.1 bt328.2.2.2.1 bt328.2.2.2.2.1 bt328.2.2.2.2.2.1 x3_1).bind fun bt338 => (if bt328.2.2.2.2.2.2.2 = true then (some (0, 0, 0, false, ([] : List (S40)), (⟨#[]⟩ : ByteArray), 0, false)) else (if bt338.2 = true then (if bt338.1.toList = a0.toList then (if ([] : List (S40)).length + bt328.2.2.2.2.1.length < 3518437208883 then (some (bt328.1, bt328.2.1, bt328.2.2.1, bt328.2.2.2.1, (([] : List (S40)) ++ bt328.2.2.2.2.1), bt328.2.2.2.2.2.1, x3_1, true)) else (none)) else (some (0, 0, 0, false, ([] : List (S40)), (⟨#[]⟩ : ByteArray), 0, false))) else (some (0, 0, 0, false, ([] : List (S40)), (⟨#[]⟩ : ByteArray), 0, false)))))) = some (r1, r2, r3, r4, r5, r6, r7, r8) := H
    have A10 := am A100
    clear A100
    replace H := Option.bind_eq_some_iff.mp H
    obtain ⟨⟨t328, t329, t330, t331, t332, t335, t336, t337⟩, A110, H⟩ := H
    replace H : ((cmd_Encode.f kj1 t328 t329 t330 t331 t332 t335 x3_1).bind fun bt338 => (if t337 = true then (some (0, 0, 0, false, ([] : List (S40)), (⟨#[]⟩ : ByteArray), 0, false)) else (if bt338.2 = true then (if bt338.1.toList = a0.toList then (if ([] : List (S40)).length + t332.length < 3518437208883 then (some (t328, t329, t330, t331, (([] : List (S40)) ++ t332), t335, x3_1, true)) else (none)) else (some (0, 0, 0, false, ([] : List (S40)), (⟨#[]⟩ : ByteArray), 0, false))) else (some (0, 0, 0, false, ([] : List (S40)), (⟨#[]⟩ : ByteArray), 0, false))))) = some (r1, r2, r3, r4, r5, r6, r7, r8) := H
    have A11 := am A110
    clear A110
    replace H := Option.bind_eq_some_iff.mp H
    obtain ⟨⟨t338, t339⟩, A120, H⟩ := H
    replace H : (if t337 = true then (some (0, 0, 0, false, ([] : List (S40)), (⟨#[]⟩ : ByteArray), 0, false)) else (if t339 = true then (if t338.toList = a0.toList then (if ([] : List (S40)).length + t332.length < 3518437208883 then (some (t328, t329, t330, t331, (([] : List (S40)) ++ t332), t335, x3_1, true)) else (none)) else (some (0, 0, 0, false, ([] : List (S40)), (⟨#[]⟩ : ByteArray), 0, false))) else (some (0, 0, 0, false, ([] : List (S40)), (⟨#[]⟩ : ByteArray), 0, false)))) = some (r1, r2, r3, r4, r5, r6, r7, r8) := H
    have A12 := am A120
    clear A120
    go_upto_region 9 with (first | ((with_reducible refine gate_dst (N := 18) rfl ?_); refine bx 18 60 (cs := #[.string (a0.extract 1 a0.size), .bool false]) ?_; intro g327 hg_ w14 hbox_ hb2; have hb := below_step bel hb2; have hi : IsS60 w _ g327 t325 t326 := (by have ea_ := A10.out; simp only [own_new60.f, Option.some.injEq, Prod.mk.injEq] at ea_; rw [← ea_.1, ← ea_.2]; exact ⟨hbox_, by rw [hg_]; exact below_size bel⟩); clear hg_ hbox_; have n_ := z5 (blk_below (bk BK322.out) hb2) (hb) (hi) (IsS60.ne_blk hi (blk_below (bk BK322.out) hb2) (by decide)) (Ne.symm (IsS60.ne_blk hi (blk_below (bk BK322.out) hb2) (by decide))); clear BK322 HB; obtain ⟨BK322, HB, HI327, NB327_322, NB322_327⟩ := n_; (try clear hb); (try clear hb2); (try clear hk); (try clear hi)) | ((with_reducible refine gate_callee (f := 31) rfl ?_); refine goesL_ (some 21) rfl rfl Try.func31 (by kernel_rfl) rfl #[.pointer (some ⟨g327, 0, none⟩), .int .i64 x3_1] rfl ar ?_; (with_reducible refine (cmd_reader_command.calls kj1 g327 t325 t326 x3_1 t328 t329 t330 t331 t332 t335 t336 t337 w _ ?side1 ?side2 A11.out).mono ?_); (case side1 => repeat (first | (with_reducible first | exact HI327.out | apply IsS60.alloc | apply IsS60.drewN | apply IsS60.drew | apply IsS60.set_0 | apply IsS60.set_1 | refine IsS60.far ?_ NB327_322.out _) | exact HI327.out)); (case side2 => repeat (first | (with_reducible first | exact HB.out | apply below_alloc | apply pw_below_drewN | apply below_drew1 | refine below_set ?_ (IsS60.ge HI327.out) | refine below_set ?_ GE322.out) | exact HB.out)); rintro e w15 ⟨v333, rfl, ho0, hi, hb, hk⟩; refine ⟨_, rfl, ?_⟩; have n_ := z4 (KeepBut.blk hk (g' := gb322) (o := .cells #[.int .i64 x323000_1, .int .i64 x323001_1, .int .i64 x323002_1, .bool x323003_1, .slice none 0 0, .string x323005_1] 26 (0, 0)) (bk BK322.out) NB322_327.out (by simp)) (Kd.R_lower ho0 (below_size (by repeat (first | (with_reducible first | exact HB.out | apply below_alloc | apply pw_below_drewN | apply below_drew1 | refine below_set ?_ (IsS60.ge HI327.out) | refine below_set ?_ GE322.out) | exact HB.out)))) (hb) (hi); clear BK322 HB HI327; obtain ⟨BK322, HO334, HB, HI327⟩ := n_; (try clear hb); (try clear hb2); (try clear hk); (try clear hi); (try clear ho0); have hnb16 := NB322_327.out; have hnc16 := NB327_322.out; obtain ⟨hcz17_0, hcz17_1, hcz17_2, hcz17_3, hcz17_4, hcz17_5⟩ := cells6 BK322.out; obtain ⟨hfz17_0, hfz17_1, hfz17_2, hfz17_3, hfz17_4, hfz17_5⟩ := froz6 BK322.out; obtain ⟨Ao18, co18, eo18⟩ := Kd.R_slice HO334.out; subst eo18) | ((with_reducible refine gate_callee (f := 16) rfl ?_); refine goesL_ (some 25) rfl rfl Try.func16 (by kernel_rfl) rfl #[.agg #[.int .i64 t328, .int .i64 t329, .int .i64 t330, .bool t331, .slice Ao18 t332.length co18, .string t335], .int .i64 x3_1] rfl ar ?_; (with_reducible refine (cmd_Encode.calls kj1 t328 t329 t330 t331 _ _ t332 t335 x3_1 t338 t339 _ ?side1 ?side2 A12.out).mono ?_); (case side1 => refine (Kd.R_reads' (e := 40) (base := w.heap.size) (ok := fun k_ => True) (n := t332.length) (c := co18) ?_).2.2; exact (by (with_reducible repeat (first | apply Kd.R_alloc | apply Kd.R_drewN | apply Kd.R_drew)); exact (Kd.R_mono (Kd.R_far (p := ⟨gb322, 5, none⟩) (Kd.R_far (p := ⟨gb322, 4, none⟩) (Kd.R_far (p := ⟨gb322, 3, none⟩) (Kd.R_far (p := ⟨gb322, 2, none⟩) (Kd.R_far (p := ⟨gb322, 1, none⟩) (Kd.R_far (p := ⟨gb322, 0, none⟩) (Kd.R_types HO334.out BK322.out (by decide)) (fun _ hk => hk.2) (.int .i64 t328)) (fun _ hk => hk.2) (.int .i64 t329)) (fun _ hk => hk.2) (.int .i64 t330)) (fun _ hk => hk.2) (.bool t331)) (fun _ hk => hk.2) (.slice Ao18 t332.length co18)) (fun _ hk => hk.2) (.string t335)) (fun _ h_ => h_.1)))); (case side2 => exact (Kd.R_reads' HO334.out).2.1); rintro e w19 ⟨rfl, hb⟩; refine ⟨_, rfl, ?_⟩; have n_ := z4 (Kd.R_below (by (with_reducible repeat (first | apply Kd.R_alloc | apply Kd.R_drewN | apply Kd.R_drew)); exact (Kd.R_mono (Kd.R_far (p := ⟨gb322, 5, none⟩) (Kd.R_far (p := ⟨gb322, 4, none⟩) (Kd.R_far (p := ⟨gb322, 3, none⟩) (Kd.R_far (p := ⟨gb322, 2, none⟩) (Kd.R_far (p := ⟨gb322, 1, none⟩) (Kd.R_far (p := ⟨gb322, 0, none⟩) (Kd.R_types HO334.out BK322.out (by decide)) (fun _ hk => hk.2) (.int .i64 t328)) (fun _ hk => hk.2) (.int .i64 t329)) (fun _ hk => hk.2) (.int .i64 t330)) (fun _ hk => hk.2) (.bool t331)) (fun _ hk => hk.2) (.slice Ao18 t332.length co18)) (fun _ hk => hk.2) (.string t335)) (fun _ h_ => h_.1))) hb) (blk_below (g := gb322) (o := .cells #[.int .i64 t328, .int .i64 t329, .int .i64 t330, .bool t331, .slice Ao18 t332.length co18, .string t335] 26 (0, 0)) (bp BK322.out) hb) (IsS60.below (show IsS60 w ((((((w15.setCell ⟨gb322, 0, none⟩ (.int .i64 t328)).setCell ⟨gb322, 1, none⟩ (.int .i64 t329)).setCell ⟨gb322, 2, none⟩ (.int .i64 t330)).setCell ⟨gb322, 3, none⟩ (.bool t331)).setCell ⟨gb322, 4, none⟩ (.slice Ao18 t332.length co18)).setCell ⟨gb322, 5, none⟩ (.string t335)) g327 t336 t337 from by repeat (first | (with_reducible first | exact HI327.out | apply IsS60.alloc | apply IsS60.drewN | apply IsS60.drew | apply IsS60.set_0 | apply IsS60.set_1 | refine IsS60.far ?_ NB327_322.out _) | exact HI327.out)) hb) (below_step (by repeat (first | (with_reducible first | exact HB.out | apply below_alloc | apply pw_below_drewN | apply below_drew1 | refine below_set ?_ (IsS60.ge HI327.out) | refine below_set ?_ GE322.out) | exact HB.out)) hb); clear HO334 BK322 HI327 HB; obtain ⟨HO334, BK322, HI327, HB⟩ := n_; (try clear hb); (try clear hb2); (try clear hk); (try clear hi); obtain ⟨HGz20, hgz20⟩ := HI327.out; have hcz20_0 := cellS60_0 HGz20; have hcz20_1 := cellS60_1 HGz20; have hfz20_0 := blk_frozen HGz20 0; have hfz20_1 := blk_frozen HGz20 1; clear HGz20 hgz20; obtain ⟨hcz21_0, hcz21_1, hcz21_2, hcz21_3, hcz21_4, hcz21_5⟩ := cells6 BK322.out; obtain ⟨hfz21_0, hfz21_1, hfz21_2, hfz21_3, hfz21_4, hfz21_5⟩ := froz6 BK322.out))
    by_cases c13 : t337 = true
    ·subst c13
     have H1 : (some (0, 0, 0, false, ([] : List (S40)), (⟨#[]⟩ : ByteArray), 0, false)) = some (r1, r2, r3, r4, r5, r6, r7, r8) := by rw [if_pos rfl] at H; exact H
     clear H
     have H := H1
     clear H1
     simp only [Option.some.injEq, Prod.mk.injEq] at H
     obtain ⟨rfl, rfl, rfl, rfl, rfl, rfl, rfl, rfl⟩ := H
     go_wp2
     refine bodyPost_ret (results_ctt rfl _ _ gb322 26 #[.int .i64 0, .int .i64 0, .int .i64 0, .bool false, .slice none 0 0, .string (⟨#[]⟩ : ByteArray)] (0, 0) _ rfl (bp BK322.out) Try.underlying26 rfl (by kernel_rfl)) rfl ?_
     exact ⟨_, er, by first | exact Kd.R_nil _ _ _ _ _ | exact Kd.N_nil _ _ _ _ _ | exact Kd.V_nil _ _ _ _ _ | exact Kd.Q_nil _ _ _ _ _ | exact Kd.S_nil _ _ _ _ _, by repeat (first | (with_reducible first | exact HB.out | apply below_alloc | apply pw_below_drewN | apply below_drew1 | refine below_set ?_ (IsS60.ge HI327.out) | refine below_set ?_ GE322.out) | exact HB.out)⟩
    ·replace c13 := Bool.eq_false_iff.mpr c13
     subst c13
     have H1 : (if t339 = true then (if t338.toList = a0.toList then (if ([] : List (S40)).length + t332.length < 3518437208883 then (some (t328, t329, t330, t331, (([] : List (S40)) ++ t332), t335, x3_1, true)) else (none)) else (some (0, 0, 0, false, ([] : List (S40)), (⟨#[]⟩ : ByteArray), 0, false))) else (some (0, 0, 0, false, ([] : List (S40)), (⟨#[]⟩ : ByteArray), 0, false))) = some (r1, r2, r3, r4, r5, r6, r7, r8) := by rw [if_neg (show ¬ (false = true) by decide)] at H; exact H
     clear H
     have H := H1
     clear H1
     by_cases c22 : t339 = true
     ·subst c22
      have H1 : (if t338.toList = a0.toList then (if ([] : List (S40)).length + t332.length < 3518437208883 then (some (t328, t329, t330, t331, (([] : List (S40)) ++ t332), t335, x3_1, true)) else (none)) else (some (0, 0, 0, false, ([] : List (S40)), (⟨#[]⟩ : ByteArray), 0, false))) = some (r1, r2, r3, r4, r5, r6, r7, r8) := by rw [if_pos rfl] at H; exact H
      clear H
      have H := H1
      clear H1
      by_cases c23 : t338.toList = a0.toList
      ·rw [if_pos c23] at H
       have c23b0 : (t338.toList == a0.toList) = true := beq_iff_eq.mpr c23
       have c23b1 : (t338.toList != a0.toList) = false := bne_eq_false_iff_eq.mpr c23
       clear c23
       by_cases c24 : ([] : List (S40)).length + t332.length < 3518437208883
       ·rw [if_pos c24] at H
        have LMc24 := am c24
        clear c24
        obtain ⟨y340, hy340⟩ : ∃ y_ : List (S40), y_ = (([] : List (S40)) ++ t332) := ⟨_, rfl⟩
        replace H : (some (t328, t329, t330, t331, y340, t335, x3_1, true)) = some (r1, r2, r3, r4, r5, r6, r7, r8) := by first | (rw [hy340]; with_reducible exact H) | (have H2_ := (Option.bind_some _ _).symm.trans H; rw [hy340]; with_reducible exact H2_) | (have H2_ := (Option.bind_some _ _).symm.trans H; with_reducible exact H2_) | with_reducible exact H | (rw [hy340]; exact H) | exact H
        have Ny340 := am hy340
        clear hy340
        simp only [Option.some.injEq, Prod.mk.injEq] at H
        obtain ⟨rfl, rfl, rfl, rfl, rfl, rfl, rfl, rfl⟩ := H
        go_wp2_with (first | ((with_reducible refine gate_builtin (b := .append) (xs := #[.const (.slice none 0 0), .tmp 43]) rfl ?_); at_builtin; refine Kd.R_append_rows k40 (w0 := w) w.heap.size rfl (.const (.slice none 0 0)) (.tmp 43) 24 40 (.agg #[(.string ⟨#[]⟩), (.string ⟨#[]⟩), (.bool false)]) 40 rfl Try.underlying24 info40 rfl (by decide) (by omega) (.slice none 0 0) ([] : List (S40)) t332 _ _ _ (fun k_ => some k_ ≠ (.slice Ao18 t332.length co18 : Value).ownBlock) (fun _ => False) rfl rfl ?aO ?aR (fun _ _ h => h) (fun _ h => h.elim) ?aF ?aB ?aS ?aL ?_; (case aR => repeat (first | exact (Kd.R_reads' HO334.out).2.2 | (with_reducible refine Kd.C_alloc ?_ _) | (with_reducible refine Kd.C_drewN ?_ _) | (with_reducible refine Kd.C_drew ?_))); (case aB => exact (by repeat (first | (with_reducible first | exact HB.out | apply below_alloc | apply pw_below_drewN | apply below_drew1 | refine below_set ?_ (IsS60.ge HI327.out) | refine below_set ?_ GE322.out) | exact HB.out))); (case aF => exact (fun k_ hk => Kd.fresh' (Kd.R_lt (kr HO334.out)) k_ hk)); (case aO => exact ((Kd.R_nil _ _ _ _ (fun k_ => some k_ ≠ (.slice Ao18 t332.length co18 : Value).ownBlock)))); (case aS => exact (below_size (by repeat (first | (with_reducible first | exact HB.out | apply below_alloc | apply pw_below_drewN | apply below_drew1 | refine below_set ?_ (IsS60.ge HI327.out) | refine below_set ?_ GE322.out) | exact HB.out)))); (case aL => have := LMc24.out; omega); intro v341 w33 ho hb hg hat; rw [← Ny340.out] at ho; have n_ := z5 (blk_grown (bk BK322.out) hg (by simp [Value.ownBlock])) (IsS60.grown (by repeat (first | (with_reducible first | exact HI327.out | apply IsS60.alloc | apply IsS60.drewN | apply IsS60.drew | apply IsS60.set_0 | apply IsS60.set_1 | refine IsS60.far ?_ NB327_322.out _) | exact HI327.out)) hg (by simp [Value.ownBlock])) (Kd.R_after (Kd.R_apart_nil (kr HO334.out)) hg hat) (hb) (ho); clear BK322 HI327 HO334 HB; obtain ⟨BK322, HI327, HO334, HB, HO342⟩ := n_; clear ho hb hg hat; obtain ⟨Ao34, co34, eo34⟩ := Kd.R_slice HO342.out; subst eo34; obtain ⟨hcz35_0, hcz35_1, hcz35_2, hcz35_3, hcz35_4, hcz35_5⟩ := cells6 BK322.out; obtain ⟨hfz35_0, hfz35_1, hfz35_2, hfz35_3, hfz35_4, hfz35_5⟩ := froz6 BK322.out))
        refine bodyPost_ret (results_ctt rfl _ _ gb322 26 #[.int .i64 t328, .int .i64 t329, .int .i64 t330, .bool t331, .slice Ao34 y340.length co34, .string t335] (0, 0) _ rfl (bp BK322.out) Try.underlying26 rfl (by kernel_rfl)) rfl ?_
        exact ⟨_, er, by (with_reducible repeat (first | apply Kd.R_alloc | apply Kd.R_drewN | apply Kd.R_drew)); exact Kd.R_mono (Kd.R_far (p := ⟨gb322, 5, none⟩) (Kd.R_far (p := ⟨gb322, 4, none⟩) (Kd.R_far (p := ⟨gb322, 3, none⟩) (Kd.R_far (p := ⟨gb322, 2, none⟩) (Kd.R_far (p := ⟨gb322, 1, none⟩) (Kd.R_far (p := ⟨gb322, 0, none⟩) (Kd.R_far (p := ⟨gb322, 4, none⟩) (Kd.R_types HO342.out BK322.out (by decide)) (fun _ hk => hk.2) (.slice Ao34 y340.length co34)) (fun _ hk => hk.2) (.int .i64 t328)) (fun _ hk => hk.2) (.int .i64 t329)) (fun _ hk => hk.2) (.int .i64 t330)) (fun _ hk => hk.2) (.bool t331)) (fun _ hk => hk.2) (.slice Ao34 y340.length co34)) (fun _ hk => hk.2) (.string t335)) (fun _ hk => trivial), by repeat (first | (with_reducible first | exact HB.out | apply below_alloc | apply pw_below_drewN | apply below_drew1 | refine below_set ?_ (IsS60.ge HI327.out) | refine below_set ?_ GE322.out) | exact HB.out)⟩
       ·rw [if_neg c24] at H
        exact absurd H (by simp)
      ·rw [if_neg c23] at H
       have c23b0 : (t338.toList == a0.toList) = false := beq_eq_false_iff_ne.mpr c23
       have c23b1 : (t338.toList != a0.toList) = true := bne_iff_ne.mpr c23
       simp only [Option.some.injEq, Prod.mk.injEq] at H
       obtain ⟨rfl, rfl, rfl, rfl, rfl, rfl, rfl, rfl⟩ := H
       go_wp2
       refine bodyPost_ret (results_ctt rfl _ _ gb322 26 #[.int .i64 0, .int .i64 0, .int .i64 0, .bool false, .slice none 0 0, .string (⟨#[]⟩ : ByteArray)] (0, 0) _ rfl (bp BK322.out) Try.underlying26 rfl (by kernel_rfl)) rfl ?_
       exact ⟨_, er, by first | exact Kd.R_nil _ _ _ _ _ | exact Kd.N_nil _ _ _ _ _ | exact Kd.V_nil _ _ _ _ _ | exact Kd.Q_nil _ _ _ _ _ | exact Kd.S_nil _ _ _ _ _, by repeat (first | (with_reducible first | exact HB.out | apply below_alloc | apply pw_below_drewN | apply below_drew1 | refine below_set ?_ (IsS60.ge HI327.out) | refine below_set ?_ GE322.out) | exact HB.out)⟩
     ·replace c22 := Bool.eq_false_iff.mpr c22
      subst c22
      have H1 : (some (0, 0, 0, false, ([] : List (S40)), (⟨#[]⟩ : ByteArray), 0, false)) = some (r1, r2, r3, r4, r5, r6, r7, r8) := by rw [if_neg (show ¬ (false = true) by decide)] at H; exact H
      clear H
      have H := H1
      clear H1
      simp only [Option.some.injEq, Prod.mk.injEq] at H
      obtain ⟨rfl, rfl, rfl, rfl, rfl, rfl, rfl, rfl⟩ := H
      go_wp2
      refine bodyPost_ret (results_ctt rfl _ _ gb322 26 #[.int .i64 0, .int .i64 0, .int .i64 0, .bool false, .slice none 0 0, .string (⟨#[]⟩ : ByteArray)] (0, 0) _ rfl (bp BK322.out) Try.underlying26 rfl (by kernel_rfl)) rfl ?_
      exact ⟨_, er, by first | exact Kd.R_nil _ _ _ _ _ | exact Kd.N_nil _ _ _ _ _ | exact Kd.V_nil _ _ _ _ _ | exact Kd.Q_nil _ _ _ _ _ | exact Kd.S_nil _ _ _ _ _, by repeat (first | (with_reducible first | exact HB.out | apply below_alloc | apply pw_below_drewN | apply below_drew1 | refine below_set ?_ (IsS60.ge HI327.out) | refine below_set ?_ GE322.out) | exact HB.out)⟩
   ·rw [if_neg c9] at H
    exact absurd H (by simp)
def federationref7_Writes.l0 : Nat → List (S40) → List (S40) → Int → Option (Bool)
  | 0, _, _, _ => none
  | k + 1, x0, x1, x5 => if x5 < (x0.length : Int) then (if 0 ≤ x5 then (if x5 < (x1.length : Int) then (if (!((((rd_T40 x0 x5).f0).toList) == (((rd_T40 x1 x5).f0).toList)) || (!((((rd_T40 x0 x5).f1).toList) == (((rd_T40 x1 x5).f1).toList)) || (!(((rd_T40 x0 x5).f2) == ((rd_T40 x1 x5).f2))))) = true then (some false) else (federationref7_Writes.l0 k x0 x1 (wrap64 (x5 + 1)))) else (none)) else (none)) else (some true)
def federationref7_Writes.f (k : Nat) (l0 : List (S40)) (l1 : List (S40)) : Option (Bool) := if (l0.length : Int) = (l1.length : Int) then (federationref7_Writes.l0 k l0 l1 0) else (some false)
theorem federationref7_Writes.mono_l : ∀ k, (∀ y0 y1 y2, LeO (federationref7_Writes.l0 k y0 y1 y2) (federationref7_Writes.l0 (k + 1) y0 y1 y2))
  | 0 => fun _ _ _ r h => by simp [federationref7_Writes.l0] at h
  | k + 1 => by
    have ih0 := federationref7_Writes.mono_l k
    · intro y0 y1 y2
      unfold federationref7_Writes.l0
      repeat' first
      | (with_reducible exact ih0 _ _ _)
      | (with_reducible exact LeO.refl _)
      | (with_reducible exact LeO.none _)
      | (with_reducible refine LeO.ite ?_ ?_)
      | (with_reducible refine LeO.bind ?_ (fun _ => ?_))
theorem federationref7_Writes.mono : ∀ a0 a1 k, LeO (federationref7_Writes.f k a0 a1) (federationref7_Writes.f (k + 1) a0 a1) := by
  intro a0 a1 k
  have ih0 := federationref7_Writes.mono_l k
  unfold federationref7_Writes.f
  repeat' first
      | (with_reducible exact ih0 _ _ _)
      | (with_reducible exact LeO.refl _)
      | (with_reducible exact LeO.none _)
      | (with_reducible refine LeO.ite ?_ ?_)
      | (with_reducible refine LeO.bind ?_ (fun _ => ?_))
set_option maxHeartbeats 8000000 in
set_option maxRecDepth 100000 in
theorem federationref7_Writes.calls (k : Nat) (A0 : Option Addr) (c0 : Nat) (l0 : List (S40)) (A1 : Option Addr) (c1 : Nat) (l1 : List (S40)) (r : Bool) (w : World) (hr0 : Kd.C k40 w A0 l0.length l0) (hc0 : l0.length ≤ c0) (hr1 : Kd.C k40 w A1 l1.length l1) (hc1 : l1.length ≤ c1) (h : federationref7_Writes.f k l0 l1 = some r) :
  Calls Try.prog 32 #[.slice A0 l0.length c0, .slice A1 l1.length c1] w fun e w' => e = .returned (.bool r) ∧ Drawn0 w w' := by
 have hu40 := Try.underlying40
 have HR0 := am hr0
 have HC0 := am hc0
 clear hr0 hc0
 have HR1 := am hr1
 have HC1 := am hc1
 clear hr1 hc1
 have H : (if (l0.length : Int) = (l1.length : Int) then (federationref7_Writes.l0 k l0 l1 0) else (some false)) = some r := h
 clear h
 by_cases c3 : (l0.length : Int) = (l1.length : Int)
 ·rw [if_pos c3] at H
  have c3b0 : ((l0.length : Int) == (l1.length : Int)) = true := beq_iff_eq.mpr c3
  have c3b1 : ((l0.length : Int) != (l1.length : Int)) = false := bne_eq_false_iff_eq.mpr c3
  have c3b2 : (l0.length == l1.length) = true := by first | simpa using c3 | (simp at c3 ⊢; omega)
  clear c3
  have H' := am H
  clear H
  go_enter Try.func32, Try.ntmps32
  go_wp2
  repeat (go_quiet (fail); try go_wp2)
  go_loopg [5] k (fun kq v5 w' => ∃ (x5_1 : Int), v5 = .int .i64 x5_1 ∧ Aside0 (federationref7_Writes.l0 kq l0 l1 x5_1 = some r) ∧ Aside0 (kq ≤ k) ∧ Drawn0 w w')
  case atStart => exact ⟨(0), (by first | rfl | (simp; done) | (simp [*]; done)), H', ⟨Nat.le_refl _⟩, by repeat (first | exact Drawn0.refl _ | apply Drawn0.step)⟩
  case round =>
   clear H'
   try clear c1
   try clear p2
   try clear c3
   try clear c3b0
   try clear c3b1
   try clear c3b2
   obtain ⟨x5_1, rfl, HA, HK1, ⟨m1, rfl⟩⟩ := hrel
   cases gk with
   | zero => exact absurd HA.out (by simp [federationref7_Writes.l0])
   | succ k1 =>
    have H := HA.out
    clear HA
    simp only [federationref7_Writes.l0] at H
    by_cases c4 : x5_1 < (l0.length : Int)
    ·rw [if_pos c4] at H
     have c4b0 : decide (x5_1 < (l0.length : Int)) = true := decide_eq_true c4
     clear c4
     by_cases c5 : 0 ≤ x5_1
     ·rw [if_pos c5] at H
      have c5b0 : decide (0 ≤ x5_1) = true := decide_eq_true c5
      clear c5
      by_cases c6 : x5_1 < (l1.length : Int)
      ·rw [if_pos c6] at H
       have c6b0 : decide (x5_1 < (l1.length : Int)) = true := decide_eq_true c6
       clear c6
       by_cases c7 : (!((((rd_T40 l0 x5_1).f0).toList) == (((rd_T40 l1 x5_1).f0).toList)) || (!((((rd_T40 l0 x5_1).f1).toList) == (((rd_T40 l1 x5_1).f1).toList)) || (!(((rd_T40 l0 x5_1).f2) == ((rd_T40 l1 x5_1).f2))))) = true
       ·rw [if_pos c7] at H
        have c7b0 : (!((((rd_T40 l0 x5_1).f0).toList) == (((rd_T40 l1 x5_1).f0).toList)) || (!((((rd_T40 l0 x5_1).f1).toList) == (((rd_T40 l1 x5_1).f1).toList)) || (!(((rd_T40 l0 x5_1).f2) == ((rd_T40 l1 x5_1).f2))))) = true := c7
        clear c7
        obtain rfl := Option.some.inj H
        have p343 : 0 ≤ (x5_1 : Int) := of_decide_eq_true (by first | (with_reducible assumption) | assumption)
        have q343 : x5_1 < (l0.length : Int) := of_decide_eq_true (by first | (with_reducible assumption) | assumption)
        obtain ⟨ad343, e343, hx343_0, hx343_1, hx343_2⟩ := at_T40 HR0.out x5_1 p343 q343
        cases e343
        replace p343 := eq_true p343
        replace q343 := eq_true q343
        have p344 : 0 ≤ (x5_1 : Int) := of_decide_eq_true (by first | (with_reducible assumption) | assumption)
        have q344 : x5_1 < (l1.length : Int) := of_decide_eq_true (by first | (with_reducible assumption) | assumption)
        obtain ⟨ad344, e344, hx344_0, hx344_1, hx344_2⟩ := at_T40 HR1.out x5_1 p344 q344
        cases e344
        replace p344 := eq_true p344
        replace q344 := eq_true q344
        go_wp2
        repeat (go_quiet (fail); try go_wp2)
        go_ret
        exact ⟨by first | rfl | (simp; done) | (simp [*]; done), by repeat (first | exact Drawn0.refl _ | apply Drawn0.step)⟩
       ·rw [if_neg c7] at H
        have c7b0 : (!((((rd_T40 l0 x5_1).f0).toList) == (((rd_T40 l1 x5_1).f0).toList)) || (!((((rd_T40 l0 x5_1).f1).toList) == (((rd_T40 l1 x5_1).f1).toList)) || (!(((rd_T40 l0 x5_1).f2) == ((rd_T40 l1 x5_1).f2))))) = false := by simpa using c7
        clear c7
        have H' := am H
        clear H
        have p343 : 0 ≤ (x5_1 : Int) := of_decide_eq_true (by first | (with_reducible assumption) | assumption)
        have q343 : x5_1 < (l0.length : Int) := of_decide_eq_true (by first | (with_reducible assumption) | assumption)
        obtain ⟨ad343, e343, hx343_0, hx343_1, hx343_2⟩ := at_T40 HR0.out x5_1 p343 q343
        cases e343
        replace p343 := eq_true p343
        replace q343 := eq_true q343
        have p344 : 0 ≤ (x5_1 : Int) := of_decide_eq_true (by first | (with_reducible assumption) | assumption)
        have q344 : x5_1 < (l1.length : Int) := of_decide_eq_true (by first | (with_reducible assumption) | assumption)
        obtain ⟨ad344, e344, hx344_0, hx344_1, hx344_2⟩ := at_T40 HR1.out x5_1 p344 q344
        cases e344
        replace p344 := eq_true p344
        replace q344 := eq_true q344
        go_wp2
        repeat (go_quiet (fail); try go_wp2)
        go_roundg k1
        case measure => have := HK1.out; omega
        case rel => exact ⟨(wrap64 (x5_1 + 1)), (by first | rfl | (simp; done) | (simp [*]; done)), H', ⟨by have := HK1.out; omega⟩, by repeat (first | exact Drawn0.refl _ | apply Drawn0.step)⟩
      ·rw [if_neg c6] at H
       exact absurd H (by simp)
     ·rw [if_neg c5] at H
      exact absurd H (by simp)
    ·rw [if_neg c4] at H
     have c4b0 : decide (x5_1 < (l0.length : Int)) = false := decide_eq_false c4
     clear c4
     obtain rfl := Option.some.inj H
     go_wp2
     repeat (go_quiet (fail); try go_wp2)
     go_ret
     exact ⟨by first | rfl | (simp; done) | (simp [*]; done), by repeat (first | exact Drawn0.refl _ | apply Drawn0.step)⟩
 ·rw [if_neg c3] at H
  have c3b0 : ((l0.length : Int) == (l1.length : Int)) = false := beq_eq_false_iff_ne.mpr c3
  have c3b1 : ((l0.length : Int) != (l1.length : Int)) = true := bne_iff_ne.mpr c3
  have c3b2 : (l0.length == l1.length) = false := by first | simpa using c3 | (simp at c3 ⊢; omega)
  obtain rfl := Option.some.inj H
  go_enter Try.func32, Try.ntmps32
  go_wp2
  repeat (go_quiet (fail); try go_wp2)
  go_ret
  exact ⟨by first | rfl | (simp; done) | (simp [*]; done), by repeat (first | exact Drawn0.refl _ | apply Drawn0.step)⟩
def federationref7_Same.f (k : Nat) (a0_0 : Int) (a0_1 : Int) (a0_2 : Int) (a0_3 : Bool) (l0_4 : List (S40)) (a0_5 : ByteArray) (a1_0 : Int) (a1_1 : Int) (a1_2 : Int) (a1_3 : Bool) (l1_4 : List (S40)) (a1_5 : ByteArray) : Option (Bool) := if a0_0 = a1_0 then (if a0_1 = a1_1 then (if a0_2 = a1_2 then (if (a0_3 == a1_3) = true then (if a0_5.toList = a1_5.toList then ((federationref7_Writes.f k l0_4 l1_4).bind fun t347 => (some t347)) else (some false)) else (some false)) else (some false)) else (some false)) else (some false)
theorem federationref7_Same.mono : ∀ a0 a1 a2 a3 a4 a5 a6 a7 a8 a9 a10 a11 k, LeO (federationref7_Same.f k a0 a1 a2 a3 a4 a5 a6 a7 a8 a9 a10 a11) (federationref7_Same.f (k + 1) a0 a1 a2 a3 a4 a5 a6 a7 a8 a9 a10 a11) := by
  intro a0 a1 a2 a3 a4 a5 a6 a7 a8 a9 a10 a11 k
  unfold federationref7_Same.f
  repeat' first
      | (with_reducible exact federationref7_Writes.mono _ _ _)
      | (with_reducible exact LeO.refl _)
      | (with_reducible exact LeO.none _)
      | (with_reducible refine LeO.ite ?_ ?_)
      | (with_reducible refine LeO.bind ?_ (fun _ => ?_))
set_option maxHeartbeats 8000000 in
set_option maxRecDepth 100000 in
theorem federationref7_Same.calls (k : Nat) (a0_0 : Int) (a0_1 : Int) (a0_2 : Int) (a0_3 : Bool) (A0_4 : Option Addr) (c0_4 : Nat) (l0_4 : List (S40)) (a0_5 : ByteArray) (a1_0 : Int) (a1_1 : Int) (a1_2 : Int) (a1_3 : Bool) (A1_4 : Option Addr) (c1_4 : Nat) (l1_4 : List (S40)) (a1_5 : ByteArray) (r : Bool) (w : World) (hr0_4 : Kd.C k40 w A0_4 l0_4.length l0_4) (hc0_4 : l0_4.length ≤ c0_4) (hr1_4 : Kd.C k40 w A1_4 l1_4.length l1_4) (hc1_4 : l1_4.length ≤ c1_4) (h : federationref7_Same.f k a0_0 a0_1 a0_2 a0_3 l0_4 a0_5 a1_0 a1_1 a1_2 a1_3 l1_4 a1_5 = some r) :
  Calls Try.prog 19 #[.agg #[.int .i64 a0_0, .int .i64 a0_1, .int .i64 a0_2, .bool a0_3, .slice A0_4 l0_4.length c0_4, .string a0_5], .agg #[.int .i64 a1_0, .int .i64 a1_1, .int .i64 a1_2, .bool a1_3, .slice A1_4 l1_4.length c1_4, .string a1_5]] w fun e w' => e = .returned (.bool r) ∧ Below w.heap.size w w' := by
 have hu26 := Try.underlying26
 have HR0_4 := am hr0_4
 have HC0_4 := am hc0_4
 clear hr0_4 hc0_4
 have HR1_4 := am hr1_4
 have HC1_4 := am hc1_4
 clear hr1_4 hc1_4
 have HB := am (Below.refl w.heap.size w)
 have H : (if a0_0 = a1_0 then (if a0_1 = a1_1 then (if a0_2 = a1_2 then (if (a0_3 == a1_3) = true then (if a0_5.toList = a1_5.toList then ((federationref7_Writes.f k l0_4 l1_4).bind fun t347 => (some t347)) else (some false)) else (some false)) else (some false)) else (some false)) else (some false)) = some r := h
 clear h
 go_enter Try.func19, Try.ntmps19
 go_upto_region 1 with (first | ((with_reducible refine gate_dst (N := 2) rfl ?_); refine bx 2 26 (cs := #[.int .i64 a0_0, .int .i64 a0_1, .int .i64 a0_2, .bool a0_3, .slice A0_4 l0_4.length c0_4, .string a0_5]) ?_; intro gb345 hg w9 hbox hb; have n_ := z4 (below_step bel hb) (hbox) ((by rw [hg]; exact (below_size bel) : w.heap.size ≤ gb345)) ((by rw [hg]; exact (below_size bel) : w.heap.size ≤ gb345)); clear HB; obtain ⟨HB, BK345, GW345, GE345⟩ := n_; clear hb hbox hg) | ((with_reducible refine gate_dst (N := 3) rfl ?_); refine bx 3 26 (cs := #[.int .i64 a1_0, .int .i64 a1_1, .int .i64 a1_2, .bool a1_3, .slice A1_4 l1_4.length c1_4, .string a1_5]) ?_; intro gb346 hg w10 hbox hb; have n_ := z7 (blk_below (bk BK345.out) hb) (below_step bel hb) (hbox) ((by rw [hg]; exact (below_size bel) : w.heap.size ≤ gb346)) ((by rw [hg]; exact (below_size bel) : w.heap.size ≤ gb346)) ((by rw [hg]; exact Nat.ne_of_lt (blk_lt (bk BK345.out)) : gb345 ≠ gb346)) ((by rw [hg]; exact Nat.ne_of_gt (blk_lt (bk BK345.out)) : gb346 ≠ gb345)); clear BK345 HB; obtain ⟨BK345, HB, BK346, GW346, GE346, NB345_346, NB346_345⟩ := n_; clear hb hbox hg; have hnb11 := NB345_346.out; have hnc11 := NB346_345.out; obtain ⟨hcz12_0, hcz12_1, hcz12_2, hcz12_3, hcz12_4, hcz12_5⟩ := cells6 BK345.out; obtain ⟨hfz12_0, hfz12_1, hfz12_2, hfz12_3, hfz12_4, hfz12_5⟩ := froz6 BK345.out; obtain ⟨hcz13_0, hcz13_1, hcz13_2, hcz13_3, hcz13_4, hcz13_5⟩ := cells6 BK346.out; obtain ⟨hfz13_0, hfz13_1, hfz13_2, hfz13_3, hfz13_4, hfz13_5⟩ := froz6 BK346.out))
 by_cases c3 : a0_0 = a1_0
 ·rw [if_pos c3] at H
  have c3b0 : (a0_0 == a1_0) = true := beq_iff_eq.mpr c3
  have c3b1 : (a0_0 != a1_0) = false := bne_eq_false_iff_eq.mpr c3
  clear c3
  by_cases c4 : a0_1 = a1_1
  ·rw [if_pos c4] at H
   have c4b0 : (a0_1 == a1_1) = true := beq_iff_eq.mpr c4
   have c4b1 : (a0_1 != a1_1) = false := bne_eq_false_iff_eq.mpr c4
   clear c4
   by_cases c5 : a0_2 = a1_2
   ·rw [if_pos c5] at H
    have c5b0 : (a0_2 == a1_2) = true := beq_iff_eq.mpr c5
    have c5b1 : (a0_2 != a1_2) = false := bne_eq_false_iff_eq.mpr c5
    clear c5
    by_cases c6 : (a0_3 == a1_3) = true
    ·rw [if_pos c6] at H
     have c6b0 : (a0_3 == a1_3) = true := c6
     (try (have c6b1 : decide (a0_3 = a1_3) = true := by simpa using c6))
     (try (have c6b2 : (a0_3 == a1_3) = true := by simpa using c6))
     clear c6
     by_cases c7 : a0_5.toList = a1_5.toList
     ·rw [if_pos c7] at H
      have c7b0 : (a0_5.toList == a1_5.toList) = true := beq_iff_eq.mpr c7
      have c7b1 : (a0_5.toList != a1_5.toList) = false := bne_eq_false_iff_eq.mpr c7
      clear c7
      replace H := Option.bind_eq_some_iff.mp H
      obtain ⟨t347, A80, H⟩ := H
      replace H : (some t347) = some r := H
      have A8 := am A80
      clear A80
      obtain rfl := Option.some.inj H
      go_wp2_with (first | (go_at_call 32; (with_reducible refine (federationref7_Writes.calls k _ _ l0_4 _ _ l1_4 t347 _ ?side1 ?side2 ?side3 ?side4 A8.out).mono ?_); (case side1 => repeat (first | exact (Kd.C_below HR0_4.out HB.out) | (with_reducible refine Kd.C_alloc ?_ _) | (with_reducible refine Kd.C_drewN ?_ _) | (with_reducible refine Kd.C_drew ?_))); (case side2 => exact HC0_4.out); (case side3 => repeat (first | exact (Kd.C_below HR1_4.out HB.out) | (with_reducible refine Kd.C_alloc ?_ _) | (with_reducible refine Kd.C_drewN ?_ _) | (with_reducible refine Kd.C_drew ?_))); (case side4 => exact HC1_4.out); rintro e w' ⟨rfl, ⟨nd, rfl⟩⟩))
      go_ret
      exact ⟨er, bel⟩
     ·rw [if_neg c7] at H
      have c7b0 : (a0_5.toList == a1_5.toList) = false := beq_eq_false_iff_ne.mpr c7
      have c7b1 : (a0_5.toList != a1_5.toList) = true := bne_iff_ne.mpr c7
      obtain rfl := Option.some.inj H
      go_wp2
      go_ret
      exact ⟨er, bel⟩
    ·rw [if_neg c6] at H
     have c6b0 : (a0_3 == a1_3) = false := by simpa using c6
     (try (have c6b1 : decide (a0_3 = a1_3) = false := by simpa using c6))
     (try (have c6b2 : (a0_3 == a1_3) = false := by simpa using c6))
     (try (have c6b3 : ¬ (a0_3 = a1_3) := by simpa using c6))
     clear c6
     obtain rfl := Option.some.inj H
     go_wp2
     go_ret
     exact ⟨er, bel⟩
   ·rw [if_neg c5] at H
    have c5b0 : (a0_2 == a1_2) = false := beq_eq_false_iff_ne.mpr c5
    have c5b1 : (a0_2 != a1_2) = true := bne_iff_ne.mpr c5
    obtain rfl := Option.some.inj H
    go_wp2
    go_ret
    exact ⟨er, bel⟩
  ·rw [if_neg c4] at H
   have c4b0 : (a0_1 == a1_1) = false := beq_eq_false_iff_ne.mpr c4
   have c4b1 : (a0_1 != a1_1) = true := bne_iff_ne.mpr c4
   obtain rfl := Option.some.inj H
   go_wp2
   go_ret
   exact ⟨er, bel⟩
 ·rw [if_neg c3] at H
  have c3b0 : (a0_0 == a1_0) = false := beq_eq_false_iff_ne.mpr c3
  have c3b1 : (a0_0 != a1_0) = true := bne_iff_ne.mpr c3
  obtain rfl := Option.some.inj H
  go_wp2
  go_ret
  exact ⟨er, bel⟩
def cmd_Up.f (k : Nat) (a0 : ByteArray) : Option (ByteArray × Bool) := (cmd_Decode.f k a0).bind fun bt348 => (if bt348.2.2.2.2.2.2.2 = true then ((cmd_Encode.f k bt348.1 bt348.2.1 bt348.2.2.1 bt348.2.2.2.1 bt348.2.2.2.2.1 bt348.2.2.2.2.2.1 2).bind fun bt359 => (some (bt359.1, bt359.2))) else (some ((⟨#[]⟩ : ByteArray), false)))
theorem cmd_Up.mono : ∀ a0 k, LeO (cmd_Up.f k a0) (cmd_Up.f (k + 1) a0) := by
  intro a0 k
  unfold cmd_Up.f
  repeat' first
      | (with_reducible exact cmd_Decode.mono _ _)
      | (with_reducible exact cmd_Encode.mono _ _ _ _ _ _ _ _)
      | (with_reducible exact LeO.refl _)
      | (with_reducible exact LeO.none _)
      | (with_reducible refine LeO.ite ?_ ?_)
      | (with_reducible refine LeO.bind ?_ (fun _ => ?_))
set_option maxHeartbeats 8000000 in
set_option maxRecDepth 100000 in
theorem cmd_Up.calls (k : Nat) (a0 : ByteArray) (r1 : ByteArray) (r2 : Bool) (w : World) (h : cmd_Up.f k a0 = some (r1, r2)) :
  Calls Try.prog 21 #[.string a0] w fun e w' => e = .returned (.tuple #[.string r1, .bool r2]) ∧ Below w.heap.size w w' := by
 have hu26 := Try.underlying26
 have HB := am (Below.refl w.heap.size w)
 have H : ((cmd_Decode.f k a0).bind fun bt348 => (if bt348.2.2.2.2.2.2.2 = true then ((cmd_Encode.f k bt348.1 bt348.2.1 bt348.2.2.1 bt348.2.2.2.1 bt348.2.2.2.2.1 bt348.2.2.2.2.2.1 2).bind fun bt359 => (some (bt359.1, bt359.2))) else (some ((⟨#[]⟩ : ByteArray), false)))) = some (r1, r2) := h
 clear h
 replace H := Option.bind_eq_some_iff.mp H
 obtain ⟨⟨t348, t349, t350, t351, t352, t355, t356, t357⟩, A20, H⟩ := H
 replace H : (if t357 = true then ((cmd_Encode.f k t348 t349 t350 t351 t352 t355 2).bind fun bt359 => (some (bt359.1, bt359.2))) else (some ((⟨#[]⟩ : ByteArray), false))) = some (r1, r2) := H
 have A2 := am A20
 clear A20
 go_enter Try.func21, Try.ntmps21
 go_upto_region 2 with (first | ((with_reducible refine gate_callee (f := 18) rfl ?_); refine goesL_ (some 9) rfl rfl Try.func18 (by kernel_rfl) rfl #[.string a0] rfl ar ?_; (with_reducible refine (cmd_Decode.calls k a0 t348 t349 t350 t351 t352 t355 t356 t357 _ A2.out).mono ?_); rintro e w5 ⟨v353, rfl, ho0, hb⟩; refine ⟨_, rfl, ?_⟩; have n_ := z2 (Kd.R_lower ho0 (below_size bel)) (below_step bel hb); clear HB; obtain ⟨HO354, HB⟩ := n_; (try clear hb); (try clear hb2); (try clear hk); (try clear hi); (try clear ho0)) | ((with_reducible refine gate_dst (N := 4) rfl ?_); refine bx 4 26 (cs := #[.int .i64 0, .int .i64 0, .int .i64 0, .bool false, .slice none 0 0, .string (⟨#[]⟩ : ByteArray)]) ?_; intro gb358 hg w6 hbox hb; have n_ := z5 (Kd.R_below (kr HO354.out) hb) (below_step bel hb) (hbox) ((by rw [hg]; exact (below_size bel) : w.heap.size ≤ gb358)) ((by rw [hg]; exact (below_size bel) : w.heap.size ≤ gb358)); clear HO354 HB; obtain ⟨HO354, HB, BK358, GW358, GE358⟩ := n_; clear hb hbox hg; obtain ⟨hcz7_0, hcz7_1, hcz7_2, hcz7_3, hcz7_4, hcz7_5⟩ := cells6 BK358.out; obtain ⟨hfz7_0, hfz7_1, hfz7_2, hfz7_3, hfz7_4, hfz7_5⟩ := froz6 BK358.out; obtain ⟨Ao8, co8, eo8⟩ := Kd.R_slice HO354.out; subst eo8))
 by_cases c3 : t357 = true
 ·subst c3
  have H1 : ((cmd_Encode.f k t348 t349 t350 t351 t352 t355 2).bind fun bt359 => (some (bt359.1, bt359.2))) = some (r1, r2) := by rw [if_pos rfl] at H; exact H
  clear H
  have H := H1
  clear H1
  replace H := Option.bind_eq_some_iff.mp H
  obtain ⟨⟨t359, t360⟩, A40, H⟩ := H
  replace H : (some (t359, t360)) = some (r1, r2) := H
  have A4 := am A40
  clear A40
  simp only [Option.some.injEq, Prod.mk.injEq] at H
  obtain ⟨rfl, rfl⟩ := H
  go_wp2_with (first | ((with_reducible refine gate_callee (f := 16) rfl ?_); refine goesL_ (some 16) rfl rfl Try.func16 (by kernel_rfl) rfl #[.agg #[.int .i64 t348, .int .i64 t349, .int .i64 t350, .bool t351, .slice Ao8 t352.length co8, .string t355], .int .i64 2] rfl ar ?_; (with_reducible refine (cmd_Encode.calls k t348 t349 t350 t351 _ _ t352 t355 2 t359 t360 _ ?side1 ?side2 A4.out).mono ?_); (case side1 => refine (Kd.R_reads' (e := 40) (base := w.heap.size) (ok := fun k_ => True) (n := t352.length) (c := co8) ?_).2.2; exact (by (with_reducible repeat (first | apply Kd.R_alloc | apply Kd.R_drewN | apply Kd.R_drew)); exact (Kd.R_mono (Kd.R_far (p := ⟨gb358, 5, none⟩) (Kd.R_far (p := ⟨gb358, 4, none⟩) (Kd.R_far (p := ⟨gb358, 3, none⟩) (Kd.R_far (p := ⟨gb358, 2, none⟩) (Kd.R_far (p := ⟨gb358, 1, none⟩) (Kd.R_far (p := ⟨gb358, 0, none⟩) (Kd.R_types HO354.out BK358.out (by decide)) (fun _ hk => hk.2) (.int .i64 t348)) (fun _ hk => hk.2) (.int .i64 t349)) (fun _ hk => hk.2) (.int .i64 t350)) (fun _ hk => hk.2) (.bool t351)) (fun _ hk => hk.2) (.slice Ao8 t352.length co8)) (fun _ hk => hk.2) (.string t355)) (fun _ h_ => h_.1)))); (case side2 => exact (Kd.R_reads' HO354.out).2.1); rintro e w9 ⟨rfl, hb⟩; refine ⟨_, rfl, ?_⟩; have n_ := z3 (Kd.R_below (by (with_reducible repeat (first | apply Kd.R_alloc | apply Kd.R_drewN | apply Kd.R_drew)); exact (Kd.R_mono (Kd.R_far (p := ⟨gb358, 5, none⟩) (Kd.R_far (p := ⟨gb358, 4, none⟩) (Kd.R_far (p := ⟨gb358, 3, none⟩) (Kd.R_far (p := ⟨gb358, 2, none⟩) (Kd.R_far (p := ⟨gb358, 1, none⟩) (Kd.R_far (p := ⟨gb358, 0, none⟩) (Kd.R_types HO354.out BK358.out (by decide)) (fun _ hk => hk.2) (.int .i64 t348)) (fun _ hk => hk.2) (.int .i64 t349)) (fun _ hk => hk.2) (.int .i64 t350)) (fun _ hk => hk.2) (.bool t351)) (fun _ hk => hk.2) (.slice Ao8 t352.length co8)) (fun _ hk => hk.2) (.string t355)) (fun _ h_ => h_.1))) hb) (blk_below (g := gb358) (o := .cells #[.int .i64 t348, .int .i64 t349, .int .i64 t350, .bool t351, .slice Ao8 t352.length co8, .string t355] 26 (0, 0)) (bp BK358.out) hb) (below_step bel hb); clear HO354 BK358 HB; obtain ⟨HO354, BK358, HB⟩ := n_; (try clear hb); (try clear hb2); (try clear hk); (try clear hi)))
  go_ret2
  exact ⟨er, bel⟩
 ·replace c3 := Bool.eq_false_iff.mpr c3
  subst c3
  have H1 : (some ((⟨#[]⟩ : ByteArray), false)) = some (r1, r2) := by rw [if_neg (show ¬ (false = true) by decide)] at H; exact H
  clear H
  have H := H1
  clear H1
  simp only [Option.some.injEq, Prod.mk.injEq] at H
  obtain ⟨rfl, rfl⟩ := H
  go_wp2
  go_ret2
  exact ⟨er, bel⟩
end Go.Proofs.Ytagjmphkfeiiiaa.Q
