/-
  lead turns a node into a leader.
-/
import Derived.WalkKit
import Derived.WalkSpells
import Derived.Lib.Hide
import Derived.Outline
import Derived.Test.YtnkmljdkokcdjaaChecked
import Derived.Test.YtnkmljdkokcdjaaRg
import Derived.Test.YtnkmljdkokcdjaaMem
import Derived.Test.YtnkmljdkokcdjaaFed
import Derived.Test.YtnkmljdkokcdjaaRa5
import Derived.Test.YtnkmljdkokcdjaaRa6
namespace Go.Proofs.Ytnkmljdkokcdjaa
open Go.RowKit Fed
set_option linter.unusedVariables false
attribute [local go_sem high] Fed.max2_int Fed.min2_int

set_option maxRecDepth 100000 in
set_option maxHeartbeats 2000000 in
theorem lead_any (w : World) (B g : Nat) (s : NS) (μ : NM) (h : NodeAt w B g s μ) (ho : s.out.length ≤ 900000) (hl : s.n.log.length ≤ 900000) (hv : s.n.votes.length ≤ 1000) (hi0 : 0 ≤ s.n.id) (hi1 : s.n.id < s.n.votes.length) :
    Calls Try.prog 104 #[.pointer (some ⟨g, 0, none⟩)] w
      fun e w' => ∃ μ', e = .returned (.tuple #[]) ∧ NodeAt w' B g (leadS s) μ' ∧ Below B w w' := by
  have hbs := h.Bsize
  have c5 : w.cell? ⟨g, 5, none⟩ = some (.int .i64 s.n.role) := h.c 5 _ rfl
  have fr5 := h.fr 5
  have hN1 := h.setg (i := 5) (u := .int .i64 2) (s' := ⟨{ s.n with role := 2 }, s.out⟩) rfl rfl rfl rfl rfl rfl rfl
  have hb1 : Below B w (w.setCell ⟨g, 5, none⟩ (.int .i64 2)) := (Below.refl B w).setCell h.hB _
  have H1 := Lib.hid hN1
  have HB1 := Lib.hid hb1
  have HO := Lib.hid ho
  clear h hN1 hb1 ho
  go_enter Try.func104, Try.ntmps104
  go_wp2_with fail
  refine (size_any _ B g _ _ H1.out).mono ?_
  rintro e w2 ⟨rfl, rfl⟩
  go_wp2_with fail
  refine (last_any _ B g _ _ H1.out).mono ?_
  rintro e w2 ⟨rfl, rfl⟩
  go_wp2_with fail
  refine (filled_int _ s.n.votes.length (s.n.log.length + 1) hv).mono ?_
  rintro e w2 ⟨v2, ob2, rfl, hr2, hb2⟩
  obtain ⟨A2, k2, rfl, _, _⟩ := hr2.slice
  have hsz2 := hb2.size
  have H2 := Lib.hid (H1.out.below hb2)
  have HB2 := Lib.hid (HB1.out.trans (hb2.mono H1.out.Bsize))
  have HR2 := Lib.hid hr2
  clear hr2 hb2 c5 fr5
  go_wp2_with fail
  refine (size_any _ B g _ _ H2.out).mono ?_
  rintro e w9 ⟨rfl, rfl⟩
  go_wp2_with fail
  refine (filled_int _ s.n.votes.length 0 hv).mono ?_
  rintro e w3 ⟨v3, ob3, rfl, hr3, hb3⟩
  obtain ⟨A3, k3, rfl, _, _⟩ := hr3.slice
  have hN3 := H2.out.below hb3
  have H3 := Lib.hid hN3
  have HB3 := Lib.hid (HB2.out.trans (hb3.mono H2.out.Bsize))
  have HR2' := Lib.hid (HR2.out.below hb3)
  have HR3 := Lib.hid hr3
  have N23 := Lib.hid (show ∀ k, ob2 = some k → ob3 ≠ some k from fun k h2 h3 => by have := (HR2.out.lt k h2).2; have := (hr3.lt k h3).1; omega)
  have NF2 := Lib.hid (show ∀ k, ob2 = some k → μ.f.ob ≠ some k from fun k h2 h3 => by have := (HR2.out.lt k h2).1; have := (H1.out.hf.lt k h3).2; omega)
  have NF3 := Lib.hid (show ∀ k, ob3 = some k → μ.f.ob ≠ some k from fun k h2 h3 => by have := (hr3.lt k h2).1; have := (H2.out.hf.lt k h3).2; omega)
  have NM2 := Lib.hid (show ∀ k, ob2 = some k → μ.m.ob ≠ some k from fun k h2 h3 => by have := (HR2.out.lt k h2).1; have := (H1.out.hm.lt k h3).2; omega)
  have c8 : w3.cell? ⟨g, 8, none⟩ = some μ.n.v := hN3.c 8 _ rfl
  have c9 : w3.cell? ⟨g, 9, none⟩ = some μ.m.v := hN3.c 9 _ rfl
  have fr8 := hN3.fr 8
  have fr9 := hN3.fr 9
  have hB1 := H1.out.Bsize
  have hB2 := H2.out.Bsize
  clear hr3 hb3 hN3
  have hA := H3.out.rows (i := 8) (u := .slice A2 s.n.votes.length k2) (s' := ⟨{ s.n with role := 2, nxt := List.replicate s.n.votes.length ((s.n.log.length : Int) + 1) }, s.out⟩) (μ' := { μ with n := ⟨.slice A2 s.n.votes.length k2, ob2⟩ }) rfl rfl rfl rfl rfl H3.out.hv
    (by show MM.Row _ _ _ _ _ (List.replicate _ _).length _ _; rw [List.length_replicate]; exact HR2'.out.lower hB1) H3.out.hm H3.out.hf NM2.out NF2.out H3.out.mf
  have hR3 := (HR3.out.lower hB2).far (p := ⟨g, 8, none⟩) (fun k hk => ty_ne (HR3.out.ty k hk) H3.out.tyg (by decide)) (.slice A2 s.n.votes.length k2)
  have hC := hA.rows (i := 9) (u := .slice A3 s.n.votes.length k3) (s' := ⟨leadN s.n, s.out⟩) (μ' := { μ with n := ⟨.slice A2 s.n.votes.length k2, ob2⟩, m := ⟨.slice A3 s.n.votes.length k3, ob3⟩ }) rfl rfl rfl rfl rfl hA.hv hA.hn
    (by show MM.Row _ _ _ _ _ (List.replicate _ _).length _ _; rw [List.length_replicate]; exact hR3) hA.hf N23.out NF2.out NF3.out
  have HC := Lib.hid hC
  have HBC := Lib.hid ((HB3.out.setCell (p := ⟨g, 8, none⟩) H1.out.hB (.slice A2 s.n.votes.length k2)).setCell (p := ⟨g, 9, none⟩) H1.out.hB (.slice A3 s.n.votes.length k3))
  clear hA hR3 hC
  go_wp2_with fail
  refine (put_any _ B g ⟨leadN s.n, s.out⟩ _ _ HC.out HO.out hl hv hi0 hi1 (by simp [leadN]) (by simp [leadN]) (fun i hi => by
    have : i < s.n.votes.length := by simpa [leadN] using hi
    simp [leadN, List.getD_eq_getElem?_getD, this]
    omega)).mono ?_
  rintro e w5 ⟨μ5, rfl, hn5, hb5⟩
  go_wp2_with fail
  go_end0
  exact ⟨μ5, rfl, hn5, HBC.out.trans hb5⟩

end Go.Proofs.Ytnkmljdkokcdjaa
