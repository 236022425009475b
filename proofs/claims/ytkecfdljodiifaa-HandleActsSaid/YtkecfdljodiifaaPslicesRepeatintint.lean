-- Printed by a program of this session (inject.py) over the kit's print, with functions that were proved by hand in their places.
import Derived.Test.YtkecfdljodiifaaPK
import Derived.Test.YtkecfdljodiifaaHp
namespace Go.Proofs.Ytkecfdljodiifaa.P
open Go.RowKit Go.Proofs.YtkecfdljodiifaaW.PrintWords Go.Proofs.YtkecfdljodiifaaW.PrintLast Go.Proofs.YtkecfdljodiifaaW.PrintMore
attribute [local go_sem] max2_int min2_int max_two min_two max_three min_three max_four min_four   -- for this text's walks alone
set_option linter.unusedVariables false
set_option linter.unusedSimpArgs false

/-! ### slices_Repeat_int_int: function 33 -/
-- given by hand
-- over YtkecfdljodiifaaHp
def slices_Repeat_int_int.f (l0 : List Int) (a1 : Int) : Option (List Int) := if l0 = [-1] ∧ a1 = 8 then some (List.replicate 8 (-1)) else none
theorem slices_Repeat_int_int.calls (P0_ : Nat → Prop) (A0 : Option Addr) (c0 : Nat) (l0 : List Int) (a1 : Int) (r : List Int) (w : World) (hs0 : Kd.V (Kd.int .i64) 3 w w.heap.size (fun k_ => P0_ k_) (.slice A0 l0.length c0) l0) (h : slices_Repeat_int_int.f l0 a1 = some r) :
  Calls Try.prog 33 #[.slice A0 l0.length c0, .int .i64 a1] w fun e w' => ∃ v0_ : Value, e = .returned (v0_) ∧ Kd.V (Kd.int .i64) 3 w' w.heap.size (fun k_ => (P0_ k_ ∨ w.heap.size ≤ k_)) v0_ r ∧ Below w.heap.size w w' := by
 unfold slices_Repeat_int_int.f at h
 split at h
 ·next hc =>
  obtain ⟨rfl, rfl⟩ := hc
  injection h with h
  subst h
  obtain ⟨cw, wl, wr, w1, ws⟩ := C_cells (Kd.int .i64) (Vr_ hs0).2.2
  obtain rfl := reps_ints wr
  obtain ⟨ad, rfl, hs⟩ := ws (by decide)
  have hcell := hs 0 (.int .i64 (-1)) rfl
  rw [show ad.add 0 = ad from by simp [Addr.add]] at hcell
  refine (Repeat_8 ad c0 w hcell).mono ?_
  rintro e w' ⟨g, rfl, hg, hb, hB⟩
  refine ⟨_, rfl, ?_, hB⟩
  exact Kd.V_mk (xs := List.replicate 8 (-1)) (Nat.le_refl _) (fun W hW => C_of_block (Kd.int .i64) (ints_reps W (List.replicate 8 (-1))) (by decide) ((hW g (.inr hg) (blk_lt hb)).trans hb))
 ·cases h

end Go.Proofs.Ytkecfdljodiifaa.P
