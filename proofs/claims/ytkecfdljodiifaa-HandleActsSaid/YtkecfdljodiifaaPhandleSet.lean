-- Printed by a program of this session (inject.py) over the kit's print, with functions that were proved by hand in their places.
import Derived.Test.YtkecfdljodiifaaPK
import Derived.Test.YtkecfdljodiifaaHg
namespace Go.Proofs.Ytkecfdljodiifaa.P
open Go.RowKit Go.Proofs.YtkecfdljodiifaaW.PrintWords Go.Proofs.YtkecfdljodiifaaW.PrintLast Go.Proofs.YtkecfdljodiifaaW.PrintMore
attribute [local go_sem] max2_int min2_int max_two min_two max_three min_three max_four min_four   -- for this text's walks alone
set_option linter.unusedVariables false
set_option linter.unusedSimpArgs false

/-! ### handle_Set: function 30 -/
-- given by hand
-- over YtkecfdljodiifaaHg
def handle_Set.f (l0_0 : List S38) (l0_1 : List (List Int)) (a1 : Int) (a2_0 : Int) (a2_1 : Int) (a2_2 : Bool) (a2_3 : Bool) (_a2_4 : Int) (a2_5 : Int) : Option (List S38 × List (List Int)) :=
 if a1 < 0 ∨ (l0_0.length : Int) ≤ a1 ∨ (rd_T38 l0_0 a1).f4 = 0 then some (l0_0, l0_1)
 else if 7036874417766 < l0_0.length ∨ 11728124029610 < l0_1.length then none
 else some (l0_0.set a1.toNat ⟨a2_0, a2_1, a2_2, a2_3, (rd_T38 l0_0 a1).f4, a2_5⟩, l0_1)
theorem handle_Set.calls (P0_0_ : Nat → Prop) (A0_0 : Option Addr) (c0_0 : Nat) (l0_0 : List (S38)) (P0_1_ : Nat → Prop) (A0_1 : Option Addr) (c0_1 : Nat) (l0_1 : List (List Int)) (a1 : Int) (a2_0 : Int) (a2_1 : Int) (a2_2 : Bool) (a2_3 : Bool) (a2_4 : Int) (a2_5 : Int) (r1 : List (S38)) (r2 : List (List Int)) (w : World) (hs0_0 : Kd.V k38 38 w w.heap.size (fun k_ => P0_0_ k_) (.slice A0_0 l0_0.length c0_0) l0_0) (hs0_1 : Kd.V (Kd.slice 3 (Kd.int .i64)) 64 w w.heap.size (fun k_ => P0_1_ k_) (.slice A0_1 l0_1.length c0_1) l0_1) (h : handle_Set.f l0_0 l0_1 a1 a2_0 a2_1 a2_2 a2_3 a2_4 a2_5 = some (r1, r2)) :
  Calls Try.prog 30 #[.agg #[.slice A0_0 l0_0.length c0_0, .slice A0_1 l0_1.length c0_1], .int .i64 a1, .agg #[.int .i64 a2_0, .int .i64 a2_1, .bool a2_2, .bool a2_3, .int .i64 a2_4, .int .i64 a2_5]] w fun e w' => ∃ v0_ v1_ : Value, e = .returned (.agg #[v0_, v1_]) ∧ Kd.V k38 38 w' w.heap.size (fun k_ => ((P0_0_ k_ ∨ P0_1_ k_) ∨ w.heap.size ≤ k_)) v0_ r1 ∧ Kd.V (Kd.slice 3 (Kd.int .i64)) 64 w' w.heap.size (fun k_ => ((P0_0_ k_ ∨ P0_1_ k_) ∨ w.heap.size ≤ k_)) v1_ r2 ∧ Below w.heap.size w w' := by
 have hC0 := (Vr_ hs0_0).2.2
 have hC1 := (Vr_ hs0_1).2.2
 have came : ∀ {w' : World}, Below w.heap.size w w' → Kd.V k38 38 w' w.heap.size (fun k_ => ((P0_0_ k_ ∨ P0_1_ k_) ∨ w.heap.size ≤ k_)) (.slice A0_0 l0_0.length c0_0) l0_0 ∧ Kd.V (Kd.slice 3 (Kd.int .i64)) 64 w' w.heap.size (fun k_ => ((P0_0_ k_ ∨ P0_1_ k_) ∨ w.heap.size ≤ k_)) (.slice A0_1 l0_1.length c0_1) l0_1 :=
  fun hb => ⟨Vm_ (Vb_ hs0_0 hb) (fun _ hk => .inl (.inl hk)), Vm_ (Vb_ hs0_1 hb) (fun _ hk => .inl (.inr hk))⟩
 unfold handle_Set.f at h
 by_cases c1 : a1 < 0 ∨ (l0_0.length : Int) ≤ a1 ∨ (rd_T38 l0_0 a1).f4 = 0
 ·rw [if_pos c1] at h
  simp only [Option.some.injEq, Prod.mk.injEq] at h
  obtain ⟨rfl, rfl⟩ := h
  refine (Set_same A0_0 c0_0 A0_1 c0_1 l0_1.length a1 ⟨a2_0, a2_1, a2_2, a2_3, a2_4, a2_5⟩ w l0_0 hC0 c1).mono ?_
  rintro e w' ⟨rfl, hb⟩
  exact ⟨_, _, rfl, (came hb).1, (came hb).2, hb⟩
 rw [if_neg c1] at h
 by_cases c3 : 7036874417766 < l0_0.length ∨ 11728124029610 < l0_1.length
 ·rw [if_pos c3] at h
  cases h
 rw [if_neg c3] at h
 obtain ⟨k, rfl⟩ : ∃ k : Nat, a1 = (k : Int) := ⟨a1.toNat, by omega⟩
 obtain ⟨cf, f1, f2, f3, f4⟩ := C_cells (Kd.slice 3 (Kd.int .i64)) hC1
 simp only [Option.some.injEq, Prod.mk.injEq, Int.toNat_natCast] at h
 obtain ⟨rfl, rfl⟩ := h
 refine (Set_ok A0_0 c0_0 l0_0 A0_1 c0_1 l0_1.length cf k ⟨a2_0, a2_1, a2_2, a2_3, a2_4, a2_5⟩ w (by omega) (by omega) (by omega) (fun e => c1 (.inr (.inr e))) f1 hC0 f4 f3).mono ?_
 rintro e w' ⟨gd, gf, rfl, hgd, hgf, hcd, hcf, hb⟩
 refine ⟨_, _, rfl, ?_, ?_, hb⟩
 ·have e : l0_0.length = (l0_0.set k ⟨a2_0, a2_1, a2_2, a2_3, (rd_T38 l0_0 (k : Int)).f4, a2_5⟩).length := by simp
  rw [e]
  refine Kd.V_mk (Nat.le_refl _) (fun W hW => C_of_block k38 (cells38_reps W _) (by rw [← e]; omega) ((hW gd (.inr hgd) (blk_lt hcd)).trans hcd))
 ·exact V_copied (Kd.slice 3 (Kd.int .i64)) hs0_1 (fun _ hk _ => .inl (.inr hk)) (.inr hgf) f1 f4 (fun k_ _ hlt => hb.block k_ hlt) hcf (Nat.le_refl _)

end Go.Proofs.Ytkecfdljodiifaa.P
