-- Printed by a program of this session (inject.py) over the kit's print, with functions that were proved by hand in their places.
import Derived.Test.YtbfjakhloabhmaaPK
import Derived.Test.YtbfjakhloabhmaaHg
import Derived.Test.YtbfjakhloabhmaaHh
namespace Go.Proofs.Ytbfjakhloabhmaa.P
open Go.RowKit Go.Proofs.YtbfjakhloabhmaaW.PrintWords Go.Proofs.YtbfjakhloabhmaaW.PrintLast Go.Proofs.YtbfjakhloabhmaaW.PrintMore
attribute [local go_sem] max2_int min2_int max_two min_two max_three min_three max_four min_four   -- for this text's walks alone
set_option linter.unusedVariables false
set_option linter.unusedSimpArgs false

/-! ### flock_Lock: function 11 -/
-- given by hand
-- over YtbfjakhloabhmaaHg
-- over YtbfjakhloabhmaaHh
def flock_Lock.f (l0_0 : List S44) (l0_1 : List (List Int)) (a1 : Int) (a2 : Int) : Option (List S44 × List (List Int) × Int) :=
 if a2 < 0 ∨ 2 < a2 then some (l0_0, l0_1, 1)
 else if a1 < 0 ∨ (l0_0.length : Int) ≤ a1 ∨ (rd_T44 l0_0 a1).f4 < 1 then some (l0_0, l0_1, 12)
 else if blockedTo l0_0 a1 (rd_T44 l0_0 a1).f0 a2 l0_0.length = true then some (l0_0, l0_1, 14)
 else if 7036874417766 < l0_0.length ∨ 11728124029610 < l0_1.length then none
 else some (l0_0.set a1.toNat { rd_T44 l0_0 a1 with f5 := a2 }, l0_1, 0)
theorem flock_Lock.calls (P0_0_ : Nat → Prop) (A0_0 : Option Addr) (c0_0 : Nat) (l0_0 : List (S44)) (P0_1_ : Nat → Prop) (A0_1 : Option Addr) (c0_1 : Nat) (l0_1 : List (List Int)) (a1 : Int) (a2 : Int) (r1 : List (S44)) (r2 : List (List Int)) (r3 : Int) (w : World) (hs0_0 : Kd.V k44 44 w w.heap.size (fun k_ => P0_0_ k_) (.slice A0_0 l0_0.length c0_0) l0_0) (hs0_1 : Kd.V (Kd.slice 3 (Kd.int .i64)) 48 w w.heap.size (fun k_ => P0_1_ k_) (.slice A0_1 l0_1.length c0_1) l0_1) (h : flock_Lock.f l0_0 l0_1 a1 a2 = some (r1, r2, r3)) :
  Calls Try.prog 11 #[.agg #[.slice A0_0 l0_0.length c0_0, .slice A0_1 l0_1.length c0_1], .int .i64 a1, .int .i64 a2] w fun e w' => ∃ v0_ v1_ : Value, e = .returned (.tuple #[.agg #[v0_, v1_], .int .i64 r3]) ∧ Kd.V k44 44 w' w.heap.size (fun k_ => ((P0_0_ k_ ∨ P0_1_ k_) ∨ w.heap.size ≤ k_)) v0_ r1 ∧ Kd.V (Kd.slice 3 (Kd.int .i64)) 48 w' w.heap.size (fun k_ => ((P0_0_ k_ ∨ P0_1_ k_) ∨ w.heap.size ≤ k_)) v1_ r2 ∧ Below w.heap.size w w' := by
 have hC0 := (Vr_ hs0_0).2.2
 have hC1 := (Vr_ hs0_1).2.2
 have came : ∀ {w' : World}, Below w.heap.size w w' → Kd.V k44 44 w' w.heap.size (fun k_ => ((P0_0_ k_ ∨ P0_1_ k_) ∨ w.heap.size ≤ k_)) (.slice A0_0 l0_0.length c0_0) l0_0 ∧ Kd.V (Kd.slice 3 (Kd.int .i64)) 48 w' w.heap.size (fun k_ => ((P0_0_ k_ ∨ P0_1_ k_) ∨ w.heap.size ≤ k_)) (.slice A0_1 l0_1.length c0_1) l0_1 :=
  fun hb => ⟨Vm_ (Vb_ hs0_0 hb) (fun _ hk => .inl (.inl hk)), Vm_ (Vb_ hs0_1 hb) (fun _ hk => .inl (.inr hk))⟩
 unfold flock_Lock.f at h
 by_cases c1 : a2 < 0 ∨ 2 < a2
 ·rw [if_pos c1] at h
  simp only [Option.some.injEq, Prod.mk.injEq] at h
  obtain ⟨rfl, rfl, rfl⟩ := h
  refine (Lock_arg A0_0 c0_0 A0_1 c0_1 l0_1.length a1 a2 w l0_0.length c1).mono ?_
  rintro e w' ⟨rfl, hb⟩
  exact ⟨_, _, rfl, (came hb).1, (came hb).2, hb⟩
 rw [if_neg c1] at h
 by_cases c2 : a1 < 0 ∨ (l0_0.length : Int) ≤ a1 ∨ (rd_T44 l0_0 a1).f4 < 1
 ·rw [if_pos c2] at h
  simp only [Option.some.injEq, Prod.mk.injEq] at h
  obtain ⟨rfl, rfl, rfl⟩ := h
  refine (Lock_bad A0_0 c0_0 A0_1 c0_1 l0_1.length a1 a2 w l0_0 (by omega) (by omega) hC0 c2).mono ?_
  rintro e w' ⟨rfl, hb⟩
  exact ⟨_, _, rfl, (came hb).1, (came hb).2, hb⟩
 rw [if_neg c2] at h
 obtain ⟨k, rfl⟩ : ∃ k : Nat, a1 = (k : Int) := ⟨a1.toNat, by omega⟩
 obtain ⟨cf, f1, f2, f3, f4⟩ := C_cells (Kd.slice 3 (Kd.int .i64)) hC1
 refine Lock_go A0_0 c0_0 l0_0 A0_1 c0_1 l0_1.length k a2 w _ (by omega) (by omega) hC0 (by omega) (by omega) cf f1 f4 f3 (fun hbl w' hb => ?_) (fun hbl => ?_)
 ·rw [if_pos hbl] at h
  simp only [Option.some.injEq, Prod.mk.injEq] at h
  obtain ⟨rfl, rfl, rfl⟩ := h
  exact ⟨_, _, rfl, (came hb).1, (came hb).2, hb⟩
 ·rw [if_neg (by rw [hbl]; decide)] at h
  by_cases c3 : 7036874417766 < l0_0.length ∨ 11728124029610 < l0_1.length
  ·rw [if_pos c3] at h
   cases h
  rw [if_neg c3] at h
  simp only [Option.some.injEq, Prod.mk.injEq, Int.toNat_natCast] at h
  obtain ⟨rfl, rfl, rfl⟩ := h
  refine ⟨by omega, fun w' gd gf hgd hgf hcd hcf hb => ⟨_, _, rfl, ?_, ?_, hb⟩⟩
  ·have e : l0_0.length = (l0_0.set k { rd_T44 l0_0 (k : Int) with f5 := a2 }).length := by simp
   rw [e]
   refine Kd.V_mk (Nat.le_refl _) (fun W hW => C_of_block k44 (cells44_reps W _) (by rw [← e]; omega) ((hW gd (.inr hgd) (blk_lt hcd)).trans hcd))
  ·exact V_copied (Kd.slice 3 (Kd.int .i64)) hs0_1 (fun _ hk _ => .inl (.inr hk)) (.inr hgf) f1 f4 (fun k_ _ hlt => hb.block k_ hlt) hcf (Nat.le_refl _)

end Go.Proofs.Ytbfjakhloabhmaa.P
