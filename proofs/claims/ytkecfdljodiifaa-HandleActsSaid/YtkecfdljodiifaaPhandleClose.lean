-- Printed by a program of this session (inject.py) over the kit's print, with functions that were proved by hand in their places.
import Derived.Test.YtkecfdljodiifaaPK
import Derived.Test.YtkecfdljodiifaaPhandleGet
import Derived.Test.YtkecfdljodiifaaHo
namespace Go.Proofs.Ytkecfdljodiifaa.P
open Go.RowKit Go.Proofs.YtkecfdljodiifaaW.PrintWords Go.Proofs.YtkecfdljodiifaaW.PrintLast Go.Proofs.YtkecfdljodiifaaW.PrintMore
attribute [local go_sem] max2_int min2_int max_two min_two max_three min_three max_four min_four   -- for this text's walks alone
set_option linter.unusedVariables false
set_option linter.unusedSimpArgs false

/-! ### handle_Close: function 21 -/
-- given by hand
-- over YtkecfdljodiifaaHo
def handle_Close.f (l0_0 : List S38) (l0_1 : List (List Int)) (a1 : Int) (a2 : Int) : Option (List S38 × List (List Int) × Int × Int × Bool × Bool × Int × Int × Int) :=
 (handle_Get.f l0_0 l0_1 a1 a2).bind fun g => if g.2.2.2.2.2.2.2 = false then some (l0_0, l0_1, 0, 0, false, false, 0, 0, 12)
 else if (rd_L1 l0_1 a1).length ≠ 8 ∨ 1000 < l0_0.length ∨ 1000 < l0_1.length then none
 else some (l0_0.set g.1.toNat (left38 (rd_T38 l0_0 g.1)), l0_1.set a1.toNat ((rd_L1 l0_1 a1).set a2.toNat (-1)), (rd_T38 l0_0 g.1).f0, (rd_T38 l0_0 g.1).f1, (rd_T38 l0_0 g.1).f2, (rd_T38 l0_0 g.1).f3, wrap64 ((rd_T38 l0_0 g.1).f4 - 1), (rd_T38 l0_0 g.1).f5, 0)
theorem handle_Close.calls (P0_0_ : Nat → Prop) (A0_0 : Option Addr) (c0_0 : Nat) (l0_0 : List (S38)) (P0_1_ : Nat → Prop) (A0_1 : Option Addr) (c0_1 : Nat) (l0_1 : List (List Int)) (a1 : Int) (a2 : Int) (r1 : List (S38)) (r2 : List (List Int)) (r3 : Int) (r4 : Int) (r5 : Bool) (r6 : Bool) (r7 : Int) (r8 : Int) (r9 : Int) (w : World) (hs0_0 : Kd.V k38 38 w w.heap.size (fun k_ => P0_0_ k_) (.slice A0_0 l0_0.length c0_0) l0_0) (hs0_1 : Kd.V (Kd.slice 3 (Kd.int .i64)) 64 w w.heap.size (fun k_ => P0_1_ k_) (.slice A0_1 l0_1.length c0_1) l0_1) (h : handle_Close.f l0_0 l0_1 a1 a2 = some (r1, r2, r3, r4, r5, r6, r7, r8, r9)) :
  Calls Try.prog 21 #[.agg #[.slice A0_0 l0_0.length c0_0, .slice A0_1 l0_1.length c0_1], .int .i64 a1, .int .i64 a2] w fun e w' => ∃ v0_ v1_ : Value, e = .returned (.tuple #[.agg #[v0_, v1_], .agg #[.int .i64 r3, .int .i64 r4, .bool r5, .bool r6, .int .i64 r7, .int .i64 r8], .int .i64 r9]) ∧ Kd.V k38 38 w' w.heap.size (fun k_ => ((P0_0_ k_ ∨ P0_1_ k_) ∨ w.heap.size ≤ k_)) v0_ r1 ∧ Kd.V (Kd.slice 3 (Kd.int .i64)) 64 w' w.heap.size (fun k_ => ((P0_0_ k_ ∨ P0_1_ k_) ∨ w.heap.size ≤ k_)) v1_ r2 ∧ Below w.heap.size w w' := by
 have hC0 := (Vr_ hs0_0).2.2
 have hC1 := (Vr_ hs0_1).2.2
 have hc0 := (Vr_ hs0_0).2.1
 have hc1 := (Vr_ hs0_1).2.1
 have came : ∀ {w' : World}, Below w.heap.size w w' → Kd.V k38 38 w' w.heap.size (fun k_ => ((P0_0_ k_ ∨ P0_1_ k_) ∨ w.heap.size ≤ k_)) (.slice A0_0 l0_0.length c0_0) l0_0 ∧ Kd.V (Kd.slice 3 (Kd.int .i64)) 64 w' w.heap.size (fun k_ => ((P0_0_ k_ ∨ P0_1_ k_) ∨ w.heap.size ≤ k_)) (.slice A0_1 l0_1.length c0_1) l0_1 :=
  fun hb => ⟨Vm_ (Vb_ hs0_0 hb) (fun _ hk => .inl (.inl hk)), Vm_ (Vb_ hs0_1 hb) (fun _ hk => .inl (.inr hk))⟩
 unfold handle_Close.f at h
 cases hg : handle_Get.f l0_0 l0_1 a1 a2 with
 | none => rw [hg] at h; cases h
 | some g =>
  obtain ⟨g1, g2, g3, g4, g5, g6, g7, g8⟩ := g
  rw [hg, Option.bind_some] at h
  dsimp only at h
  cases g8 with
  | false =>
   rw [if_pos rfl] at h
   simp only [Option.some.injEq, Prod.mk.injEq] at h
   obtain ⟨rfl, rfl, rfl, rfl, rfl, rfl, rfl, rfl, rfl⟩ := h
   refine (Close_bad A0_0 c0_0 l0_0 A0_1 c0_1 l0_1 a1 a2 g1 g2 g3 g4 g5 g6 g7 w hC0 hc0 hC1 hc1 hg).mono ?_
   rintro e w' ⟨rfl, hb⟩
   exact ⟨_, _, rfl, (came hb).1, (came hb).2, hb⟩
  | true =>
   rw [if_neg (by decide)] at h
   obtain ⟨p0, p1, d0, d1, i0, i1, _, ex⟩ := get_true hg
   by_cases c2 : (rd_L1 l0_1 a1).length ≠ 8 ∨ 1000 < l0_0.length ∨ 1000 < l0_1.length
   ·rw [if_pos c2] at h
    cases h
   rw [if_neg c2] at h
   obtain ⟨k, rfl⟩ : ∃ k : Nat, a1 = (k : Int) := ⟨a1.toNat, by omega⟩
   obtain ⟨i, rfl⟩ : ∃ i : Nat, g1 = (i : Int) := ⟨g1.toNat, by omega⟩
   obtain ⟨d, rfl⟩ : ∃ d : Nat, a2 = (d : Int) := ⟨a2.toNat, by omega⟩
   rw [ex] at h
   obtain ⟨row, erow⟩ : ∃ row, row = rd_L1 l0_1 (k : Int) := ⟨_, rfl⟩
   rw [← erow] at h c2 d1
   obtain ⟨cf, f1, f2, f3, f4⟩ := C_cells (Kd.slice 3 (Kd.int .i64)) hC1
   obtain ⟨ad1, rfl, hs1⟩ := f4 (by omega)
   obtain ⟨ar, cr, hck, hc, hrow⟩ := row_cell f1 f2 k (by omega) row erow (by omega)
   simp only [Option.some.injEq, Prod.mk.injEq, Int.toNat_natCast] at h
   obtain ⟨rfl, rfl, rfl, rfl, rfl, rfl, rfl, rfl, rfl⟩ := h
   refine (Close_ok ad1 ar k cr cf row d i A0_0 c0_0 l0_0 c0_1 l0_1 g2 g3 g4 g5 g6 g7 w hC0 hc0 hC1 hc1 hg (by omega) (by omega) (by omega) (by omega) (by omega) (by omega) f1 hs1 f3 hck hc hrow).mono ?_
   rintro e w' ⟨⟨gd, gf, gr, rfl, hgd, hgf, hgr, hcd, hcf, hcr⟩, hb⟩
   refine ⟨_, _, rfl, ?_, ?_, hb⟩
   ·have e : l0_0.length = (l0_0.set i (left38 ⟨g2, g3, g4, g5, g6, g7⟩)).length := by simp
    rw [e]
    refine Kd.V_mk (Nat.le_refl _) (fun W hW => C_of_block k38 (cells38_reps W _) (by rw [← e]; omega) ((hW gd (.inr hgd) (blk_lt hcd)).trans hcd))
   ·have er : row.length = (row.set d (-1)).length := by simp
    rw [er] at hcf
    exact V_row_set hs0_1 (fun _ hk _ => .inl (.inr hk)) (.inr hgf) (.inr hgr) f1 f4 (fun k_ _ hlt => hb.block k_ hlt) (by rw [← er]; omega) hcf hcr

end Go.Proofs.Ytkecfdljodiifaa.P
