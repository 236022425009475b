-- Printed by a program of this session (inject.py) over the kit's print, with functions that were proved by hand in their places.
import Derived.Test.YtkecfdljodiifaaPK
import Derived.Test.YtkecfdljodiifaaPslicesIndexintint
import Derived.Test.YtkecfdljodiifaaHm
namespace Go.Proofs.Ytkecfdljodiifaa.P
open Go.RowKit Go.Proofs.YtkecfdljodiifaaW.PrintWords Go.Proofs.YtkecfdljodiifaaW.PrintLast Go.Proofs.YtkecfdljodiifaaW.PrintMore
attribute [local go_sem] max2_int min2_int max_two min_two max_three min_three max_four min_four   -- for this text's walks alone
set_option linter.unusedVariables false
set_option linter.unusedSimpArgs false

/-! ### handle_Open: function 19 -/
-- given by hand
-- over YtkecfdljodiifaaHm
def handle_Open.f (l0_0 : List S38) (l0_1 : List (List Int)) (a1 : Int) (a2_0 : Int) (a2_1 : Int) (a2_2 : Bool) (a2_3 : Bool) (a2_4 : Int) (a2_5 : Int) : Option (List S38 × List (List Int) × Int × Int) :=
 if a1 < 0 ∨ (l0_1.length : Int) ≤ a1 then some (l0_0, l0_1, 0, 1)
 else if (rd_L1 l0_1 a1).length ≠ 8 ∨ 1000 < l0_0.length ∨ 1000 < l0_1.length then none
 else match slices_Index_int_int.f 9 (rd_L1 l0_1 a1) (-1) with
  | none => none
  | some r =>
   if r < 0 then some (l0_0, l0_1, 0, 13)
   else if 8 ≤ r then none
   else some (placed l0_0 (placeOf l0_0) ⟨a2_0, a2_1, a2_2, a2_3, 1, a2_5⟩, l0_1.set a1.toNat ((rd_L1 l0_1 a1).set r.toNat (placeOf l0_0 : Int)), r, 0)
theorem handle_Open.calls (P0_0_ : Nat → Prop) (A0_0 : Option Addr) (c0_0 : Nat) (l0_0 : List (S38)) (P0_1_ : Nat → Prop) (A0_1 : Option Addr) (c0_1 : Nat) (l0_1 : List (List Int)) (a1 : Int) (a2_0 : Int) (a2_1 : Int) (a2_2 : Bool) (a2_3 : Bool) (a2_4 : Int) (a2_5 : Int) (r1 : List (S38)) (r2 : List (List Int)) (r3 : Int) (r4 : Int) (w : World) (hs0_0 : Kd.V k38 38 w w.heap.size (fun k_ => P0_0_ k_) (.slice A0_0 l0_0.length c0_0) l0_0) (hs0_1 : Kd.V (Kd.slice 3 (Kd.int .i64)) 64 w w.heap.size (fun k_ => P0_1_ k_) (.slice A0_1 l0_1.length c0_1) l0_1) (h : handle_Open.f l0_0 l0_1 a1 a2_0 a2_1 a2_2 a2_3 a2_4 a2_5 = some (r1, r2, r3, r4)) :
  Calls Try.prog 19 #[.agg #[.slice A0_0 l0_0.length c0_0, .slice A0_1 l0_1.length c0_1], .int .i64 a1, .agg #[.int .i64 a2_0, .int .i64 a2_1, .bool a2_2, .bool a2_3, .int .i64 a2_4, .int .i64 a2_5]] w fun e w' => ∃ v0_ v1_ : Value, e = .returned (.tuple #[.agg #[v0_, v1_], .int .i64 r3, .int .i64 r4]) ∧ Kd.V k38 38 w' w.heap.size (fun k_ => ((P0_0_ k_ ∨ P0_1_ k_) ∨ w.heap.size ≤ k_)) v0_ r1 ∧ Kd.V (Kd.slice 3 (Kd.int .i64)) 64 w' w.heap.size (fun k_ => ((P0_0_ k_ ∨ P0_1_ k_) ∨ w.heap.size ≤ k_)) v1_ r2 ∧ Below w.heap.size w w' := by
 have hC0 := (Vr_ hs0_0).2.2
 have hC1 := (Vr_ hs0_1).2.2
 have came : ∀ {w' : World}, Below w.heap.size w w' → Kd.V k38 38 w' w.heap.size (fun k_ => ((P0_0_ k_ ∨ P0_1_ k_) ∨ w.heap.size ≤ k_)) (.slice A0_0 l0_0.length c0_0) l0_0 ∧ Kd.V (Kd.slice 3 (Kd.int .i64)) 64 w' w.heap.size (fun k_ => ((P0_0_ k_ ∨ P0_1_ k_) ∨ w.heap.size ≤ k_)) (.slice A0_1 l0_1.length c0_1) l0_1 :=
  fun hb => ⟨Vm_ (Vb_ hs0_0 hb) (fun _ hk => .inl (.inl hk)), Vm_ (Vb_ hs0_1 hb) (fun _ hk => .inl (.inr hk))⟩
 unfold handle_Open.f at h
 by_cases c1 : a1 < 0 ∨ (l0_1.length : Int) ≤ a1
 ·rw [if_pos c1] at h
  simp only [Option.some.injEq, Prod.mk.injEq] at h
  obtain ⟨rfl, rfl, rfl, rfl⟩ := h
  refine (Open_none A0_0 l0_0.length c0_0 A0_1 l0_1.length c0_1 a1 ⟨a2_0, a2_1, a2_2, a2_3, a2_4, a2_5⟩ w hC1.2.1 c1).mono ?_
  rintro e w' ⟨rfl, hb⟩
  exact ⟨_, _, rfl, (came hb).1, (came hb).2, hb⟩
 rw [if_neg c1] at h
 by_cases c2 : (rd_L1 l0_1 a1).length ≠ 8 ∨ 1000 < l0_0.length ∨ 1000 < l0_1.length
 ·rw [if_pos c2] at h
  cases h
 rw [if_neg c2] at h
 obtain ⟨k, rfl⟩ : ∃ k : Nat, a1 = (k : Int) := ⟨a1.toNat, by omega⟩
 obtain ⟨row, erow⟩ : ∃ row, row = rd_L1 l0_1 (k : Int) := ⟨_, rfl⟩
 rw [← erow] at h c2
 obtain ⟨cf, f1, f2, f3, f4⟩ := C_cells (Kd.slice 3 (Kd.int .i64)) hC1
 obtain ⟨ad1, rfl, hs1⟩ := f4 (by omega)
 obtain ⟨ar, cr, hck, hc, hrow⟩ := row_cell f1 f2 k (by omega) row erow (by omega)
 obtain ⟨i, hi⟩ : ∃ i, i = placeOf l0_0 := ⟨_, rfl⟩
 have hI : (i < l0_0.length ∧ placeAt l0_0 = (i : Int)) ∨ (i = l0_0.length ∧ placeAt l0_0 = -1) := hi ▸ place_two l0_0
 rw [← hi] at h
 cases hx : slices_Index_int_int.f 9 row (-1) with
 | none => rw [hx] at h; cases h
 | some r =>
  rw [hx] at h
  simp only at h
  by_cases c3 : r < 0
  ·rw [if_pos c3] at h
   simp only [Option.some.injEq, Prod.mk.injEq] at h
   obtain ⟨rfl, rfl, rfl, rfl⟩ := h
   refine (Open_many ⟨a2_0, a2_1, a2_2, a2_3, a2_4, a2_5⟩ i A0_0 c0_0 l0_0 ad1 ar c0_1 l0_1.length k cr row 9 r w (by omega) hC1.2.1 hI (by omega) hC0 (hs1 k _ hck) hc hrow hx c3).mono ?_
   rintro e w' ⟨rfl, hb⟩
   exact ⟨_, _, rfl, (came hb).1, (came hb).2, hb⟩
  rw [if_neg c3] at h
  by_cases c4 : 8 ≤ r
  ·rw [if_pos c4] at h
   cases h
  rw [if_neg c4] at h
  obtain ⟨fd, rfl⟩ : ∃ fd : Nat, r = (fd : Int) := ⟨r.toNat, by omega⟩
  simp only [Option.some.injEq, Prod.mk.injEq, Int.toNat_natCast] at h
  obtain ⟨rfl, rfl, rfl, rfl⟩ := h
  refine (Open_ok ⟨a2_0, a2_1, a2_2, a2_3, a2_4, a2_5⟩ A0_0 c0_0 l0_0 ad1 ar c0_1 l0_1.length k cr cf row 9 fd i w (by omega) hI (by omega) (by omega) (by omega) (by omega) hC0 f1 hs1 f3 hck hc hrow hx).mono ?_
  rintro e w' ⟨⟨gd, gf, gr, cap, cur, rfl, hcap, hgd, hgf, hgr, hcd, htk, hcf, hcr⟩, hb⟩
  have el := placed_length l0_0 i ⟨a2_0, a2_1, a2_2, a2_3, a2_4, a2_5⟩ ⟨a2_0, a2_1, a2_2, a2_3, 1, a2_5⟩
  rw [el] at hcap htk ⊢
  have hle := placed_le l0_0 i ⟨a2_0, a2_1, a2_2, a2_3, 1, a2_5⟩
  refine ⟨_, _, rfl, V_prefix (.inr hgd) (by omega) hcap hcd htk, ?_, hb⟩
  have er : row.length = (row.set fd (i : Int)).length := by simp
  rw [er] at hcf
  exact V_row_set hs0_1 (fun _ hk _ => .inl (.inr hk)) (.inr hgf) (.inr hgr) f1 f4 (fun k_ _ hlt => hb.block k_ hlt) (by rw [← er]; omega) hcf hcr

end Go.Proofs.Ytkecfdljodiifaa.P
