-- Printed by a program of this session (inject.py) over the kit's print, with functions that were proved by hand in their places.
import Derived.Test.YtpeelfambaedkaaPK
import Derived.Test.YtpeelfambaedkaaPcontentSize
import Derived.Test.YtpeelfambaedkaaHo
namespace Go.Proofs.Ytpeelfambaedkaa.P
open Go.RowKit Go.Proofs.YtpeelfambaedkaaW.PrintWords Go.Proofs.YtpeelfambaedkaaW.PrintLast Go.Proofs.YtpeelfambaedkaaW.PrintMore
attribute [local go_sem] max2_int min2_int max_two min_two max_three min_three max_four min_four   -- for this text's walks alone
set_option linter.unusedVariables false
set_option linter.unusedSimpArgs false

/-! ### content_Cut: function 18 -/
-- given by hand
-- over YtpeelfambaedkaaHo
def content_Cut.f (l0_0 : List S59) (a0_1 : Int) (a0_2 : Int) (a1 : Int) (a2 : Int) : Option (List S59 × Int × Int × Int) :=
 (content_Size.f l0_0 a0_1 a0_2 a1).bind fun t =>
  if t.2 ≠ 0 then some (l0_0, a0_1, a0_2, t.2)
  else if a2 < 0 then some (l0_0, a0_1, a0_2, 1)
  else if t.1 < a2 ∧ 1000 < a2 then some (l0_0, a0_1, a0_2, 10)
  else if tooBig l0_0 a1 a2.toNat then none
  else some (if codeOf (rd_T59 l0_0 a1).f6 (bytesSum l0_0 0) a0_2 a2.toNat = 10 then l0_0 else l0_0.set a1.toNat { rd_T59 l0_0 a1 with f6 := cutTo (rd_T59 l0_0 a1).f6 a2.toNat }, a0_1, a0_2, codeOf (rd_T59 l0_0 a1).f6 (bytesSum l0_0 0) a0_2 a2.toNat)
theorem content_Cut.calls (P0_0_ : Nat → Prop) (A0_0 : Option Addr) (c0_0 : Nat) (l0_0 : List (S59)) (a0_1 : Int) (a0_2 : Int) (a1 : Int) (a2 : Int) (r1 : List (S59)) (r2 : Int) (r3 : Int) (r4 : Int) (w : World) (hs0_0 : Kd.V k59 59 w w.heap.size (fun k_ => P0_0_ k_) (.slice A0_0 l0_0.length c0_0) l0_0) (h : content_Cut.f l0_0 a0_1 a0_2 a1 a2 = some (r1, r2, r3, r4)) :
  Calls Try.prog 18 #[.agg #[.slice A0_0 l0_0.length c0_0, .int .i64 a0_1, .int .i64 a0_2], .int .i64 a1, .int .i64 a2] w fun e w' => ∃ v0_ : Value, e = .returned (.tuple #[.agg #[v0_, .int .i64 r2, .int .i64 r3], .int .i64 r4]) ∧ Kd.V k59 59 w' w.heap.size (fun k_ => (P0_0_ k_ ∨ w.heap.size ≤ k_)) v0_ r1 ∧ Below w.heap.size w w' := by
 have hC0 := (Vr_ hs0_0).2.2
 have hc0 := (Vr_ hs0_0).2.1
 have came : ∀ {w' : World}, Below w.heap.size w w' → Kd.V k59 59 w' w.heap.size (fun k_ => (P0_0_ k_ ∨ w.heap.size ≤ k_)) (.slice A0_0 l0_0.length c0_0) l0_0 := fun hb => Vm_ (Vb_ hs0_0 hb) (fun _ hk => .inl hk)
 unfold content_Cut.f at h
 obtain ⟨⟨t8, t9⟩, hf, h⟩ := Option.bind_eq_some_iff.1 h
 dsimp only at h
 by_cases h9 : t9 = 0
 ·rw [if_neg (fun e => e h9)] at h
  by_cases hp : a2 < 0
  ·rw [if_pos hp] at h
   simp only [Option.some.injEq, Prod.mk.injEq] at h
   obtain ⟨rfl, rfl, rfl, rfl⟩ := h
   refine (Cut_neg A0_0 c0_0 l0_0 a0_1 a0_2 a1 a2 t8 t9 w hC0 hc0 hf h9 hp).mono ?_
   rintro e w' ⟨rfl, hb⟩
   exact ⟨_, rfl, came hb, hb⟩
  rw [if_neg hp] at h
  by_cases hq : t8 < a2 ∧ 1000 < a2
  ·rw [if_pos hq] at h
   simp only [Option.some.injEq, Prod.mk.injEq] at h
   obtain ⟨rfl, rfl, rfl, rfl⟩ := h
   refine (Cut_far A0_0 c0_0 l0_0 a0_1 a0_2 a1 a2 t8 t9 w hC0 hc0 hf h9 hp hq.1 hq.2).mono ?_
   rintro e w' ⟨rfl, hb⟩
   exact ⟨_, rfl, came hb, hb⟩
  rw [if_neg hq] at h
  by_cases hbig : tooBig l0_0 a1 a2.toNat
  ·rw [if_pos hbig] at h
   cases h
  rw [if_neg hbig] at h
  subst h9
  obtain ⟨f1, f2, f3, f4⟩ := size_ok hf
  obtain ⟨i, rfl⟩ : ∃ i : Nat, a1 = (i : Int) := ⟨a1.toNat, by omega⟩
  obtain ⟨k, rfl⟩ : ∃ k : Nat, a2 = (k : Int) := ⟨a2.toNat, by omega⟩
  simp only [Option.some.injEq, Prod.mk.injEq, Int.toNat_natCast] at h hbig
  obtain ⟨rfl, rfl, rfl, rfl⟩ := h
  exact Cut_V i k hs0_0 (by omega) f3 hbig (f4 ▸ hf) (f4 ▸ hq)
 ·rw [if_pos h9] at h
  simp only [Option.some.injEq, Prod.mk.injEq] at h
  obtain ⟨rfl, rfl, rfl, rfl⟩ := h
  refine (Cut_err A0_0 c0_0 l0_0 a0_1 a0_2 a1 a2 t8 t9 w hC0 hc0 hf h9).mono ?_
  rintro e w' ⟨rfl, hb⟩
  exact ⟨_, rfl, came hb, hb⟩

end Go.Proofs.Ytpeelfambaedkaa.P
