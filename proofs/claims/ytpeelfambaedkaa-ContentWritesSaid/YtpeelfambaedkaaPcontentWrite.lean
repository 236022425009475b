-- Printed by a program of this session (inject.py) over the kit's print, with functions that were proved by hand in their places.
import Derived.Test.YtpeelfambaedkaaPK
import Derived.Test.YtpeelfambaedkaaPcontentfile
import Derived.Test.YtpeelfambaedkaaHo
namespace Go.Proofs.Ytpeelfambaedkaa.P
open Go.RowKit Go.Proofs.YtpeelfambaedkaaW.PrintWords Go.Proofs.YtpeelfambaedkaaW.PrintLast Go.Proofs.YtpeelfambaedkaaW.PrintMore
attribute [local go_sem] max2_int min2_int max_two min_two max_three min_three max_four min_four   -- for this text's walks alone
set_option linter.unusedVariables false
set_option linter.unusedSimpArgs false

/-! ### content_Write: function 16 -/
-- given by hand
-- over YtpeelfambaedkaaHo
def content_Write.f (l0_0 : List S59) (a0_1 : Int) (a0_2 : Int) (a1 : Int) (a2 : Int) (a3 : ByteArray) : Option (List S59 × Int × Int × Int) :=
 (content_file.f l0_0 a0_1 a0_2 a1).bind fun t =>
  if t.2.2.2.2.2.2.2.2 ≠ 0 then some (l0_0, a0_1, a0_2, t.2.2.2.2.2.2.2.2)
  else if a2 < 0 then some (l0_0, a0_1, a0_2, 1)
  else if a3.toList = ([] : List UInt8) then some (l0_0, a0_1, a0_2, 0)
  else if 1000 < a2 then some (l0_0, a0_1, a0_2, 10)
  else if tooBig l0_0 a1 (a2.toNat + a3.size) ∨ 3000 < a3.size then none
  else some (if codeOf (rd_T59 l0_0 a1).f6 (bytesSum l0_0 0) a0_2 (a2.toNat + a3.size) = 10 then l0_0 else l0_0.set a1.toNat { rd_T59 l0_0 a1 with f6 := written (rd_T59 l0_0 a1).f6 a2.toNat (a2.toNat + a3.size) a3 }, a0_1, a0_2, codeOf (rd_T59 l0_0 a1).f6 (bytesSum l0_0 0) a0_2 (a2.toNat + a3.size))
theorem content_Write.calls (P0_0_ : Nat → Prop) (A0_0 : Option Addr) (c0_0 : Nat) (l0_0 : List (S59)) (a0_1 : Int) (a0_2 : Int) (a1 : Int) (a2 : Int) (a3 : ByteArray) (r1 : List (S59)) (r2 : Int) (r3 : Int) (r4 : Int) (w : World) (hs0_0 : Kd.V k59 59 w w.heap.size (fun k_ => P0_0_ k_) (.slice A0_0 l0_0.length c0_0) l0_0) (h : content_Write.f l0_0 a0_1 a0_2 a1 a2 a3 = some (r1, r2, r3, r4)) :
  Calls Try.prog 16 #[.agg #[.slice A0_0 l0_0.length c0_0, .int .i64 a0_1, .int .i64 a0_2], .int .i64 a1, .int .i64 a2, .string a3] w fun e w' => ∃ v0_ : Value, e = .returned (.tuple #[.agg #[v0_, .int .i64 r2, .int .i64 r3], .int .i64 r4]) ∧ Kd.V k59 59 w' w.heap.size (fun k_ => (P0_0_ k_ ∨ w.heap.size ≤ k_)) v0_ r1 ∧ Below w.heap.size w w' := by
 have hC0 := (Vr_ hs0_0).2.2
 have hc0 := (Vr_ hs0_0).2.1
 have came : ∀ {w' : World}, Below w.heap.size w w' → Kd.V k59 59 w' w.heap.size (fun k_ => (P0_0_ k_ ∨ w.heap.size ≤ k_)) (.slice A0_0 l0_0.length c0_0) l0_0 := fun hb => Vm_ (Vb_ hs0_0 hb) (fun _ hk => .inl hk)
 unfold content_Write.f at h
 obtain ⟨⟨t1, t2, t3, t4, t5, t6, t7, t8, t9⟩, hf, h⟩ := Option.bind_eq_some_iff.1 h
 dsimp only at h
 by_cases h9 : t9 = 0
 ·rw [if_neg (fun e => e h9)] at h
  by_cases hp : a2 < 0
  ·rw [if_pos hp] at h
   simp only [Option.some.injEq, Prod.mk.injEq] at h
   obtain ⟨rfl, rfl, rfl, rfl⟩ := h
   refine (Write_neg A0_0 c0_0 l0_0 a0_1 a0_2 a1 a2 a3 t1 t2 t3 t4 t5 t6 t7 t8 t9 w hC0 hc0 hf h9 hp).mono ?_
   rintro e w' ⟨rfl, hb⟩
   exact ⟨_, rfl, came hb, hb⟩
  rw [if_neg hp] at h
  by_cases hs : a3.toList = ([] : List UInt8)
  ·rw [if_pos hs] at h
   simp only [Option.some.injEq, Prod.mk.injEq] at h
   obtain ⟨rfl, rfl, rfl, rfl⟩ := h
   refine (Write_nil A0_0 c0_0 l0_0 a0_1 a0_2 a1 a2 a3 t1 t2 t3 t4 t5 t6 t7 t8 t9 w hC0 hc0 hf h9 hp hs).mono ?_
   rintro e w' ⟨rfl, hb⟩
   exact ⟨_, rfl, came hb, hb⟩
  rw [if_neg hs] at h
  by_cases hq : 1000 < a2
  ·rw [if_pos hq] at h
   simp only [Option.some.injEq, Prod.mk.injEq] at h
   obtain ⟨rfl, rfl, rfl, rfl⟩ := h
   refine (Write_far A0_0 c0_0 l0_0 a0_1 a0_2 a1 a2 a3 t1 t2 t3 t4 t5 t6 t7 t8 t9 w hC0 hc0 hf h9 hp hs hq).mono ?_
   rintro e w' ⟨rfl, hb⟩
   exact ⟨_, rfl, came hb, hb⟩
  rw [if_neg hq] at h
  by_cases hbig : tooBig l0_0 a1 (a2.toNat + a3.size) ∨ 3000 < a3.size
  ·rw [if_pos hbig] at h
   cases h
  rw [if_neg hbig] at h
  obtain ⟨hb1, hb2⟩ := not_or.1 hbig
  subst h9
  obtain ⟨f1, f2, f3, _⟩ := file_ok hf
  obtain ⟨i, rfl⟩ : ∃ i : Nat, a1 = (i : Int) := ⟨a1.toNat, by omega⟩
  obtain ⟨k, rfl⟩ : ∃ k : Nat, a2 = (k : Int) := ⟨a2.toNat, by omega⟩
  simp only [Option.some.injEq, Prod.mk.injEq, Int.toNat_natCast] at h hb1
  obtain ⟨rfl, rfl, rfl, rfl⟩ := h
  exact Write_V i k (k + a3.size) a3 hs0_0 (by omega) f3 hb1 hs (by omega) (by omega) rfl
 ·rw [if_pos h9] at h
  simp only [Option.some.injEq, Prod.mk.injEq] at h
  obtain ⟨rfl, rfl, rfl, rfl⟩ := h
  refine (Write_err A0_0 c0_0 l0_0 a0_1 a0_2 a1 a2 a3 t1 t2 t3 t4 t5 t6 t7 t8 t9 w hC0 hc0 hf h9).mono ?_
  rintro e w' ⟨rfl, hb⟩
  exact ⟨_, rfl, came hb, hb⟩

end Go.Proofs.Ytpeelfambaedkaa.P
