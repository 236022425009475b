-- Printed by a program of this session (inject.py) over the kit's print, with functions that were proved by hand in their places.
import Derived.Test.YtpeelfambaedkaaPK
import Derived.Test.YtpeelfambaedkaaHb
namespace Go.Proofs.Ytpeelfambaedkaa.P
open Go.RowKit Go.Proofs.YtpeelfambaedkaaW.PrintWords Go.Proofs.YtpeelfambaedkaaW.PrintLast Go.Proofs.YtpeelfambaedkaaW.PrintMore
attribute [local go_sem] max2_int min2_int max_two min_two max_three min_three max_four min_four   -- for this text's walks alone
set_option linter.unusedVariables false
set_option linter.unusedSimpArgs false

/-! ### disk_Get: function 34 -/
-- given by hand
-- over YtpeelfambaedkaaHb
def disk_Get.f (l0_0 : List S59) (_a0_1 : Int) (_a0_2 : Int) (a1 : Int) : Option (Int × Int × Int × Int × Int × Int × ByteArray × List S76 × Bool) :=
  if 0 ≤ a1 ∧ a1 < (l0_0.length : Int) ∧ (rd_T59 l0_0 a1).f0 ≠ 0 then some ((rd_T59 l0_0 a1).f0, (rd_T59 l0_0 a1).f1, (rd_T59 l0_0 a1).f2, (rd_T59 l0_0 a1).f3, (rd_T59 l0_0 a1).f4, (rd_T59 l0_0 a1).f5, (rd_T59 l0_0 a1).f6, (rd_T59 l0_0 a1).f7, true)
  else some (0, 0, 0, 0, 0, 0, ⟨#[]⟩, [], false)
theorem disk_Get.calls (P0_0_ : Nat → Prop) (A0_0 : Option Addr) (c0_0 : Nat) (l0_0 : List (S59)) (a0_1 : Int) (a0_2 : Int) (a1 : Int) (r1 : Int) (r2 : Int) (r3 : Int) (r4 : Int) (r5 : Int) (r6 : Int) (r7 : ByteArray) (r8 : List (S76)) (r9 : Bool) (w : World) (hs0_0 : Kd.V k59 59 w w.heap.size (fun k_ => P0_0_ k_) (.slice A0_0 l0_0.length c0_0) l0_0) (h : disk_Get.f l0_0 a0_1 a0_2 a1 = some (r1, r2, r3, r4, r5, r6, r7, r8, r9)) :
    Calls Try.prog 34 #[.agg #[.slice A0_0 l0_0.length c0_0, .int .i64 a0_1, .int .i64 a0_2], .int .i64 a1] w fun e w' => ∃ v7_ : Value, e = .returned (.tuple #[.agg #[.int .i64 r1, .int .i64 r2, .int .i64 r3, .int .i64 r4, .int .i64 r5, .int .i64 r6, .string r7, v7_], .bool r9]) ∧ Kd.V k76 76 w' w.heap.size (fun k_ => (P0_0_ k_ ∨ w.heap.size ≤ k_)) v7_ r8 ∧ Below w.heap.size w w' := by
  have hC0 := (Kd.V_reads' hs0_0).2.2
  unfold disk_Get.f at h
  by_cases c : 0 ≤ a1 ∧ a1 < (l0_0.length : Int) ∧ (rd_T59 l0_0 a1).f0 ≠ 0
  · rw [if_pos c] at h
    simp only [Option.some.injEq, Prod.mk.injEq] at h
    obtain ⟨rfl, rfl, rfl, rfl, rfl, rfl, rfl, rfl, rfl⟩ := h
    obtain ⟨c1, c2, c3⟩ := c
    obtain ⟨i, rfl⟩ : ∃ k : Nat, a1 = (k : Int) := ⟨a1.toNat, by omega⟩
    obtain ⟨ad, rfl, _⟩ := hC0.2.2 (by omega)
    obtain ⟨A7, c7, h7, hc7, hF⟩ := names_F hs0_0 i (by omega)
    refine (Get_some ad c0_0 l0_0 a0_1 a0_2 i A7 c7 w hC0 (by omega) c3 h7).mono ?_
    rintro e w' ⟨rfl, hb⟩
    exact ⟨_, rfl, Kd.V_mk hc7 (Kd.F_mono (Kd.F_below hF hb) (fun _ hk => .inl hk)), hb⟩
  · rw [if_neg c] at h
    simp only [Option.some.injEq, Prod.mk.injEq] at h
    obtain ⟨rfl, rfl, rfl, rfl, rfl, rfl, rfl, rfl, rfl⟩ := h
    by_cases c1 : 0 ≤ a1 ∧ a1 < (l0_0.length : Int)
    · obtain ⟨i, rfl⟩ : ∃ k : Nat, a1 = (k : Int) := ⟨a1.toNat, by omega⟩
      have c3 : (rd_T59 l0_0 (i : Int)).f0 = 0 := Classical.byContradiction fun h3 => c ⟨c1.1, c1.2, h3⟩
      refine (Get_free A0_0 c0_0 l0_0 a0_1 a0_2 i w hC0.2.1 hC0 (by omega) c3).mono ?_
      rintro e w' ⟨rfl, hb⟩
      exact ⟨_, rfl, Kd.V_nil _ _ _ _ _, hb⟩
    · refine (Get_out A0_0 c0_0 l0_0 a0_1 a0_2 a1 w hC0.2.1 c1).mono ?_
      rintro e w' ⟨rfl, hb⟩
      exact ⟨_, rfl, Kd.V_nil _ _ _ _ _, hb⟩

end Go.Proofs.Ytpeelfambaedkaa.P
