/- content.Write and content.Cut as the given functions state them. -/
import Derived.Test.YtpeelfambaedkaaHn
namespace Go.Proofs.Ytpeelfambaedkaa.P
open Go.RowKit Go.Proofs.YtpeelfambaedkaaW.PrintWords Go.Proofs.YtpeelfambaedkaaW.PrintLast Go.Proofs.YtpeelfambaedkaaW.PrintMore

/-- more than the laws look at -/
def tooBig (l0 : List S59) (a1 : Int) (n : Nat) : Prop := 1000 < l0.length ∨ bytesSum l0 0 < 0 ∨ 1000000 < bytesSum l0 0 ∨ 5000 < (rd_T59 l0 a1).f6.size ∨ 5000 < n
instance (l0 : List S59) (a1 : Int) (n : Nat) : Decidable (tooBig l0 a1 n) := inferInstanceAs (Decidable (_ ∨ _))
theorem size_pos_of (s : ByteArray) (h : s.toList ≠ ([] : List UInt8)) : 0 < s.size := by
  rcases Nat.eq_zero_or_pos s.size with h0 | h0
  · exfalso
    apply h
    have : s = ⟨#[]⟩ := by
      apply ByteArray.ext
      exact Array.eq_empty_of_size_eq_zero h0
    subst this
    unfold ByteArray.toList ByteArray.toList.loop
    rfl
  · exact h0
theorem file_ok {l0 : List S59} {m q a1 : Int} {r1 r2 r3 r4 r5 r6 : Int} {r7 : ByteArray} {r8 : List S76} (h : content_file.f l0 m q a1 = some (r1, r2, r3, r4, r5, r6, r7, r8, 0)) : 0 ≤ a1 ∧ a1 < (l0.length : Int) ∧ (rd_T59 l0 a1).f0 = 1 ∧ r7 = (rd_T59 l0 a1).f6 := by
  unfold content_file.f disk_Get.f at h
  by_cases c : 0 ≤ a1 ∧ a1 < (l0.length : Int) ∧ (rd_T59 l0 a1).f0 ≠ 0
  · rw [if_pos c, Option.bind_some] at h
    dsimp only at h
    by_cases c1 : (rd_T59 l0 a1).f0 = 1
    · rw [if_pos c1] at h
      simp only [Option.some.injEq, Prod.mk.injEq] at h
      exact ⟨c.1, c.2.1, c1, h.2.2.2.2.2.2.1.symm⟩
    · rw [if_neg c1] at h
      exfalso
      split at h
      · simp at h
      · split at h <;> simp at h
  · rw [if_neg c, Option.bind_some] at h
    dsimp only at h
    exfalso
    simp at h
theorem size_ok {l0 : List S59} {m q a1 : Int} {r8 : Int} (h : content_Size.f l0 m q a1 = some (r8, 0)) : 0 ≤ a1 ∧ a1 < (l0.length : Int) ∧ (rd_T59 l0 a1).f0 = 1 ∧ r8 = ((rd_T59 l0 a1).f6.size : Int) := by
  unfold content_Size.f at h
  obtain ⟨⟨t1, t2, t3, t4, t5, t6, t7, t8, t9⟩, hf, h⟩ := Option.bind_eq_some_iff.1 h
  dsimp only at h
  by_cases h9 : t9 = 0
  · rw [if_pos h9] at h
    simp only [Option.some.injEq, Prod.mk.injEq] at h
    subst h9
    obtain ⟨f1, f2, f3, f4⟩ := file_ok hf
    exact ⟨f1, f2, f3, by rw [← f4]; exact h.1.symm⟩
  · rw [if_neg h9] at h
    simp only [Option.some.injEq, Prod.mk.injEq] at h
    exact absurd h.2 h9
theorem Write_V {P0 : Nat → Prop} {A0 : Option Addr} {c0 : Nat} {l0 : List S59} {m q : Int} (i k n : Nat) (s : ByteArray) {w : World} (hs0 : Kd.V k59 59 w w.heap.size P0 (.slice A0 l0.length c0) l0) (hi : i < l0.length) (h0 : (rd_T59 l0 (i : Int)).f0 = 1) (hb : ¬ tooBig l0 (i : Int) n) (hs : s.toList ≠ ([] : List UInt8)) (hk : k ≤ 1000) (hsz : s.size ≤ 3000) (hkn : k + s.size = n) :
    Calls Try.prog 16 #[.agg #[.slice A0 l0.length c0, .int .i64 m, .int .i64 q], .int .i64 i, .int .i64 k, .string s] w fun e w' => ∃ v0_ : Value, e = .returned (.tuple #[.agg #[v0_, .int .i64 m, .int .i64 q], .int .i64 (codeOf (rd_T59 l0 (i : Int)).f6 (bytesSum l0 0) q n)]) ∧
      Kd.V k59 59 w' w.heap.size (fun k_ => P0 k_ ∨ w.heap.size ≤ k_) v0_ (if codeOf (rd_T59 l0 (i : Int)).f6 (bytesSum l0 0) q n = 10 then l0 else l0.set i { rd_T59 l0 (i : Int) with f6 := written (rd_T59 l0 (i : Int)).f6 k n s }) ∧ Below w.heap.size w w' := by
  have hC0 := (Kd.V_reads' hs0).2.2
  obtain ⟨cs, hl, _, h1, hcx⟩ := C_cells k59 hC0
  obtain ⟨ad, rfl, hc⟩ := hcx (by omega)
  obtain ⟨A7, c7, h7, hc7, hF⟩ := names_F hs0 i hi
  have hb' : ¬ 1000 < l0.length ∧ ¬ bytesSum l0 0 < 0 ∧ ¬ 1000000 < bytesSum l0 0 ∧ ¬ 5000 < (rd_T59 l0 (i : Int)).f6.size ∧ ¬ 5000 < n := by
    simpa [tooBig] using hb
  refine (Write_low ad c0 l0 m q i A7 c7 cs w hC0 hi h0 h7 (by omega) hl hc h1 _ n rfl _ rfl (by omega) (by omega) (by omega) (by omega) s k hs (size_pos_of s hs) hk hsz hkn).mono ?_
  rintro e w' ⟨A', c', rfl, ho, hbel⟩
  exact ⟨_, rfl, Outcome_V hs0 i hi _ hc7 hF hl hc ho hbel, hbel⟩
theorem Cut_V {P0 : Nat → Prop} {A0 : Option Addr} {c0 : Nat} {l0 : List S59} {m q : Int} (i n : Nat) {w : World} (hs0 : Kd.V k59 59 w w.heap.size P0 (.slice A0 l0.length c0) l0) (hi : i < l0.length) (h0 : (rd_T59 l0 (i : Int)).f0 = 1) (hb : ¬ tooBig l0 (i : Int) n) (hf : content_Size.f l0 m q (i : Int) = some (((rd_T59 l0 (i : Int)).f6.size : Int), 0)) (hk : ¬ (((rd_T59 l0 (i : Int)).f6.size : Int) < (n : Int) ∧ 1000 < (n : Int))) :
    Calls Try.prog 18 #[.agg #[.slice A0 l0.length c0, .int .i64 m, .int .i64 q], .int .i64 i, .int .i64 n] w fun e w' => ∃ v0_ : Value, e = .returned (.tuple #[.agg #[v0_, .int .i64 m, .int .i64 q], .int .i64 (codeOf (rd_T59 l0 (i : Int)).f6 (bytesSum l0 0) q n)]) ∧
      Kd.V k59 59 w' w.heap.size (fun k_ => P0 k_ ∨ w.heap.size ≤ k_) v0_ (if codeOf (rd_T59 l0 (i : Int)).f6 (bytesSum l0 0) q n = 10 then l0 else l0.set i { rd_T59 l0 (i : Int) with f6 := cutTo (rd_T59 l0 (i : Int)).f6 n }) ∧ Below w.heap.size w w' := by
  have hC0 := (Kd.V_reads' hs0).2.2
  have hc0 := (Kd.V_reads' hs0).2.1
  obtain ⟨cs, hl, _, h1, hcx⟩ := C_cells k59 hC0
  obtain ⟨ad, rfl, hc⟩ := hcx (by omega)
  obtain ⟨A7, c7, h7, hc7, hF⟩ := names_F hs0 i hi
  have hb' : ¬ 1000 < l0.length ∧ ¬ bytesSum l0 0 < 0 ∧ ¬ 1000000 < bytesSum l0 0 ∧ ¬ 5000 < (rd_T59 l0 (i : Int)).f6.size ∧ ¬ 5000 < n := by
    simpa [tooBig] using hb
  refine (Cut_low ad c0 l0 m q i A7 c7 cs w hC0 hi h0 h7 (by omega) hl hc h1 _ n rfl _ rfl (by omega) (by omega) (by omega) (by omega) hc0 hf hk).mono ?_
  rintro e w' ⟨A', c', rfl, ho, hbel⟩
  exact ⟨_, rfl, Outcome_V hs0 i hi _ hc7 hF hl hc ho hbel, hbel⟩
end Go.Proofs.Ytpeelfambaedkaa.P
