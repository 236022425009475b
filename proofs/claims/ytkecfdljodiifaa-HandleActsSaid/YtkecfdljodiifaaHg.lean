/- The contract of Set where there is no such description, by hand: the table comes back; no condition but the case. -/
import Derived.Test.YtkecfdljodiifaaHf
namespace Go.Proofs.Ytkecfdljodiifaa.P
open Go.RowKit Go.Proofs.YtkecfdljodiifaaW.PrintWords Go.Proofs.YtkecfdljodiifaaW.PrintLast Go.Proofs.YtkecfdljodiifaaW.PrintMore

set_option maxHeartbeats 800000 in
set_option maxRecDepth 100000 in
theorem Set_same (A0 : Option Addr) (c0 : Nat) (A1 : Option Addr) (c1 n1 : Nat) (i : Int) (x : S38) (w : World) (l0 : List S38) (hr : Kd.C k38 w A0 l0.length l0) (hb : i < 0 ∨ (l0.length : Int) ≤ i ∨ (rd_T38 l0 i).f4 = 0) :
    Calls Try.prog 30 #[.agg #[.slice A0 l0.length c0, .slice A1 n1 c1], .int .i64 i, .agg #[.int .i64 x.f0, .int .i64 x.f1, .bool x.f2, .bool x.f3, .int .i64 x.f4, .int .i64 x.f5]] w fun e w' => e = .returned (.agg #[.slice A0 l0.length c0, .slice A1 n1 c1]) ∧ Below w.heap.size w w' := by
  have hu25 := Try.underlying25
  have hu38 := Try.underlying38
  have hmax : l0.length ≤ 9223372036854775807 := hr.2.1
  by_cases h1 : i < 0
  · have t3 : decide (i < 0) = true := decide_eq_true h1
    clear hb h1 hr
    go_enter Try.func30, Try.ntmps30
    go_wp2_with fail
    exact bodyPost_ret (v := .agg #[.slice A0 l0.length c0, .slice A1 n1 c1]) (by simp [results, Try.results30, go_sem]) rfl ⟨rfl, below_alloc (below_alloc (below_alloc (Below.refl _ _) _) _) _⟩
  · have t3 : decide (i < 0) = false := decide_eq_false h1
    by_cases h3 : (l0.length : Int) ≤ i
    · have t4 : decide ((l0.length : Int) ≤ i) = true := decide_eq_true h3
      clear hb h1 h3 hr
      go_enter Try.func30, Try.ntmps30
      go_wp2_with fail
      exact bodyPost_ret (v := .agg #[.slice A0 l0.length c0, .slice A1 n1 c1]) (by simp [results, Try.results30, go_sem]) rfl ⟨rfl, below_alloc (below_alloc (below_alloc (Below.refl _ _) _) _) _⟩
    · have t4 : decide ((l0.length : Int) ≤ i) = false := decide_eq_false h3
      have h5 : (rd_T38 l0 i).f4 = 0 := by rcases hb with h | h | h; exact absurd h h1; exact absurd h h3; exact h
      have t5 : ((rd_T38 l0 i).f4 == 0) = true := beq_iff_eq.mpr h5
      obtain ⟨ad, rfl, x0, x1, x2, x3, x4, x5⟩ := at_T38 hr i (by omega) (by omega)
      have p0 : (0 ≤ i) = True := eq_true (by omega)
      have p1 : (i < (l0.length : Int)) = True := eq_true (by omega)
      have X4 : (((w.alloc (.cells #[.slice (some ad) l0.length c0, .slice A1 n1 c1] 25)).alloc (.cells #[.int .i64 x.f0, .int .i64 x.f1, .bool x.f2, .bool x.f3, .int .i64 x.f4, .int .i64 x.f5] 38)).alloc (.cells #[.slice none 0 0, .slice none 0 0] 25)).cell? ⟨(ad.add (i.toNat * 6)).block, (ad.add (i.toNat * 6)).off + 4, none⟩ = some (.int .i64 (rd_T38 l0 i).f4) := pw_cell_below (below_alloc (below_alloc (below_alloc (Below.refl _ _) _) _) _) x4
      clear hb h1 h3 h5 hr x0 x1 x2 x3 x4 x5
      go_enter Try.func30, Try.ntmps30
      go_wp2_with fail
      exact bodyPost_ret (v := .agg #[.slice (some ad) l0.length c0, .slice A1 n1 c1]) (by simp [results, Try.results30, go_sem]) rfl ⟨rfl, below_alloc (below_alloc (below_alloc (Below.refl _ _) _) _) _⟩
end Go.Proofs.Ytkecfdljodiifaa.P
