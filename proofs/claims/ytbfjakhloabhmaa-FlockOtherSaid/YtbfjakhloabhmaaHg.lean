/- Contracts of Lock where it refuses for its arguments' sake, by hand; no condition but the case. -/
import Derived.Test.YtbfjakhloabhmaaHf
import Derived.Test.YtbfjakhloabhmaaHd
namespace Go.Proofs.Ytbfjakhloabhmaa.P
open Go.RowKit Go.Proofs.YtbfjakhloabhmaaW.PrintWords Go.Proofs.YtbfjakhloabhmaaW.PrintLast Go.Proofs.YtbfjakhloabhmaaW.PrintMore

section
variable (A0 : Option Addr) (c0 : Nat) (A1 : Option Addr) (c1 n1 : Nat) (i kind : Int) (w : World)
set_option maxHeartbeats 800000 in
set_option maxRecDepth 100000 in
theorem Lock_arg (n0 : Nat) (hk : kind < 0 ∨ 2 < kind) :
    Calls Try.prog 11 #[.agg #[.slice A0 n0 c0, .slice A1 n1 c1], .int .i64 i, .int .i64 kind] w fun e w' => e = .returned (.tuple #[.agg #[.slice A0 n0 c0, .slice A1 n1 c1], .int .i64 1]) ∧ Below w.heap.size w w' := by
  have hu25 := Try.underlying25
  by_cases h1 : kind < 0
  · have t1 : decide (kind < 0) = true := decide_eq_true h1
    clear hk h1
    go_enter Try.func11, Try.ntmps11
    go_wp2_with fail
    exact bodyPost_ret (v := .tuple #[.agg #[.slice A0 n0 c0, .slice A1 n1 c1], .int .i64 1]) (by simp [results, Try.results11, go_sem]) rfl ⟨rfl, below_alloc (below_alloc (below_alloc (below_alloc (Below.refl _ _) _) _) _) _⟩
  · have h2 : 2 < kind := by omega
    have t1 : decide (kind < 0) = false := decide_eq_false h1
    have t2 : decide (2 < kind) = true := decide_eq_true h2
    clear hk h1 h2
    go_enter Try.func11, Try.ntmps11
    go_wp2_with fail
    exact bodyPost_ret (v := .tuple #[.agg #[.slice A0 n0 c0, .slice A1 n1 c1], .int .i64 1]) (by simp [results, Try.results11, go_sem]) rfl ⟨rfl, below_alloc (below_alloc (below_alloc (below_alloc (Below.refl _ _) _) _) _) _⟩

set_option maxHeartbeats 800000 in
set_option maxRecDepth 100000 in
theorem Lock_bad (l0 : List S44) (h0 : 0 ≤ kind) (h2 : kind ≤ 2) (hr : Kd.C k44 w A0 l0.length l0) (hb : i < 0 ∨ (l0.length : Int) ≤ i ∨ (rd_T44 l0 i).f4 < 1) :
    Calls Try.prog 11 #[.agg #[.slice A0 l0.length c0, .slice A1 n1 c1], .int .i64 i, .int .i64 kind] w fun e w' => e = .returned (.tuple #[.agg #[.slice A0 l0.length c0, .slice A1 n1 c1], .int .i64 12]) ∧ Below w.heap.size w w' := by
  have hu25 := Try.underlying25
  have hmax : l0.length ≤ 9223372036854775807 := hr.2.1
  have t1 : decide (kind < 0) = false := decide_eq_false (by omega)
  have t2 : decide (2 < kind) = false := decide_eq_false (by omega)
  clear h0 h2
  by_cases h1 : i < 0
  · have t3 : decide (i < 0) = true := decide_eq_true h1
    clear hb h1 hr
    go_enter Try.func11, Try.ntmps11
    go_wp2_with fail
    exact bodyPost_ret (v := .tuple #[.agg #[.slice A0 l0.length c0, .slice A1 n1 c1], .int .i64 12]) (by simp [results, Try.results11, go_sem]) rfl ⟨rfl, below_alloc (below_alloc (below_alloc (below_alloc (Below.refl _ _) _) _) _) _⟩
  · have t3 : decide (i < 0) = false := decide_eq_false h1
    by_cases h3 : (l0.length : Int) ≤ i
    · have t4 : decide ((l0.length : Int) ≤ i) = true := decide_eq_true h3
      clear hb h1 h3 hr
      go_enter Try.func11, Try.ntmps11
      go_wp2_with fail
      exact bodyPost_ret (v := .tuple #[.agg #[.slice A0 l0.length c0, .slice A1 n1 c1], .int .i64 12]) (by simp [results, Try.results11, go_sem]) rfl ⟨rfl, below_alloc (below_alloc (below_alloc (below_alloc (Below.refl _ _) _) _) _) _⟩
    · have t4 : decide ((l0.length : Int) ≤ i) = false := decide_eq_false h3
      have h5 : (rd_T44 l0 i).f4 < 1 := by rcases hb with h | h | h; exact absurd h h1; exact absurd h h3; exact h
      have t5 : decide ((rd_T44 l0 i).f4 < 1) = true := decide_eq_true h5
      obtain ⟨ad, rfl, x0, x1, x2, x3, x4, x5⟩ := at_T44 hr i (by omega) (by omega)
      have p0 : (0 ≤ i) = True := eq_true (by omega)
      have p1 : (i < (l0.length : Int)) = True := eq_true (by omega)
      have X4 : ((((w.alloc (.cells #[.slice (some ad) l0.length c0, .slice A1 n1 c1] 25)).alloc (.cells #[.int .i64 i] 3)).alloc (.cells #[.int .i64 kind] 3)).alloc (.cells #[.slice none 0 0, .slice none 0 0] 25)).cell? ⟨(ad.add (i.toNat * 6)).block, (ad.add (i.toNat * 6)).off + 4, none⟩ = some (.int .i64 (rd_T44 l0 i).f4) := pw_cell_below (below_alloc (below_alloc (below_alloc (below_alloc (Below.refl _ _) _) _) _) _) x4
      clear hb h1 h3 h5 hr x0 x1 x2 x3 x4 x5
      go_enter Try.func11, Try.ntmps11
      go_wp2_with fail
      exact bodyPost_ret (v := .tuple #[.agg #[.slice (some ad) l0.length c0, .slice A1 n1 c1], .int .i64 12]) (by simp [results, Try.results11, go_sem]) rfl ⟨rfl, below_alloc (below_alloc (below_alloc (below_alloc (Below.refl _ _) _) _) _) _⟩
end
end Go.Proofs.Ytbfjakhloabhmaa.P
