/- How the table that every one of this seat's rows takes is opened. -/
import Derived.Test.YtkecfdljodiifaaPK
import Derived.Test.YtkecfdljodiifaaLRo
import Derived.OpenShut
import Derived.Lib.SmallJoins
namespace Go.Proofs.Ytkecfdljodiifaa.P
open Go.RowKit Go.Joins Go.ChangeShapes Go.WideShapes Go.Deep Go.Proofs.YtkecfdljodiifaaW.PrintWords Go.Proofs.YtkecfdljodiifaaW.PrintLast Go.Proofs.YtkecfdljodiifaaW.PrintMore

theorem cellsOf3 : Try.prog.cellsOf 3 = 1 := by kernel_rfl
theorem cellsOf4 : Try.prog.cellsOf 4 = 1 := by kernel_rfl
theorem cellsOf38 : Try.prog.cellsOf 38 = 6 := by kernel_rfl
theorem opens38 : Opens Try.prog k38 38 := by
  intro H enc w base spare held fuel cs x h
  obtain ⟨xs, n, _, _, hlen, hxs, hf⟩ := DataW.trod_struct Try.underlying38 h
  rw [cellsOf38] at hlen
  match cs, hlen with
  | [c0, c1, c2, c3, c4, c5], _ =>
    match xs, hxs with
    | [x0, x1, x2, x3, x4, x5], _ =>
      have h0 : DataW.trod enc Try.prog w base spare held n 3 (([c0, c1, c2, c3, c4, c5].drop 0).take (Try.prog.cellsOf 3)) = some x0 := hf 0 _ rfl
      rw [cellsOf3] at h0
      have h1 : DataW.trod enc Try.prog w base spare held n 3 (([c0, c1, c2, c3, c4, c5].drop 1).take (Try.prog.cellsOf 3)) = some x1 := hf 1 _ rfl
      rw [cellsOf3] at h1
      have h2 : DataW.trod enc Try.prog w base spare held n 4 (([c0, c1, c2, c3, c4, c5].drop 2).take (Try.prog.cellsOf 4)) = some x2 := hf 2 _ rfl
      rw [cellsOf4] at h2
      have h3 : DataW.trod enc Try.prog w base spare held n 4 (([c0, c1, c2, c3, c4, c5].drop 3).take (Try.prog.cellsOf 4)) = some x3 := hf 3 _ rfl
      rw [cellsOf4] at h3
      have h4 : DataW.trod enc Try.prog w base spare held n 3 (([c0, c1, c2, c3, c4, c5].drop 4).take (Try.prog.cellsOf 3)) = some x4 := hf 4 _ rfl
      rw [cellsOf3] at h4
      have h5 : DataW.trod enc Try.prog w base spare held n 3 (([c0, c1, c2, c3, c4, c5].drop 5).take (Try.prog.cellsOf 3)) = some x5 := hf 5 _ rfl
      rw [cellsOf3] at h5
      obtain ⟨n0, e0, _⟩ := DataW.trod_int Try.underlying3 h0
      obtain ⟨n1, e1, _⟩ := DataW.trod_int Try.underlying3 h1
      obtain ⟨n2, e2, _⟩ := DataW.trod_bool Try.underlying4 h2
      obtain ⟨n3, e3, _⟩ := DataW.trod_bool Try.underlying4 h3
      obtain ⟨n4, e4, _⟩ := DataW.trod_int Try.underlying3 h4
      obtain ⟨n5, e5, _⟩ := DataW.trod_int Try.underlying3 h5
      simp at e0 e1 e2 e3 e4 e5
      subst e0 e1 e2 e3 e4 e5
      exact ⟨_, k38_mk w ⟨n0, n1, n2, n3, n4, n5⟩⟩
instance : Inhabited S38 := ⟨z38⟩
theorem opensD : Opens Try.prog (Kd.slice 38 k38) 22 := opens_slice Try.underlying22 (by kernel_rfl) opens38
theorem opensF : Opens Try.prog (Kd.slice 64 (Kd.slice 3 (Kd.int .i64))) 23 := opens_slice Try.underlying23 (by kernel_rfl) (opens_slice Try.underlying64 (by kernel_rfl) (opens_int Try.underlying3))
theorem opens25 {H : Type} {enc : TypeId × Value → H} {w : World} {base b0 : Nat} {spare : Nat → Bool} {held : Bool} {v : Value} {d : DataW H} {p : List MemPlace} (hv : Value.okWide Try.prog w .any b0 25 v) (h : DataW.Trod enc Try.prog w base spare held 25 v d p) :
    ∃ (A0 : Option Addr) (c0 : Nat) (l0 : List S38) (A1 : Option Addr) (c1 : Nat) (l1 : List (List Int)), v = .agg #[.slice A0 l0.length c0, .slice A1 l1.length c1] ∧ l0.length ≤ c0 ∧ Kd.C k38 w A0 l0.length l0 ∧ l1.length ≤ c1 ∧ Kd.C (Kd.slice 3 (Kd.int .i64)) w A1 l1.length l1 := by
  obtain ⟨u0, u1, y0, y1, n, rfl, _, _, h0, h1⟩ := open_agg2 Try.underlying25 (by kernel_rfl) (by kernel_rfl) hv h
  obtain ⟨l0, A0, c0, e0, g0, r0⟩ := opensD _ _ _ _ _ _ _ _ _ h0
  obtain ⟨l1, A1, c1, e1, g1, r1⟩ := opensF _ _ _ _ _ _ _ _ _ h1
  simp only [List.cons.injEq, and_true] at e0 e1
  subst e0 e1
  exact ⟨A0, c0, l0, A1, c1, l1, rfl, g0, r0, g1, r1⟩
theorem opens38v {H : Type} {enc : TypeId × Value → H} {w : World} {base b0 : Nat} {spare : Nat → Bool} {held : Bool} {v : Value} {d : DataW H} {p : List MemPlace} (hv : Value.okWide Try.prog w .any b0 38 v) (h : DataW.Trod enc Try.prog w base spare held 38 v d p) :
    ∃ (a0 a1 : Int) (a2 a3 : Bool) (a4 a5 : Int), v = .agg #[.int .i64 a0, .int .i64 a1, .bool a2, .bool a3, .int .i64 a4, .int .i64 a5] := by
  obtain ⟨cs, rfl, hsz⟩ := okWide_struct Try.underlying38 hv
  obtain ⟨n, hn⟩ := h
  obtain ⟨a, ha⟩ := opens38 _ _ _ _ _ _ _ _ _ hn
  have e : cs.toList = [.int .i64 a.f0, .int .i64 a.f1, .bool a.f2, .bool a.f3, .int .i64 a.f4, .int .i64 a.f5] := k38_open (by simpa [Value.cells] using ha)
  refine ⟨a.f0, a.f1, a.f2, a.f3, a.f4, a.f5, ?_⟩
  have e2 : cs = cs.toList.toArray := (Array.toArray_toList (xs := cs)).symm
  rw [e2, e]
theorem u8_bounds {n : Int} (h : (Lit.int .u8 n).wf = true) : 0 ≤ n ∧ n ≤ 255 := by
  simp only [Lit.wf, Bool.and_eq_true, decide_eq_true_eq] at h
  have e1 : IntKind.min .u8 = 0 := by rfl
  have e2 : IntKind.max .u8 = 255 := by rfl
  omega
end Go.Proofs.Ytkecfdljodiifaa.P
