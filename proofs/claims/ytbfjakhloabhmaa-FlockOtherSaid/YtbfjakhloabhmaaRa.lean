/- How the table that every one of this seat's rows takes is opened. -/
import Derived.Test.YtbfjakhloabhmaaPK
import Derived.Test.YtbfjakhloabhmaaLRo
namespace Go.Proofs.Ytbfjakhloabhmaa.P
open Go.RowKit Go.Joins Go.ChangeShapes Go.WideShapes Go.Deep Go.Proofs.YtbfjakhloabhmaaW.PrintWords Go.Proofs.YtbfjakhloabhmaaW.PrintLast Go.Proofs.YtbfjakhloabhmaaW.PrintMore

theorem cellsOf3 : Try.prog.cellsOf 3 = 1 := by kernel_rfl
theorem cellsOf4 : Try.prog.cellsOf 4 = 1 := by kernel_rfl
theorem cellsOf44 : Try.prog.cellsOf 44 = 6 := by kernel_rfl
theorem opens44 : Opens Try.prog k44 44 := by
  intro H enc w base spare held fuel cs x h
  obtain ⟨xs, n, _, _, hlen, hxs, hf⟩ := DataW.trod_struct Try.underlying44 h
  rw [cellsOf44] at hlen
  match cs, hlen with
  | [c0, c1, c2, c3, c4, c5], _ =>
    match xs, hxs with
    | [x0, x1, x2, x3, x4, x5], _ =>
      have h0 : DataW.trod enc Try.prog w base spare held n 3 (([c0, c1, c2, c3, c4, c5].drop 0).take (Try.prog.cellsOf 3)) = some x0 := hf 0 _ rfl
      rw [cellsOf3] at h0
      have h1 : DataW.trod enc Try.prog w base spare held n 3 (([c0, c1, c2, c3, c4, c5].drop 1).take (Try.prog.cellsOf 3)) = some x1 := hf 1 _ rfl
      rw [cellsOf3] at h1
      have h2 : DataW.trod enc Try.prog w base spare held n 4 (([c0, c1, c2, c3, c4, c5].drop 2).take (Try.prog.cellsOf 4)) = some x2 := hf 2 _ rfl
      rw [cellsOf4] at h2
      have h3 : DataW.trod enc Try.prog w base spare held n 4 (([c0, c1, c2, c3, c4, c5].drop 3).take (Try.prog.cellsOf 4)) = some x3 := hf 3 _ rfl
      rw [cellsOf4] at h3
      have h4 : DataW.trod enc Try.prog w base spare held n 3 (([c0, c1, c2, c3, c4, c5].drop 4).take (Try.prog.cellsOf 3)) = some x4 := hf 4 _ rfl
      rw [cellsOf3] at h4
      have h5 : DataW.trod enc Try.prog w base spare held n 3 (([c0, c1, c2, c3, c4, c5].drop 5).take (Try.prog.cellsOf 3)) = some x5 := hf 5 _ rfl
      rw [cellsOf3] at h5
      obtain ⟨n0, e0, _⟩ := DataW.trod_int Try.underlying3 h0
      obtain ⟨n1, e1, _⟩ := DataW.trod_int Try.underlying3 h1
      obtain ⟨n2, e2, _⟩ := DataW.trod_bool Try.underlying4 h2
      obtain ⟨n3, e3, _⟩ := DataW.trod_bool Try.underlying4 h3
      obtain ⟨n4, e4, _⟩ := DataW.trod_int Try.underlying3 h4
      obtain ⟨n5, e5, _⟩ := DataW.trod_int Try.underlying3 h5
      simp at e0 e1 e2 e3 e4 e5
      subst e0 e1 e2 e3 e4 e5
      exact ⟨_, k44_mk w ⟨n0, n1, n2, n3, n4, n5⟩⟩
instance : Inhabited S44 := ⟨z44⟩
theorem opensD : Opens Try.prog (Kd.slice 44 k44) 22 := opens_slice Try.underlying22 (by kernel_rfl) opens44
theorem opensF : Opens Try.prog (Kd.slice 48 (Kd.slice 3 (Kd.int .i64))) 23 := opens_slice Try.underlying23 (by kernel_rfl) (opens_slice Try.underlying48 (by kernel_rfl) (opens_int Try.underlying3))
theorem opens25 {H : Type} {enc : TypeId × Value → H} {w : World} {base b0 : Nat} {spare : Nat → Bool} {held : Bool} {v : Value} {d : DataW H} {p : List MemPlace} (hv : Value.okWide Try.prog w .any b0 25 v) (h : DataW.Trod enc Try.prog w base spare held 25 v d p) :
    ∃ (A0 : Option Addr) (c0 : Nat) (l0 : List S44) (A1 : Option Addr) (c1 : Nat) (l1 : List (List Int)), v = .agg #[.slice A0 l0.length c0, .slice A1 l1.length c1] ∧ l0.length ≤ c0 ∧ Kd.C k44 w A0 l0.length l0 ∧ l1.length ≤ c1 ∧ Kd.C (Kd.slice 3 (Kd.int .i64)) w A1 l1.length l1 := by
  obtain ⟨u0, u1, y0, y1, n, rfl, _, _, h0, h1⟩ := open_agg2 Try.underlying25 (by kernel_rfl) (by kernel_rfl) hv h
  obtain ⟨l0, A0, c0, e0, g0, r0⟩ := opensD _ _ _ _ _ _ _ _ _ h0
  obtain ⟨l1, A1, c1, e1, g1, r1⟩ := opensF _ _ _ _ _ _ _ _ _ h1
  simp only [List.cons.injEq, and_true] at e0 e1
  subst e0 e1
  exact ⟨A0, c0, l0, A1, c1, l1, rfl, g0, r0, g1, r1⟩
end Go.Proofs.Ytbfjakhloabhmaa.P
