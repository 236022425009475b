/- How the disk that every one of this seat's rows takes is opened. -/
import Derived.Test.YtpeelfambaedkaaPK
import Derived.Test.YtpeelfambaedkaaLRo
import Derived.OpenShut
import Derived.ChangeMaps5
import Derived.Lib.SmallJoins
namespace Go.Proofs.Ytpeelfambaedkaa.P
open Go.RowKit Go.Joins Go.ChangeShapes Go.WideShapes Go.Deep Go.Proofs.YtpeelfambaedkaaW.PrintWords Go.Proofs.YtpeelfambaedkaaW.PrintLast Go.Proofs.YtpeelfambaedkaaW.PrintMore

theorem cellsOf3 : Try.prog.cellsOf 3 = 1 := by kernel_rfl
theorem cellsOf9 : Try.prog.cellsOf 9 = 1 := by kernel_rfl
theorem cellsOf57 : Try.prog.cellsOf 57 = 1 := by kernel_rfl
theorem cellsOf76 : Try.prog.cellsOf 76 = 2 := by kernel_rfl
theorem cellsOf59 : Try.prog.cellsOf 59 = 8 := by kernel_rfl
theorem opens76 : Opens Try.prog k76 76 := by
  intro H enc w base spare held fuel cs x h
  obtain ⟨xs, n, _, _, hlen, hxs, hf⟩ := DataW.trod_struct Try.underlying76 h
  rw [cellsOf76] at hlen
  match cs, hlen with
  | [c0, c1], _ =>
    match xs, hxs with
    | [x0, x1], _ =>
      have h0 : DataW.trod enc Try.prog w base spare held n 9 (([c0, c1].drop 0).take (Try.prog.cellsOf 9)) = some x0 := hf 0 _ rfl
      rw [cellsOf9] at h0
      have h1 : DataW.trod enc Try.prog w base spare held n 3 (([c0, c1].drop 1).take (Try.prog.cellsOf 3)) = some x1 := hf 1 _ rfl
      rw [cellsOf3] at h1
      obtain ⟨n0, e0, _⟩ := DataW.trod_string Try.underlying9 h0
      obtain ⟨n1, e1, _⟩ := DataW.trod_int Try.underlying3 h1
      simp at e0 e1
      subst e0 e1
      exact ⟨_, k76_mk w ⟨n0, n1⟩⟩
instance : Inhabited S76 := ⟨z76⟩
theorem opensN : Opens Try.prog (Kd.slice 76 k76) 57 := opens_slice Try.underlying57 (by kernel_rfl) opens76
theorem opens59 : Opens Try.prog k59 59 := by
  intro H enc w base spare held fuel cs x h
  obtain ⟨xs, n, _, _, hlen, hxs, hf⟩ := DataW.trod_struct Try.underlying59 h
  rw [cellsOf59] at hlen
  match cs, hlen with
  | [c0, c1, c2, c3, c4, c5, c6, c7], _ =>
    match xs, hxs with
    | [x0, x1, x2, x3, x4, x5, x6, x7], _ =>
      have h0 : DataW.trod enc Try.prog w base spare held n 3 (([c0, c1, c2, c3, c4, c5, c6, c7].drop 0).take (Try.prog.cellsOf 3)) = some x0 := hf 0 _ rfl
      rw [cellsOf3] at h0
      have h1 : DataW.trod enc Try.prog w base spare held n 3 (([c0, c1, c2, c3, c4, c5, c6, c7].drop 1).take (Try.prog.cellsOf 3)) = some x1 := hf 1 _ rfl
      rw [cellsOf3] at h1
      have h2 : DataW.trod enc Try.prog w base spare held n 3 (([c0, c1, c2, c3, c4, c5, c6, c7].drop 2).take (Try.prog.cellsOf 3)) = some x2 := hf 2 _ rfl
      rw [cellsOf3] at h2
      have h3 : DataW.trod enc Try.prog w base spare held n 3 (([c0, c1, c2, c3, c4, c5, c6, c7].drop 3).take (Try.prog.cellsOf 3)) = some x3 := hf 3 _ rfl
      rw [cellsOf3] at h3
      have h4 : DataW.trod enc Try.prog w base spare held n 3 (([c0, c1, c2, c3, c4, c5, c6, c7].drop 4).take (Try.prog.cellsOf 3)) = some x4 := hf 4 _ rfl
      rw [cellsOf3] at h4
      have h5 : DataW.trod enc Try.prog w base spare held n 3 (([c0, c1, c2, c3, c4, c5, c6, c7].drop 5).take (Try.prog.cellsOf 3)) = some x5 := hf 5 _ rfl
      rw [cellsOf3] at h5
      have h6 : DataW.trod enc Try.prog w base spare held n 9 (([c0, c1, c2, c3, c4, c5, c6, c7].drop 6).take (Try.prog.cellsOf 9)) = some x6 := hf 6 _ rfl
      rw [cellsOf9] at h6
      have h7 : DataW.trod enc Try.prog w base spare held n 57 (([c0, c1, c2, c3, c4, c5, c6, c7].drop 7).take (Try.prog.cellsOf 57)) = some x7 := hf 7 _ rfl
      rw [cellsOf57] at h7
      obtain ⟨n0, e0, _⟩ := DataW.trod_int Try.underlying3 h0
      obtain ⟨n1, e1, _⟩ := DataW.trod_int Try.underlying3 h1
      obtain ⟨n2, e2, _⟩ := DataW.trod_int Try.underlying3 h2
      obtain ⟨n3, e3, _⟩ := DataW.trod_int Try.underlying3 h3
      obtain ⟨n4, e4, _⟩ := DataW.trod_int Try.underlying3 h4
      obtain ⟨n5, e5, _⟩ := DataW.trod_int Try.underlying3 h5
      obtain ⟨n6, e6, _⟩ := DataW.trod_string Try.underlying9 h6
      obtain ⟨n7, A7, k7, e7, g7, r7⟩ := opensN _ _ _ _ _ _ _ _ _ h7
      simp at e0 e1 e2 e3 e4 e5 e6 e7
      subst e0 e1 e2 e3 e4 e5 e6 e7
      exact ⟨_, k59_mk w ⟨n0, n1, n2, n3, n4, n5, n6, n7⟩ g7 r7⟩
instance : Inhabited S59 := ⟨z59⟩
theorem opensD : Opens Try.prog (Kd.slice 59 k59) 22 := opens_slice Try.underlying22 (by kernel_rfl) opens59
theorem opens24 {H : Type} {enc : TypeId × Value → H} {w : World} {base b0 : Nat} {spare : Nat → Bool} {held : Bool} {v : Value} {d : DataW H} {p : List MemPlace} (hv : Value.okWide Try.prog w .any b0 24 v) (h : DataW.Trod enc Try.prog w base spare held 24 v d p) :
    ∃ (A0 : Option Addr) (c0 : Nat) (l0 : List S59) (a1 a2 : Int), v = .agg #[.slice A0 l0.length c0, .int .i64 a1, .int .i64 a2] ∧ l0.length ≤ c0 ∧ Kd.C k59 w A0 l0.length l0 := by
  obtain ⟨u0, u1, u2, y0, y1, y2, n, rfl, _, _, h0, h1, h2⟩ := open_agg3 Try.underlying24 (by kernel_rfl) (by kernel_rfl) hv h
  obtain ⟨l0, A0, c0, e0, g0, r0⟩ := opensD _ _ _ _ _ _ _ _ _ h0
  obtain ⟨n1, e1, _⟩ := DataW.trod_int Try.underlying3 h1
  obtain ⟨n2, e2, _⟩ := DataW.trod_int Try.underlying3 h2
  simp only [List.cons.injEq, and_true] at e0 e1 e2
  subst e0 e1 e2
  exact ⟨A0, c0, l0, n1, n2, rfl, g0, r0⟩
theorem u8_bounds {n : Int} (h : (Lit.int .u8 n).wf = true) : 0 ≤ n ∧ n ≤ 255 := by
  simp only [Lit.wf, Bool.and_eq_true, decide_eq_true_eq] at h
  have e1 : IntKind.min .u8 = 0 := by rfl
  have e2 : IntKind.max .u8 = 255 := by rfl
  omega
end Go.Proofs.Ytpeelfambaedkaa.P
