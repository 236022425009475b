/- A disk is the same as itself; no program in sight. -/
import Derived.Test.YtpeelfambaedkaaQea
import Derived.Test.YtpeelfambaedkaaPref06Same
namespace Go.Proofs.Ytpeelfambaedkaa.P
open Go.RowKit Go.Proofs.YtpeelfambaedkaaW.PrintWords Go.Proofs.YtpeelfambaedkaaW.PrintLast Go.Proofs.YtpeelfambaedkaaW.PrintMore

theorem same_ev {l : List S59} (hS : Small l) (m q : Int) : Ev (fun k => flagstoneref06_Same.f k (l.map conv) m q (l.map conv) m q) true := by
  have hl := hS.1
  have key : ∀ r j : Nat, j ≤ l.length → l.length - j = r → Ev (fun k => flagstoneref06_Same.l0 k (j : Int) (l.map conv) m q (l.map conv) m q) true := by
    intro r
    induction r with
    | zero =>
      intro j hj hd
      exact Ev.step (fun k => by rw [flagstoneref06_Same.l0]) (Ev.neg (by rw [List.length_map]; omega) (Ev.now _))
    | succ r ih =>
      intro j hj hd
      refine Ev.step (fun k => by rw [flagstoneref06_Same.l0]) (Ev.pos (by rw [List.length_map]; omega) (Ev.pos (by omega) (Ev.pos (by rw [List.length_map]; omega) ?_)))
      rw [rd_conv]
      have hx := (hS.rd (j : Int)).2
      refine Ev.bind (alike_ev _ _ _ _ _ _ _ _ (by show (List.map convE _).length < 1000000; rw [List.length_map]; omega)) (Ev.pos rfl ?_)
      rw [wrap_one (by omega) (by omega)]
      exact ih (j + 1) (by omega) (by omega)
  refine Ev.congr (fun k => by rw [flagstoneref06_Same.f, if_pos rfl, if_pos rfl]) ?_
  refine Ev.step (fun k => by rw [flagstoneref06_Same.j0]) ?_
  refine Ev.neg (by simp) ?_
  exact key _ 0 (by omega) rfl
end Go.Proofs.Ytpeelfambaedkaa.P
