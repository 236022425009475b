/- A node is like itself; no program in sight. -/
import Derived.Test.YtpeelfambaedkaaQe
import Derived.Test.YtpeelfambaedkaaPref06Alike
namespace Go.Proofs.Ytpeelfambaedkaa.P
open Go.RowKit Go.Proofs.YtpeelfambaedkaaW.PrintWords Go.Proofs.YtpeelfambaedkaaW.PrintLast Go.Proofs.YtpeelfambaedkaaW.PrintMore

theorem names_ev (l : List S75) (hn : l.length < 1000000) : Ev (fun k => flagstoneref05_Same.f k l l) true := by
  have key : ∀ r j : Nat, j ≤ l.length → l.length - j = r → Ev (fun k => flagstoneref05_Same.l0 k l l (j : Int)) true := by
    intro r
    induction r with
    | zero =>
      intro j hj hd
      exact Ev.step (fun k => by rw [flagstoneref05_Same.l0]) (Ev.neg (by omega) (Ev.now _))
    | succ r ih =>
      intro j hj hd
      refine Ev.step (fun k => by rw [flagstoneref05_Same.l0]) (Ev.pos (by omega) (Ev.pos (by omega) (Ev.pos (by omega) (Ev.neg (by simp) ?_))))
      rw [wrap_one (by omega) (by omega)]
      exact ih (j + 1) (by omega) (by omega)
  refine Ev.congr (fun k => by rw [flagstoneref05_Same.f, if_pos rfl]) ?_
  exact key _ 0 (by omega) rfl
theorem alike_ev (a b c d e f : Int) (g : ByteArray) (l : List S75) (hn : l.length < 1000000) : Ev (fun k => flagstoneref06_Alike.f k a b c d e f g l a b c d e f g l) true := by
  refine Ev.congr (fun k => by rw [flagstoneref06_Alike.f, if_pos rfl, if_pos rfl, if_pos rfl, if_pos rfl, if_pos rfl, if_pos rfl, if_pos rfl]) ?_
  exact Ev.bind (names_ev l hn) (Ev.now _)
end Go.Proofs.Ytpeelfambaedkaa.P
