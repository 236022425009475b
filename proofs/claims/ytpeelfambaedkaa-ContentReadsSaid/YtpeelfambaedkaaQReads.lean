/- The plain law of ContentReads: it answers true; no program in sight. -/
import Derived.Test.YtpeelfambaedkaaQe
import Derived.Test.YtpeelfambaedkaaQdr
import Derived.Test.YtpeelfambaedkaaQs
import Derived.Test.YtpeelfambaedkaaPlaw09ContentReads
namespace Go.Proofs.Ytpeelfambaedkaa.P
open Go.RowKit Go.Proofs.YtpeelfambaedkaaW.PrintWords Go.Proofs.YtpeelfambaedkaaW.PrintLast Go.Proofs.YtpeelfambaedkaaW.PrintMore

theorem reads_law (l : List S59) (m q i a n : Int) : Ev (fun k => flagstonelaw09_ContentReads.f k l m q i a n) true := by
  have out : Ev (fun k => flagstonelaw09_ContentReads.j0 k i a n true l m q) true :=
    Ev.step (fun k => by rw [flagstonelaw09_ContentReads.j0]) (Ev.pos rfl (Ev.bind (Ev.is shown_ok) (Ev.now _)))
  obtain ⟨b, h1, h2⟩ := small_ev l m q
  refine Ev.congr (fun k => by rw [flagstonelaw09_ContentReads.f]) (Ev.bind h1 ?_)
  cases b with
  | false => exact Ev.neg (by decide) out
  | true =>
    have hS : Small l := Small.of (h2 rfl).1 (h2 rfl).2
    refine Ev.pos rfl (Ev.bind (Ev.is shown_ok) (Ev.step (fun k => by rw [flagstonelaw09_ContentReads.j0]) (Ev.neg (by decide) ?_)))
    refine Ev.bind (Ev.is (read_is l m q i a n)) (Ev.bind (hS.its m q) (Ev.bind (refread_ev l m q i a n) (Ev.bind (Ev.is (size_is l m q i)) (Ev.bind (hS.its m q) (Ev.bind (Ev.is ((ref_size l m q i).trans (size_is l m q i))) (Ev.pos rfl (Ev.pos rfl (Ev.pos rfl ?_))))))))
    exact Ev.is (by rw [beq_self_eq_true])
end Go.Proofs.Ytpeelfambaedkaa.P
