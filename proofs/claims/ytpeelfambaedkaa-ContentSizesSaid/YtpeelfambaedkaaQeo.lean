/- Other nodes stay; no program in sight. -/
import Derived.Test.YtpeelfambaedkaaQea
import Derived.Test.YtpeelfambaedkaaPlaw09others
namespace Go.Proofs.Ytpeelfambaedkaa.P
open Go.RowKit Go.Proofs.YtpeelfambaedkaaW.PrintWords Go.Proofs.YtpeelfambaedkaaW.PrintLast Go.Proofs.YtpeelfambaedkaaW.PrintMore

theorem others_ev {l l' : List S59} (hS : Small l) (m q m' q' i : Int) (hl : l'.length = l.length) (h : ∀ j : Nat, (j : Int) ≠ i → rd_T59 l' (j : Int) = rd_T59 l (j : Int)) : Ev (fun k => flagstonelaw09_others.f k l' m' q' l m q i) true := by
  have hl1 := hS.1
  have key : ∀ r j : Nat, j ≤ l.length → l.length - j = r → Ev (fun k => flagstonelaw09_others.l0 k i (j : Int) l' m' q' l m q) true := by
    intro r
    induction r with
    | zero =>
      intro j hj hd
      exact Ev.step (fun k => by rw [flagstonelaw09_others.l0]) (Ev.neg (by omega) (Ev.now _))
    | succ r ih =>
      intro j hj hd
      refine Ev.step (fun k => by rw [flagstonelaw09_others.l0]) (Ev.pos (by omega) ?_)
      rw [wrap_one (by omega) (by omega)]
      by_cases c : (j : Int) = i
      · exact Ev.pos c (ih (j + 1) (by omega) (by omega))
      · refine Ev.neg c (Ev.pos (by omega) ?_)
        have hx := (hS.rd (j : Int)).2
        rw [h j c]
        refine Ev.bind (node_ev _ _ _ _ _ _ _ _ (by omega)) (Ev.pos (by omega) (Ev.bind (node_ev _ _ _ _ _ _ _ _ (by omega)) (Ev.bind (alike_ev _ _ _ _ _ _ _ _ (by rw [List.length_map]; omega)) (Ev.pos rfl ?_))))
        exact ih (j + 1) (by omega) (by omega)
  refine Ev.congr (fun k => by rw [flagstonelaw09_others.f, if_pos (by rw [hl])]) ?_
  exact key _ 0 (by omega) rfl
end Go.Proofs.Ytpeelfambaedkaa.P
