/- The plain law of ContentRefuses: it answers true; no program in sight. -/
import Derived.Test.YtpeelfambaedkaaQbg
import Derived.Test.YtpeelfambaedkaaQes
import Derived.Test.YtpeelfambaedkaaQs
import Derived.Test.YtpeelfambaedkaaPlaw09ContentRefuses
namespace Go.Proofs.Ytpeelfambaedkaa.P
open Go.RowKit Go.Proofs.YtpeelfambaedkaaW.PrintWords Go.Proofs.YtpeelfambaedkaaW.PrintLast Go.Proofs.YtpeelfambaedkaaW.PrintMore

theorem refuses_law (l : List S59) (m q i a n : Int) (s : ByteArray) : Ev (fun k => flagstonelaw09_ContentRefuses.f k l m q i a n s) true := by
  have out : Ev (fun k => flagstonelaw09_ContentRefuses.j0 k i a n s true l m q) true :=
    Ev.step (fun k => by rw [flagstonelaw09_ContentRefuses.j0]) (Ev.pos rfl (Ev.bind (Ev.is shown_ok) (Ev.now _)))
  obtain ⟨b, h1, h2⟩ := small_ev l m q
  refine Ev.congr (fun k => by rw [flagstonelaw09_ContentRefuses.f]) (Ev.bind h1 ?_)
  cases b with
  | false => exact Ev.neg (by decide) out
  | true =>
    have hS : Small l := Small.of (h2 rfl).1 (h2 rfl).2
    refine Ev.pos rfl ?_
    by_cases c : (s.size : Int) > 300
    · exact Ev.pos c out
    refine Ev.neg c (Ev.bind (Ev.is shown_ok) (Ev.step (fun k => by rw [flagstonelaw09_ContentRefuses.j0]) (Ev.neg (by decide) ?_)))
    have hs : s.size ≤ 400 := by omega
    have last : fileCode l i ≠ 0 → Ev (fun k => flagstonelaw09_ContentRefuses.j4 k i a n s (fileCode l i) l m q) true := by
      intro hc
      have er : readOf l i a n = (⟨#[]⟩, fileCode l i) := by unfold readOf; rw [if_pos hc]
      have ew : writeOf l q i a s = (l, fileCode l i) := by unfold writeOf; rw [if_pos hc]
      have ec : cutOf l q i n = (l, fileCode l i) := by unfold cutOf; rw [if_pos hc]
      have es : content_Size.f l m q i = some (0, fileCode l i) := by rw [size_is, if_neg hc]
      have er' := read_is l m q i a n
      have ew' := write_is hS m q i a s hs
      have ec' := cut_is hS m q i n
      rw [er] at er'
      rw [ew] at ew'
      rw [ec] at ec'
      refine Ev.step (fun k => by rw [flagstonelaw09_ContentRefuses.j4]) (Ev.bind (Ev.is er') (Ev.bind (Ev.is ew') (Ev.bind (Ev.is ec') (Ev.bind (Ev.is es) ?_))))
      refine Ev.pos ((bz_empty _).2 rfl) (Ev.pos rfl (Ev.pos rfl (Ev.pos rfl (Ev.pos rfl (Ev.pos rfl ?_)))))
      exact Ev.bind (hS.its m q) (Ev.bind (hS.its m q) (Ev.bind (same_ev hS m q) (Ev.pos rfl (Ev.bind (hS.its m q) (Ev.bind (hS.its m q) (Ev.bind (same_ev hS m q) (Ev.now _)))))))
    refine Ev.bind (hS.its m q) (Ev.bind (Ev.is (ref_get l m q i)) ?_)
    by_cases cn : isNode l i
    · have e : nodeOf l i = rd_T59 l i := if_pos cn
      rw [e]
      refine Ev.pos (decide_eq_true cn) (Ev.step (fun k => by rw [flagstonelaw09_ContentRefuses.j1]) ?_)
      by_cases c1 : (rd_T59 l i).f0 = 1
      · exact Ev.pos (by rw [show (conv (rd_T59 l i)).f0 = (rd_T59 l i).f0 from rfl, c1]; rfl) (Ev.now _)
      refine Ev.neg (fun h => c1 (eq_of_beq h)) (Ev.pos (decide_eq_true cn) (Ev.step (fun k => by rw [flagstonelaw09_ContentRefuses.j2]) (Ev.pos (decide_eq_true cn) (Ev.step (fun k => by rw [flagstonelaw09_ContentRefuses.j3]) ?_))))
      have ec : fileCode l i = if (rd_T59 l i).f0 = 2 then 5 else 1 := by unfold fileCode; rw [if_pos cn, if_neg c1]
      by_cases c2 : (rd_T59 l i).f0 = 2
      · rw [if_pos c2] at ec
        rw [ec] at last
        exact Ev.pos (by rw [show (conv (rd_T59 l i)).f0 = (rd_T59 l i).f0 from rfl, c2]; rfl) (last (by decide))
      · rw [if_neg c2] at ec
        rw [ec] at last
        exact Ev.neg (fun h => c2 (eq_of_beq h)) (last (by decide))
    · have ec : fileCode l i = 2 := if_neg cn
      rw [ec] at last
      refine Ev.neg (by simpa using cn) (Ev.step (fun k => by rw [flagstonelaw09_ContentRefuses.j1]) (Ev.neg (by decide) (Ev.neg (by simpa using cn) (Ev.step (fun k => by rw [flagstonelaw09_ContentRefuses.j2]) (Ev.neg (by simpa using cn) (Ev.step (fun k => by rw [flagstonelaw09_ContentRefuses.j3]) (Ev.neg (by decide) (last (by decide)))))))))
end Go.Proofs.Ytpeelfambaedkaa.P
