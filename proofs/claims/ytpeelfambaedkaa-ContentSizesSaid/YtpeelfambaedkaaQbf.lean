/- The reference's file and Size say the same; no program in sight. -/
import Derived.Test.YtpeelfambaedkaaQbg
import Derived.Test.YtpeelfambaedkaaPref09Size
namespace Go.Proofs.Ytpeelfambaedkaa.P
open Go.RowKit Go.Proofs.YtpeelfambaedkaaW.PrintWords Go.Proofs.YtpeelfambaedkaaW.PrintLast Go.Proofs.YtpeelfambaedkaaW.PrintMore

theorem ref_file (l : List S59) (m q i : Int) : flagstoneref09_file.f (l.map conv) m q i = some ((conv (nodeOf l i)).f0, (conv (nodeOf l i)).f1, (conv (nodeOf l i)).f2, (conv (nodeOf l i)).f3, (conv (nodeOf l i)).f4, (conv (nodeOf l i)).f5, (conv (nodeOf l i)).f6, (conv (nodeOf l i)).f7, fileCode l i) := by
  unfold flagstoneref09_file.f
  rw [ref_get, Option.bind_some]
  dsimp only
  by_cases c : isNode l i
  · have hn : nodeOf l i = rd_T59 l i := if_pos c
    rw [if_pos (decide_eq_true c)]
    unfold fileCode
    rw [if_pos c]
    have e : (conv (nodeOf l i)).f0 = (rd_T59 l i).f0 := by rw [hn]; rfl
    by_cases c2 : (rd_T59 l i).f0 = 2
    · rw [if_pos (e.trans c2), if_neg (by omega), if_pos c2]
    · rw [if_neg (fun h => c2 (e.symm.trans h))]
      by_cases c1 : (rd_T59 l i).f0 = 1
      · rw [if_pos (e.trans c1), if_pos c1]
      · rw [if_neg (fun h => c1 (e.symm.trans h)), if_neg c1, if_neg c2]
  · rw [if_neg (by simpa using c)]
    unfold fileCode
    rw [if_neg c]
theorem ref_size (l : List S59) (m q i : Int) : flagstoneref09_Size.f (l.map conv) m q i = content_Size.f l m q i := by
  unfold flagstoneref09_Size.f
  rw [ref_file, Option.bind_some, size_is]
  dsimp only
  by_cases c : fileCode l i = 0
  · rw [if_pos c, if_pos c, c]
    rfl
  · rw [if_neg c, if_neg c]
end Go.Proofs.Ytpeelfambaedkaa.P
