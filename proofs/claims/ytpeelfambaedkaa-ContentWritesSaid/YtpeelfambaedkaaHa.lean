/- The contract of slices.Clone at nodes, by hand: the list is copied to the front of a block of the call's own; it is short enough for memory. -/
import Derived.Test.YtpeelfambaedkaaPK
import Derived.Test.YtpeelfambaedkaaLPr
import Derived.WalkSpells
import Derived.Outline
namespace Go.Proofs.Ytpeelfambaedkaa.P
open Go.RowKit Go.Proofs.YtpeelfambaedkaaW.PrintWords Go.Proofs.YtpeelfambaedkaaW.PrintLast Go.Proofs.YtpeelfambaedkaaW.PrintMore

set_option maxHeartbeats 400000 in
theorem Clone_nil (n c : Nat) (w : World) : Calls Try.prog 45 #[.slice none n c] w fun e w' => e = .returned (.slice none 0 0) ∧ w = w' := by
  have hnn := fun (W : World) => Lib.run_eql_slice_nil (P := Try.prog) W 22 59 none n c 0 0 Try.underlying22
  go_enter Try.func45, Try.ntmps45
  go_wp2_with fail
  go_ret
  exact ⟨rfl, rfl⟩

set_option maxHeartbeats 1000000 in
theorem Clone_at (ad : Addr) (n c : Nat) (cs : List Value) (w : World) (hn : n ≤ 1000) (hl : cs.length = n * 8) (hc : ∀ j u, cs[j]? = some u → w.cell? (ad.add j) = some u) (h1 : ∀ u ∈ cs, u.oneCell' = true) :
    Calls Try.prog 45 #[.slice (some ad) n c] w fun e w' => ∃ (g cap : Nat) (cur : Array Value), e = .returned (.slice (some ⟨g, 0, none⟩) n cap) ∧ w.heap.size ≤ g ∧ n ≤ cap ∧ w'.heap[g]? = some (.cells cur 59 (0, 0)) ∧ cur.toList.take (n * 8) = cs ∧ Below w.heap.size w w' := by
  have hnn := fun (W : World) => Lib.run_eql_slice_nil (P := Try.prog) W 22 59 (some ad) n c 0 0 Try.underlying22
  obtain ⟨i0, hi, hz0, hz1, hz2⟩ := info_parts info59
  have HC := Aside0.mk hc
  have HL := Aside0.mk hl
  have H1 := Aside0.mk h1
  have HN := Aside0.mk hn
  have HB := Aside0.mk (below_alloc (Below.refl w.heap.size w) (.cells #[] 59))
  have HCW := Aside0.mk (fun (j : Nat) (u : Value) (hj : cs[j]? = some u) => pw_cell_below HB.out (hc j u hj))
  have HO := Aside0.mk (show (w.alloc (.cells #[] 59)).ownsRow w.heap.size 59 8 (.slice (some ⟨w.heap.size, 0, none⟩) 0 0) 0 [] from ⟨rfl, .inr ⟨w.heap.size, 0, #[], rfl, Nat.le_refl _, blk_new w _, Nat.le_refl _, Nat.zero_le _, rfl, rfl⟩⟩)
  have HI := Aside0.mk (And.intro hi (And.intro hz0 (And.intro hz1 hz2)))
  clear hc hl h1 hn hi hz0 hz1 hz2
  go_enter Try.func45, Try.ntmps45
  go_wp2_with (first
    | (at_builtin; refine wpList_append_own_at _ rfl (.tmp 5) (.tmp 6) 22 rfl w.heap.size 59 i0 _ 8 88 Try.underlying22 HI.out.1 HI.out.2.1 HI.out.2.2.1 HI.out.2.2.2 rfl (by decide) (.slice (some ⟨w.heap.size, 0, none⟩) 0 0) 0 [] rfl HO.out ad n c cs rfl HL.out HCW.out H1.out (by have := HN.out; unfold maxLen; omega) (by have := HN.out; omega) (by simp) ?_; intro v1 w1 ho hg hv hat))
  obtain ⟨hl1, h | ⟨g, cap, cur, rfl, hge, hb, hcap, _, _, htk⟩⟩ := ho
  · exact absurd (hv.1 h.1).1 (by simp)
  simp only [Nat.zero_add, List.nil_append] at hcap htk
  have hB := HB.out.grown hg (by simp) (own_base HO.out)
  go_ret
  exact ⟨g, cap, cur, by rw [Nat.zero_add]; rfl, hge, hcap, hb, htk, hB⟩
end Go.Proofs.Ytpeelfambaedkaa.P
