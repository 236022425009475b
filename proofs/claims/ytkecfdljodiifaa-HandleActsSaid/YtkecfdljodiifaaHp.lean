/- The contract of slices.Repeat as New asks it, by hand: one element -1, eight times; no condition. -/
import Derived.Test.YtkecfdljodiifaaHm
import Derived.Deep.RegionLaw
namespace Go.Proofs.Ytkecfdljodiifaa.P
open Go.RowKit Go.Proofs.YtkecfdljodiifaaW.PrintWords Go.Proofs.YtkecfdljodiifaaW.PrintLast Go.Proofs.YtkecfdljodiifaaW.PrintMore

set_option maxHeartbeats 1000000 in
theorem Mul64_8 (w : World) : Calls Try.prog 44 #[.int .u64 1, .int .u64 8] w fun e w' => e = .returned (.tuple #[.int .u64 0, .int .u64 8]) ∧ w' = w := by
  go_enter Try.func44, Try.ntmps44
  go_wp2
  go_ret2
  exact ⟨rfl, rfl⟩
set_option maxHeartbeats 1000000 in
theorem Mul_8 (w : World) : Calls Try.prog 41 #[.int .u64 1, .int .u64 8] w fun e w' => e = .returned (.tuple #[.int .u64 0, .int .u64 8]) ∧ w' = w := by
  go_enter Try.func41, Try.ntmps41
  go_wp2_with (first | (go_at_call 44; refine (Mul64_8 _).mono ?_; rintro e w' ⟨rfl, rfl⟩))
  go_ret2
  exact ⟨rfl, rfl⟩

abbrev m1 : Value := .int .i64 (-1)
abbrev n0 : Value := .int .i64 0
theorem one_cell {w : World} {ad : Addr} {u : Value} (h : w.cell? ad = some u) : ∀ j v, [u][j]? = some v → w.cell? (ad.add j) = some v := by
  intro j v hj
  match j, hj with
  | 0, hj =>
    simp only [List.getElem?_cons_zero, Option.some.injEq] at hj
    subst hj
    simpa [Addr.add] using h
  | j + 1, hj => simp at hj
theorem in_block {w : World} {g : Nat} {t : TypeId} {cur : Array Value} {cs : List Value} (h : w.heap[g]? = some (.cells cur t (0, 0))) (hc : cur.toList.take cs.length = cs) : ∀ j v, cs[j]? = some v → w.cell? ((⟨g, 0, none⟩ : Addr).add j) = some v := by
  intro j v hj
  rw [addr_plain, blk_cell h]
  rw [← hc, List.getElem?_take] at hj
  split at hj
  · simpa using hj
  · cases hj
set_option maxHeartbeats 2000000 in
set_option maxRecDepth 100000 in
theorem Repeat_8 (ad : Addr) (c : Nat) (w : World) (h : w.cell? ad = some m1) :
    Calls Try.prog 33 #[.slice (some ad) 1 c, .int .i64 8] w fun e w' => ∃ g : Nat, e = .returned (.slice (some ⟨g, 0, none⟩) 8 8) ∧ w.heap.size ≤ g ∧ w'.heap[g]? = some (.cells #[m1, m1, m1, m1, m1, m1, m1, m1] 3 (0, 0)) ∧ Below w.heap.size w w' := by
  obtain ⟨Z, z, mz⟩ := make_row Try.underlying64 infoR 8 (by omega) (by omega)
  obtain ⟨a0, a1, a2, a3, a4, a5, a6, a7, rfl⟩ : ∃ a0 a1 a2 a3 a4 a5 a6 a7, Z = #[a0, a1, a2, a3, a4, a5, a6, a7] := by
    rcases Z with ⟨l⟩
    match l, z with
    | [a0, a1, a2, a3, a4, a5, a6, a7], _ => exact ⟨a0, a1, a2, a3, a4, a5, a6, a7, rfl⟩
  clear z
  replace mz : ∀ W : World, (Instr.makeSlice 64 (.int .i64 8) (.int .i64 8)).run Try.prog W = .ok (.slice (some ⟨W.heap.size, 0, none⟩) 8 8) (W.alloc (.cells #[a0, a1, a2, a3, a4, a5, a6, a7] 3)) := mz
  have H := Aside0.mk h
  have HB := Aside0.mk (below_alloc (Below.refl w.heap.size w) (.cells #[a0, a1, a2, a3, a4, a5, a6, a7] 3))
  have H2 := Aside0.mk (pw_cell_below HB.out h)
  have HG := Aside0.mk (blk_new w (.cells #[a0, a1, a2, a3, a4, a5, a6, a7] 3))
  clear h
  go_enter Try.func33, Try.ntmps33
  go_upto_region 7 with (first | (go_at_call 41; refine (Mul_8 _).mono ?_; rintro e w2 ⟨rfl, rfl⟩))
  generalize w2.alloc (.cells #[a0, a1, a2, a3, a4, a5, a6, a7] 3) = w3 at HB H2 HG ⊢
  have HS := Aside0.mk (Nat.le_refl w2.heap.size)
  generalize hg : w2.heap.size = g at HG ⊢
  replace HS : Aside0 (w2.heap.size ≤ g) := Aside0.mk (Nat.le_of_eq hg)
  clear hg
  go_upto_region 8 with (first
    | ((with_reducible refine wpList_copy_splice rfl (.tmp 31) (.tmp 32) 64 64 rfl 3 Try.underlying64 sizeR (some ⟨g, 0, none⟩) (some ad) 8 8 1 c rfl rfl g 0 [a0, a1, a2, a3, a4, a5, a6, a7] 3 HG.out [m1] rfl (fun _ => ⟨rfl, ad, rfl, one_cell H2.out⟩) (by simp) (by simp [Value.oneCell']) w2.heap.size w2 HB.out HS.out ?_); intro w4 hg4 hb4))
  have G4 := Aside0.mk (show w4.heap[g]? = some (.cells #[m1, a1, a2, a3, a4, a5, a6, a7] 3 (0, 0)) from hg4)
  have B4 := Aside0.mk hb4
  clear hg4 hb4 HG HB H2 H mz
  refine wp_loop_rounds 4 ?_
  rw [rounds_succ]
  go_upto_region 9 with (fail)
  go_region_law (first | (refine step_copy_splice rfl (.tmp 41) (.tmp 44) 64 64 rfl 3 Try.underlying64 sizeR (some ⟨g, 1, none⟩) (some ⟨g, 0, none⟩) 7 7 1 8 (by simp [Act.eval, Act.put]) (by simp [Act.eval, Act.put]) g 1 [m1, a1, a2, a3, a4, a5, a6, a7] 3 (blk_drew G4.out) [m1] rfl (fun _ => ⟨rfl, _, rfl, in_block (blk_drew G4.out) rfl⟩) (by simp) (by simp [Value.oneCell']) w2.heap.size w2 B4.out.drew HS.out ?_; intro w5 hg hb))
  have G5 := Aside0.mk (show w5.heap[g]? = some (.cells #[m1, m1, a2, a3, a4, a5, a6, a7] 3 (0, 0)) from hg)
  have B5 := Aside0.mk hb
  clear hg hb G4 B4
  go_wp2_with fail
  rw [rounds_succ]
  go_upto_region 9 with (fail)
  go_region_law (first | (refine step_copy_splice rfl (.tmp 41) (.tmp 44) 64 64 rfl 3 Try.underlying64 sizeR (some ⟨g, 2, none⟩) (some ⟨g, 0, none⟩) 6 6 2 8 (by simp [Act.eval, Act.put]) (by simp [Act.eval, Act.put]) g 2 [m1, m1, a2, a3, a4, a5, a6, a7] 3 (blk_drew G5.out) [m1, m1] rfl (fun _ => ⟨rfl, _, rfl, in_block (blk_drew G5.out) rfl⟩) (by simp) (by simp [Value.oneCell']) w2.heap.size w2 B5.out.drew HS.out ?_; intro w6 hg hb))
  have G6 := Aside0.mk (show w6.heap[g]? = some (.cells #[m1, m1, m1, m1, a4, a5, a6, a7] 3 (0, 0)) from hg)
  have B6 := Aside0.mk hb
  clear hg hb G5 B5
  go_wp2_with fail
  rw [rounds_succ]
  go_upto_region 9 with (fail)
  go_region_law (first | (refine step_copy_splice rfl (.tmp 41) (.tmp 44) 64 64 rfl 3 Try.underlying64 sizeR (some ⟨g, 4, none⟩) (some ⟨g, 0, none⟩) 4 4 4 8 (by simp [Act.eval, Act.put]) (by simp [Act.eval, Act.put]) g 4 [m1, m1, m1, m1, a4, a5, a6, a7] 3 (blk_drew G6.out) [m1, m1, m1, m1] rfl (fun _ => ⟨rfl, _, rfl, in_block (blk_drew G6.out) rfl⟩) (by simp) (by simp [Value.oneCell']) w2.heap.size w2 B6.out.drew HS.out ?_; intro w7 hg hb))
  have G7 := Aside0.mk (show w7.heap[g]? = some (.cells #[m1, m1, m1, m1, m1, m1, m1, m1] 3 (0, 0)) from hg)
  have B7 := Aside0.mk hb
  clear hg hb G6 B6
  go_wp2_with fail
  rw [rounds_succ]
  go_wp2_with fail
  go_ret
  exact ⟨g, rfl, HS.out, G7.out, B7.out⟩
end Go.Proofs.Ytkecfdljodiifaa.P
