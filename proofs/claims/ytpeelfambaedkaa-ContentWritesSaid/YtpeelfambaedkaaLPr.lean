/- Plain laws, by hand: rows whose block may have room for more; what came in, copied into the front of such a block; no condition. -/
import Derived.Test.YtpeelfambaedkaaLCa
namespace Go.Proofs.YtpeelfambaedkaaW.PrintMore
open Go.RowKit Go.Proofs.YtpeelfambaedkaaW.PrintWords

/-- A block whose first cells are the row's: it may have room for more. -/
theorem C_of_prefix {α : Type} (d : Kd α) {w : World} {g : Nat} {t : TypeId} {xs : List α} {cs : List Value} {cur : Array Value} (hr : Reps (d.K w) d.sz xs cs) (hm : xs.length ≤ 9223372036854775807)
    (hg : w.heap[g]? = some (.cells cur t (0, 0))) (hp : cur.toList.take (xs.length * d.sz) = cs) : d.C w (some ⟨g, 0, none⟩) xs.length xs := by
  refine ⟨rfl, hm, fun _ => ⟨_, rfl, fun j p hj => ?_⟩⟩
  have hjl := (List.getElem?_eq_some_iff.1 hj).1
  have hfit : j * d.sz + d.sz ≤ cs.length := by rw [hr.1, ← Nat.succ_mul]; exact Nat.mul_le_mul_right _ hjl
  refine ⟨(cs.drop (j * d.sz)).take d.sz, by rw [List.length_take, List.length_drop]; omega, hr.2 j p hj, fun i u hi => ?_⟩
  rw [addr_plain, blk_cell hg]
  rw [List.getElem?_take] at hi
  split at hi
  · rw [List.getElem?_drop, ← hp, List.getElem?_take] at hi
    split at hi
    · simpa using hi
    · cases hi
  · cases hi

/-- What came in reads as it read, and its cells are the same, in every world that holds its blocks. -/
theorem V_reps {α : Type} (d : Kd α) {e base : Nat} {w W : World} {ok : Nat → Prop} {A : Option Addr} {c : Nat} {xs : List α} {cs : List Value} (h : Kd.V d e w base ok (.slice A xs.length c) xs)
    (hlen : cs.length = xs.length * d.sz) (hsrc : 0 < xs.length → ∃ ad, A = some ad ∧ ∀ j u, cs[j]? = some u → w.cell? (ad.add j) = some u) (hold : ∀ k, ok k → k < w.heap.size → W.heap[k]? = w.heap[k]?) : Reps (d.K W) d.sz xs cs := by
  have hF := Kd.V_F h
  have hC : d.C W A xs.length xs := hF W hold
  obtain ⟨cs2, l2, r2, _, s2⟩ := C_cells d hC
  have e : cs2 = cs := by
    rcases Nat.eq_zero_or_pos xs.length with h0 | h0
    · rw [h0] at l2 hlen
      rw [List.eq_nil_of_length_eq_zero (by omega : cs2.length = 0), List.eq_nil_of_length_eq_zero (by omega : cs.length = 0)]
    · obtain ⟨ad, rfl, hs⟩ := hsrc h0
      obtain ⟨ad2, e2, hs2⟩ := s2 h0
      injection e2 with e2
      subst e2
      rcases Nat.eq_zero_or_pos d.sz with hz | hz
      · rw [hz] at l2 hlen
        rw [List.eq_nil_of_length_eq_zero (by omega : cs2.length = 0), List.eq_nil_of_length_eq_zero (by omega : cs.length = 0)]
      have hin : ok ad.block := Kd.F_in hF rfl h0 hz
      have hlt : ad.block < w.heap.size := Kd.C_lt (Kd.F_now hF) h0 hz
      have hb : W.heap[ad.block]? = w.heap[ad.block]? := hold _ hin hlt
      apply List.ext_getElem?
      intro j
      rcases Nat.lt_or_ge j cs.length with hj | hj
      · have a1 := hs j _ (List.getElem?_eq_getElem hj)
        have a2 := hs2 j _ (List.getElem?_eq_getElem (by omega : j < cs2.length))
        have a3 : W.cell? (ad.add j) = w.cell? (ad.add j) := World.cell?_of_block (by rw [add_block]; exact hb)
        rw [List.getElem?_eq_getElem hj, List.getElem?_eq_getElem (by omega : j < cs2.length), ← a1, ← a2, a3]
      · rw [List.getElem?_eq_none hj, List.getElem?_eq_none (by omega)]
  exact e ▸ r2
/-- What came in, copied to the front of a block of the call's own. -/
theorem V_copied_front {α : Type} (d : Kd α) {e base base' : Nat} {w w' : World} {ok ok' : Nat → Prop} {A : Option Addr} {c g c' : Nat} {t : TypeId} {xs : List α} {cs : List Value} {cur : Array Value} (h : Kd.V d e w base ok (.slice A xs.length c) xs) (hok : ∀ k, ok k → k < w.heap.size → ok' k) (hokg : ok' g)
    (hlen : cs.length = xs.length * d.sz) (hsrc : 0 < xs.length → ∃ ad, A = some ad ∧ ∀ j u, cs[j]? = some u → w.cell? (ad.add j) = some u)
    (hold : ∀ k, ok k → k < w.heap.size → w'.heap[k]? = w.heap[k]?) (hg : w'.heap[g]? = some (.cells cur t (0, 0))) (hp : cur.toList.take (xs.length * d.sz) = cs) (hc : xs.length ≤ c') :
    Kd.V d e w' base' ok' (.slice (some ⟨g, 0, none⟩) xs.length c') xs :=
  Kd.V_mk hc fun W hW => C_of_prefix d (V_reps d h hlen hsrc (fun k hk hlt => (hW k (hok k hk hlt) (heap_lt (hold k hk hlt) hlt)).trans (hold k hk hlt))) (Kd.F_max (Kd.V_F h)) ((hW g hokg (blk_lt hg)).trans hg) hp
end Go.Proofs.YtpeelfambaedkaaW.PrintMore
