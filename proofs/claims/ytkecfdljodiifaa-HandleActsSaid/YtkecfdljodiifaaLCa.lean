/- Plain laws, by hand: the builtin copy at elements of any number of cells, of one whole row into another; what a row that is read holds, cell by cell; no condition. -/
import Derived.Test.YtkecfdljodiifaaV
import Derived.Laws.CopyOwn
import Derived.Laws.MakeOwn
import Derived.OwnWalk
namespace Go.Proofs.YtkecfdljodiifaaW.PrintMore
open Go.RowKit Go.Proofs.YtkecfdljodiifaaW.PrintWords

/-- What a row that is read holds, as one list of cells. -/
theorem C_cells {α : Type} (d : Kd α) {w : World} {A : Option Addr} {n : Nat} {xs : List α} (h : d.C w A n xs) :
    ∃ cs : List Value, cs.length = n * d.sz ∧ Reps (d.K w) d.sz xs cs ∧ (∀ u ∈ cs, u.oneCell' = true) ∧ (0 < n → ∃ ad, A = some ad ∧ ∀ j u, cs[j]? = some u → w.cell? (ad.add j) = some u) := by
  obtain ⟨hl, hm, hc0⟩ := h
  rcases Nat.eq_zero_or_pos n with h0 | h0
  · subst h0
    obtain rfl := List.eq_nil_of_length_eq_zero hl
    exact ⟨[], by simp, Reps.none _ _, by simp, fun h => absurd h (by omega)⟩
  · obtain ⟨ad, rfl, hc⟩ := hc0 h0
    have key : ∀ m, m ≤ n → ∃ cs : List Value, cs.length = m * d.sz ∧ Reps (d.K w) d.sz (xs.take m) cs ∧ (∀ u ∈ cs, u.oneCell' = true) ∧ ∀ j u, cs[j]? = some u → w.cell? (ad.add j) = some u := by
      intro m
      induction m with
      | zero => intro _; exact ⟨[], by simp, by simpa using Reps.none _ _, by simp, fun j u hj => by simp at hj⟩
      | succ m ih =>
        intro hmn
        obtain ⟨cs, h1, h2, h3, h4⟩ := ih (by omega)
        have hlt : m < xs.length := by omega
        obtain ⟨c, g1, g2, g3⟩ := hc m _ (List.getElem?_eq_getElem hlt)
        refine ⟨cs ++ c, by rw [List.length_append, h1, g1, Nat.add_mul, Nat.one_mul], ?_, ?_, ?_⟩
        · rw [List.take_succ_eq_append_getElem hlt]
          exact h2.snoc g2 g1
        · intro u hu
          rcases List.mem_append.1 hu with hu | hu
          · exact h3 u hu
          · exact d.K_one g2 u hu
        · intro j u hj
          rcases Nat.lt_or_ge j cs.length with hjl | hjl
          · rw [List.getElem?_append_left hjl] at hj
            exact h4 j u hj
          · rw [List.getElem?_append_right hjl] at hj
            have := g3 _ u hj
            rw [h1] at this
            have e : m * d.sz + (j - m * d.sz) = j := by omega
            rw [e] at this
            exact this
    obtain ⟨cs, h1, h2, h3, h4⟩ := key n (Nat.le_refl _)
    rw [List.take_of_length_le (by omega)] at h2
    exact ⟨cs, h1, h2, h3, fun _ => ⟨ad, rfl, h4⟩⟩

theorem addr_plain (g j : Nat) : (⟨g, 0, none⟩ : Addr).add j = ⟨g, j, none⟩ := by unfold Addr.add; split <;> simp_all

/-- A block that holds such cells reads as the row. -/
theorem C_of_block {α : Type} (d : Kd α) {w : World} {g : Nat} {t : TypeId} {xs : List α} {cs : List Value} (hr : Reps (d.K w) d.sz xs cs) (hm : xs.length ≤ 9223372036854775807)
    (hg : w.heap[g]? = some (.cells cs.toArray t (0, 0))) : d.C w (some ⟨g, 0, none⟩) xs.length xs := by
  refine ⟨rfl, hm, fun _ => ⟨_, rfl, fun j p hj => ?_⟩⟩
  have hjl := (List.getElem?_eq_some_iff.1 hj).1
  have hfit : j * d.sz + d.sz ≤ cs.length := by rw [hr.1, ← Nat.succ_mul]; exact Nat.mul_le_mul_right _ hjl
  refine ⟨(cs.drop (j * d.sz)).take d.sz, by rw [List.length_take, List.length_drop]; omega, hr.2 j p hj, fun i u hi => ?_⟩
  rw [addr_plain, blk_cell hg]
  rw [List.getElem?_take] at hi
  split at hi
  · rw [List.getElem?_drop] at hi
    simpa using hi
  · cases hi

theorem run_copy_full {P : Program} (w : World) (dT sT ty elem : TypeId) (g n dCap sCap sz : Nat) (A : Option Addr) (cur : Array Value) (t : TypeId) (cs : List Value)
    (hu : P.underlying dT = some (.slice elem)) (hs : (P.info? elem).map (·.size) = some sz) (hg : w.heap[g]? = some (.cells cur t (0, 0))) (hcur : cur.size = n * sz) (hn : cs.length = n * sz)
    (hsrc : 0 < n → ∃ ad, A = some ad ∧ ∀ j u, cs[j]? = some u → w.cell? (ad.add j) = some u) (h1 : ∀ u ∈ cs, u.oneCell' = true) :
    (Builtin.copy_ #[dT, sT] ty #[.slice (some ⟨g, 0, none⟩) n dCap, .slice A n sCap]).run P w = .ok (goInt n) (w.setRow g cs.toArray) := by
  cases hq : P.info? elem with
  | none => simp [hq] at hs
  | some i =>
    have hi : i.size = sz := by simpa [hq] using hs
    have hst := run_storeCells_at P g 0 t cs 0 cur w hg (by omega) h1
    have e : (cur.toList.take (0 + 0) ++ cs ++ cur.toList.drop (0 + 0 + cs.length)).toArray = cs.toArray := by
      have : cur.toList.drop (0 + 0 + cs.length) = [] := List.drop_eq_nil_of_le (by simp; omega)
      rw [this]
      simp
    rw [e] at hst
    rcases Nat.eq_zero_or_pos n with h0 | h0
    · subst h0
      obtain rfl : cs = [] := List.eq_nil_of_length_eq_zero (by omega)
      have hl : ∀ (x : Addr), (loadCells x 0).run P w = .ok #[] w := fun x => by simpa using run_loadCells_list (P := P) w x [] (by simp)
      cases A <;> simp [Builtin.copy_, run_underlying hu, Builtin.lenOf, Builtin.firstCells, sizeOf, typeInfo, hq, hl, hst]
    · obtain ⟨ad, rfl, hc⟩ := hsrc h0
      have hl := run_loadCells_list (P := P) w ad cs hc
      rw [hn] at hl
      simp [Builtin.copy_, run_underlying hu, Builtin.lenOf, Builtin.firstCells, sizeOf, typeInfo, hq, hi, hl, hst]

theorem kept_setRow {w0 w : World} {S : Nat → Prop} (h : Kept w0 w S) {g : Nat} (hg : S g ∨ w0.heap.size ≤ g) (cs : Array Value) : Kept w0 (w.setRow g cs) S :=
  ⟨by simpa [World.setRow] using h.1, fun i hi hs => (setRow_other w g i cs (fun e => by rcases hg with hg | hg; exact hs (e ▸ hg); omega)).trans (h.2 i hi hs)⟩

/-- 'make([]T, n)': a new block of n elements. -/
theorem make_row {P : Program} {t e : TypeId} {z : Value} {size bytes : Nat} (ht : P.underlying t = some (.slice e)) (hinfo : (P.info? e).map (fun i => (i.zero, i.size, i.bytes)) = some (some z, size, bytes)) (n : Nat) (hn : bytes * n ≤ 281474976710656) (h63 : n ≤ 9223372036854775807) :
    ∃ Z : Array Value, Z.size = n * size ∧ ∀ W : World, (Instr.makeSlice t (.int .i64 (n : Int)) (.int .i64 (n : Int))).run P W = .ok (.slice (some ⟨W.heap.size, 0, none⟩) n n) (W.alloc (.cells Z e)) := by
  obtain ⟨i0, hi, hz0, hz1, hz2⟩ := info_parts hinfo
  refine ⟨madeCells z.cells (n * size), size_madeCells _ _, fun W => ?_⟩
  have hb : (i0.bytes : Int) * (n : Int) ≤ 281474976710656 := by rw [hz2, ← Int.natCast_mul]; omega
  have h := run_make (P := P) W t e i0 z ht hi hz0 .i64 .i64 (n : Int) (n : Int) (by omega) (by omega) hb (by omega)
  rw [hz1] at h
  simpa using h

theorem setRow_blk {w : World} {g k : Nat} {o : Obj} (h : w.heap[k]? = some o) (hne : k ≠ g) (cs : Array Value) : (w.setRow g cs).heap[k]? = some o := (setRow_other w g k cs hne).trans h

/-- 'copy(dst, src)', dst a row of the call's own that is as long as src. -/
theorem wpList_copy_full {P : Program} {w : World} {ops : Array Oper} {rest : List Oper} {o : Oper} {a : Act} {Q : Exit → Act → World → Prop} (hgd : o.guard = none) (x s : Operand) (dT sT : TypeId)
    (ho : o.op = .call { callee := .builtin .copy, args := #[x, s], argTypes := #[dT, sT] }) (elem : TypeId) (sz : Nat) (hu : P.underlying dT = some (.slice elem)) (hsz : (P.info? elem).map (·.size) = some sz)
    (A : Option Addr) (g n dCap sCap : Nat) (hd : a.eval x = .slice (some ⟨g, 0, none⟩) n dCap) (hs : a.eval s = .slice A n sCap)
    (cur : Array Value) (t : TypeId) (hg : w.heap[g]? = some (.cells cur t (0, 0))) (hcur : cur.size = n * sz) (cs : List Value) (hn : cs.length = n * sz)
    (hsrc : 0 < n → ∃ ad, A = some ad ∧ ∀ j u, cs[j]? = some u → w.cell? (ad.add j) = some u) (h1 : ∀ u ∈ cs, u.oneCell' = true)
    (h : ∀ w', w'.heap[g]? = some (.cells cs.toArray t (0, 0)) → w' = w.setRow g cs.toArray → wpList P ops Q rest (a.put o.dst (goInt n)) w') : wpList P ops Q (o :: rest) a w := by
  refine wpList_plain hgd fun K hK => ?_
  have hrun := run_copy_full (P := P) w dT sT o.type elem g n dCap sCap sz A cur t cs hu hsz hg hcur hn hsrc h1
  unfold Oper.wp
  simp [execOp, ho, resolve, invoke, builtin, hd, hs, hrun, Result.andThen]
  exact hK _ _ (h _ (setRow_heap w g cur _ t _ hg) rfl)

/-- A row of the call's own that holds what came in: what it leads to is what that led to, and itself. -/
theorem V_copied {α : Type} (d : Kd α) {e base base' : Nat} {w w' : World} {ok ok' : Nat → Prop} {A : Option Addr} {c g c' : Nat} {t : TypeId} {xs : List α} {cs : List Value} (h : Kd.V d e w base ok (.slice A xs.length c) xs) (hok : ∀ k, ok k → k < w.heap.size → ok' k) (hokg : ok' g)
    (hlen : cs.length = xs.length * d.sz) (hsrc : 0 < xs.length → ∃ ad, A = some ad ∧ ∀ j u, cs[j]? = some u → w.cell? (ad.add j) = some u)
    (hold : ∀ k, ok k → k < w.heap.size → w'.heap[k]? = w.heap[k]?) (hg : w'.heap[g]? = some (.cells cs.toArray t (0, 0))) (hc : xs.length ≤ c') :
    Kd.V d e w' base' ok' (.slice (some ⟨g, 0, none⟩) xs.length c') xs := by
  refine Kd.V_mk hc fun W hW => ?_
  have hF := Kd.V_F h
  have hC : d.C W A xs.length xs := hF W (fun k hk hlt => (hW k (hok k hk hlt) (heap_lt (hold k hk hlt) hlt)).trans (hold k hk hlt))
  obtain ⟨cs2, l2, r2, _, s2⟩ := C_cells d hC
  have hgW : W.heap[g]? = some (.cells cs.toArray t (0, 0)) := (hW g hokg (blk_lt hg)).trans hg
  have e : cs2 = cs := by
    rcases Nat.eq_zero_or_pos xs.length with h0 | h0
    · rw [h0] at l2 hlen
      rw [List.eq_nil_of_length_eq_zero (by omega : cs2.length = 0), List.eq_nil_of_length_eq_zero (by omega : cs.length = 0)]
    · obtain ⟨ad, rfl, hs⟩ := hsrc h0
      obtain ⟨ad2, e2, hs2⟩ := s2 h0
      injection e2 with e2
      subst e2
      rcases Nat.eq_zero_or_pos d.sz with hz | hz
      · rw [hz] at l2 hlen
        rw [List.eq_nil_of_length_eq_zero (by omega : cs2.length = 0), List.eq_nil_of_length_eq_zero (by omega : cs.length = 0)]
      have hin : ok ad.block := Kd.F_in hF rfl h0 hz
      have hlt : ad.block < w.heap.size := Kd.C_lt (Kd.F_now hF) h0 hz
      have hb : W.heap[ad.block]? = w.heap[ad.block]? := (hW _ (hok _ hin hlt) (heap_lt (hold _ hin hlt) hlt)).trans (hold _ hin hlt)
      apply List.ext_getElem?
      intro j
      rcases Nat.lt_or_ge j cs.length with hj | hj
      · have a1 := hs j _ (List.getElem?_eq_getElem hj)
        have a2 := hs2 j _ (List.getElem?_eq_getElem (by omega : j < cs2.length))
        have a3 : W.cell? (ad.add j) = w.cell? (ad.add j) := World.cell?_of_block (by rw [add_block]; exact hb)
        rw [List.getElem?_eq_getElem hj, List.getElem?_eq_getElem (by omega : j < cs2.length), ← a1, ← a2, a3]
      · rw [List.getElem?_eq_none hj, List.getElem?_eq_none (by omega)]
  subst e
  exact C_of_block d r2 (Kd.F_max hF) hgW
end Go.Proofs.YtkecfdljodiifaaW.PrintMore
