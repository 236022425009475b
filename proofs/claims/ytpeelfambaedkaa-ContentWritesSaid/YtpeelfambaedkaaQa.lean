/- Plain laws of what the laws of layer 9 hand on: its, node, small; no program in sight. -/
import Derived.Test.YtpeelfambaedkaaPlaw09its
import Derived.Test.YtpeelfambaedkaaPlaw09small
namespace Go.Proofs.Ytpeelfambaedkaa.P
open Go.RowKit Go.Proofs.YtpeelfambaedkaaW.PrintWords Go.Proofs.YtpeelfambaedkaaW.PrintLast Go.Proofs.YtpeelfambaedkaaW.PrintMore

theorem Ev.pos {α : Type} {c : Prop} [Decidable c] {a b : Nat → Option α} {r : α} (h : c) (k : Ev a r) : Ev (fun n => if c then a n else b n) r := Ev.congr (fun _ => if_pos h) k
theorem Ev.neg {α : Type} {c : Prop} [Decidable c] {a b : Nat → Option α} {r : α} (h : ¬ c) (k : Ev b r) : Ev (fun n => if c then a n else b n) r := Ev.congr (fun _ => if_neg h) k
theorem wrap_one {i : Int} (h0 : 0 ≤ i) (h1 : i < 4611686018427387904) : wrap64 (i + 1) = i + 1 := by
  unfold wrap64
  omega
def convE (x : S76) : S75 := ⟨x.f0, x.f1⟩
def conv (x : S59) : S53 := ⟨x.f0, x.f1, x.f2, x.f3, x.f4, x.f5, x.f6, x.f7.map convE⟩
theorem rd_conv (l : List S59) (i : Int) : rd_T53 (l.map conv) i = conv (rd_T59 l i) := by
  have : z53 = conv z59 := rfl
  simp only [rd_T53, rd_T59, this, List.getD_eq_getElem?_getD, List.getElem?_map]
  cases l[i.toNat]? <;> rfl
theorem node_ev (a b c d e f : Int) (g : ByteArray) (l : List S76) (hn : l.length < 1000000) : Ev (fun k => flagstonelaw09_node.f k a b c d e f g l) (a, b, c, d, e, f, g, l.map convE) := by
  have key : ∀ r j : Nat, j ≤ l.length → l.length - j = r → Ev (fun k => flagstonelaw09_node.l0 k (j : Int) a b c d e f g l a b c d e f g ((l.take j).map convE)) (a, b, c, d, e, f, g, l.map convE) := by
    intro r
    induction r with
    | zero =>
      intro j hj hd
      refine Ev.step (fun k => by rw [flagstonelaw09_node.l0]) ?_
      refine Ev.neg (by omega) ?_
      rw [List.take_of_length_le (by omega)]
      exact Ev.now _
    | succ r ih =>
      intro j hj hd
      refine Ev.step (fun k => by rw [flagstonelaw09_node.l0]) ?_
      refine Ev.pos (by omega) (Ev.pos (by omega) (Ev.pos (by simp; omega) ?_))
      rw [wrap_one (by omega) (by omega)]
      have h := ih (j + 1) (by omega) (by omega)
      have e : (l.take (j + 1)).map convE = (l.take j).map convE ++ [⟨(rd_T76 l (j : Int)).f0, (rd_T76 l (j : Int)).f1⟩] := by
        rw [List.take_succ_eq_append_getElem (by omega), List.map_append]
        simp [rd_T76, convE, show j < l.length by omega]
      rw [e] at h
      exact h
  exact key _ 0 (by omega) rfl
theorem its_ev (l : List S59) (m q : Int) (hn : l.length < 1000000) (hs : ∀ x ∈ l, x.f7.length < 1000000) : Ev (fun k => flagstonelaw09_its.f k l m q) (l.map conv, m, q) := by
  have key : ∀ d j : Nat, j ≤ l.length → l.length - j = d → Ev (fun k => flagstonelaw09_its.l0 k (j : Int) l m q ((l.take j).map conv) m q) (l.map conv, m, q) := by
    intro d
    induction d with
    | zero =>
      intro j hj hd
      refine Ev.step (fun k => by rw [flagstonelaw09_its.l0]) ?_
      refine Ev.neg (by omega) ?_
      rw [List.take_of_length_le (by omega)]
      exact Ev.now _
    | succ d ih =>
      intro j hj hd
      have hlt : j < l.length := by omega
      have er : rd_T59 l (j : Int) = l[j] := by simp [rd_T59, List.getD_eq_getElem?_getD, List.getElem?_eq_getElem hlt]
      refine Ev.step (fun k => by rw [flagstonelaw09_its.l0]) ?_
      refine Ev.pos (by omega) (Ev.pos (by omega) ?_)
      refine Ev.bind (node_ev _ _ _ _ _ _ _ _ (by rw [er]; exact hs _ (List.getElem_mem hlt))) ?_
      refine Ev.pos (by simp; omega) ?_
      rw [wrap_one (by omega) (by omega)]
      have h := ih (j + 1) (by omega) (by omega)
      have e : (l.take (j + 1)).map conv = (l.take j).map conv ++ [conv (rd_T59 l (j : Int))] := by
        rw [List.take_succ_eq_append_getElem hlt, List.map_append, er]
        rfl
      rw [e] at h
      exact h
  exact key _ 0 (by omega) rfl

def fits (x : S59) : Prop := x.f6.size ≤ 1500 ∧ x.f7.length ≤ 60
theorem small_ev (l : List S59) (m q : Int) : ∃ b, Ev (fun k => flagstonelaw09_small.f k l m q) b ∧ (b = true → l.length ≤ 100 ∧ ∀ i : Nat, i < l.length → fits (rd_T59 l (i : Int))) := by
  have stop : ∀ j : Nat, (l.length ≤ j ∨ 110 ≤ j) → (∀ i : Nat, i < j → i < l.length → fits (rd_T59 l (i : Int))) → ∃ b, Ev (fun k => flagstonelaw09_small.j1 k (j : Int) false l m q) b ∧ (b = true → l.length ≤ 100 ∧ ∀ i : Nat, i < l.length → fits (rd_T59 l (i : Int))) := by
    intro j hj hf
    refine ⟨decide ((l.length : Int) ≤ 100), Ev.step (fun k => by rw [flagstonelaw09_small.j1]) (Ev.neg (by decide) (Ev.now _)), fun hb => ?_⟩
    have h100 : (l.length : Int) ≤ 100 := of_decide_eq_true hb
    exact ⟨by omega, fun i hi => hf i (by omega) hi⟩
  have key : ∀ d j : Nat, j ≤ 110 → 110 - j = d → (∀ i : Nat, i < j → i < l.length → fits (rd_T59 l (i : Int))) → ∃ b, Ev (fun k => flagstonelaw09_small.l0 k (j : Int) l m q) b ∧ (b = true → l.length ≤ 100 ∧ ∀ i : Nat, i < l.length → fits (rd_T59 l (i : Int))) := by
    intro d
    induction d with
    | zero =>
      intro j hj hd hf
      obtain ⟨b, h1, h2⟩ := stop j (.inr (by omega)) hf
      refine ⟨b, Ev.step (fun k => by rw [flagstonelaw09_small.l0]) ?_, h2⟩
      by_cases c : (j : Int) < (l.length : Int)
      · refine Ev.pos c ?_
        rw [show decide ((j : Int) < 110) = false from decide_eq_false (by omega)]
        exact h1
      · exact Ev.neg c h1
    | succ d ih =>
      intro j hj hd hf
      by_cases c : (j : Int) < (l.length : Int)
      · have e : decide ((j : Int) < 110) = true := decide_eq_true (by omega)
        by_cases c1 : (((rd_T59 l (j : Int)).f6).size : Int) > 1500
        · refine ⟨false, Ev.step (fun k => by rw [flagstonelaw09_small.l0]) (Ev.pos c ?_), fun h => by cases h⟩
          rw [e]
          exact Ev.step (fun k => by rw [flagstonelaw09_small.j1]) (Ev.pos rfl (Ev.pos (by omega) (Ev.pos c (Ev.pos c1 (Ev.now _)))))
        by_cases c2 : (((rd_T59 l (j : Int)).f7).length : Int) > 60
        · refine ⟨false, Ev.step (fun k => by rw [flagstonelaw09_small.l0]) (Ev.pos c ?_), fun h => by cases h⟩
          rw [e]
          exact Ev.step (fun k => by rw [flagstonelaw09_small.j1]) (Ev.pos rfl (Ev.pos (by omega) (Ev.pos c (Ev.neg c1 (Ev.pos c2 (Ev.now _))))))
        obtain ⟨b, h1, h2⟩ := ih (j + 1) (by omega) (by omega) (fun i hi hil => by
          by_cases ei : i = j
          · subst ei
            exact ⟨by omega, by omega⟩
          · exact hf i (by omega) hil)
        refine ⟨b, Ev.step (fun k => by rw [flagstonelaw09_small.l0]) (Ev.pos c ?_), h2⟩
        rw [e]
        refine Ev.step (fun k => by rw [flagstonelaw09_small.j1]) (Ev.pos rfl (Ev.pos (by omega) (Ev.pos c (Ev.neg c1 (Ev.neg c2 ?_)))))
        rw [wrap_one (by omega) (by omega)]
        exact h1
      · obtain ⟨b, h1, h2⟩ := stop j (.inl (by omega)) hf
        exact ⟨b, Ev.step (fun k => by rw [flagstonelaw09_small.l0]) (Ev.neg c h1), h2⟩
  exact key 110 0 (by omega) rfl (fun i hi => absurd hi (Nat.not_lt_zero _))
end Go.Proofs.Ytpeelfambaedkaa.P
