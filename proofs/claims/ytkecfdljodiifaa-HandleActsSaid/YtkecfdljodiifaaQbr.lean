/- Plain laws of layer 10's references, over tables that are right: what is had, which descriptor is the first one that is free, what a copy is; no program in sight. -/
import Derived.Test.YtkecfdljodiifaaQb
import Derived.Test.YtkecfdljodiifaaPref10Count
import Derived.Test.YtkecfdljodiifaaPref10Get
import Derived.Test.YtkecfdljodiifaaPref10first
import Derived.Test.YtkecfdljodiifaaPref10copied
namespace Go.Proofs.Ytkecfdljodiifaa.P
open Go.RowKit Go.Proofs.YtkecfdljodiifaaW.PrintWords Go.Proofs.YtkecfdljodiifaaW.PrintLast Go.Proofs.YtkecfdljodiifaaW.PrintMore

theorem getref_eq {ds : List S38} {fs : List (List Int)} (R : Rt ds fs) (p d : Int) : flagstoneref10_Get.f (ds.map conv) fs p d = some (getT ds (getI fs p d)) := by
  unfold flagstoneref10_Get.f
  have hI := R.getI p d
  by_cases h : 0 ≤ p ∧ p < (fs.length : Int) ∧ 0 ≤ d ∧ d < ((rd_L1 fs p).length : Int)
  · obtain ⟨h1, h2, h3, h4⟩ := h
    have e := getI_in ⟨h1, h2, h3, h4⟩
    rw [e] at hI ⊢
    rw [if_neg (by omega), if_neg (by omega), if_neg (by omega), if_pos h1, if_pos h2, if_neg (by omega), if_pos h3, if_pos h4]
    by_cases hn : rd (rd_L1 fs p) d = -1
    · rw [if_pos (by omega), hn, getT_none]
    · rw [if_neg (by omega), if_pos (by omega), if_pos (by rw [List.length_map]; exact hI.2), getT_some ds hn, rd_conv]
      rfl
  · rw [getI_out h, getT_none]
    by_cases c1 : p < 0
    · rw [if_pos c1]
    · rw [if_neg c1]
      by_cases c2 : p ≥ (fs.length : Int)
      · rw [if_pos c2]
      · rw [if_neg c2]
        by_cases c3 : d < 0
        · rw [if_pos c3]
        · rw [if_neg c3, if_pos (by omega), if_pos (by omega), if_pos (by omega)]

theorem first_ev {ds : List S38} {fs : List (List Int)} (R : Rt ds fs) (p : Nat) (hp : p < fs.length) : Ev (fun k => flagstoneref10_first.f k (ds.map conv) fs (p : Int)) (firstI (rd_L1 fs (p : Int))) := by
  refine Ev.congr (fun k => by rw [flagstoneref10_first.f]) ?_
  have h8 := (R.row p hp).1
  have key : ∀ d j : Nat, j ≤ 8 → 8 - j = d → (∀ i : Nat, i < j → rd (rd_L1 fs (p : Int)) (i : Int) ≠ -1) → Ev (fun k => flagstoneref10_first.l0 k (p : Int) (j : Int) (ds.map conv) fs) (firstI (rd_L1 fs (p : Int))) := by
    intro d
    induction d with
    | zero =>
      intro j hj hd hn
      obtain rfl : j = 8 := by omega
      refine Ev.step (fun k => by rw [flagstoneref10_first.l0]) ?_
      refine Ev.pos (by omega) (Ev.pos (by omega) (Ev.neg (by omega) ?_))
      rw [firstI_miss (by rw [h8]; exact hn)]
      exact Ev.now _
    | succ d ih =>
      intro j hj hd hn
      have he := R.ent p j hp (by omega)
      refine Ev.step (fun k => by rw [flagstoneref10_first.l0]) ?_
      refine Ev.pos (by omega) (Ev.pos (by omega) (Ev.pos (by omega) (Ev.pos (by omega) ?_)))
      by_cases e : rd (rd_L1 fs (p : Int)) (j : Int) = -1
      · refine Ev.pos (by omega) ?_
        rw [firstI_hit (by omega) e hn]
        exact Ev.now _
      · refine Ev.neg (by omega) ?_
        rw [wrap_small (by omega) (by omega)]
        refine ih (j + 1) (by omega) (by omega) fun i hi => ?_
        by_cases c : i = j
        · subst c
          exact e
        · exact hn i (by omega)
  exact key 8 0 (by omega) (by omega) (fun i hi => absurd hi (Nat.not_lt_zero i))

theorem copied_ev (ds : List S54) (fs : List (List Int)) (hd : ds.length < 1000000) (hf : fs.length < 1000000) (hr : ∀ i : Nat, i < fs.length → (rd_L1 fs (i : Int)).length < 1000000) : Ev (fun k => flagstoneref10_copied.f k ds fs) (ds, fs) := by
  refine Ev.congr (fun k => by rw [flagstoneref10_copied.f, Option.bind_some]) ?_
  refine Ev.pos (by simp only [List.length_nil]; exact Nat.lt_trans (by omega : 0 + ds.length < 1000000) (by decide)) ?_
  rw [List.nil_append]
  have key : ∀ d j : Nat, j ≤ fs.length → fs.length - j = d → Ev (fun k => flagstoneref10_copied.l0 k (j : Int) ds fs ds (fs.take j)) (ds, fs) := by
    intro d
    induction d with
    | zero =>
      intro j hj hd
      obtain rfl : j = fs.length := by omega
      refine Ev.step (fun k => by rw [flagstoneref10_copied.l0]) ?_
      refine Ev.neg (by omega) ?_
      rw [List.take_length]
      exact Ev.now _
    | succ d ih =>
      intro j hj hd
      have hlt : j < fs.length := by omega
      have h1 := hr j hlt
      refine Ev.step (fun k => by rw [flagstoneref10_copied.l0]) ?_
      refine Ev.pos (by omega) (Ev.bind (Ev.now _) (Ev.pos (by omega) (Ev.pos ?_ (Ev.pos ?_ ?_))))
      · simp only [List.length_nil]
        exact Nat.lt_trans (by omega : 0 + (rd_L1 fs (j : Int)).length < 1000000) (by decide)
      · rw [List.length_take]
        exact Nat.lt_trans (by omega : min j fs.length < 1000000) (by decide)
      · rw [wrap_small (by omega) (by omega), List.nil_append]
        have h := ih (j + 1) (by omega) (by omega)
        rw [List.take_succ_eq_append_getElem hlt] at h
        rw [rd_row fs j hlt]
        exact h
  exact key _ 0 (by omega) rfl

theorem countref_ev {ds : List S38} {fs : List (List Int)} (R : Rt ds fs) (p : Int) : Ev (fun k => flagstoneref10_Count.f k (ds.map conv) fs p) (countR fs p) := by
  refine Ev.congr (fun k => by rw [flagstoneref10_Count.f]) ?_
  by_cases c1 : p < 0
  · refine Ev.pos c1 ?_
    have e : countR fs p = 0 := if_neg (by omega)
    rw [e]
    exact Ev.step (fun k => by rw [flagstoneref10_Count.j0]) (Ev.pos rfl (Ev.now _))
  · refine Ev.neg c1 ?_
    by_cases c2 : p ≥ (fs.length : Int)
    · have e : countR fs p = 0 := if_neg (by omega)
      rw [e, decide_eq_true c2]
      exact Ev.step (fun k => by rw [flagstoneref10_Count.j0]) (Ev.pos rfl (Ev.now _))
    · have e : countR fs p = ((rd_L1 fs p).countP (fun v => !(v == -1)) : Int) := if_pos (by omega)
      rw [e, decide_eq_false c2]
      refine Ev.step (fun k => by rw [flagstoneref10_Count.j0]) (Ev.neg (by decide) ?_)
      obtain ⟨p, rfl⟩ : ∃ k : Nat, p = (k : Int) := ⟨p.toNat, by omega⟩
      have hp : p < fs.length := by omega
      have h8 := (R.row p hp).1
      have key : ∀ d j : Nat, j ≤ 8 → 8 - j = d → Ev (fun k => flagstoneref10_Count.l0 k (p : Int) (((rd_L1 fs (p : Int)).take j).countP (fun v => !(v == -1)) : Int) (j : Int) (ds.map conv) fs) ((rd_L1 fs (p : Int)).countP (fun v => !(v == -1)) : Int) := by
        intro d
        induction d with
        | zero =>
          intro j hj hd
          obtain rfl : j = 8 := by omega
          refine Ev.step (fun k => by rw [flagstoneref10_Count.l0]) ?_
          refine Ev.pos (by omega) (Ev.pos (by omega) (Ev.neg (by omega) ?_))
          rw [List.take_of_length_le (by omega)]
          exact Ev.now _
        | succ d ih =>
          intro j hj hd
          have he := R.ent p j hp (by omega)
          have hs := count_step (rd_L1 fs (p : Int)) j (by omega)
          have hle := count_le (rd_L1 fs (p : Int)) j
          have h := ih (j + 1) (by omega) (by omega)
          refine Ev.step (fun k => by rw [flagstoneref10_Count.l0]) ?_
          refine Ev.pos (by omega) (Ev.pos (by omega) (Ev.pos (by omega) (Ev.pos (by omega) ?_)))
          rw [hs] at h
          by_cases e : rd (rd_L1 fs (p : Int)) (j : Int) = -1
          · refine Ev.neg (by omega) ?_
            rw [if_pos e, Int.add_zero] at h
            rw [wrap_small (by omega) (by omega)]
            exact h
          · refine Ev.pos (by omega) ?_
            rw [if_neg e] at h
            rw [wrap_small (by omega) (by omega), wrap_small (by omega) (by omega)]
            exact h
      exact key 8 0 (by omega) (by omega)
end Go.Proofs.Ytkecfdljodiifaa.P
