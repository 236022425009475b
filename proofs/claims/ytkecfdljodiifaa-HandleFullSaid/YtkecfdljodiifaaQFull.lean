/- The plain law of HandleFull: it answers true; its byte is one. -/
import Derived.Test.YtkecfdljodiifaaQs
import Derived.Test.YtkecfdljodiifaaQd
import Derived.Test.YtkecfdljodiifaaPlaw10HandleFull
namespace Go.Proofs.Ytkecfdljodiifaa.P
open Go.RowKit Go.Proofs.YtkecfdljodiifaaW.PrintWords Go.Proofs.YtkecfdljodiifaaW.PrintLast Go.Proofs.YtkecfdljodiifaaW.PrintMore

theorem row_open (v : Int) (hv : v ≠ -1) : ∀ (row : List Int) (d : Nat) (h : d < row.length), row[d] = -1 → (row.set d v).countP (fun v => !(v == -1)) = row.countP (fun v => !(v == -1)) + 1 := by
  intro row
  induction row with
  | nil => intro d h; simp at h
  | cons b row ih =>
    intro d h hb
    cases d with
    | zero =>
      simp only [List.getElem_cons_zero] at hb
      subst hb
      simp [hv]
    | succ d =>
      have := ih d (by simpa using h) (by simpa using hb)
      simp only [List.set_cons_succ, List.countP_cons, this]
      omega
theorem full_row (row : List Int) : firstI row = -1 ↔ row.countP (fun v => !(v == -1)) = row.length := by
  constructor
  · intro h
    rcases firstI_cases row with ⟨_, h2⟩ | ⟨k, e, _⟩
    · refine List.countP_eq_length.2 fun v hv => ?_
      obtain ⟨j, hj, rfl⟩ := List.getElem_of_mem hv
      have := h2 j hj
      rw [rd_int _ j hj] at this
      simpa using this
    · omega
  · intro h
    refine firstI_miss fun j hj => ?_
    have := List.countP_eq_length.1 h _ (List.getElem_mem hj)
    rw [rd_int _ j hj]
    simpa using this
theorem getT_is2 (ds : List S38) (i : Int) : (getT ds i).2.2.2.2.2.2.2 = !(i == -1) := by
  by_cases c : i = -1
  · rw [c]
    rfl
  · rw [getT_some ds c]
    simp [c]
theorem getI_at {ds : List S38} {fs : List (List Int)} (R : Rt ds fs) (p j : Nat) (hp : p < fs.length) (hj : j < 8) : getI fs (p : Int) (j : Int) = rd (rd_L1 fs (p : Int)) (j : Int) :=
  getI_in ⟨by omega, by omega, by omega, by have := (R.row p hp).1; omega⟩

theorem full_inner {ds : List S38} {fs : List (List Int)} (R : Rt ds fs) (p fd : Nat) (hp : p < fs.length) (hfd : fd < 8) (n i b0 b1 : Int) (b2 b3 : Bool) (b4 b5 : Int) (da : List S38) (fa : List (List Int)) (hf : ∀ j : Nat, j < fd → rd (rd_L1 fs (p : Int)) (j : Int) ≠ -1)
    (h : Ev (fun k => flagstonelaw10_HandleFull.l0 k (p : Int) (wrap64 (n + 1)) (fd : Int) (wrap64 (i + 1)) da fa b0 b1 b2 b3 b4 b5) true) : ∀ m j : Nat, j ≤ fd → fd - j = m →
    Ev (fun k => flagstonelaw10_HandleFull.l1 k (p : Int) n i (fd : Int) (j : Int) ds fs b0 b1 b2 b3 b4 b5 da fa) true := by
  intro m
  induction m with
  | zero =>
    intro j hj hm
    refine Ev.step (fun k => by rw [flagstonelaw10_HandleFull.l1]) ?_
    exact Ev.neg (by omega) h
  | succ m ih =>
    intro j hj hm
    refine Ev.step (fun k => by rw [flagstonelaw10_HandleFull.l1]) ?_
    rw [get_eq R, getI_at R p j hp (by omega)]
    refine Ev.pos (by omega) (Ev.bind (Ev.now _) (Ev.pos ?_ ?_))
    · rw [getT_is2]
      simpa using hf j (by omega)
    · rw [wrap_small (by omega) (by omega)]
      exact ih (j + 1) (by omega) (by omega)
theorem full_outer (p : Nat) (b0 b1 : Int) (b2 b3 : Bool) (b4 b5 : Int) : ∀ m : Nat, ∀ (ds : List S38) (fs : List (List Int)) (n i : Nat) (last : Int), Rt ds fs → p < fs.length → ds.length ≤ 100 + i → i ≤ n → n + m = 8 →
    (rd_L1 fs (p : Int)).countP (fun v => !(v == -1)) = n → last < 8 → (∀ j : Nat, (j : Int) ≤ last → rd (rd_L1 fs (p : Int)) (j : Int) ≠ -1) →
    Ev (fun k => flagstonelaw10_HandleFull.l0 k (p : Int) (n : Int) last (i : Int) ds fs b0 b1 b2 b3 b4 b5) true := by
  intro m
  induction m with
  | zero =>
    intro ds fs n i last R hp hd hi hm hc hl hlast
    have h8 := (R.row p hp).1
    have hfull : firstI (rd_L1 fs (p : Int)) = -1 := (full_row _).2 (by omega)
    refine Ev.step (fun k => by rw [flagstonelaw10_HandleFull.l0]) ?_
    rw [open_eq R, openR_full ds fs p _ hp (by omega)]
    refine Ev.pos (by omega) (Ev.bind (Ev.now _) (Ev.neg (show ¬ (13 : Int) = 0 by decide) (Ev.pos rfl ?_)))
    have e : ((n : Int) == 8) = true := by simp; omega
    rw [e]
    exact Ev.now _
  | succ m ih =>
    intro ds fs n i last R hp hd hi hm hc hl hlast
    have h8 := (R.row p hp).1
    rcases firstI_cases (rd_L1 fs (p : Int)) with ⟨e, _⟩ | ⟨fd, e, hfd, hfree, hbefore⟩
    · have := (full_row _).1 e
      omega
    · have Ra := R.opened (by omega) (p : Int) ⟨b0, b1, b2, b3, b4, b5⟩
      have eo := openR_ok ds fs p fd ⟨b0, b1, b2, b3, b4, b5⟩ hp e
      rw [eo] at Ra
      dsimp only at Ra
      have hgt : last < (fd : Int) := by
        rcases Int.lt_or_le last (fd : Int) with g | g
        · exact g
        · exact absurd hfree (hlast fd g)
      refine Ev.step (fun k => by rw [flagstonelaw10_HandleFull.l0]) ?_
      rw [open_eq R, eo]
      refine Ev.pos (by omega) (Ev.bind (Ev.now _) (Ev.pos rfl ?_))
      dsimp only
      rw [get_eq R, getI_at R p fd hp (by omega), hfree]
      refine Ev.bind (Ev.now _) (Ev.neg (by rw [getT_none]; decide) (Ev.neg (by omega) (Ev.neg (by omega) ?_)))
      rw [decide_eq_false (by omega : ¬ (n : Int) ≥ 8)]
      refine Ev.step (fun k => by rw [flagstonelaw10_HandleFull.j2]) (Ev.neg (by decide) ?_)
      refine full_inner R p fd hp (by omega) n i b0 b1 b2 b3 b4 b5 _ _ hbefore ?_ fd 0 (by omega) rfl
      rw [wrap_small (by omega) (by omega), wrap_small (by omega) (by omega)]
      have hrow : rd_L1 (fs.set p ((rd_L1 fs (p : Int)).set fd (placeOf ds : Int))) (p : Int) = (rd_L1 fs (p : Int)).set fd (placeOf ds : Int) := by
        rw [row_put R p hp, if_pos rfl]
      have hle := placed_le ds (placeOf ds) ⟨b0, b1, b2, b3, 1, b5⟩
      refine ih _ _ (n + 1) (i + 1) (fd : Int) Ra (by rw [List.length_set]; exact hp) (by omega) (by omega) (by omega) ?_ (by omega) ?_
      · rw [hrow, row_open _ (by omega) _ fd hfd (by rw [← rd_int _ fd hfd]; exact hfree), hc]
      · intro j hj
        rw [hrow]
        by_cases c : j = fd
        · subst c
          rw [rd_int _ j (by rw [List.length_set]; exact hfd), List.getElem_set_self]
          omega
        · have hj2 := hbefore j (by omega)
          rw [rd_int _ j (by omega)] at hj2
          rw [rd_int _ j (by rw [List.length_set]; omega), List.getElem_set_ne (fun h => c h.symm)]
          exact hj2
theorem full_law (ds : List S38) (fs : List (List Int)) (a1 : Int) (ha : 0 ≤ a1 ∧ a1 ≤ 255) (b0 b1 : Int) (b2 b3 : Bool) (b4 b5 : Int) : Ev (fun k => flagstonelaw10_HandleFull.f k ds fs a1 b0 b1 b2 b3 b4 b5) true := by
  have out : Ev (fun k => flagstonelaw10_HandleFull.j0 k a1 true ds fs b0 b1 b2 b3 b4 b5) true := by
    refine Ev.step (fun k => by rw [flagstonelaw10_HandleFull.j0]) ?_
    exact Ev.pos rfl (Ev.bind shown_ev (Ev.now _))
  refine Ev.congr (fun k => by rw [flagstonelaw10_HandleFull.f]) ?_
  refine Ev.bind (fine_ev ds fs) ?_
  cases hF : fineB ds fs
  · exact Ev.neg (by decide) out
  · refine Ev.pos rfl ?_
    by_cases c : (fs.length : Int) = 0
    · exact Ev.pos c out
    · refine Ev.neg c (Ev.bind shown_ev (Ev.step (fun k => by rw [flagstonelaw10_HandleFull.j0]) (Ev.neg (by decide) (Ev.neg c ?_))))
      obtain ⟨R, h1, h2⟩ := fine_rt hF
      have hw : wrap64 a1 = a1 := by unfold wrap64; omega
      have hm0 : 0 ≤ Int.tmod a1 (fs.length : Int) := Int.tmod_nonneg _ ha.1
      have hm1 : Int.tmod a1 (fs.length : Int) < (fs.length : Int) := Int.tmod_lt_of_pos _ (by omega)
      rw [hw]
      generalize Int.tmod a1 (fs.length : Int) = p at hm0 hm1 ⊢
      obtain ⟨p, rfl⟩ : ∃ k : Nat, p = (k : Int) := ⟨p.toNat, by omega⟩
      refine Ev.bind (count_ev R (p : Int)) ?_
      have h8 := (R.row p (by omega)).1
      have e : countR fs (p : Int) = ((rd_L1 fs (p : Int)).countP (fun v => !(v == -1)) : Int) := if_pos (by omega)
      rw [e]
      have hle : (rd_L1 fs (p : Int)).countP (fun v => !(v == -1)) ≤ 8 := by
        rw [← h8]
        exact List.countP_le_length
      exact full_outer p b0 b1 b2 b3 b4 b5 (8 - (rd_L1 fs (p : Int)).countP (fun v => !(v == -1))) ds fs _ 0 (-1) R (by omega) (by omega) (Nat.zero_le _) (by omega) rfl (by omega) (fun j hj => by omega)
end Go.Proofs.Ytkecfdljodiifaa.P
