/- Plain laws, fourth part: what a change of one lock keeps; no program in sight. -/
import Derived.Test.YtbfjakhloabhmaaQc
namespace Go.Proofs.Ytbfjakhloabhmaa.P
open Go.RowKit Go.Proofs.YtbfjakhloabhmaaW.PrintWords Go.Proofs.YtbfjakhloabhmaaW.PrintLast Go.Proofs.YtbfjakhloabhmaaW.PrintMore

def put (ds : List S44) (i v : Int) : List S44 := ds.set i.toNat { rd_T44 ds i with f5 := v }
theorem put_length (ds : List S44) (i v : Int) : (put ds i v).length = ds.length := by simp [put]
theorem rd_put_self (ds : List S44) (i v : Int) (h0 : 0 ≤ i) (h1 : i < (ds.length : Int)) : rd_T44 (put ds i v) i = { rd_T44 ds i with f5 := v } := by
  have h : i.toNat < ds.length := by omega
  simp [rd_T44, put, List.getD_eq_getElem?_getD, h]
theorem rd_put_other (ds : List S44) (i v k : Int) (h0 : 0 ≤ i) (hk : 0 ≤ k) (hne : k ≠ i) : rd_T44 (put ds i v) k = rd_T44 ds k := by
  have h : ¬ i.toNat = k.toNat := by omega
  simp [rd_T44, put, List.getD_eq_getElem?_getD, List.getElem?_set, h]

/-- of like shape: as many, each of its file and its number of holders of a descriptor -/
def Like (ds cs : List S44) : Prop := cs.length = ds.length ∧ ∀ k : Nat, (rd_T44 cs (k : Int)).f0 = (rd_T44 ds (k : Int)).f0 ∧ (rd_T44 cs (k : Int)).f4 = (rd_T44 ds (k : Int)).f4
theorem Like.refl (ds : List S44) : Like ds ds := ⟨rfl, fun _ => ⟨rfl, rfl⟩⟩
theorem Like.put {ds cs : List S44} (h : Like ds cs) (i v : Int) (h0 : 0 ≤ i) (h1 : i < (ds.length : Int)) : Like ds (put cs i v) := by
  have hl : i < (cs.length : Int) := by rw [h.1]; exact h1
  refine ⟨by rw [put_length]; exact h.1, fun k => ?_⟩
  by_cases e : (k : Int) = i
  · have hk := h.2 k
    rw [e] at hk ⊢
    rw [rd_put_self cs i v h0 hl]
    exact hk
  · rw [rd_put_other cs i v k h0 (by omega) e]
    exact h.2 k

theorem lockR_cases (ds : List S44) (fs : List (List Int)) (a1 a2 : Int) :
    (lockR ds fs a1 a2 = (put ds a1 a2, fs, 0) ∧ 0 ≤ a2 ∧ a2 ≤ 2 ∧ 0 ≤ a1 ∧ a1 < (ds.length : Int) ∧ ¬ (rd_T44 ds a1).f4 < 1 ∧ blockedTo ds a1 (rd_T44 ds a1).f0 a2 ds.length = false) ∨
    (∃ e : Int, lockR ds fs a1 a2 = (ds, fs, e) ∧ e ≠ 0 ∧ (e = 14 → 0 ≤ a2 ∧ a2 ≤ 2 ∧ 0 ≤ a1 ∧ a1 < (ds.length : Int) ∧ ¬ (rd_T44 ds a1).f4 < 1)) := by
  unfold lockR
  by_cases c1 : a2 < 0 ∨ 2 < a2
  · rw [if_pos c1]
    exact .inr ⟨1, rfl, by decide, fun h => absurd h (by decide)⟩
  · rw [if_neg c1]
    by_cases c2 : a1 < 0 ∨ (ds.length : Int) ≤ a1 ∨ (rd_T44 ds a1).f4 < 1
    · rw [if_pos c2]
      exact .inr ⟨12, rfl, by decide, fun h => absurd h (by decide)⟩
    · rw [if_neg c2]
      have d1 : 0 ≤ a1 := by omega
      have d2 : a1 < (ds.length : Int) := by omega
      have d3 : ¬ (rd_T44 ds a1).f4 < 1 := fun c => c2 (.inr (.inr c))
      cases hb : blockedTo ds a1 (rd_T44 ds a1).f0 a2 ds.length
      · exact .inl ⟨rfl, by omega, by omega, d1, d2, d3, rfl⟩
      · exact .inr ⟨14, rfl, by decide, fun _ => ⟨by omega, by omega, d1, d2, d3⟩⟩
theorem lockR_ok {ds : List S44} {fs : List (List Int)} {a1 a2 : Int} (h0 : 0 ≤ a2) (h2 : a2 ≤ 2) (d1 : 0 ≤ a1) (d2 : a1 < (ds.length : Int)) (d3 : ¬ (rd_T44 ds a1).f4 < 1) (hb : blockedTo ds a1 (rd_T44 ds a1).f0 a2 ds.length = false) : lockR ds fs a1 a2 = (put ds a1 a2, fs, 0) := by
  unfold lockR
  rw [if_neg (by omega), if_neg (by omega), hb]
  rfl
theorem lockR_shut {ds : List S44} {fs : List (List Int)} {a1 a2 : Int} (h0 : 0 ≤ a2) (h2 : a2 ≤ 2) (d1 : 0 ≤ a1) (d2 : a1 < (ds.length : Int)) (d3 : ¬ (rd_T44 ds a1).f4 < 1) (hb : blockedTo ds a1 (rd_T44 ds a1).f0 a2 ds.length = true) : lockR ds fs a1 a2 = (ds, fs, 14) := by
  unfold lockR
  rw [if_neg (by omega), if_neg (by omega), hb]
  rfl
theorem lockR_fds (ds : List S44) (fs : List (List Int)) (a1 a2 : Int) : (lockR ds fs a1 a2).2.1 = fs := by
  rcases lockR_cases ds fs a1 a2 with ⟨e, _⟩ | ⟨_, e, _⟩ <;> rw [e]
theorem lockR_length (ds : List S44) (fs : List (List Int)) (a1 a2 : Int) : (lockR ds fs a1 a2).1.length = ds.length := by
  rcases lockR_cases ds fs a1 a2 with ⟨e, _⟩ | ⟨_, e, _⟩ <;> rw [e]
  exact put_length _ _ _
theorem inWay_none (i k lock : Int) : inWay i 0 k lock = false := by simp [inWay]
theorem blocked_none (ds : List S44) (i ino : Int) (n : Nat) : blockedTo ds i ino 0 n = false := blockedTo_false.2 fun k _ => by simp [blockedAt, inWay_none]
theorem lockR_none {ds : List S44} {fs : List (List Int)} {a1 : Int} (d1 : 0 ≤ a1) (d2 : a1 < (ds.length : Int)) (d3 : ¬ (rd_T44 ds a1).f4 < 1) : lockR ds fs a1 0 = (put ds a1 0, fs, 0) :=
  lockR_ok (by decide) (by decide) d1 d2 d3 (blocked_none _ _ _ _)

/-! what a fine table keeps -/
structure Fine (ds : List S44) (fs : List (List Int)) : Prop where
  hd : ds.length ≤ 100
  hf : fs.length ≤ 20
  hr : rightB ds fs = true
theorem fine_iff {ds : List S44} {fs : List (List Int)} : fineB ds fs = true ↔ Fine ds fs := by
  simp only [fineB, Bool.and_eq_true, decide_eq_true_eq]
  exact ⟨fun h => ⟨h.1.1, h.1.2, h.2⟩, fun h => ⟨⟨h.1, h.2⟩, h.3⟩⟩
theorem Fine.rows {ds : List S44} {fs : List (List Int)} (h : Fine ds fs) (i : Nat) (hi : i < fs.length) : (rd_L4 fs (i : Int)).length < 1000000 := by
  have hr := h.hr
  simp only [rightB, Bool.and_eq_true] at hr
  have hm : rd_L4 fs (i : Int) ∈ fs := by
    have e : rd_L4 fs (i : Int) = fs[i] := by simp [rd_L4, hi]
    rw [e]
    exact List.getElem_mem hi
  have h8 := (List.all_eq_true.1 hr.1) _ hm
  simp only [Bool.and_eq_true, decide_eq_true_eq] at h8
  omega
theorem Fine.hd' {ds : List S44} {fs : List (List Int)} (h : Fine ds fs) : ds.length < 1000000 := Nat.lt_of_le_of_lt h.hd (by decide)
theorem Fine.hf' {ds : List S44} {fs : List (List Int)} (h : Fine ds fs) : fs.length < 1000000 := Nat.lt_of_le_of_lt h.hf (by decide)
theorem Fine.hdi {ds : List S44} {fs : List (List Int)} (h : Fine ds fs) : ds.length < 3518437208883 := Nat.lt_of_le_of_lt h.hd (by decide)
theorem Fine.put {ds : List S44} {fs : List (List Int)} (h : Fine ds fs) (i v : Int) (h0 : 0 ≤ i) (h1 : i < (ds.length : Int)) (h4 : ¬ (rd_T44 ds i).f4 < 1) : Fine (put ds i v) fs := by
  refine ⟨by rw [put_length]; exact h.hd, h.hf, ?_⟩
  have hr := h.hr
  simp only [rightB, Bool.and_eq_true, put_length, descsOk, List.all_eq_true, List.mem_range] at hr ⊢
  refine ⟨hr.1, fun k hk => ?_⟩
  have hd := hr.2 k hk
  by_cases e : (k : Int) = i
  · rw [e] at hd ⊢
    rw [rd_put_self ds i v h0 h1]
    simp only [descOk, Bool.and_eq_true, Bool.or_eq_true, decide_eq_true_eq] at hd ⊢
    exact ⟨hd.1, .inl (by omega)⟩
  · rw [rd_put_other ds i v k h0 (by omega) e]
    exact hd
theorem Fine.lock {ds : List S44} {fs : List (List Int)} (h : Fine ds fs) (a1 a2 : Int) : Fine (lockR ds fs a1 a2).1 fs := by
  rcases lockR_cases ds fs a1 a2 with ⟨e, _, _, d1, d2, d3, _⟩ | ⟨_, e, _⟩ <;> rw [e]
  · exact h.put _ _ d1 d2 d3
  · exact h

/-! counting over the places -/
theorem holders_range (ds : List S44) (ino lock : Int) : holdersOf ds ino lock = (List.range ds.length).countP fun (k : Nat) => tells ino lock (rd_T44 ds (k : Int)) := by
  have e : ds = (List.range ds.length).map fun (k : Nat) => rd_T44 ds (k : Int) := by
    apply List.ext_getElem
    · simp
    · intro i h1 h2
      simp [rd_T44, h1]
  conv => lhs; rw [e]
  unfold holdersOf
  rw [List.countP_map]
  rfl
theorem count_le_one (p : Nat → Bool) (i : Nat) : ∀ n : Nat, (∀ k : Nat, k < n → p k = true → k = i) → (List.range n).countP p ≤ (if n ≤ i then 0 else 1) := by
  intro n
  induction n with
  | zero => intro _; simp
  | succ n ih =>
    intro h
    have := ih fun k hk => h k (by omega)
    rw [List.range_succ, List.countP_append, List.countP_singleton]
    by_cases hp : p n = true
    · have e := h n (by omega) hp
      simp only [hp, if_true]
      split at this <;> split <;> omega
    · have hp' : p n = false := by simpa using hp
      simp only [hp', Bool.false_eq_true, if_false]
      split at this <;> split <;> omega
theorem two_le_count (p : Nat → Bool) : ∀ n i j : Nat, i < j → j < n → p i = true → p j = true → 2 ≤ (List.range n).countP p := by
  intro n
  induction n with
  | zero => intro i j _ h; omega
  | succ n ih =>
    intro i j hij hj hi hpj
    rw [List.range_succ, List.countP_append, List.countP_singleton]
    by_cases e : j = n
    · subst e
      have : 0 < (List.range j).countP p := List.countP_pos_iff.2 ⟨i, List.mem_range.2 hij, hi⟩
      simp only [hpj, if_true]
      omega
    · have := ih i j hij (by omega) hi hpj
      omega
theorem holders_two {ds : List S44} {ino lock : Int} {i j : Nat} (hne : i ≠ j) (hi : i < ds.length) (hj : j < ds.length) (ti : tells ino lock (rd_T44 ds (i : Int)) = true) (tj : tells ino lock (rd_T44 ds (j : Int)) = true) : 2 ≤ holdersOf ds ino lock := by
  rw [holders_range]
  rcases Nat.lt_or_gt_of_ne hne with h | h
  · exact two_le_count _ _ i j h hj ti tj
  · exact two_le_count _ _ j i h hi tj ti
theorem holders_one {ds : List S44} {ino lock : Int} {i : Nat} (hi : i < ds.length) (ti : tells ino lock (rd_T44 ds (i : Int)) = true) : 1 ≤ holdersOf ds ino lock := by
  rw [holders_range]
  exact List.countP_pos_iff.2 ⟨i, List.mem_range.2 hi, ti⟩
theorem holders_zero {ds : List S44} {ino lock : Int} (h : ∀ k : Nat, k < ds.length → tells ino lock (rd_T44 ds (k : Int)) = false) : holdersOf ds ino lock = 0 := by
  rw [holders_range, List.countP_eq_zero]
  intro k hk
  rw [h k (List.mem_range.1 hk)]
  decide
theorem holders_same {ds cs : List S44} {ino lock : Int} (hl : cs.length = ds.length) (h : ∀ k : Nat, k < ds.length → tells ino lock (rd_T44 cs (k : Int)) = tells ino lock (rd_T44 ds (k : Int))) : holdersOf cs ino lock = holdersOf ds ino lock := by
  rw [holders_range, holders_range, hl]
  exact List.countP_congr fun k hk => by rw [h k (List.mem_range.1 hk)]
theorem holders_mono {ds cs : List S44} {ino lock : Int} (hl : cs.length = ds.length) (h : ∀ k : Nat, k < ds.length → tells ino lock (rd_T44 cs (k : Int)) = true → tells ino lock (rd_T44 ds (k : Int)) = true) : holdersOf cs ino lock ≤ holdersOf ds ino lock := by
  rw [holders_range, holders_range, hl]
  exact List.countP_mono_left fun k hk => h k (List.mem_range.1 hk)
theorem fairB_iff {ds : List S44} : fairB ds = true ↔ ∀ k : Nat, k < ds.length → 0 ≤ (rd_T44 ds (k : Int)).f5 ∧ (rd_T44 ds (k : Int)).f5 ≤ 2 ∧ holdersOf ds (rd_T44 ds (k : Int)).f0 2 ≤ 1 ∧ (holdersOf ds (rd_T44 ds (k : Int)).f0 2 = 1 → holdersOf ds (rd_T44 ds (k : Int)).f0 1 = 0) := by
  simp only [fairB, List.all_eq_true, List.mem_range, fairAt_iff]
theorem tells_iff {ino lock : Int} {x : S44} : tells ino lock x = true ↔ x.f4 > 0 ∧ x.f0 = ino ∧ x.f5 = lock := by
  simp [tells, and_assoc]
theorem free_of {ds : List S44} {i ino kind : Int} {n : Nat} (hb : blockedTo ds i ino kind n = false) (k : Nat) (hk : k < n) (hne : (k : Int) ≠ i) (h4 : (rd_T44 ds (k : Int)).f4 > 0) (h0 : (rd_T44 ds (k : Int)).f0 = ino) :
    (kind = 2 → (rd_T44 ds (k : Int)).f5 = 0) ∧ (kind = 1 → (rd_T44 ds (k : Int)).f5 ≠ 2) := by
  have h := blockedTo_false.1 hb k hk
  unfold blockedAt inWay at h
  rw [decide_eq_true h4, decide_eq_true h0, decide_eq_true hne] at h
  simp only [Bool.true_and, Bool.or_eq_false_iff, Bool.and_eq_false_iff, decide_eq_false_iff_not] at h
  refine ⟨fun e => ?_, fun e => ?_⟩
  · rcases h.1 with g | g
    · exact absurd e g
    · exact Decidable.not_not.1 g
  · rcases h.2 with g | g
    · exact absurd e g
    · exact g
theorem fair_put {ds : List S44} {a1 a2 : Int} (hF : fairB ds = true) (h0 : 0 ≤ a2) (h2 : a2 ≤ 2) (d1 : 0 ≤ a1) (d2 : a1 < (ds.length : Int)) (hb : blockedTo ds a1 (rd_T44 ds a1).f0 a2 ds.length = false) : fairB (put ds a1 a2) = true := by
  rw [fairB_iff] at hF ⊢
  rw [put_length]
  intro k hk
  have hl := put_length ds a1 a2
  have hFk := hF k hk
  have hput : ∀ j : Nat, (rd_T44 (put ds a1 a2) (j : Int)) = if (j : Int) = a1 then { rd_T44 ds (j : Int) with f5 := a2 } else rd_T44 ds (j : Int) := by
    intro j
    split
    · next e => rw [e, rd_put_self ds a1 a2 d1 d2]
    · next e => exact rd_put_other ds a1 a2 j d1 (by omega) e
  have hf0 : (rd_T44 (put ds a1 a2) (k : Int)).f0 = (rd_T44 ds (k : Int)).f0 := by rw [hput]; split <;> rfl
  rw [hf0]
  have hb5 : 0 ≤ (rd_T44 (put ds a1 a2) (k : Int)).f5 ∧ (rd_T44 (put ds a1 a2) (k : Int)).f5 ≤ 2 := by
    rw [hput]
    split
    · exact ⟨h0, h2⟩
    · exact ⟨hFk.1, hFk.2.1⟩
  refine ⟨hb5.1, hb5.2, ?_⟩
  generalize hino : (rd_T44 ds (k : Int)).f0 = ino at hFk ⊢
  by_cases c : ino = (rd_T44 ds a1).f0
  · rcases (by omega : a2 = 0 ∨ a2 = 1 ∨ a2 = 2) with e | e | e
    · have m : ∀ l : Int, l ≠ 0 → holdersOf (put ds a1 a2) ino l ≤ holdersOf ds ino l := by
        intro l hl0
        refine holders_mono hl fun j hj ht => ?_
        rw [hput] at ht
        split at ht
        · rw [tells_iff] at ht
          exact absurd (ht.2.2.symm.trans e) hl0
        · exact ht
      have m1 := m 1 (by decide)
      have m2 := m 2 (by decide)
      have f3 := hFk.2.2
      omega
    · have z : holdersOf (put ds a1 a2) ino 2 = 0 := by
        refine holders_zero fun j hj => ?_
        rw [put_length] at hj
        rw [hput]
        split
        · next e2 => simp [tells, e]
        · next e2 =>
          cases ht : tells ino 2 (rd_T44 ds (j : Int))
          · rfl
          · rw [tells_iff] at ht
            have := (free_of hb j hj e2 ht.1 (ht.2.1.trans c)).2 e
            exact absurd ht.2.2 this
      omega
    · have z : holdersOf (put ds a1 a2) ino 1 = 0 := by
        refine holders_zero fun j hj => ?_
        rw [put_length] at hj
        rw [hput]
        split
        · next e2 => simp [tells, e]
        · next e2 =>
          cases ht : tells ino 1 (rd_T44 ds (j : Int))
          · rfl
          · rw [tells_iff] at ht
            have := (free_of hb j hj e2 ht.1 (ht.2.1.trans c)).1 e
            rw [ht.2.2] at this
            exact absurd this (by decide)
      have o : holdersOf (put ds a1 a2) ino 2 ≤ 1 := by
        rw [holders_range, put_length]
        have := count_le_one (fun (j : Nat) => tells ino 2 (rd_T44 (put ds a1 a2) (j : Int))) a1.toNat ds.length (fun j hj ht => by
          have ht : tells ino 2 (rd_T44 (put ds a1 a2) (j : Int)) = true := ht
          rw [hput] at ht
          split at ht
          · next e2 => omega
          · next e2 =>
            rw [tells_iff] at ht
            have := (free_of hb j hj e2 ht.1 (ht.2.1.trans c)).1 e
            rw [ht.2.2] at this
            exact absurd this (by decide))
        refine Nat.le_trans this ?_
        split <;> decide
      exact ⟨o, fun _ => z⟩
  · have s : ∀ l : Int, holdersOf (put ds a1 a2) ino l = holdersOf ds ino l := by
      intro l
      refine holders_same hl fun j hj => ?_
      rw [hput]
      split
      · next e =>
        have hne : ¬ (rd_T44 ds (j : Int)).f0 = ino := by rw [e]; exact fun h => c h.symm
        simp [tells, hne]
      · rfl
    rw [s, s]
    exact hFk.2.2
end Go.Proofs.Ytbfjakhloabhmaa.P
