/- Plain laws of layer 10's references, over tables that are right: Open, Dup, Close, Set; no program in sight. -/
import Derived.Test.YtkecfdljodiifaaQc
import Derived.Test.YtkecfdljodiifaaQbr
import Derived.Test.YtkecfdljodiifaaPref10Open
import Derived.Test.YtkecfdljodiifaaPref10Dup
import Derived.Test.YtkecfdljodiifaaPref10Close
import Derived.Test.YtkecfdljodiifaaPref10Set
namespace Go.Proofs.Ytkecfdljodiifaa.P
open Go.RowKit Go.Proofs.YtkecfdljodiifaaW.PrintWords Go.Proofs.YtkecfdljodiifaaW.PrintLast Go.Proofs.YtkecfdljodiifaaW.PrintMore

theorem Rt.copied {ds : List S38} {fs : List (List Int)} (R : Rt ds fs) : Ev (fun k => flagstoneref10_copied.f k (ds.map conv) fs) (ds.map conv, fs) :=
  copied_ev _ _ (by rw [List.length_map]; exact R.hd') R.hf' R.rows
theorem set_conv (ds : List S38) (i : Nat) (x : S38) (y : S54) (h : conv x = y) : (ds.map conv).set i y = (ds.set i x).map conv := by rw [List.map_set, h]

theorem openref_ev {ds : List S38} {fs : List (List Int)} (R : Rt ds fs) (p a0 a1 : Int) (a2 a3 : Bool) (a4 a5 : Int) : Ev (fun k => flagstoneref10_Open.f k (ds.map conv) fs p a0 a1 a2 a3 a4 a5)
    ((openR ds fs p ⟨a0, a1, a2, a3, a4, a5⟩).1.map conv, (openR ds fs p ⟨a0, a1, a2, a3, a4, a5⟩).2.1, (openR ds fs p ⟨a0, a1, a2, a3, a4, a5⟩).2.2.1, (openR ds fs p ⟨a0, a1, a2, a3, a4, a5⟩).2.2.2) := by
  refine Ev.congr (fun k => by rw [flagstoneref10_Open.f]) ?_
  by_cases c1 : p < 0
  · have e : openR ds fs p ⟨a0, a1, a2, a3, a4, a5⟩ = (ds, fs, 0, 1) := if_pos (.inl c1)
    rw [e]
    exact Ev.pos c1 (Ev.step (fun k => by rw [flagstoneref10_Open.j0]) (Ev.pos rfl (Ev.now _)))
  · refine Ev.neg c1 ?_
    by_cases c2 : p ≥ (fs.length : Int)
    · have e : openR ds fs p ⟨a0, a1, a2, a3, a4, a5⟩ = (ds, fs, 0, 1) := if_pos (.inr c2)
      rw [e, decide_eq_true c2]
      exact Ev.step (fun k => by rw [flagstoneref10_Open.j0]) (Ev.pos rfl (Ev.now _))
    · rw [decide_eq_false c2]
      obtain ⟨p, rfl⟩ : ∃ k : Nat, p = (k : Int) := ⟨p.toNat, by omega⟩
      have hp : p < fs.length := by omega
      have h8 := (R.row p hp).1
      refine Ev.step (fun k => by rw [flagstoneref10_Open.j0]) (Ev.neg (by decide) (Ev.bind (first_ev R p hp) ?_))
      have hi := firstI_lt _ 8 h8
      by_cases c3 : firstI (rd_L1 fs (p : Int)) < 0
      · have e : openR ds fs (p : Int) ⟨a0, a1, a2, a3, a4, a5⟩ = (ds, fs, 0, 13) := by rw [openR, if_neg (by omega), if_pos c3]
        rw [e]
        exact Ev.pos c3 (Ev.now _)
      · have e : openR ds fs (p : Int) ⟨a0, a1, a2, a3, a4, a5⟩ = (placed ds (placeOf ds) ⟨a0, a1, a2, a3, 1, a5⟩, fs.set p ((rd_L1 fs (p : Int)).set (firstI (rd_L1 fs (p : Int))).toNat (placeOf ds : Int)), firstI (rd_L1 fs (p : Int)), 0) := by rw [openR, if_neg (by omega), if_neg c3]; rfl
        rw [e]
        refine Ev.neg c3 (Ev.bind R.copied ?_)
        have hlen : (ds.map conv).length = ds.length := List.length_map _
        have hd := R.hd
        have key : ∀ d j : Nat, j ≤ placeOf ds → placeOf ds - j = d → Ev (fun k => flagstoneref10_Open.l0 k (p : Int) (firstI (rd_L1 fs (p : Int))) (j : Int) a0 a1 a2 a3 1 a5 (ds.map conv) fs)
            ((placed ds (placeOf ds) ⟨a0, a1, a2, a3, 1, a5⟩).map conv, fs.set p ((rd_L1 fs (p : Int)).set (firstI (rd_L1 fs (p : Int))).toNat (placeOf ds : Int)), firstI (rd_L1 fs (p : Int)), 0) := by
          intro d
          induction d with
          | zero =>
            intro j hj hd
            obtain rfl : j = placeOf ds := by omega
            refine Ev.step (fun k => by rw [flagstoneref10_Open.l0]) ?_
            rcases place_cases ds with ⟨g1, g2⟩ | ⟨g1, g2, g3⟩
            · refine Ev.neg (by rw [hlen]; omega) (Ev.pos (by rw [hlen]; omega) (Ev.pos (by rw [hlen]; exact R.hdi) (Ev.bind (Ev.now _) ?_)))
              refine Ev.pos (by omega) (Ev.pos (by rw [List.length_append, hlen]; simp; omega) (Ev.pos (by omega) (Ev.pos (by omega) (Ev.pos (by omega) (Ev.pos (by omega) ?_)))))
              have e1 : ((ds.map conv) ++ [(⟨a0, a1, a2, a3, 1, a5⟩ : S54)]).set ((placeOf ds : Nat) : Int).toNat (⟨a0, a1, a2, a3, 1, a5⟩ : S54) = (placed ds (placeOf ds) ⟨a0, a1, a2, a3, 1, a5⟩).map conv := by
                have e2 : placed ds (placeOf ds) ⟨a0, a1, a2, a3, 1, a5⟩ = ds ++ [⟨a0, a1, a2, a3, 1, a5⟩] := if_neg (by omega)
                rw [e2, Int.toNat_natCast, g1, ← hlen]
                simp [conv]
              rw [e1]
              exact Ev.now _
            · refine Ev.pos (by rw [hlen]; omega) (Ev.pos (by omega) (Ev.neg ?_ (Ev.neg (by rw [hlen]; omega) ?_)))
              · rw [rd_conv]
                show ¬ (rd_T38 ds (placeOf ds : Int)).f4 > 0
                omega
              · refine Ev.pos (by omega) (Ev.pos (by omega) (Ev.pos (by omega) (Ev.pos (by omega) ?_)))
                have e1 : (ds.map conv).set ((placeOf ds : Nat) : Int).toNat (⟨a0, a1, a2, a3, 1, a5⟩ : S54) = (placed ds (placeOf ds) ⟨a0, a1, a2, a3, 1, a5⟩).map conv := by
                  have e2 : placed ds (placeOf ds) ⟨a0, a1, a2, a3, 1, a5⟩ = ds.set (placeOf ds) ⟨a0, a1, a2, a3, 1, a5⟩ := if_pos g1
                  rw [e2, Int.toNat_natCast]
                  exact set_conv ds _ _ _ rfl
                rw [e1]
                exact Ev.now _
          | succ d ih =>
            intro j hj hd
            have hjl : j < ds.length := by rcases place_cases ds with ⟨g1, g2⟩ | ⟨g1, g2, g3⟩ <;> omega
            have hj4 : (rd_T38 ds (j : Int)).f4 ≠ 0 := by
              rcases place_cases ds with ⟨g1, g2⟩ | ⟨g1, g2, g3⟩
              · exact g2 j hjl
              · exact g3 j (by omega)
            have hj5 := (R.desc j hjl).1
            refine Ev.step (fun k => by rw [flagstoneref10_Open.l0]) ?_
            refine Ev.pos (by rw [hlen]; omega) (Ev.pos (by omega) (Ev.pos ?_ ?_))
            · rw [rd_conv]
              show (rd_T38 ds (j : Int)).f4 > 0
              omega
            · rw [wrap_small (by omega) (by omega)]
              exact ih (j + 1) (by omega) (by omega)
        exact key _ 0 (by omega) rfl

theorem dupref_ev {ds : List S38} {fs : List (List Int)} (R : Rt ds fs) (p d : Int) : Ev (fun k => flagstoneref10_Dup.f k (ds.map conv) fs p d)
    ((dupR ds fs p d).1.map conv, (dupR ds fs p d).2.1, (dupR ds fs p d).2.2.1, (dupR ds fs p d).2.2.2) := by
  refine Ev.congr (fun k => by rw [flagstoneref10_Dup.f, getref_eq R]) ?_
  by_cases c1 : getI fs p d = -1
  · have e : dupR ds fs p d = (ds, fs, 0, 12) := if_pos c1
    rw [e, c1, getT_none]
    exact Ev.bind (Ev.now _) (Ev.neg (by decide) (Ev.now _))
  · obtain ⟨h1, h2, h3, h4, _⟩ := getI_some c1
    have hI := R.getI p d
    rw [getT_some ds c1]
    refine Ev.bind (Ev.now _) (Ev.pos rfl ?_)
    obtain ⟨p, rfl⟩ : ∃ k : Nat, p = (k : Int) := ⟨p.toNat, by omega⟩
    have h8 := (R.row p (by omega)).1
    have hi := firstI_lt _ 8 h8
    refine Ev.bind (first_ev R p (by omega)) ?_
    by_cases c2 : firstI (rd_L1 fs (p : Int)) < 0
    · have e : dupR ds fs (p : Int) d = (ds, fs, 0, 13) := by rw [dupR, if_neg c1, if_pos c2]
      rw [e]
      exact Ev.pos c2 (Ev.now _)
    · refine Ev.neg c2 (Ev.bind R.copied ?_)
      have e : dupR ds fs (p : Int) d = (ds.set (getI fs (p : Int) d).toNat { rd_T38 ds (getI fs (p : Int) d) with f4 := wrap64 ((rd_T38 ds (getI fs (p : Int) d)).f4 + 1) }, fs.set p ((rd_L1 fs (p : Int)).set (firstI (rd_L1 fs (p : Int))).toNat (getI fs (p : Int) d)), firstI (rd_L1 fs (p : Int)), 0) := by rw [dupR, if_neg c1, if_neg c2]; rfl
      rw [e]
      refine Ev.pos (by show 0 ≤ getI fs (p : Int) d; omega) (Ev.pos (by rw [List.length_map]; exact hI.2) (Ev.pos (by omega) (Ev.pos (by omega) (Ev.pos (by omega) (Ev.pos (by show firstI (rd_L1 fs (p : Int)) < ((rd_L1 fs (p : Int)).length : Int); omega) ?_)))))
      rw [rd_conv]
      dsimp only
      rw [← set_conv ds _ { rd_T38 ds (getI fs (p : Int) d) with f4 := wrap64 ((rd_T38 ds (getI fs (p : Int) d)).f4 + 1) } _ rfl]
      exact Ev.now _

theorem closeref_ev {ds : List S38} {fs : List (List Int)} (R : Rt ds fs) (p d : Int) : Ev (fun k => flagstoneref10_Close.f k (ds.map conv) fs p d)
    ((closeR ds fs p d).1.map conv, (closeR ds fs p d).2) := by
  refine Ev.congr (fun k => by rw [flagstoneref10_Close.f, getref_eq R]) ?_
  by_cases c1 : getI fs p d = -1
  · have e : closeR ds fs p d = (ds, fs, 0, 0, false, false, 0, 0, 12) := if_pos c1
    rw [e, c1, getT_none]
    exact Ev.bind (Ev.now _) (Ev.neg (by decide) (Ev.now _))
  · obtain ⟨h1, h2, h3, h4, _⟩ := getI_some c1
    have hI := R.getI p d
    have e : closeR ds fs p d = (ds.set (getI fs p d).toNat (left38 (rd_T38 ds (getI fs p d))), fs.set p.toNat ((rd_L1 fs p).set d.toNat (-1)), (rd_T38 ds (getI fs p d)).f0, (rd_T38 ds (getI fs p d)).f1, (rd_T38 ds (getI fs p d)).f2, (rd_T38 ds (getI fs p d)).f3, wrap64 ((rd_T38 ds (getI fs p d)).f4 - 1), (rd_T38 ds (getI fs p d)).f5, 0) := if_neg c1
    rw [e, getT_some ds c1]
    refine Ev.bind (Ev.now _) (Ev.pos rfl (Ev.bind R.copied ?_))
    refine Ev.pos h1 (Ev.pos h2 (Ev.pos h3 (Ev.pos h4 (Ev.bind (Ev.now _) ?_))))
    refine Ev.pos (by show 0 ≤ getI fs p d; omega) (Ev.pos (by rw [List.length_map]; exact hI.2) (Ev.bind (Ev.now _) ?_))
    dsimp only
    by_cases c2 : wrap64 ((rd_T38 ds (getI fs p d)).f4 - 1) = 0
    · refine Ev.pos c2 ?_
      rw [List.set_set, set_conv ds _ (left38 (rd_T38 ds (getI fs p d))) _ (by rw [left38, if_pos c2]; rfl)]
      exact Ev.now _
    · refine Ev.neg c2 ?_
      rw [set_conv ds _ (left38 (rd_T38 ds (getI fs p d))) _ (by rw [left38, if_neg c2]; rfl)]
      exact Ev.now _

theorem setref_ev {ds : List S38} {fs : List (List Int)} (R : Rt ds fs) (i a0 a1 : Int) (a2 a3 : Bool) (a4 a5 : Int) : Ev (fun k => flagstoneref10_Set.f k (ds.map conv) fs i a0 a1 a2 a3 a4 a5)
    ((setR ds fs i ⟨a0, a1, a2, a3, a4, a5⟩).1.map conv, (setR ds fs i ⟨a0, a1, a2, a3, a4, a5⟩).2) := by
  refine Ev.congr (fun k => by rw [flagstoneref10_Set.f]) ?_
  have hlen : (ds.map conv).length = ds.length := List.length_map _
  by_cases c1 : i < 0
  · have e : setR ds fs i ⟨a0, a1, a2, a3, a4, a5⟩ = (ds, fs) := if_pos (.inl c1)
    rw [e]
    exact Ev.pos c1 (Ev.now _)
  · refine Ev.neg c1 ?_
    by_cases c2 : i ≥ (ds.length : Int)
    · have e : setR ds fs i ⟨a0, a1, a2, a3, a4, a5⟩ = (ds, fs) := if_pos (.inr (.inl c2))
      rw [e]
      exact Ev.pos (by rw [hlen]; exact c2) (Ev.now _)
    · refine Ev.neg (by rw [hlen]; exact c2) (Ev.pos (by omega) (Ev.pos (by rw [hlen]; omega) ?_))
      obtain ⟨i, rfl⟩ : ∃ k : Nat, i = (k : Int) := ⟨i.toNat, by omega⟩
      have h4 := (R.desc i (by omega)).1
      rw [rd_conv]
      by_cases c3 : (rd_T38 ds (i : Int)).f4 = 0
      · have e : setR ds fs (i : Int) ⟨a0, a1, a2, a3, a4, a5⟩ = (ds, fs) := if_pos (.inr (.inr c3))
        rw [e]
        refine Ev.pos ?_ (Ev.now _)
        show (rd_T38 ds (i : Int)).f4 < 1
        omega
      · have e : setR ds fs (i : Int) ⟨a0, a1, a2, a3, a4, a5⟩ = (ds.set i ⟨a0, a1, a2, a3, (rd_T38 ds (i : Int)).f4, a5⟩, fs) := by rw [setR, if_neg (by omega)]; rfl
        rw [e]
        refine Ev.neg ?_ (Ev.bind R.copied (Ev.pos (by rw [hlen]; omega) ?_))
        · show ¬ (rd_T38 ds (i : Int)).f4 < 1
          omega
        · dsimp only
          rw [← set_conv ds _ ⟨a0, a1, a2, a3, (rd_T38 ds (i : Int)).f4, a5⟩ _ rfl]
          exact Ev.now _
end Go.Proofs.Ytkecfdljodiifaa.P
