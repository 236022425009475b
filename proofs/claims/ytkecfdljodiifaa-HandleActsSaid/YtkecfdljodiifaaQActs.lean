/- HandleActs answers true: the walk (Tw) with what the plain laws say. -/
import Derived.Test.YtkecfdljodiifaaTw
import Derived.Test.YtkecfdljodiifaaQd
import Derived.Test.YtkecfdljodiifaaQcr
namespace Go.Proofs.Ytkecfdljodiifaa.P
open Go.RowKit Go.Proofs.YtkecfdljodiifaaW.PrintWords Go.Proofs.YtkecfdljodiifaaW.PrintLast Go.Proofs.YtkecfdljodiifaaW.PrintMore

theorem Rt.same {ds : List S38} {fs : List (List Int)} (R : Rt ds fs) : Ev (fun k => flagstoneref10_Same.f k (ds.map conv) fs (ds.map conv) fs) true :=
  same_ev (ds.map conv) fs (by rw [List.length_map]; exact R.hd') R.hf' R.rows
theorem Rt.its {ds : List S38} {fs : List (List Int)} (R : Rt ds fs) : Ev (fun k => flagstonelaw10_its.f k ds fs) (ds.map conv, fs) := its_ev ds fs R.hdi
theorem acts_calls (A0 : Option Addr) (c0 : Nat) (ds : List S38) (A1 : Option Addr) (c1 : Nat) (fs : List (List Int)) (p d x0 x1 : Int) (x2 x3 : Bool) (x4 x5 : Int) (w : World)
    (hr0 : Kd.C k38 w A0 ds.length ds) (hc0 : ds.length ≤ c0) (hr1 : Kd.C (Kd.slice 3 (Kd.int .i64)) w A1 fs.length fs) (hc1 : fs.length ≤ c1) :
    Calls Try.prog 7 #[.agg #[.slice A0 ds.length c0, .slice A1 fs.length c1], .int .i64 p, .int .i64 d, .agg #[.int .i64 x0, .int .i64 x1, .bool x2, .bool x3, .int .i64 x4, .int .i64 x5]] w fun e w' => e = .returned (.bool true) ∧ Below w.heap.size w w' := by
  have hT : T38 A0 c0 ds A1 c1 fs w := ⟨⟨hc0, hr0⟩, hc1, hr1⟩
  obtain ⟨K1, h1⟩ := fine_ev ds fs
  cases hF : fineB ds fs
  · rw [hF] at h1
    exact acts_out hT (h1 K1 (Nat.le_refl _))
  · rw [hF] at h1
    obtain ⟨R, b1, _⟩ := fine_rt hF
    have RO := R.opened (by omega) p ⟨x0, x1, x2, x3, x4, x5⟩
    have RD := R.doubled p d
    have RC := R.closed p d
    have RS := R.sets d ⟨x0, x1, x2, x3, x4, x5⟩
    obtain ⟨K3, h3⟩ := R.its
    obtain ⟨K4, h4⟩ := openref_ev R p x0 x1 x2 x3 x4 x5
    obtain ⟨K5, h5⟩ := dupref_ev R p d
    obtain ⟨K6, h6⟩ := closeref_ev R p d
    obtain ⟨K7, h7⟩ := RO.its
    obtain ⟨K8, h8⟩ := RD.its
    obtain ⟨K9, h9⟩ := RC.its
    obtain ⟨K10, h10⟩ := RO.same
    obtain ⟨K11, h11⟩ := RD.same
    obtain ⟨K12, h12⟩ := RC.same
    obtain ⟨K13, h13⟩ := count_ev R p
    obtain ⟨K14, h14⟩ := countref_ev R p
    obtain ⟨K15, h15⟩ := setref_ev R d x0 x1 x2 x3 x4 x5
    obtain ⟨K16, h16⟩ := RS.its
    obtain ⟨K17, h17⟩ := RS.same
    obtain ⟨K18, h18⟩ := R.same
    have hk : ∃ k, K1 ≤ k ∧ K3 ≤ k ∧ K4 ≤ k ∧ K5 ≤ k ∧ K6 ≤ k ∧ K7 ≤ k ∧ K8 ≤ k ∧ K9 ≤ k ∧ K10 ≤ k ∧ K11 ≤ k ∧ K12 ≤ k ∧ K13 ≤ k ∧ K14 ≤ k ∧ K15 ≤ k ∧ K16 ≤ k ∧ K17 ≤ k ∧ K18 ≤ k :=
      ⟨K1 + K3 + K4 + K5 + K6 + K7 + K8 + K9 + K10 + K11 + K12 + K13 + K14 + K15 + K16 + K17 + K18, by omega⟩
    obtain ⟨k, g1, g3, g4, g5, g6, g7, g8, g9, g10, g11, g12, g13, g14, g15, g16, g17, g18⟩ := hk
    exact acts_in hT (h1 k g1) (h3 k g3) (open_eq R p x0 x1 x2 x3 x4 x5) (h4 k g4) (dup_eq R p d) (h5 k g5) (close_eq R p d) (h6 k g6) (h7 k g7) (h8 k g8) (h9 k g9) (h10 k g10) (h11 k g11) (h12 k g12)
      (get_eq R p d) (getref_eq R p d) (h13 k g13) (h14 k g14) (set_eq R d x0 x1 x2 x3 x4 x5) (h15 k g15) (h16 k g16) (h17 k g17) (h18 k g18)
end Go.Proofs.Ytkecfdljodiifaa.P
