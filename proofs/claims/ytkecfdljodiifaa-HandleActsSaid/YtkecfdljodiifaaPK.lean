-- Printed by a program of this session (inject.py) over the kit's print, with functions that were proved by hand in their places.
import Derived.Test.YtkecfdljodiifaaProg
import Derived.Below
import Derived.Deep.Draws
import Derived.Deep.AppendLies
import Derived.Maps.AppendAt
import Derived.OwnWalk
import Derived.Laws.BytesArg
import Derived.Laws.MakeOwn
import Derived.Laws.OwnMore
import Derived.Deep.OwnRows
import Derived.Tactics
import Derived.Lib.ConvBytes
import Derived.Laws.Slices
import Derived.WalkKit
import Derived.KernelRfl
import Derived.RowKit3
import Derived.Deep.LoopGhost
import Derived.Deep.QuietTactic
import Derived.BigQuiet
import Derived.WideLaws
import Derived.Deep.DeepCutAuto
import Derived.Deep.CutBlock
import Derived.Deep.RegionHeld3
import Derived.Laws.Rows
import Derived.Lib.AppendStr
import Derived.ArgAppend
import Derived.Laws.IdiomCopy
import Derived.OrdersHeld
import Derived.Laws.BitsLemmas
import Derived.RowKit
import Derived.Test.YtkecfdljodiifaaV
namespace Go.Proofs.Ytkecfdljodiifaa.P
open Go.RowKit Go.Proofs.YtkecfdljodiifaaW.PrintWords Go.Proofs.YtkecfdljodiifaaW.PrintLast Go.Proofs.YtkecfdljodiifaaW.PrintMore
attribute [local go_sem] max2_int min2_int max_two min_two max_three min_three max_four min_four   -- for this text's walks alone
set_option linter.unusedVariables false
set_option linter.unusedSimpArgs false



def errW : Option Int → Value
  | none => .nilIface
  | some c => .iface 0 (.int .i64 c)
theorem errW_none : errW none = .nilIface := rfl
theorem errW_some (c : Int) : errW (some c) = .iface 0 (.int .i64 c) := rfl

theorem drawn_set (W : World) (n : Nat) (p : Addr) (v : Value) : (W.drewN n).setCell p v = (W.setCell p v).drewN n := rfl
theorem drawn_chain {W W2 : World} {p : Addr} {v : Value} (n : Nat) (e : W2 = W.drewN n) (h : W.cell? p = some v) : W2.cell? p = some v := by subst e; exact h
theorem info3 : (Try.prog.info? 3).map (fun i => (i.zero, i.size, i.bytes)) = some (some (.int .i64 0), 1, 8) := by kernel_rfl
theorem info54 : (Try.prog.info? 54).map (fun i => (i.zero, i.size, i.bytes)) = some (some (.agg #[(.int .i64 0), (.int .i64 0), (.bool false), (.bool false), (.int .i64 0), (.int .i64 0)]), 6, 40) := by kernel_rfl
theorem info64 : (Try.prog.info? 64).map (fun i => (i.zero, i.size, i.bytes)) = some (some (.slice none 0 0), 1, 24) := by kernel_rfl
-- the values' own types
def rd_L1 (xs : List (List Int)) (i : Int) : (List Int) := xs.getD i.toNat ([] : List Int)
theorem at_L1 {w : World} {A : Option Addr} {n : Nat} {xs : List (List Int)} (h : Kd.C (Kd.slice 3 (Kd.int .i64)) w A n xs) (i : Int) (h0 : 0 ≤ i) (h1 : i < n) : ∃ ad A0 c0, A = some ad ∧ w.cell? (ad.add i.toNat) = some (.slice A0 (rd_L1 xs i).length c0) ∧ (rd_L1 xs i).length ≤ c0 ∧ (Kd.int .i64).C w A0 (rd_L1 xs i).length (rd_L1 xs i) := by
  obtain ⟨ad, c, e, _, hK, hc0⟩ := Kd.C_get h ([] : List Int) i h0 h1
  have hc : ∀ j u, c[j]? = some u → w.cell? (ad.add (i.toNat * 1 + j)) = some u := hc0
  obtain ⟨A0, c0, rfl, l0, g0⟩ := hK
  exact ⟨ad, A0, c0, e, by have hq := hc 0 _ rfl; rwa [Nat.mul_one, Nat.add_zero] at hq, l0, g0⟩

/-! #### struct type 38 -/
structure S38 where
  f0 : Int
  f1 : Int
  f2 : Bool
  f3 : Bool
  f4 : Int
  f5 : Int
def z38 : S38 := ⟨(0 : Int), (0 : Int), false, false, (0 : Int), (0 : Int)⟩
def k38 : Kd S38 := Kd.iso (Kd.pair (Kd.int .i64) (Kd.pair (Kd.int .i64) (Kd.pair Kd.bool (Kd.pair Kd.bool (Kd.pair (Kd.int .i64) (Kd.int .i64)))))) (fun x : S38 => (x.f0, x.f1, x.f2, x.f3, x.f4, x.f5))
theorem k38_heap : Kd.Heap k38 := Kd.heap_iso _ (Kd.heap_pair (Kd.heap_int .i64) (Kd.heap_pair (Kd.heap_int .i64) (Kd.heap_pair Kd.heap_bool (Kd.heap_pair Kd.heap_bool (Kd.heap_pair (Kd.heap_int .i64) (Kd.heap_int .i64))))))
theorem k38_open {w : World} {x : S38} {cs : List Value} (h : k38.K w x cs) : cs = [.int .i64 x.f0, .int .i64 x.f1, .bool x.f2, .bool x.f3, .int .i64 x.f4, .int .i64 x.f5] := by
  obtain ⟨_, _, rfl, rfl, ⟨_, _, rfl, rfl, ⟨_, _, rfl, rfl, ⟨_, _, rfl, rfl, ⟨_, _, rfl, rfl, rfl⟩⟩⟩⟩⟩ := h
  exact rfl
theorem k38_mk (w : World) (x : S38)  : k38.K w x [.int .i64 x.f0, .int .i64 x.f1, .bool x.f2, .bool x.f3, .int .i64 x.f4, .int .i64 x.f5] := ⟨[.int .i64 x.f0], [.int .i64 x.f1, .bool x.f2, .bool x.f3, .int .i64 x.f4, .int .i64 x.f5], rfl, rfl, ⟨[.int .i64 x.f1], [.bool x.f2, .bool x.f3, .int .i64 x.f4, .int .i64 x.f5], rfl, rfl, ⟨[.bool x.f2], [.bool x.f3, .int .i64 x.f4, .int .i64 x.f5], rfl, rfl, ⟨[.bool x.f3], [.int .i64 x.f4, .int .i64 x.f5], rfl, rfl, ⟨[.int .i64 x.f4], [.int .i64 x.f5], rfl, rfl, rfl⟩⟩⟩⟩⟩
def rd_T38 (xs : List S38) (i : Int) : S38 := xs.getD i.toNat z38
theorem at_T38 {w : World} {A : Option Addr} {n : Nat} {xs : List S38} (h : Kd.C k38 w A n xs) (i : Int) (h0 : 0 ≤ i) (h1 : i < n) : ∃ ad , A = some ad ∧ w.cell? (ad.add (i.toNat * 6)) = some (.int .i64 (rd_T38 xs i).f0) ∧ w.cell? ⟨(ad.add (i.toNat * 6)).block, (ad.add (i.toNat * 6)).off + 1, none⟩ = some (.int .i64 (rd_T38 xs i).f1) ∧ w.cell? ⟨(ad.add (i.toNat * 6)).block, (ad.add (i.toNat * 6)).off + 2, none⟩ = some (.bool (rd_T38 xs i).f2) ∧ w.cell? ⟨(ad.add (i.toNat * 6)).block, (ad.add (i.toNat * 6)).off + 3, none⟩ = some (.bool (rd_T38 xs i).f3) ∧ w.cell? ⟨(ad.add (i.toNat * 6)).block, (ad.add (i.toNat * 6)).off + 4, none⟩ = some (.int .i64 (rd_T38 xs i).f4) ∧ w.cell? ⟨(ad.add (i.toNat * 6)).block, (ad.add (i.toNat * 6)).off + 5, none⟩ = some (.int .i64 (rd_T38 xs i).f5) := by
  obtain ⟨ad, c, e, _, hK, hc0⟩ := Kd.C_get h z38 i h0 h1
  have hc : ∀ j u, c[j]? = some u → w.cell? (ad.add (i.toNat * 6 + j)) = some u := hc0
  obtain rfl := k38_open hK
  exact ⟨ad, e, hc 0 _ rfl, by rw [← add_field _ _ 1 (by omega)]; exact hc 1 _ rfl, by rw [← add_field _ _ 2 (by omega)]; exact hc 2 _ rfl, by rw [← add_field _ _ 3 (by omega)]; exact hc 3 _ rfl, by rw [← add_field _ _ 4 (by omega)]; exact hc 4 _ rfl, by rw [← add_field _ _ 5 (by omega)]; exact hc 5 _ rfl⟩

def rd_L4 (xs : List (List S38)) (i : Int) : (List S38) := xs.getD i.toNat ([] : List S38)
def rd_L5 (xs : List (List (List Int))) (i : Int) : (List (List Int)) := xs.getD i.toNat ([] : List (List Int))
/-! #### struct type 25 -/
structure S25 where
  f0 : (List S38)
  f1 : (List (List Int))
def z25 : S25 := ⟨([] : List S38), ([] : List (List Int))⟩
def k25 : Kd S25 := Kd.iso (Kd.pair (Kd.slice 38 k38) (Kd.slice 64 (Kd.slice 3 (Kd.int .i64)))) (fun x : S25 => (x.f0, x.f1))
def rd_T25 (xs : List S25) (i : Int) : S25 := xs.getD i.toNat z25
/-! #### struct type 54 -/
structure S54 where
  f0 : Int
  f1 : Int
  f2 : Bool
  f3 : Bool
  f4 : Int
  f5 : Int
def z54 : S54 := ⟨(0 : Int), (0 : Int), false, false, (0 : Int), (0 : Int)⟩
def k54 : Kd S54 := Kd.iso (Kd.pair (Kd.int .i64) (Kd.pair (Kd.int .i64) (Kd.pair Kd.bool (Kd.pair Kd.bool (Kd.pair (Kd.int .i64) (Kd.int .i64)))))) (fun x : S54 => (x.f0, x.f1, x.f2, x.f3, x.f4, x.f5))
theorem k54_heap : Kd.Heap k54 := Kd.heap_iso _ (Kd.heap_pair (Kd.heap_int .i64) (Kd.heap_pair (Kd.heap_int .i64) (Kd.heap_pair Kd.heap_bool (Kd.heap_pair Kd.heap_bool (Kd.heap_pair (Kd.heap_int .i64) (Kd.heap_int .i64))))))
theorem k54_open {w : World} {x : S54} {cs : List Value} (h : k54.K w x cs) : cs = [.int .i64 x.f0, .int .i64 x.f1, .bool x.f2, .bool x.f3, .int .i64 x.f4, .int .i64 x.f5] := by
  obtain ⟨_, _, rfl, rfl, ⟨_, _, rfl, rfl, ⟨_, _, rfl, rfl, ⟨_, _, rfl, rfl, ⟨_, _, rfl, rfl, rfl⟩⟩⟩⟩⟩ := h
  exact rfl
theorem k54_openM {w : World} {base : Nat} {ok : Nat → Prop} {x : S54} {cs : List Value} (h : k54.M w base ok x cs) : cs = [.int .i64 x.f0, .int .i64 x.f1, .bool x.f2, .bool x.f3, .int .i64 x.f4, .int .i64 x.f5] := by
  obtain ⟨_, _, rfl, rfl, ⟨_, _, rfl, rfl, ⟨_, _, rfl, rfl, ⟨_, _, rfl, rfl, ⟨_, _, rfl, rfl, rfl⟩⟩⟩⟩⟩ := h
  exact rfl
theorem k54_mkM (w : World) (base : Nat) (ok : Nat → Prop) (x : S54)  : k54.M w base ok x [.int .i64 x.f0, .int .i64 x.f1, .bool x.f2, .bool x.f3, .int .i64 x.f4, .int .i64 x.f5] := ⟨[.int .i64 x.f0], [.int .i64 x.f1, .bool x.f2, .bool x.f3, .int .i64 x.f4, .int .i64 x.f5], rfl, rfl, ⟨[.int .i64 x.f1], [.bool x.f2, .bool x.f3, .int .i64 x.f4, .int .i64 x.f5], rfl, rfl, ⟨[.bool x.f2], [.bool x.f3, .int .i64 x.f4, .int .i64 x.f5], rfl, rfl, ⟨[.bool x.f3], [.int .i64 x.f4, .int .i64 x.f5], rfl, rfl, ⟨[.int .i64 x.f4], [.int .i64 x.f5], rfl, rfl, rfl⟩⟩⟩⟩⟩
def rd_T54 (xs : List S54) (i : Int) : S54 := xs.getD i.toNat z54
theorem at_T54 {w : World} {A : Option Addr} {n : Nat} {xs : List S54} (h : Kd.C k54 w A n xs) (i : Int) (h0 : 0 ≤ i) (h1 : i < n) : ∃ ad , A = some ad ∧ w.cell? (ad.add (i.toNat * 6)) = some (.int .i64 (rd_T54 xs i).f0) ∧ w.cell? ⟨(ad.add (i.toNat * 6)).block, (ad.add (i.toNat * 6)).off + 1, none⟩ = some (.int .i64 (rd_T54 xs i).f1) ∧ w.cell? ⟨(ad.add (i.toNat * 6)).block, (ad.add (i.toNat * 6)).off + 2, none⟩ = some (.bool (rd_T54 xs i).f2) ∧ w.cell? ⟨(ad.add (i.toNat * 6)).block, (ad.add (i.toNat * 6)).off + 3, none⟩ = some (.bool (rd_T54 xs i).f3) ∧ w.cell? ⟨(ad.add (i.toNat * 6)).block, (ad.add (i.toNat * 6)).off + 4, none⟩ = some (.int .i64 (rd_T54 xs i).f4) ∧ w.cell? ⟨(ad.add (i.toNat * 6)).block, (ad.add (i.toNat * 6)).off + 5, none⟩ = some (.int .i64 (rd_T54 xs i).f5) := by
  obtain ⟨ad, c, e, _, hK, hc0⟩ := Kd.C_get h z54 i h0 h1
  have hc : ∀ j u, c[j]? = some u → w.cell? (ad.add (i.toNat * 6 + j)) = some u := hc0
  obtain rfl := k54_open hK
  exact ⟨ad, e, hc 0 _ rfl, by rw [← add_field _ _ 1 (by omega)]; exact hc 1 _ rfl, by rw [← add_field _ _ 2 (by omega)]; exact hc 2 _ rfl, by rw [← add_field _ _ 3 (by omega)]; exact hc 3 _ rfl, by rw [← add_field _ _ 4 (by omega)]; exact hc 4 _ rfl, by rw [← add_field _ _ 5 (by omega)]; exact hc 5 _ rfl⟩

abbrev t_ := true
abbrev f_ := false
abbrev Vl_ := @Kd.V_lower
abbrev Ot_ := @of_decide_eq_true
abbrev Vr_ := @Kd.V_reads'
abbrev Vx_ := @Kd.V_slice
abbrev Vm_ := @Kd.V_mono
abbrev Bb_ := @blk_below
abbrev Cf_ := @cell_far
abbrev Be_ := @below_step
abbrev Bz_ := @below_size
abbrev Ke_ := @Kd.V_elderB
abbrev Bl_ := @World.block_lt_of_cell?
abbrev Am_ := @Aside0.mk
abbrev Bs_ := @below_set
abbrev Bn_ := @blk_drewN
abbrev Bd_ := @blk_drew
abbrev Ba_ := @blk_alloc
abbrev Pn_ := @pw_below_drewN
abbrev Pa_ := @below_alloc
abbrev Pd_ := @below_drew1
abbrev Vn_ := @Kd.V_drewN
abbrev Vd_ := @Kd.V_drew
abbrev Va_ := @Kd.V_alloc
abbrev Vb_ := @Kd.V_below
abbrev Rn_ := @Kd.R_drewN
abbrev Rd_ := @Kd.R_drew
abbrev Ra_ := @Kd.R_alloc
abbrev Rb_ := @Kd.R_below
abbrev La_ := @List.setIfInBounds_toArray
abbrev Lb_ := @List.set_cons_zero
abbrev Lc_ := @List.set_cons_succ
abbrev Bc_ := @blk_cell
abbrev Bf_ := @blk_frozen
abbrev Ab_ := @add_block
abbrev Vf_ := @Kd.V_far
abbrev Bp_ := @blk_put
abbrev Dt_ := @decide_eq_true
abbrev Df_ := @decide_eq_false
abbrev Bg_ := @blk_grown
theorem Pk_ {p q : Prop} (h : p) (t : p → q := by intro h_; (with_reducible repeat (first | refine Bn_ ?_ _ | refine Bd_ ?_ | refine Ba_ ?_ _)); exact h_) : q := t h
theorem Pv_ {p q : Prop} (h : p) (t : p → q := by intro h_; (with_reducible repeat (first | apply Va_ | apply Vn_ | apply Vd_)); exact h_) : q := t h
theorem Px_ {p q : Prop} (h : p) (t : p → q := by intro h_; (with_reducible repeat (first | apply Ra_ | apply Rn_ | apply Rd_)); exact h_) : q := t h
theorem Py_ {p q : Prop} (h : p) (t : p → q := by intro h_; (with_reducible repeat (first | apply Kd.S_alloc | apply Kd.S_drewN | apply Kd.S_drew)); exact h_) : q := t h
theorem Pz_ {p q : Prop} (h : p) (t : p → q := by intro h_; (with_reducible repeat (first | apply Kd.N_alloc | apply Kd.N_drewN | apply Kd.N_drew)); exact h_) : q := t h
theorem Pb0_ {p q : Prop} (h : p) (t : p → q := by intro h_; repeat (first | (with_reducible first | exact h_ | apply Pa_ | apply Pn_ | apply Pd_) | exact h_)) : q := t h
theorem Pb1_ {p q a0 : Prop} (h : p) (g0 : a0) (t : p → a0 → q := by intro h_ g0_; repeat (first | (with_reducible first | exact h_ | apply Pa_ | apply Pn_ | apply Pd_ | refine Bs_ ?_ g0_) | exact h_)) : q := t h g0
theorem Pb2_ {p q a0 a1 : Prop} (h : p) (g0 : a0) (g1 : a1) (t : p → a0 → a1 → q := by intro h_ g0_ g1_; repeat (first | (with_reducible first | exact h_ | apply Pa_ | apply Pn_ | apply Pd_ | refine Bs_ ?_ g0_ | refine Bs_ ?_ g1_) | exact h_)) : q := t h g0 g1
theorem Pb3_ {p q a0 a1 a2 : Prop} (h : p) (g0 : a0) (g1 : a1) (g2 : a2) (t : p → a0 → a1 → a2 → q := by intro h_ g0_ g1_ g2_; repeat (first | (with_reducible first | exact h_ | apply Pa_ | apply Pn_ | apply Pd_ | refine Bs_ ?_ g0_ | refine Bs_ ?_ g1_ | refine Bs_ ?_ g2_) | exact h_)) : q := t h g0 g1 g2
theorem Pb4_ {p q a0 a1 a2 a3 : Prop} (h : p) (g0 : a0) (g1 : a1) (g2 : a2) (g3 : a3) (t : p → a0 → a1 → a2 → a3 → q := by intro h_ g0_ g1_ g2_ g3_; repeat (first | (with_reducible first | exact h_ | apply Pa_ | apply Pn_ | apply Pd_ | refine Bs_ ?_ g0_ | refine Bs_ ?_ g1_ | refine Bs_ ?_ g2_ | refine Bs_ ?_ g3_) | exact h_)) : q := t h g0 g1 g2 g3
theorem Pb5_ {p q a0 a1 a2 a3 a4 : Prop} (h : p) (g0 : a0) (g1 : a1) (g2 : a2) (g3 : a3) (g4 : a4) (t : p → a0 → a1 → a2 → a3 → a4 → q := by intro h_ g0_ g1_ g2_ g3_ g4_; repeat (first | (with_reducible first | exact h_ | apply Pa_ | apply Pn_ | apply Pd_ | refine Bs_ ?_ g0_ | refine Bs_ ?_ g1_ | refine Bs_ ?_ g2_ | refine Bs_ ?_ g3_ | refine Bs_ ?_ g4_) | exact h_)) : q := t h g0 g1 g2 g3 g4
theorem Ce2_ {w : World} {g : Nat} {t : TypeId} {v0 v1 : Value} (h : w.heap[g]? = some (.cells #[v0, v1] t (0, 0))) : w.cell? ⟨g, 0, none⟩ = some v0 ∧ w.cell? ⟨g, 1, none⟩ = some v1 ∧ w.frozen? ⟨g, 0, none⟩ = false ∧ w.frozen? ⟨g, 1, none⟩ = false := ⟨(blk_cell h 0).trans rfl, (blk_cell h 1).trans rfl, blk_frozen h 0, blk_frozen h 1⟩
theorem Ce6_ {w : World} {g : Nat} {t : TypeId} {v0 v1 v2 v3 v4 v5 : Value} (h : w.heap[g]? = some (.cells #[v0, v1, v2, v3, v4, v5] t (0, 0))) : w.cell? ⟨g, 0, none⟩ = some v0 ∧ w.cell? ⟨g, 1, none⟩ = some v1 ∧ w.cell? ⟨g, 2, none⟩ = some v2 ∧ w.cell? ⟨g, 3, none⟩ = some v3 ∧ w.cell? ⟨g, 4, none⟩ = some v4 ∧ w.cell? ⟨g, 5, none⟩ = some v5 ∧ w.frozen? ⟨g, 0, none⟩ = false ∧ w.frozen? ⟨g, 1, none⟩ = false ∧ w.frozen? ⟨g, 2, none⟩ = false ∧ w.frozen? ⟨g, 3, none⟩ = false ∧ w.frozen? ⟨g, 4, none⟩ = false ∧ w.frozen? ⟨g, 5, none⟩ = false := ⟨(blk_cell h 0).trans rfl, (blk_cell h 1).trans rfl, (blk_cell h 2).trans rfl, (blk_cell h 3).trans rfl, (blk_cell h 4).trans rfl, (blk_cell h 5).trans rfl, blk_frozen h 0, blk_frozen h 1, blk_frozen h 2, blk_frozen h 3, blk_frozen h 4, blk_frozen h 5⟩
theorem Nx_ {p q : Prop} (h : p) (t : p → q := by intro h_; first | exact h_ | (rw [Ab_]; exact h_) | (show (Addr.add _ _).block ≠ _; rw [Ab_]; exact h_) | (dsimp only; exact h_)) : q := t h
theorem Cc2_ {w : World} {g j0 j1 : Nat} {v0 v1 : Value} {q : Addr} {u : Option Value} (n : q.block ≠ g) (h : w.cell? q = u) : ((w.setCell ⟨g, j0, none⟩ v0).setCell ⟨g, j1, none⟩ v1).cell? q = u := ((cell_far (p := ⟨g, j1, none⟩) n v1).trans ((cell_far (p := ⟨g, j0, none⟩) n v0).trans h))
theorem Cc6_ {w : World} {g j0 j1 j2 j3 j4 j5 : Nat} {v0 v1 v2 v3 v4 v5 : Value} {q : Addr} {u : Option Value} (n : q.block ≠ g) (h : w.cell? q = u) : ((((((w.setCell ⟨g, j0, none⟩ v0).setCell ⟨g, j1, none⟩ v1).setCell ⟨g, j2, none⟩ v2).setCell ⟨g, j3, none⟩ v3).setCell ⟨g, j4, none⟩ v4).setCell ⟨g, j5, none⟩ v5).cell? q = u := ((cell_far (p := ⟨g, j5, none⟩) n v5).trans ((cell_far (p := ⟨g, j4, none⟩) n v4).trans ((cell_far (p := ⟨g, j3, none⟩) n v3).trans ((cell_far (p := ⟨g, j2, none⟩) n v2).trans ((cell_far (p := ⟨g, j1, none⟩) n v1).trans ((cell_far (p := ⟨g, j0, none⟩) n v0).trans h))))))
end Go.Proofs.Ytkecfdljodiifaa.P
