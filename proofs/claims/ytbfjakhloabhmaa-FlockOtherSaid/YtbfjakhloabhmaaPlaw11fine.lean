-- Printed by a program of this session (inject.py) over the kit's print, with functions that were proved by hand in their places.
import Derived.Test.YtbfjakhloabhmaaPK
import Derived.Test.YtbfjakhloabhmaaPlaw11its
import Derived.Test.YtbfjakhloabhmaaPref10Right
namespace Go.Proofs.Ytbfjakhloabhmaa.P
open Go.RowKit Go.Proofs.YtbfjakhloabhmaaW.PrintWords Go.Proofs.YtbfjakhloabhmaaW.PrintLast Go.Proofs.YtbfjakhloabhmaaW.PrintMore
attribute [local go_sem] max2_int min2_int max_two min_two max_three min_three max_four min_four   -- for this text's walks alone
set_option linter.unusedVariables false
set_option linter.unusedSimpArgs false

/-! ### flagstonelaw11_fine: function 9 -/
mutual
def flagstonelaw11_fine.l0 : Nat → Int → List (S44) → List (List Int) → Option (Bool)
 | 0, _, _, _ => none
 | k + 1, x3, x127000, x127001 => if x3 < (x127001.length : Int) then (flagstonelaw11_fine.j1 k x3 (decide (x3 < 20)) x127000 x127001) else (flagstonelaw11_fine.j1 k x3 false x127000 x127001)
def flagstonelaw11_fine.j1 : Nat → Int → Bool → List (S44) → List (List Int) → Option (Bool)
 | 0, _, _, _, _ => none
 | k + 1, x3, x12, x127000, x127001 => if x12 = true then (if 0 ≤ x3 then (if x3 < (x127001.length : Int) then (if ((rd_L4 x127001 x3).length : Int) > 20 then (some false) else (flagstonelaw11_fine.l0 k (wrap64 (x3 + 1)) x127000 x127001)) else (none)) else (none)) else (if (x127000.length : Int) ≤ 100 then (if (x127001.length : Int) ≤ 20 then ((flagstonelaw11_its.f k x127000 x127001).bind fun bt128 => ((flagstoneref10_Right.f k bt128.1 bt128.2).bind fun t134 => (some t134))) else (some false)) else (some false))
end
def flagstonelaw11_fine.f (k : Nat) (l0_0 : List (S44)) (l0_1 : List (List Int)) : Option (Bool) := flagstonelaw11_fine.l0 k 0 l0_0 l0_1
theorem flagstonelaw11_fine.mono_l : ∀ k, (∀ y0 y1 y2, LeO (flagstonelaw11_fine.l0 k y0 y1 y2) (flagstonelaw11_fine.l0 (k + 1) y0 y1 y2)) ∧ (∀ y0 y1 y2 y3, LeO (flagstonelaw11_fine.j1 k y0 y1 y2 y3) (flagstonelaw11_fine.j1 (k + 1) y0 y1 y2 y3))
 | 0 => ⟨fun _ _ _ r h => by simp [flagstonelaw11_fine.l0] at h, fun _ _ _ _ r h => by simp [flagstonelaw11_fine.j1] at h⟩
 | k + 1 => by
  obtain ⟨ih0, ih1⟩ := flagstonelaw11_fine.mono_l k
  refine ⟨?_, ?_⟩
  ·intro y0 y1 y2
   unfold flagstonelaw11_fine.l0
   repeat' first
   | (with_reducible exact ih0 _ _ _)
   | (with_reducible exact ih1 _ _ _ _)
   | (with_reducible exact flagstonelaw11_its.mono _ _ _)
   | (with_reducible exact flagstoneref10_Right.mono _ _ _)
   | (with_reducible exact LeO.refl _)
   | (with_reducible exact LeO.none _)
   | (with_reducible refine LeO.ite ?_ ?_)
   | (with_reducible refine LeO.bind ?_ (fun _ => ?_))
   | exact ih0 _ _ _
   | exact ih1 _ _ _ _
   | exact flagstonelaw11_its.mono _ _ _
   | exact flagstoneref10_Right.mono _ _ _
   | exact LeO.none _
   | refine LeO.ite ?_ ?_
   | refine LeO.bind ?_ (fun _ => ?_)
  ·intro y0 y1 y2 y3
   unfold flagstonelaw11_fine.j1
   repeat' first
   | (with_reducible exact ih0 _ _ _)
   | (with_reducible exact ih1 _ _ _ _)
   | (with_reducible exact flagstonelaw11_its.mono _ _ _)
   | (with_reducible exact flagstoneref10_Right.mono _ _ _)
   | (with_reducible exact LeO.refl _)
   | (with_reducible exact LeO.none _)
   | (with_reducible refine LeO.ite ?_ ?_)
   | (with_reducible refine LeO.bind ?_ (fun _ => ?_))
   | exact ih0 _ _ _
   | exact ih1 _ _ _ _
   | exact flagstonelaw11_its.mono _ _ _
   | exact flagstoneref10_Right.mono _ _ _
   | exact LeO.none _
   | refine LeO.ite ?_ ?_
   | refine LeO.bind ?_ (fun _ => ?_)
theorem flagstonelaw11_fine.mono : ∀ a0 a1 k, LeO (flagstonelaw11_fine.f k a0 a1) (flagstonelaw11_fine.f (k + 1) a0 a1) := by
 intro a0 a1 k
 obtain ⟨ih0, ih1⟩ := flagstonelaw11_fine.mono_l k
 unfold flagstonelaw11_fine.f
 repeat' first
   | (with_reducible exact ih0 _ _ _)
   | (with_reducible exact ih1 _ _ _ _)
   | (with_reducible exact flagstonelaw11_its.mono _ _ _)
   | (with_reducible exact flagstoneref10_Right.mono _ _ _)
   | (with_reducible exact LeO.refl _)
   | (with_reducible exact LeO.none _)
   | (with_reducible refine LeO.ite ?_ ?_)
   | (with_reducible refine LeO.bind ?_ (fun _ => ?_))
   | exact ih0 _ _ _
   | exact ih1 _ _ _ _
   | exact flagstonelaw11_its.mono _ _ _
   | exact flagstoneref10_Right.mono _ _ _
   | exact LeO.none _
   | refine LeO.ite ?_ ?_
   | refine LeO.bind ?_ (fun _ => ?_)
set_option maxHeartbeats 8000000 in
set_option maxRecDepth 100000 in
theorem flagstonelaw11_fine.calls (k : Nat) (A0_0 : Option Addr) (c0_0 : Nat) (l0_0 : List (S44)) (A0_1 : Option Addr) (c0_1 : Nat) (l0_1 : List (List Int)) (r : Bool) (w : World) (hr0_0 : Kd.C k44 w A0_0 l0_0.length l0_0) (hc0_0 : l0_0.length ≤ c0_0) (hr0_1 : Kd.C (Kd.slice 3 (Kd.int .i64)) w A0_1 l0_1.length l0_1) (hc0_1 : l0_1.length ≤ c0_1) (h : flagstonelaw11_fine.f k l0_0 l0_1 = some r) :
  Calls Try.prog 9 #[.agg #[.slice A0_0 l0_0.length c0_0, .slice A0_1 l0_1.length c0_1]] w fun e w' => e = .returned (.bool r) ∧ Below w.heap.size w w' := by
 have hu25 := Try.underlying25
 have HR0_0 := Am_ hr0_0
 have HC0_0 := Am_ hc0_0
 clear hr0_0 hc0_0
 have HR0_1 := Am_ hr0_1
 have HC0_1 := Am_ hc0_1
 clear hr0_1 hc0_1
 have HB := Am_ (Below.refl w.heap.size w)
 have H : (flagstonelaw11_fine.l0 k 0 l0_0 l0_1) = some r := h
 clear h
 have H' := Am_ H
 clear H
 go_enter Try.func9, Try.ntmps9
 go_wp2_with (first | ((with_reducible refine gate_dst (N := 1) rfl ?_); (try (refine gate_guard (by rfl) ?_; dsimp only)); refine box_event ?hg (N := 1) ?hd (cs := #[.slice A0_0 l0_0.length c0_0, .slice A0_1 l0_1.length c0_1]) (t := 25) ?hr ?_; (case hd => rfl); (case hg => rfl); (case hr => first | (go_simp; done) | (go_simp; rfl)); intro gb126 hg w2 hbox hb; have n0_ := Am_ (Be_ (by repeat (first | (with_reducible first | exact HB.out | apply Pa_ | apply Pn_ | apply Pd_) | exact HB.out)) hb); have n1_ := Am_ (hbox); have n2_ := Am_ ((by rw [hg]; exact (Bz_ (by repeat (first | (with_reducible first | exact HB.out | apply Pa_ | apply Pn_ | apply Pd_) | exact HB.out))) : w.heap.size ≤ gb126)); have n3_ := Am_ ((by rw [hg]; exact (Bz_ (by repeat (first | (with_reducible first | exact HB.out | apply Pa_ | apply Pn_ | apply Pd_) | exact HB.out))) : w.heap.size ≤ gb126)); clear HB; have HB := n0_; have BK126 := n1_; have GW126 := n2_; have GE126 := n3_; clear n0_ n1_ n2_ n3_; clear hb hbox hg))
 go_loopg [3] k (fun kq v3 w' => ∃ (x3_1 : Int), v3 = .int .i64 x3_1 ∧ Aside0 (flagstonelaw11_fine.l0 kq x3_1 l0_0 l0_1 = some r) ∧ Aside0 (kq ≤ k) ∧ Aside0 (w'.heap[gb126]? = some (.cells #[(.slice A0_0 l0_0.length c0_0), (.slice A0_1 l0_1.length c0_1)] 25 (0, 0))) ∧ Aside0 (Below w.heap.size w w'))
 case atStart => exact ⟨(0), (by first | rfl | (simp; done) | (simp [*]; done)), H', ⟨Nat.le_refl _⟩, ⟨by (with_reducible repeat (first | refine Bn_ ?_ _ | refine Bd_ ?_ | refine Ba_ ?_ _)); exact BK126.out⟩, ⟨by repeat (first | (with_reducible first | exact HB.out | apply Pa_ | apply Pn_ | apply Pd_ | refine Bs_ ?_ GE126.out) | exact HB.out)⟩⟩
 case round =>
  clear H'
  try clear p2
  obtain ⟨x3_1, rfl, HA, HK1, BK126, HB⟩ := hrel
  cases gk with
  | zero => exact absurd HA.out (by simp [flagstonelaw11_fine.l0])
  | succ k1 =>
   have H := HA.out
   clear HA
   simp only [flagstonelaw11_fine.l0] at H
   have HC3 := Am_ H
   clear H
   go_upto_region 2 with (fail)
   go_cut [12] (fun v12 wc => ∃ (kq : Nat) (x12_2 : Bool), v12 = .bool x12_2 ∧ Aside0 (flagstonelaw11_fine.j1 kq x3_1 x12_2 l0_0 l0_1 = some r) ∧ Aside0 (kq ≤ k1) ∧ Aside0 (wc.heap[gb126]? = some (.cells #[(.slice A0_0 l0_0.length c0_0), (.slice A0_1 l0_1.length c0_1)] 25 (0, 0))) ∧ Aside0 (Below w.heap.size w wc))
   case first =>
    have H := HC3.out
    clear HC3
    by_cases c4 : x3_1 < (l0_1.length : Int)
    ·rw [if_pos c4] at H
     have c4b0 : decide (x3_1 < (l0_1.length : Int)) = true := Dt_ c4
     clear c4
     (first | rw [c4b0] | (simp only [i64_w, i32_w]; rw [c4b0]) | skip)
     have H' := Am_ H
     clear H
     have hcz5_0 : wr.cell? ⟨gb126, 0, none⟩ = some (.slice A0_0 l0_0.length c0_0) := (Bc_ BK126.out 0).trans rfl
     have hcz5_1 : wr.cell? ⟨gb126, 1, none⟩ = some (.slice A0_1 l0_1.length c0_1) := (Bc_ BK126.out 1).trans rfl
     have hfz5_0 := Bf_ BK126.out 0
     have hfz5_1 := Bf_ BK126.out 1
     go_wp2
     go_meet
     case rel => exact ⟨_, (decide (x3_1 < 20)), (by first | rfl | (simp; done) | (simp [*]; done)), H', ⟨by have := HK1.out; first | omega | exact Nat.le_refl _⟩, ⟨by (with_reducible repeat (first | refine Bn_ ?_ _ | refine Bd_ ?_ | refine Ba_ ?_ _)); exact BK126.out⟩, ⟨by repeat (first | (with_reducible first | exact HB.out | apply Pa_ | apply Pn_ | apply Pd_ | refine Bs_ ?_ GE126.out) | exact HB.out)⟩⟩
    ·rw [if_neg c4] at H
     have c4b0 : decide (x3_1 < (l0_1.length : Int)) = false := Df_ c4
     clear c4
     (first | rw [c4b0] | (simp only [i64_w, i32_w]; rw [c4b0]) | skip)
     have H' := Am_ H
     clear H
     have hcz6_0 : wr.cell? ⟨gb126, 0, none⟩ = some (.slice A0_0 l0_0.length c0_0) := (Bc_ BK126.out 0).trans rfl
     have hcz6_1 : wr.cell? ⟨gb126, 1, none⟩ = some (.slice A0_1 l0_1.length c0_1) := (Bc_ BK126.out 1).trans rfl
     have hfz6_0 := Bf_ BK126.out 0
     have hfz6_1 := Bf_ BK126.out 1
     go_wp2
     go_meet
     case rel => exact ⟨_, (false), (by first | rfl | (simp; done) | (simp [*]; done)), H', ⟨by have := HK1.out; first | omega | exact Nat.le_refl _⟩, ⟨by (with_reducible repeat (first | refine Bn_ ?_ _ | refine Bd_ ?_ | refine Ba_ ?_ _)); exact BK126.out⟩, ⟨by repeat (first | (with_reducible first | exact HB.out | apply Pa_ | apply Pn_ | apply Pd_ | refine Bs_ ?_ GE126.out) | exact HB.out)⟩⟩
   case rest =>
    clear HC3
    try clear p2
    try clear c4
    try clear c4b0
    try clear hcz5_0
    try clear hcz5_1
    try clear hcz6_0
    try clear hcz6_1
    try clear hfz5_0
    try clear hfz5_1
    try clear hfz6_0
    try clear hfz6_1
    try clear p2
    obtain ⟨kq, x12_2, rfl, HA, HJ2, BK126, HB⟩ := hcut
    cases kq with
    | zero => exact absurd HA.out (by simp [flagstonelaw11_fine.j1])
    | succ kj2 =>
     have H := HA.out
     clear HA
     simp only [flagstonelaw11_fine.j1] at H
     by_cases c7 : x12_2 = true
     ·subst c7
      have H1 : (if 0 ≤ x3_1 then (if x3_1 < (l0_1.length : Int) then (if ((rd_L4 l0_1 x3_1).length : Int) > 20 then (some false) else (flagstonelaw11_fine.l0 kj2 (wrap64 (x3_1 + 1)) l0_0 l0_1)) else (none)) else (none)) = some r := by rw [if_pos rfl] at H; exact H
      clear H
      have H := H1
      clear H1
      by_cases c8 : 0 ≤ x3_1
      ·rw [if_pos c8] at H
       have c8b0 : decide (0 ≤ x3_1) = true := Dt_ c8
       clear c8
       by_cases c9 : x3_1 < (l0_1.length : Int)
       ·rw [if_pos c9] at H
        have c9b0 : decide (x3_1 < (l0_1.length : Int)) = true := Dt_ c9
        clear c9
        by_cases c10 : ((rd_L4 l0_1 x3_1).length : Int) > 20
        ·rw [if_pos c10] at H
         have c10b0 : decide (20 < ((rd_L4 l0_1 x3_1).length : Int)) = true := Dt_ c10
         have c10b1 : decide (20 < (rd_L4 l0_1 x3_1).length) = true := Dt_ (by omega)
         clear c10
         obtain rfl := Option.some.inj H
         have hcz11_0 : wc.cell? ⟨gb126, 0, none⟩ = some (.slice A0_0 l0_0.length c0_0) := (Bc_ BK126.out 0).trans rfl
         have hcz11_1 : wc.cell? ⟨gb126, 1, none⟩ = some (.slice A0_1 l0_1.length c0_1) := (Bc_ BK126.out 1).trans rfl
         have hfz11_0 := Bf_ BK126.out 0
         have hfz11_1 := Bf_ BK126.out 1
         have p127 : 0 ≤ (x3_1 : Int) := Ot_ (by first | (with_reducible assumption) | assumption)
         have q127 : x3_1 < (l0_1.length : Int) := Ot_ (by first | (with_reducible assumption) | assumption)
         obtain ⟨ad127, A127_0, c127_0, e127, hx127_0, hl127_0, hi127_0⟩ := at_L4 HR0_1.out x3_1 p127 q127
         cases e127
         replace hx127_0 := (HB.out.cell (Bl_ w _ hx127_0)).trans hx127_0
         have HR127_0 := Am_ hi127_0
         have HC127_0 := Am_ hl127_0
         clear hi127_0 hl127_0
         replace p127 := eq_true p127
         replace q127 := eq_true q127
         go_wp2
         go_ret
         exact ⟨by first | rfl | (simp [errW_none, errW_some] <;> rfl) | (simp [*, errW_none, errW_some] <;> rfl), by repeat (first | (with_reducible first | exact HB.out | apply Pa_ | apply Pn_ | apply Pd_ | refine Bs_ ?_ GE126.out) | exact HB.out)⟩
        ·rw [if_neg c10] at H
         have c10b0 : decide (20 < ((rd_L4 l0_1 x3_1).length : Int)) = false := Df_ c10
         have c10b1 : decide (20 < (rd_L4 l0_1 x3_1).length) = false := Df_ (by omega)
         clear c10
         have H' := Am_ H
         clear H
         have hcz12_0 : wc.cell? ⟨gb126, 0, none⟩ = some (.slice A0_0 l0_0.length c0_0) := (Bc_ BK126.out 0).trans rfl
         have hcz12_1 : wc.cell? ⟨gb126, 1, none⟩ = some (.slice A0_1 l0_1.length c0_1) := (Bc_ BK126.out 1).trans rfl
         have hfz12_0 := Bf_ BK126.out 0
         have hfz12_1 := Bf_ BK126.out 1
         have p127 : 0 ≤ (x3_1 : Int) := Ot_ (by first | (with_reducible assumption) | assumption)
         have q127 : x3_1 < (l0_1.length : Int) := Ot_ (by first | (with_reducible assumption) | assumption)
         obtain ⟨ad127, A127_0, c127_0, e127, hx127_0, hl127_0, hi127_0⟩ := at_L4 HR0_1.out x3_1 p127 q127
         cases e127
         replace hx127_0 := (HB.out.cell (Bl_ w _ hx127_0)).trans hx127_0
         have HR127_0 := Am_ hi127_0
         have HC127_0 := Am_ hl127_0
         clear hi127_0 hl127_0
         replace p127 := eq_true p127
         replace q127 := eq_true q127
         go_wp2
         go_roundg kj2
         case measure => have := HK1.out; have := HJ2.out; omega
         case rel => exact ⟨(wrap64 (x3_1 + 1)), (by first | rfl | (simp; done) | (simp [*]; done)), H', ⟨by have := HK1.out; have := HJ2.out; omega⟩, ⟨by (with_reducible repeat (first | refine Bn_ ?_ _ | refine Bd_ ?_ | refine Ba_ ?_ _)); exact BK126.out⟩, ⟨by repeat (first | (with_reducible first | exact HB.out | apply Pa_ | apply Pn_ | apply Pd_ | refine Bs_ ?_ GE126.out) | exact HB.out)⟩⟩
       ·rw [if_neg c9] at H
        exact absurd H (by simp)
      ·rw [if_neg c8] at H
       exact absurd H (by simp)
     ·replace c7 := Bool.eq_false_iff.mpr c7
      subst c7
      have H1 : (if (l0_0.length : Int) ≤ 100 then (if (l0_1.length : Int) ≤ 20 then ((flagstonelaw11_its.f kj2 l0_0 l0_1).bind fun bt128 => ((flagstoneref10_Right.f kj2 bt128.1 bt128.2).bind fun t134 => (some t134))) else (some false)) else (some false)) = some r := by rw [if_neg (show ¬ (false = true) by decide)] at H; exact H
      clear H
      have H := H1
      clear H1
      by_cases c13 : (l0_0.length : Int) ≤ 100
      ·rw [if_pos c13] at H
       have c13b0 : decide ((l0_0.length : Int) ≤ 100) = true := Dt_ c13
       have c13b1 : decide (l0_0.length ≤ 100) = true := Dt_ (by omega)
       clear c13
       by_cases c14 : (l0_1.length : Int) ≤ 20
       ·rw [if_pos c14] at H
        have c14b0 : decide ((l0_1.length : Int) ≤ 20) = true := Dt_ c14
        have c14b1 : decide (l0_1.length ≤ 20) = true := Dt_ (by omega)
        clear c14
        replace H := Option.bind_eq_some_iff.mp H
        obtain ⟨⟨t128, t131⟩, A150, H⟩ := H
        replace H : ((flagstoneref10_Right.f kj2 t128 t131).bind fun t134 => (some t134)) = some r := H
        have A15 := Am_ A150
        clear A150
        replace H := Option.bind_eq_some_iff.mp H
        obtain ⟨t134, A160, H⟩ := H
        replace H : (some t134) = some r := H
        have A16 := Am_ A160
        clear A160
        obtain rfl := Option.some.inj H
        have hcz17_0 : wc.cell? ⟨gb126, 0, none⟩ = some (.slice A0_0 l0_0.length c0_0) := (Bc_ BK126.out 0).trans rfl
        have hcz17_1 : wc.cell? ⟨gb126, 1, none⟩ = some (.slice A0_1 l0_1.length c0_1) := (Bc_ BK126.out 1).trans rfl
        have hfz17_0 := Bf_ BK126.out 0
        have hfz17_1 := Bf_ BK126.out 1
        go_wp2_with (first | (go_at_call 13; (with_reducible refine (flagstonelaw11_its.calls kj2 _ _ l0_0 (fun k_ => k_ < w.heap.size) _ _ l0_1 t128 t131 _ ?side1 ?side2 ?side3 A15.out).mono ?_); (case side1 => repeat (first | exact (Kd.C_below HR0_0.out HB.out) | (with_reducible refine Kd.C_alloc ?_ _) | (with_reducible refine Kd.C_drewN ?_ _) | (with_reducible refine Kd.C_drew ?_))); (case side2 => exact HC0_0.out); (case side3 => exact Kd.V_mk HC0_1.out (Kd.F_below (Kd.C_F (Kd.heap_slice 3 (Kd.heap_int .i64)) HR0_1.out) (by repeat (first | (with_reducible first | exact HB.out | apply Pa_ | apply Pn_ | apply Pd_ | refine Bs_ ?_ GE126.out) | exact HB.out)))); rintro e w18 ⟨v129, v132, rfl, ho0, ho1, hb⟩; have n0_ := Am_ (Kd.R_lower (Kd.R_mono (ok' := fun k_ => True) ho0 (fun _ hk_ => trivial)) (Bz_ (by repeat (first | (with_reducible first | exact HB.out | apply Pa_ | apply Pn_ | apply Pd_ | refine Bs_ ?_ GE126.out) | exact HB.out)))); have n1_ := Am_ (Vl_ (Vm_ (ok' := fun k_ => some k_ ≠ (v129 : Value).ownBlock ∧ k_ ≠ gb126) ho1 (fun k_ hk_ => ⟨hk_.2, Or.elim hk_.1 (fun hs_ => fun e_ => Nat.not_le.2 hs_ (by rw [e_]; exact GW126.out)) (fun hn_ => (Kd.freshB (g := gb126) (o := .cells #[.slice A0_0 l0_0.length c0_0, .slice A0_1 l0_1.length c0_1] 25 (0, 0)) (by (with_reducible repeat (first | refine Bn_ ?_ _ | refine Bd_ ?_ | refine Ba_ ?_ _)); exact BK126.out) k_ hn_))⟩)) (Bz_ (by repeat (first | (with_reducible first | exact HB.out | apply Pa_ | apply Pn_ | apply Pd_ | refine Bs_ ?_ GE126.out) | exact HB.out)))); have n2_ := Am_ (Bb_ (g := gb126) (o := .cells #[.slice A0_0 l0_0.length c0_0, .slice A0_1 l0_1.length c0_1] 25 (0, 0)) (by (with_reducible repeat (first | refine Bn_ ?_ _ | refine Bd_ ?_ | refine Ba_ ?_ _)); exact BK126.out) hb); have n3_ := Am_ (Be_ (by repeat (first | (with_reducible first | exact HB.out | apply Pa_ | apply Pn_ | apply Pd_ | refine Bs_ ?_ GE126.out) | exact HB.out)) hb); clear BK126; clear HB; have HO130 := n0_; have HO133 := n1_; have BK126 := n2_; have HB := n3_; clear n0_ n1_ n2_ n3_; (try clear hb); (try clear hb2); (try clear hk); (try clear hi); (try clear ho0); (try clear ho1); obtain ⟨Ao19, co19, eo19⟩ := Kd.R_slice HO130.out; subst eo19; obtain ⟨Ao20, co20, eo20⟩ := Vx_ HO133.out; subst eo20) | (go_at_call 19; (with_reducible refine (flagstoneref10_Right.calls kj2 _ _ t128 _ _ t131 t134 _ ?side1 ?side2 ?side3 ?side4 A16.out).mono ?_); (case side1 => repeat (first | exact (Kd.R_reads' HO130.out).2.2 | (with_reducible refine Kd.C_alloc ?_ _) | (with_reducible refine Kd.C_drewN ?_ _) | (with_reducible refine Kd.C_drew ?_))); (case side2 => exact (Kd.R_reads' HO130.out).2.1); (case side3 => repeat (first | exact (Vr_ HO133.out).2.2 | (with_reducible refine Kd.C_alloc ?_ _) | (with_reducible refine Kd.C_drewN ?_ _) | (with_reducible refine Kd.C_drew ?_))); (case side4 => exact (Vr_ HO133.out).2.1); rintro e w21 ⟨rfl, hb⟩; have n0_ := Am_ (Rb_ (by (with_reducible repeat (first | apply Ra_ | apply Rn_ | apply Rd_)); exact HO130.out) hb); have n1_ := Am_ (Vb_ (by (with_reducible repeat (first | apply Va_ | apply Vn_ | apply Vd_)); exact HO133.out) hb); have n2_ := Am_ (Bb_ (g := gb126) (o := .cells #[.slice A0_0 l0_0.length c0_0, .slice A0_1 l0_1.length c0_1] 25 (0, 0)) (by (with_reducible repeat (first | refine Bn_ ?_ _ | refine Bd_ ?_ | refine Ba_ ?_ _)); exact BK126.out) hb); have n3_ := Am_ (Be_ (by repeat (first | (with_reducible first | exact HB.out | apply Pa_ | apply Pn_ | apply Pd_ | refine Bs_ ?_ GE126.out) | exact HB.out)) hb); clear HO130; clear HO133; clear BK126; clear HB; have HO130 := n0_; have HO133 := n1_; have BK126 := n2_; have HB := n3_; clear n0_ n1_ n2_ n3_; (try clear hb); (try clear hb2); (try clear hk); (try clear hi)))
        go_ret
        exact ⟨by first | rfl | (simp [errW_none, errW_some] <;> rfl) | (simp [*, errW_none, errW_some] <;> rfl), by repeat (first | (with_reducible first | exact HB.out | apply Pa_ | apply Pn_ | apply Pd_ | refine Bs_ ?_ GE126.out) | exact HB.out)⟩
       ·rw [if_neg c14] at H
        have c14b0 : decide ((l0_1.length : Int) ≤ 20) = false := Df_ c14
        have c14b1 : decide (l0_1.length ≤ 20) = false := Df_ (by omega)
        clear c14
        obtain rfl := Option.some.inj H
        have hcz22_0 : wc.cell? ⟨gb126, 0, none⟩ = some (.slice A0_0 l0_0.length c0_0) := (Bc_ BK126.out 0).trans rfl
        have hcz22_1 : wc.cell? ⟨gb126, 1, none⟩ = some (.slice A0_1 l0_1.length c0_1) := (Bc_ BK126.out 1).trans rfl
        have hfz22_0 := Bf_ BK126.out 0
        have hfz22_1 := Bf_ BK126.out 1
        go_wp2
        go_ret
        exact ⟨by first | rfl | (simp [errW_none, errW_some] <;> rfl) | (simp [*, errW_none, errW_some] <;> rfl), by repeat (first | (with_reducible first | exact HB.out | apply Pa_ | apply Pn_ | apply Pd_ | refine Bs_ ?_ GE126.out) | exact HB.out)⟩
      ·rw [if_neg c13] at H
       have c13b0 : decide ((l0_0.length : Int) ≤ 100) = false := Df_ c13
       have c13b1 : decide (l0_0.length ≤ 100) = false := Df_ (by omega)
       clear c13
       obtain rfl := Option.some.inj H
       have hcz23_0 : wc.cell? ⟨gb126, 0, none⟩ = some (.slice A0_0 l0_0.length c0_0) := (Bc_ BK126.out 0).trans rfl
       have hcz23_1 : wc.cell? ⟨gb126, 1, none⟩ = some (.slice A0_1 l0_1.length c0_1) := (Bc_ BK126.out 1).trans rfl
       have hfz23_0 := Bf_ BK126.out 0
       have hfz23_1 := Bf_ BK126.out 1
       go_wp2
       go_ret
       exact ⟨by first | rfl | (simp [errW_none, errW_some] <;> rfl) | (simp [*, errW_none, errW_some] <;> rfl), by repeat (first | (with_reducible first | exact HB.out | apply Pa_ | apply Pn_ | apply Pd_ | refine Bs_ ?_ GE126.out) | exact HB.out)⟩

end Go.Proofs.Ytbfjakhloabhmaa.P
