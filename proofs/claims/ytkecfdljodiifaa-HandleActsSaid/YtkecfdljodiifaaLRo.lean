/- How an argument that a row reads is opened into what the printed contracts read: whole numbers, bools, strings, slices of anything. Not of one program. -/
import Derived.Deep.Slices
import Derived.ChangeSame
import Derived.Lib.SmallJoins
import Derived.Test.YtkecfdljodiifaaV
namespace Go.Proofs.Ytkecfdljodiifaa.P
open Go.RowKit Go.ChangeShapes Go.WideShapes Go.Deep Go.Proofs.YtkecfdljodiifaaW.PrintWords Go.Proofs.YtkecfdljodiifaaW.PrintLast Go.Proofs.YtkecfdljodiifaaW.PrintMore

/-- what a value of this type reads as, is read so -/
def Opens {α : Type} (P : Program) (d : Kd α) (t : TypeId) : Prop :=
  ∀ (H : Type) (enc : TypeId × Value → H) (w : World) (base : Nat) (spare : Nat → Bool) (held : Bool) (fuel : Nat) (cs : List Value) (x : DataW H × List MemPlace), DataW.trod enc P w base spare held fuel t cs = some x → ∃ a, d.K w a cs
theorem opens_int {P : Program} {t : TypeId} {k : IntKind} (ht : P.underlying t = some (.int k)) : Opens P (Kd.int k) t := by
  intro H enc w base spare held fuel cs x h
  obtain ⟨n, hc, _⟩ := DataW.trod_int ht h
  exact ⟨n, hc⟩
theorem opens_bool {P : Program} {t : TypeId} (ht : P.underlying t = some .bool) : Opens P Kd.bool t := by
  intro H enc w base spare held fuel cs x h
  obtain ⟨n, hc, _⟩ := DataW.trod_bool ht h
  exact ⟨n, hc⟩
theorem opens_slice {α : Type} [Inhabited α] {P : Program} {t e : TypeId} {d : Kd α} (ht : P.underlying t = some (.slice e)) (hC : P.cellsOf e = d.sz) (hd : Opens P d e) : Opens P (Kd.slice e d) t := by
  intro H enc w base spare held fuel cs x h
  rcases open_slice ht h with ⟨hcs, _⟩ | ⟨a, len, cap, m, n, D, Pl, hcs, _, hl, hm, hmm, _, hi⟩
  · exact ⟨[], none, 0, hcs, Nat.le_refl _, rfl, Nat.zero_le _, fun h0 => absurd h0 (Nat.lt_irrefl _)⟩
  · have hlm : len ≤ m := by
      rw [hmm]
      split
      · exact hl
      · exact Nat.le_refl _
    have hex : ∀ i, i < len → ∃ x : α, ∃ c : List Value, c.length = d.sz ∧ d.K w x c ∧ ∀ j u, c[j]? = some u → w.cell? ((a.add (i * d.sz)).add j) = some u := by
      intro i hil
      obtain ⟨cs', hc, ht'⟩ := hi i (Nat.lt_of_lt_of_le hil hlm)
      obtain ⟨x, hx⟩ := hd _ _ _ _ _ _ _ _ _ ht'
      obtain ⟨_, hlen, hcell⟩ := World.cells?_some hc
      rw [hC] at hlen hcell
      refine ⟨x, cs', hlen, hx, fun j u hj => ?_⟩
      have hjl : j < cs'.length := (List.getElem?_eq_some_iff.1 hj).1
      rw [hcell j (by omega)]
      exact hj
    obtain ⟨f, hf⟩ := choose_lt hex
    have hl0 : ((List.range len).map f).length = len := by simp
    refine ⟨(List.range len).map f, some a, cap, by rw [hl0]; exact hcs, by rw [hl0]; exact hl, ?_⟩
    refine ⟨rfl, by rw [hl0]; exact Nat.le_trans hl hm, fun _ => ⟨a, rfl, fun j p hj => ?_⟩⟩
    have hjl : j < len := by
      have := (List.getElem?_eq_some_iff.1 hj).1
      rw [hl0] at this
      exact this
    obtain rfl : f j = p := by simpa [hjl] using hj
    obtain ⟨c, h1, h2, h3⟩ := hf j hjl
    refine ⟨c, h1, h2, fun i u hu => ?_⟩
    rw [← Go.Deep.add_add]
    exact h3 i u hu
end Go.Proofs.Ytkecfdljodiifaa.P
