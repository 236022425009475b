/-
  No cell of these rows narrows 'for every input' (looked for: loops, veiled, ifaces, maps, wideKeys, modest, calm, conditions, laid).
  DERIVED. THE GIVEN ROWS OF THIS SEAT. 6 by the template 'for every input the law returns true; each argument reads behind the call as it read before'; 0 by the template 'total and deterministic' (their statements: YtpeelfambaedkaaTotals.lean).
  GIVEN WITH THE SEED: the statements are not yours to turn. If you find one false, say at which input.
  Laid BY PROGRAM, IN A SANDBOX (cutbox-rows.mjs): the forced cells as the released guide's own fill.sh prints them over the translation fa80d7b3ae8d120b… (all of the seat's roots in one cut). By AI agents, Wed Nov 11 2026. No macro, syntax, notation, axiom, sorry.
-/
import Derived.Test.YtpeelfambaedkaaChecked
import GoSem.Claim
import GoSem.ClaimJoined
import GoSem.ClaimMapViews
import Derived.JoinedTies
import Derived.KernelRfl
namespace Go.Proofs.Ytpeelfambaedkaa
/- THE CELL 'sum', in the pinned program and in every row, IS THE sha256 OF THE DUMP (.gsa) THAT YtpeelfambaedkaaProg.lean LOADS. Nothing in Lean hashes anything: it is a label: what it is worth is what the hold of that sum in a sandbox is worth. -/
noncomputable def Try.pinned : Pinned := { name := "ytpeelfambaedkaa", sum := "fa80d7b3ae8d120ba5df625be4b68a7836c73241c2e45882e61cce64319be8b0", checked := Try.checked }
namespace Rows
def none {H : Type} : Left H := { results := [], args := [] }

/-- 'flagstonelaw09.ContentReads': WHATEVER THE INPUT: true; the input reads as it did. -/
def contentReadsSpec : ChangeSpec := { name := "contentReads", fn := fun _ => fun
  | [d1, d2, d3, d4] => { results := [.lit (.bool true)], args := [d1, d2, d3, d4] }
  | _ => none }
def contentReadsRow : OpenClaim := { program := "ytpeelfambaedkaa", sum := "fa80d7b3ae8d120ba5df625be4b68a7836c73241c2e45882e61cce64319be8b0", func := "flagstone/flagstonelaw09.ContentReads", spec := "contentReads", inPlace := ["internal/bytealg.MakeNoZero"], unfollowed := true, recurses := true, apart := false }
def ContentReadsSaid : Prop := contentReadsRow.holds Try.pinned (OpenSpec.ofChange contentReadsSpec)

/-- ITS FALSE NEIGHBOUR: 'it returns false'. Refute it at one input. -/
def contentReadsWrong : ChangeSpec := { name := "contentReads", fn := fun _ => fun
  | [d1, d2, d3, d4] => { results := [.lit (.bool false)], args := [d1, d2, d3, d4] }
  | _ => none }
def ContentReadsWrongFalsely : Prop := contentReadsRow.holds Try.pinned (OpenSpec.ofChange contentReadsWrong)

/-- 'flagstonelaw09.ContentWrites': WHATEVER THE INPUT: true; the input reads as it did. -/
def contentWritesSpec : ChangeSpec := { name := "contentWrites", fn := fun _ => fun
  | [d1, d2, d3, d4, d5] => { results := [.lit (.bool true)], args := [d1, d2, d3, d4, d5] }
  | _ => none }
def contentWritesRow : OpenClaim := { program := "ytpeelfambaedkaa", sum := "fa80d7b3ae8d120ba5df625be4b68a7836c73241c2e45882e61cce64319be8b0", func := "flagstone/flagstonelaw09.ContentWrites", spec := "contentWrites", inPlace := ["internal/bytealg.MakeNoZero"], unfollowed := true, recurses := true, apart := false }
def ContentWritesSaid : Prop := contentWritesRow.holds Try.pinned (OpenSpec.ofChange contentWritesSpec)

/-- ITS FALSE NEIGHBOUR: 'it returns false'. Refute it at one input. -/
def contentWritesWrong : ChangeSpec := { name := "contentWrites", fn := fun _ => fun
  | [d1, d2, d3, d4, d5] => { results := [.lit (.bool false)], args := [d1, d2, d3, d4, d5] }
  | _ => none }
def ContentWritesWrongFalsely : Prop := contentWritesRow.holds Try.pinned (OpenSpec.ofChange contentWritesWrong)

/-- 'flagstonelaw09.ContentBack': WHATEVER THE INPUT: true; the input reads as it did. -/
def contentBackSpec : ChangeSpec := { name := "contentBack", fn := fun _ => fun
  | [d1, d2, d3, d4, d5, d6] => { results := [.lit (.bool true)], args := [d1, d2, d3, d4, d5, d6] }
  | _ => none }
def contentBackRow : OpenClaim := { program := "ytpeelfambaedkaa", sum := "fa80d7b3ae8d120ba5df625be4b68a7836c73241c2e45882e61cce64319be8b0", func := "flagstone/flagstonelaw09.ContentBack", spec := "contentBack", inPlace := ["internal/bytealg.MakeNoZero"], unfollowed := true, recurses := true, apart := false }
def ContentBackSaid : Prop := contentBackRow.holds Try.pinned (OpenSpec.ofChange contentBackSpec)

/-- ITS FALSE NEIGHBOUR: 'it returns false'. Refute it at one input. -/
def contentBackWrong : ChangeSpec := { name := "contentBack", fn := fun _ => fun
  | [d1, d2, d3, d4, d5, d6] => { results := [.lit (.bool false)], args := [d1, d2, d3, d4, d5, d6] }
  | _ => none }
def ContentBackWrongFalsely : Prop := contentBackRow.holds Try.pinned (OpenSpec.ofChange contentBackWrong)

/-- 'flagstonelaw09.ContentSizes': WHATEVER THE INPUT: true; the input reads as it did. -/
def contentSizesSpec : ChangeSpec := { name := "contentSizes", fn := fun _ => fun
  | [d1, d2, d3, d4, d5] => { results := [.lit (.bool true)], args := [d1, d2, d3, d4, d5] }
  | _ => none }
def contentSizesRow : OpenClaim := { program := "ytpeelfambaedkaa", sum := "fa80d7b3ae8d120ba5df625be4b68a7836c73241c2e45882e61cce64319be8b0", func := "flagstone/flagstonelaw09.ContentSizes", spec := "contentSizes", inPlace := ["internal/bytealg.MakeNoZero"], unfollowed := true, recurses := true, apart := false }
def ContentSizesSaid : Prop := contentSizesRow.holds Try.pinned (OpenSpec.ofChange contentSizesSpec)

/-- ITS FALSE NEIGHBOUR: 'it returns false'. Refute it at one input. -/
def contentSizesWrong : ChangeSpec := { name := "contentSizes", fn := fun _ => fun
  | [d1, d2, d3, d4, d5] => { results := [.lit (.bool false)], args := [d1, d2, d3, d4, d5] }
  | _ => none }
def ContentSizesWrongFalsely : Prop := contentSizesRow.holds Try.pinned (OpenSpec.ofChange contentSizesWrong)

/-- 'flagstonelaw09.ContentParts': WHATEVER THE INPUT: true; the input reads as it did. -/
def contentPartsSpec : ChangeSpec := { name := "contentParts", fn := fun _ => fun
  | [d1, d2, d3, d4, d5, d6, d7] => { results := [.lit (.bool true)], args := [d1, d2, d3, d4, d5, d6, d7] }
  | _ => none }
def contentPartsRow : OpenClaim := { program := "ytpeelfambaedkaa", sum := "fa80d7b3ae8d120ba5df625be4b68a7836c73241c2e45882e61cce64319be8b0", func := "flagstone/flagstonelaw09.ContentParts", spec := "contentParts", inPlace := ["internal/bytealg.MakeNoZero"], unfollowed := true, recurses := true, apart := false }
def ContentPartsSaid : Prop := contentPartsRow.holds Try.pinned (OpenSpec.ofChange contentPartsSpec)

/-- ITS FALSE NEIGHBOUR: 'it returns false'. Refute it at one input. -/
def contentPartsWrong : ChangeSpec := { name := "contentParts", fn := fun _ => fun
  | [d1, d2, d3, d4, d5, d6, d7] => { results := [.lit (.bool false)], args := [d1, d2, d3, d4, d5, d6, d7] }
  | _ => none }
def ContentPartsWrongFalsely : Prop := contentPartsRow.holds Try.pinned (OpenSpec.ofChange contentPartsWrong)

/-- 'flagstonelaw09.ContentRefuses': WHATEVER THE INPUT: true; the input reads as it did. -/
def contentRefusesSpec : ChangeSpec := { name := "contentRefuses", fn := fun _ => fun
  | [d1, d2, d3, d4, d5] => { results := [.lit (.bool true)], args := [d1, d2, d3, d4, d5] }
  | _ => none }
def contentRefusesRow : OpenClaim := { program := "ytpeelfambaedkaa", sum := "fa80d7b3ae8d120ba5df625be4b68a7836c73241c2e45882e61cce64319be8b0", func := "flagstone/flagstonelaw09.ContentRefuses", spec := "contentRefuses", inPlace := ["internal/bytealg.MakeNoZero"], unfollowed := true, recurses := true, apart := false }
def ContentRefusesSaid : Prop := contentRefusesRow.holds Try.pinned (OpenSpec.ofChange contentRefusesSpec)

/-- ITS FALSE NEIGHBOUR: 'it returns false'. Refute it at one input. -/
def contentRefusesWrong : ChangeSpec := { name := "contentRefuses", fn := fun _ => fun
  | [d1, d2, d3, d4, d5] => { results := [.lit (.bool false)], args := [d1, d2, d3, d4, d5] }
  | _ => none }
def ContentRefusesWrongFalsely : Prop := contentRefusesRow.holds Try.pinned (OpenSpec.ofChange contentRefusesWrong)

/- THE SECOND FORM. 'bulk': how many values and letters a reading holds, each counted each time it is reached (what is shared counts as often as it is met; a slice's spare places count too). A statement '..UptoSaid' is the law's where the arguments, and the package variables that the reading takes, are together of bulk at most 1048576: NARROWER than '..Said'. Prove '..Said' where nothing that the law and all that it calls make is longer than what came in: it says more and counts as full. Else prove '..UptoSaid'. A law counts once. -/
mutual
def uptoBulk {H : Type} : DataW H → Nat
  | .lit (.string bytes) => bytes.length + 1
  | .lit _ => 1
  | .nil => 1
  | .ptr d => uptoBulk d + 1
  | .slice elems spare => uptoBulkAll elems + uptoBulkAll spare + 1
  | .agg parts => uptoBulkAll parts + 1
  | .iface _ d => uptoBulk d + 1
  | .map entries => uptoBulkEntries entries + 1
  | .held _ => 1
def uptoBulkAll {H : Type} : List (DataW H) → Nat
  | [] => 0
  | d :: r => uptoBulk d + uptoBulkAll r
def uptoBulkEntries {H : Type} : List (Lit × DataW H) → Nat
  | [] => 0
  | x :: r => uptoBulkEntry x + uptoBulkEntries r
def uptoBulkEntry {H : Type} : Lit × DataW H → Nat
  | (.string bytes, d) => bytes.length + uptoBulk d + 1
  | (_, d) => uptoBulk d + 1
 end
def uptoSmall : (H : Type) → List (DataW H) → Bool := fun _ ds => decide (uptoBulkAll ds ≤ 1048576)
def OpenSpec.upto (s : _root_.Go.ChangeSpec) : _root_.Go.OpenSpec := { _root_.Go.OpenSpec.ofChange s with cond := some uptoSmall }

/-- 'flagstonelaw09.ContentReads', WHERE WHAT IT READS IS OF BULK AT MOST 1048576: true; the input reads as it did. -/
def contentReadsUptoRow : OpenClaim := { program := "ytpeelfambaedkaa", sum := "fa80d7b3ae8d120ba5df625be4b68a7836c73241c2e45882e61cce64319be8b0", func := "flagstone/flagstonelaw09.ContentReads", spec := "contentReads", inPlace := ["internal/bytealg.MakeNoZero"], unfollowed := true, recurses := true, apart := false, narrowed := true }
def ContentReadsUptoSaid : Prop := contentReadsUptoRow.holds Try.pinned (OpenSpec.upto contentReadsSpec)

/-- 'flagstonelaw09.ContentWrites', WHERE WHAT IT READS IS OF BULK AT MOST 1048576: true; the input reads as it did. -/
def contentWritesUptoRow : OpenClaim := { program := "ytpeelfambaedkaa", sum := "fa80d7b3ae8d120ba5df625be4b68a7836c73241c2e45882e61cce64319be8b0", func := "flagstone/flagstonelaw09.ContentWrites", spec := "contentWrites", inPlace := ["internal/bytealg.MakeNoZero"], unfollowed := true, recurses := true, apart := false, narrowed := true }
def ContentWritesUptoSaid : Prop := contentWritesUptoRow.holds Try.pinned (OpenSpec.upto contentWritesSpec)

/-- 'flagstonelaw09.ContentBack', WHERE WHAT IT READS IS OF BULK AT MOST 1048576: true; the input reads as it did. -/
def contentBackUptoRow : OpenClaim := { program := "ytpeelfambaedkaa", sum := "fa80d7b3ae8d120ba5df625be4b68a7836c73241c2e45882e61cce64319be8b0", func := "flagstone/flagstonelaw09.ContentBack", spec := "contentBack", inPlace := ["internal/bytealg.MakeNoZero"], unfollowed := true, recurses := true, apart := false, narrowed := true }
def ContentBackUptoSaid : Prop := contentBackUptoRow.holds Try.pinned (OpenSpec.upto contentBackSpec)

/-- 'flagstonelaw09.ContentSizes', WHERE WHAT IT READS IS OF BULK AT MOST 1048576: true; the input reads as it did. -/
def contentSizesUptoRow : OpenClaim := { program := "ytpeelfambaedkaa", sum := "fa80d7b3ae8d120ba5df625be4b68a7836c73241c2e45882e61cce64319be8b0", func := "flagstone/flagstonelaw09.ContentSizes", spec := "contentSizes", inPlace := ["internal/bytealg.MakeNoZero"], unfollowed := true, recurses := true, apart := false, narrowed := true }
def ContentSizesUptoSaid : Prop := contentSizesUptoRow.holds Try.pinned (OpenSpec.upto contentSizesSpec)

/-- 'flagstonelaw09.ContentParts', WHERE WHAT IT READS IS OF BULK AT MOST 1048576: true; the input reads as it did. -/
def contentPartsUptoRow : OpenClaim := { program := "ytpeelfambaedkaa", sum := "fa80d7b3ae8d120ba5df625be4b68a7836c73241c2e45882e61cce64319be8b0", func := "flagstone/flagstonelaw09.ContentParts", spec := "contentParts", inPlace := ["internal/bytealg.MakeNoZero"], unfollowed := true, recurses := true, apart := false, narrowed := true }
def ContentPartsUptoSaid : Prop := contentPartsUptoRow.holds Try.pinned (OpenSpec.upto contentPartsSpec)

/-- 'flagstonelaw09.ContentRefuses', WHERE WHAT IT READS IS OF BULK AT MOST 1048576: true; the input reads as it did. -/
def contentRefusesUptoRow : OpenClaim := { program := "ytpeelfambaedkaa", sum := "fa80d7b3ae8d120ba5df625be4b68a7836c73241c2e45882e61cce64319be8b0", func := "flagstone/flagstonelaw09.ContentRefuses", spec := "contentRefuses", inPlace := ["internal/bytealg.MakeNoZero"], unfollowed := true, recurses := true, apart := false, narrowed := true }
def ContentRefusesUptoSaid : Prop := contentRefusesUptoRow.holds Try.pinned (OpenSpec.upto contentRefusesSpec)

end Rows
end Go.Proofs.Ytpeelfambaedkaa
