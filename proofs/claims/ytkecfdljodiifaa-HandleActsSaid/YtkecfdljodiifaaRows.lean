/-
  No cell of these rows narrows 'for every input' (looked for: loops, veiled, ifaces, maps, wideKeys, modest, calm, conditions, laid).
  DERIVED. THE GIVEN ROWS OF THIS SEAT. 7 by the template 'for every input the law returns true; each argument reads behind the call as it read before'; 0 by the template 'total and deterministic' (their statements: YtkecfdljodiifaaTotals.lean).
  GIVEN WITH THE SEED: the statements are not yours to turn. If you find one false, say at which input.
  Laid BY PROGRAM, IN A SANDBOX (cutbox-rows.mjs): the forced cells as the released guide's own fill.sh prints them over the translation c5b53ef3bd1b7b33… (all of the seat's roots in one cut). By AI agents, Wed Nov 11 2026. No macro, syntax, notation, axiom, sorry.
-/
import Derived.Test.YtkecfdljodiifaaChecked
import GoSem.Claim
import GoSem.ClaimJoined
import GoSem.ClaimMapViews
import Derived.JoinedTies
import Derived.KernelRfl
namespace Go.Proofs.Ytkecfdljodiifaa
/- THE CELL 'sum', in the pinned program and in every row, IS THE sha256 OF THE DUMP (.gsa) THAT YtkecfdljodiifaaProg.lean LOADS. Nothing in Lean hashes anything: it is a label: what it is worth is what the hold of that sum in a sandbox is worth. -/
noncomputable def Try.pinned : Pinned := { name := "ytkecfdljodiifaa", sum := "c5b53ef3bd1b7b33f6b86bad18be331c012fbe02dbb67a0ddc81c94119bc4af0", checked := Try.checked }
namespace Rows
def none {H : Type} : Left H := { results := [], args := [] }

/-- 'flagstonelaw10.HandleRight': WHATEVER THE INPUT: true; the input reads as it did. -/
def handleRightSpec : ChangeSpec := { name := "handleRight", fn := fun _ => fun
  | [d1, d2] => { results := [.lit (.bool true)], args := [d1, d2] }
  | _ => none }
def handleRightRow : OpenClaim := { program := "ytkecfdljodiifaa", sum := "c5b53ef3bd1b7b33f6b86bad18be331c012fbe02dbb67a0ddc81c94119bc4af0", func := "flagstone/flagstonelaw10.HandleRight", spec := "handleRight", unfollowed := true, recurses := true, apart := false }
def HandleRightSaid : Prop := handleRightRow.holds Try.pinned (OpenSpec.ofChange handleRightSpec)

/-- ITS FALSE NEIGHBOUR: 'it returns false'. Refute it at one input. -/
def handleRightWrong : ChangeSpec := { name := "handleRight", fn := fun _ => fun
  | [d1, d2] => { results := [.lit (.bool false)], args := [d1, d2] }
  | _ => none }
def HandleRightWrongFalsely : Prop := handleRightRow.holds Try.pinned (OpenSpec.ofChange handleRightWrong)

/-- 'flagstonelaw10.HandleBack': WHATEVER THE INPUT: true; the input reads as it did. -/
def handleBackSpec : ChangeSpec := { name := "handleBack", fn := fun _ => fun
  | [d1, d2, d3, d4] => { results := [.lit (.bool true)], args := [d1, d2, d3, d4] }
  | _ => none }
def handleBackRow : OpenClaim := { program := "ytkecfdljodiifaa", sum := "c5b53ef3bd1b7b33f6b86bad18be331c012fbe02dbb67a0ddc81c94119bc4af0", func := "flagstone/flagstonelaw10.HandleBack", spec := "handleBack", unfollowed := true, recurses := true, apart := false }
def HandleBackSaid : Prop := handleBackRow.holds Try.pinned (OpenSpec.ofChange handleBackSpec)

/-- ITS FALSE NEIGHBOUR: 'it returns false'. Refute it at one input. -/
def handleBackWrong : ChangeSpec := { name := "handleBack", fn := fun _ => fun
  | [d1, d2, d3, d4] => { results := [.lit (.bool false)], args := [d1, d2, d3, d4] }
  | _ => none }
def HandleBackWrongFalsely : Prop := handleBackRow.holds Try.pinned (OpenSpec.ofChange handleBackWrong)

/-- 'flagstonelaw10.HandleFull': WHATEVER THE INPUT: true; the input reads as it did. -/
def handleFullSpec : ChangeSpec := { name := "handleFull", fn := fun _ => fun
  | [d1, d2, d3] => { results := [.lit (.bool true)], args := [d1, d2, d3] }
  | _ => none }
def handleFullRow : OpenClaim := { program := "ytkecfdljodiifaa", sum := "c5b53ef3bd1b7b33f6b86bad18be331c012fbe02dbb67a0ddc81c94119bc4af0", func := "flagstone/flagstonelaw10.HandleFull", spec := "handleFull", unfollowed := true, recurses := true, apart := false }
def HandleFullSaid : Prop := handleFullRow.holds Try.pinned (OpenSpec.ofChange handleFullSpec)

/-- ITS FALSE NEIGHBOUR: 'it returns false'. Refute it at one input. -/
def handleFullWrong : ChangeSpec := { name := "handleFull", fn := fun _ => fun
  | [d1, d2, d3] => { results := [.lit (.bool false)], args := [d1, d2, d3] }
  | _ => none }
def HandleFullWrongFalsely : Prop := handleFullRow.holds Try.pinned (OpenSpec.ofChange handleFullWrong)

/-- 'flagstonelaw10.HandleOther': WHATEVER THE INPUT: true; the input reads as it did. -/
def handleOtherSpec : ChangeSpec := { name := "handleOther", fn := fun _ => fun
  | [d1, d2, d3, d4, d5] => { results := [.lit (.bool true)], args := [d1, d2, d3, d4, d5] }
  | _ => none }
def handleOtherRow : OpenClaim := { program := "ytkecfdljodiifaa", sum := "c5b53ef3bd1b7b33f6b86bad18be331c012fbe02dbb67a0ddc81c94119bc4af0", func := "flagstone/flagstonelaw10.HandleOther", spec := "handleOther", unfollowed := true, recurses := true, apart := false }
def HandleOtherSaid : Prop := handleOtherRow.holds Try.pinned (OpenSpec.ofChange handleOtherSpec)

/-- ITS FALSE NEIGHBOUR: 'it returns false'. Refute it at one input. -/
def handleOtherWrong : ChangeSpec := { name := "handleOther", fn := fun _ => fun
  | [d1, d2, d3, d4, d5] => { results := [.lit (.bool false)], args := [d1, d2, d3, d4, d5] }
  | _ => none }
def HandleOtherWrongFalsely : Prop := handleOtherRow.holds Try.pinned (OpenSpec.ofChange handleOtherWrong)

/-- 'flagstonelaw10.HandleActs': WHATEVER THE INPUT: true; the input reads as it did. -/
def handleActsSpec : ChangeSpec := { name := "handleActs", fn := fun _ => fun
  | [d1, d2, d3, d4] => { results := [.lit (.bool true)], args := [d1, d2, d3, d4] }
  | _ => none }
def handleActsRow : OpenClaim := { program := "ytkecfdljodiifaa", sum := "c5b53ef3bd1b7b33f6b86bad18be331c012fbe02dbb67a0ddc81c94119bc4af0", func := "flagstone/flagstonelaw10.HandleActs", spec := "handleActs", unfollowed := true, recurses := true, apart := false }
def HandleActsSaid : Prop := handleActsRow.holds Try.pinned (OpenSpec.ofChange handleActsSpec)

/-- ITS FALSE NEIGHBOUR: 'it returns false'. Refute it at one input. -/
def handleActsWrong : ChangeSpec := { name := "handleActs", fn := fun _ => fun
  | [d1, d2, d3, d4] => { results := [.lit (.bool false)], args := [d1, d2, d3, d4] }
  | _ => none }
def HandleActsWrongFalsely : Prop := handleActsRow.holds Try.pinned (OpenSpec.ofChange handleActsWrong)

/-- 'flagstonelaw10.HandleStays': WHATEVER THE INPUT: true; the input reads as it did. -/
def handleStaysSpec : ChangeSpec := { name := "handleStays", fn := fun _ => fun
  | [d1, d2, d3, d4] => { results := [.lit (.bool true)], args := [d1, d2, d3, d4] }
  | _ => none }
def handleStaysRow : OpenClaim := { program := "ytkecfdljodiifaa", sum := "c5b53ef3bd1b7b33f6b86bad18be331c012fbe02dbb67a0ddc81c94119bc4af0", func := "flagstone/flagstonelaw10.HandleStays", spec := "handleStays", unfollowed := true, recurses := true, apart := false }
def HandleStaysSaid : Prop := handleStaysRow.holds Try.pinned (OpenSpec.ofChange handleStaysSpec)

/-- ITS FALSE NEIGHBOUR: 'it returns false'. Refute it at one input. -/
def handleStaysWrong : ChangeSpec := { name := "handleStays", fn := fun _ => fun
  | [d1, d2, d3, d4] => { results := [.lit (.bool false)], args := [d1, d2, d3, d4] }
  | _ => none }
def HandleStaysWrongFalsely : Prop := handleStaysRow.holds Try.pinned (OpenSpec.ofChange handleStaysWrong)

/-- 'flagstonelaw10.HandleSets': WHATEVER THE INPUT: true; the input reads as it did. -/
def handleSetsSpec : ChangeSpec := { name := "handleSets", fn := fun _ => fun
  | [d1, d2, d3] => { results := [.lit (.bool true)], args := [d1, d2, d3] }
  | _ => none }
def handleSetsRow : OpenClaim := { program := "ytkecfdljodiifaa", sum := "c5b53ef3bd1b7b33f6b86bad18be331c012fbe02dbb67a0ddc81c94119bc4af0", func := "flagstone/flagstonelaw10.HandleSets", spec := "handleSets", unfollowed := true, recurses := true, apart := false }
def HandleSetsSaid : Prop := handleSetsRow.holds Try.pinned (OpenSpec.ofChange handleSetsSpec)

/-- ITS FALSE NEIGHBOUR: 'it returns false'. Refute it at one input. -/
def handleSetsWrong : ChangeSpec := { name := "handleSets", fn := fun _ => fun
  | [d1, d2, d3] => { results := [.lit (.bool false)], args := [d1, d2, d3] }
  | _ => none }
def HandleSetsWrongFalsely : Prop := handleSetsRow.holds Try.pinned (OpenSpec.ofChange handleSetsWrong)

/- THE SECOND FORM. 'bulk': how many values and letters a reading holds, each counted each time it is reached (what is shared counts as often as it is met; a slice's spare places count too). A statement '..UptoSaid' is the law's where the arguments, and the package variables that the reading takes, are together of bulk at most 1048576: NARROWER than '..Said'. Prove '..Said' where nothing that the law and all that it calls make is longer than what came in: it says more and counts as full. Else prove '..UptoSaid'. A law counts once. -/
mutual
def uptoBulk {H : Type} : DataW H → Nat
  | .lit (.string bytes) => bytes.length + 1
  | .lit _ => 1
  | .nil => 1
  | .ptr d => uptoBulk d + 1
  | .slice elems spare => uptoBulkAll elems + uptoBulkAll spare + 1
  | .agg parts => uptoBulkAll parts + 1
  | .iface _ d => uptoBulk d + 1
  | .map entries => uptoBulkEntries entries + 1
  | .held _ => 1
def uptoBulkAll {H : Type} : List (DataW H) → Nat
  | [] => 0
  | d :: r => uptoBulk d + uptoBulkAll r
def uptoBulkEntries {H : Type} : List (Lit × DataW H) → Nat
  | [] => 0
  | x :: r => uptoBulkEntry x + uptoBulkEntries r
def uptoBulkEntry {H : Type} : Lit × DataW H → Nat
  | (.string bytes, d) => bytes.length + uptoBulk d + 1
  | (_, d) => uptoBulk d + 1
 end
def uptoSmall : (H : Type) → List (DataW H) → Bool := fun _ ds => decide (uptoBulkAll ds ≤ 1048576)
def OpenSpec.upto (s : _root_.Go.ChangeSpec) : _root_.Go.OpenSpec := { _root_.Go.OpenSpec.ofChange s with cond := some uptoSmall }

/-- 'flagstonelaw10.HandleRight', WHERE WHAT IT READS IS OF BULK AT MOST 1048576: true; the input reads as it did. -/
def handleRightUptoRow : OpenClaim := { program := "ytkecfdljodiifaa", sum := "c5b53ef3bd1b7b33f6b86bad18be331c012fbe02dbb67a0ddc81c94119bc4af0", func := "flagstone/flagstonelaw10.HandleRight", spec := "handleRight", unfollowed := true, recurses := true, apart := false, narrowed := true }
def HandleRightUptoSaid : Prop := handleRightUptoRow.holds Try.pinned (OpenSpec.upto handleRightSpec)

/-- 'flagstonelaw10.HandleBack', WHERE WHAT IT READS IS OF BULK AT MOST 1048576: true; the input reads as it did. -/
def handleBackUptoRow : OpenClaim := { program := "ytkecfdljodiifaa", sum := "c5b53ef3bd1b7b33f6b86bad18be331c012fbe02dbb67a0ddc81c94119bc4af0", func := "flagstone/flagstonelaw10.HandleBack", spec := "handleBack", unfollowed := true, recurses := true, apart := false, narrowed := true }
def HandleBackUptoSaid : Prop := handleBackUptoRow.holds Try.pinned (OpenSpec.upto handleBackSpec)

/-- 'flagstonelaw10.HandleFull', WHERE WHAT IT READS IS OF BULK AT MOST 1048576: true; the input reads as it did. -/
def handleFullUptoRow : OpenClaim := { program := "ytkecfdljodiifaa", sum := "c5b53ef3bd1b7b33f6b86bad18be331c012fbe02dbb67a0ddc81c94119bc4af0", func := "flagstone/flagstonelaw10.HandleFull", spec := "handleFull", unfollowed := true, recurses := true, apart := false, narrowed := true }
def HandleFullUptoSaid : Prop := handleFullUptoRow.holds Try.pinned (OpenSpec.upto handleFullSpec)

/-- 'flagstonelaw10.HandleOther', WHERE WHAT IT READS IS OF BULK AT MOST 1048576: true; the input reads as it did. -/
def handleOtherUptoRow : OpenClaim := { program := "ytkecfdljodiifaa", sum := "c5b53ef3bd1b7b33f6b86bad18be331c012fbe02dbb67a0ddc81c94119bc4af0", func := "flagstone/flagstonelaw10.HandleOther", spec := "handleOther", unfollowed := true, recurses := true, apart := false, narrowed := true }
def HandleOtherUptoSaid : Prop := handleOtherUptoRow.holds Try.pinned (OpenSpec.upto handleOtherSpec)

/-- 'flagstonelaw10.HandleActs', WHERE WHAT IT READS IS OF BULK AT MOST 1048576: true; the input reads as it did. -/
def handleActsUptoRow : OpenClaim := { program := "ytkecfdljodiifaa", sum := "c5b53ef3bd1b7b33f6b86bad18be331c012fbe02dbb67a0ddc81c94119bc4af0", func := "flagstone/flagstonelaw10.HandleActs", spec := "handleActs", unfollowed := true, recurses := true, apart := false, narrowed := true }
def HandleActsUptoSaid : Prop := handleActsUptoRow.holds Try.pinned (OpenSpec.upto handleActsSpec)

/-- 'flagstonelaw10.HandleStays', WHERE WHAT IT READS IS OF BULK AT MOST 1048576: true; the input reads as it did. -/
def handleStaysUptoRow : OpenClaim := { program := "ytkecfdljodiifaa", sum := "c5b53ef3bd1b7b33f6b86bad18be331c012fbe02dbb67a0ddc81c94119bc4af0", func := "flagstone/flagstonelaw10.HandleStays", spec := "handleStays", unfollowed := true, recurses := true, apart := false, narrowed := true }
def HandleStaysUptoSaid : Prop := handleStaysUptoRow.holds Try.pinned (OpenSpec.upto handleStaysSpec)

/-- 'flagstonelaw10.HandleSets', WHERE WHAT IT READS IS OF BULK AT MOST 1048576: true; the input reads as it did. -/
def handleSetsUptoRow : OpenClaim := { program := "ytkecfdljodiifaa", sum := "c5b53ef3bd1b7b33f6b86bad18be331c012fbe02dbb67a0ddc81c94119bc4af0", func := "flagstone/flagstonelaw10.HandleSets", spec := "handleSets", unfollowed := true, recurses := true, apart := false, narrowed := true }
def HandleSetsUptoSaid : Prop := handleSetsUptoRow.holds Try.pinned (OpenSpec.upto handleSetsSpec)

end Rows
end Go.Proofs.Ytkecfdljodiifaa
