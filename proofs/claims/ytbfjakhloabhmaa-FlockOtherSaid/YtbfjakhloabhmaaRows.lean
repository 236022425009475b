/-
  No cell of these rows narrows 'for every input' (looked for: loops, veiled, ifaces, maps, wideKeys, modest, calm, conditions, laid).
  DERIVED. THE GIVEN ROWS OF THIS SEAT. 6 by the template 'for every input the law returns true; each argument reads behind the call as it read before'; 0 by the template 'total and deterministic' (their statements: YtbfjakhloabhmaaTotals.lean).
  GIVEN WITH THE SEED: the statements are not yours to turn. If you find one false, say at which input.
  Laid BY PROGRAM, IN A SANDBOX (cutbox-rows.mjs): the forced cells as the released guide's own fill.sh prints them over the translation 1da14b0c4281d27f… (all of the seat's roots in one cut). By AI agents, Wed Nov 11 2026. No macro, syntax, notation, axiom, sorry.
-/
import Derived.Test.YtbfjakhloabhmaaChecked
import GoSem.Claim
import GoSem.ClaimJoined
import GoSem.ClaimMapViews
import Derived.JoinedTies
import Derived.KernelRfl
namespace Go.Proofs.Ytbfjakhloabhmaa
/- THE CELL 'sum', in the pinned program and in every row, IS THE sha256 OF THE DUMP (.gsa) THAT YtbfjakhloabhmaaProg.lean LOADS. Nothing in Lean hashes anything: it is a label: what it is worth is what the hold of that sum in a sandbox is worth. -/
noncomputable def Try.pinned : Pinned := { name := "ytbfjakhloabhmaa", sum := "1da14b0c4281d27f762a69a749b92e85e41b229f53ec0fab88fc19c2ce5c3854", checked := Try.checked }
namespace Rows
def none {H : Type} : Left H := { results := [], args := [] }

/-- 'flagstonelaw11.FlockLocks': WHATEVER THE INPUT: true; the input reads as it did. -/
def flockLocksSpec : ChangeSpec := { name := "flockLocks", fn := fun _ => fun
  | [d1, d2, d3, d4] => { results := [.lit (.bool true)], args := [d1, d2, d3, d4] }
  | _ => none }
def flockLocksRow : OpenClaim := { program := "ytbfjakhloabhmaa", sum := "1da14b0c4281d27f762a69a749b92e85e41b229f53ec0fab88fc19c2ce5c3854", func := "flagstone/flagstonelaw11.FlockLocks", spec := "flockLocks", unfollowed := true, recurses := true, apart := false }
def FlockLocksSaid : Prop := flockLocksRow.holds Try.pinned (OpenSpec.ofChange flockLocksSpec)

/-- ITS FALSE NEIGHBOUR: 'it returns false'. Refute it at one input. -/
def flockLocksWrong : ChangeSpec := { name := "flockLocks", fn := fun _ => fun
  | [d1, d2, d3, d4] => { results := [.lit (.bool false)], args := [d1, d2, d3, d4] }
  | _ => none }
def FlockLocksWrongFalsely : Prop := flockLocksRow.holds Try.pinned (OpenSpec.ofChange flockLocksWrong)

/-- 'flagstonelaw11.FlockFair': WHATEVER THE INPUT: true; the input reads as it did. -/
def flockFairSpec : ChangeSpec := { name := "flockFair", fn := fun _ => fun
  | [d1, d2, d3] => { results := [.lit (.bool true)], args := [d1, d2, d3] }
  | _ => none }
def flockFairRow : OpenClaim := { program := "ytbfjakhloabhmaa", sum := "1da14b0c4281d27f762a69a749b92e85e41b229f53ec0fab88fc19c2ce5c3854", func := "flagstone/flagstonelaw11.FlockFair", spec := "flockFair", unfollowed := true, recurses := true, apart := false }
def FlockFairSaid : Prop := flockFairRow.holds Try.pinned (OpenSpec.ofChange flockFairSpec)

/-- ITS FALSE NEIGHBOUR: 'it returns false'. Refute it at one input. -/
def flockFairWrong : ChangeSpec := { name := "flockFair", fn := fun _ => fun
  | [d1, d2, d3] => { results := [.lit (.bool false)], args := [d1, d2, d3] }
  | _ => none }
def FlockFairWrongFalsely : Prop := flockFairRow.holds Try.pinned (OpenSpec.ofChange flockFairWrong)

/-- 'flagstonelaw11.FlockLets': WHATEVER THE INPUT: true; the input reads as it did. -/
def flockLetsSpec : ChangeSpec := { name := "flockLets", fn := fun _ => fun
  | [d1, d2, d3] => { results := [.lit (.bool true)], args := [d1, d2, d3] }
  | _ => none }
def flockLetsRow : OpenClaim := { program := "ytbfjakhloabhmaa", sum := "1da14b0c4281d27f762a69a749b92e85e41b229f53ec0fab88fc19c2ce5c3854", func := "flagstone/flagstonelaw11.FlockLets", spec := "flockLets", unfollowed := true, recurses := true, apart := false }
def FlockLetsSaid : Prop := flockLetsRow.holds Try.pinned (OpenSpec.ofChange flockLetsSpec)

/-- ITS FALSE NEIGHBOUR: 'it returns false'. Refute it at one input. -/
def flockLetsWrong : ChangeSpec := { name := "flockLets", fn := fun _ => fun
  | [d1, d2, d3] => { results := [.lit (.bool false)], args := [d1, d2, d3] }
  | _ => none }
def FlockLetsWrongFalsely : Prop := flockLetsRow.holds Try.pinned (OpenSpec.ofChange flockLetsWrong)

/-- 'flagstonelaw11.FlockOther': WHATEVER THE INPUT: true; the input reads as it did. -/
def flockOtherSpec : ChangeSpec := { name := "flockOther", fn := fun _ => fun
  | [d1, d2, d3, d4, d5] => { results := [.lit (.bool true)], args := [d1, d2, d3, d4, d5] }
  | _ => none }
def flockOtherRow : OpenClaim := { program := "ytbfjakhloabhmaa", sum := "1da14b0c4281d27f762a69a749b92e85e41b229f53ec0fab88fc19c2ce5c3854", func := "flagstone/flagstonelaw11.FlockOther", spec := "flockOther", unfollowed := true, recurses := true, apart := false }
def FlockOtherSaid : Prop := flockOtherRow.holds Try.pinned (OpenSpec.ofChange flockOtherSpec)

/-- ITS FALSE NEIGHBOUR: 'it returns false'. Refute it at one input. -/
def flockOtherWrong : ChangeSpec := { name := "flockOther", fn := fun _ => fun
  | [d1, d2, d3, d4, d5] => { results := [.lit (.bool false)], args := [d1, d2, d3, d4, d5] }
  | _ => none }
def FlockOtherWrongFalsely : Prop := flockOtherRow.holds Try.pinned (OpenSpec.ofChange flockOtherWrong)

/-- 'flagstonelaw11.FlockShares': WHATEVER THE INPUT: true; the input reads as it did. -/
def flockSharesSpec : ChangeSpec := { name := "flockShares", fn := fun _ => fun
  | [d1, d2] => { results := [.lit (.bool true)], args := [d1, d2] }
  | _ => none }
def flockSharesRow : OpenClaim := { program := "ytbfjakhloabhmaa", sum := "1da14b0c4281d27f762a69a749b92e85e41b229f53ec0fab88fc19c2ce5c3854", func := "flagstone/flagstonelaw11.FlockShares", spec := "flockShares", unfollowed := true, recurses := true, apart := false }
def FlockSharesSaid : Prop := flockSharesRow.holds Try.pinned (OpenSpec.ofChange flockSharesSpec)

/-- ITS FALSE NEIGHBOUR: 'it returns false'. Refute it at one input. -/
def flockSharesWrong : ChangeSpec := { name := "flockShares", fn := fun _ => fun
  | [d1, d2] => { results := [.lit (.bool false)], args := [d1, d2] }
  | _ => none }
def FlockSharesWrongFalsely : Prop := flockSharesRow.holds Try.pinned (OpenSpec.ofChange flockSharesWrong)

/-- 'flagstonelaw11.FlockKeeps': WHATEVER THE INPUT: true; the input reads as it did. -/
def flockKeepsSpec : ChangeSpec := { name := "flockKeeps", fn := fun _ => fun
  | [d1, d2, d3] => { results := [.lit (.bool true)], args := [d1, d2, d3] }
  | _ => none }
def flockKeepsRow : OpenClaim := { program := "ytbfjakhloabhmaa", sum := "1da14b0c4281d27f762a69a749b92e85e41b229f53ec0fab88fc19c2ce5c3854", func := "flagstone/flagstonelaw11.FlockKeeps", spec := "flockKeeps", unfollowed := true, recurses := true, apart := false }
def FlockKeepsSaid : Prop := flockKeepsRow.holds Try.pinned (OpenSpec.ofChange flockKeepsSpec)

/-- ITS FALSE NEIGHBOUR: 'it returns false'. Refute it at one input. -/
def flockKeepsWrong : ChangeSpec := { name := "flockKeeps", fn := fun _ => fun
  | [d1, d2, d3] => { results := [.lit (.bool false)], args := [d1, d2, d3] }
  | _ => none }
def FlockKeepsWrongFalsely : Prop := flockKeepsRow.holds Try.pinned (OpenSpec.ofChange flockKeepsWrong)

/- THE SECOND FORM. 'bulk': how many values and letters a reading holds, each counted each time it is reached (what is shared counts as often as it is met; a slice's spare places count too). A statement '..UptoSaid' is the law's where the arguments, and the package variables that the reading takes, are together of bulk at most 1048576: NARROWER than '..Said'. Prove '..Said' where nothing that the law and all that it calls make is longer than what came in: it says more and counts as full. Else prove '..UptoSaid'. A law counts once. -/
mutual
def uptoBulk {H : Type} : DataW H → Nat
  | .lit (.string bytes) => bytes.length + 1
  | .lit _ => 1
  | .nil => 1
  | .ptr d => uptoBulk d + 1
  | .slice elems spare => uptoBulkAll elems + uptoBulkAll spare + 1
  | .agg parts => uptoBulkAll parts + 1
  | .iface _ d => uptoBulk d + 1
  | .map entries => uptoBulkEntries entries + 1
  | .held _ => 1
def uptoBulkAll {H : Type} : List (DataW H) → Nat
  | [] => 0
  | d :: r => uptoBulk d + uptoBulkAll r
def uptoBulkEntries {H : Type} : List (Lit × DataW H) → Nat
  | [] => 0
  | x :: r => uptoBulkEntry x + uptoBulkEntries r
def uptoBulkEntry {H : Type} : Lit × DataW H → Nat
  | (.string bytes, d) => bytes.length + uptoBulk d + 1
  | (_, d) => uptoBulk d + 1
 end
def uptoSmall : (H : Type) → List (DataW H) → Bool := fun _ ds => decide (uptoBulkAll ds ≤ 1048576)
def OpenSpec.upto (s : _root_.Go.ChangeSpec) : _root_.Go.OpenSpec := { _root_.Go.OpenSpec.ofChange s with cond := some uptoSmall }

/-- 'flagstonelaw11.FlockLocks', WHERE WHAT IT READS IS OF BULK AT MOST 1048576: true; the input reads as it did. -/
def flockLocksUptoRow : OpenClaim := { program := "ytbfjakhloabhmaa", sum := "1da14b0c4281d27f762a69a749b92e85e41b229f53ec0fab88fc19c2ce5c3854", func := "flagstone/flagstonelaw11.FlockLocks", spec := "flockLocks", unfollowed := true, recurses := true, apart := false, narrowed := true }
def FlockLocksUptoSaid : Prop := flockLocksUptoRow.holds Try.pinned (OpenSpec.upto flockLocksSpec)

/-- 'flagstonelaw11.FlockFair', WHERE WHAT IT READS IS OF BULK AT MOST 1048576: true; the input reads as it did. -/
def flockFairUptoRow : OpenClaim := { program := "ytbfjakhloabhmaa", sum := "1da14b0c4281d27f762a69a749b92e85e41b229f53ec0fab88fc19c2ce5c3854", func := "flagstone/flagstonelaw11.FlockFair", spec := "flockFair", unfollowed := true, recurses := true, apart := false, narrowed := true }
def FlockFairUptoSaid : Prop := flockFairUptoRow.holds Try.pinned (OpenSpec.upto flockFairSpec)

/-- 'flagstonelaw11.FlockLets', WHERE WHAT IT READS IS OF BULK AT MOST 1048576: true; the input reads as it did. -/
def flockLetsUptoRow : OpenClaim := { program := "ytbfjakhloabhmaa", sum := "1da14b0c4281d27f762a69a749b92e85e41b229f53ec0fab88fc19c2ce5c3854", func := "flagstone/flagstonelaw11.FlockLets", spec := "flockLets", unfollowed := true, recurses := true, apart := false, narrowed := true }
def FlockLetsUptoSaid : Prop := flockLetsUptoRow.holds Try.pinned (OpenSpec.upto flockLetsSpec)

/-- 'flagstonelaw11.FlockOther', WHERE WHAT IT READS IS OF BULK AT MOST 1048576: true; the input reads as it did. -/
def flockOtherUptoRow : OpenClaim := { program := "ytbfjakhloabhmaa", sum := "1da14b0c4281d27f762a69a749b92e85e41b229f53ec0fab88fc19c2ce5c3854", func := "flagstone/flagstonelaw11.FlockOther", spec := "flockOther", unfollowed := true, recurses := true, apart := false, narrowed := true }
def FlockOtherUptoSaid : Prop := flockOtherUptoRow.holds Try.pinned (OpenSpec.upto flockOtherSpec)

/-- 'flagstonelaw11.FlockShares', WHERE WHAT IT READS IS OF BULK AT MOST 1048576: true; the input reads as it did. -/
def flockSharesUptoRow : OpenClaim := { program := "ytbfjakhloabhmaa", sum := "1da14b0c4281d27f762a69a749b92e85e41b229f53ec0fab88fc19c2ce5c3854", func := "flagstone/flagstonelaw11.FlockShares", spec := "flockShares", unfollowed := true, recurses := true, apart := false, narrowed := true }
def FlockSharesUptoSaid : Prop := flockSharesUptoRow.holds Try.pinned (OpenSpec.upto flockSharesSpec)

/-- 'flagstonelaw11.FlockKeeps', WHERE WHAT IT READS IS OF BULK AT MOST 1048576: true; the input reads as it did. -/
def flockKeepsUptoRow : OpenClaim := { program := "ytbfjakhloabhmaa", sum := "1da14b0c4281d27f762a69a749b92e85e41b229f53ec0fab88fc19c2ce5c3854", func := "flagstone/flagstonelaw11.FlockKeeps", spec := "flockKeeps", unfollowed := true, recurses := true, apart := false, narrowed := true }
def FlockKeepsUptoSaid : Prop := flockKeepsUptoRow.holds Try.pinned (OpenSpec.upto flockKeepsSpec)

end Rows
end Go.Proofs.Ytbfjakhloabhmaa
