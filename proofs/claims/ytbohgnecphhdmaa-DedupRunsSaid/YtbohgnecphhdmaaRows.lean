/-
  No cell of these rows narrows 'for every input' (looked for: loops, veiled, ifaces, maps, wideKeys, modest, calm, conditions, laid).
  DERIVED. THE GIVEN ROWS OF THIS SEAT. 4 by the template 'for every input the law returns true; each argument reads behind the call as it read before'; 0 by the template 'total and deterministic' (their statements: YtbohgnecphhdmaaTotals.lean).
  GIVEN WITH THE SEED: the statements are not yours to turn. If you find one false, say at which input.
  Laid BY PROGRAM, IN A SANDBOX (cutbox-rows.mjs): the forced cells as the released guide's own fill.sh prints them over the translation c106c43262ef05ae… (all of the seat's roots in one cut). By AI agents, Wed Nov 11 2026. No macro, syntax, notation, axiom, sorry.
-/
import Derived.Test.YtbohgnecphhdmaaChecked
import GoSem.Claim
import GoSem.ClaimJoined
import GoSem.ClaimMapViews
import Derived.JoinedTies
import Derived.KernelRfl
namespace Go.Proofs.Ytbohgnecphhdmaa
/- THE CELL 'sum', in the pinned program and in every row, IS THE sha256 OF THE DUMP (.gsa) THAT YtbohgnecphhdmaaProg.lean LOADS. Nothing in Lean hashes anything: it is a label: what it is worth is what the hold of that sum in a sandbox is worth. -/
noncomputable def Try.pinned : Pinned := { name := "ytbohgnecphhdmaa", sum := "c106c43262ef05ae99675cd55f4c92e88ef7b04c7c8c3f40a5eb57da6a95d1d0", checked := Try.checked }
namespace Rows
def none {H : Type} : Left H := { results := [], args := [] }

/-- 'sextonlaw19.DedupDoes': WHATEVER THE INPUT: true; the input reads as it did. -/
def dedupDoesSpec : ChangeSpec := { name := "dedupDoes", fn := fun _ => fun
  | [d1, d2, d3, d4] => { results := [.lit (.bool true)], args := [d1, d2, d3, d4] }
  | _ => none }
def dedupDoesRow : OpenClaim := { program := "ytbohgnecphhdmaa", sum := "c106c43262ef05ae99675cd55f4c92e88ef7b04c7c8c3f40a5eb57da6a95d1d0", func := "sexton/sextonlaw19.DedupDoes", spec := "dedupDoes", inPlace := ["slices.overlaps[sexton/api.Seen]"], unfollowed := true, recurses := true, apart := false }
def DedupDoesSaid : Prop := dedupDoesRow.holds Try.pinned (OpenSpec.ofChange dedupDoesSpec)

/-- ITS FALSE NEIGHBOUR: 'it returns false'. Refute it at one input. -/
def dedupDoesWrong : ChangeSpec := { name := "dedupDoes", fn := fun _ => fun
  | [d1, d2, d3, d4] => { results := [.lit (.bool false)], args := [d1, d2, d3, d4] }
  | _ => none }
def DedupDoesWrongFalsely : Prop := dedupDoesRow.holds Try.pinned (OpenSpec.ofChange dedupDoesWrong)

/-- 'sextonlaw19.DedupAgain': WHATEVER THE INPUT: true; the input reads as it did. -/
def dedupAgainSpec : ChangeSpec := { name := "dedupAgain", fn := fun _ => fun
  | [d1, d2, d3, d4] => { results := [.lit (.bool true)], args := [d1, d2, d3, d4] }
  | _ => none }
def dedupAgainRow : OpenClaim := { program := "ytbohgnecphhdmaa", sum := "c106c43262ef05ae99675cd55f4c92e88ef7b04c7c8c3f40a5eb57da6a95d1d0", func := "sexton/sextonlaw19.DedupAgain", spec := "dedupAgain", inPlace := ["slices.overlaps[sexton/api.Seen]"], unfollowed := true, recurses := true, apart := false }
def DedupAgainSaid : Prop := dedupAgainRow.holds Try.pinned (OpenSpec.ofChange dedupAgainSpec)

/-- ITS FALSE NEIGHBOUR: 'it returns false'. Refute it at one input. -/
def dedupAgainWrong : ChangeSpec := { name := "dedupAgain", fn := fun _ => fun
  | [d1, d2, d3, d4] => { results := [.lit (.bool false)], args := [d1, d2, d3, d4] }
  | _ => none }
def DedupAgainWrongFalsely : Prop := dedupAgainRow.holds Try.pinned (OpenSpec.ofChange dedupAgainWrong)

/-- 'sextonlaw19.DedupRuns': WHATEVER THE INPUT: true; the input reads as it did. -/
def dedupRunsSpec : ChangeSpec := { name := "dedupRuns", fn := fun _ => fun
  | [d1, d2] => { results := [.lit (.bool true)], args := [d1, d2] }
  | _ => none }
def dedupRunsRow : OpenClaim := { program := "ytbohgnecphhdmaa", sum := "c106c43262ef05ae99675cd55f4c92e88ef7b04c7c8c3f40a5eb57da6a95d1d0", func := "sexton/sextonlaw19.DedupRuns", spec := "dedupRuns", inPlace := ["slices.overlaps[sexton/api.Seen]"], unfollowed := true, recurses := true, apart := false }
def DedupRunsSaid : Prop := dedupRunsRow.holds Try.pinned (OpenSpec.ofChange dedupRunsSpec)

/-- ITS FALSE NEIGHBOUR: 'it returns false'. Refute it at one input. -/
def dedupRunsWrong : ChangeSpec := { name := "dedupRuns", fn := fun _ => fun
  | [d1, d2] => { results := [.lit (.bool false)], args := [d1, d2] }
  | _ => none }
def DedupRunsWrongFalsely : Prop := dedupRunsRow.holds Try.pinned (OpenSpec.ofChange dedupRunsWrong)

/-- 'sextonlaw19.DedupOrder': WHATEVER THE INPUT: true; the input reads as it did. -/
def dedupOrderSpec : ChangeSpec := { name := "dedupOrder", fn := fun _ => fun
  | [d] => { results := [.lit (.bool true)], args := [d] }
  | _ => none }
def dedupOrderRow : OpenClaim := { program := "ytbohgnecphhdmaa", sum := "c106c43262ef05ae99675cd55f4c92e88ef7b04c7c8c3f40a5eb57da6a95d1d0", func := "sexton/sextonlaw19.DedupOrder", spec := "dedupOrder", inPlace := ["slices.overlaps[sexton/api.Seen]"], unfollowed := true, recurses := true, apart := false }
def DedupOrderSaid : Prop := dedupOrderRow.holds Try.pinned (OpenSpec.ofChange dedupOrderSpec)

/-- ITS FALSE NEIGHBOUR: 'it returns false'. Refute it at one input. -/
def dedupOrderWrong : ChangeSpec := { name := "dedupOrder", fn := fun _ => fun
  | [d] => { results := [.lit (.bool false)], args := [d] }
  | _ => none }
def DedupOrderWrongFalsely : Prop := dedupOrderRow.holds Try.pinned (OpenSpec.ofChange dedupOrderWrong)

/- THE SECOND FORM. 'bulk': how many values and letters a reading holds, each counted each time it is reached (what is shared counts as often as it is met; a slice's spare places count too). A statement '..UptoSaid' is the law's where the arguments, and the package variables that the reading takes, are together of bulk at most 1048576: NARROWER than '..Said'. Prove '..Said' where nothing that the law and all that it calls make is longer than what came in: it says more and counts as full. Else prove '..UptoSaid'. A law counts once. -/
mutual
def uptoBulk {H : Type} : DataW H → Nat
  | .lit (.string bytes) => bytes.length + 1
  | .lit _ => 1
  | .nil => 1
  | .ptr d => uptoBulk d + 1
  | .slice elems spare => uptoBulkAll elems + uptoBulkAll spare + 1
  | .agg parts => uptoBulkAll parts + 1
  | .iface _ d => uptoBulk d + 1
  | .map entries => uptoBulkEntries entries + 1
  | .held _ => 1
def uptoBulkAll {H : Type} : List (DataW H) → Nat
  | [] => 0
  | d :: r => uptoBulk d + uptoBulkAll r
def uptoBulkEntries {H : Type} : List (Lit × DataW H) → Nat
  | [] => 0
  | x :: r => uptoBulkEntry x + uptoBulkEntries r
def uptoBulkEntry {H : Type} : Lit × DataW H → Nat
  | (.string bytes, d) => bytes.length + uptoBulk d + 1
  | (_, d) => uptoBulk d + 1
 end
def uptoSmall : (H : Type) → List (DataW H) → Bool := fun _ ds => decide (uptoBulkAll ds ≤ 1048576)
def OpenSpec.upto (s : _root_.Go.ChangeSpec) : _root_.Go.OpenSpec := { _root_.Go.OpenSpec.ofChange s with cond := some uptoSmall }

/-- 'sextonlaw19.DedupDoes', WHERE WHAT IT READS IS OF BULK AT MOST 1048576: true; the input reads as it did. -/
def dedupDoesUptoRow : OpenClaim := { program := "ytbohgnecphhdmaa", sum := "c106c43262ef05ae99675cd55f4c92e88ef7b04c7c8c3f40a5eb57da6a95d1d0", func := "sexton/sextonlaw19.DedupDoes", spec := "dedupDoes", inPlace := ["slices.overlaps[sexton/api.Seen]"], unfollowed := true, recurses := true, apart := false, narrowed := true }
def DedupDoesUptoSaid : Prop := dedupDoesUptoRow.holds Try.pinned (OpenSpec.upto dedupDoesSpec)

/-- 'sextonlaw19.DedupAgain', WHERE WHAT IT READS IS OF BULK AT MOST 1048576: true; the input reads as it did. -/
def dedupAgainUptoRow : OpenClaim := { program := "ytbohgnecphhdmaa", sum := "c106c43262ef05ae99675cd55f4c92e88ef7b04c7c8c3f40a5eb57da6a95d1d0", func := "sexton/sextonlaw19.DedupAgain", spec := "dedupAgain", inPlace := ["slices.overlaps[sexton/api.Seen]"], unfollowed := true, recurses := true, apart := false, narrowed := true }
def DedupAgainUptoSaid : Prop := dedupAgainUptoRow.holds Try.pinned (OpenSpec.upto dedupAgainSpec)

/-- 'sextonlaw19.DedupRuns', WHERE WHAT IT READS IS OF BULK AT MOST 1048576: true; the input reads as it did. -/
def dedupRunsUptoRow : OpenClaim := { program := "ytbohgnecphhdmaa", sum := "c106c43262ef05ae99675cd55f4c92e88ef7b04c7c8c3f40a5eb57da6a95d1d0", func := "sexton/sextonlaw19.DedupRuns", spec := "dedupRuns", inPlace := ["slices.overlaps[sexton/api.Seen]"], unfollowed := true, recurses := true, apart := false, narrowed := true }
def DedupRunsUptoSaid : Prop := dedupRunsUptoRow.holds Try.pinned (OpenSpec.upto dedupRunsSpec)

/-- 'sextonlaw19.DedupOrder', WHERE WHAT IT READS IS OF BULK AT MOST 1048576: true; the input reads as it did. -/
def dedupOrderUptoRow : OpenClaim := { program := "ytbohgnecphhdmaa", sum := "c106c43262ef05ae99675cd55f4c92e88ef7b04c7c8c3f40a5eb57da6a95d1d0", func := "sexton/sextonlaw19.DedupOrder", spec := "dedupOrder", inPlace := ["slices.overlaps[sexton/api.Seen]"], unfollowed := true, recurses := true, apart := false, narrowed := true }
def DedupOrderUptoSaid : Prop := dedupOrderUptoRow.holds Try.pinned (OpenSpec.upto dedupOrderSpec)

end Rows
end Go.Proofs.Ytbohgnecphhdmaa
