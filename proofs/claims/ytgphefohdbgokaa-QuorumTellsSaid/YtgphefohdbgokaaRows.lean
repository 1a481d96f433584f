/-
  No cell of these rows narrows 'for every input' (looked for: loops, veiled, ifaces, maps, wideKeys, modest, calm, conditions, laid).
  DERIVED. THE GIVEN ROWS OF THIS SEAT. 5 by the template 'for every input the law returns true; each argument reads behind the call as it read before'; 0 by the template 'total and deterministic' (their statements: YtgphefohdbgokaaTotals.lean).
  GIVEN WITH THE SEED: the statements are not yours to turn. If you find one false, say at which input.
  Laid BY PROGRAM, IN A SANDBOX (cutbox-rows.mjs): the forced cells as the released guide's own fill.sh prints them over the translation 5e4202d1392d3724… (all of the seat's roots in one cut). By AI agents, Wed Nov 11 2026. No macro, syntax, notation, axiom, sorry.
-/
import Derived.Test.YtgphefohdbgokaaChecked
import GoSem.Claim
import GoSem.ClaimJoined
import GoSem.ClaimMapViews
import Derived.JoinedTies
import Derived.KernelRfl
namespace Go.Proofs.Ytgphefohdbgokaa
/- THE CELL 'sum', in the pinned program and in every row, IS THE sha256 OF THE DUMP (.gsa) THAT YtgphefohdbgokaaProg.lean LOADS. Nothing in Lean hashes anything: it is a label: what it is worth is what the hold of that sum in a sandbox is worth. -/
noncomputable def Try.pinned : Pinned := { name := "ytgphefohdbgokaa", sum := "5e4202d1392d3724d7e458975460668ec38381cf7ccd3cf56119974ba922742d", checked := Try.checked }
namespace Rows
def none {H : Type} : Left H := { results := [], args := [] }

/-- 'sextonlaw22.QuorumFront': WHATEVER THE INPUT: true; the input reads as it did. -/
def quorumFrontSpec : ChangeSpec := { name := "quorumFront", fn := fun _ => fun
  | [d1, d2, d3] => { results := [.lit (.bool true)], args := [d1, d2, d3] }
  | _ => none }
def quorumFrontRow : OpenClaim := { program := "ytgphefohdbgokaa", sum := "5e4202d1392d3724d7e458975460668ec38381cf7ccd3cf56119974ba922742d", func := "sexton/sextonlaw22.QuorumFront", spec := "quorumFront", unfollowed := true, recurses := true, apart := false }
def QuorumFrontSaid : Prop := quorumFrontRow.holds Try.pinned (OpenSpec.ofChange quorumFrontSpec)

/-- ITS FALSE NEIGHBOUR: 'it returns false'. Refute it at one input. -/
def quorumFrontWrong : ChangeSpec := { name := "quorumFront", fn := fun _ => fun
  | [d1, d2, d3] => { results := [.lit (.bool false)], args := [d1, d2, d3] }
  | _ => none }
def QuorumFrontWrongFalsely : Prop := quorumFrontRow.holds Try.pinned (OpenSpec.ofChange quorumFrontWrong)

/-- 'sextonlaw22.QuorumBest': WHATEVER THE INPUT: true; the input reads as it did. -/
def quorumBestSpec : ChangeSpec := { name := "quorumBest", fn := fun _ => fun
  | [d] => { results := [.lit (.bool true)], args := [d] }
  | _ => none }
def quorumBestRow : OpenClaim := { program := "ytgphefohdbgokaa", sum := "5e4202d1392d3724d7e458975460668ec38381cf7ccd3cf56119974ba922742d", func := "sexton/sextonlaw22.QuorumBest", spec := "quorumBest", unfollowed := true, recurses := true, apart := false }
def QuorumBestSaid : Prop := quorumBestRow.holds Try.pinned (OpenSpec.ofChange quorumBestSpec)

/-- ITS FALSE NEIGHBOUR: 'it returns false'. Refute it at one input. -/
def quorumBestWrong : ChangeSpec := { name := "quorumBest", fn := fun _ => fun
  | [d] => { results := [.lit (.bool false)], args := [d] }
  | _ => none }
def QuorumBestWrongFalsely : Prop := quorumBestRow.holds Try.pinned (OpenSpec.ofChange quorumBestWrong)

/-- 'sextonlaw22.QuorumCommit': WHATEVER THE INPUT: true; the input reads as it did. -/
def quorumCommitSpec : ChangeSpec := { name := "quorumCommit", fn := fun _ => fun
  | [d1, d2, d3] => { results := [.lit (.bool true)], args := [d1, d2, d3] }
  | _ => none }
def quorumCommitRow : OpenClaim := { program := "ytgphefohdbgokaa", sum := "5e4202d1392d3724d7e458975460668ec38381cf7ccd3cf56119974ba922742d", func := "sexton/sextonlaw22.QuorumCommit", spec := "quorumCommit", unfollowed := true, recurses := true, apart := false }
def QuorumCommitSaid : Prop := quorumCommitRow.holds Try.pinned (OpenSpec.ofChange quorumCommitSpec)

/-- ITS FALSE NEIGHBOUR: 'it returns false'. Refute it at one input. -/
def quorumCommitWrong : ChangeSpec := { name := "quorumCommit", fn := fun _ => fun
  | [d1, d2, d3] => { results := [.lit (.bool false)], args := [d1, d2, d3] }
  | _ => none }
def QuorumCommitWrongFalsely : Prop := quorumCommitRow.holds Try.pinned (OpenSpec.ofChange quorumCommitWrong)

/-- 'sextonlaw22.QuorumMeet': WHATEVER THE INPUT: true; the input reads as it did. -/
def quorumMeetSpec : ChangeSpec := { name := "quorumMeet", fn := fun _ => fun
  | [d1, d2, d3] => { results := [.lit (.bool true)], args := [d1, d2, d3] }
  | _ => none }
def quorumMeetRow : OpenClaim := { program := "ytgphefohdbgokaa", sum := "5e4202d1392d3724d7e458975460668ec38381cf7ccd3cf56119974ba922742d", func := "sexton/sextonlaw22.QuorumMeet", spec := "quorumMeet", unfollowed := true, recurses := true, apart := false }
def QuorumMeetSaid : Prop := quorumMeetRow.holds Try.pinned (OpenSpec.ofChange quorumMeetSpec)

/-- ITS FALSE NEIGHBOUR: 'it returns false'. Refute it at one input. -/
def quorumMeetWrong : ChangeSpec := { name := "quorumMeet", fn := fun _ => fun
  | [d1, d2, d3] => { results := [.lit (.bool false)], args := [d1, d2, d3] }
  | _ => none }
def QuorumMeetWrongFalsely : Prop := quorumMeetRow.holds Try.pinned (OpenSpec.ofChange quorumMeetWrong)

/-- 'sextonlaw22.QuorumTells': WHATEVER THE INPUT: true; the input reads as it did. -/
def quorumTellsSpec : ChangeSpec := { name := "quorumTells", fn := fun _ => fun
  | [d1, d2, d3, d4, d5] => { results := [.lit (.bool true)], args := [d1, d2, d3, d4, d5] }
  | _ => none }
def quorumTellsRow : OpenClaim := { program := "ytgphefohdbgokaa", sum := "5e4202d1392d3724d7e458975460668ec38381cf7ccd3cf56119974ba922742d", func := "sexton/sextonlaw22.QuorumTells", spec := "quorumTells", unfollowed := true, recurses := true, apart := false }
def QuorumTellsSaid : Prop := quorumTellsRow.holds Try.pinned (OpenSpec.ofChange quorumTellsSpec)

/-- ITS FALSE NEIGHBOUR: 'it returns false'. Refute it at one input. -/
def quorumTellsWrong : ChangeSpec := { name := "quorumTells", fn := fun _ => fun
  | [d1, d2, d3, d4, d5] => { results := [.lit (.bool false)], args := [d1, d2, d3, d4, d5] }
  | _ => none }
def QuorumTellsWrongFalsely : Prop := quorumTellsRow.holds Try.pinned (OpenSpec.ofChange quorumTellsWrong)

/- THE SECOND FORM. 'bulk': how many values and letters a reading holds, each counted each time it is reached (what is shared counts as often as it is met; a slice's spare places count too). A statement '..UptoSaid' is the law's where the arguments, and the package variables that the reading takes, are together of bulk at most 1048576: NARROWER than '..Said'. Prove '..Said' where nothing that the law and all that it calls make is longer than what came in: it says more and counts as full. Else prove '..UptoSaid'. A law counts once. -/
mutual
def uptoBulk {H : Type} : DataW H → Nat
  | .lit (.string bytes) => bytes.length + 1
  | .lit _ => 1
  | .nil => 1
  | .ptr d => uptoBulk d + 1
  | .slice elems spare => uptoBulkAll elems + uptoBulkAll spare + 1
  | .agg parts => uptoBulkAll parts + 1
  | .iface _ d => uptoBulk d + 1
  | .map entries => uptoBulkEntries entries + 1
  | .held _ => 1
def uptoBulkAll {H : Type} : List (DataW H) → Nat
  | [] => 0
  | d :: r => uptoBulk d + uptoBulkAll r
def uptoBulkEntries {H : Type} : List (Lit × DataW H) → Nat
  | [] => 0
  | x :: r => uptoBulkEntry x + uptoBulkEntries r
def uptoBulkEntry {H : Type} : Lit × DataW H → Nat
  | (.string bytes, d) => bytes.length + uptoBulk d + 1
  | (_, d) => uptoBulk d + 1
 end
def uptoSmall : (H : Type) → List (DataW H) → Bool := fun _ ds => decide (uptoBulkAll ds ≤ 1048576)
def OpenSpec.upto (s : _root_.Go.ChangeSpec) : _root_.Go.OpenSpec := { _root_.Go.OpenSpec.ofChange s with cond := some uptoSmall }

/-- 'sextonlaw22.QuorumFront', WHERE WHAT IT READS IS OF BULK AT MOST 1048576: true; the input reads as it did. -/
def quorumFrontUptoRow : OpenClaim := { program := "ytgphefohdbgokaa", sum := "5e4202d1392d3724d7e458975460668ec38381cf7ccd3cf56119974ba922742d", func := "sexton/sextonlaw22.QuorumFront", spec := "quorumFront", unfollowed := true, recurses := true, apart := false, narrowed := true }
def QuorumFrontUptoSaid : Prop := quorumFrontUptoRow.holds Try.pinned (OpenSpec.upto quorumFrontSpec)

/-- 'sextonlaw22.QuorumBest', WHERE WHAT IT READS IS OF BULK AT MOST 1048576: true; the input reads as it did. -/
def quorumBestUptoRow : OpenClaim := { program := "ytgphefohdbgokaa", sum := "5e4202d1392d3724d7e458975460668ec38381cf7ccd3cf56119974ba922742d", func := "sexton/sextonlaw22.QuorumBest", spec := "quorumBest", unfollowed := true, recurses := true, apart := false, narrowed := true }
def QuorumBestUptoSaid : Prop := quorumBestUptoRow.holds Try.pinned (OpenSpec.upto quorumBestSpec)

/-- 'sextonlaw22.QuorumCommit', WHERE WHAT IT READS IS OF BULK AT MOST 1048576: true; the input reads as it did. -/
def quorumCommitUptoRow : OpenClaim := { program := "ytgphefohdbgokaa", sum := "5e4202d1392d3724d7e458975460668ec38381cf7ccd3cf56119974ba922742d", func := "sexton/sextonlaw22.QuorumCommit", spec := "quorumCommit", unfollowed := true, recurses := true, apart := false, narrowed := true }
def QuorumCommitUptoSaid : Prop := quorumCommitUptoRow.holds Try.pinned (OpenSpec.upto quorumCommitSpec)

/-- 'sextonlaw22.QuorumMeet', WHERE WHAT IT READS IS OF BULK AT MOST 1048576: true; the input reads as it did. -/
def quorumMeetUptoRow : OpenClaim := { program := "ytgphefohdbgokaa", sum := "5e4202d1392d3724d7e458975460668ec38381cf7ccd3cf56119974ba922742d", func := "sexton/sextonlaw22.QuorumMeet", spec := "quorumMeet", unfollowed := true, recurses := true, apart := false, narrowed := true }
def QuorumMeetUptoSaid : Prop := quorumMeetUptoRow.holds Try.pinned (OpenSpec.upto quorumMeetSpec)

/-- 'sextonlaw22.QuorumTells', WHERE WHAT IT READS IS OF BULK AT MOST 1048576: true; the input reads as it did. -/
def quorumTellsUptoRow : OpenClaim := { program := "ytgphefohdbgokaa", sum := "5e4202d1392d3724d7e458975460668ec38381cf7ccd3cf56119974ba922742d", func := "sexton/sextonlaw22.QuorumTells", spec := "quorumTells", unfollowed := true, recurses := true, apart := false, narrowed := true }
def QuorumTellsUptoSaid : Prop := quorumTellsUptoRow.holds Try.pinned (OpenSpec.upto quorumTellsSpec)

end Rows
end Go.Proofs.Ytgphefohdbgokaa
