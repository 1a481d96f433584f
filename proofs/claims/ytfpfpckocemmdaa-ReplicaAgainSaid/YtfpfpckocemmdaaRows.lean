/-
  No cell of these rows narrows 'for every input' (looked for: loops, veiled, ifaces, maps, wideKeys, modest, calm, conditions, laid).
  DERIVED. THE GIVEN ROWS OF THIS SEAT. 4 by the template 'for every input the law returns true; each argument reads behind the call as it read before'; 0 by the template 'total and deterministic' (their statements: YtfpfpckocemmdaaTotals.lean).
  GIVEN WITH THE SEED: the statements are not yours to turn. If you find one false, say at which input.
  Laid BY PROGRAM, IN A SANDBOX (cutbox-rows.mjs): the forced cells as the released guide's own fill.sh prints them over the translation 76b28aad56734cb4… (all of the seat's roots in one cut). By AI agents, Wed Nov 11 2026. No macro, syntax, notation, axiom, sorry.
-/
import Derived.Test.YtfpfpckocemmdaaChecked
import GoSem.Claim
import GoSem.ClaimJoined
import GoSem.ClaimMapViews
import Derived.JoinedTies
import Derived.KernelRfl
namespace Go.Proofs.Ytfpfpckocemmdaa
/- THE CELL 'sum', in the pinned program and in every row, IS THE sha256 OF THE DUMP (.gsa) THAT YtfpfpckocemmdaaProg.lean LOADS. Nothing in Lean hashes anything: it is a label: what it is worth is what the hold of that sum in a sandbox is worth. -/
noncomputable def Try.pinned : Pinned := { name := "ytfpfpckocemmdaa", sum := "76b28aad56734cb4bccb62fec99d0e13e0bea789b5bdf0796f20ef5cee966659", checked := Try.checked }
namespace Rows
def none {H : Type} : Left H := { results := [], args := [] }

/-- 'sextonlaw24.ReplicaOld': WHATEVER THE INPUT: true; the input reads as it did. -/
def replicaOldSpec : ChangeSpec := { name := "replicaOld", fn := fun _ => fun
  | [d1, d2] => { results := [.lit (.bool true)], args := [d1, d2] }
  | _ => none }
def replicaOldRow : OpenClaim := { program := "ytfpfpckocemmdaa", sum := "76b28aad56734cb4bccb62fec99d0e13e0bea789b5bdf0796f20ef5cee966659", func := "sexton/sextonlaw24.ReplicaOld", spec := "replicaOld", unfollowed := true, recurses := true, apart := false }
def ReplicaOldSaid : Prop := replicaOldRow.holds Try.pinned (OpenSpec.ofChange replicaOldSpec)

/-- ITS FALSE NEIGHBOUR: 'it returns false'. Refute it at one input. -/
def replicaOldWrong : ChangeSpec := { name := "replicaOld", fn := fun _ => fun
  | [d1, d2] => { results := [.lit (.bool false)], args := [d1, d2] }
  | _ => none }
def ReplicaOldWrongFalsely : Prop := replicaOldRow.holds Try.pinned (OpenSpec.ofChange replicaOldWrong)

/-- 'sextonlaw24.ReplicaAlone': WHATEVER THE INPUT: true; the input reads as it did. -/
def replicaAloneSpec : ChangeSpec := { name := "replicaAlone", fn := fun _ => fun
  | [d1, d2] => { results := [.lit (.bool true)], args := [d1, d2] }
  | _ => none }
def replicaAloneRow : OpenClaim := { program := "ytfpfpckocemmdaa", sum := "76b28aad56734cb4bccb62fec99d0e13e0bea789b5bdf0796f20ef5cee966659", func := "sexton/sextonlaw24.ReplicaAlone", spec := "replicaAlone", unfollowed := true, recurses := true, apart := false }
def ReplicaAloneSaid : Prop := replicaAloneRow.holds Try.pinned (OpenSpec.ofChange replicaAloneSpec)

/-- ITS FALSE NEIGHBOUR: 'it returns false'. Refute it at one input. -/
def replicaAloneWrong : ChangeSpec := { name := "replicaAlone", fn := fun _ => fun
  | [d1, d2] => { results := [.lit (.bool false)], args := [d1, d2] }
  | _ => none }
def ReplicaAloneWrongFalsely : Prop := replicaAloneRow.holds Try.pinned (OpenSpec.ofChange replicaAloneWrong)

/-- 'sextonlaw24.ReplicaRight': WHATEVER THE INPUT: true; the input reads as it did. -/
def replicaRightSpec : ChangeSpec := { name := "replicaRight", fn := fun _ => fun
  | [d1, d2, d3] => { results := [.lit (.bool true)], args := [d1, d2, d3] }
  | _ => none }
def replicaRightRow : OpenClaim := { program := "ytfpfpckocemmdaa", sum := "76b28aad56734cb4bccb62fec99d0e13e0bea789b5bdf0796f20ef5cee966659", func := "sexton/sextonlaw24.ReplicaRight", spec := "replicaRight", unfollowed := true, recurses := true, apart := false }
def ReplicaRightSaid : Prop := replicaRightRow.holds Try.pinned (OpenSpec.ofChange replicaRightSpec)

/-- ITS FALSE NEIGHBOUR: 'it returns false'. Refute it at one input. -/
def replicaRightWrong : ChangeSpec := { name := "replicaRight", fn := fun _ => fun
  | [d1, d2, d3] => { results := [.lit (.bool false)], args := [d1, d2, d3] }
  | _ => none }
def ReplicaRightWrongFalsely : Prop := replicaRightRow.holds Try.pinned (OpenSpec.ofChange replicaRightWrong)

/-- 'sextonlaw24.ReplicaAgain': WHATEVER THE INPUT: true; the input reads as it did. -/
def replicaAgainSpec : ChangeSpec := { name := "replicaAgain", fn := fun _ => fun
  | [d1, d2] => { results := [.lit (.bool true)], args := [d1, d2] }
  | _ => none }
def replicaAgainRow : OpenClaim := { program := "ytfpfpckocemmdaa", sum := "76b28aad56734cb4bccb62fec99d0e13e0bea789b5bdf0796f20ef5cee966659", func := "sexton/sextonlaw24.ReplicaAgain", spec := "replicaAgain", unfollowed := true, recurses := true, apart := false }
def ReplicaAgainSaid : Prop := replicaAgainRow.holds Try.pinned (OpenSpec.ofChange replicaAgainSpec)

/-- ITS FALSE NEIGHBOUR: 'it returns false'. Refute it at one input. -/
def replicaAgainWrong : ChangeSpec := { name := "replicaAgain", fn := fun _ => fun
  | [d1, d2] => { results := [.lit (.bool false)], args := [d1, d2] }
  | _ => none }
def ReplicaAgainWrongFalsely : Prop := replicaAgainRow.holds Try.pinned (OpenSpec.ofChange replicaAgainWrong)

/- THE SECOND FORM. 'bulk': how many values and letters a reading holds, each counted each time it is reached (what is shared counts as often as it is met; a slice's spare places count too). A statement '..UptoSaid' is the law's where the arguments, and the package variables that the reading takes, are together of bulk at most 1048576: NARROWER than '..Said'. Prove '..Said' where nothing that the law and all that it calls make is longer than what came in: it says more and counts as full. Else prove '..UptoSaid'. A law counts once. -/
mutual
def uptoBulk {H : Type} : DataW H → Nat
  | .lit (.string bytes) => bytes.length + 1
  | .lit _ => 1
  | .nil => 1
  | .ptr d => uptoBulk d + 1
  | .slice elems spare => uptoBulkAll elems + uptoBulkAll spare + 1
  | .agg parts => uptoBulkAll parts + 1
  | .iface _ d => uptoBulk d + 1
  | .map entries => uptoBulkEntries entries + 1
  | .held _ => 1
def uptoBulkAll {H : Type} : List (DataW H) → Nat
  | [] => 0
  | d :: r => uptoBulk d + uptoBulkAll r
def uptoBulkEntries {H : Type} : List (Lit × DataW H) → Nat
  | [] => 0
  | x :: r => uptoBulkEntry x + uptoBulkEntries r
def uptoBulkEntry {H : Type} : Lit × DataW H → Nat
  | (.string bytes, d) => bytes.length + uptoBulk d + 1
  | (_, d) => uptoBulk d + 1
 end
def uptoSmall : (H : Type) → List (DataW H) → Bool := fun _ ds => decide (uptoBulkAll ds ≤ 1048576)
def OpenSpec.upto (s : _root_.Go.ChangeSpec) : _root_.Go.OpenSpec := { _root_.Go.OpenSpec.ofChange s with cond := some uptoSmall }

/-- 'sextonlaw24.ReplicaOld', WHERE WHAT IT READS IS OF BULK AT MOST 1048576: true; the input reads as it did. -/
def replicaOldUptoRow : OpenClaim := { program := "ytfpfpckocemmdaa", sum := "76b28aad56734cb4bccb62fec99d0e13e0bea789b5bdf0796f20ef5cee966659", func := "sexton/sextonlaw24.ReplicaOld", spec := "replicaOld", unfollowed := true, recurses := true, apart := false, narrowed := true }
def ReplicaOldUptoSaid : Prop := replicaOldUptoRow.holds Try.pinned (OpenSpec.upto replicaOldSpec)

/-- 'sextonlaw24.ReplicaAlone', WHERE WHAT IT READS IS OF BULK AT MOST 1048576: true; the input reads as it did. -/
def replicaAloneUptoRow : OpenClaim := { program := "ytfpfpckocemmdaa", sum := "76b28aad56734cb4bccb62fec99d0e13e0bea789b5bdf0796f20ef5cee966659", func := "sexton/sextonlaw24.ReplicaAlone", spec := "replicaAlone", unfollowed := true, recurses := true, apart := false, narrowed := true }
def ReplicaAloneUptoSaid : Prop := replicaAloneUptoRow.holds Try.pinned (OpenSpec.upto replicaAloneSpec)

/-- 'sextonlaw24.ReplicaRight', WHERE WHAT IT READS IS OF BULK AT MOST 1048576: true; the input reads as it did. -/
def replicaRightUptoRow : OpenClaim := { program := "ytfpfpckocemmdaa", sum := "76b28aad56734cb4bccb62fec99d0e13e0bea789b5bdf0796f20ef5cee966659", func := "sexton/sextonlaw24.ReplicaRight", spec := "replicaRight", unfollowed := true, recurses := true, apart := false, narrowed := true }
def ReplicaRightUptoSaid : Prop := replicaRightUptoRow.holds Try.pinned (OpenSpec.upto replicaRightSpec)

/-- 'sextonlaw24.ReplicaAgain', WHERE WHAT IT READS IS OF BULK AT MOST 1048576: true; the input reads as it did. -/
def replicaAgainUptoRow : OpenClaim := { program := "ytfpfpckocemmdaa", sum := "76b28aad56734cb4bccb62fec99d0e13e0bea789b5bdf0796f20ef5cee966659", func := "sexton/sextonlaw24.ReplicaAgain", spec := "replicaAgain", unfollowed := true, recurses := true, apart := false, narrowed := true }
def ReplicaAgainUptoSaid : Prop := replicaAgainUptoRow.holds Try.pinned (OpenSpec.upto replicaAgainSpec)

end Rows
end Go.Proofs.Ytfpfpckocemmdaa
