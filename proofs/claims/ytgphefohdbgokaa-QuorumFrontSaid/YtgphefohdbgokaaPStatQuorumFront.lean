-- printed by a program of this session (wip/tools/xprint.py) over the translation; not trusted: Lean checks it
import Derived.Test.YtgphefohdbgokaaPOpens
import Derived.Test.YtgphefohdbgokaaPx2
namespace Go.Proofs.Ytgphefohdbgokaa.P
open Go.RowKit Go.Proofs.YtgphefohdbgokaaW.PrintWords Go.Proofs.YtgphefohdbgokaaW.PrintLast Go.Proofs.YtgphefohdbgokaaW.PrintMore
attribute [local go_sem] max2_int min2_int max_two min_two max_three min_three max_four min_four   -- for this text's walks alone
set_option linter.unusedVariables false
set_option linter.unusedSimpArgs false

def sextonlaw22_QuorumFront.Pure : Prop := ∀ (l0 : List ByteArray) (l1 : List ByteArray) (l2 : List ByteArray), ((l0.length ≤ 9223372036854775807 ∧ ∀ y0 ∈ l0, y0.size ≤ maxLen)) → ((l1.length ≤ 9223372036854775807 ∧ ∀ y0 ∈ l1, y0.size ≤ maxLen)) → ((l2.length ≤ 9223372036854775807 ∧ ∀ y0 ∈ l2, y0.size ≤ maxLen)) → ∃ k, sextonlaw22_QuorumFront.f k l0 l1 l2 = some true
end Go.Proofs.Ytgphefohdbgokaa.P
