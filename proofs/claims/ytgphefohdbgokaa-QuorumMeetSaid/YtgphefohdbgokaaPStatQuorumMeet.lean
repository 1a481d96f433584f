-- printed by a program of this session (wip/tools/xprint.py) over the translation; not trusted: Lean checks it
import Derived.Test.YtgphefohdbgokaaPOpens
import Derived.Test.YtgphefohdbgokaaPx6
namespace Go.Proofs.Ytgphefohdbgokaa.P
open Go.RowKit Go.Proofs.YtgphefohdbgokaaW.PrintWords Go.Proofs.YtgphefohdbgokaaW.PrintLast Go.Proofs.YtgphefohdbgokaaW.PrintMore
attribute [local go_sem] max2_int min2_int max_two min_two max_three min_three max_four min_four   -- for this text's walks alone
set_option linter.unusedVariables false
set_option linter.unusedSimpArgs false

def sextonlaw22_QuorumMeet.Pure : Prop := ∀ (a0 : Int) (l1 : List (S29)) (l2 : List (S29)), ((Lit.int .i64 a0).wf = true) → ((l1.length ≤ 9223372036854775807 ∧ ∀ y0 ∈ l1, B29 y0)) → ((l2.length ≤ 9223372036854775807 ∧ ∀ y0 ∈ l2, B29 y0)) → ∃ k, sextonlaw22_QuorumMeet.f k a0 l1 l2 = some true
end Go.Proofs.Ytgphefohdbgokaa.P
