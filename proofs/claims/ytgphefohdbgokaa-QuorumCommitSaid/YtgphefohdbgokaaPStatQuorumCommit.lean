-- printed by a program of this session (wip/tools/xprint.py) over the translation; not trusted: Lean checks it
import Derived.Test.YtgphefohdbgokaaPOpens
import Derived.Test.YtgphefohdbgokaaPx5
namespace Go.Proofs.Ytgphefohdbgokaa.P
open Go.RowKit Go.Proofs.YtgphefohdbgokaaW.PrintWords Go.Proofs.YtgphefohdbgokaaW.PrintLast Go.Proofs.YtgphefohdbgokaaW.PrintMore
attribute [local go_sem] max2_int min2_int max_two min_two max_three min_three max_four min_four   -- for this text's walks alone
set_option linter.unusedVariables false
set_option linter.unusedSimpArgs false

def sextonlaw22_QuorumCommit.Pure : Prop := ∀ (l0 : List Int) (a1 : Int) (a2 : Int), ((l0.length ≤ 9223372036854775807 ∧ ∀ y0 ∈ l0, (Lit.int .i64 y0).wf = true)) → ((Lit.int .i64 a1).wf = true) → ((Lit.int .i64 a2).wf = true) → ∃ k, sextonlaw22_QuorumCommit.f k l0 a1 a2 = some true
end Go.Proofs.Ytgphefohdbgokaa.P
