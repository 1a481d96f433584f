-- printed by a program of this session (wip/tools/xprint.py) over the translation; not trusted: Lean checks it
import Derived.Test.YtbohgnecphhdmaaPOpens
import Derived.Test.YtbohgnecphhdmaaPx13
namespace Go.Proofs.Ytbohgnecphhdmaa.P
open Go.RowKit Go.Proofs.YtbohgnecphhdmaaW.PrintWords Go.Proofs.YtbohgnecphhdmaaW.PrintLast Go.Proofs.YtbohgnecphhdmaaW.PrintMore
attribute [local go_sem] max2_int min2_int max_two min_two max_three min_three max_four min_four   -- for this text's walks alone
set_option linter.unusedVariables false
set_option linter.unusedSimpArgs false

def sextonlaw19_DedupOrder.Pure : Prop := ∀ (l0 : List (S27)), (∀ y0 ∈ l0, B27 y0) → ∃ k, sextonlaw19_DedupOrder.f k l0 = some true
end Go.Proofs.Ytbohgnecphhdmaa.P
