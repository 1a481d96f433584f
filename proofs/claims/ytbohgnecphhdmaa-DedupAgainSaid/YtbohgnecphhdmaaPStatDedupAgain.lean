-- printed by a program of this session (wip/tools/xprint.py) over the translation; not trusted: Lean checks it
import Derived.Test.YtbohgnecphhdmaaPOpens
import Derived.Test.YtbohgnecphhdmaaPx12
namespace Go.Proofs.Ytbohgnecphhdmaa.P
open Go.RowKit Go.Proofs.YtbohgnecphhdmaaW.PrintWords Go.Proofs.YtbohgnecphhdmaaW.PrintLast Go.Proofs.YtbohgnecphhdmaaW.PrintMore
attribute [local go_sem] max2_int min2_int max_two min_two max_three min_three max_four min_four   -- for this text's walks alone
set_option linter.unusedVariables false
set_option linter.unusedSimpArgs false

def sextonlaw19_DedupAgain.Pure : Prop := ∀ (l0 : List (S27)) (x1 : S27) (a2 : Int) (a3 : Int), (∀ y0 ∈ l0, B27 y0) → (B27 x1) → ((Lit.int .i64 a2).wf = true) → ((Lit.int .i64 a3).wf = true) → ∃ k, sextonlaw19_DedupAgain.f k l0 x1.f0 x1.f1 x1.f2.f0 x1.f2.f1 a2 a3 = some true
end Go.Proofs.Ytbohgnecphhdmaa.P
