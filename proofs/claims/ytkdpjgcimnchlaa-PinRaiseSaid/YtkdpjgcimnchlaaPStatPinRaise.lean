-- printed by a program of this session (wip/tools/xprint.py) over the translation; not trusted: Lean checks it
import Derived.Test.YtkdpjgcimnchlaaPOpens
import Derived.Test.YtkdpjgcimnchlaaPx9
namespace Go.Proofs.Ytkdpjgcimnchlaa.P
open Go.RowKit Go.Proofs.YtkdpjgcimnchlaaW.PrintWords Go.Proofs.YtkdpjgcimnchlaaW.PrintLast Go.Proofs.YtkdpjgcimnchlaaW.PrintMore
attribute [local go_sem] max2_int min2_int max_two min_two max_three min_three max_four min_four   -- for this text's walks alone
set_option linter.unusedVariables false
set_option linter.unusedSimpArgs false

def sextonlaw17_PinRaise.Pure : Prop := ∀ (a0 : Int) (a1 : Int) (a2 : Int) (l3 : List (S24)), ((Lit.int .i64 a0).wf = true) → ((Lit.int .i64 a1).wf = true) → ((Lit.int .i64 a2).wf = true) → ((l3.length ≤ 9223372036854775807 ∧ ∀ y0 ∈ l3, B24 y0)) → ∃ k, sextonlaw17_PinRaise.f k a0 a1 a2 l3 = some true
end Go.Proofs.Ytkdpjgcimnchlaa.P
