-- printed by a program of this session (wip/tools/xprint.py) over the translation; not trusted: Lean checks it
import Derived.Test.YtkdpjgcimnchlaaPOpens
import Derived.Test.YtkdpjgcimnchlaaPx10
namespace Go.Proofs.Ytkdpjgcimnchlaa.P
open Go.RowKit Go.Proofs.YtkdpjgcimnchlaaW.PrintWords Go.Proofs.YtkdpjgcimnchlaaW.PrintLast Go.Proofs.YtkdpjgcimnchlaaW.PrintMore
attribute [local go_sem] max2_int min2_int max_two min_two max_three min_three max_four min_four   -- for this text's walks alone
set_option linter.unusedVariables false
set_option linter.unusedSimpArgs false

def sextonlaw17_PinLeast.Pure : Prop := ∀ (l0 : List (S24)) (x1 : S24), ((l0.length ≤ 9223372036854775807 ∧ ∀ y0 ∈ l0, B24 y0)) → (B24 x1) → ∃ k, sextonlaw17_PinLeast.f k l0 x1.f0 x1.f1 = some true
end Go.Proofs.Ytkdpjgcimnchlaa.P
