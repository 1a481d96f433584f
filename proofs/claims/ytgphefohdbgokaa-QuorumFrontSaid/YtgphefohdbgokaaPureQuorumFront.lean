import Derived.Test.YtgphefohdbgokaaPStatQuorumFront
import Derived.Test.YtgphefohdbgokaaSpec
set_option linter.unusedVariables false
set_option linter.unusedSimpArgs false
namespace Go.Proofs.Ytgphefohdbgokaa.Pure
open Go.RowKit Go.Proofs.YtgphefohdbgokaaW.PrintWords Go.Proofs.YtgphefohdbgokaaW.PrintLast Go.Proofs.YtgphefohdbgokaaW.PrintMore Go.Proofs.Ytgphefohdbgokaa.P Go.Proofs.Ytgphefohdbgokaa.Spec

theorem QuorumFront : sextonlaw22_QuorumFront.Pure := by
  intro a b c ⟨_, _⟩ ⟨_, _⟩ ⟨_, _⟩
  obtain ⟨k, hk⟩ : ∃ k, 1000 ≤ k := ⟨1000, by omega⟩
  refine ⟨k + 2, ?_⟩
  have h0 : sextonlaw22_QuorumFront.j0 (k + 2) a b c true = some true := by
    simp only [sextonlaw22_QuorumFront.j0]
    rw [if_pos trivial]
  simp only [sextonlaw22_QuorumFront.f]
  by_cases h1 : (a.length : Int) > 100
  · rw [if_pos h1]; exact h0
  rw [if_neg h1]
  by_cases h2 : (b.length : Int) > 100
  · rw [if_pos h2]; exact h0
  rw [if_neg h2]
  by_cases h3 : (c.length : Int) > 100
  · rw [decide_eq_true h3]; exact h0
  rw [decide_eq_false h3]
  have hj1 : sextonlaw22_QuorumFront.j1 (k + 1) a b false = some true := by
    simp only [sextonlaw22_QuorumFront.j1]
    rw [if_neg (by decide), most_now k (by omega)]
    simp only [Option.bind_some]
    rw [if_pos trivial, qfront_of a b (by omega) k (by omega), rfront_of a b (by omega) k (by omega), qfront_of a a (by omega) k (by omega), qfront_of [] a (by simp) k (by simp; omega)]
    simp [front_refl, front_nil]
  simp only [sextonlaw22_QuorumFront.j0]
  rw [if_neg (by decide), qfront_of a b (by omega) (k + 1) (by omega), qfront_of b c (by omega) (k + 1) (by omega), qfront_of a c (by omega) (k + 1) (by omega)]
  simp only [Option.bind_some]
  by_cases e1 : front a b = true
  · rw [if_pos e1]
    by_cases e2 : front b c = true
    · rw [if_pos e2, front_trans e1 e2]; exact hj1
    · rw [if_neg e2]; exact hj1
  · rw [if_neg e1]; exact hj1
end Go.Proofs.Ytgphefohdbgokaa.Pure
