import Derived.Test.YtkdpjgcimnchlaaPStatPinRaise
import Derived.Test.YtkdpjgcimnchlaaSpec
set_option linter.unusedVariables false
set_option linter.unusedSimpArgs false
namespace Go.Proofs.Ytkdpjgcimnchlaa.Pure
open Go.RowKit Go.Proofs.YtkdpjgcimnchlaaW.PrintWords Go.Proofs.YtkdpjgcimnchlaaW.PrintLast Go.Proofs.YtkdpjgcimnchlaaW.PrintMore Go.Proofs.Ytkdpjgcimnchlaa.P Go.Proofs.Ytkdpjgcimnchlaa.Spec

theorem raise_loop (w b last : Int) (l : List S24) (hl : l.length ≤ 100) (n : Int) (hn : n = sRaise w b last l) (d : Nat) : ∀ (k i : Nat), l.length - i = d → i ≤ l.length → d + 300 < k →
    sextonlaw17_PinRaise.l0 k w b last l n (i : Int) = some true := by
  have hlow := low_le l (mn b last)
  have hmx : n = w ∧ low (mn b last) l ≤ w ∨ n = low (mn b last) l ∧ w < low (mn b last) l := by
    rw [hn]; unfold sRaise mx
    split
    · exact .inr ⟨rfl, by assumption⟩
    · exact .inl ⟨rfl, by omega⟩
  have hmn : mn b last ≤ b ∧ mn b last ≤ last := by unfold mn; split <;> omega
  induction d with
  | zero =>
    intro k i hd hi hk
    obtain ⟨k, rfl⟩ : ∃ m, k = m + 1 := ⟨k - 1, by omega⟩
    simp only [sextonlaw17_PinRaise.l0]
    rw [if_neg (by omega), Raise_of l (by omega) n b last k (by omega), pinned_now k (by omega)]
    simp only [Option.bind_some]
    rw [if_pos trivial]
    have hag : sRaise n b last l = n := by
      unfold sRaise mx
      split <;> omega
    rw [hag]
    by_cases h1 : n = w
    · rw [if_pos h1]; simp
    · rw [if_neg h1, if_pos (by omega), if_pos (by omega)]; simp
  | succ d ih =>
    intro k i hd hi hk
    obtain ⟨k, rfl⟩ : ∃ m, k = m + 1 := ⟨k - 1, by omega⟩
    have hlt : i < l.length := by omega
    have hx := hlow.2 _ (List.getElem_mem hlt)
    have hr := ih k (i + 1) (by omega) (by omega) (by omega)
    simp only [sextonlaw17_PinRaise.l0]
    rw [if_pos (by omega), wrap_nat i (by omega)]
    by_cases h1 : n > w
    · rw [if_pos h1, if_pos (by omega), rd_nat l i hlt, if_neg (by omega)]
      exact hr
    · rw [if_neg h1]
      exact hr
theorem PinRaise : sextonlaw17_PinRaise.Pure := by
  intro w b last l _ _ _ ⟨_, _⟩
  obtain ⟨k, hk⟩ : ∃ k, 1000 ≤ k := ⟨1000, Nat.le_refl _⟩
  refine ⟨k, ?_⟩
  simp only [sextonlaw17_PinRaise.f]
  by_cases h0 : (l.length : Int) > 100
  · rw [if_pos h0]
  rw [if_neg h0, Raise_of l (by omega) w b last k (by omega)]
  simp only [Option.bind_some]
  rw [if_neg (by unfold sRaise mx; split <;> omega)]
  exact raise_loop w b last l (by omega) _ rfl l.length k 0 (by omega) (by omega) (by omega)
end Go.Proofs.Ytkdpjgcimnchlaa.Pure
