import Derived.Test.YtkdpjgcimnchlaaPStatPinDoes
import Derived.Test.YtkdpjgcimnchlaaSpec
set_option linter.unusedVariables false
set_option linter.unusedSimpArgs false
namespace Go.Proofs.Ytkdpjgcimnchlaa.Pure
open Go.RowKit Go.Proofs.YtkdpjgcimnchlaaW.PrintWords Go.Proofs.YtkdpjgcimnchlaaW.PrintLast Go.Proofs.YtkdpjgcimnchlaaW.PrintMore Go.Proofs.Ytkdpjgcimnchlaa.P Go.Proofs.Ytkdpjgcimnchlaa.Spec

theorem loop1 (x : List S24) (hx : x.length ≤ 100) (n : Nat) (hn : n ≤ 1000) (d : Nat) : ∀ (k i : Nat) (y : List S24), y.length = n → n - i = d → i ≤ n → d + 300 < k →
    sextonlaw17_PinDoes.l1 k x x y true (i : Int) = some true := by
  induction d with
  | zero =>
    intro k i y hy hd hi hk
    obtain ⟨k, rfl⟩ : ∃ m, k = m + 1 := ⟨k - 1, by omega⟩
    simp only [sextonlaw17_PinDoes.l1]
    rw [if_neg (by omega), pinned_now k (by omega)]
    simp only [Option.bind_some]
    rw [if_pos trivial, if_pos trivial, Is_of x (by omega) k (by omega), rIs_of x (by omega) k (by omega)]
    simp only [Option.bind_some]
    rw [if_pos (by simp), same_of x (by omega) k (by omega)]
    rfl
  | succ d ih =>
    intro k i y hy hd hi hk
    obtain ⟨k, rfl⟩ : ∃ m, k = m + 1 := ⟨k - 1, by omega⟩
    simp only [sextonlaw17_PinDoes.l1]
    rw [if_pos (by omega), if_pos (by omega), wrap_nat i (by omega)]
    exact ih k (i + 1) _ (by simp [hy]) (by omega) (by omega) (by omega)
theorem loop0 (x : List S24) (hx : x.length ≤ 100) (z : List S24) (hz : z.length ≤ 1000) (n : Nat) (hn : n ≤ 1000) (d : Nat) : ∀ (k i : Nat) (y : List S24), y.length = n → n - i = d → i ≤ n → d + 2000 < k →
    sextonlaw17_PinDoes.l0 k x x y z true (i : Int) = some true := by
  induction d with
  | zero =>
    intro k i y hy hd hi hk
    obtain ⟨k, rfl⟩ : ∃ m, k = m + 1 := ⟨k - 1, by omega⟩
    simp only [sextonlaw17_PinDoes.l0]
    rw [if_neg (by omega)]
    exact loop1 x hx z.length hz z.length k 0 z rfl (by omega) (by omega) (by omega)
  | succ d ih =>
    intro k i y hy hd hi hk
    obtain ⟨k, rfl⟩ : ∃ m, k = m + 1 := ⟨k - 1, by omega⟩
    simp only [sextonlaw17_PinDoes.l0]
    rw [if_pos (by omega), if_pos (by omega), wrap_nat i (by omega)]
    exact ih k (i + 1) _ (by simp [hy]) (by omega) (by omega) (by omega)
theorem PinDoes : sextonlaw17_PinDoes.Pure := by
  intro l p s w b last ⟨_, _⟩ _ _ _ _ _
  obtain ⟨k, hk⟩ : ∃ k, 5000 ≤ k := ⟨5000, Nat.le_refl _⟩
  refine ⟨k + 1, ?_⟩
  simp only [sextonlaw17_PinDoes.f]
  by_cases h0 : (l.length : Int) > 100
  · rw [if_pos h0]
  rw [if_neg h0, own_of l (by omega)]
  simp only [Option.bind_some]
  have ha := add_length l p
  have hd := drop_length l s
  rw [add_of l (by omega) p k (by omega), radd_of l (by omega) p k (by omega), drop_of l (by omega) s (k + 1) (by omega), rdrop_of l (by omega) s (k + 1) (by omega), of_of l (by omega) s, rof_of l (by omega) s (k + 1) (by omega), Least_of l (by omega) (k + 1) (by omega), rLeast_of l (by omega) (k + 1) (by omega)]
  simp only [Option.bind_some]
  rw [same_of (sAdd l p).1 (by omega) (k + 1) (by omega), same_of (sDrop l s).1 (by omega) (k + 1) (by omega), Raise_of l (by omega) w b last (k + 1) (by omega), rRaise_of l (by omega) w b last (k + 1) (by omega)]
  simp only [Option.bind_some, beq_self_eq_true, if_true]
  simp only [sextonlaw17_PinDoes.j0]
  exact loop0 l (by omega) _ (by omega) _ (by omega) _ k 0 _ rfl rfl (by omega) (by omega)
end Go.Proofs.Ytkdpjgcimnchlaa.Pure
