import Derived.Test.YtbohgnecphhdmaaPStatDedupDoes
import Derived.Test.YtbohgnecphhdmaaSpec
set_option linter.unusedVariables false
set_option linter.unusedSimpArgs false
namespace Go.Proofs.Ytbohgnecphhdmaa.Pure
open Go.RowKit Go.Proofs.YtbohgnecphhdmaaW.PrintWords Go.Proofs.YtbohgnecphhdmaaW.PrintLast Go.Proofs.YtbohgnecphhdmaaW.PrintMore Go.Proofs.Ytbohgnecphhdmaa.P Go.Proofs.Ytbohgnecphhdmaa.Spec

theorem seen_now (k : Nat) (h : 40 ≤ k) : sextonlaw19_seen.f k = some true := at_rounds sextonlaw19_seen.mono h sextonlaw19_seen.now
theorem over_loop (x0 : List S27) (hx : x0.length ≤ 100) (n : Nat) (hn : n ≤ 1000) (d : Nat) : ∀ (k i : Nat) (y : List S27), y.length = n → n - i = d → i ≤ n → d + 200 < k →
    sextonlaw19_DedupDoes.l0 k x0 x0 y true (i : Int) = some true := by
  induction d with
  | zero =>
    intro k i y hy hd hi hk
    obtain ⟨k, rfl⟩ : ∃ m, k = m + 1 := ⟨k - 1, by omega⟩
    simp only [sextonlaw19_DedupDoes.l0]
    rw [if_neg (by omega), seen_now k (by omega)]
    simp only [Option.bind_some]
    rw [if_pos trivial, if_pos trivial, same_of x0 (by omega) k (by omega)]
    rfl
  | succ d ih =>
    intro k i y hy hd hi hk
    obtain ⟨k, rfl⟩ : ∃ m, k = m + 1 := ⟨k - 1, by omega⟩
    simp only [sextonlaw19_DedupDoes.l0]
    rw [if_pos (by omega), if_pos (by omega), wrap_nat i (by omega)]
    exact ih k (i + 1) _ (by simp [hy]) (by omega) (by omega) (by omega)
theorem DedupDoes : sextonlaw19_DedupDoes.Pure := by
  intro l s c q _ _ _ _
  obtain ⟨k, hk⟩ : ∃ k, 2000 ≤ k := ⟨2000, by omega⟩
  refine ⟨k + 2, ?_⟩
  simp only [sextonlaw19_DedupDoes.f]
  by_cases h0 : (l.length : Int) > 100
  · rw [if_pos h0]
  rw [if_neg h0, own_of l (by omega)]
  simp only [Option.bind_some]
  rw [look_of l (by omega) c q (k + 2) (by omega), rlook_of l (by omega) c q (k + 1) (by omega), put_of l (by omega) s k (by omega), rput_of l (by omega) s k (by omega)]
  simp only [Option.bind_some]
  have hp := put_length l s
  rw [same_of (sPut l s).1 (by omega) (k + 2) (by omega), Is_of l (by omega) (k + 2) (by omega), rIs_of l (by omega) (k + 2) (by omega), last_of l (by omega) c (k + 2) (by omega), rlast_of l (by omega) c (k + 2) (by omega)]
  simp only [Option.bind_some, beq_self_eq_true, Bool.and_self, if_true]
  simp only [sextonlaw19_DedupDoes.j0]
  exact over_loop l (by omega) _ (by omega) _ (k + 1) 0 _ rfl rfl (by omega) (by omega)
end Go.Proofs.Ytbohgnecphhdmaa.Pure
