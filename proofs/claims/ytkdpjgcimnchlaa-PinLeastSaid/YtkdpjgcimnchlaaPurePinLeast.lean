import Derived.Test.YtkdpjgcimnchlaaPStatPinLeast
import Derived.Test.YtkdpjgcimnchlaaSpec
set_option linter.unusedVariables false
set_option linter.unusedSimpArgs false
namespace Go.Proofs.Ytkdpjgcimnchlaa.Pure
open Go.RowKit Go.Proofs.YtkdpjgcimnchlaaW.PrintWords Go.Proofs.YtkdpjgcimnchlaaW.PrintLast Go.Proofs.YtkdpjgcimnchlaaW.PrintMore Go.Proofs.Ytkdpjgcimnchlaa.P Go.Proofs.Ytkdpjgcimnchlaa.Spec

theorem least_end (l : List S24) (hl : l.length ≤ 100) (p : S24) (fl : Bool) (hfl : (sLeast l).2 = fl) (k i : Nat) (hi : l.length ≤ i) (hk : 500 < k) :
    sextonlaw17_PinLeast.l0 (k + 1) l (sLeast l).1 (sLeast l).2 fl (i : Int) p.f0 p.f1 = some true := by
  obtain ⟨k, rfl⟩ : ∃ m, k = m + 1 := ⟨k - 1, by omega⟩
  simp only [sextonlaw17_PinLeast.l0]
  rw [if_neg (by omega), add_of l (by omega) p k (by omega)]
  simp only [Option.bind_some]
  have ha := add_length l p
  rw [Least_of _ (by omega) (k + 1) (by omega), pinned_now (k + 1) (by omega)]
  simp only [Option.bind_some]
  have hpos : ((sLeast l).2 == decide ((l.length : Int) > 0)) = true := by
    cases l with
    | nil => rfl
    | cons x l => simp [sLeast]
  rw [if_pos trivial, if_pos (by rw [hfl]; simp), if_pos hpos]
  by_cases he : (sAdd l p).2 = 0
  · rw [if_pos he]
    obtain ⟨_, _, _, he1, _⟩ := add_in l p he
    rw [he1]
    have hne : ins p l ≠ [] := fun h => by have := ins_length p l; rw [h] at this; simp at this
    obtain ⟨h1, _, h3⟩ := sLeast_spec (ins p l) hne
    rw [if_pos h1, if_pos (h3 p (ins_mem.2 (.inl rfl)))]
    by_cases hok : (sLeast l).2 = true
    · rw [if_pos hok]
      have hl0 : l ≠ [] := fun h => by rw [h] at hok; cases hok
      obtain ⟨_, ⟨x, hx, hx2⟩, _⟩ := sLeast_spec l hl0
      have := h3 x (ins_mem.2 (.inr hx))
      exact congrArg some (decide_eq_true (by omega))
    · rw [if_neg hok]
  · rw [if_neg he]
theorem least_loop (l : List S24) (hl : l.length ≤ 100) (hne : l ≠ []) (p : S24) (d : Nat) : ∀ (k i : Nat) (fl : Bool), l.length - i = d → i ≤ l.length → d + 600 < k → (fl = true ∨ ∃ x ∈ l.drop i, x.f1 = (sLeast l).1) →
    sextonlaw17_PinLeast.l0 k l (sLeast l).1 (sLeast l).2 fl (i : Int) p.f0 p.f1 = some true := by
  obtain ⟨g1, _, g3⟩ := sLeast_spec l hne
  induction d with
  | zero =>
    intro k i fl hd hi hk hfl
    obtain ⟨k, rfl⟩ : ∃ m, k = m + 1 := ⟨k - 1, by omega⟩
    refine least_end l hl p fl ?_ k i (by omega) (by omega)
    rcases hfl with h | ⟨x, hx, _⟩
    · rw [g1, h]
    · rw [List.drop_eq_nil_of_le (by omega)] at hx
      simp at hx
  | succ d ih =>
    intro k i fl hd hi hk hfl
    obtain ⟨k, rfl⟩ : ∃ m, k = m + 1 := ⟨k - 1, by omega⟩
    have hlt : i < l.length := by omega
    have hx := g3 _ (List.getElem_mem hlt)
    simp only [sextonlaw17_PinLeast.l0]
    rw [if_pos (by omega), if_pos (by omega), rd_nat l i hlt, if_neg (by omega), wrap_nat i (by omega)]
    by_cases hf : fl = true
    · rw [if_pos hf]
      exact ih k (i + 1) true (by omega) (by omega) (by omega) (.inl rfl)
    · rw [if_neg hf]
      refine ih k (i + 1) _ (by omega) (by omega) (by omega) ?_
      rcases hfl with h | ⟨x, hx1, hx2⟩
      · exact absurd h hf
      · rw [List.drop_eq_getElem_cons hlt] at hx1
        rcases List.mem_cons.1 hx1 with rfl | hx1
        · exact .inl (by simpa using hx2)
        · exact .inr ⟨x, hx1, hx2⟩
theorem PinLeast : sextonlaw17_PinLeast.Pure := by
  intro l p ⟨_, _⟩ _
  obtain ⟨k, hk⟩ : ∃ k, 3000 ≤ k := ⟨3000, Nat.le_refl _⟩
  refine ⟨k + 1, ?_⟩
  simp only [sextonlaw17_PinLeast.f]
  by_cases h0 : (l.length : Int) > 100
  · rw [if_pos h0]
  rw [if_neg h0, Least_of l (by omega) (k + 1) (by omega)]
  simp only [Option.bind_some]
  by_cases hne : l = []
  · exact least_end l (by omega) p false (by rw [hne]; rfl) k 0 (by rw [hne]; simp) (by omega)
  · refine least_loop l (by omega) hne p l.length (k + 1) 0 false (by omega) (by omega) (by omega) (.inr ?_)
    obtain ⟨_, ⟨x, hx, hx2⟩, _⟩ := sLeast_spec l hne
    exact ⟨x, by simpa using hx, hx2.symm⟩
end Go.Proofs.Ytkdpjgcimnchlaa.Pure
