import Derived.Test.YtgphefohdbgokaaPStatQuorumBest
import Derived.Test.YtgphefohdbgokaaSpec
set_option linter.unusedVariables false
set_option linter.unusedSimpArgs false
namespace Go.Proofs.Ytgphefohdbgokaa.Pure
open Go.RowKit Go.Proofs.YtgphefohdbgokaaW.PrintWords Go.Proofs.YtgphefohdbgokaaW.PrintLast Go.Proofs.YtgphefohdbgokaaW.PrintMore Go.Proofs.Ytgphefohdbgokaa.P Go.Proofs.Ytgphefohdbgokaa.Spec

/-- No better than. -/
def Le (v o : S29) : Prop := v.f1 < o.f1 ∨ v.f1 = o.f1 ∧ v.f3.length ≤ o.f3.length
theorem le_refl (v : S29) : Le v v := .inr ⟨rfl, Nat.le_refl _⟩
theorem le_trans {a b c : S29} (h1 : Le a b) (h2 : Le b c) : Le a c := by unfold Le at *; omega
theorem better_le (v o : S29) : if quorum_Best.better v o = true then Le o v else Le v o := by
  unfold quorum_Best.better Le
  split
  · rw [if_pos rfl]; left; assumption
  · split
    · split
      · rename_i h; simp at h; right; omega
      · rename_i h; simp at h; right; omega
    · rw [if_neg (by decide)]; left; omega
theorem best_max (l : List S29) : ∀ b, ∀ v ∈ b :: l, Le v (quorum_Best.best l b) := by
  induction l with
  | nil =>
    intro b v hv
    rw [List.mem_singleton] at hv
    subst hv
    exact le_refl _
  | cons x l ih =>
    intro b v hv
    have e : quorum_Best.best (x :: l) b = quorum_Best.best l (if quorum_Best.better x b then x else b) := rfl
    rw [e]
    have hb := better_le x b
    have h1 := ih (if quorum_Best.better x b then x else b)
    have h2 := h1 _ List.mem_cons_self
    rcases List.mem_cons.1 hv with rfl | hv
    · refine le_trans ?_ h2
      split
      · rename_i h; rw [if_pos h] at hb; exact hb
      · exact le_refl _
    · rcases List.mem_cons.1 hv with rfl | hv
      · refine le_trans ?_ h2
        split
        · exact le_refl _
        · rename_i h; rw [if_neg h] at hb; exact hb
      · exact h1 v (List.mem_cons_of_mem _ hv)
theorem best_mem (l : List S29) : ∀ b, quorum_Best.best l b ∈ b :: l := by
  induction l with
  | nil => intro b; exact List.mem_cons_self
  | cons x l ih =>
    intro b
    have e : quorum_Best.best (x :: l) b = quorum_Best.best l (if quorum_Best.better x b then x else b) := rfl
    rw [e]
    rcases List.mem_cons.1 (ih (if quorum_Best.better x b then x else b)) with h | h
    · rw [h]
      split <;> simp
    · exact List.mem_cons_of_mem _ (List.mem_cons_of_mem _ h)
theorem best_loop (l : List S29) (hf : Fit l) (hne : 0 < l.length) (o : S29) (hmax : ∀ v ∈ l, Le v o) (d : Nat) : ∀ (k i : Nat) (fl : Bool), l.length - i = d → i ≤ l.length → d + 200 < k → (fl = true ∨ o ∈ l.drop i) →
    sextonlaw22_QuorumBest.l0 k l true fl (i : Int) o.f0 o.f1 o.f2 o.f3 = some true := by
  induction d with
  | zero =>
    intro k i fl hd hi hk hfl
    obtain ⟨k, rfl⟩ : ∃ m, k = m + 1 := ⟨k - 1, by omega⟩
    have : i = l.length := by omega
    subst this
    rw [List.drop_length] at hfl
    have hfl : fl = true := by simpa using hfl
    subst hfl
    simp only [sextonlaw22_QuorumBest.l0]
    rw [if_neg (by omega), most_now k (by omega)]
    simp only [Option.bind_some]
    rw [if_pos trivial, if_pos (by rfl)]
    have : decide ((l.length : Int) > 0) = true := decide_eq_true (by omega)
    rw [this]
    rfl
  | succ d ih =>
    intro k i fl hd hi hk hfl
    obtain ⟨k, rfl⟩ : ∃ m, k = m + 1 := ⟨k - 1, by omega⟩
    have hlt : i < l.length := by omega
    have hm := hmax _ (List.getElem_mem hlt)
    have h70 := hf.2 _ (List.getElem_mem hlt)
    have h30 := hf.1
    simp only [sextonlaw22_QuorumBest.l0]
    rw [if_pos (by omega), if_pos (by omega), rd_nat l i hlt, wrap_nat i (by omega), if_neg (by unfold Le at hm; omega)]
    obtain ⟨r, hr, hrt⟩ := same_of l[i] o (by omega) k (by omega)
    have hgo : (if fl = true then sextonlaw22_QuorumBest.l0 k l true true ((i + 1 : Nat) : Int) o.f0 o.f1 o.f2 o.f3 else (sextonref22_SameVote.f k l[i].f0 l[i].f1 l[i].f2 l[i].f3 o.f0 o.f1 o.f2 o.f3).bind fun t => sextonlaw22_QuorumBest.l0 k l true t ((i + 1 : Nat) : Int) o.f0 o.f1 o.f2 o.f3) = some true := by
      by_cases h : fl = true
      · rw [if_pos h]
        exact ih k (i + 1) true (by omega) (by omega) (by omega) (.inl rfl)
      · rw [if_neg h, hr]
        simp only [Option.bind_some]
        refine ih k (i + 1) r (by omega) (by omega) (by omega) ?_
        rcases hfl with hfl | hfl
        · exact absurd hfl h
        · rw [List.drop_eq_getElem_cons hlt] at hfl
          rcases List.mem_cons.1 hfl with e | hfl
          · exact .inl (hrt e.symm)
          · exact .inr hfl
    by_cases h1 : l[i].f1 = o.f1
    · rw [if_pos h1, if_neg (by unfold Le at hm; omega)]
      exact hgo
    · rw [if_neg h1]
      exact hgo
theorem QuorumBest : sextonlaw22_QuorumBest.Pure := by
  intro l ⟨hl, hB⟩
  have hB' : ∀ v ∈ l, v.f3.length ≤ 9223372036854775807 := fun v hv => (hB v hv).2.2.2.1
  obtain ⟨k, hk⟩ : ∃ k, 1000 + l.length * 2 + many l ≤ k := ⟨_, Nat.le_refl _⟩
  refine ⟨k, ?_⟩
  obtain ⟨b, hb, hfit⟩ := big_of l hl hB' k (by omega)
  simp only [sextonlaw22_QuorumBest.f]
  rw [hb]
  simp only [Option.bind_some]
  cases b with
  | true => rw [if_pos rfl]
  | false =>
    rw [if_neg (by decide)]
    have hf := hfit rfl
    cases l with
    | nil =>
      simp only [quorum_Best.f, Option.bind_some]
      obtain ⟨k, rfl⟩ : ∃ m, k = m + 1 := ⟨k - 1, by omega⟩
      simp only [sextonlaw22_QuorumBest.l0]
      rw [if_neg (by simp), most_now k (by omega)]
      rfl
    | cons v tl =>
      have h1 := hf.1
      have hm := best_mem tl v
      have h2 := hf.2 _ hm
      simp only [List.length_cons] at h1
      simp only [quorum_Best.f]
      rw [if_pos ⟨by omega, by omega⟩]
      simp only [Option.bind_some]
      exact best_loop (v :: tl) hf (by simp) (quorum_Best.best tl v) (best_max tl v) (tl.length + 1) k 0 false (by simp) (by simp) (by omega) (.inr (by simpa using hm))
end Go.Proofs.Ytgphefohdbgokaa.Pure
