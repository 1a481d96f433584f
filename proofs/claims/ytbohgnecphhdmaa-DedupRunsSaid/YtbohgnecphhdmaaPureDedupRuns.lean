import Derived.Test.YtbohgnecphhdmaaPStatDedupRuns
import Derived.Test.YtbohgnecphhdmaaSpec
set_option linter.unusedVariables false
set_option linter.unusedSimpArgs false
namespace Go.Proofs.Ytbohgnecphhdmaa.Pure
open Go.RowKit Go.Proofs.YtbohgnecphhdmaaW.PrintWords Go.Proofs.YtbohgnecphhdmaaW.PrintLast Go.Proofs.YtbohgnecphhdmaaW.PrintMore Go.Proofs.Ytbohgnecphhdmaa.P Go.Proofs.Ytbohgnecphhdmaa.Spec

theorem seen_now (k : Nat) (h : 40 ≤ k) : sextonlaw19_seen.f k = some true := at_rounds sextonlaw19_seen.mono h sextonlaw19_seen.now
theorem put_of' (l : List S27) (hl : l.length ≤ 1000000) (s : S27) (k : Nat) (hk : l.length + 2 < k) : dedup_Put.f k l s.f0 s.f1 s.f2.f0 s.f2.f1 = some (sPut l s) := by
  obtain ⟨m, rfl⟩ : ∃ n, k = n + 2 := ⟨k - 2, by omega⟩
  exact put_of l hl s m (by omega)
theorem runs_loop (x : List S27) (hx : x.length ≤ 100) (c : Int) (d : Nat) : ∀ (k i : Nat) (l : List S27) (m : Int), x.length - i = d → i ≤ x.length → d * 2 + 1000 < k →
    l.length ≤ i → sIs l = true → sLast l c = m → sextonlaw19_DedupRuns.l0 k x c l m (i : Int) = some true := by
  induction d with
  | zero =>
    intro k i l m hd hi hk hl hs hm
    obtain ⟨k, rfl⟩ : ∃ m, k = m + 1 := ⟨k - 1, by omega⟩
    simp only [sextonlaw19_DedupRuns.l0]
    rw [if_neg (by omega), seen_now k (by omega)]
    rfl
  | succ d ih =>
    intro k i l m hd hi hk hl hs hm
    obtain ⟨k, rfl⟩ : ∃ m, k = m + 1 := ⟨k - 1, by omega⟩
    have hlt : i < x.length := by omega
    simp only [sextonlaw19_DedupRuns.l0]
    rw [if_pos (by omega), if_pos (by omega), rd_nat x i hlt, wrap_nat i (by omega), put_of' l (by omega) x[i] k (by omega)]
    simp only [Option.bind_some]
    have hp := put_length l x[i]
    by_cases he : (sPut l x[i]).2 = 0
    · rw [if_pos he]
      obtain ⟨hi1, hm1, hlt1, he1, hi2⟩ := put_in l x[i] he
      obtain ⟨_, hsr, _⟩ := (sIs_iff l).1 hi1
      rw [he1] at hp ⊢
      have hj : ∀ v, sLast (ins x[i] l) c = v → sextonlaw19_DedupRuns.j1 k x c (ins x[i] l) v (i : Int) = some true := by
        intro v hv
        obtain ⟨k, rfl⟩ : ∃ m, k = m + 1 := ⟨k - 1, by omega⟩
        simp only [sextonlaw19_DedupRuns.j1]
        rw [last_of _ (by omega) c k (by omega)]
        simp only [Option.bind_some]
        rw [if_pos hv, Is_of _ (by omega) k (by omega), hi2]
        simp only [Option.bind_some, if_true]
        rw [wrap_nat i (by omega)]
        exact ih k (i + 1) _ v (by omega) (by omega) (by omega) (by omega) hi2 hv
      by_cases hc : (x[i]).f0 = c
      · rw [if_pos hc, if_neg (by rw [← hm, ← hc]; omega)]
        refine hj _ ?_
        unfold sLast
        rw [← hc, sRow_ins _ _ hsr]
      · rw [if_neg hc]
        refine hj _ ?_
        unfold sLast
        rw [sRow_ins_ne _ c (fun h => hc h.symm) l]
        exact hm
    · rw [if_neg he]
      exact ih k (i + 1) l m (by omega) (by omega) (by omega) (by omega) hs hm
theorem DedupRuns : sextonlaw19_DedupRuns.Pure := by
  intro l c _ _
  refine ⟨2000, ?_⟩
  simp only [sextonlaw19_DedupRuns.f]
  by_cases h0 : (l.length : Int) > 100
  · rw [if_pos h0]
  rw [if_neg h0]
  exact runs_loop l (by omega) c l.length 2000 0 [] 0 (by omega) (by omega) (by omega) (by simp) rfl rfl
end Go.Proofs.Ytbohgnecphhdmaa.Pure
