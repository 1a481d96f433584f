import Derived.Test.YtbohgnecphhdmaaPStatDedupAgain
import Derived.Test.YtbohgnecphhdmaaSpec
set_option linter.unusedVariables false
set_option linter.unusedSimpArgs false
namespace Go.Proofs.Ytbohgnecphhdmaa.Pure
open Go.RowKit Go.Proofs.YtbohgnecphhdmaaW.PrintWords Go.Proofs.YtbohgnecphhdmaaW.PrintLast Go.Proofs.YtbohgnecphhdmaaW.PrintMore Go.Proofs.Ytbohgnecphhdmaa.P Go.Proofs.Ytbohgnecphhdmaa.Spec

theorem seen_now (k : Nat) (h : 40 ≤ k) : sextonlaw19_seen.f k = some true := at_rounds sextonlaw19_seen.mono h sextonlaw19_seen.now
theorem DedupAgain : sextonlaw19_DedupAgain.Pure := by
  intro l s c q _ _ _ _
  obtain ⟨k, hk⟩ : ∃ k, 2000 ≤ k := ⟨2000, by omega⟩
  refine ⟨k + 2, ?_⟩
  simp only [sextonlaw19_DedupAgain.f]
  by_cases h0 : (l.length : Int) > 100
  · rw [if_pos h0]
  rw [if_neg h0, put_of l (by omega) s k (by omega)]
  simp only [Option.bind_some]
  have hp := put_length l s
  by_cases he : (sPut l s).2 = 0
  · rw [if_pos he]
    obtain ⟨hi, hm, hlt, he1, hi2⟩ := put_in l s he
    obtain ⟨_, hs, _⟩ := (sIs_iff l).1 hi
    rw [he1] at hp ⊢
    rw [look_of _ (by omega) _ _ (k + 2) (by omega), look_of _ (by omega) _ _ (k + 2) (by omega), look_of _ (by omega) _ _ (k + 2) (by omega), look_of _ (by omega) _ _ (k + 2) (by omega), look_of _ (by omega) _ _ (k + 2) (by omega), seen_now (k + 2) (by omega), Is_of _ (by omega) (k + 2) (by omega), hi2]
    simp only [Option.bind_some, if_true]
    have hb : 1 ≤ s.f1 ∧ s.f1 ≤ 1000000000 := by simp [mayS, sMay] at hm; omega
    have hr := sRow_ins s l hs
    have hl : sLast (ins s l) s.f0 = s.f1 := by unfold sLast; rw [hr]
    have h1 : sLook (ins s l) s.f0 s.f1 = (s.f2.f0, s.f2.f1, 1) := by
      unfold sLook
      rw [hl, if_neg (by omega), if_pos rfl, hr]
    have h2 : sLook (ins s l) s.f0 (wrap64 (s.f1 - 1)) = (0, 0, 2) := by
      unfold sLook
      have : wrap64 (s.f1 - 1) = s.f1 - 1 := by unfold wrap64; omega
      rw [hl, this, if_neg (by omega), if_neg (by omega)]
    have h3 : sLook (ins s l) s.f0 (wrap64 (s.f1 + 1)) = (0, 0, 0) := by
      unfold sLook
      have : wrap64 (s.f1 + 1) = s.f1 + 1 := by unfold wrap64; omega
      rw [hl, this, if_pos (by omega)]
    rw [h1, h2, h3]
    have hw : wrap64 ((l.length : Int) + 1) = (l.length : Int) + 1 := by unfold wrap64; omega
    have hd : decide (((ins s l).length : Int) ≤ wrap64 ((l.length : Int) + 1)) = true := by
      rw [hw]; simp; omega
    rw [hd]
    simp only [beq_self_eq_true, Bool.and_self, if_true]
    by_cases hc : c = s.f0
    · rw [if_pos hc]
    · rw [if_neg hc]
      have h4 : sLook (ins s l) c q = sLook l c q := by
        unfold sLook sLast
        rw [sRow_ins_ne s c hc l]
      rw [h4]
      simp
  · rw [if_neg he, seen_now (k + 2) (by omega), put_out l s he]
    rfl
end Go.Proofs.Ytbohgnecphhdmaa.Pure
