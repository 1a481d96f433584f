import Derived.Test.YtkdpjgcimnchlaaPStatPinRuns
import Derived.Test.YtkdpjgcimnchlaaSpec
set_option linter.unusedVariables false
set_option linter.unusedSimpArgs false
namespace Go.Proofs.Ytkdpjgcimnchlaa.Pure
open Go.RowKit Go.Proofs.YtkdpjgcimnchlaaW.PrintWords Go.Proofs.YtkdpjgcimnchlaaW.PrintLast Go.Proofs.YtkdpjgcimnchlaaW.PrintMore Go.Proofs.Ytkdpjgcimnchlaa.P Go.Proofs.Ytkdpjgcimnchlaa.Spec

theorem rd40 (l : List S40) (i : Nat) (h : i < l.length) : rd_T40 l (i : Int) = l[i] := by
  unfold rd_T40
  simp [List.getD_eq_getElem?_getD, List.getElem?_eq_getElem h]
theorem ins_find (s : S24) (l : List S24) (hh : sHas l s.f0 = false) : (ins s l).find? (isC s.f0) = some s := by
  induction l with
  | nil => simp [ins, isC]
  | cons y ys ih =>
    simp only [sHas, List.any_cons, Bool.or_eq_false_iff] at hh
    simp only [ins]
    split
    · rw [List.find?_cons_of_neg (by rw [hh.1]; decide)]
      exact ih hh.2
    · rw [List.find?_cons_of_pos (by simp [isC])]
theorem ins_find_ne (s : S24) (c : Int) (hc : c ≠ s.f0) (l : List S24) : (ins s l).find? (isC c) = l.find? (isC c) := by
  have hn : ¬ isC c s = true := by simpa [isC] using fun h : s.f0 = c => hc h.symm
  induction l with
  | nil =>
    simp only [ins]
    rw [List.find?_cons_of_neg hn]
  | cons y ys ih =>
    simp only [ins]
    split
    · rw [List.find?_cons, List.find?_cons, ih]
    · rw [List.find?_cons_of_neg hn]
theorem out_find (l : List S24) (c : Int) : (out l c).find? (isC c) = none := by
  rw [List.find?_eq_none]
  intro x hx
  have := (List.mem_filter.1 hx).2
  simpa using this
theorem out_find_ne (l : List S24) (c d : Int) (hc : c ≠ d) : (out l d).find? (isC c) = l.find? (isC c) := by
  induction l with
  | nil => rfl
  | cons y ys ih =>
    by_cases hd : isC d y = true
    · have hn : ¬ isC c y = true := by
        intro h
        simp only [isC, beq_iff_eq] at h hd
        omega
      have h1 : out (y :: ys) d = out ys d := by simp [out, hd]
      rw [h1, ih, List.find?_cons_of_neg hn]
    · have hd' : isC d y = false := by simpa using hd
      have h1 : out (y :: ys) d = y :: out ys d := by simp [out, hd']
      rw [h1, List.find?_cons, List.find?_cons, ih]
/-- What is known of the session: it is there as it was put last. -/
def Known (l : List S24) (c at_ : Int) (held : Bool) : Prop := (sOf l c).2 = held ∧ (held = true → (sOf l c).1 = at_)
theorem runs_loop (x : List S40) (hx : x.length ≤ 100) (c : Int) (d : Nat) : ∀ (k i : Nat) (l : List S24) (at_ : Int) (held : Bool), x.length - i = d → i ≤ x.length → d * 3 + 1000 < k →
    l.length ≤ i → sIs l = true → Known l c at_ held → sextonlaw17_PinRuns.l0 k x c l at_ held (i : Int) = some true := by
  induction d with
  | zero =>
    intro k i l at_ held hd hi hk hl hs hkn
    obtain ⟨k, rfl⟩ : ∃ m, k = m + 1 := ⟨k - 1, by omega⟩
    simp only [sextonlaw17_PinRuns.l0]
    rw [if_neg (by omega), pinned_now k (by omega)]
    rfl
  | succ d ih =>
    intro k i l at_ held hd hi hk hl hs hkn
    obtain ⟨k, rfl⟩ : ∃ m, k = m + 1 := ⟨k - 1, by omega⟩
    have hlt : i < x.length := by omega
    -- behind a step that was let in
    have hj2 : ∀ (k : Nat) (m : List S24) (a : Int) (hd : Bool), d * 3 + 1000 < k → m.length ≤ i + 1 → sIs m = true → Known m c a hd → sextonlaw17_PinRuns.j2 (k + 1) x c a hd (i : Int) m = some true := by
      intro k m a hd hk hm hsm hkn
      simp only [sextonlaw17_PinRuns.j2]
      rw [of_of m (by omega) c]
      simp only [Option.bind_some]
      rw [if_neg (by rw [hkn.1]; simp), Is_of m (by omega) k (by omega), hsm, wrap_nat i (by omega)]
      have hgo := ih k (i + 1) m a hd (by omega) (by omega) (by omega) hm hsm hkn
      by_cases h2 : (sOf m c).2 = true
      · rw [if_pos h2, if_pos (hkn.2 (by rw [← hkn.1]; exact h2))]
        simp only [Option.bind_some]
        rw [if_pos trivial]
        exact hgo
      · rw [if_neg h2]
        simp only [Option.bind_some]
        rw [if_pos trivial]
        exact hgo
    have hskip : ∀ k, d * 3 + 1001 < k + 1 → sextonlaw17_PinRuns.l0 k x c l at_ held (wrap64 ((i : Int) + 1)) = some true := by
      intro k hk
      rw [wrap_nat i (by omega)]
      exact ih k (i + 1) l at_ held (by omega) (by omega) (by omega) (by omega) hs hkn
    simp only [sextonlaw17_PinRuns.l0]
    rw [if_pos (by omega), if_pos (by omega), rd40 x i hlt]
    by_cases h1 : x[i].f0 = 1
    · rw [if_pos h1]
      obtain ⟨k, rfl⟩ : ∃ m, k = m + 1 := ⟨k - 1, by omega⟩
      rw [add_of l (by omega) x[i].f1 k (by omega)]
      simp only [Option.bind_some, sextonlaw17_PinRuns.j1]
      by_cases he : (sAdd l x[i].f1).2 = 0
      · rw [if_pos he]
        obtain ⟨hi1, hm1, hh1, he1, hi2⟩ := add_in l x[i].f1 he
        have hlen := add_length l x[i].f1
        rw [he1] at hlen ⊢
        obtain ⟨k, rfl⟩ : ∃ m, k = m + 1 := ⟨k - 1, by omega⟩
        by_cases hc : x[i].f1.f0 = c
        · rw [if_pos hc, if_pos (by omega), if_pos (by omega), rd40 x i hlt, h1]
          refine hj2 k _ _ _ (by omega) (by omega) hi2 ?_
          have hf := ins_find x[i].f1 l hh1
          rw [hc] at hf
          unfold Known sOf
          rw [hf]
          exact ⟨rfl, fun _ => rfl⟩
        · rw [if_neg hc]
          refine hj2 k _ _ _ (by omega) (by omega) hi2 ?_
          unfold Known sOf at hkn ⊢
          rw [ins_find_ne x[i].f1 c (fun h => hc h.symm) l]
          exact hkn
      · rw [if_neg he]
        exact hskip k (by omega)
    rw [if_neg h1]
    by_cases h2 : x[i].f0 = 2
    · rw [if_pos h2, drop_of l (by omega) x[i].f1.f0 k (by omega)]
      simp only [Option.bind_some]
      obtain ⟨k, rfl⟩ : ∃ m, k = m + 1 := ⟨k - 1, by omega⟩
      simp only [sextonlaw17_PinRuns.j1]
      by_cases he : (sDrop l x[i].f1.f0).2 = 0
      · rw [if_pos he]
        obtain ⟨hi1, hh1, he1, hi2⟩ := drop_in l x[i].f1.f0 he
        have hlen := drop_length l x[i].f1.f0
        rw [he1] at hlen ⊢
        obtain ⟨k, rfl⟩ : ∃ m, k = m + 1 := ⟨k - 1, by omega⟩
        by_cases hc : x[i].f1.f0 = c
        · rw [if_pos hc, if_pos (by omega), if_pos (by omega), rd40 x i hlt, h2]
          refine hj2 k _ _ _ (by omega) (by omega) hi2 ?_
          unfold Known sOf
          rw [hc, out_find]
          exact ⟨rfl, fun h => by cases h⟩
        · rw [if_neg hc]
          refine hj2 k _ _ _ (by omega) (by omega) hi2 ?_
          unfold Known sOf at hkn ⊢
          rw [out_find_ne l c x[i].f1.f0 (fun h => hc h.symm)]
          exact hkn
      · rw [if_neg he]
        exact hskip k (by omega)
    · rw [if_neg h2]
      obtain ⟨k, rfl⟩ : ∃ m, k = m + 1 := ⟨k - 1, by omega⟩
      simp only [sextonlaw17_PinRuns.j1]
      rw [if_neg (by decide)]
      exact hskip k (by omega)
theorem PinRuns : sextonlaw17_PinRuns.Pure := by
  intro l c ⟨_, _⟩ _
  obtain ⟨k, hk⟩ : ∃ k, 3000 ≤ k := ⟨3000, Nat.le_refl _⟩
  refine ⟨k, ?_⟩
  simp only [sextonlaw17_PinRuns.f]
  by_cases h0 : (l.length : Int) > 100
  · rw [if_pos h0]
  rw [if_neg h0]
  exact runs_loop l (by omega) c l.length k 0 [] 0 false (by omega) (by omega) (by omega) (by simp) rfl ⟨rfl, fun h => by cases h⟩
end Go.Proofs.Ytkdpjgcimnchlaa.Pure
