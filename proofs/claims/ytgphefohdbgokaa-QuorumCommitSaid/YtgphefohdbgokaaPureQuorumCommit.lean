import Derived.Test.YtgphefohdbgokaaPStatQuorumCommit
import Derived.Test.YtgphefohdbgokaaSpec
set_option linter.unusedVariables false
set_option linter.unusedSimpArgs false
namespace Go.Proofs.Ytgphefohdbgokaa.Pure
open Go.RowKit Go.Proofs.YtgphefohdbgokaaW.PrintWords Go.Proofs.YtgphefohdbgokaaW.PrintLast Go.Proofs.YtgphefohdbgokaaW.PrintMore Go.Proofs.Ytgphefohdbgokaa.P Go.Proofs.Ytgphefohdbgokaa.Spec

/-- The place in the sorted row that is handed back. -/
def mid (n : Nat) : Nat := n - (n / 2 + 1)
/-- What Commit answers. -/
def val (l : List Int) : Int := if l.length = 0 then 0 else max ((quorum_Commit.sorted l).getD (mid l.length) 0) 0
theorem commit_of (l : List Int) (hl : l.length ≤ 60) : quorum_Commit.f l = some (val l) := by
  unfold quorum_Commit.f val mid
  split
  · rfl
  · rw [if_pos (by omega)]
def ge (c : Int) (l : List Int) : Nat := l.countP (fun x => decide (c ≤ x))
def gt (c : Int) (l : List Int) : Nat := l.countP (fun x => decide (c < x))
theorem ge_sorted (c : Int) (l : List Int) : ge c (quorum_Commit.sorted l) = ge c l := (quorum_Commit.sorted_perm l).countP_eq _
theorem gt_sorted (c : Int) (l : List Int) : gt c (quorum_Commit.sorted l) = gt c l := (quorum_Commit.sorted_perm l).countP_eq _
theorem sorted_le (s : List Int) (hs : s.Pairwise (· ≤ ·)) (i j : Nat) (hij : i ≤ j) (hj : j < s.length) : s[i] ≤ s[j] := by
  rcases Nat.eq_or_lt_of_le hij with rfl | h
  · exact Int.le_refl _
  · exact List.pairwise_iff_getElem.1 hs i j _ _ h
/-- From a place of a sorted row on all are as great as there. -/
theorem ge_from (s : List Int) (hs : s.Pairwise (· ≤ ·)) (m : Nat) (hm : m < s.length) (c : Int) (hc : c ≤ s[m]) : s.length - m ≤ ge c s := by
  have h1 : ge c (s.drop m) = (s.drop m).length := by
    unfold ge
    rw [List.countP_eq_length]
    intro x hx
    obtain ⟨j, hj, rfl⟩ := List.getElem_of_mem hx
    rw [List.getElem_drop]
    have := sorted_le s hs m (m + j) (by omega) (by simp at hj; omega)
    simp; omega
  have h2 : ge c s = ge c (s.take m) + ge c (s.drop m) := by
    unfold ge
    rw [← List.countP_append, List.take_append_drop]
  rw [h1, List.length_drop] at h2
  omega
/-- Up to a place of a sorted row none is greater than there. -/
theorem gt_upto (s : List Int) (hs : s.Pairwise (· ≤ ·)) (m : Nat) (hm : m < s.length) (c : Int) (hc : s[m] ≤ c) : gt c s ≤ s.length - (m + 1) := by
  have h1 : gt c (s.take (m + 1)) = 0 := by
    unfold gt
    rw [List.countP_eq_zero]
    intro x hx
    obtain ⟨j, hj, rfl⟩ := List.getElem_of_mem hx
    rw [List.getElem_take]
    have := sorted_le s hs j m (by simp at hj; omega) hm
    simp; omega
  have h2 : gt c s = gt c (s.take (m + 1)) + gt c (s.drop (m + 1)) := by
    unfold gt
    rw [← List.countP_append, List.take_append_drop]
  have h3 : gt c (s.drop (m + 1)) ≤ (s.drop (m + 1)).length := List.countP_le_length
  rw [h1] at h2
  rw [List.length_drop] at h3
  omega
theorem val_nonneg (l : List Int) : 0 ≤ val l := by unfold val; split <;> omega
theorem val_pos (l : List Int) (h : 0 < l.length) : ∃ hm : mid l.length < (quorum_Commit.sorted l).length, val l = max (quorum_Commit.sorted l)[mid l.length] 0 := by
  have hl : (quorum_Commit.sorted l).length = l.length := (quorum_Commit.sorted_perm l).length_eq
  have hm : mid l.length < (quorum_Commit.sorted l).length := by unfold mid; omega
  refine ⟨hm, ?_⟩
  unfold val
  rw [if_neg (by omega), List.getD_eq_getElem?_getD, List.getElem?_eq_getElem hm]
  rfl
theorem val_many (l : List Int) (h : 0 < val l) : l.length / 2 + 1 ≤ ge (val l) l := by
  have h0 : 0 < l.length := by
    rcases Nat.eq_zero_or_pos l.length with h0 | h0
    · unfold val at h; rw [if_pos h0] at h; omega
    · exact h0
  obtain ⟨hm, hv⟩ := val_pos l h0
  have hl : (quorum_Commit.sorted l).length = l.length := (quorum_Commit.sorted_perm l).length_eq
  have h1 := ge_from _ (quorum_Commit.sorted_sorted l) _ hm (val l) (by omega)
  rw [ge_sorted, hl] at h1
  unfold mid at h1
  omega
theorem val_next (l : List Int) (h0 : 0 < l.length) : gt (val l) l ≤ l.length / 2 := by
  obtain ⟨hm, hv⟩ := val_pos l h0
  have hl : (quorum_Commit.sorted l).length = l.length := (quorum_Commit.sorted_perm l).length_eq
  have h1 := gt_upto _ (quorum_Commit.sorted_sorted l) _ hm (val l) (by omega)
  rw [gt_sorted, hl] at h1
  unfold mid at h1
  omega
/-- As many as a majority are no less: what is committed is no less. -/
theorem val_ge (l : List Int) (c : Int) (h : l.length / 2 + 1 ≤ ge c l) : c ≤ val l := by
  have h0 : 0 < l.length := by
    have : ge c l ≤ l.length := List.countP_le_length
    omega
  obtain ⟨hm, hv⟩ := val_pos l h0
  have hl : (quorum_Commit.sorted l).length = l.length := (quorum_Commit.sorted_perm l).length_eq
  rcases Int.lt_or_le (quorum_Commit.sorted l)[mid l.length] c with h1 | h1
  · exfalso
    have h2 := gt_upto _ (quorum_Commit.sorted_sorted l) _ hm (c - 1) (by omega)
    rw [gt_sorted, hl] at h2
    have h3 : gt (c - 1) l = ge c l := by
      unfold gt ge
      congr 1
      funext x
      exact decide_eq_decide.2 (by omega)
    rw [h3] at h2
    unfold mid at h2
    omega
  · omega
theorem ge_set (c : Int) (l : List Int) : ∀ (i : Nat) (x : Int) (hi : i < l.length), l[i] ≤ x → ge c l ≤ ge c (l.set i x) := by
  induction l with
  | nil => intro i x hi; simp at hi
  | cons y l ih =>
    intro i x hi hx
    cases i with
    | zero =>
      simp only [List.getElem_cons_zero] at hx
      simp only [List.set_cons_zero, ge, List.countP_cons]
      by_cases h1 : c ≤ y
      · have h2 : c ≤ x := by omega
        simp [h1, h2]
      · simp [h1]
    | succ i =>
      simp only [List.getElem_cons_succ] at hx
      have := ih i x (by simpa using hi) hx
      simp only [ge] at this
      simp only [List.set_cons_succ, ge, List.countP_cons]
      omega
theorem rd_at (l : List Int) (i : Nat) (h : i < l.length) : rd l (i : Int) = l[i] := by
  unfold rd
  simp [List.getD_eq_getElem?_getD, List.getElem?_eq_getElem h]
theorem maj_of (n : Nat) (h0 : 0 < n) (hn : n ≤ 60) : quorum_Majority.f (n : Int) = some ((n / 2 + 1 : Nat) : Int) := by
  unfold quorum_Majority.f
  rw [if_neg (by omega), Int.tdiv_eq_ediv_of_nonneg (by omega)]
  refine congrArg some ?_
  unfold wrap64
  omega
theorem commit_loop (l : List Int) (hl : l.length ≤ 60) (at_ more : Int) (d : Nat) : ∀ (k i : Nat), l.length - i = d → i ≤ l.length → d + 200 < k →
    (∀ k', 100 ≤ k' → sextonlaw22_QuorumCommit.j1 k' l at_ more (val l) false = some true) →
    sextonlaw22_QuorumCommit.l0 k l at_ more (val l) ((ge (val l) (l.take i) : Nat) : Int) ((gt (val l) (l.take i) : Nat) : Int) (i : Int) = some true := by
  induction d with
  | zero =>
    intro k i hd hi hk H
    obtain ⟨k, rfl⟩ : ∃ m, k = m + 1 := ⟨k - 1, by omega⟩
    have : i = l.length := by omega
    subst this
    have hnn := val_nonneg l
    simp only [sextonlaw22_QuorumCommit.l0]
    rw [List.take_length, if_neg (by omega), if_neg (by omega)]
    by_cases hc : val l > 0
    · have hmany := val_many l hc
      have h0 : 0 < l.length := by
        have : ge (val l) l ≤ l.length := List.countP_le_length
        omega
      have hnext := val_next l h0
      rw [if_pos hc, maj_of _ h0 hl]
      simp only [Option.bind_some]
      rw [if_neg (by omega), if_pos (by omega), decide_eq_false (by omega)]
      exact H k (by omega)
    · rw [if_neg hc]
      by_cases h0 : 0 < l.length
      · have hnext := val_next l h0
        rw [if_pos (by omega), maj_of _ h0 hl]
        simp only [Option.bind_some]
        rw [decide_eq_false (by omega)]
        exact H k (by omega)
      · rw [if_neg (by omega)]
        exact H k (by omega)
  | succ d ih =>
    intro k i hd hi hk H
    obtain ⟨k, rfl⟩ : ∃ m, k = m + 1 := ⟨k - 1, by omega⟩
    have hlt : i < l.length := by omega
    have h1 : ge (val l) (l.take (i + 1)) = ge (val l) (l.take i) + if val l ≤ l[i] then 1 else 0 := by
      rw [List.take_succ_eq_append_getElem hlt]
      unfold ge
      rw [List.countP_append, List.countP_singleton]
      simp
    have h2 : gt (val l) (l.take (i + 1)) = gt (val l) (l.take i) + if val l < l[i] then 1 else 0 := by
      rw [List.take_succ_eq_append_getElem hlt]
      unfold gt
      rw [List.countP_append, List.countP_singleton]
      simp
    have hle1 : ge (val l) (l.take i) ≤ (l.take i).length := List.countP_le_length
    have hle2 : gt (val l) (l.take i) ≤ (l.take i).length := List.countP_le_length
    have hlen : (l.take i).length = i := by simp; omega
    have hr := ih k (i + 1) (by omega) (by omega) (by omega) H
    rw [h1, h2] at hr
    simp only [sextonlaw22_QuorumCommit.l0]
    rw [if_pos (by omega), if_pos (by omega), rd_at l i hlt, wrap_nat i (by omega), wrap_nat (ge (val l) (l.take i)) (by omega), wrap_nat (gt (val l) (l.take i)) (by omega)]
    by_cases hg : l[i] ≥ val l
    · rw [if_pos hg]
      rw [if_pos hg] at hr
      by_cases hg2 : l[i] > val l
      · rw [if_pos hg2]
        rw [if_pos hg2] at hr
        exact hr
      · rw [if_neg hg2]
        rw [if_neg hg2] at hr
        exact hr
    · have hg2 : ¬ l[i] > val l := by omega
      rw [if_neg hg, if_neg hg2]
      rw [if_neg hg, if_neg hg2] at hr
      exact hr
theorem QuorumCommit : sextonlaw22_QuorumCommit.Pure := by
  intro l at_ more _ _ _
  obtain ⟨k0, hk0⟩ : ∃ k, 1000 ≤ k := ⟨1000, Nat.le_refl _⟩
  refine ⟨k0, ?_⟩
  simp only [sextonlaw22_QuorumCommit.f]
  by_cases h0 : (l.length : Int) > 60
  · rw [if_pos h0]
  rw [if_neg h0, commit_of l (by omega)]
  simp only [Option.bind_some]
  have hg : ∀ H, sextonlaw22_QuorumCommit.l0 k0 l at_ more (val l) 0 0 0 = some true := fun H => commit_loop l (by omega) at_ more l.length k0 0 (by omega) (by omega) (by omega) H
  refine hg (fun k hk => ?_)
  obtain ⟨k, rfl⟩ : ∃ m, k = m + 1 := ⟨k - 1, by omega⟩
  have hj : ∀ b, b = true → sextonlaw22_QuorumCommit.j2 k l at_ more (val l) b = some true := by
    rintro b rfl
    obtain ⟨k, rfl⟩ : ∃ m, k = m + 1 := ⟨k - 1, by omega⟩
    simp only [sextonlaw22_QuorumCommit.j2]
    rw [if_pos trivial, most_now k (by omega)]
    rfl
  simp only [sextonlaw22_QuorumCommit.j1]
  rw [if_neg (by decide)]
  by_cases h1 : at_ < 0
  · rw [if_pos h1]; exact hj _ rfl
  rw [if_neg h1]
  by_cases h2 : at_ ≥ (l.length : Int)
  · rw [if_pos h2]; exact hj _ rfl
  obtain ⟨i, rfl⟩ := Int.eq_ofNat_of_zero_le (show 0 ≤ at_ by omega)
  have hi : i < l.length := by omega
  rw [if_neg h2, if_pos (by omega), if_pos (by omega), rd_at l i hi]
  by_cases h3 : more < l[i]
  · exact hj _ (decide_eq_true h3)
  rw [decide_eq_false h3]
  obtain ⟨k, rfl⟩ : ∃ m, k = m + 1 := ⟨k - 1, by omega⟩
  simp only [sextonlaw22_QuorumCommit.j2]
  rw [if_neg (by decide), if_pos (by simp; omega)]
  simp only [Option.bind_some, List.nil_append]
  rw [if_pos (by omega), if_pos (by omega), most_now k (by omega), Int.toNat_natCast, commit_of _ (by simp; omega)]
  simp only [Option.bind_some]
  rw [if_pos trivial]
  refine congrArg some (decide_eq_true ?_)
  have hnn := val_nonneg (l.set i more)
  by_cases hc : val l > 0
  · refine val_ge _ _ ?_
    have h4 := val_many l hc
    have h5 := ge_set (val l) l i more hi (by omega)
    simp only [List.length_set]
    omega
  · omega
end Go.Proofs.Ytgphefohdbgokaa.Pure
