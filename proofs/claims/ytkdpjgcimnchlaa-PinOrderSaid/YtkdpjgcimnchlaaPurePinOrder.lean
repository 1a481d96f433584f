import Derived.Test.YtkdpjgcimnchlaaPStatPinOrder
import Derived.Test.YtkdpjgcimnchlaaSpec
set_option linter.unusedVariables false
set_option linter.unusedSimpArgs false
namespace Go.Proofs.Ytkdpjgcimnchlaa.Pure
open Go.RowKit Go.Proofs.YtkdpjgcimnchlaaW.PrintWords Go.Proofs.YtkdpjgcimnchlaaW.PrintLast Go.Proofs.YtkdpjgcimnchlaaW.PrintMore Go.Proofs.Ytkdpjgcimnchlaa.P Go.Proofs.Ytkdpjgcimnchlaa.Spec

theorem add_of' (l : List S24) (hl : l.length ≤ 1000000) (p : S24) (k : Nat) (hk : l.length + 1 < k) : pin_Add.f k l p.f0 p.f1 = some (sAdd l p) := by
  obtain ⟨m, rfl⟩ : ∃ n, k = n + 1 := ⟨k - 1, by omega⟩
  exact add_of l hl p m (by omega)
/-- Rows put in turn. -/
def many (l : List S24) : List S24 := l.foldl (fun a s => ins s a) []
theorem many_append (l : List S24) (s : S24) : many (l ++ [s]) = ins s (many l) := by simp [many]
/-- Clients all unlike. -/
def Unlike (l : List S24) : Prop := l.Pairwise (fun a b => a.f0 ≠ b.f0)
theorem many_spec' (l : List S24) : Unlike l.reverse → Srt (many l.reverse) ∧ (many l.reverse).Perm l.reverse := by
  induction l with
  | nil => exact fun _ => ⟨List.Pairwise.nil, List.Perm.refl _⟩
  | cons s l ih =>
    rw [List.reverse_cons]
    generalize l.reverse = l at ih ⊢
    intro hu
    rw [Unlike, List.pairwise_append] at hu
    obtain ⟨h1, h2⟩ := ih hu.1
    rw [many_append]
    have hh : sHas (many l) s.f0 = false := by
      unfold sHas
      rw [List.any_eq_false]
      intro x hx
      have := hu.2.2 x (h2.mem_iff.1 hx) s (List.mem_singleton.2 rfl)
      simpa [isC] using this
    refine ⟨ins_srt s _ h1 hh, ?_⟩
    exact (ins_perm s _).trans ((h2.cons s).trans (List.perm_append_singleton s l).symm)
theorem many_spec (l : List S24) : Unlike l → Srt (many l) ∧ (many l).Perm l := by
  have h := many_spec' l.reverse
  rwa [List.reverse_reverse] at h
theorem srt_unique {a b : List S24} (ha : Srt a) (hb : Srt b) (h : a.Perm b) : a = b :=
  h.eq_of_pairwise (fun x y _ _ h1 h2 => absurd (Int.lt_trans h1 h2) (Int.lt_irrefl _)) ha hb
theorem many_reverse (l : List S24) (h : Unlike l) : many l.reverse = many l := by
  obtain ⟨h1, h2⟩ := many_spec l h
  have hr : Unlike l.reverse := by
    unfold Unlike; rw [List.pairwise_reverse]
    exact List.Pairwise.imp (fun h => Ne.symm h) h
  obtain ⟨h3, h4⟩ := many_spec l.reverse hr
  exact srt_unique h3 h1 (h4.trans ((List.reverse_perm l).trans h2.symm))
theorem in_loop (x : List S24) (hx : x.length ≤ 60) (a b : List S24) (i : Nat) (hi : i < x.length) (K : Nat) (hK : 40 ≤ K) (R : Int → Option Bool) (d : Nat) : ∀ (k j : Nat), i - j = d → j ≤ i → d + 1000 + K < k →
    (∀ m, k - d ≤ m + 1 → (∀ j' : Nat, j ≤ j' → (hj : j' < i) → (x[j']).f0 ≠ x[i].f0) → sextonlaw17_PinOrder.l1 (m + 1) x a b (i : Int) (i : Int) = some true) →
    sextonlaw17_PinOrder.l1 k x a b (i : Int) (j : Int) = some true := by
  induction d with
  | zero =>
    intro k j hd hj hk H
    have : j = i := by omega
    subst this
    obtain ⟨k, rfl⟩ : ∃ m, k = m + 1 := ⟨k - 1, by omega⟩
    exact H k (by omega) (fun j' h1 h2 => by omega)
  | succ d ih =>
    intro k j hd hj hk H
    obtain ⟨k, rfl⟩ : ∃ m, k = m + 1 := ⟨k - 1, by omega⟩
    simp only [sextonlaw17_PinOrder.l1]
    rw [if_pos (by omega), if_pos (by omega), if_pos (by omega), if_pos (by omega), if_pos (by omega), rd_nat x j (by omega), rd_nat x i hi, wrap_nat j (by omega)]
    by_cases hc : (x[j]).f0 = x[i].f0
    · rw [if_pos hc, pinned_now k (by omega)]
      rfl
    · rw [if_neg hc]
      refine ih k (j + 1) (by omega) (by omega) (by omega) (fun m hm hne => H m (by omega) (fun j' h1 h2 => ?_))
      by_cases hjj : j' = j
      · subst hjj; exact hc
      · exact hne j' (by omega) h2
theorem take_unlike (x : List S24) (i : Nat) (hi : i < x.length) (h : Unlike (x.take i)) (hne : ∀ j' : Nat, 0 ≤ j' → (hj : j' < i) → (x[j']).f0 ≠ x[i].f0) : Unlike (x.take (i + 1)) := by
  rw [List.take_succ_eq_append_getElem hi, Unlike, List.pairwise_append]
  refine ⟨h, List.pairwise_singleton _ _, fun y hy z hz => ?_⟩
  rw [List.mem_singleton] at hz
  subst hz
  obtain ⟨j, hj, rfl⟩ := List.getElem_of_mem hy
  have : j < i := by simp at hj; omega
  rw [List.getElem_take]
  exact hne j (by omega) this
theorem out_loop (x : List S24) (hx : x.length ≤ 60) (d : Nat) : ∀ (k i : Nat), x.length - i = d → i ≤ x.length → d * 100 + 3000 < k →
    Unlike (x.take i) → (many (x.take i)).length ≤ i → (many (x.reverse.take i)).length ≤ i →
    sextonlaw17_PinOrder.l0 k x (many (x.take i)) (many (x.reverse.take i)) (i : Int) = some true := by
  induction d with
  | zero =>
    intro k i hd hi hk hu h1 h2
    obtain ⟨k, rfl⟩ : ∃ m, k = m + 1 := ⟨k - 1, by omega⟩
    have : i = x.length := by omega
    subst this
    rw [List.take_length] at hu h1 ⊢
    rw [List.take_of_length_le (by simp), many_reverse x hu]
    simp only [sextonlaw17_PinOrder.l0]
    rw [if_neg (by omega), pinned_now k (by omega)]
    simp only [Option.bind_some, if_true]
    rw [same_of _ (by omega) k (by omega)]
    simp only [Option.bind_some, if_true]
    rw [Least_of _ (by omega) k (by omega), Least_of x (by omega) k (by omega), sLeast_perm (many_spec x hu).2]
    simp
  | succ d ih =>
    intro k i hd hi hk hu h1 h2
    obtain ⟨k, rfl⟩ : ∃ m, k = m + 1 := ⟨k - 1, by omega⟩
    have hlt : i < x.length := by omega
    simp only [sextonlaw17_PinOrder.l0]
    rw [if_pos (by omega)]
    refine in_loop x hx _ _ i hlt 100 (by omega) (fun _ => none) i k 0 (by omega) (by omega) (by omega) (fun m hm hne => ?_)
    have hw : wrap64 (wrap64 ((x.length : Int) - 1) - (i : Int)) = ((x.length - 1 - i : Nat) : Int) := by unfold wrap64; omega
    simp only [sextonlaw17_PinOrder.l1]
    obtain ⟨m, rfl⟩ : ∃ n, m = n + 2 := ⟨m - 2, by omega⟩
    rw [if_neg (by omega), if_pos (by omega), if_pos (by omega), hw, rd_nat x i hlt, rd_nat x (x.length - 1 - i) (by omega), wrap_nat i (by omega), add_of' _ (by omega) x[i] (m + 2) (by omega)]
    simp only [Option.bind_some]
    rw [if_pos (by omega), if_pos (by omega), add_of' _ (by omega) x[x.length - 1 - i] (m + 2) (by omega)]
    simp only [Option.bind_some]
    by_cases he : (sAdd (many (x.take i)) x[i]).2 = 0
    · rw [if_pos he]
      by_cases hf : (sAdd (many (x.reverse.take i)) x[x.length - 1 - i]).2 = 0
      · rw [if_pos hf, (add_in _ _ he).2.2.2.1, (add_in _ _ hf).2.2.2.1]
        have hr : i < x.reverse.length := by simpa using hlt
        have e1 : ins x[i] (many (x.take i)) = many (x.take (i + 1)) := by
          rw [List.take_succ_eq_append_getElem hlt, many_append]
        have e2 : ins x[x.length - 1 - i] (many (x.reverse.take i)) = many (x.reverse.take (i + 1)) := by
          rw [List.take_succ_eq_append_getElem hr, many_append, List.getElem_reverse]
        have l1 := ins_length x[i] (many (x.take i))
        have l2 := ins_length x[x.length - 1 - i] (many (x.reverse.take i))
        rw [e1] at l1 ⊢
        rw [e2] at l2 ⊢
        exact ih (m + 2) (i + 1) (by omega) (by omega) (by omega) (take_unlike x i hlt hu hne) (by omega) (by omega)
      · rw [if_neg hf, pinned_now _ (by omega)]
        rfl
    · rw [if_neg he, pinned_now _ (by omega)]
      rfl
theorem PinOrder : sextonlaw17_PinOrder.Pure := by
  intro l _
  refine ⟨20000, ?_⟩
  simp only [sextonlaw17_PinOrder.f]
  by_cases h0 : (l.length : Int) > 60
  · rw [if_pos h0]
  rw [if_neg h0]
  exact out_loop l (by omega) l.length 20000 0 (by omega) (by omega) (by omega) List.Pairwise.nil (by simp [many]) (by simp [many])
end Go.Proofs.Ytkdpjgcimnchlaa.Pure
