import Derived.Test.YtgphefohdbgokaaPStatQuorumMeet
import Derived.Test.YtgphefohdbgokaaSpec
set_option linter.unusedVariables false
set_option linter.unusedSimpArgs false
namespace Go.Proofs.Ytgphefohdbgokaa.Pure
open Go.RowKit Go.Proofs.YtgphefohdbgokaaW.PrintWords Go.Proofs.YtgphefohdbgokaaW.PrintLast Go.Proofs.YtgphefohdbgokaaW.PrintMore Go.Proofs.Ytgphefohdbgokaa.P Go.Proofs.Ytgphefohdbgokaa.Spec

theorem froms_from (l : List S29) : ∀ (a : List Int), a.Nodup → (l.foldl (fun a v => if a.contains v.f0 then a else v.f0 :: a) a).Nodup ∧ ∀ x ∈ l.foldl (fun a v => if a.contains v.f0 then a else v.f0 :: a) a, x ∈ a ∨ ∃ v ∈ l, v.f0 = x := by
  induction l with
  | nil => intro a h; exact ⟨h, fun x hx => .inl hx⟩
  | cons v l ih =>
    intro a h
    rw [List.foldl_cons]
    by_cases hc : a.contains v.f0 = true
    · rw [if_pos hc]
      obtain ⟨h1, h2⟩ := ih a h
      refine ⟨h1, fun x hx => ?_⟩
      rcases h2 x hx with h3 | ⟨w, hw, h3⟩
      · exact .inl h3
      · exact .inr ⟨w, List.mem_cons_of_mem _ hw, h3⟩
    · rw [if_neg hc]
      obtain ⟨h1, h2⟩ := ih (v.f0 :: a) (List.nodup_cons.2 ⟨by simpa using hc, h⟩)
      refine ⟨h1, fun x hx => ?_⟩
      rcases h2 x hx with h3 | ⟨w, hw, h3⟩
      · rcases List.mem_cons.1 h3 with rfl | h3
        · exact .inr ⟨v, List.mem_cons_self, rfl⟩
        · exact .inl h3
      · exact .inr ⟨w, List.mem_cons_of_mem _ hw, h3⟩
theorem froms_spec (l : List S29) : (quorum_Enough.froms l).Nodup ∧ ∀ x ∈ quorum_Enough.froms l, ∃ v ∈ l, v.f0 = x := by
  obtain ⟨h1, h2⟩ := froms_from l [] List.nodup_nil
  exact ⟨h1, fun x hx => by
    rcases h2 x hx with h | h
    · simp at h
    · exact h⟩
/-- No more unlike numbers below n than n. -/
theorem pigeon (n : Nat) : ∀ (l : List Int), l.Nodup → (∀ x ∈ l, 0 ≤ x ∧ x < (n : Int)) → l.length ≤ n := by
  induction n with
  | zero =>
    intro l _ h
    cases l with
    | nil => simp
    | cons x l => have := h x List.mem_cons_self; omega
  | succ n ih =>
    intro l hn h
    have h1 := ih (l.erase (n : Int)) (hn.erase _) (fun x hx => by
      obtain ⟨h2, h3⟩ := hn.mem_erase_iff.1 hx
      have := h x h3
      omega)
    by_cases hm : (n : Int) ∈ l
    · rw [List.length_erase_of_mem hm] at h1
      omega
    · rw [List.erase_of_not_mem hm] at h1
      omega
theorem meet (n : Nat) (l m : List S29) (h1 : ∀ v ∈ l, 0 ≤ v.f0 ∧ v.f0 < (n : Int)) (h2 : ∀ v ∈ m, 0 ≤ v.f0 ∧ v.f0 < (n : Int)) (e1 : n / 2 + 1 ≤ (quorum_Enough.froms l).length) (e2 : n / 2 + 1 ≤ (quorum_Enough.froms m).length) :
    ∃ a ∈ l, ∃ b ∈ m, a.f0 = b.f0 := by
  obtain ⟨n1, s1⟩ := froms_spec l
  obtain ⟨n2, s2⟩ := froms_spec m
  refine Classical.byContradiction fun hno => ?_
  have hd : (quorum_Enough.froms l ++ quorum_Enough.froms m).Nodup := by
    rw [List.nodup_append]
    refine ⟨n1, n2, fun x hx y hy he => ?_⟩
    subst he
    obtain ⟨a, ha, rfl⟩ := s1 x hx
    obtain ⟨b, hb, hb2⟩ := s2 _ hy
    exact hno ⟨a, ha, b, hb, hb2.symm⟩
  have h3 := pigeon n _ hd (fun x hx => by
    rcases List.mem_append.1 hx with hx | hx
    · obtain ⟨a, ha, rfl⟩ := s1 x hx; exact h1 a ha
    · obtain ⟨a, ha, rfl⟩ := s2 x hx; exact h2 a ha)
  rw [List.length_append] at h3
  omega
def In (n : Nat) (l : List S29) : Prop := ∀ v ∈ l, 0 ≤ v.f0 ∧ v.f0 < (n : Int)
theorem In_take {n : Nat} {l : List S29} {i : Nat} (hlt : i < l.length) (h : In n (l.take i)) (h0 : 0 ≤ l[i].f0) (h1 : l[i].f0 < (n : Int)) : In n (l.take (i + 1)) := by
  intro v hv
  rw [List.take_succ_eq_append_getElem hlt, List.mem_append] at hv
  rcases hv with hv | hv
  · exact h v hv
  · rw [List.mem_singleton] at hv; subst hv; exact ⟨h0, h1⟩
theorem loop0 (n : Nat) (l m : List S29) (hl : l.length ≤ 30) (K : Nat) (H : ∀ k, K ≤ k → In n l → sextonlaw22_QuorumMeet.l1 k (n : Int) l m 0 = some true) (d : Nat) : ∀ (k i : Nat), l.length - i = d → i ≤ l.length → d + K + 100 < k → In n (l.take i) →
    sextonlaw22_QuorumMeet.l0 k (n : Int) l m (i : Int) = some true := by
  induction d with
  | zero =>
    intro k i hd hi hk hin
    obtain ⟨k, rfl⟩ : ∃ m, k = m + 1 := ⟨k - 1, by omega⟩
    simp only [sextonlaw22_QuorumMeet.l0]
    rw [if_neg (by omega)]
    rw [List.take_of_length_le (by omega)] at hin
    exact H k (by omega) hin
  | succ d ih =>
    intro k i hd hi hk hin
    obtain ⟨k, rfl⟩ : ∃ m, k = m + 1 := ⟨k - 1, by omega⟩
    have hlt : i < l.length := by omega
    simp only [sextonlaw22_QuorumMeet.l0]
    rw [if_pos (by omega), if_pos (by omega), rd_nat l i hlt, wrap_nat i (by omega)]
    by_cases h1 : l[i].f0 < 0
    · rw [if_pos h1, most_now k (by omega)]; rfl
    rw [if_neg h1]
    by_cases h2 : l[i].f0 ≥ (n : Int)
    · rw [if_pos h2, most_now k (by omega)]; rfl
    rw [if_neg h2]
    exact ih k (i + 1) (by omega) (by omega) (by omega) (In_take hlt hin (by omega) (by omega))
theorem loop1 (n : Nat) (l m : List S29) (hl : m.length ≤ 30) (K : Nat) (H : ∀ k, K ≤ k → In n m → sextonlaw22_QuorumMeet.l2 k (n : Int) l m false 0 = some true) (d : Nat) : ∀ (k i : Nat), m.length - i = d → i ≤ m.length → d + K + 100 < k → In n (m.take i) →
    sextonlaw22_QuorumMeet.l1 k (n : Int) l m (i : Int) = some true := by
  induction d with
  | zero =>
    intro k i hd hi hk hin
    obtain ⟨k, rfl⟩ : ∃ m, k = m + 1 := ⟨k - 1, by omega⟩
    simp only [sextonlaw22_QuorumMeet.l1]
    rw [if_neg (by omega)]
    rw [List.take_of_length_le (by omega)] at hin
    exact H k (by omega) hin
  | succ d ih =>
    intro k i hd hi hk hin
    obtain ⟨k, rfl⟩ : ∃ m, k = m + 1 := ⟨k - 1, by omega⟩
    have hlt : i < m.length := by omega
    simp only [sextonlaw22_QuorumMeet.l1]
    rw [if_pos (by omega), if_pos (by omega), rd_nat m i hlt, wrap_nat i (by omega)]
    by_cases h1 : m[i].f0 < 0
    · rw [if_pos h1, most_now k (by omega)]; rfl
    rw [if_neg h1]
    by_cases h2 : m[i].f0 ≥ (n : Int)
    · rw [if_pos h2, most_now k (by omega)]; rfl
    rw [if_neg h2]
    exact ih k (i + 1) (by omega) (by omega) (by omega) (In_take hlt hin (by omega) (by omega))
/-- A pair is met in the rest. -/
def Pair (l m : List S29) : Prop := ∃ a ∈ l, ∃ b ∈ m, a.f0 = b.f0
theorem enough_of (l : List S29) (hl : l.length ≤ 30) (hw : ∀ v ∈ l, (Lit.int .i64 v.f0).wf = true) (n : Nat) (h0 : 1 ≤ n) (hn : n ≤ 30) : quorum_Enough.f l (n : Int) = some (decide (n / 2 + 1 ≤ (quorum_Enough.froms l).length)) := by
  unfold quorum_Enough.f
  rw [if_neg (by omega), if_pos ⟨List.all_eq_true.2 (fun v hv => hw v hv), by omega, by omega⟩]
  exact congrArg some (decide_eq_decide.2 (by omega))
theorem loop2 (n : Nat) (l m : List S29) (hl : l.length ≤ 30) (hm : m.length ≤ 30) (h0 : 1 ≤ n) (hn : n ≤ 30) (hwl : ∀ v ∈ l, (Lit.int .i64 v.f0).wf = true) (hwm : ∀ v ∈ m, (Lit.int .i64 v.f0).wf = true) (hil : In n l) (him : In n m) (d : Nat) : ∀ (k i : Nat) (fl : Bool), l.length - i = d → i ≤ l.length → d * 50 + 100 < k →
    (Pair l m → fl = true ∨ Pair (l.drop i) m) → sextonlaw22_QuorumMeet.l2 k (n : Int) l m fl (i : Int) = some true := by
  induction d with
  | zero =>
    intro k i fl hd hi hk hp
    obtain ⟨k, rfl⟩ : ∃ m, k = m + 1 := ⟨k - 1, by omega⟩
    simp only [sextonlaw22_QuorumMeet.l2]
    rw [if_neg (by omega), most_now k (by omega)]
    simp only [Option.bind_some]
    rw [if_pos trivial, enough_of l hl hwl n h0 hn, enough_of m hm hwm n h0 hn]
    simp only [Option.bind_some]
    by_cases e1 : n / 2 + 1 ≤ (quorum_Enough.froms l).length
    · rw [if_pos (by simpa using e1)]
      by_cases e2 : n / 2 + 1 ≤ (quorum_Enough.froms m).length
      · rw [if_pos (by simpa using e2)]
        rcases hp (meet n l m hil him e1 e2) with h | ⟨a, ha, _⟩
        · rw [h]
        · rw [List.drop_eq_nil_of_le (by omega)] at ha
          simp at ha
      · rw [if_neg (by simpa using e2)]
    · rw [if_neg (by simpa using e1)]
  | succ d ih =>
    intro k i fl hd hi hk hp
    obtain ⟨k, rfl⟩ : ∃ m, k = m + 1 := ⟨k - 1, by omega⟩
    have hlt : i < l.length := by omega
    simp only [sextonlaw22_QuorumMeet.l2]
    rw [if_pos (by omega)]
    have inner : ∀ (e : Nat) (k j : Nat) (fl : Bool), m.length - j = e → j ≤ m.length → e + d * 50 + 102 < k → (Pair l m → fl = true ∨ (∃ b ∈ m.drop j, l[i].f0 = b.f0) ∨ Pair (l.drop (i + 1)) m) →
        sextonlaw22_QuorumMeet.l3 k (n : Int) l m fl (i : Int) (j : Int) = some true := by
      intro e
      induction e with
      | zero =>
        intro k j fl he hj hk hp
        obtain ⟨k, rfl⟩ : ∃ m, k = m + 1 := ⟨k - 1, by omega⟩
        simp only [sextonlaw22_QuorumMeet.l3]
        rw [if_neg (by omega), wrap_nat i (by omega)]
        refine ih k (i + 1) fl (by omega) (by omega) (by omega) (fun h => ?_)
        rcases hp h with h | ⟨b, hb, _⟩ | h
        · exact .inl h
        · rw [List.drop_eq_nil_of_le (by omega)] at hb
          simp at hb
        · exact .inr h
      | succ e ih2 =>
        intro k j fl he hj hk hp
        obtain ⟨k, rfl⟩ : ∃ m, k = m + 1 := ⟨k - 1, by omega⟩
        have hjt : j < m.length := by omega
        simp only [sextonlaw22_QuorumMeet.l3]
        rw [if_pos (by omega), wrap_nat j (by omega)]
        by_cases hf : fl = true
        · rw [if_pos hf]
          exact ih2 k (j + 1) true (by omega) (by omega) (by omega) (fun _ => .inl rfl)
        · rw [if_neg hf, if_pos (by omega), if_pos (by omega), if_pos (by omega), rd_nat l i hlt, rd_nat m j hjt]
          refine ih2 k (j + 1) _ (by omega) (by omega) (by omega) (fun h => ?_)
          rcases hp h with h | ⟨b, hb, hb2⟩ | h
          · exact absurd h hf
          · rw [List.drop_eq_getElem_cons hjt] at hb
            rcases List.mem_cons.1 hb with rfl | hb
            · exact .inl (by simpa using hb2)
            · exact .inr (.inl ⟨b, hb, hb2⟩)
          · exact .inr (.inr h)
    refine inner m.length k 0 fl (by omega) (by omega) (by omega) (fun h => ?_)
    rcases hp h with h | ⟨a, ha, b, hb, hab⟩
    · exact .inl h
    · rw [List.drop_eq_getElem_cons hlt] at ha
      rcases List.mem_cons.1 ha with rfl | ha
      · exact .inr (.inl ⟨b, by simpa using hb, hab⟩)
      · exact .inr (.inr ⟨a, ha, b, hb, hab⟩)
theorem QuorumMeet : sextonlaw22_QuorumMeet.Pure := by
  intro n l m _ ⟨hl, hBl⟩ ⟨hm, hBm⟩
  obtain ⟨k, hk⟩ : ∃ k, 20000 + l.length * 2 + many l + m.length * 2 + many m ≤ k := ⟨_, Nat.le_refl _⟩
  refine ⟨k + 1, ?_⟩
  have h0 : sextonlaw22_QuorumMeet.j0 (k + 1) n l m true = some true := by
    simp only [sextonlaw22_QuorumMeet.j0]
    rw [if_pos trivial]
  obtain ⟨b1, hb1, hf1⟩ := big_of l hl (fun v hv => (hBl v hv).2.2.2.1) (k + 1) (by omega)
  obtain ⟨b2, hb2, hf2⟩ := big_of m hm (fun v hv => (hBm v hv).2.2.2.1) (k + 1) (by omega)
  simp only [sextonlaw22_QuorumMeet.f]
  rw [hb1, hb2]
  simp only [Option.bind_some]
  cases b1 with
  | true => rw [if_pos rfl]; exact h0
  | false =>
    rw [if_neg (by decide)]
    cases b2 with
    | true => rw [if_pos rfl]; exact h0
    | false =>
      rw [if_neg (by decide)]
      by_cases h1 : n < 1
      · rw [if_pos h1]; exact h0
      rw [if_neg h1]
      by_cases h2 : n > 30
      · rw [decide_eq_true h2]; exact h0
      rw [decide_eq_false h2]
      simp only [sextonlaw22_QuorumMeet.j0]
      rw [if_neg (by decide)]
      obtain ⟨n, rfl⟩ := Int.eq_ofNat_of_zero_le (show 0 ≤ n by omega)
      have g1 := hf1 rfl
      have g2 := hf2 rfl
      have h30 := g1.1
      have h31 := g2.1
      exact loop0 n l m h30 6000 (fun k hk hil => loop1 n l m h31 3000 (fun k hk him => loop2 n l m h30 h31 (by omega) (by omega) (fun v hv => (hBl v hv).1) (fun v hv => (hBm v hv).1) hil him l.length k 0 false (by omega) (by omega) (by omega) (fun h => .inr h)) m.length k 0 (by omega) (by omega) (by omega) (by simp [In])) l.length k 0 (by omega) (by omega) (by omega) (by simp [In])
end Go.Proofs.Ytgphefohdbgokaa.Pure
