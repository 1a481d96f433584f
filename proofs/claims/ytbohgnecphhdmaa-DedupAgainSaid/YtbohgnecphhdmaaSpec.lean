/- What the printed functions of dedup and of its reference come to, in plain lists. -/
import Derived.Test.YtbohgnecphhdmaaPx6
import Derived.Test.YtbohgnecphhdmaaPx9
set_option linter.unusedVariables false
set_option linter.unusedSimpArgs false
namespace Go.Proofs.Ytbohgnecphhdmaa.Spec
open Go.RowKit Go.Proofs.YtbohgnecphhdmaaW.PrintWords Go.Proofs.YtbohgnecphhdmaaW.PrintLast Go.Proofs.YtbohgnecphhdmaaW.PrintMore Go.Proofs.Ytbohgnecphhdmaa.P

theorem wrap_nat (i : Nat) (h : i ≤ 1000000) : wrap64 ((i : Int) + 1) = ((i + 1 : Nat) : Int) := by unfold wrap64; omega
theorem rd_nat (l : List S27) (i : Nat) (h : i < l.length) : rd_T27 l (i : Int) = l[i] := by
  unfold rd_T27
  simp [List.getD_eq_getElem?_getD, List.getElem?_eq_getElem h]

def isC (c : Int) (s : S27) : Bool := s.f0 == c
def notLt (c : Int) (s : S27) : Bool := !(decide (s.f0 < c))

theorem place_of (l : List S27) (hl : l.length ≤ 1000000) (c : Int) (d : Nat) : ∀ (k i : Nat), l.length - i = d → i ≤ l.length → d < k →
    dedup_place_dedup_row_of.l0 k l c (i : Int) = some (((l.drop i).findIdx (isC c) + i : Nat) : Int) := by
  induction d with
  | zero =>
    intro k i hd hi hk
    obtain ⟨k, rfl⟩ : ∃ m, k = m + 1 := ⟨k - 1, by omega⟩
    have : i = l.length := by omega
    subst this
    simp only [dedup_place_dedup_row_of.l0]
    rw [if_neg (by omega)]
    simp
  | succ d ih =>
    intro k i hd hi hk
    obtain ⟨k, rfl⟩ : ∃ m, k = m + 1 := ⟨k - 1, by omega⟩
    have hlt : i < l.length := by omega
    simp only [dedup_place_dedup_row_of.l0]
    rw [if_pos (by omega), if_pos (by omega), rd_nat l i hlt, wrap_nat i (by omega), ih k (i + 1) (by omega) (by omega) (by omega), List.drop_eq_getElem_cons hlt, List.findIdx_cons]
    simp only [dedup_row_of.f, Option.bind_some, isC]
    by_cases h : l[i].f0 = c
    · simp [h]
    · have hb : (l[i].f0 == c) = false := by simpa using h
      rw [hb]
      simp
      omega
theorem place_put (l : List S27) (hl : l.length ≤ 1000000) (c : Int) (d : Nat) : ∀ (k i : Nat), l.length - i = d → i ≤ l.length → d < k →
    dedup_place_dedup_Put_1.l0 k l c (i : Int) = some (((l.drop i).findIdx (notLt c) + i : Nat) : Int) := by
  induction d with
  | zero =>
    intro k i hd hi hk
    obtain ⟨k, rfl⟩ : ∃ m, k = m + 1 := ⟨k - 1, by omega⟩
    have : i = l.length := by omega
    subst this
    simp only [dedup_place_dedup_Put_1.l0]
    rw [if_neg (by omega)]
    simp
  | succ d ih =>
    intro k i hd hi hk
    obtain ⟨k, rfl⟩ : ∃ m, k = m + 1 := ⟨k - 1, by omega⟩
    have hlt : i < l.length := by omega
    simp only [dedup_place_dedup_Put_1.l0]
    rw [if_pos (by omega), if_pos (by omega), rd_nat l i hlt, wrap_nat i (by omega), ih k (i + 1) (by omega) (by omega) (by omega), List.drop_eq_getElem_cons hlt, List.findIdx_cons]
    simp only [dedup_Put_1.f, dedup_row_ahead.f, Option.bind_some, notLt]
    by_cases h : l[i].f0 < c
    · simp [h]; omega
    · simp [h]
/-- A client's row, or a zero one. -/
def sRow (l : List S27) (c : Int) : S27 := (l.find? (isC c)).getD z27
def sHas (l : List S27) (c : Int) : Bool := l.any (isC c)
theorem find_of (l : List S27) (hl : l.length ≤ 1000000) (c : Int) (k : Nat) (hk : l.length < k) :
    dedup_find.f k l c = some ((sRow l c).f0, (sRow l c).f1, (sRow l c).f2.f0, (sRow l c).f2.f1, sHas l c) := by
  have h := place_of l hl c l.length k 0 (by omega) (by omega) hk
  simp only [List.drop_zero, Nat.add_zero] at h
  simp only [dedup_find.f, dedup_place_dedup_row_of.f]
  rw [show ((0 : Int)) = ((0 : Nat) : Int) from rfl, h]
  simp only [Option.bind_some]
  by_cases hf : l.findIdx (isC c) = l.length
  · rw [if_pos (by omega)]
    have hn : ∀ x ∈ l, isC c x = false := by
      intro x hx
      have := List.findIdx_eq_length.1 hf x hx
      simpa using this
    have h1 : sRow l c = z27 := by
      unfold sRow
      rw [List.find?_eq_none.2 (fun x hx => by simp [hn x hx])]
      rfl
    have h2 : sHas l c = false := by
      unfold sHas
      rw [List.any_eq_false]
      intro x hx
      simp [hn x hx]
    rw [h1, h2]
    rfl
  · have hle := List.findIdx_le_length (p := isC c) (xs := l)
    have hlt : l.findIdx (isC c) < l.length := by omega
    rw [if_neg (by omega), if_pos (by omega), if_pos (by omega), rd_nat l _ hlt]
    have hp := List.findIdx_getElem (w := hlt)
    have h1 : sRow l c = l[l.findIdx (isC c)] := by
      unfold sRow
      rw [List.find?_eq_getElem?_findIdx, List.getElem?_eq_getElem hlt]
      rfl
    have h2 : sHas l c = true := by
      unfold sHas
      rw [List.any_eq_true]
      exact ⟨_, List.getElem_mem hlt, hp⟩
    rw [h1, h2]
def sLast (l : List S27) (c : Int) : Int := (sRow l c).f1
theorem last_of (l : List S27) (hl : l.length ≤ 1000000) (c : Int) (k : Nat) (hk : l.length < k) : dedup_Last.f k l c = some (sLast l c) := by
  simp only [dedup_Last.f]
  rw [find_of l hl c k hk]
  rfl
def sLook (l : List S27) (c q : Int) : Int × Int × Int := if q > sLast l c then (0, 0, 0) else if q = sLast l c then ((sRow l c).f2.f0, (sRow l c).f2.f1, 1) else (0, 0, 2)
theorem look_of (l : List S27) (hl : l.length ≤ 1000000) (c q : Int) (k : Nat) (hk : l.length < k) : dedup_Look.f k l c q = some (sLook l c q) := by
  simp only [dedup_Look.f]
  rw [find_of l hl c k hk]
  simp only [Option.bind_some, sLook]
  rw [show (sRow l c).f1 = sLast l c from rfl]
  by_cases h1 : q > sLast l c
  · rw [if_pos h1, if_pos h1]
  · rw [if_neg h1, if_neg h1]
    by_cases h2 : q = sLast l c
    · rw [if_pos h2, if_pos h2]
    · rw [if_neg h2, if_neg h2]
/-! the reference's find, Last, Look -/
theorem rfind_of (l : List S27) (hl : l.length ≤ 1000000) (c : Int) (d : Nat) : ∀ (k i : Nat), l.length - i = d → i ≤ l.length → d < k →
    sextonref19_find.l0 k l c (i : Int) = some (if (l.drop i).any (isC c) then (((l.drop i).findIdx (isC c) + i : Nat) : Int) else -1) := by
  induction d with
  | zero =>
    intro k i hd hi hk
    obtain ⟨k, rfl⟩ : ∃ m, k = m + 1 := ⟨k - 1, by omega⟩
    have : i = l.length := by omega
    subst this
    simp only [sextonref19_find.l0]
    rw [if_neg (by omega)]
    simp
  | succ d ih =>
    intro k i hd hi hk
    obtain ⟨k, rfl⟩ : ∃ m, k = m + 1 := ⟨k - 1, by omega⟩
    have hlt : i < l.length := by omega
    simp only [sextonref19_find.l0]
    rw [if_pos (by omega), if_pos (by omega), rd_nat l i hlt, wrap_nat i (by omega), ih k (i + 1) (by omega) (by omega) (by omega), List.drop_eq_getElem_cons hlt, List.findIdx_cons, List.any_cons]
    by_cases h : l[i].f0 = c
    · have hb : isC c l[i] = true := by simpa [isC] using h
      simp [h, hb]
    · have hb : isC c l[i] = false := by simpa [isC] using h
      rw [if_neg h]
      simp only [hb, Bool.false_or, cond_false]
      split
      · congr 1; omega
      · rfl
theorem findIdx_lt_of_any {l : List S27} {p : S27 → Bool} (h : l.any p = true) : l.findIdx p < l.length := by
  rw [List.any_eq_true] at h
  exact List.findIdx_lt_length.2 h
theorem sRow_eq {l : List S27} {c : Int} (h : sHas l c = true) : ∃ hlt : l.findIdx (isC c) < l.length, sRow l c = l[l.findIdx (isC c)] := by
  have hlt := findIdx_lt_of_any h
  refine ⟨hlt, ?_⟩
  unfold sRow
  rw [List.find?_eq_getElem?_findIdx, List.getElem?_eq_getElem hlt]
  rfl
theorem sRow_none {l : List S27} {c : Int} (h : sHas l c = false) : sRow l c = z27 := by
  unfold sRow
  unfold sHas at h
  rw [List.any_eq_false] at h
  rw [List.find?_eq_none.2 (fun x hx => by simpa using h x hx)]
  rfl
theorem rlast_of (l : List S27) (hl : l.length ≤ 1000000) (c : Int) (k : Nat) (hk : l.length < k) : sextonref19_Last.f k l c = some (sLast l c) := by
  have h := rfind_of l hl c l.length k 0 (by omega) (by omega) hk
  simp only [List.drop_zero, Nat.add_zero] at h
  simp only [sextonref19_Last.f, sextonref19_find.f]
  rw [show ((0 : Int)) = ((0 : Nat) : Int) from rfl, h]
  simp only [Option.bind_some]
  by_cases hh : sHas l c = true
  · obtain ⟨hlt, hr⟩ := sRow_eq hh
    unfold sHas at hh
    rw [if_pos hh, if_neg (by omega), if_pos (by omega), if_pos (by omega), rd_nat l _ hlt]
    simp only [sLast, hr]
  · have hh' : sHas l c = false := by simpa using hh
    have hr := sRow_none hh'
    unfold sHas at hh
    rw [if_neg hh, if_pos (by decide)]
    simp only [sLast, hr]
    rfl
theorem rlook_of (l : List S27) (hl : l.length ≤ 1000000) (c q : Int) (k : Nat) (hk : l.length < k) : sextonref19_Look.f (k + 1) l c q = some (sLook l c q) := by
  have h := rfind_of l hl c l.length (k + 1) 0 (by omega) (by omega) (by omega)
  simp only [List.drop_zero, Nat.add_zero] at h
  simp only [sextonref19_Look.f]
  rw [rlast_of l hl c (k + 1) (by omega)]
  simp only [Option.bind_some, sLook]
  split
  · rfl
  · rw [sextonref19_find.f, show ((0 : Int)) = ((0 : Nat) : Int) from rfl, h]
    simp only [Option.bind_some]
    by_cases hh : sHas l c = true
    · obtain ⟨hlt, hr⟩ := sRow_eq hh
      unfold sHas at hh
      rw [if_pos hh]
      split
      · simp only [sextonref19_Look.j0]
        rw [if_pos (by simp), if_pos (by omega), if_pos (by omega), rd_nat l _ hlt, hr]
      · simp only [sextonref19_Look.j0]
        rw [if_neg (by simp), if_neg (by assumption)]
        rfl
    · have hh' : sHas l c = false := by simpa using hh
      have hr := sRow_none hh'
      unfold sHas at hh
      rw [if_neg hh]
      split
      · simp only [sextonref19_Look.j0]
        rw [if_neg (by simp), if_pos (by assumption), hr]
        rfl
      · simp only [sextonref19_Look.j0]
        rw [if_neg (by simp), if_neg (by assumption)]
        rfl
/-! Is -/
def sMay (a b c d : Int) : Bool := decide (0 ≤ a ∧ a ≤ 1000000 ∧ 1 ≤ b ∧ b ≤ 1000000000 ∧ 0 ≤ c ∧ c ≤ 1000 ∧ 0 ≤ d ∧ d ≤ 1000000000)
def mayS (s : S27) : Bool := sMay s.f0 s.f1 s.f2.f0 s.f2.f1
theorem may1_of (a b c : Int) : dedup_row_may_1.f a b c = some (decide (b ≤ a ∧ a ≤ c)) := by
  unfold dedup_row_may_1.f
  by_cases h : a ≥ b
  · rw [if_pos h]; congr 1; simp; omega
  · rw [if_neg h]; congr 1; simp; omega
theorem may_of (a b c d : Int) : dedup_row_may.f a b c d = some (sMay a b c d) := by
  simp only [dedup_row_may.f, may1_of, Option.bind_some, decide_eq_true_eq, sMay]
  by_cases h1 : 0 ≤ a ∧ a ≤ 1000000
  · rw [if_pos h1]
    by_cases h2 : 1 ≤ b ∧ b ≤ 1000000000
    · rw [if_pos h2]
      by_cases h3 : 0 ≤ c ∧ c ≤ 1000
      · rw [if_pos h3]; congr 1; simp [h1, h2, h3]
      · rw [if_neg h3]; congr 1; symm; simp; omega
    · rw [if_neg h2]; congr 1; symm; simp; omega
  · rw [if_neg h1]; congr 1; symm; simp; omega
theorem rmay_of (a b c d : Int) : sextonref19_may.f a b c d = some (sMay a b c d) := by
  have hf : ∀ {p : Prop} [Decidable p], ¬ p → some false = some (decide p) := fun h => by simp [h]
  simp only [sextonref19_may.f, sMay]
  by_cases h1 : a ≥ 0
  · rw [if_pos h1]
    by_cases h2 : a ≤ 1000000
    · rw [if_pos h2]
      by_cases h3 : b ≥ 1
      · rw [if_pos h3]
        by_cases h4 : b ≤ 1000000000
        · rw [if_pos h4]
          by_cases h5 : c ≥ 0
          · rw [if_pos h5]
            by_cases h6 : c ≤ 1000
            · rw [if_pos h6]
              by_cases h7 : d ≥ 0
              · rw [if_pos h7]; exact congrArg some (decide_eq_decide.2 (by constructor <;> intro h <;> omega))
              · rw [if_neg h7]; exact hf (by omega)
            · rw [if_neg h6]; exact hf (by omega)
          · rw [if_neg h5]; exact hf (by omega)
        · rw [if_neg h4]; exact hf (by omega)
      · rw [if_neg h3]; exact hf (by omega)
    · rw [if_neg h2]; exact hf (by omega)
  · rw [if_neg h1]; exact hf (by omega)
def sOrd : Option Int → List S27 → Bool
  | _, [] => true
  | none, x :: xs => mayS x && sOrd (some x.f0) xs
  | some a, x :: xs => mayS x && (decide (a < x.f0) && sOrd (some x.f0) xs)
def sIs (l : List S27) : Bool := sOrd none l && decide (l.length ≤ 50)
def prev (l : List S27) (i : Nat) : Option Int := if i = 0 then none else some (l.getD (i - 1) z27).f0
theorem prev_succ (l : List S27) (i : Nat) (h : i < l.length) : prev l (i + 1) = some l[i].f0 := by
  simp [prev, List.getD_eq_getElem?_getD, List.getElem?_eq_getElem h]
theorem wrap_pred (i : Nat) (h0 : 0 < i) (h : i ≤ 1000000) : wrap64 ((i : Int) - 1) = ((i - 1 : Nat) : Int) := by unfold wrap64; omega
theorem is_of (l : List S27) (hl : l.length ≤ 1000000) (d : Nat) : ∀ (k i : Nat), l.length - i = d → i ≤ l.length → d < k →
    dedup_Is.l0 k l l (l.length : Int) (i : Int) = some (sOrd (prev l i) (l.drop i) && decide (l.length ≤ 50)) := by
  induction d with
  | zero =>
    intro k i hd hi hk
    obtain ⟨k, rfl⟩ : ∃ m, k = m + 1 := ⟨k - 1, by omega⟩
    have : i = l.length := by omega
    subst this
    simp only [dedup_Is.l0]
    rw [if_neg (by omega), List.drop_length]
    congr 1
    rw [show sOrd (prev l l.length) [] = true by cases prev l l.length <;> rfl]
    simp
    omega
  | succ d ih =>
    intro k i hd hi hk
    obtain ⟨k, rfl⟩ : ∃ m, k = m + 1 := ⟨k - 1, by omega⟩
    have hlt : i < l.length := by omega
    have hr := ih k (i + 1) (by omega) (by omega) (by omega)
    rw [prev_succ l i hlt] at hr
    simp only [dedup_Is.l0]
    rw [if_pos (by omega), if_pos (by omega), if_pos (by omega), rd_nat l i hlt, wrap_nat i (by omega), may_of, hr, List.drop_eq_getElem_cons hlt]
    simp only [Option.bind_some]
    rw [show sMay l[i].f0 l[i].f1 l[i].f2.f0 l[i].f2.f1 = mayS l[i] from rfl]
    by_cases hm : mayS l[i] = true
    · rw [if_pos hm]
      by_cases h0 : i = 0
      · subst h0
        rw [if_neg (by decide)]
        simp [prev, sOrd, hm]
      · rw [if_pos (by omega), wrap_pred i (by omega) (by omega), if_pos (by omega), if_pos (by omega), rd_nat l (i - 1) (by omega)]
        have hp : prev l i = some (l[i - 1]).f0 := by
          simp only [prev, if_neg h0]
          rw [List.getD_eq_getElem?_getD, List.getElem?_eq_getElem (by omega)]
          rfl
        rw [hp]
        simp only [sOrd, hm, Bool.true_and]
        by_cases hc : l[i - 1].f0 < l[i].f0
        · rw [if_neg (by omega)]
          simp [hc]
        · rw [if_pos (by omega)]
          simp [hc]
    · have hm' : mayS l[i] = false := by simpa using hm
      rw [if_neg hm]
      cases prev l i <;> simp [sOrd, hm']
theorem Is_of (l : List S27) (hl : l.length ≤ 1000000) (k : Nat) (hk : l.length < k) : dedup_Is.f k l = some (sIs l) := by
  have h := is_of l hl l.length k 0 (by omega) (by omega) hk
  exact h
theorem ris_of (l : List S27) (hl : l.length ≤ 1000000) (d : Nat) : ∀ (k i : Nat), l.length - i = d → i ≤ l.length → d < k →
    sextonref19_Is.l0 k l (i : Int) = some (sOrd (prev l i) (l.drop i) && decide (l.length ≤ 50)) := by
  induction d with
  | zero =>
    intro k i hd hi hk
    obtain ⟨k, rfl⟩ : ∃ m, k = m + 1 := ⟨k - 1, by omega⟩
    have : i = l.length := by omega
    subst this
    simp only [sextonref19_Is.l0]
    rw [if_neg (by omega), List.drop_length]
    congr 1
    rw [show sOrd (prev l l.length) [] = true by cases prev l l.length <;> rfl]
    simp
    omega
  | succ d ih =>
    intro k i hd hi hk
    obtain ⟨k, rfl⟩ : ∃ m, k = m + 1 := ⟨k - 1, by omega⟩
    have hlt : i < l.length := by omega
    have hr := ih k (i + 1) (by omega) (by omega) (by omega)
    rw [prev_succ l i hlt] at hr
    simp only [sextonref19_Is.l0]
    rw [if_pos (by omega), if_pos (by omega), rd_nat l i hlt, wrap_nat i (by omega), rmay_of, hr, List.drop_eq_getElem_cons hlt]
    simp only [Option.bind_some]
    rw [show sMay l[i].f0 l[i].f1 l[i].f2.f0 l[i].f2.f1 = mayS l[i] from rfl]
    by_cases hm : mayS l[i] = true
    · rw [if_pos hm]
      by_cases h0 : i = 0
      · subst h0
        rw [if_neg (by decide)]
        simp [prev, sOrd, hm]
      · rw [if_pos (by omega), wrap_pred i (by omega) (by omega), if_pos (by omega), if_pos (by omega), rd_nat l (i - 1) (by omega)]
        have hp : prev l i = some (l[i - 1]).f0 := by
          simp only [prev, if_neg h0]
          rw [List.getD_eq_getElem?_getD, List.getElem?_eq_getElem (by omega)]
          rfl
        rw [hp]
        simp only [sOrd, hm, Bool.true_and]
        by_cases hc : l[i - 1].f0 < l[i].f0
        · rw [if_neg (by omega)]
          simp [hc]
        · rw [if_pos (by omega)]
          simp [hc]
    · have hm' : mayS l[i] = false := by simpa using hm
      rw [if_neg hm]
      cases prev l i <;> simp [sOrd, hm']
theorem rIs_of (l : List S27) (hl : l.length ≤ 1000000) (k : Nat) (hk : l.length < k) : sextonref19_Is.f k l = some (sIs l) := by
  have h := ris_of l hl l.length k 0 (by omega) (by omega) hk
  exact h
/-! Put -/
def ins (s : S27) : List S27 → List S27
  | [] => [s]
  | x :: xs => if x.f0 < s.f0 then x :: ins s xs else if x.f0 = s.f0 then s :: xs else s :: x :: xs
def Srt (l : List S27) : Prop := l.Pairwise (fun a b => a.f0 < b.f0)
theorem sOrd_some (l : List S27) : ∀ a, sOrd (some a) l = true ↔ (∀ x ∈ l, mayS x = true) ∧ (∀ x ∈ l, a < x.f0) ∧ Srt l := by
  induction l with
  | nil => intro a; simp [sOrd, Srt]
  | cons x xs ih =>
    intro a
    simp only [sOrd, Bool.and_eq_true, decide_eq_true_eq, ih, Srt, List.pairwise_cons, List.mem_cons]
    constructor
    · rintro ⟨h1, h2, h3, h4, h5⟩
      refine ⟨fun y hy => ?_, fun y hy => ?_, h4, h5⟩
      · rcases hy with rfl | hy
        · exact h1
        · exact h3 y hy
      · rcases hy with rfl | hy
        · exact h2
        · have := h4 y hy; omega
    · rintro ⟨h1, h2, h3, h4⟩
      exact ⟨h1 x (.inl rfl), h2 x (.inl rfl), fun y hy => h1 y (.inr hy), h3, h4⟩
theorem sIs_iff (l : List S27) : sIs l = true ↔ (∀ x ∈ l, mayS x = true) ∧ Srt l ∧ l.length ≤ 50 := by
  unfold sIs
  cases l with
  | nil => simp [sOrd, Srt]
  | cons x xs =>
    simp only [sOrd, Bool.and_eq_true, decide_eq_true_eq, sOrd_some, Srt, List.pairwise_cons, List.mem_cons]
    constructor
    · rintro ⟨⟨h1, h2, h3, h4⟩, h5⟩
      refine ⟨fun y hy => ?_, ⟨h3, h4⟩, h5⟩
      rcases hy with rfl | hy
      · exact h1
      · exact h2 y hy
    · rintro ⟨h1, ⟨h3, h4⟩, h5⟩
      exact ⟨⟨h1 x (.inl rfl), fun y hy => h1 y (.inr hy), h3, h4⟩, h5⟩
theorem ins_set (s : S27) (l : List S27) (hs : Srt l) (hh : l.any (isC s.f0) = true) : l.set (l.findIdx (isC s.f0)) s = ins s l := by
  induction l with
  | nil => simp at hh
  | cons x xs ih =>
    simp only [Srt, List.pairwise_cons] at hs
    rw [List.findIdx_cons]
    by_cases hx : x.f0 = s.f0
    · have hb : isC s.f0 x = true := by simpa [isC] using hx
      simp [hb, ins, hx]
    · have hb : isC s.f0 x = false := by simpa [isC] using hx
      simp only [List.any_cons, hb, Bool.false_or] at hh
      have hlt : x.f0 < s.f0 := by
        obtain ⟨y, hy, hy2⟩ := List.any_eq_true.1 hh
        have h1 := hs.1 y hy
        have h2 : y.f0 = s.f0 := by simpa [isC] using hy2
        omega
      simp only [hb, cond_false, List.set_cons_succ, ins, if_pos hlt]
      rw [ih hs.2 hh]
theorem ins_at (s : S27) (l : List S27) (hh : l.any (isC s.f0) = false) : l.take (l.findIdx (notLt s.f0)) ++ [s] ++ l.drop (l.findIdx (notLt s.f0)) = ins s l := by
  induction l with
  | nil => rfl
  | cons x xs ih =>
    simp only [List.any_cons, Bool.or_eq_false_iff] at hh
    rw [List.findIdx_cons]
    by_cases hx : x.f0 < s.f0
    · have hb : notLt s.f0 x = false := by simpa [notLt] using hx
      simp only [hb, cond_false, List.take_succ_cons, List.drop_succ_cons, ins, if_pos hx, List.cons_append]
      rw [ih hh.2]
    · have hb : notLt s.f0 x = true := by simpa [notLt] using hx
      have hne : ¬ x.f0 = s.f0 := by simpa [isC] using hh.1
      simp [hb, ins, hx, hne]
/-- What Put answers. -/
def sPut (l : List S27) (s : S27) : List S27 × Int :=
  if sIs l = true ∧ mayS s = true then
    if s.f1 ≤ sLast l s.f0 then ([], 180)
    else if sHas l s.f0 = false ∧ l.length = 50 then ([], 2)
    else (ins s l, 0)
  else ([], 1)
theorem putj1_of (l : List S27) (hl : l.length ≤ 50) (hs : Srt l) (s : S27) (k : Nat) (hk : l.length < k) :
    dedup_Put.j1 (k + 1) l (sHas l s.f0) s.f0 s.f1 s.f2.f0 s.f2.f1 = some (ins s l, 0) := by
  simp only [dedup_Put.j1, api_Seen_21.f]
  rw [if_pos (by omega)]
  simp only [Option.bind_some]
  by_cases hh : sHas l s.f0 = true
  · rw [if_pos hh]
    have h := place_of l (by omega) s.f0 l.length k 0 (by omega) (by omega) hk
    simp only [List.drop_zero, Nat.add_zero] at h
    have hlt := findIdx_lt_of_any hh
    rw [dedup_place_dedup_row_of.f, show ((0 : Int)) = ((0 : Nat) : Int) from rfl, h]
    simp only [Option.bind_some]
    rw [if_pos (by omega), if_pos (by omega), Int.toNat_natCast]
    exact congrArg (fun x => some (x, (0 : Int))) (ins_set s l hs hh)
  · have hh' : l.any (isC s.f0) = false := by simpa [sHas] using hh
    rw [if_neg hh]
    have h := place_put l (by omega) s.f0 l.length k 0 (by omega) (by omega) hk
    simp only [List.drop_zero, Nat.add_zero] at h
    have hle := List.findIdx_le_length (p := notLt s.f0) (xs := l)
    rw [dedup_place_dedup_Put_1.f, show ((0 : Int)) = ((0 : Nat) : Int) from rfl, h]
    simp only [Option.bind_some, api_Seen_26.f]
    rw [if_pos (by omega), if_pos (by omega), if_pos (by rfl), if_pos (by omega), Int.toNat_natCast]
    simp only [Option.bind_some]
    exact congrArg (fun x => some (x, (0 : Int))) (ins_at s l hh')
theorem put_of (l : List S27) (hl : l.length ≤ 1000000) (s : S27) (k : Nat) (hk : l.length < k) : dedup_Put.f (k + 2) l s.f0 s.f1 s.f2.f0 s.f2.f1 = some (sPut l s) := by
  simp only [dedup_Put.f]
  rw [find_of l hl s.f0 (k + 2) (by omega)]
  simp only [Option.bind_some]
  rw [Is_of l hl (k + 2) (by omega)]
  simp only [Option.bind_some]
  have hj : ∀ b : Bool, b = false → sIs l = true → dedup_Put.j0 (k + 2) l (sHas l s.f0) b s.f0 s.f1 s.f2.f0 s.f2.f1 = some (if s.f1 ≤ sLast l s.f0 then ([], 180) else if sHas l s.f0 = false ∧ l.length = 50 then ([], 2) else (ins s l, 0)) := by
    rintro b rfl hi
    obtain ⟨_, hsr, h50⟩ := (sIs_iff l).1 hi
    simp only [dedup_Put.j0]
    rw [if_neg (by decide), last_of l hl s.f0 (k + 1) (by omega)]
    simp only [Option.bind_some]
    by_cases h1 : s.f1 ≤ sLast l s.f0
    · rw [if_pos h1, if_pos h1]
    · rw [if_neg h1, if_neg h1]
      have hp := putj1_of l h50 hsr s k hk
      by_cases hh : sHas l s.f0 = true
      · rw [if_pos hh, if_neg (by simp [hh]), hp]
      · have hh' : sHas l s.f0 = false := by simpa using hh
        rw [if_neg hh]
        by_cases h2 : l.length = 50
        · rw [if_pos (by omega), if_pos ⟨hh', h2⟩]
        · rw [if_neg (by omega), if_neg (fun h => h2 h.2), hp]
  unfold sPut
  by_cases hi : sIs l = true
  · rw [if_pos hi, may_of, show sMay s.f0 s.f1 s.f2.f0 s.f2.f1 = mayS s from rfl]
    simp only [Option.bind_some]
    by_cases hm : mayS s = true
    · rw [if_pos ⟨hi, hm⟩]
      exact hj _ (by rw [hm]; rfl) hi
    · rw [if_neg (fun h => hm h.2)]
      simp only [dedup_Put.j0]
      rw [if_pos (by simpa using hm)]
  · rw [if_neg hi, if_neg (fun h => hi h.1)]
    simp only [dedup_Put.j0]
    rw [if_pos trivial]
/-! the reference's Put -/
theorem rputl_of (l : List S27) (hl : l.length ≤ 1000) (s : S27) (d : Nat) : ∀ (k i : Nat), l.length - i = d → i ≤ l.length → d < k →
    sextonref19_Put.l0 k l (i : Int) s.f0 s.f1 s.f2.f0 s.f2.f1 = some (l.take i ++ ins s (l.drop i), 0) := by
  induction d with
  | zero =>
    intro k i hd hi hk
    obtain ⟨k, rfl⟩ : ∃ m, k = m + 1 := ⟨k - 1, by omega⟩
    have : i = l.length := by omega
    subst this
    simp only [sextonref19_Put.l0]
    rw [if_neg (by omega), if_pos (by omega), if_pos (by omega), Int.toNat_natCast]
    simp only [Option.bind_some, List.take_length, List.drop_length, List.nil_append, List.length_nil, Nat.zero_add]
    rw [if_pos (by omega), if_pos (by omega), if_pos (by simp; omega)]
    simp [ins]
  | succ d ih =>
    intro k i hd hi hk
    obtain ⟨k, rfl⟩ : ∃ m, k = m + 1 := ⟨k - 1, by omega⟩
    have hlt : i < l.length := by omega
    have hr := ih k (i + 1) (by omega) (by omega) (by omega)
    simp only [sextonref19_Put.l0]
    rw [if_pos (by omega), if_pos (by omega), rd_nat l i hlt, wrap_nat i (by omega), hr, List.drop_eq_getElem_cons hlt]
    have ht : l.take (i + 1) = l.take i ++ [l[i]] := List.take_succ_eq_append_getElem hlt
    have hti : (l.take i).length = i := by simp; omega
    by_cases h1 : l[i].f0 < s.f0
    · rw [if_pos h1, ht]
      simp only [ins]
      rw [if_pos h1, List.append_assoc]
      rfl
    · rw [if_neg h1, if_pos (by omega), Int.toNat_natCast]
      simp only [Option.bind_some, List.nil_append, List.length_nil, Nat.zero_add]
      rw [if_pos (by rw [hti]; omega), if_pos (by rw [hti]; omega)]
      by_cases h2 : l[i].f0 = s.f0
      · rw [if_pos h2, if_pos (by omega), if_pos (by omega), Int.toNat_natCast, if_pos (by simp; omega)]
        simp [ins, h2]
      · rw [if_neg h2, if_pos (by simp; omega), List.drop_eq_getElem_cons hlt]
        simp [ins, h1, h2]
theorem rput_of (l : List S27) (hl : l.length ≤ 1000) (s : S27) (k : Nat) (hk : l.length < k) : sextonref19_Put.f (k + 2) l s.f0 s.f1 s.f2.f0 s.f2.f1 = some (sPut l s) := by
  simp only [sextonref19_Put.f]
  rw [rIs_of l (by omega) (k + 2) (by omega)]
  simp only [Option.bind_some]
  have hloop := rputl_of l hl s l.length k 0 (by omega) (by omega) hk
  simp only [List.take_zero, List.drop_zero, List.nil_append] at hloop
  have hj : sIs l = true → sextonref19_Put.j0 (k + 2) l false s.f0 s.f1 s.f2.f0 s.f2.f1 = some (if s.f1 ≤ sLast l s.f0 then ([], 180) else if sHas l s.f0 = false ∧ l.length = 50 then ([], 2) else (ins s l, 0)) := by
    intro hi
    obtain ⟨_, hsr, h50⟩ := (sIs_iff l).1 hi
    simp only [sextonref19_Put.j0]
    rw [if_neg (by decide), rlast_of l (by omega) s.f0 (k + 1) (by omega)]
    simp only [Option.bind_some]
    by_cases h1 : s.f1 ≤ sLast l s.f0
    · rw [if_pos h1, if_pos h1]
    · rw [if_neg h1, if_neg h1]
      have hf := rfind_of l (by omega) s.f0 l.length (k + 1) 0 (by omega) (by omega) (by omega)
      simp only [List.drop_zero, Nat.add_zero] at hf
      rw [sextonref19_find.f, show ((0 : Int)) = ((0 : Nat) : Int) from rfl, hf]
      simp only [Option.bind_some]
      by_cases hh : sHas l s.f0 = true
      · unfold sHas at hh
        rw [if_pos hh, if_neg (by omega), if_neg (by simp [sHas, hh])]
        simp only [sextonref19_Put.j1]
        rw [if_neg (by decide)]
        exact hloop
      · have hh' : sHas l s.f0 = false := by simpa using hh
        unfold sHas at hh
        rw [if_neg hh, if_pos (by decide)]
        simp only [sextonref19_Put.j1]
        by_cases h2 : l.length = 50
        · rw [if_pos (by simp; omega), if_pos ⟨hh', h2⟩]
        · rw [if_neg (by simp; omega), if_neg (fun h => h2 h.2)]
          exact hloop
  unfold sPut
  by_cases hi : sIs l = true
  · rw [if_pos hi, rmay_of, show sMay s.f0 s.f1 s.f2.f0 s.f2.f1 = mayS s from rfl]
    simp only [Option.bind_some]
    by_cases hm : mayS s = true
    · rw [if_pos ⟨hi, hm⟩, show (!mayS s) = false by rw [hm]; rfl]
      exact hj hi
    · rw [if_neg (fun h => hm h.2)]
      simp only [sextonref19_Put.j0]
      rw [if_pos (by simpa using hm)]
  · rw [if_neg hi, if_neg (fun h => hi h.1)]
    simp only [sextonref19_Put.j0]
    rw [if_pos trivial]
/-! Same, Own -/
theorem same_loop (l : List S27) (hl : l.length ≤ 1000000) (d : Nat) : ∀ (k i : Nat), l.length - i = d → i ≤ l.length → d < k → sextonref19_Same.l0 k l l (i : Int) = some true := by
  induction d with
  | zero =>
    intro k i hd hi hk
    obtain ⟨k, rfl⟩ : ∃ m, k = m + 1 := ⟨k - 1, by omega⟩
    simp only [sextonref19_Same.l0]
    rw [if_neg (by omega)]
  | succ d ih =>
    intro k i hd hi hk
    obtain ⟨k, rfl⟩ : ∃ m, k = m + 1 := ⟨k - 1, by omega⟩
    simp only [sextonref19_Same.l0]
    rw [if_pos (by omega), if_pos (by omega), if_pos (by omega), if_neg (by simp), wrap_nat i (by omega)]
    exact ih k (i + 1) (by omega) (by omega) (by omega)
theorem same_of (l : List S27) (hl : l.length ≤ 1000000) (k : Nat) (hk : l.length < k) : sextonref19_Same.f k l l = some true := by
  simp only [sextonref19_Same.f]
  rw [if_pos trivial]
  exact same_loop l hl l.length k 0 (by omega) (by omega) hk
theorem own_of (l : List S27) (hl : l.length ≤ 1000000) : sextonref19_Own.f l = some l := by
  simp only [sextonref19_Own.f]
  rw [if_pos (by simp; omega)]
  simp
/-! what a Put leaves -/
theorem ins_length (s : S27) (l : List S27) : (ins s l).length ≤ l.length + 1 := by
  induction l with
  | nil => simp [ins]
  | cons x xs ih =>
    simp only [ins]
    split
    · simp; omega
    · split
      · simp
      · simp
theorem ins_mem (s : S27) (l : List S27) : ∀ x ∈ ins s l, x = s ∨ x ∈ l := by
  induction l with
  | nil => simp [ins]
  | cons y ys ih =>
    intro x hx
    simp only [ins] at hx
    split at hx
    · rcases List.mem_cons.1 hx with rfl | hx
      · exact .inr (List.mem_cons_self)
      · rcases ih x hx with h | h
        · exact .inl h
        · exact .inr (List.mem_cons_of_mem _ h)
    · split at hx
      · rcases List.mem_cons.1 hx with rfl | hx
        · exact .inl rfl
        · exact .inr (List.mem_cons_of_mem _ hx)
      · rcases List.mem_cons.1 hx with rfl | hx
        · exact .inl rfl
        · exact .inr hx
theorem ins_srt (s : S27) (l : List S27) (h : Srt l) : Srt (ins s l) := by
  induction l with
  | nil => simp [ins, Srt]
  | cons y ys ih =>
    simp only [Srt, List.pairwise_cons] at h
    simp only [ins]
    split
    · rename_i hlt
      simp only [Srt, List.pairwise_cons]
      refine ⟨fun x hx => ?_, ih h.2⟩
      rcases ins_mem s ys x hx with rfl | hx
      · exact hlt
      · exact h.1 x hx
    · split
      · rename_i h1 h2
        simp only [Srt, List.pairwise_cons]
        exact ⟨fun x hx => by have := h.1 x hx; omega, h.2⟩
      · rename_i h1 h2
        simp only [Srt, List.pairwise_cons, List.mem_cons]
        refine ⟨fun x hx => ?_, h.1, h.2⟩
        rcases hx with rfl | hx
        · omega
        · have := h.1 x hx; omega
theorem ins_find (s : S27) (l : List S27) (h : Srt l) : (ins s l).find? (isC s.f0) = some s := by
  induction l with
  | nil => simp [ins, isC]
  | cons y ys ih =>
    simp only [Srt, List.pairwise_cons] at h
    simp only [ins]
    split
    · rename_i hlt
      rw [List.find?_cons_of_neg (by simp [isC]; omega)]
      exact ih h.2
    · split
      · simp [isC]
      · simp [isC]
theorem ins_find_ne (s : S27) (c : Int) (hc : c ≠ s.f0) (l : List S27) : (ins s l).find? (isC c) = l.find? (isC c) := by
  induction l with
  | nil =>
    simp only [ins]
    rw [List.find?_cons_of_neg (by simpa [isC] using fun h : s.f0 = c => hc h.symm)]
  | cons y ys ih =>
    simp only [ins]
    split
    · rw [List.find?_cons, List.find?_cons, ih]
    · split
      · rename_i h1 h2
        rw [List.find?_cons_of_neg (by simpa [isC] using fun h : s.f0 = c => hc h.symm), List.find?_cons_of_neg (by simp [isC]; omega)]
      · rw [List.find?_cons_of_neg (by simpa [isC] using fun h : s.f0 = c => hc h.symm)]
theorem sRow_ins (s : S27) (l : List S27) (h : Srt l) : sRow (ins s l) s.f0 = s := by
  unfold sRow; rw [ins_find s l h]; rfl
theorem sRow_ins_ne (s : S27) (c : Int) (hc : c ≠ s.f0) (l : List S27) : sRow (ins s l) c = sRow l c := by
  unfold sRow; rw [ins_find_ne s c hc l]
theorem ins_length_has (s : S27) (l : List S27) (h : Srt l) (hh : sHas l s.f0 = true) : (ins s l).length = l.length := by
  rw [← ins_set s l h hh]; simp
/-- A Put that is let in: the row is right. -/
theorem put_in (l : List S27) (s : S27) (h : (sPut l s).2 = 0) : sIs l = true ∧ mayS s = true ∧ sLast l s.f0 < s.f1 ∧ (sPut l s).1 = ins s l ∧ sIs (ins s l) = true := by
  unfold sPut at h ⊢
  split at h
  · rename_i hi
    rw [if_pos hi]
    split at h
    · simp at h
    · rename_i h1
      rw [if_neg h1]
      split at h
      · simp at h
      · rename_i h2
        rw [if_neg h2]
        obtain ⟨ha, hs, h50⟩ := (sIs_iff l).1 hi.1
        refine ⟨hi.1, hi.2, by omega, rfl, (sIs_iff _).2 ⟨fun x hx => ?_, ins_srt s l hs, ?_⟩⟩
        · rcases ins_mem s l x hx with rfl | hx
          · exact hi.2
          · exact ha x hx
        · by_cases hh : sHas l s.f0 = true
          · rw [ins_length_has s l hs hh]; exact h50
          · have hh' : sHas l s.f0 = false := by simpa using hh
            have := ins_length s l
            have h3 : ¬ l.length = 50 := fun h => h2 ⟨hh', h⟩
            omega
  · simp at h
theorem put_out (l : List S27) (s : S27) (h : ¬ (sPut l s).2 = 0) : (sPut l s).1 = [] := by
  unfold sPut at h ⊢
  split at h
  · rename_i hi
    rw [if_pos hi]
    split at h
    · rename_i h1; rw [if_pos h1]
    · rename_i h1
      rw [if_neg h1]
      split at h
      · rename_i h2; rw [if_pos h2]
      · exact absurd rfl h
  · rename_i hi; rw [if_neg hi]
theorem put_length (l : List S27) (s : S27) : (sPut l s).1.length ≤ l.length + 1 := by
  by_cases h : (sPut l s).2 = 0
  · rw [(put_in l s h).2.2.2.1]; exact ins_length s l
  · rw [put_out l s h]; simp
end Go.Proofs.Ytbohgnecphhdmaa.Spec
