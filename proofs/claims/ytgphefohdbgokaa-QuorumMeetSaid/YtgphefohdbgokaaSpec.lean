/- What the printed functions of quorum and of its reference come to, in plain lists. -/
import Derived.Test.YtgphefohdbgokaaPx3
set_option linter.unusedVariables false
set_option linter.unusedSimpArgs false
namespace Go.Proofs.Ytgphefohdbgokaa.Spec
open Go.RowKit Go.Proofs.YtgphefohdbgokaaW.PrintWords Go.Proofs.YtgphefohdbgokaaW.PrintLast Go.Proofs.YtgphefohdbgokaaW.PrintMore Go.Proofs.Ytgphefohdbgokaa.P

theorem wrap_nat (i : Nat) (h : i < 9223372036854775807) : wrap64 ((i : Int) + 1) = ((i + 1 : Nat) : Int) := by unfold wrap64; omega
theorem rd_nat (l : List S29) (i : Nat) (h : i < l.length) : rd_T29 l (i : Int) = l[i] := by
  unfold rd_T29
  simp [List.getD_eq_getElem?_getD, List.getElem?_eq_getElem h]
theorem rdS_nat (l : List ByteArray) (i : Nat) (h : i < l.length) : rdOf ByteArray.empty l (i : Int) = l[i] := by
  unfold rdOf
  simp [List.getD_eq_getElem?_getD, List.getElem?_eq_getElem h]
/-- A row of texts, by their bytes. -/
def tx (l : List ByteArray) : List (List UInt8) := l.map ByteArray.toList
theorem most_now (k : Nat) (h : 40 ≤ k) : sextonlaw22_most.f k = some true := at_rounds sextonlaw22_most.mono h sextonlaw22_most.now

theorem equal_loop (a b : List ByteArray) (hl : a.length = b.length) (hm : a.length ≤ 9223372036854775807) (d : Nat) : ∀ (k i : Nat), a.length - i = d → i ≤ a.length → d < k →
    slices_Equal_string_string.l0 k a b (a.length : Int) (i : Int) = some (decide (tx (a.drop i) = tx (b.drop i))) := by
  induction d with
  | zero =>
    intro k i hd hi hk
    obtain ⟨k, rfl⟩ : ∃ m, k = m + 1 := ⟨k - 1, by omega⟩
    have : i = a.length := by omega
    subst this
    simp only [slices_Equal_string_string.l0]
    rw [if_neg (by omega), List.drop_length, List.drop_eq_nil_of_le (by omega)]
    simp
  | succ d ih =>
    intro k i hd hi hk
    obtain ⟨k, rfl⟩ : ∃ m, k = m + 1 := ⟨k - 1, by omega⟩
    have h1 : i < a.length := by omega
    have h2 : i < b.length := by omega
    simp only [slices_Equal_string_string.l0]
    rw [if_pos (by omega), if_pos (by omega), if_pos (by omega), if_pos (by omega), rdS_nat a i h1, rdS_nat b i h2, wrap_nat i (by omega), ih k (i + 1) (by omega) (by omega) (by omega), List.drop_eq_getElem_cons h1, List.drop_eq_getElem_cons h2]
    by_cases he : a[i].toList = b[i].toList
    · rw [if_pos he]; simp only [tx, List.map_cons, List.cons.injEq, he, true_and]; exact congrArg some (decide_eq_decide.2 Iff.rfl)
    · rw [if_neg he]; simp only [tx, List.map_cons, List.cons.injEq, he, false_and, decide_false]
theorem texts_loop (a b : List ByteArray) (hl : a.length = b.length) (hm : a.length ≤ 9223372036854775807) (d : Nat) : ∀ (k i : Nat), a.length - i = d → i ≤ a.length → d < k →
    sextonref01_Texts.l0 k a b (i : Int) = some (decide (tx (a.drop i) = tx (b.drop i))) := by
  induction d with
  | zero =>
    intro k i hd hi hk
    obtain ⟨k, rfl⟩ : ∃ m, k = m + 1 := ⟨k - 1, by omega⟩
    have : i = a.length := by omega
    subst this
    simp only [sextonref01_Texts.l0]
    rw [if_neg (by omega), List.drop_length, List.drop_eq_nil_of_le (by omega)]
    simp
  | succ d ih =>
    intro k i hd hi hk
    obtain ⟨k, rfl⟩ : ∃ m, k = m + 1 := ⟨k - 1, by omega⟩
    have h1 : i < a.length := by omega
    have h2 : i < b.length := by omega
    simp only [sextonref01_Texts.l0]
    rw [if_pos (by omega), if_pos (by omega), if_pos (by omega), rdS_nat a i h1, rdS_nat b i h2, wrap_nat i (by omega), ih k (i + 1) (by omega) (by omega) (by omega), List.drop_eq_getElem_cons h1, List.drop_eq_getElem_cons h2]
    by_cases he : a[i].toList = b[i].toList
    · rw [if_pos he]; simp only [tx, List.map_cons, List.cons.injEq, he, true_and]; exact congrArg some (decide_eq_decide.2 Iff.rfl)
    · rw [if_neg he]; simp only [tx, List.map_cons, List.cons.injEq, he, false_and, decide_false]
theorem tx_length {a b : List ByteArray} (h : tx a = tx b) : a.length = b.length := by
  have := congrArg List.length h
  simpa [tx] using this
theorem texts_of (a b : List ByteArray) (hm : a.length ≤ 9223372036854775807) (k : Nat) (hk : a.length < k) : sextonref01_Texts.f k a b = some (decide (tx a = tx b)) := by
  simp only [sextonref01_Texts.f]
  by_cases hl : a.length = b.length
  · rw [if_pos (by omega)]
    exact texts_loop a b hl hm a.length k 0 (by omega) (by omega) hk
  · rw [if_neg (by omega)]
    have : ¬ tx a = tx b := fun h => hl (tx_length h)
    simp [this]
theorem equal_of (a b : List ByteArray) (hm : a.length ≤ 9223372036854775807) (k : Nat) (hk : a.length < k) : slices_Equal_string_string.f k a b = some (decide (tx a = tx b)) := by
  simp only [slices_Equal_string_string.f]
  by_cases hl : a.length = b.length
  · rw [if_pos (by omega)]
    exact equal_loop a b hl hm a.length k 0 (by omega) (by omega) hk
  · rw [if_neg (by omega)]
    have : ¬ tx a = tx b := fun h => hl (tx_length h)
    simp [this]
/-- The one begins the other. -/
def front (a b : List ByteArray) : Bool := decide (tx a <+: tx b)
theorem front_eq (a b : List ByteArray) : front a b = (decide (a.length ≤ b.length) && decide (tx a = tx (b.take a.length))) := by
  unfold front
  rw [Bool.eq_iff_iff]
  simp only [decide_eq_true_eq, Bool.and_eq_true]
  constructor
  · intro h
    refine ⟨by simpa [tx] using h.length_le, ?_⟩
    have h1 := List.prefix_iff_eq_take.1 h
    rw [h1]
    simp [tx, List.map_take]
  · rintro ⟨h1, h2⟩
    rw [h2]
    simp only [tx, List.map_take]
    exact List.take_prefix _ _
theorem qfront_of (a b : List ByteArray) (hm : a.length ≤ 9223372036854775807) (k : Nat) (hk : a.length < k) : quorum_Front.f k a b = some (front a b) := by
  simp only [quorum_Front.f]
  rw [front_eq]
  by_cases h : a.length ≤ b.length
  · rw [if_pos (by omega), if_pos (by omega), Int.toNat_natCast, equal_of a _ hm k hk]
    simp [h]
  · rw [if_neg (by omega)]
    simp [h]
theorem rfront_of (a b : List ByteArray) (hm : a.length ≤ 9223372036854775807) (k : Nat) (hk : a.length < k) : sextonref22_Front.f k a b = some (front a b) := by
  simp only [sextonref22_Front.f]
  rw [front_eq]
  by_cases h : a.length ≤ b.length
  · rw [if_pos (by omega), if_pos (by omega), Int.toNat_natCast, texts_of a _ hm k hk]
    simp [h]
  · rw [if_neg (by omega)]
    simp [h]
theorem front_trans {a b c : List ByteArray} (h1 : front a b = true) (h2 : front b c = true) : front a c = true := by
  simp only [front, decide_eq_true_eq] at *
  exact h1.trans h2
theorem front_refl (a : List ByteArray) : front a a = true := by simp [front]
theorem front_nil (a : List ByteArray) : front [] a = true := by simp [front, tx]
/-! Big -/
theorem short_of (l : List ByteArray) (hl : l.length ≤ 9223372036854775807) (d : Nat) : ∀ (k i : Nat), l.length - i = d → i ≤ l.length → d < k → ∃ b, sextonref01_Short.l0 k l (i : Int) = some b := by
  induction d with
  | zero =>
    intro k i hd hi hk
    obtain ⟨k, rfl⟩ : ∃ m, k = m + 1 := ⟨k - 1, by omega⟩
    simp only [sextonref01_Short.l0]
    rw [if_neg (by omega)]
    exact ⟨_, rfl⟩
  | succ d ih =>
    intro k i hd hi hk
    obtain ⟨k, rfl⟩ : ∃ m, k = m + 1 := ⟨k - 1, by omega⟩
    simp only [sextonref01_Short.l0]
    rw [if_pos (by omega), if_pos (by omega), wrap_nat i (by omega)]
    split
    · exact ⟨_, rfl⟩
    · exact ih k (i + 1) (by omega) (by omega) (by omega)
/-- A bound on rounds for what Big looks at. -/
def many (l : List S29) : Nat := (l.map fun v => v.f3.length).sum
theorem many_le (l : List S29) : ∀ v ∈ l, v.f3.length ≤ many l := by
  induction l with
  | nil => simp
  | cons x l ih =>
    intro v hv
    simp only [many, List.map_cons, List.sum_cons]
    rcases List.mem_cons.1 hv with rfl | hv
    · omega
    · have := ih v hv
      simp only [many] at this
      omega
def Fit (l : List S29) : Prop := l.length ≤ 30 ∧ ∀ v ∈ l, v.f3.length ≤ 70
theorem big_loop (l : List S29) (hl : l.length ≤ 9223372036854775807) (hb : ∀ v ∈ l, v.f3.length ≤ 9223372036854775807) (d : Nat) : ∀ (k i : Nat), l.length - i = d → i ≤ l.length → d * 2 + 2 + many l < k → (∀ v ∈ l.take i, v.f3.length ≤ 70) →
    ∃ b, sextonref22_Big.l0 k l (i : Int) = some b ∧ (b = false → Fit l) := by
  induction d with
  | zero =>
    intro k i hd hi hk hf
    obtain ⟨k, rfl⟩ : ∃ m, k = m + 1 := ⟨k - 1, by omega⟩
    simp only [sextonref22_Big.l0]
    rw [if_neg (by omega)]
    obtain ⟨k, rfl⟩ : ∃ m, k = m + 1 := ⟨k - 1, by omega⟩
    simp only [sextonref22_Big.j1]
    rw [if_neg (by simp)]
    refine ⟨_, rfl, fun h => ⟨by simp at h; omega, ?_⟩⟩
    rwa [List.take_of_length_le (by omega)] at hf
  | succ d ih =>
    intro k i hd hi hk hf
    obtain ⟨k, rfl⟩ : ∃ m, k = m + 1 := ⟨k - 1, by omega⟩
    have hlt : i < l.length := by omega
    simp only [sextonref22_Big.l0]
    rw [if_pos (by omega)]
    obtain ⟨k, rfl⟩ : ∃ m, k = m + 1 := ⟨k - 1, by omega⟩
    simp only [sextonref22_Big.j1]
    by_cases h30 : l.length ≤ 30
    · rw [if_pos (by simp; omega), if_pos (by omega), if_pos (by omega), rd_nat l i hlt, wrap_nat i (by omega)]
      have hmem := List.getElem_mem hlt
      have hmany := many_le l _ hmem
      obtain ⟨b, hs⟩ := short_of l[i].f3 (hb _ hmem) l[i].f3.length k 0 (by omega) (by omega) (by omega)
      rw [sextonref01_Short.f, show (0 : Int) = ((0 : Nat) : Int) from rfl, hs]
      simp only [Option.bind_some]
      cases b with
      | false => rw [if_neg (by simp)]; exact ⟨_, rfl, fun h => by cases h⟩
      | true =>
        rw [if_pos rfl]
        by_cases h70 : (l[i].f3.length : Int) > 70
        · rw [if_pos h70]; exact ⟨_, rfl, fun h => by cases h⟩
        · rw [if_neg h70]
          refine ih k (i + 1) (by omega) (by omega) (by omega) (fun v hv => ?_)
          rw [List.take_succ_eq_append_getElem hlt, List.mem_append] at hv
          rcases hv with hv | hv
          · exact hf v hv
          · rw [List.mem_singleton] at hv; subst hv; omega
    · rw [if_neg (by simp; omega)]
      refine ⟨_, rfl, fun h => ?_⟩
      simp at h; omega
theorem big_of (l : List S29) (hl : l.length ≤ 9223372036854775807) (hb : ∀ v ∈ l, v.f3.length ≤ 9223372036854775807) (k : Nat) (hk : l.length * 2 + 2 + many l < k) : ∃ b, sextonref22_Big.f k l = some b ∧ (b = false → Fit l) :=
  big_loop l hl hb l.length k 0 (by omega) (by omega) hk (by simp)
theorem same_of (a b : S29) (hm : a.f3.length ≤ 9223372036854775807) (k : Nat) (hk : a.f3.length < k) : ∃ r, sextonref22_SameVote.f k a.f0 a.f1 a.f2 a.f3 b.f0 b.f1 b.f2 b.f3 = some r ∧ (a = b → r = true) := by
  simp only [sextonref22_SameVote.f]
  split
  · split
    · split
      · rw [texts_of a.f3 b.f3 hm k hk]
        exact ⟨_, rfl, fun h => by simp [h]⟩
      · rename_i h; exact ⟨_, rfl, fun he => absurd (by rw [he]) h⟩
    · rename_i h; exact ⟨_, rfl, fun he => absurd (by rw [he]) h⟩
  · rename_i h; exact ⟨_, rfl, fun he => absurd (by rw [he]) h⟩
end Go.Proofs.Ytgphefohdbgokaa.Spec
