/- What the printed functions of pin and of its reference come to, in plain lists. -/
import Derived.Test.YtkdpjgcimnchlaaPx7
set_option linter.unusedVariables false
set_option linter.unusedSimpArgs false
namespace Go.Proofs.Ytkdpjgcimnchlaa.Spec
open Go.RowKit Go.Proofs.YtkdpjgcimnchlaaW.PrintWords Go.Proofs.YtkdpjgcimnchlaaW.PrintLast Go.Proofs.YtkdpjgcimnchlaaW.PrintMore Go.Proofs.Ytkdpjgcimnchlaa.P

theorem wrap_nat (i : Nat) (h : i ≤ 1000000) : wrap64 ((i : Int) + 1) = ((i + 1 : Nat) : Int) := by unfold wrap64; omega
theorem wrap_pred (i : Nat) (h0 : 0 < i) (h : i ≤ 1000000) : wrap64 ((i : Int) - 1) = ((i - 1 : Nat) : Int) := by unfold wrap64; omega
theorem rd_nat (l : List S24) (i : Nat) (h : i < l.length) : rd_T24 l (i : Int) = l[i] := by
  unfold rd_T24
  simp [List.getD_eq_getElem?_getD, List.getElem?_eq_getElem h]
theorem rdi_nat (l : List Int) (i : Nat) (h : i < l.length) : rd l (i : Int) = l[i] := by
  unfold rd
  simp [List.getD_eq_getElem?_getD, List.getElem?_eq_getElem h]
theorem pinned_now (k : Nat) (h : 40 ≤ k) : sextonlaw17_pinned.f k = some true := at_rounds sextonlaw17_pinned.mono h sextonlaw17_pinned.now
def mayS (s : S24) : Bool := decide (0 ≤ s.f0 ∧ s.f0 ≤ 1000000 ∧ 0 ≤ s.f1 ∧ s.f1 ≤ 1000000000)
theorem may_of (s : S24) : pin_may.f s.f0 s.f1 = some (mayS s) := by
  have hf : ∀ {p : Prop} [Decidable p], ¬ p → some false = some (decide p) := fun h => by simp [h]
  simp only [pin_may.f, mayS]
  by_cases h1 : s.f0 ≥ 0
  · rw [if_pos h1]
    by_cases h2 : s.f0 ≤ 1000000
    · rw [if_pos h2]
      by_cases h3 : s.f1 ≥ 0
      · rw [if_pos h3]; exact congrArg some (decide_eq_decide.2 (by constructor <;> intro h <;> omega))
      · rw [if_neg h3]; exact hf (by omega)
    · rw [if_neg h2]; exact hf (by omega)
  · rw [if_neg h1]; exact hf (by omega)
def sOrd : Option Int → List S24 → Bool
  | _, [] => true
  | none, x :: xs => mayS x && sOrd (some x.f0) xs
  | some a, x :: xs => mayS x && (decide (a < x.f0) && sOrd (some x.f0) xs)
def sIs (l : List S24) : Bool := sOrd none l && decide (l.length ≤ 50)
def prev (l : List S24) (i : Nat) : Option Int := if i = 0 then none else some (l.getD (i - 1) z24).f0
theorem prev_succ (l : List S24) (i : Nat) (h : i < l.length) : prev l (i + 1) = some l[i].f0 := by
  simp [prev, List.getD_eq_getElem?_getD, List.getElem?_eq_getElem h]
theorem is_of (l : List S24) (hl : l.length ≤ 1000000) (d : Nat) : ∀ (k i : Nat), l.length - i = d → i ≤ l.length → d < k →
    pin_Is.l0 k l l (l.length : Int) (i : Int) = some (sOrd (prev l i) (l.drop i) && decide (l.length ≤ 50)) := by
  induction d with
  | zero =>
    intro k i hd hi hk
    obtain ⟨k, rfl⟩ : ∃ m, k = m + 1 := ⟨k - 1, by omega⟩
    have : i = l.length := by omega
    subst this
    simp only [pin_Is.l0]
    rw [if_neg (by omega), List.drop_length]
    congr 1
    rw [show sOrd (prev l l.length) [] = true by cases prev l l.length <;> rfl]
    simp
    omega
  | succ d ih =>
    intro k i hd hi hk
    obtain ⟨k, rfl⟩ : ∃ m, k = m + 1 := ⟨k - 1, by omega⟩
    have hlt : i < l.length := by omega
    have hr := ih k (i + 1) (by omega) (by omega) (by omega)
    rw [prev_succ l i hlt] at hr
    simp only [pin_Is.l0]
    rw [if_pos (by omega), if_pos (by omega), if_pos (by omega), rd_nat l i hlt, wrap_nat i (by omega), may_of l[i], hr, List.drop_eq_getElem_cons hlt]
    simp only [Option.bind_some]
    by_cases hm : mayS l[i] = true
    · rw [if_pos hm]
      by_cases h0 : i = 0
      · subst h0
        rw [if_neg (by decide)]
        simp [prev, sOrd, hm]
      · rw [if_pos (by omega), wrap_pred i (by omega) (by omega), if_pos (by omega), if_pos (by omega), rd_nat l (i - 1) (by omega)]
        have hp : prev l i = some (l[i - 1]).f0 := by
          simp only [prev, if_neg h0]
          rw [List.getD_eq_getElem?_getD, List.getElem?_eq_getElem (by omega)]
          rfl
        rw [hp]
        simp only [sOrd, hm, Bool.true_and]
        by_cases hc : l[i - 1].f0 < l[i].f0
        · rw [if_neg (by omega)]
          simp [hc]
        · rw [if_pos (by omega)]
          simp [hc]
    · have hm' : mayS l[i] = false := by simpa using hm
      rw [if_neg hm]
      cases prev l i <;> simp [sOrd, hm']
theorem Is_of (l : List S24) (hl : l.length ≤ 1000000) (k : Nat) (hk : l.length < k) : pin_Is.f k l = some (sIs l) := by
  have h := is_of l hl l.length k 0 (by omega) (by omega) hk
  exact h
theorem ris_of (l : List S24) (hl : l.length ≤ 1000000) (d : Nat) : ∀ (k i : Nat), l.length - i = d → i ≤ l.length → d < k →
    sextonref17_Is.l0 k l (i : Int) = some (sOrd (prev l i) (l.drop i) && decide (l.length ≤ 50)) := by
  induction d with
  | zero =>
    intro k i hd hi hk
    obtain ⟨k, rfl⟩ : ∃ m, k = m + 1 := ⟨k - 1, by omega⟩
    have : i = l.length := by omega
    subst this
    simp only [sextonref17_Is.l0]
    rw [if_neg (by omega), List.drop_length]
    congr 1
    rw [show sOrd (prev l l.length) [] = true by cases prev l l.length <;> rfl]
    simp
    omega
  | succ d ih =>
    intro k i hd hi hk
    obtain ⟨k, rfl⟩ : ∃ m, k = m + 1 := ⟨k - 1, by omega⟩
    have hlt : i < l.length := by omega
    have hr := ih k (i + 1) (by omega) (by omega) (by omega)
    rw [prev_succ l i hlt] at hr
    simp only [sextonref17_Is.l0]
    rw [if_pos (by omega), if_pos (by omega), rd_nat l i hlt, wrap_nat i (by omega), hr, List.drop_eq_getElem_cons hlt]
    have hfalse : mayS l[i] = false → some false = some (sOrd (prev l i) (l[i] :: l.drop (i + 1)) && decide (l.length ≤ 50)) := fun hm => by
      cases prev l i <;> simp [sOrd, hm]
    by_cases h1 : l[i].f0 < 0
    · rw [if_pos h1]; exact hfalse (by simp [mayS]; omega)
    rw [if_neg h1]
    by_cases h2 : l[i].f0 > 1000000
    · rw [if_pos h2]; exact hfalse (by simp [mayS]; omega)
    rw [if_neg h2]
    by_cases h3 : l[i].f1 < 0
    · rw [if_pos h3]; exact hfalse (by simp [mayS]; omega)
    rw [if_neg h3]
    by_cases h4 : l[i].f1 > 1000000000
    · rw [if_pos h4]; exact hfalse (by simp [mayS]; omega)
    rw [if_neg h4]
    have hm : mayS l[i] = true := by simp [mayS]; omega
    by_cases h0 : i = 0
    · subst h0
      rw [if_neg (by decide)]
      simp [prev, sOrd, hm]
    · rw [if_pos (by omega), wrap_pred i (by omega) (by omega), if_pos (by omega), if_pos (by omega), rd_nat l (i - 1) (by omega)]
      have hp : prev l i = some (l[i - 1]).f0 := by
        simp only [prev, if_neg h0]
        rw [List.getD_eq_getElem?_getD, List.getElem?_eq_getElem (by omega)]
        rfl
      rw [hp]
      simp only [sOrd, hm, Bool.true_and]
      by_cases hc : l[i - 1].f0 < l[i].f0
      · rw [if_neg (by omega)]
        simp [hc]
      · rw [if_pos (by omega)]
        simp [hc]
theorem rIs_of (l : List S24) (hl : l.length ≤ 1000000) (k : Nat) (hk : l.length < k) : sextonref17_Is.f k l = some (sIs l) := ris_of l hl l.length k 0 (by omega) (by omega) hk
def Srt (l : List S24) : Prop := l.Pairwise (fun a b => a.f0 < b.f0)
theorem sOrd_some (l : List S24) : ∀ a, sOrd (some a) l = true ↔ (∀ x ∈ l, mayS x = true) ∧ (∀ x ∈ l, a < x.f0) ∧ Srt l := by
  induction l with
  | nil => intro a; simp [sOrd, Srt]
  | cons x xs ih =>
    intro a
    simp only [sOrd, Bool.and_eq_true, decide_eq_true_eq, ih, Srt, List.pairwise_cons, List.mem_cons]
    constructor
    · rintro ⟨h1, h2, h3, h4, h5⟩
      refine ⟨fun y hy => ?_, fun y hy => ?_, h4, h5⟩
      · rcases hy with rfl | hy
        · exact h1
        · exact h3 y hy
      · rcases hy with rfl | hy
        · exact h2
        · have := h4 y hy; omega
    · rintro ⟨h1, h2, h3, h4⟩
      exact ⟨h1 x (.inl rfl), h2 x (.inl rfl), fun y hy => h1 y (.inr hy), h3, h4⟩
theorem sIs_iff (l : List S24) : sIs l = true ↔ (∀ x ∈ l, mayS x = true) ∧ Srt l ∧ l.length ≤ 50 := by
  unfold sIs
  cases l with
  | nil => simp [sOrd, Srt]
  | cons x xs =>
    simp only [sOrd, Bool.and_eq_true, decide_eq_true_eq, sOrd_some, Srt, List.pairwise_cons, List.mem_cons]
    constructor
    · rintro ⟨⟨h1, h2, h3, h4⟩, h5⟩
      refine ⟨fun y hy => ?_, ⟨h3, h4⟩, h5⟩
      rcases hy with rfl | hy
      · exact h1
      · exact h2 y hy
    · rintro ⟨h1, ⟨h3, h4⟩, h5⟩
      exact ⟨⟨h1 x (.inl rfl), fun y hy => h1 y (.inr hy), h3, h4⟩, h5⟩
/-! Of -/
def isC (c : Int) (s : S24) : Bool := s.f0 == c
def sHas (l : List S24) (c : Int) : Bool := l.any (isC c)
def sOf (l : List S24) (c : Int) : Int × Bool := match l.find? (isC c) with
  | some x => (x.f1, true)
  | none => (0, false)
theorem place_of (l : List S24) (hl : l.length ≤ 1000000) (c : Int) : pin_place.f l c = some (if sHas l c = true then ((l.findIdx (isC c) : Nat) : Int) else -1) := by
  unfold pin_place.f pin_place.at
  rw [if_pos (by omega)]
  rfl
theorem has_lt {l : List S24} {c : Int} (h : sHas l c = true) : l.findIdx (isC c) < l.length := by
  unfold sHas at h
  rw [List.any_eq_true] at h
  exact List.findIdx_lt_length.2 h
theorem sOf_has {l : List S24} {c : Int} (h : sHas l c = true) : ∃ hlt : l.findIdx (isC c) < l.length, sOf l c = (l[l.findIdx (isC c)].f1, true) := by
  refine ⟨has_lt h, ?_⟩
  unfold sOf
  rw [List.find?_eq_getElem?_findIdx, List.getElem?_eq_getElem (has_lt h)]
theorem sOf_none {l : List S24} {c : Int} (h : sHas l c = false) : sOf l c = (0, false) := by
  unfold sHas at h
  rw [List.any_eq_false] at h
  unfold sOf
  rw [List.find?_eq_none.2 (fun x hx => by simpa using h x hx)]
theorem sOf_snd (l : List S24) (c : Int) : (sOf l c).2 = sHas l c := by
  cases h : sHas l c with
  | true => obtain ⟨_, h2⟩ := sOf_has h; rw [h2]
  | false => rw [sOf_none h]
theorem of_of (l : List S24) (hl : l.length ≤ 1000000) (c : Int) : pin_Of.f l c = some (sOf l c) := by
  simp only [pin_Of.f]
  rw [place_of l hl c]
  simp only [Option.bind_some]
  by_cases hh : sHas l c = true
  · obtain ⟨hlt, h2⟩ := sOf_has hh
    rw [if_pos hh, if_neg (by omega), if_pos (by omega), if_pos (by omega), rd_nat l _ hlt, h2]
  · rw [if_neg hh, if_pos (by decide), sOf_none (by simpa using hh)]
theorem rof_loop (l : List S24) (hl : l.length ≤ 1000000) (c : Int) (d : Nat) : ∀ (k i : Nat), l.length - i = d → i ≤ l.length → d < k →
    sextonref17_Of.l0 k l c (i : Int) = some (sOf (l.drop i) c) := by
  induction d with
  | zero =>
    intro k i hd hi hk
    obtain ⟨k, rfl⟩ : ∃ m, k = m + 1 := ⟨k - 1, by omega⟩
    simp only [sextonref17_Of.l0]
    rw [if_neg (by omega), List.drop_eq_nil_of_le (by omega)]
    rfl
  | succ d ih =>
    intro k i hd hi hk
    obtain ⟨k, rfl⟩ : ∃ m, k = m + 1 := ⟨k - 1, by omega⟩
    have hlt : i < l.length := by omega
    simp only [sextonref17_Of.l0]
    rw [if_pos (by omega), if_pos (by omega), rd_nat l i hlt, wrap_nat i (by omega), ih k (i + 1) (by omega) (by omega) (by omega), List.drop_eq_getElem_cons hlt]
    unfold sOf
    by_cases h : l[i].f0 = c
    · rw [if_pos h, List.find?_cons_of_pos (by simpa [isC] using h)]
    · rw [if_neg h, List.find?_cons_of_neg (by simpa [isC] using h)]
theorem rof_of (l : List S24) (hl : l.length ≤ 1000000) (c : Int) (k : Nat) (hk : l.length < k) : sextonref17_Of.f k l c = some (sOf l c) := rof_loop l hl c l.length k 0 (by omega) (by omega) hk
/-! Add -/
def ins (s : S24) : List S24 → List S24
  | [] => [s]
  | x :: xs => if x.f0 < s.f0 then x :: ins s xs else s :: x :: xs
theorem ins_perm (s : S24) (l : List S24) : (ins s l).Perm (s :: l) := by
  induction l with
  | nil => exact List.Perm.refl _
  | cons x l ih =>
    simp only [ins]
    split
    · exact (ih.cons x).trans (List.Perm.swap _ _ _)
    · exact List.Perm.refl _
theorem ins_mem {s : S24} {l : List S24} {x : S24} : x ∈ ins s l ↔ x = s ∨ x ∈ l := by
  rw [(ins_perm s l).mem_iff, List.mem_cons]
theorem ins_length (s : S24) (l : List S24) : (ins s l).length = l.length + 1 := by
  rw [(ins_perm s l).length_eq]; rfl
theorem ins_srt (s : S24) (l : List S24) (h : Srt l) (hh : sHas l s.f0 = false) : Srt (ins s l) := by
  induction l with
  | nil => simp [ins, Srt]
  | cons y ys ih =>
    simp only [Srt, List.pairwise_cons] at h
    simp only [sHas, List.any_cons, Bool.or_eq_false_iff] at hh
    have hne : ¬ y.f0 = s.f0 := by simpa [isC] using hh.1
    simp only [ins]
    split
    · simp only [Srt, List.pairwise_cons]
      refine ⟨fun x hx => ?_, ih h.2 hh.2⟩
      rcases ins_mem.1 hx with rfl | hx
      · assumption
      · exact h.1 x hx
    · simp only [Srt, List.pairwise_cons, List.mem_cons]
      refine ⟨fun x hx => ?_, h.1, h.2⟩
      rcases hx with rfl | hx
      · omega
      · have := h.1 x hx; omega
def sAdd (l : List S24) (p : S24) : List S24 × Int :=
  if sIs l = true ∧ mayS p = true then
    if sHas l p.f0 = true then ([], 170)
    else if l.length = 50 then ([], 2)
    else (ins p l, 0)
  else ([], 1)
theorem sAdd_bad {l : List S24} {p : S24} (h : ¬ (sIs l = true ∧ mayS p = true)) : sAdd l p = ([], 1) := if_neg h
theorem sAdd_held {l : List S24} {p : S24} (hi : sIs l = true) (hm : mayS p = true) (hh : sHas l p.f0 = true) : sAdd l p = ([], 170) := by
  unfold sAdd
  rw [if_pos ⟨hi, hm⟩, if_pos hh]
theorem sAdd_full {l : List S24} {p : S24} (hi : sIs l = true) (hm : mayS p = true) (hh : sHas l p.f0 = false) (h5 : l.length = 50) : sAdd l p = ([], 2) := by
  unfold sAdd
  rw [if_pos ⟨hi, hm⟩, if_neg (by rw [hh]; decide), if_pos h5]
theorem sAdd_ok {l : List S24} {p : S24} (hi : sIs l = true) (hm : mayS p = true) (hh : sHas l p.f0 = false) (h5 : ¬ l.length = 50) : sAdd l p = (ins p l, 0) := by
  unfold sAdd
  rw [if_pos ⟨hi, hm⟩, if_neg (by rw [hh]; decide), if_neg h5]
theorem has_none {l : List S24} {c : Int} (h : sHas l c = false) : ∀ x ∈ l, x.f0 ≠ c := by
  unfold sHas at h
  rw [List.any_eq_false] at h
  intro x hx
  simpa [isC] using h x hx
theorem sort_of (l : List S24) (p : S24) (hs : Srt l) (hl : l.length ≤ 50) (hh : sHas l p.f0 = false) : api_Pin_pin_Add_1.f (l ++ [p]) = some (ins p l) := by
  have hun : api_Pin_pin_Add_1.unlike (l ++ [p]) = true := by
    unfold api_Pin_pin_Add_1.unlike
    refine decide_eq_true ?_
    rw [List.pairwise_append]
    refine ⟨hs.imp (fun h => by omega), List.pairwise_singleton _ _, fun a ha b hb => ?_⟩
    rw [List.mem_singleton] at hb
    subst hb
    exact has_none hh a ha
  unfold api_Pin_pin_Add_1.f
  rw [if_pos ⟨by simp, hun, by simp; omega⟩]
  have hp : (ins p l).Perm (l ++ [p]) := (ins_perm p l).trans (List.perm_append_singleton p l).symm
  rw [api_Pin_pin_Add_1.sorted_unique (l ++ [p]) (ins p l) hun hp ((ins_srt p l hs hh).imp (fun h => by omega))]
theorem add_of (l : List S24) (hl : l.length ≤ 1000000) (p : S24) (k : Nat) (hk : l.length < k) : pin_Add.f (k + 1) l p.f0 p.f1 = some (sAdd l p) := by
  simp only [pin_Add.f]
  rw [Is_of l hl (k + 1) (by omega)]
  simp only [Option.bind_some]
  by_cases hi : sIs l = true
  · obtain ⟨_, hs, h50⟩ := (sIs_iff l).1 hi
    rw [if_pos hi, may_of p]
    simp only [Option.bind_some, pin_Add.j0]
    by_cases hm : mayS p = true
    · rw [if_neg (by rw [hm]; decide), place_of l hl]
      simp only [Option.bind_some]
      by_cases hh : sHas l p.f0 = true
      · rw [if_pos hh, if_pos (by omega), sAdd_held hi hm hh]
      · have hh' : sHas l p.f0 = false := by simpa using hh
        rw [if_neg hh, if_neg (by decide)]
        by_cases h5 : l.length = 50
        · rw [if_pos (by omega), sAdd_full hi hm hh' h5]
        · rw [if_neg (by omega), sAdd_ok hi hm hh' h5]
          simp only [api_Pin_25.f]
          rw [if_pos (by omega)]
          simp only [Option.bind_some]
          rw [if_pos (by simp; omega), show (⟨p.f0, p.f1⟩ : S24) = p from rfl, sort_of l p hs h50 hh']
          rfl
    · rw [if_pos (by simpa using hm), sAdd_bad (fun h => hm h.2)]
  · rw [if_neg hi, sAdd_bad (fun h => hi h.1)]
    simp only [pin_Add.j0]
    rw [if_pos trivial]
theorem radd_loop (l : List S24) (hl : l.length ≤ 1000) (p : S24) (d : Nat) : ∀ (k i : Nat), l.length - i = d → i ≤ l.length → d < k →
    sextonref17_Add.l0 k l (i : Int) p.f0 p.f1 = some (l.take i ++ ins p (l.drop i), 0) := by
  induction d with
  | zero =>
    intro k i hd hi hk
    obtain ⟨k, rfl⟩ : ∃ m, k = m + 1 := ⟨k - 1, by omega⟩
    have : i = l.length := by omega
    subst this
    simp only [sextonref17_Add.l0]
    rw [if_neg (by omega), if_pos (by omega), if_pos (by omega), Int.toNat_natCast]
    simp only [Option.bind_some, List.take_length, List.drop_length, List.nil_append, List.length_nil, Nat.zero_add]
    rw [if_pos (by omega), if_pos (by omega), if_pos (by simp; omega)]
    simp [ins]
  | succ d ih =>
    intro k i hd hi hk
    obtain ⟨k, rfl⟩ : ∃ m, k = m + 1 := ⟨k - 1, by omega⟩
    have hlt : i < l.length := by omega
    have hr := ih k (i + 1) (by omega) (by omega) (by omega)
    simp only [sextonref17_Add.l0]
    rw [if_pos (by omega), if_pos (by omega), rd_nat l i hlt, wrap_nat i (by omega), hr, List.drop_eq_getElem_cons hlt]
    have ht : l.take (i + 1) = l.take i ++ [l[i]] := List.take_succ_eq_append_getElem hlt
    have hti : (l.take i).length = i := by simp; omega
    by_cases h1 : l[i].f0 < p.f0
    · rw [if_pos h1, ht]
      simp only [ins]
      rw [if_pos h1, List.append_assoc]
      rfl
    · rw [if_neg h1, if_pos (by omega), Int.toNat_natCast]
      simp only [Option.bind_some, List.nil_append, List.length_nil, Nat.zero_add]
      rw [if_pos (by rw [hti]; omega), if_pos (by rw [hti]; omega), if_pos (by simp; omega), List.drop_eq_getElem_cons hlt]
      simp [ins, h1]
theorem sIs_one (p : S24) : sIs [p] = mayS p := by
  simp [sIs, sOrd]
theorem radd_of (l : List S24) (hl : l.length ≤ 1000) (p : S24) (k : Nat) (hk : l.length + 2 < k) : sextonref17_Add.f (k + 1) l p.f0 p.f1 = some (sAdd l p) := by
  simp only [sextonref17_Add.f]
  rw [rIs_of l (by omega) (k + 1) (by omega), show (⟨p.f0, p.f1⟩ : S24) = p from rfl, rIs_of [p] (by simp) (k + 1) (by simp; omega), sIs_one]
  simp only [Option.bind_some]
  by_cases hi : sIs l = true
  · obtain ⟨_, hs, h50⟩ := (sIs_iff l).1 hi
    rw [if_pos hi]
    simp only [sextonref17_Add.j0]
    by_cases hm : mayS p = true
    · rw [if_neg (by rw [hm]; decide), rof_of l (by omega) p.f0 k (by omega)]
      simp only [Option.bind_some]
      rw [sOf_snd]
      by_cases hh : sHas l p.f0 = true
      · rw [if_pos hh, sAdd_held hi hm hh]
      · have hh' : sHas l p.f0 = false := by simpa using hh
        rw [if_neg hh]
        by_cases h5 : l.length = 50
        · rw [if_pos (by omega), sAdd_full hi hm hh' h5]
        · rw [if_neg (by omega), sAdd_ok hi hm hh' h5]
          have h := radd_loop l hl p l.length k 0 (by omega) (by omega) (by omega)
          simpa using h
    · rw [if_pos (by simpa using hm), sAdd_bad (fun h => hm h.2)]
  · rw [if_neg hi, sAdd_bad (fun h => hi h.1)]
    simp only [sextonref17_Add.j0]
    rw [if_pos trivial]
/-! Drop -/
def out (l : List S24) (c : Int) : List S24 := l.filter (fun x => !isC c x)
def sDrop (l : List S24) (c : Int) : List S24 × Int :=
  if sIs l = true then if sHas l c = true then (out l c, 0) else ([], 80) else ([], 1)
theorem out_all (l : List S24) (c : Int) (h : ∀ x ∈ l, x.f0 ≠ c) : out l c = l := by
  unfold out
  rw [List.filter_eq_self]
  intro x hx
  simpa [isC] using h x hx
theorem out_at (l : List S24) (c : Int) (hs : Srt l) (hh : sHas l c = true) : l.take (l.findIdx (isC c)) ++ l.drop (l.findIdx (isC c) + 1) = out l c := by
  induction l with
  | nil => simp [sHas] at hh
  | cons x l ih =>
    simp only [Srt, List.pairwise_cons] at hs
    rw [List.findIdx_cons]
    by_cases hx : isC c x = true
    · have hc : x.f0 = c := by simpa [isC] using hx
      have h1 : out (x :: l) c = out l c := by simp [out, hx]
      rw [h1, out_all l c (fun y hy => by have := hs.1 y hy; omega), hx]
      rfl
    · have hx' : isC c x = false := by simpa using hx
      have h1 : out (x :: l) c = x :: out l c := by simp [out, hx']
      rw [h1, hx', ← ih hs.2 (by simpa [sHas, hx'] using hh)]
      rfl
theorem drop_of (l : List S24) (hl : l.length ≤ 1000000) (c : Int) (k : Nat) (hk : l.length < k) : pin_Drop.f k l c = some (sDrop l c) := by
  simp only [pin_Drop.f]
  rw [Is_of l hl k hk]
  simp only [Option.bind_some]
  unfold sDrop
  by_cases hi : sIs l = true
  · obtain ⟨_, hs, h50⟩ := (sIs_iff l).1 hi
    rw [if_pos hi, if_pos hi, place_of l hl c]
    simp only [Option.bind_some]
    by_cases hh : sHas l c = true
    · have hlt := has_lt hh
      rw [if_pos hh, if_pos hh, if_neg (by omega)]
      simp only [api_Pin_25.f]
      rw [if_pos (by omega)]
      simp only [Option.bind_some]
      rw [wrap_nat _ (by omega)]
      simp only [api_Pin_29.f]
      rw [if_pos ⟨by omega, by omega, by omega⟩, Int.toNat_natCast, out_at l c hs hh]
      rfl
    · rw [if_neg hh, if_neg hh, if_pos (by decide)]
  · rw [if_neg hi, if_neg hi]
theorem rdrop_loop (l : List S24) (hl : l.length ≤ 1000) (c : Int) (d : Nat) : ∀ (k i : Nat), l.length - i = d → i ≤ l.length → d < k →
    sextonref17_Drop.l0 k l c (out (l.take i) c) (i : Int) = some (if (out l c).length = l.length then ([], 80) else (out l c, 0)) := by
  induction d with
  | zero =>
    intro k i hd hi hk
    obtain ⟨k, rfl⟩ : ∃ m, k = m + 1 := ⟨k - 1, by omega⟩
    simp only [sextonref17_Drop.l0]
    rw [if_neg (by omega), List.take_of_length_le (by omega)]
    by_cases h : (out l c).length = l.length
    · rw [if_pos (by omega), if_pos h]
    · rw [if_neg (by omega), if_neg h]
  | succ d ih =>
    intro k i hd hi hk
    obtain ⟨k, rfl⟩ : ∃ m, k = m + 1 := ⟨k - 1, by omega⟩
    have hlt : i < l.length := by omega
    have hr := ih k (i + 1) (by omega) (by omega) (by omega)
    have hle : (out (l.take i) c).length ≤ (l.take i).length := List.length_filter_le _ _
    have hti : (l.take i).length = i := by simp; omega
    rw [List.take_succ_eq_append_getElem hlt] at hr
    simp only [sextonref17_Drop.l0]
    rw [if_pos (by omega), if_pos (by omega), rd_nat l i hlt, wrap_nat i (by omega)]
    by_cases h : l[i].f0 = c
    · have h1 : isC c l[i] = true := by simpa [isC] using h
      rw [if_pos h]
      have h2 : out (l.take i ++ [l[i]]) c = out (l.take i) c := by
        unfold out
        rw [List.filter_append, List.filter_cons_of_neg (by simp [h1]), List.filter_nil, List.append_nil]
      rw [h2] at hr
      exact hr
    · have h1 : isC c l[i] = false := by simpa [isC] using h
      rw [if_neg h, if_pos (by omega)]
      have h2 : out (l.take i ++ [l[i]]) c = out (l.take i) c ++ [l[i]] := by
        unfold out
        rw [List.filter_append, List.filter_cons_of_pos (by simp [h1]), List.filter_nil]
      rw [h2] at hr
      exact hr
theorem rdrop_of (l : List S24) (hl : l.length ≤ 1000) (c : Int) (k : Nat) (hk : l.length < k) : sextonref17_Drop.f k l c = some (sDrop l c) := by
  simp only [sextonref17_Drop.f]
  rw [rIs_of l (by omega) k hk]
  simp only [Option.bind_some]
  unfold sDrop
  by_cases hi : sIs l = true
  · rw [if_pos hi, if_pos hi]
    have h := rdrop_loop l hl c l.length k 0 (by omega) (by omega) hk
    simp only [List.take_zero] at h
    refine Eq.trans h ?_
    by_cases hh : sHas l c = true
    · have hlt := has_lt hh
      have : ¬ (out l c).length = l.length := by
        intro he
        unfold out at he
        have h1 := List.length_filter_eq_length_iff.1 he
        unfold sHas at hh
        obtain ⟨x, hx, hx2⟩ := List.any_eq_true.1 hh
        have := h1 x hx
        rw [hx2] at this
        cases this
      rw [if_neg this, if_pos hh]
    · rw [if_neg hh, if_pos (by rw [out_all l c (has_none (by simpa using hh))])]
  · rw [if_neg hi, if_neg hi]
/-! Same, Own -/
theorem same_loop (l : List S24) (hl : l.length ≤ 1000000) (d : Nat) : ∀ (k i : Nat), l.length - i = d → i ≤ l.length → d < k → sextonref17_Same.l0 k l l (i : Int) = some true := by
  induction d with
  | zero =>
    intro k i hd hi hk
    obtain ⟨k, rfl⟩ : ∃ m, k = m + 1 := ⟨k - 1, by omega⟩
    simp only [sextonref17_Same.l0]
    rw [if_neg (by omega)]
  | succ d ih =>
    intro k i hd hi hk
    obtain ⟨k, rfl⟩ : ∃ m, k = m + 1 := ⟨k - 1, by omega⟩
    simp only [sextonref17_Same.l0]
    rw [if_pos (by omega), if_pos (by omega), if_pos (by omega), if_neg (by simp), wrap_nat i (by omega)]
    exact ih k (i + 1) (by omega) (by omega) (by omega)
theorem same_of (l : List S24) (hl : l.length ≤ 1000000) (k : Nat) (hk : l.length < k) : sextonref17_Same.f k l l = some true := by
  simp only [sextonref17_Same.f]
  rw [if_pos trivial]
  exact same_loop l hl l.length k 0 (by omega) (by omega) hk
theorem own_of (l : List S24) (hl : l.length ≤ 1000000) : sextonref17_Own.f l = some l := by
  simp only [sextonref17_Own.f]
  rw [if_pos (by simp; omega)]
  simp
/-! Least, Raise -/
def low (a : Int) (l : List S24) : Int := l.foldl (fun m x => mn m x.f1) a
theorem low_cons (a : Int) (x : S24) (l : List S24) : low a (x :: l) = low (mn a x.f1) l := rfl
theorem times_loop (l : List S24) (hl : l.length ≤ 1000000) (d : Nat) : ∀ (k i : Nat), l.length - i = d → i ≤ l.length → d < k →
    pin_times.l0 k ((l.take i).map (·.f1)) l (l.length : Int) (i : Int) = some (l.map (·.f1)) := by
  induction d with
  | zero =>
    intro k i hd hi hk
    obtain ⟨k, rfl⟩ : ∃ m, k = m + 1 := ⟨k - 1, by omega⟩
    simp only [pin_times.l0]
    rw [if_neg (by omega), List.take_of_length_le (by omega)]
  | succ d ih =>
    intro k i hd hi hk
    obtain ⟨k, rfl⟩ : ∃ m, k = m + 1 := ⟨k - 1, by omega⟩
    have hlt : i < l.length := by omega
    have hr := ih k (i + 1) (by omega) (by omega) (by omega)
    rw [List.take_succ_eq_append_getElem hlt, List.map_append] at hr
    simp only [pin_times.l0]
    rw [if_pos (by omega), if_pos (by omega), if_pos (by omega), if_pos (by simp; omega), rd_nat l i hlt, wrap_nat i (by omega)]
    exact hr
theorem times_of (l : List S24) (hl : l.length ≤ 1000000) (k : Nat) (hk : l.length < k) : pin_times.f k l = some (l.map (·.f1)) := times_loop l hl l.length k 0 (by omega) (by omega) hk
theorem least_loop (t : List Int) (hl : t.length ≤ 1000000) (d : Nat) : ∀ (k i : Nat) (a : Int), t.length - i = d → i ≤ t.length → d < k →
    pin_least.l0 k a t (t.length : Int) (i : Int) = some ((t.drop i).foldl mn a) := by
  induction d with
  | zero =>
    intro k i a hd hi hk
    obtain ⟨k, rfl⟩ : ∃ m, k = m + 1 := ⟨k - 1, by omega⟩
    simp only [pin_least.l0]
    rw [if_neg (by omega), List.drop_eq_nil_of_le (by omega)]
    rfl
  | succ d ih =>
    intro k i a hd hi hk
    obtain ⟨k, rfl⟩ : ∃ m, k = m + 1 := ⟨k - 1, by omega⟩
    have hlt : i < t.length := by omega
    simp only [pin_least.l0]
    rw [if_pos (by omega), if_pos (by omega), if_pos (by omega), rdi_nat t i hlt, wrap_nat i (by omega), ih k (i + 1) _ (by omega) (by omega) (by omega), List.drop_eq_getElem_cons hlt]
    rfl
theorem least_of (l : List S24) (hl : l.length ≤ 1000000) (a : Int) (k : Nat) (hk : l.length < k) : pin_least.f k a (l.map (·.f1)) = some (low a l) := by
  have h := least_loop (l.map (·.f1)) (by simpa using hl) l.length k 0 a (by simp) (by simp) hk
  rw [List.drop_zero, List.foldl_map] at h
  exact h
def sLeast (l : List S24) : Int × Bool := match l with
  | [] => (0, false)
  | x :: l => (low x.f1 l, true)
theorem mn_self (a : Int) : mn a a = a := by unfold mn; split <;> rfl
theorem Least_of (l : List S24) (hl : l.length ≤ 1000000) (k : Nat) (hk : l.length < k) : pin_Least.f k l = some (sLeast l) := by
  simp only [pin_Least.f]
  cases l with
  | nil => rfl
  | cons x l =>
    rw [if_neg (by simp only [List.length_cons]; omega), if_pos (by simp only [List.length_cons]; omega), times_of _ hl k hk]
    simp only [Option.bind_some]
    rw [show rd_T24 (x :: l) 0 = x from rfl, least_of (x :: l) hl x.f1 k hk, low_cons, mn_self]
    rfl
theorem rleast_loop (l : List S24) (hl : l.length ≤ 1000000) (d : Nat) : ∀ (k i : Nat) (a : Int), l.length - i = d → i ≤ l.length → d < k →
    sextonref17_Least.l0 k l a (i : Int) = some (low a (l.drop i), true) := by
  induction d with
  | zero =>
    intro k i a hd hi hk
    obtain ⟨k, rfl⟩ : ∃ m, k = m + 1 := ⟨k - 1, by omega⟩
    simp only [sextonref17_Least.l0]
    rw [if_neg (by omega), List.drop_eq_nil_of_le (by omega)]
    rfl
  | succ d ih =>
    intro k i a hd hi hk
    obtain ⟨k, rfl⟩ : ∃ m, k = m + 1 := ⟨k - 1, by omega⟩
    have hlt : i < l.length := by omega
    simp only [sextonref17_Least.l0]
    rw [if_pos (by omega), if_pos (by omega), rd_nat l i hlt, wrap_nat i (by omega), ih k (i + 1) _ (by omega) (by omega) (by omega), List.drop_eq_getElem_cons hlt]
    rfl
theorem rLeast_of (l : List S24) (hl : l.length ≤ 1000000) (k : Nat) (hk : l.length < k) : sextonref17_Least.f k l = some (sLeast l) := by
  simp only [sextonref17_Least.f]
  cases l with
  | nil => rfl
  | cons x l =>
    rw [if_neg (by simp only [List.length_cons]; omega), if_pos (by simp only [List.length_cons]; omega), show rd_T24 (x :: l) 0 = x from rfl]
    have h := rleast_loop (x :: l) hl l.length k 1 x.f1 (by simp) (by simp) (by simp at hk; omega)
    exact h
theorem low_mn (l : List S24) : ∀ a b, low (mn a b) l = mn a (low b l) := by
  induction l with
  | nil => intro a b; rfl
  | cons x l ih =>
    intro a b
    rw [low_cons, low_cons, show mn (mn a b) x.f1 = mn a (mn b x.f1) by unfold mn; repeat' split <;> omega, ih]
def sRaise (w b last : Int) (l : List S24) : Int := mx w (low (mn b last) l)
theorem Raise_of (l : List S24) (hl : l.length ≤ 1000000) (w b last : Int) (k : Nat) (hk : l.length < k) : pin_Raise.f k w b last l = some (sRaise w b last l) := by
  simp only [pin_Raise.f]
  rw [times_of l hl k hk]
  simp only [Option.bind_some]
  rw [least_of l hl _ k hk]
  rfl
theorem rRaise_of (l : List S24) (hl : l.length ≤ 1000000) (w b last : Int) (k : Nat) (hk : l.length < k) : sextonref17_Raise.f k w b last l = some (sRaise w b last l) := by
  simp only [sextonref17_Raise.f]
  rw [rLeast_of l hl k hk]
  simp only [Option.bind_some]
  cases l with
  | nil => rfl
  | cons x l =>
    rw [show sLeast (x :: l) = (low x.f1 l, true) from rfl, if_pos rfl]
    unfold sRaise
    rw [low_cons, low_mn]
/-- The least one is no greater than what it began with, nor than any. -/
theorem low_le (l : List S24) : ∀ a, low a l ≤ a ∧ ∀ x ∈ l, low a l ≤ x.f1 := by
  induction l with
  | nil => intro a; exact ⟨Int.le_refl _, fun x hx => by simp at hx⟩
  | cons y l ih =>
    intro a
    obtain ⟨h1, h2⟩ := ih (mn a y.f1)
    rw [low_cons]
    have h3 : mn a y.f1 ≤ a ∧ mn a y.f1 ≤ y.f1 := by unfold mn; split <;> omega
    refine ⟨by omega, fun x hx => ?_⟩
    rcases List.mem_cons.1 hx with rfl | hx
    · omega
    · exact h2 x hx
theorem low_in (l : List S24) : ∀ a, low a l = a ∨ ∃ x ∈ l, low a l = x.f1 := by
  induction l with
  | nil => intro a; exact .inl rfl
  | cons y l ih =>
    intro a
    rw [low_cons]
    rcases ih (mn a y.f1) with h | ⟨x, hx, h⟩
    · rw [h]
      have : mn a y.f1 = a ∨ mn a y.f1 = y.f1 := by unfold mn; split <;> simp
      rcases this with h2 | h2
      · exact .inl h2
      · exact .inr ⟨y, List.mem_cons_self, h2⟩
    · exact .inr ⟨x, List.mem_cons_of_mem _ hx, h⟩
/-- The least of some pins: one of them, and none is less. -/
theorem sLeast_spec (l : List S24) (h : l ≠ []) : (sLeast l).2 = true ∧ (∃ x ∈ l, (sLeast l).1 = x.f1) ∧ ∀ x ∈ l, (sLeast l).1 ≤ x.f1 := by
  cases l with
  | nil => exact absurd rfl h
  | cons y l =>
    refine ⟨rfl, ?_, ?_⟩
    · rcases low_in l y.f1 with h | ⟨x, hx, h⟩
      · exact ⟨y, List.mem_cons_self, h⟩
      · exact ⟨x, List.mem_cons_of_mem _ hx, h⟩
    · intro x hx
      have h1 := low_le l y.f1
      rcases List.mem_cons.1 hx with rfl | hx
      · exact h1.1
      · exact h1.2 x hx
theorem sLeast_perm {l m : List S24} (h : l.Perm m) : sLeast l = sLeast m := by
  by_cases hl : l = []
  · subst hl
    rw [List.nil_perm.1 h]
  · have hm : m ≠ [] := fun e => by subst e; exact hl (List.perm_nil.1 h)
    obtain ⟨a1, ⟨x, hx, a2⟩, a3⟩ := sLeast_spec l hl
    obtain ⟨b1, ⟨y, hy, b2⟩, b3⟩ := sLeast_spec m hm
    have h1 := a3 y (h.mem_iff.2 hy)
    have h2 := b3 x (h.mem_iff.1 hx)
    exact Prod.ext (by omega) (by rw [a1, b1])
/-- An Add that is let in: the pins are right. -/
theorem add_in (l : List S24) (p : S24) (h : (sAdd l p).2 = 0) : sIs l = true ∧ mayS p = true ∧ sHas l p.f0 = false ∧ (sAdd l p).1 = ins p l ∧ sIs (ins p l) = true := by
  unfold sAdd at h ⊢
  split at h
  · rename_i hi
    rw [if_pos hi]
    split at h
    · simp at h
    · rename_i h1
      rw [if_neg h1]
      split at h
      · simp at h
      · rename_i h2
        rw [if_neg h2]
        obtain ⟨ha, hs, h50⟩ := (sIs_iff l).1 hi.1
        have hh : sHas l p.f0 = false := by simpa using h1
        refine ⟨hi.1, hi.2, hh, rfl, (sIs_iff _).2 ⟨fun x hx => ?_, ins_srt p l hs hh, by rw [ins_length]; omega⟩⟩
        rcases ins_mem.1 hx with rfl | hx
        · exact hi.2
        · exact ha x hx
  · simp at h
theorem add_length (l : List S24) (p : S24) : (sAdd l p).1.length ≤ l.length + 1 := by
  unfold sAdd
  split
  · split
    · simp
    · split
      · simp
      · simp [ins_length]
  · simp
theorem drop_in (l : List S24) (c : Int) (h : (sDrop l c).2 = 0) : sIs l = true ∧ sHas l c = true ∧ (sDrop l c).1 = out l c ∧ sIs (out l c) = true := by
  unfold sDrop at h ⊢
  split at h
  · rename_i hi
    rw [if_pos hi]
    split at h
    · rename_i hh
      rw [if_pos hh]
      obtain ⟨ha, hs, h50⟩ := (sIs_iff l).1 hi
      have hle : (out l c).length ≤ l.length := List.length_filter_le _ _
      exact ⟨hi, hh, rfl, (sIs_iff _).2 ⟨fun x hx => ha x (List.mem_filter.1 hx).1, hs.filter _, by omega⟩⟩
    · simp at h
  · simp at h
theorem drop_length (l : List S24) (c : Int) : (sDrop l c).1.length ≤ l.length := by
  unfold sDrop
  split
  · split
    · exact List.length_filter_le _ _
    · simp
  · simp
end Go.Proofs.Ytkdpjgcimnchlaa.Spec
