-- printed by a program of this session (wip/tools/xprint.py) over the translation; not trusted: Lean checks it
import Derived.Test.YtkdpjgcimnchlaaPx0
import Derived.Test.YtkdpjgcimnchlaaPx1
import Derived.Test.YtkdpjgcimnchlaaPx3
import Derived.Test.YtkdpjgcimnchlaaPx4
import Derived.Test.YtkdpjgcimnchlaaPx6
namespace Go.Proofs.Ytkdpjgcimnchlaa.P
open Go.RowKit Go.Proofs.YtkdpjgcimnchlaaW.PrintWords Go.Proofs.YtkdpjgcimnchlaaW.PrintLast Go.Proofs.YtkdpjgcimnchlaaW.PrintMore
attribute [local go_sem] max2_int min2_int max_two min_two max_three min_three max_four min_four   -- for this text's walks alone
set_option linter.unusedVariables false
set_option linter.unusedSimpArgs false

attribute [local go_sem high] eqA24
/-! ### sextonref17_Least: function 16 -/
def sextonref17_Least.l0 : Nat → List (S24) → Int → Int → Option (Int × Bool)
  | 0, _, _, _ => none
  | k + 1, x0, x4, x5 => if x5 < (x0.length : Int) then (if 0 ≤ x5 then (sextonref17_Least.l0 k x0 (mn x4 ((rd_T24 x0 x5).f1)) (wrap64 (x5 + 1))) else (none)) else (some (x4, true))
def sextonref17_Least.f (k : Nat) (l0 : List (S24)) : Option (Int × Bool) := if (l0.length : Int) = 0 then (some (0, false)) else (if 0 < (l0.length : Int) then (sextonref17_Least.l0 k l0 ((rd_T24 l0 0).f1) 1) else (none))
theorem sextonref17_Least.mono_l : ∀ k, (∀ y0 y1 y2, LeO (sextonref17_Least.l0 k y0 y1 y2) (sextonref17_Least.l0 (k + 1) y0 y1 y2))
  | 0 => fun _ _ _ r h => by simp [sextonref17_Least.l0] at h
  | k + 1 => by
    have ih0 := sextonref17_Least.mono_l k
    · intro y0 y1 y2
      unfold sextonref17_Least.l0
      repeat' first
      | (with_reducible exact ih0 _ _ _)
      | (with_reducible exact LeO.refl _)
      | (with_reducible exact LeO.none _)
      | (with_reducible refine LeO.ite ?_ ?_)
      | (with_reducible refine LeO.bind ?_ (fun _ => ?_))
      | exact ih0 _ _ _
      | exact LeO.none _
      | refine LeO.ite ?_ ?_
      | refine LeO.bind ?_ (fun _ => ?_)
theorem sextonref17_Least.mono : ∀ a0 k, LeO (sextonref17_Least.f k a0) (sextonref17_Least.f (k + 1) a0) := by
  intro a0 k
  have ih0 := sextonref17_Least.mono_l k
  unfold sextonref17_Least.f
  repeat' first
      | (with_reducible exact ih0 _ _ _)
      | (with_reducible exact LeO.refl _)
      | (with_reducible exact LeO.none _)
      | (with_reducible refine LeO.ite ?_ ?_)
      | (with_reducible refine LeO.bind ?_ (fun _ => ?_))
      | exact ih0 _ _ _
      | exact LeO.none _
      | refine LeO.ite ?_ ?_
      | refine LeO.bind ?_ (fun _ => ?_)
set_option maxHeartbeats 8000000 in
set_option maxRecDepth 100000 in
theorem sextonref17_Least.calls (k : Nat) (A0 : Option Addr) (c0 : Nat) (l0 : List (S24)) (r1 : Int) (r2 : Bool) (w : World) (hr0 : Kd.C k24 w A0 l0.length l0) (hc0 : l0.length ≤ c0) (h : sextonref17_Least.f k l0 = some (r1, r2)) :
    Calls Try.prog 16 #[.slice A0 l0.length c0] w fun e w' => e = .returned (.tuple #[.int .i64 r1, .bool r2]) ∧ Below w.heap.size w w' := by
  have HR0 := Aside0.mk hr0
  have HC0 := Aside0.mk hc0
  clear hr0 hc0
  have HB := Aside0.mk (Below.refl w.heap.size w)
  have H : (if (l0.length : Int) = 0 then (some (0, false)) else (if 0 < (l0.length : Int) then (sextonref17_Least.l0 k l0 ((rd_T24 l0 0).f1) 1) else (none))) = some (r1, r2) := h
  clear h
  by_cases c2 : (l0.length : Int) = 0
  · rw [if_pos c2] at H
    have c2b0 : ((l0.length : Int) == 0) = true := beq_iff_eq.mpr c2
    have c2b1 : ((l0.length : Int) != 0) = false := bne_eq_false_iff_eq.mpr c2
    clear c2
    simp only [Option.some.injEq, Prod.mk.injEq] at H
    obtain ⟨rfl, rfl⟩ := H
    go_enter Try.func16, Try.ntmps16
    go_wp2
    go_ret2
    exact ⟨by first | rfl | (simp [errW_none, errW_some] <;> rfl) | (simp [*, errW_none, errW_some] <;> rfl), by repeat (first | (with_reducible first | exact HB.out | apply below_alloc | apply pw_below_drewN | apply below_drew1) | exact HB.out)⟩
  · rw [if_neg c2] at H
    have c2b0 : ((l0.length : Int) == 0) = false := beq_eq_false_iff_ne.mpr c2
    have c2b1 : ((l0.length : Int) != 0) = true := bne_iff_ne.mpr c2
    have c2b2 : ¬ (l0 = []) := fun h_ => c2 (by rw [h_]; rfl)
    by_cases c3 : 0 < (l0.length : Int)
    · rw [if_pos c3] at H
      have c3b0 : decide (0 < (l0.length : Int)) = true := decide_eq_true c3
      have c3b1 : decide (0 < l0.length) = true := decide_eq_true (by omega)
      clear c3
      have H' := Aside0.mk H
      clear H
      have p211 : 0 ≤ (0 : Int) := (by omega)
      have q211 : 0 < (l0.length : Int) := of_decide_eq_true (by first | (with_reducible assumption) | assumption)
      obtain ⟨ad211, e211, hx211_0, hx211_1⟩ := at_T24 HR0.out 0 p211 q211
      cases e211
      have qi211 : (0 < l0.length) = True := eq_true (by omega)
      (try rw [show ((0 : Int)).toNat = 0 from rfl] at hx211_0)
      (try rw [show 0 * 2 = 0 from rfl] at hx211_0)
      (try rw [Addr.add_zero'] at hx211_0)
      (try rw [show ((0 : Int)).toNat = 0 from rfl] at hx211_1)
      (try rw [show 0 * 2 = 0 from rfl] at hx211_1)
      (try rw [Addr.add_zero'] at hx211_1)
      replace p211 := eq_true p211
      replace q211 := eq_true q211
      go_enter Try.func16, Try.ntmps16
      go_wp2
      go_loopg [4, 5] k (fun kq v4 v5 w' => ∃ (x4_1 : Int) (x5_1 : Int), v4 = .int .i64 x4_1 ∧ v5 = .int .i64 x5_1 ∧ Aside0 (sextonref17_Least.l0 kq l0 x4_1 x5_1 = some (r1, r2)) ∧ Aside0 (kq ≤ k) ∧ Aside0 (Below w.heap.size w w'))
      case atStart => exact ⟨((rd_T24 l0 0).f1), (1), (by first | rfl | (simp; done) | (simp [*]; done)), (by first | rfl | (simp; done) | (simp [*]; done)), H', ⟨Nat.le_refl _⟩, ⟨by repeat (first | (with_reducible first | exact HB.out | apply below_alloc | apply pw_below_drewN | apply below_drew1) | exact HB.out)⟩⟩
      case round =>
        clear H'
        try clear c1
        try clear c2
        try clear c2b0
        try clear c2b1
        try clear c2b2
        try clear p2
        try clear q2
        try clear hx2
        try clear qi2
        try clear c3
        try clear c3b0
        try clear c3b1
        try clear hx211_0
        try clear hx211_1
        try clear p211
        try clear q211
        obtain ⟨x4_1, x5_1, rfl, rfl, HA, HK1, HB⟩ := hrel
        cases gk with
        | zero => exact absurd HA.out (by simp [sextonref17_Least.l0])
        | succ k1 =>
          have H := HA.out
          clear HA
          simp only [sextonref17_Least.l0] at H
          by_cases c4 : x5_1 < (l0.length : Int)
          · rw [if_pos c4] at H
            have c4b0 : decide (x5_1 < (l0.length : Int)) = true := decide_eq_true c4
            clear c4
            by_cases c5 : 0 ≤ x5_1
            · rw [if_pos c5] at H
              have c5b0 : decide (0 ≤ x5_1) = true := decide_eq_true c5
              clear c5
              obtain ⟨ji6, hji6⟩ : ∃ j_ : Int, (mn x4_1 ((rd_T24 l0 x5_1).f1)) = j_ := ⟨_, rfl⟩
              replace H : (sextonref17_Least.l0 k1 l0 ji6 (wrap64 (x5_1 + 1))) = some (r1, r2) := by first | (rw [hji6] at H; exact H) | (simp only [hji6] at H ⊢; exact H)
              have hji6_ : (if ((rd_T24 l0 x5_1).f1) < x4_1 then ((rd_T24 l0 x5_1).f1) else x4_1) = ji6 := hji6
              have H' := Aside0.mk H
              clear H
              have p212 : 0 ≤ (x5_1 : Int) := of_decide_eq_true (by first | (with_reducible assumption) | assumption)
              have q212 : x5_1 < (l0.length : Int) := of_decide_eq_true (by first | (with_reducible assumption) | assumption)
              obtain ⟨ad212, e212, hx212_0, hx212_1⟩ := at_T24 HR0.out x5_1 p212 q212
              obtain rfl : ad211 = ad212 := (by injection e212)
              replace hx212_0 := (HB.out.cell (World.block_lt_of_cell? w _ hx212_0)).trans hx212_0
              replace hx212_1 := (HB.out.cell (World.block_lt_of_cell? w _ hx212_1)).trans hx212_1
              replace p212 := eq_true p212
              replace q212 := eq_true q212
              go_wp2
              go_roundg k1
              case measure => have := HK1.out; omega
              case rel => exact ⟨(ji6), (wrap64 (x5_1 + 1)), (by first | rfl | (simp; done) | (simp only [← hji6] <;> (first | rfl | simp)) | (simp [*]; done)), (by first | rfl | (simp; done) | (simp [*]; done)), H', ⟨by have := HK1.out; omega⟩, ⟨by repeat (first | (with_reducible first | exact HB.out | apply below_alloc | apply pw_below_drewN | apply below_drew1) | exact HB.out)⟩⟩
            · rw [if_neg c5] at H
              exact absurd H (by simp)
          · rw [if_neg c4] at H
            have c4b0 : decide (x5_1 < (l0.length : Int)) = false := decide_eq_false c4
            clear c4
            simp only [Option.some.injEq, Prod.mk.injEq] at H
            obtain ⟨rfl, rfl⟩ := H
            go_wp2
            go_ret2
            exact ⟨by first | rfl | (simp [errW_none, errW_some] <;> rfl) | (simp [*, errW_none, errW_some] <;> rfl), by repeat (first | (with_reducible first | exact HB.out | apply below_alloc | apply pw_below_drewN | apply below_drew1) | exact HB.out)⟩
    · rw [if_neg c3] at H
      exact absurd H (by simp)

/-! ### sextonref17_Same: function 17 -/
def sextonref17_Same.l0 : Nat → List (S24) → List (S24) → Int → Option (Bool)
  | 0, _, _, _ => none
  | k + 1, x0, x1, x5 => if x5 < (x0.length : Int) then (if 0 ≤ x5 then (if x5 < (x1.length : Int) then (if (!(((rd_T24 x0 x5).f0) == ((rd_T24 x1 x5).f0)) || (!(((rd_T24 x0 x5).f1) == ((rd_T24 x1 x5).f1)))) = true then (some false) else (sextonref17_Same.l0 k x0 x1 (wrap64 (x5 + 1)))) else (none)) else (none)) else (some true)
def sextonref17_Same.f (k : Nat) (l0 : List (S24)) (l1 : List (S24)) : Option (Bool) := if (l0.length : Int) = (l1.length : Int) then (sextonref17_Same.l0 k l0 l1 0) else (some false)
theorem sextonref17_Same.mono_l : ∀ k, (∀ y0 y1 y2, LeO (sextonref17_Same.l0 k y0 y1 y2) (sextonref17_Same.l0 (k + 1) y0 y1 y2))
  | 0 => fun _ _ _ r h => by simp [sextonref17_Same.l0] at h
  | k + 1 => by
    have ih0 := sextonref17_Same.mono_l k
    · intro y0 y1 y2
      unfold sextonref17_Same.l0
      repeat' first
      | (with_reducible exact ih0 _ _ _)
      | (with_reducible exact LeO.refl _)
      | (with_reducible exact LeO.none _)
      | (with_reducible refine LeO.ite ?_ ?_)
      | (with_reducible refine LeO.bind ?_ (fun _ => ?_))
      | exact ih0 _ _ _
      | exact LeO.none _
      | refine LeO.ite ?_ ?_
      | refine LeO.bind ?_ (fun _ => ?_)
theorem sextonref17_Same.mono : ∀ a0 a1 k, LeO (sextonref17_Same.f k a0 a1) (sextonref17_Same.f (k + 1) a0 a1) := by
  intro a0 a1 k
  have ih0 := sextonref17_Same.mono_l k
  unfold sextonref17_Same.f
  repeat' first
      | (with_reducible exact ih0 _ _ _)
      | (with_reducible exact LeO.refl _)
      | (with_reducible exact LeO.none _)
      | (with_reducible refine LeO.ite ?_ ?_)
      | (with_reducible refine LeO.bind ?_ (fun _ => ?_))
      | exact ih0 _ _ _
      | exact LeO.none _
      | refine LeO.ite ?_ ?_
      | refine LeO.bind ?_ (fun _ => ?_)
set_option maxHeartbeats 8000000 in
set_option maxRecDepth 100000 in
theorem sextonref17_Same.calls (k : Nat) (A0 : Option Addr) (c0 : Nat) (l0 : List (S24)) (A1 : Option Addr) (c1 : Nat) (l1 : List (S24)) (r : Bool) (w : World) (hr0 : Kd.C k24 w A0 l0.length l0) (hc0 : l0.length ≤ c0) (hr1 : Kd.C k24 w A1 l1.length l1) (hc1 : l1.length ≤ c1) (h : sextonref17_Same.f k l0 l1 = some r) :
    Calls Try.prog 17 #[.slice A0 l0.length c0, .slice A1 l1.length c1] w fun e w' => e = .returned (.bool r) ∧ Drawn0 w w' := by
  have hu24 := Try.underlying24
  have HR0 := Aside0.mk hr0
  have HC0 := Aside0.mk hc0
  clear hr0 hc0
  have HR1 := Aside0.mk hr1
  have HC1 := Aside0.mk hc1
  clear hr1 hc1
  have H : (if (l0.length : Int) = (l1.length : Int) then (sextonref17_Same.l0 k l0 l1 0) else (some false)) = some r := h
  clear h
  by_cases c3 : (l0.length : Int) = (l1.length : Int)
  · rw [if_pos c3] at H
    have c3b0 : ((l0.length : Int) == (l1.length : Int)) = true := beq_iff_eq.mpr c3
    have c3b1 : ((l0.length : Int) != (l1.length : Int)) = false := bne_eq_false_iff_eq.mpr c3
    have c3b2 : (l0.length == l1.length) = true := by first | simpa using c3 | (simp at c3 ⊢; omega)
    clear c3
    have H' := Aside0.mk H
    clear H
    go_enter Try.func17, Try.ntmps17
    go_wp2
    repeat (go_quiet (fail); try go_wp2)
    go_loopg [5] k (fun kq v5 w' => ∃ (x5_1 : Int), v5 = .int .i64 x5_1 ∧ Aside0 (sextonref17_Same.l0 kq l0 l1 x5_1 = some r) ∧ Aside0 (kq ≤ k) ∧ Drawn0 w w')
    case atStart => exact ⟨(0), (by first | rfl | (simp; done) | (simp [*]; done)), H', ⟨Nat.le_refl _⟩, by repeat (first | exact Drawn0.refl _ | apply Drawn0.step)⟩
    case round =>
      clear H'
      try clear c1
      try clear p2
      try clear c3
      try clear c3b0
      try clear c3b1
      try clear c3b2
      obtain ⟨x5_1, rfl, HA, HK1, ⟨m1, rfl⟩⟩ := hrel
      cases gk with
      | zero => exact absurd HA.out (by simp [sextonref17_Same.l0])
      | succ k1 =>
        have H := HA.out
        clear HA
        simp only [sextonref17_Same.l0] at H
        by_cases c4 : x5_1 < (l0.length : Int)
        · rw [if_pos c4] at H
          have c4b0 : decide (x5_1 < (l0.length : Int)) = true := decide_eq_true c4
          clear c4
          by_cases c5 : 0 ≤ x5_1
          · rw [if_pos c5] at H
            have c5b0 : decide (0 ≤ x5_1) = true := decide_eq_true c5
            clear c5
            by_cases c6 : x5_1 < (l1.length : Int)
            · rw [if_pos c6] at H
              have c6b0 : decide (x5_1 < (l1.length : Int)) = true := decide_eq_true c6
              clear c6
              by_cases c7 : (!(((rd_T24 l0 x5_1).f0) == ((rd_T24 l1 x5_1).f0)) || (!(((rd_T24 l0 x5_1).f1) == ((rd_T24 l1 x5_1).f1)))) = true
              · rw [if_pos c7] at H
                have c7b0 : (!(((rd_T24 l0 x5_1).f0) == ((rd_T24 l1 x5_1).f0)) || (!(((rd_T24 l0 x5_1).f1) == ((rd_T24 l1 x5_1).f1)))) = true := c7
                clear c7
                obtain rfl := Option.some.inj H
                have p213 : 0 ≤ (x5_1 : Int) := of_decide_eq_true (by first | (with_reducible assumption) | assumption)
                have q213 : x5_1 < (l0.length : Int) := of_decide_eq_true (by first | (with_reducible assumption) | assumption)
                obtain ⟨ad213, e213, hx213_0, hx213_1⟩ := at_T24 HR0.out x5_1 p213 q213
                cases e213
                replace p213 := eq_true p213
                replace q213 := eq_true q213
                have p214 : 0 ≤ (x5_1 : Int) := of_decide_eq_true (by first | (with_reducible assumption) | assumption)
                have q214 : x5_1 < (l1.length : Int) := of_decide_eq_true (by first | (with_reducible assumption) | assumption)
                obtain ⟨ad214, e214, hx214_0, hx214_1⟩ := at_T24 HR1.out x5_1 p214 q214
                cases e214
                replace p214 := eq_true p214
                replace q214 := eq_true q214
                go_wp2
                repeat (go_quiet (fail); try go_wp2)
                go_ret
                exact ⟨by first | rfl | (simp; done) | (simp [*]; done), by repeat (first | exact Drawn0.refl _ | apply Drawn0.step)⟩
              · rw [if_neg c7] at H
                have c7b0 : (!(((rd_T24 l0 x5_1).f0) == ((rd_T24 l1 x5_1).f0)) || (!(((rd_T24 l0 x5_1).f1) == ((rd_T24 l1 x5_1).f1)))) = false := by simpa using c7
                clear c7
                have H' := Aside0.mk H
                clear H
                have p213 : 0 ≤ (x5_1 : Int) := of_decide_eq_true (by first | (with_reducible assumption) | assumption)
                have q213 : x5_1 < (l0.length : Int) := of_decide_eq_true (by first | (with_reducible assumption) | assumption)
                obtain ⟨ad213, e213, hx213_0, hx213_1⟩ := at_T24 HR0.out x5_1 p213 q213
                cases e213
                replace p213 := eq_true p213
                replace q213 := eq_true q213
                have p214 : 0 ≤ (x5_1 : Int) := of_decide_eq_true (by first | (with_reducible assumption) | assumption)
                have q214 : x5_1 < (l1.length : Int) := of_decide_eq_true (by first | (with_reducible assumption) | assumption)
                obtain ⟨ad214, e214, hx214_0, hx214_1⟩ := at_T24 HR1.out x5_1 p214 q214
                cases e214
                replace p214 := eq_true p214
                replace q214 := eq_true q214
                go_wp2
                repeat (go_quiet (fail); try go_wp2)
                go_roundg k1
                case measure => have := HK1.out; omega
                case rel => exact ⟨(wrap64 (x5_1 + 1)), (by first | rfl | (simp; done) | (simp [*]; done)), H', ⟨by have := HK1.out; omega⟩, by repeat (first | exact Drawn0.refl _ | apply Drawn0.step)⟩
            · rw [if_neg c6] at H
              exact absurd H (by simp)
          · rw [if_neg c5] at H
            exact absurd H (by simp)
        · rw [if_neg c4] at H
          have c4b0 : decide (x5_1 < (l0.length : Int)) = false := decide_eq_false c4
          clear c4
          obtain rfl := Option.some.inj H
          go_wp2
          repeat (go_quiet (fail); try go_wp2)
          go_ret
          exact ⟨by first | rfl | (simp; done) | (simp [*]; done), by repeat (first | exact Drawn0.refl _ | apply Drawn0.step)⟩
  · rw [if_neg c3] at H
    have c3b0 : ((l0.length : Int) == (l1.length : Int)) = false := beq_eq_false_iff_ne.mpr c3
    have c3b1 : ((l0.length : Int) != (l1.length : Int)) = true := bne_iff_ne.mpr c3
    have c3b2 : (l0.length == l1.length) = false := by first | simpa using c3 | (simp at c3 ⊢; omega)
    obtain rfl := Option.some.inj H
    go_enter Try.func17, Try.ntmps17
    go_wp2
    repeat (go_quiet (fail); try go_wp2)
    go_ret
    exact ⟨by first | rfl | (simp; done) | (simp [*]; done), by repeat (first | exact Drawn0.refl _ | apply Drawn0.step)⟩

/-! ### pin_Raise: function 18 -/
def pin_Raise.f (k : Nat) (a0 : Int) (a1 : Int) (a2 : Int) (l3 : List (S24)) : Option (Int) := (pin_times.f k l3).bind fun t215 => ((pin_least.f k (mn a1 a2) t215).bind fun t218 => (some (mx a0 t218)))
theorem pin_Raise.mono : ∀ a0 a1 a2 a3 k, LeO (pin_Raise.f k a0 a1 a2 a3) (pin_Raise.f (k + 1) a0 a1 a2 a3) := by
  intro a0 a1 a2 a3 k
  unfold pin_Raise.f
  repeat' first
      | (with_reducible exact pin_least.mono _ _ _)
      | (with_reducible exact pin_times.mono _ _)
      | (with_reducible exact LeO.refl _)
      | (with_reducible exact LeO.none _)
      | (with_reducible refine LeO.ite ?_ ?_)
      | (with_reducible refine LeO.bind ?_ (fun _ => ?_))
      | exact pin_least.mono _ _ _
      | exact pin_times.mono _ _
      | exact LeO.none _
      | refine LeO.ite ?_ ?_
      | refine LeO.bind ?_ (fun _ => ?_)
set_option maxHeartbeats 8000000 in
set_option maxRecDepth 100000 in
theorem pin_Raise.calls (k : Nat) (a0 : Int) (a1 : Int) (a2 : Int) (A3 : Option Addr) (c3 : Nat) (l3 : List (S24)) (r : Int) (w : World) (hr3 : Kd.C k24 w A3 l3.length l3) (hc3 : l3.length ≤ c3) (h : pin_Raise.f k a0 a1 a2 l3 = some r) :
    Calls Try.prog 18 #[.int .i64 a0, .int .i64 a1, .int .i64 a2, .slice A3 l3.length c3] w fun e w' => e = .returned (.int .i64 r) ∧ Below w.heap.size w w' := by
  have HR3 := Aside0.mk hr3
  have HC3 := Aside0.mk hc3
  clear hr3 hc3
  have HB := Aside0.mk (Below.refl w.heap.size w)
  have H : ((pin_times.f k l3).bind fun t215 => ((pin_least.f k (mn a1 a2) t215).bind fun t218 => (some (mx a0 t218)))) = some r := h
  clear h
  obtain ⟨ji5, hji5⟩ : ∃ j_ : Int, (mn a1 a2) = j_ := ⟨_, rfl⟩
  replace H : ((pin_times.f k l3).bind fun t215 => ((pin_least.f k (ji5) t215).bind fun t218 => (some (mx a0 t218)))) = some r := by first | (rw [hji5] at H; exact H) | (simp only [hji5] at H ⊢; exact H)
  have hji5_ : (if a2 < a1 then a2 else a1) = ji5 := hji5
  replace H := Option.bind_eq_some_iff.mp H
  obtain ⟨t215, A60, H⟩ := H
  replace H : ((pin_least.f k (ji5) t215).bind fun t218 => (some (mx a0 t218))) = some r := H
  have A6 := Aside0.mk A60
  clear A60
  replace H := Option.bind_eq_some_iff.mp H
  obtain ⟨t218, A70, H⟩ := H
  replace H : (some (mx a0 t218)) = some r := H
  have A7 := Aside0.mk A70
  clear A70
  obtain ⟨ji8, hji8⟩ : ∃ j_ : Int, (mx a0 t218) = j_ := ⟨_, rfl⟩
  replace H : (some ji8) = some r := by first | (rw [hji8] at H; exact H) | (simp only [hji8] at H ⊢; exact H)
  (try rw [hji8] at A6)
  (try rw [hji8] at A7)
  have hji8_ : (if a0 < t218 then t218 else a0) = ji8 := hji8
  obtain rfl := Option.some.inj H
  go_enter Try.func18, Try.ntmps18
  go_wp2_with (first | ((with_reducible refine gate_callee (f := 31) rfl ?_); refine goesL_ (some 14) rfl rfl Try.func31 (by kernel_rfl) rfl #[.slice A3 l3.length c3] rfl (by (try simp only [List.map_toArray, List.map_cons, List.map_nil]); first | done | rfl | (simp only [List.length_drop, List.length_take]; rfl)) ?_; (with_reducible refine (pin_times.calls k _ _ l3 t215 _ ?side1 ?side2 A6.out).mono ?_); (case side1 => repeat (first | exact HR3.out | (with_reducible refine Kd.C_alloc ?_ _) | (with_reducible refine Kd.C_drewN ?_ _) | (with_reducible refine Kd.C_drew ?_))); (case side2 => exact HC3.out); rintro e w9 ⟨v216, rfl, ho0, hb⟩; refine ⟨_, rfl, ?_⟩; have n0_ := Aside0.mk (Kd.R_lower ho0 (below_size (by repeat (first | (with_reducible first | exact HB.out | apply below_alloc | apply pw_below_drewN | apply below_drew1) | exact HB.out)))); have n1_ := Aside0.mk (below_step (by repeat (first | (with_reducible first | exact HB.out | apply below_alloc | apply pw_below_drewN | apply below_drew1) | exact HB.out)) hb); clear HB; have HO217 := n0_; have HB := n1_; clear n0_ n1_; (try clear hb); (try clear hb2); (try clear hk); (try clear hi); (try clear ho0); obtain ⟨Ao10, co10, eo10⟩ := Kd.R_slice HO217.out; subst eo10) | ((with_reducible refine gate_callee (f := 30) rfl ?_); refine goesL_ (some 15) rfl rfl Try.func30 (by kernel_rfl) rfl #[.int .i64 ji5, .slice Ao10 t215.length co10] rfl (by (try simp only [List.map_toArray, List.map_cons, List.map_nil]); first | done | (simp only [hji5]; rfl) | rfl | (simp only [List.length_drop, List.length_take]; rfl)) ?_; (with_reducible refine (pin_least.calls k ji5 _ _ t215 t218 _ ?side1 ?side2 A7.out).mono ?_); (case side1 => repeat (first | exact (Kd.R_reads' HO217.out).2.2 | (with_reducible refine Kd.C_alloc ?_ _) | (with_reducible refine Kd.C_drewN ?_ _) | (with_reducible refine Kd.C_drew ?_))); (case side2 => exact (Kd.R_reads' HO217.out).2.1); rintro e w11 ⟨rfl, hb⟩; refine ⟨_, rfl, ?_⟩; have n0_ := Aside0.mk (Kd.R_below (by (with_reducible repeat (first | apply Kd.R_alloc | apply Kd.R_drewN | apply Kd.R_drew)); exact HO217.out) hb); have n1_ := Aside0.mk (below_step (by repeat (first | (with_reducible first | exact HB.out | apply below_alloc | apply pw_below_drewN | apply below_drew1) | exact HB.out)) hb); clear HO217; clear HB; have HO217 := n0_; have HB := n1_; clear n0_ n1_; (try clear hb); (try clear hb2); (try clear hk); (try clear hi)))
  go_ret
  exact ⟨by first | rfl | (simp [errW_none, errW_some] <;> rfl) | (simp only [← hji5, ← hji8]; first | rfl | (simp [errW_none, errW_some] <;> rfl)) | (simp [*, errW_none, errW_some] <;> rfl), by repeat (first | (with_reducible first | exact HB.out | apply below_alloc | apply pw_below_drewN | apply below_drew1) | exact HB.out)⟩

/-! ### sextonref17_Raise: function 19 -/
def sextonref17_Raise.f (k : Nat) (a0 : Int) (a1 : Int) (a2 : Int) (l3 : List (S24)) : Option (Int) := (sextonref17_Least.f k l3).bind fun bt219 => (if bt219.2 = true then (some (mx a0 (mn (mn a1 a2) bt219.1))) else (some (mx a0 (mn a1 a2))))
theorem sextonref17_Raise.mono : ∀ a0 a1 a2 a3 k, LeO (sextonref17_Raise.f k a0 a1 a2 a3) (sextonref17_Raise.f (k + 1) a0 a1 a2 a3) := by
  intro a0 a1 a2 a3 k
  unfold sextonref17_Raise.f
  repeat' first
      | (with_reducible exact sextonref17_Least.mono _ _)
      | (with_reducible exact LeO.refl _)
      | (with_reducible exact LeO.none _)
      | (with_reducible refine LeO.ite ?_ ?_)
      | (with_reducible refine LeO.bind ?_ (fun _ => ?_))
      | exact sextonref17_Least.mono _ _
      | exact LeO.none _
      | refine LeO.ite ?_ ?_
      | refine LeO.bind ?_ (fun _ => ?_)
set_option maxHeartbeats 8000000 in
set_option maxRecDepth 100000 in
theorem sextonref17_Raise.calls (k : Nat) (a0 : Int) (a1 : Int) (a2 : Int) (A3 : Option Addr) (c3 : Nat) (l3 : List (S24)) (r : Int) (w : World) (hr3 : Kd.C k24 w A3 l3.length l3) (hc3 : l3.length ≤ c3) (h : sextonref17_Raise.f k a0 a1 a2 l3 = some r) :
    Calls Try.prog 19 #[.int .i64 a0, .int .i64 a1, .int .i64 a2, .slice A3 l3.length c3] w fun e w' => e = .returned (.int .i64 r) ∧ Below w.heap.size w w' := by
  have HR3 := Aside0.mk hr3
  have HC3 := Aside0.mk hc3
  clear hr3 hc3
  have HB := Aside0.mk (Below.refl w.heap.size w)
  have H : ((sextonref17_Least.f k l3).bind fun bt219 => (if bt219.2 = true then (some (mx a0 (mn (mn a1 a2) bt219.1))) else (some (mx a0 (mn a1 a2))))) = some r := h
  clear h
  obtain ⟨ji5, hji5⟩ : ∃ j_ : Int, (mn a1 a2) = j_ := ⟨_, rfl⟩
  replace H : ((sextonref17_Least.f k l3).bind fun bt219 => (if bt219.2 = true then (some (mx a0 (mn (ji5) bt219.1))) else (some (mx a0 (ji5))))) = some r := by first | (rw [hji5] at H; exact H) | (simp only [hji5] at H ⊢; exact H)
  have hji5_ : (if a2 < a1 then a2 else a1) = ji5 := hji5
  replace H := Option.bind_eq_some_iff.mp H
  obtain ⟨⟨t219, t220⟩, A60, H⟩ := H
  replace H : (if t220 = true then (some (mx a0 (mn (ji5) t219))) else (some (mx a0 (ji5)))) = some r := H
  have A6 := Aside0.mk A60
  clear A60
  by_cases c7 : t220 = true
  · subst c7
    have H1 : (some (mx a0 (mn (ji5) t219))) = some r := by rw [if_pos rfl] at H; exact H
    clear H
    have H := H1
    clear H1
    obtain ⟨ji8, hji8⟩ : ∃ j_ : Int, (mn (ji5) t219) = j_ := ⟨_, rfl⟩
    replace H : (some (mx a0 (ji8))) = some r := by first | (rw [hji8] at H; exact H) | (simp only [hji8] at H ⊢; exact H)
    (try rw [hji8] at A6)
    have hji8_ : (if t219 < (ji5) then t219 else (ji5)) = ji8 := hji8
    obtain ⟨ji9, hji9⟩ : ∃ j_ : Int, (mx a0 (ji8)) = j_ := ⟨_, rfl⟩
    replace H : (some ji9) = some r := by first | (rw [hji9] at H; exact H) | (simp only [hji9] at H ⊢; exact H)
    (try rw [hji9] at A6)
    have hji9_ : (if a0 < (ji8) then (ji8) else a0) = ji9 := hji9
    obtain rfl := Option.some.inj H
    go_enter Try.func19, Try.ntmps19
    go_wp2_with (first | ((with_reducible refine gate_callee (f := 16) rfl ?_); refine goesL_ (some 17) rfl rfl Try.func16 (by kernel_rfl) rfl #[.slice A3 l3.length c3] rfl (by (try simp only [List.map_toArray, List.map_cons, List.map_nil]); first | done | rfl | (simp only [List.length_drop, List.length_take]; rfl)) ?_; (with_reducible refine (sextonref17_Least.calls k _ _ l3 t219 true _ ?side1 ?side2 A6.out).mono ?_); (case side1 => repeat (first | exact HR3.out | (with_reducible refine Kd.C_alloc ?_ _) | (with_reducible refine Kd.C_drewN ?_ _) | (with_reducible refine Kd.C_drew ?_))); (case side2 => exact HC3.out); rintro e w10 ⟨rfl, hb⟩; refine ⟨_, rfl, ?_⟩; have n0_ := Aside0.mk (below_step (by repeat (first | (with_reducible first | exact HB.out | apply below_alloc | apply pw_below_drewN | apply below_drew1) | exact HB.out)) hb); clear HB; have HB := n0_; clear n0_; (try clear hb); (try clear hb2); (try clear hk); (try clear hi)))
    go_ret
    exact ⟨by first | rfl | (simp [errW_none, errW_some] <;> rfl) | (simp only [← hji5, ← hji8, ← hji9]; first | rfl | (simp [errW_none, errW_some] <;> rfl)) | (simp [*, errW_none, errW_some] <;> rfl), by repeat (first | (with_reducible first | exact HB.out | apply below_alloc | apply pw_below_drewN | apply below_drew1) | exact HB.out)⟩
  · replace c7 := Bool.eq_false_iff.mpr c7
    subst c7
    have H1 : (some (mx a0 (ji5))) = some r := by rw [if_neg (show ¬ (false = true) by decide)] at H; exact H
    clear H
    have H := H1
    clear H1
    obtain ⟨ji11, hji11⟩ : ∃ j_ : Int, (mx a0 (ji5)) = j_ := ⟨_, rfl⟩
    replace H : (some ji11) = some r := by first | (rw [hji11] at H; exact H) | (simp only [hji11] at H ⊢; exact H)
    (try rw [hji11] at A6)
    have hji11_ : (if a0 < (ji5) then (ji5) else a0) = ji11 := hji11
    obtain rfl := Option.some.inj H
    go_enter Try.func19, Try.ntmps19
    go_wp2_with (first | ((with_reducible refine gate_callee (f := 16) rfl ?_); refine goesL_ (some 17) rfl rfl Try.func16 (by kernel_rfl) rfl #[.slice A3 l3.length c3] rfl (by (try simp only [List.map_toArray, List.map_cons, List.map_nil]); first | done | rfl | (simp only [List.length_drop, List.length_take]; rfl)) ?_; (with_reducible refine (sextonref17_Least.calls k _ _ l3 t219 false _ ?side1 ?side2 A6.out).mono ?_); (case side1 => repeat (first | exact HR3.out | (with_reducible refine Kd.C_alloc ?_ _) | (with_reducible refine Kd.C_drewN ?_ _) | (with_reducible refine Kd.C_drew ?_))); (case side2 => exact HC3.out); rintro e w12 ⟨rfl, hb⟩; refine ⟨_, rfl, ?_⟩; have n0_ := Aside0.mk (below_step (by repeat (first | (with_reducible first | exact HB.out | apply below_alloc | apply pw_below_drewN | apply below_drew1) | exact HB.out)) hb); clear HB; have HB := n0_; clear n0_; (try clear hb); (try clear hb2); (try clear hk); (try clear hi)))
    go_ret
    exact ⟨by first | rfl | (simp [errW_none, errW_some] <;> rfl) | (simp only [← hji5, ← hji11]; first | rfl | (simp [errW_none, errW_some] <;> rfl)) | (simp [*, errW_none, errW_some] <;> rfl), by repeat (first | (with_reducible first | exact HB.out | apply below_alloc | apply pw_below_drewN | apply below_drew1) | exact HB.out)⟩

/-! ### sextonlaw17_pinned: function 20 -/
def sextonlaw17_pinned.f (k : Nat)  : Option (Bool) := (pin_Add.f k ([] : List (S24)) 5 3).bind fun bt221 => ((pin_Add.f k bt221.1 5 4).bind fun bt225 => ((pin_Least.f k bt221.1).bind fun bt229 => ((pin_Drop.f k bt221.1 5).bind fun bt231 => ((pin_Drop.f k bt231.1 5).bind fun bt235 => ((pin_Of.f bt221.1 5).bind fun bt239 => (if bt221.2 = 0 then (if bt225.2 = 170 then (if bt229.2 = true then (if bt229.1 = 3 then (if bt231.2 = bt221.2 then (if (bt231.1.length : Int) = 0 then (if bt235.2 = 80 then (if bt239.2 = true then (if bt239.1 = 3 then ((pin_Raise.f k 1 9 7 bt221.1).bind fun t241 => (if t241 = 3 then ((pin_Raise.f k 4 9 7 bt221.1).bind fun t242 => (if t242 = 4 then ((pin_Raise.f k 1 9 7 ([] : List (S24))).bind fun t243 => (if t243 = 7 then ((pin_Is.f k bt221.1).bind fun t244 => (some t244)) else (some false))) else (some false))) else (some false))) else (some false)) else (some false)) else (some false)) else (some false)) else (some false)) else (some false)) else (some false)) else (some false)) else (some false)))))))
theorem sextonlaw17_pinned.mono : ∀ k, LeO (sextonlaw17_pinned.f k ) (sextonlaw17_pinned.f (k + 1) ) := by
  intro  k
  unfold sextonlaw17_pinned.f
  repeat' first
      | (with_reducible exact pin_Add.mono _ _ _ _)
      | (with_reducible exact pin_Drop.mono _ _ _)
      | (with_reducible exact pin_Is.mono _ _)
      | (with_reducible exact pin_Least.mono _ _)
      | (with_reducible exact pin_Raise.mono _ _ _ _ _)
      | (with_reducible exact LeO.refl _)
      | (with_reducible exact LeO.none _)
      | (with_reducible refine LeO.ite ?_ ?_)
      | (with_reducible refine LeO.bind ?_ (fun _ => ?_))
      | exact pin_Add.mono _ _ _ _
      | exact pin_Drop.mono _ _ _
      | exact pin_Is.mono _ _
      | exact pin_Least.mono _ _
      | exact pin_Raise.mono _ _ _ _ _
      | exact LeO.none _
      | refine LeO.ite ?_ ?_
      | refine LeO.bind ?_ (fun _ => ?_)
set_option maxHeartbeats 8000000 in
set_option maxRecDepth 100000 in
theorem sextonlaw17_pinned.calls (k : Nat)  (r : Bool) (w : World) (h : sextonlaw17_pinned.f k  = some r) (ht : r = true) :
    Calls Try.prog 20 #[] w fun e w' => e = .returned (.bool r) ∧ Below w.heap.size w w' := by
  have hu24 := Try.underlying24
  have HT := Aside0.mk ht
  clear ht
  have HB := Aside0.mk (Below.refl w.heap.size w)
  have H : ((pin_Add.f k ([] : List (S24)) 5 3).bind fun bt221 => ((pin_Add.f k bt221.1 5 4).bind fun bt225 => ((pin_Least.f k bt221.1).bind fun bt229 => ((pin_Drop.f k bt221.1 5).bind fun bt231 => ((pin_Drop.f k bt231.1 5).bind fun bt235 => ((pin_Of.f bt221.1 5).bind fun bt239 => (if bt221.2 = 0 then (if bt225.2 = 170 then (if bt229.2 = true then (if bt229.1 = 3 then (if bt231.2 = bt221.2 then (if (bt231.1.length : Int) = 0 then (if bt235.2 = 80 then (if bt239.2 = true then (if bt239.1 = 3 then ((pin_Raise.f k 1 9 7 bt221.1).bind fun t241 => (if t241 = 3 then ((pin_Raise.f k 4 9 7 bt221.1).bind fun t242 => (if t242 = 4 then ((pin_Raise.f k 1 9 7 ([] : List (S24))).bind fun t243 => (if t243 = 7 then ((pin_Is.f k bt221.1).bind fun t244 => (some t244)) else (some false))) else (some false))) else (some false))) else (some false)) else (some false)) else (some false)) else (some false)) else (some false)) else (some false)) else (some false)) else (some false)) else (some false)))))))) = some r := h
  clear h
  replace H := Option.bind_eq_some_iff.mp H
  obtain ⟨⟨t221, t224⟩, A10, H⟩ := H
  replace H : ((pin_Add.f k t221 5 4).bind fun bt225 => ((pin_Least.f k t221).bind fun bt229 => ((pin_Drop.f k t221 5).bind fun bt231 => ((pin_Drop.f k bt231.1 5).bind fun bt235 => ((pin_Of.f t221 5).bind fun bt239 => (if t224 = 0 then (if bt225.2 = 170 then (if bt229.2 = true then (if bt229.1 = 3 then (if bt231.2 = t224 then (if (bt231.1.length : Int) = 0 then (if bt235.2 = 80 then (if bt239.2 = true then (if bt239.1 = 3 then ((pin_Raise.f k 1 9 7 t221).bind fun t241 => (if t241 = 3 then ((pin_Raise.f k 4 9 7 t221).bind fun t242 => (if t242 = 4 then ((pin_Raise.f k 1 9 7 ([] : List (S24))).bind fun t243 => (if t243 = 7 then ((pin_Is.f k t221).bind fun t244 => (some t244)) else (some false))) else (some false))) else (some false))) else (some false)) else (some false)) else (some false)) else (some false)) else (some false)) else (some false)) else (some false)) else (some false)) else (some false))))))) = some r := H
  have A1 := Aside0.mk A10
  clear A10
  replace H := Option.bind_eq_some_iff.mp H
  obtain ⟨⟨t225, t228⟩, A20, H⟩ := H
  replace H : ((pin_Least.f k t221).bind fun bt229 => ((pin_Drop.f k t221 5).bind fun bt231 => ((pin_Drop.f k bt231.1 5).bind fun bt235 => ((pin_Of.f t221 5).bind fun bt239 => (if t224 = 0 then (if t228 = 170 then (if bt229.2 = true then (if bt229.1 = 3 then (if bt231.2 = t224 then (if (bt231.1.length : Int) = 0 then (if bt235.2 = 80 then (if bt239.2 = true then (if bt239.1 = 3 then ((pin_Raise.f k 1 9 7 t221).bind fun t241 => (if t241 = 3 then ((pin_Raise.f k 4 9 7 t221).bind fun t242 => (if t242 = 4 then ((pin_Raise.f k 1 9 7 ([] : List (S24))).bind fun t243 => (if t243 = 7 then ((pin_Is.f k t221).bind fun t244 => (some t244)) else (some false))) else (some false))) else (some false))) else (some false)) else (some false)) else (some false)) else (some false)) else (some false)) else (some false)) else (some false)) else (some false)) else (some false)))))) = some r := H
  have A2 := Aside0.mk A20
  clear A20
  replace H := Option.bind_eq_some_iff.mp H
  obtain ⟨⟨t229, t230⟩, A30, H⟩ := H
  replace H : ((pin_Drop.f k t221 5).bind fun bt231 => ((pin_Drop.f k bt231.1 5).bind fun bt235 => ((pin_Of.f t221 5).bind fun bt239 => (if t224 = 0 then (if t228 = 170 then (if t230 = true then (if t229 = 3 then (if bt231.2 = t224 then (if (bt231.1.length : Int) = 0 then (if bt235.2 = 80 then (if bt239.2 = true then (if bt239.1 = 3 then ((pin_Raise.f k 1 9 7 t221).bind fun t241 => (if t241 = 3 then ((pin_Raise.f k 4 9 7 t221).bind fun t242 => (if t242 = 4 then ((pin_Raise.f k 1 9 7 ([] : List (S24))).bind fun t243 => (if t243 = 7 then ((pin_Is.f k t221).bind fun t244 => (some t244)) else (some false))) else (some false))) else (some false))) else (some false)) else (some false)) else (some false)) else (some false)) else (some false)) else (some false)) else (some false)) else (some false)) else (some false))))) = some r := H
  have A3 := Aside0.mk A30
  clear A30
  replace H := Option.bind_eq_some_iff.mp H
  obtain ⟨⟨t231, t232⟩, A40, H⟩ := H
  replace H : ((pin_Drop.f k t231 5).bind fun bt235 => ((pin_Of.f t221 5).bind fun bt239 => (if t224 = 0 then (if t228 = 170 then (if t230 = true then (if t229 = 3 then (if t232 = t224 then (if (t231.length : Int) = 0 then (if bt235.2 = 80 then (if bt239.2 = true then (if bt239.1 = 3 then ((pin_Raise.f k 1 9 7 t221).bind fun t241 => (if t241 = 3 then ((pin_Raise.f k 4 9 7 t221).bind fun t242 => (if t242 = 4 then ((pin_Raise.f k 1 9 7 ([] : List (S24))).bind fun t243 => (if t243 = 7 then ((pin_Is.f k t221).bind fun t244 => (some t244)) else (some false))) else (some false))) else (some false))) else (some false)) else (some false)) else (some false)) else (some false)) else (some false)) else (some false)) else (some false)) else (some false)) else (some false)))) = some r := H
  have A4 := Aside0.mk A40
  clear A40
  replace H := Option.bind_eq_some_iff.mp H
  obtain ⟨⟨t235, t236⟩, A50, H⟩ := H
  replace H : ((pin_Of.f t221 5).bind fun bt239 => (if t224 = 0 then (if t228 = 170 then (if t230 = true then (if t229 = 3 then (if t232 = t224 then (if (t231.length : Int) = 0 then (if t236 = 80 then (if bt239.2 = true then (if bt239.1 = 3 then ((pin_Raise.f k 1 9 7 t221).bind fun t241 => (if t241 = 3 then ((pin_Raise.f k 4 9 7 t221).bind fun t242 => (if t242 = 4 then ((pin_Raise.f k 1 9 7 ([] : List (S24))).bind fun t243 => (if t243 = 7 then ((pin_Is.f k t221).bind fun t244 => (some t244)) else (some false))) else (some false))) else (some false))) else (some false)) else (some false)) else (some false)) else (some false)) else (some false)) else (some false)) else (some false)) else (some false)) else (some false))) = some r := H
  have A5 := Aside0.mk A50
  clear A50
  replace H := Option.bind_eq_some_iff.mp H
  obtain ⟨⟨t239, t240⟩, A60, H⟩ := H
  replace H : (if t224 = 0 then (if t228 = 170 then (if t230 = true then (if t229 = 3 then (if t232 = t224 then (if (t231.length : Int) = 0 then (if t236 = 80 then (if t240 = true then (if t239 = 3 then ((pin_Raise.f k 1 9 7 t221).bind fun t241 => (if t241 = 3 then ((pin_Raise.f k 4 9 7 t221).bind fun t242 => (if t242 = 4 then ((pin_Raise.f k 1 9 7 ([] : List (S24))).bind fun t243 => (if t243 = 7 then ((pin_Is.f k t221).bind fun t244 => (some t244)) else (some false))) else (some false))) else (some false))) else (some false)) else (some false)) else (some false)) else (some false)) else (some false)) else (some false)) else (some false)) else (some false)) else (some false)) = some r := H
  have A6 := Aside0.mk A60
  clear A60
  by_cases c7 : t224 = 0
  · rw [if_pos c7] at H
    have c7b0 : (t224 == 0) = true := beq_iff_eq.mpr c7
    have c7b1 : (t224 != 0) = false := bne_eq_false_iff_eq.mpr c7
    clear c7
    by_cases c8 : t228 = 170
    · rw [if_pos c8] at H
      have c8b0 : (t228 == 170) = true := beq_iff_eq.mpr c8
      have c8b1 : (t228 != 170) = false := bne_eq_false_iff_eq.mpr c8
      clear c8
      by_cases c9 : t230 = true
      · subst c9
        have H1 : (if t229 = 3 then (if t232 = t224 then (if (t231.length : Int) = 0 then (if t236 = 80 then (if t240 = true then (if t239 = 3 then ((pin_Raise.f k 1 9 7 t221).bind fun t241 => (if t241 = 3 then ((pin_Raise.f k 4 9 7 t221).bind fun t242 => (if t242 = 4 then ((pin_Raise.f k 1 9 7 ([] : List (S24))).bind fun t243 => (if t243 = 7 then ((pin_Is.f k t221).bind fun t244 => (some t244)) else (some false))) else (some false))) else (some false))) else (some false)) else (some false)) else (some false)) else (some false)) else (some false)) else (some false)) = some r := by rw [if_pos rfl] at H; exact H
        clear H
        have H := H1
        clear H1
        by_cases c10 : t229 = 3
        · rw [if_pos c10] at H
          have c10b0 : (t229 == 3) = true := beq_iff_eq.mpr c10
          have c10b1 : (t229 != 3) = false := bne_eq_false_iff_eq.mpr c10
          clear c10
          by_cases c11 : t232 = t224
          · rw [if_pos c11] at H
            have c11b0 : (t232 == t224) = true := beq_iff_eq.mpr c11
            have c11b1 : (t232 != t224) = false := bne_eq_false_iff_eq.mpr c11
            clear c11
            by_cases c12 : (t231.length : Int) = 0
            · rw [if_pos c12] at H
              have c12b0 : ((t231.length : Int) == 0) = true := beq_iff_eq.mpr c12
              have c12b1 : ((t231.length : Int) != 0) = false := bne_eq_false_iff_eq.mpr c12
              clear c12
              by_cases c13 : t236 = 80
              · rw [if_pos c13] at H
                have c13b0 : (t236 == 80) = true := beq_iff_eq.mpr c13
                have c13b1 : (t236 != 80) = false := bne_eq_false_iff_eq.mpr c13
                clear c13
                by_cases c14 : t240 = true
                · subst c14
                  have H1 : (if t239 = 3 then ((pin_Raise.f k 1 9 7 t221).bind fun t241 => (if t241 = 3 then ((pin_Raise.f k 4 9 7 t221).bind fun t242 => (if t242 = 4 then ((pin_Raise.f k 1 9 7 ([] : List (S24))).bind fun t243 => (if t243 = 7 then ((pin_Is.f k t221).bind fun t244 => (some t244)) else (some false))) else (some false))) else (some false))) else (some false)) = some r := by rw [if_pos rfl] at H; exact H
                  clear H
                  have H := H1
                  clear H1
                  by_cases c15 : t239 = 3
                  · rw [if_pos c15] at H
                    have c15b0 : (t239 == 3) = true := beq_iff_eq.mpr c15
                    have c15b1 : (t239 != 3) = false := bne_eq_false_iff_eq.mpr c15
                    clear c15
                    replace H := Option.bind_eq_some_iff.mp H
                    obtain ⟨t241, A160, H⟩ := H
                    replace H : (if t241 = 3 then ((pin_Raise.f k 4 9 7 t221).bind fun t242 => (if t242 = 4 then ((pin_Raise.f k 1 9 7 ([] : List (S24))).bind fun t243 => (if t243 = 7 then ((pin_Is.f k t221).bind fun t244 => (some t244)) else (some false))) else (some false))) else (some false)) = some r := H
                    have A16 := Aside0.mk A160
                    clear A160
                    by_cases c17 : t241 = 3
                    · rw [if_pos c17] at H
                      have c17b0 : (t241 == 3) = true := beq_iff_eq.mpr c17
                      have c17b1 : (t241 != 3) = false := bne_eq_false_iff_eq.mpr c17
                      clear c17
                      replace H := Option.bind_eq_some_iff.mp H
                      obtain ⟨t242, A180, H⟩ := H
                      replace H : (if t242 = 4 then ((pin_Raise.f k 1 9 7 ([] : List (S24))).bind fun t243 => (if t243 = 7 then ((pin_Is.f k t221).bind fun t244 => (some t244)) else (some false))) else (some false)) = some r := H
                      have A18 := Aside0.mk A180
                      clear A180
                      by_cases c19 : t242 = 4
                      · rw [if_pos c19] at H
                        have c19b0 : (t242 == 4) = true := beq_iff_eq.mpr c19
                        have c19b1 : (t242 != 4) = false := bne_eq_false_iff_eq.mpr c19
                        clear c19
                        replace H := Option.bind_eq_some_iff.mp H
                        obtain ⟨t243, A200, H⟩ := H
                        replace H : (if t243 = 7 then ((pin_Is.f k t221).bind fun t244 => (some t244)) else (some false)) = some r := H
                        have A20 := Aside0.mk A200
                        clear A200
                        by_cases c21 : t243 = 7
                        · rw [if_pos c21] at H
                          have c21b0 : (t243 == 7) = true := beq_iff_eq.mpr c21
                          have c21b1 : (t243 != 7) = false := bne_eq_false_iff_eq.mpr c21
                          clear c21
                          replace H := Option.bind_eq_some_iff.mp H
                          obtain ⟨t244, A220, H⟩ := H
                          replace H : (some t244) = some r := H
                          have A22 := Aside0.mk A220
                          clear A220
                          obtain rfl := Option.some.inj H
                          go_enter Try.func20, Try.ntmps20
                          go_wp2_with (first | ((with_reducible refine gate_callee (f := 9) rfl ?_); refine goesL_ (some 15) rfl rfl Try.func9 (by kernel_rfl) rfl #[.slice none 0 0, .agg #[.int .i64 5, .int .i64 3]] rfl (by (try simp only [List.map_toArray, List.map_cons, List.map_nil]); first | done | rfl | (simp only [List.length_drop, List.length_take]; rfl)) ?_; (refine (pin_Add.calls k _ _ ([] : List (S24)) 5 3 t221 t224 _ ?side1 ?side2 A1.out).mono ?_); (case side1 => exact Kd.C_nil _ _); (case side2 => exact Nat.le_refl _); rintro e w23 ⟨v222, rfl, ho0, hb⟩; refine ⟨_, rfl, ?_⟩; have n0_ := Aside0.mk (Kd.R_lower ho0 (below_size (by repeat (first | (with_reducible first | exact HB.out | apply below_alloc | apply pw_below_drewN | apply below_drew1) | exact HB.out)))); have n1_ := Aside0.mk (below_step (by repeat (first | (with_reducible first | exact HB.out | apply below_alloc | apply pw_below_drewN | apply below_drew1) | exact HB.out)) hb); clear HB; have HO223 := n0_; have HB := n1_; clear n0_ n1_; (try clear hb); (try clear hb2); (try clear hk); (try clear hi); (try clear ho0); obtain ⟨Ao24, co24, eo24⟩ := Kd.R_slice HO223.out; subst eo24) | ((with_reducible refine gate_callee (f := 9) rfl ?_); refine goesL_ (some 21) rfl rfl Try.func9 (by kernel_rfl) rfl #[.slice Ao24 t221.length co24, .agg #[.int .i64 5, .int .i64 4]] rfl (by (try simp only [List.map_toArray, List.map_cons, List.map_nil]); first | done | rfl | (simp only [List.length_drop, List.length_take]; rfl)) ?_; (with_reducible refine (pin_Add.calls k _ _ t221 5 4 t225 t228 _ ?side1 ?side2 A2.out).mono ?_); (case side1 => repeat (first | exact (Kd.R_reads' HO223.out).2.2 | (with_reducible refine Kd.C_alloc ?_ _) | (with_reducible refine Kd.C_drewN ?_ _) | (with_reducible refine Kd.C_drew ?_))); (case side2 => exact (Kd.R_reads' HO223.out).2.1); rintro e w25 ⟨v226, rfl, ho0, hb⟩; refine ⟨_, rfl, ?_⟩; have n0_ := Aside0.mk (Kd.R_elder' (by (with_reducible repeat (first | apply Kd.R_alloc | apply Kd.R_drewN | apply Kd.R_drew)); exact HO223.out) (Kd.R_base ho0) hb); have n1_ := Aside0.mk (Kd.R_lower (Kd.R_new' ho0 (Kd.R_lt (by (with_reducible repeat (first | apply Kd.R_alloc | apply Kd.R_drewN | apply Kd.R_drew)); exact HO223.out))) (below_size (by repeat (first | (with_reducible first | exact HB.out | apply below_alloc | apply pw_below_drewN | apply below_drew1) | exact HB.out)))); have n2_ := Aside0.mk (below_step (by repeat (first | (with_reducible first | exact HB.out | apply below_alloc | apply pw_below_drewN | apply below_drew1) | exact HB.out)) hb); clear HO223; clear HB; have HO223 := n0_; have HO227 := n1_; have HB := n2_; clear n0_ n1_ n2_; (try clear hb); (try clear hb2); (try clear hk); (try clear hi); (try clear ho0)) | ((with_reducible refine gate_callee (f := 15) rfl ?_); refine goesL_ (some 26) rfl rfl Try.func15 (by kernel_rfl) rfl #[.slice Ao24 t221.length co24] rfl (by (try simp only [List.map_toArray, List.map_cons, List.map_nil]); first | done | rfl | (simp only [List.length_drop, List.length_take]; rfl)) ?_; (with_reducible refine (pin_Least.calls k _ _ t221 t229 true _ ?side1 ?side2 A3.out).mono ?_); (case side1 => repeat (first | exact (Kd.R_reads' HO223.out).2.2 | (with_reducible refine Kd.C_alloc ?_ _) | (with_reducible refine Kd.C_drewN ?_ _) | (with_reducible refine Kd.C_drew ?_))); (case side2 => exact (Kd.R_reads' HO223.out).2.1); rintro e w26 ⟨rfl, hb⟩; refine ⟨_, rfl, ?_⟩; have n0_ := Aside0.mk (Kd.R_below (by (with_reducible repeat (first | apply Kd.R_alloc | apply Kd.R_drewN | apply Kd.R_drew)); exact HO223.out) hb); have n1_ := Aside0.mk (Kd.R_below (by (with_reducible repeat (first | apply Kd.R_alloc | apply Kd.R_drewN | apply Kd.R_drew)); exact HO227.out) hb); have n2_ := Aside0.mk (below_step (by repeat (first | (with_reducible first | exact HB.out | apply below_alloc | apply pw_below_drewN | apply below_drew1) | exact HB.out)) hb); clear HO223; clear HO227; clear HB; have HO223 := n0_; have HO227 := n1_; have HB := n2_; clear n0_ n1_ n2_; (try clear hb); (try clear hb2); (try clear hk); (try clear hi)) | ((with_reducible refine gate_callee (f := 11) rfl ?_); refine goesL_ (some 31) rfl rfl Try.func11 (by kernel_rfl) rfl #[.slice Ao24 t221.length co24, .int .i64 5] rfl (by (try simp only [List.map_toArray, List.map_cons, List.map_nil]); first | done | rfl | (simp only [List.length_drop, List.length_take]; rfl)) ?_; (with_reducible refine (pin_Drop.calls k _ _ t221 5 t231 t232 _ ?side1 ?side2 A4.out).mono ?_); (case side1 => repeat (first | exact (Kd.R_reads' HO223.out).2.2 | (with_reducible refine Kd.C_alloc ?_ _) | (with_reducible refine Kd.C_drewN ?_ _) | (with_reducible refine Kd.C_drew ?_))); (case side2 => exact (Kd.R_reads' HO223.out).2.1); rintro e w27 ⟨v233, rfl, ho0, hb⟩; refine ⟨_, rfl, ?_⟩; have n0_ := Aside0.mk (Kd.R_elder' (by (with_reducible repeat (first | apply Kd.R_alloc | apply Kd.R_drewN | apply Kd.R_drew)); exact HO223.out) (Kd.R_base ho0) hb); have n1_ := Aside0.mk (Kd.R_elder' (by (with_reducible repeat (first | apply Kd.R_alloc | apply Kd.R_drewN | apply Kd.R_drew)); exact HO227.out) (Kd.R_base ho0) hb); have n2_ := Aside0.mk (Kd.R_lower (Kd.R_new' (Kd.R_new' ho0 (Kd.R_lt (by (with_reducible repeat (first | apply Kd.R_alloc | apply Kd.R_drewN | apply Kd.R_drew)); exact HO223.out))) (Kd.R_lt (by (with_reducible repeat (first | apply Kd.R_alloc | apply Kd.R_drewN | apply Kd.R_drew)); exact HO227.out))) (below_size (by repeat (first | (with_reducible first | exact HB.out | apply below_alloc | apply pw_below_drewN | apply below_drew1) | exact HB.out)))); have n3_ := Aside0.mk (below_step (by repeat (first | (with_reducible first | exact HB.out | apply below_alloc | apply pw_below_drewN | apply below_drew1) | exact HB.out)) hb); clear HO223; clear HO227; clear HB; have HO223 := n0_; have HO227 := n1_; have HO234 := n2_; have HB := n3_; clear n0_ n1_ n2_ n3_; (try clear hb); (try clear hb2); (try clear hk); (try clear hi); (try clear ho0); obtain ⟨Ao28, co28, eo28⟩ := Kd.R_slice HO234.out; subst eo28) | ((with_reducible refine gate_callee (f := 11) rfl ?_); refine goesL_ (some 36) rfl rfl Try.func11 (by kernel_rfl) rfl #[.slice Ao28 t231.length co28, .int .i64 5] rfl (by (try simp only [List.map_toArray, List.map_cons, List.map_nil]); first | done | rfl | (simp only [List.length_drop, List.length_take]; rfl)) ?_; (with_reducible refine (pin_Drop.calls k _ _ t231 5 t235 t236 _ ?side1 ?side2 A5.out).mono ?_); (case side1 => repeat (first | exact (Kd.R_reads' HO234.out).2.2 | (with_reducible refine Kd.C_alloc ?_ _) | (with_reducible refine Kd.C_drewN ?_ _) | (with_reducible refine Kd.C_drew ?_))); (case side2 => exact (Kd.R_reads' HO234.out).2.1); rintro e w29 ⟨v237, rfl, ho0, hb⟩; refine ⟨_, rfl, ?_⟩; have n0_ := Aside0.mk (Kd.R_elder' (by (with_reducible repeat (first | apply Kd.R_alloc | apply Kd.R_drewN | apply Kd.R_drew)); exact HO223.out) (Kd.R_base ho0) hb); have n1_ := Aside0.mk (Kd.R_elder' (by (with_reducible repeat (first | apply Kd.R_alloc | apply Kd.R_drewN | apply Kd.R_drew)); exact HO227.out) (Kd.R_base ho0) hb); have n2_ := Aside0.mk (Kd.R_elder' (by (with_reducible repeat (first | apply Kd.R_alloc | apply Kd.R_drewN | apply Kd.R_drew)); exact HO234.out) (Kd.R_base ho0) hb); have n3_ := Aside0.mk (Kd.R_lower (Kd.R_new' (Kd.R_new' (Kd.R_new' ho0 (Kd.R_lt (by (with_reducible repeat (first | apply Kd.R_alloc | apply Kd.R_drewN | apply Kd.R_drew)); exact HO223.out))) (Kd.R_lt (by (with_reducible repeat (first | apply Kd.R_alloc | apply Kd.R_drewN | apply Kd.R_drew)); exact HO227.out))) (Kd.R_lt (by (with_reducible repeat (first | apply Kd.R_alloc | apply Kd.R_drewN | apply Kd.R_drew)); exact HO234.out))) (below_size (by repeat (first | (with_reducible first | exact HB.out | apply below_alloc | apply pw_below_drewN | apply below_drew1) | exact HB.out)))); have n4_ := Aside0.mk (below_step (by repeat (first | (with_reducible first | exact HB.out | apply below_alloc | apply pw_below_drewN | apply below_drew1) | exact HB.out)) hb); clear HO223; clear HO227; clear HO234; clear HB; have HO223 := n0_; have HO227 := n1_; have HO234 := n2_; have HO238 := n3_; have HB := n4_; clear n0_ n1_ n2_ n3_ n4_; (try clear hb); (try clear hb2); (try clear hk); (try clear hi); (try clear ho0)) | ((with_reducible refine gate_callee (f := 13) rfl ?_); refine goesL_ (some 41) rfl rfl Try.func13 (by kernel_rfl) rfl #[.slice Ao24 t221.length co24, .int .i64 5] rfl (by (try simp only [List.map_toArray, List.map_cons, List.map_nil]); first | done | rfl | (simp only [List.length_drop, List.length_take]; rfl)) ?_; (with_reducible refine (pin_Of.calls _ _ t221 5 t239 true _ ?side1 ?side2 A6.out).mono ?_); (case side1 => repeat (first | exact (Kd.R_reads' HO223.out).2.2 | (with_reducible refine Kd.C_alloc ?_ _) | (with_reducible refine Kd.C_drewN ?_ _) | (with_reducible refine Kd.C_drew ?_))); (case side2 => exact (Kd.R_reads' HO223.out).2.1); rintro e w30 ⟨rfl, hb⟩; refine ⟨_, rfl, ?_⟩; have n0_ := Aside0.mk (Kd.R_below (by (with_reducible repeat (first | apply Kd.R_alloc | apply Kd.R_drewN | apply Kd.R_drew)); exact HO223.out) hb); have n1_ := Aside0.mk (Kd.R_below (by (with_reducible repeat (first | apply Kd.R_alloc | apply Kd.R_drewN | apply Kd.R_drew)); exact HO227.out) hb); have n2_ := Aside0.mk (Kd.R_below (by (with_reducible repeat (first | apply Kd.R_alloc | apply Kd.R_drewN | apply Kd.R_drew)); exact HO234.out) hb); have n3_ := Aside0.mk (Kd.R_below (by (with_reducible repeat (first | apply Kd.R_alloc | apply Kd.R_drewN | apply Kd.R_drew)); exact HO238.out) hb); have n4_ := Aside0.mk (below_step (by repeat (first | (with_reducible first | exact HB.out | apply below_alloc | apply pw_below_drewN | apply below_drew1) | exact HB.out)) hb); clear HO223; clear HO227; clear HO234; clear HO238; clear HB; have HO223 := n0_; have HO227 := n1_; have HO234 := n2_; have HO238 := n3_; have HB := n4_; clear n0_ n1_ n2_ n3_ n4_; (try clear hb); (try clear hb2); (try clear hk); (try clear hi)) | (go_at_call 18; (with_reducible refine (pin_Raise.calls k 1 9 7 _ _ t221 t241 _ ?side1 ?side2 A16.out).mono ?_); (case side1 => repeat (first | exact (Kd.R_reads' HO223.out).2.2 | (with_reducible refine Kd.C_alloc ?_ _) | (with_reducible refine Kd.C_drewN ?_ _) | (with_reducible refine Kd.C_drew ?_))); (case side2 => exact (Kd.R_reads' HO223.out).2.1); rintro e w31 ⟨rfl, hb⟩; have n0_ := Aside0.mk (Kd.R_below (by (with_reducible repeat (first | apply Kd.R_alloc | apply Kd.R_drewN | apply Kd.R_drew)); exact HO223.out) hb); have n1_ := Aside0.mk (Kd.R_below (by (with_reducible repeat (first | apply Kd.R_alloc | apply Kd.R_drewN | apply Kd.R_drew)); exact HO227.out) hb); have n2_ := Aside0.mk (Kd.R_below (by (with_reducible repeat (first | apply Kd.R_alloc | apply Kd.R_drewN | apply Kd.R_drew)); exact HO234.out) hb); have n3_ := Aside0.mk (Kd.R_below (by (with_reducible repeat (first | apply Kd.R_alloc | apply Kd.R_drewN | apply Kd.R_drew)); exact HO238.out) hb); have n4_ := Aside0.mk (below_step (by repeat (first | (with_reducible first | exact HB.out | apply below_alloc | apply pw_below_drewN | apply below_drew1) | exact HB.out)) hb); clear HO223; clear HO227; clear HO234; clear HO238; clear HB; have HO223 := n0_; have HO227 := n1_; have HO234 := n2_; have HO238 := n3_; have HB := n4_; clear n0_ n1_ n2_ n3_ n4_; (try clear hb); (try clear hb2); (try clear hk); (try clear hi)) | (go_at_call 18; (with_reducible refine (pin_Raise.calls k 4 9 7 _ _ t221 t242 _ ?side1 ?side2 A18.out).mono ?_); (case side1 => repeat (first | exact (Kd.R_reads' HO223.out).2.2 | (with_reducible refine Kd.C_alloc ?_ _) | (with_reducible refine Kd.C_drewN ?_ _) | (with_reducible refine Kd.C_drew ?_))); (case side2 => exact (Kd.R_reads' HO223.out).2.1); rintro e w32 ⟨rfl, hb⟩; have n0_ := Aside0.mk (Kd.R_below (by (with_reducible repeat (first | apply Kd.R_alloc | apply Kd.R_drewN | apply Kd.R_drew)); exact HO223.out) hb); have n1_ := Aside0.mk (Kd.R_below (by (with_reducible repeat (first | apply Kd.R_alloc | apply Kd.R_drewN | apply Kd.R_drew)); exact HO227.out) hb); have n2_ := Aside0.mk (Kd.R_below (by (with_reducible repeat (first | apply Kd.R_alloc | apply Kd.R_drewN | apply Kd.R_drew)); exact HO234.out) hb); have n3_ := Aside0.mk (Kd.R_below (by (with_reducible repeat (first | apply Kd.R_alloc | apply Kd.R_drewN | apply Kd.R_drew)); exact HO238.out) hb); have n4_ := Aside0.mk (below_step (by repeat (first | (with_reducible first | exact HB.out | apply below_alloc | apply pw_below_drewN | apply below_drew1) | exact HB.out)) hb); clear HO223; clear HO227; clear HO234; clear HO238; clear HB; have HO223 := n0_; have HO227 := n1_; have HO234 := n2_; have HO238 := n3_; have HB := n4_; clear n0_ n1_ n2_ n3_ n4_; (try clear hb); (try clear hb2); (try clear hk); (try clear hi)) | (go_at_call 18; (refine (pin_Raise.calls k 1 9 7 _ _ ([] : List (S24)) t243 _ ?side1 ?side2 A20.out).mono ?_); (case side1 => exact Kd.C_nil _ _); (case side2 => exact Nat.le_refl _); rintro e w33 ⟨rfl, hb⟩; have n0_ := Aside0.mk (Kd.R_below (by (with_reducible repeat (first | apply Kd.R_alloc | apply Kd.R_drewN | apply Kd.R_drew)); exact HO223.out) hb); have n1_ := Aside0.mk (Kd.R_below (by (with_reducible repeat (first | apply Kd.R_alloc | apply Kd.R_drewN | apply Kd.R_drew)); exact HO227.out) hb); have n2_ := Aside0.mk (Kd.R_below (by (with_reducible repeat (first | apply Kd.R_alloc | apply Kd.R_drewN | apply Kd.R_drew)); exact HO234.out) hb); have n3_ := Aside0.mk (Kd.R_below (by (with_reducible repeat (first | apply Kd.R_alloc | apply Kd.R_drewN | apply Kd.R_drew)); exact HO238.out) hb); have n4_ := Aside0.mk (below_step (by repeat (first | (with_reducible first | exact HB.out | apply below_alloc | apply pw_below_drewN | apply below_drew1) | exact HB.out)) hb); clear HO223; clear HO227; clear HO234; clear HO238; clear HB; have HO223 := n0_; have HO227 := n1_; have HO234 := n2_; have HO238 := n3_; have HB := n4_; clear n0_ n1_ n2_ n3_ n4_; (try clear hb); (try clear hb2); (try clear hk); (try clear hi)) | (go_at_call 21; (with_reducible refine (pin_Is.calls k _ _ t221 t244 _ ?side1 ?side2 A22.out).mono ?_); (case side1 => repeat (first | exact (Kd.R_reads' HO223.out).2.2 | (with_reducible refine Kd.C_alloc ?_ _) | (with_reducible refine Kd.C_drewN ?_ _) | (with_reducible refine Kd.C_drew ?_))); (case side2 => exact (Kd.R_reads' HO223.out).2.1); rintro e w34 ⟨rfl, hb⟩; have n0_ := Aside0.mk (Kd.R_below (by (with_reducible repeat (first | apply Kd.R_alloc | apply Kd.R_drewN | apply Kd.R_drew)); exact HO223.out) hb); have n1_ := Aside0.mk (Kd.R_below (by (with_reducible repeat (first | apply Kd.R_alloc | apply Kd.R_drewN | apply Kd.R_drew)); exact HO227.out) hb); have n2_ := Aside0.mk (Kd.R_below (by (with_reducible repeat (first | apply Kd.R_alloc | apply Kd.R_drewN | apply Kd.R_drew)); exact HO234.out) hb); have n3_ := Aside0.mk (Kd.R_below (by (with_reducible repeat (first | apply Kd.R_alloc | apply Kd.R_drewN | apply Kd.R_drew)); exact HO238.out) hb); have n4_ := Aside0.mk (below_step (by repeat (first | (with_reducible first | exact HB.out | apply below_alloc | apply pw_below_drewN | apply below_drew1) | exact HB.out)) hb); clear HO223; clear HO227; clear HO234; clear HO238; clear HB; have HO223 := n0_; have HO227 := n1_; have HO234 := n2_; have HO238 := n3_; have HB := n4_; clear n0_ n1_ n2_ n3_ n4_; (try clear hb); (try clear hb2); (try clear hk); (try clear hi)))
                          go_ret
                          exact ⟨by first | rfl | (simp [errW_none, errW_some] <;> rfl) | (simp [*, errW_none, errW_some] <;> rfl), by repeat (first | (with_reducible first | exact HB.out | apply below_alloc | apply pw_below_drewN | apply below_drew1) | exact HB.out)⟩
                        · rw [if_neg c21] at H
                          have c21b0 : (t243 == 7) = false := beq_eq_false_iff_ne.mpr c21
                          have c21b1 : (t243 != 7) = true := bne_iff_ne.mpr c21
                          exact absurd (H.trans (congrArg some HT.out)) (by simp)
                      · rw [if_neg c19] at H
                        have c19b0 : (t242 == 4) = false := beq_eq_false_iff_ne.mpr c19
                        have c19b1 : (t242 != 4) = true := bne_iff_ne.mpr c19
                        exact absurd (H.trans (congrArg some HT.out)) (by simp)
                    · rw [if_neg c17] at H
                      have c17b0 : (t241 == 3) = false := beq_eq_false_iff_ne.mpr c17
                      have c17b1 : (t241 != 3) = true := bne_iff_ne.mpr c17
                      exact absurd (H.trans (congrArg some HT.out)) (by simp)
                  · rw [if_neg c15] at H
                    have c15b0 : (t239 == 3) = false := beq_eq_false_iff_ne.mpr c15
                    have c15b1 : (t239 != 3) = true := bne_iff_ne.mpr c15
                    exact absurd (H.trans (congrArg some HT.out)) (by simp)
                · replace c14 := Bool.eq_false_iff.mpr c14
                  subst c14
                  have H1 : (some false) = some r := by rw [if_neg (show ¬ (false = true) by decide)] at H; exact H
                  clear H
                  have H := H1
                  clear H1
                  exact absurd (H.trans (congrArg some HT.out)) (by simp)
              · rw [if_neg c13] at H
                have c13b0 : (t236 == 80) = false := beq_eq_false_iff_ne.mpr c13
                have c13b1 : (t236 != 80) = true := bne_iff_ne.mpr c13
                exact absurd (H.trans (congrArg some HT.out)) (by simp)
            · rw [if_neg c12] at H
              have c12b0 : ((t231.length : Int) == 0) = false := beq_eq_false_iff_ne.mpr c12
              have c12b1 : ((t231.length : Int) != 0) = true := bne_iff_ne.mpr c12
              have c12b2 : ¬ (t231 = []) := fun h_ => c12 (by rw [h_]; rfl)
              exact absurd (H.trans (congrArg some HT.out)) (by simp)
          · rw [if_neg c11] at H
            have c11b0 : (t232 == t224) = false := beq_eq_false_iff_ne.mpr c11
            have c11b1 : (t232 != t224) = true := bne_iff_ne.mpr c11
            exact absurd (H.trans (congrArg some HT.out)) (by simp)
        · rw [if_neg c10] at H
          have c10b0 : (t229 == 3) = false := beq_eq_false_iff_ne.mpr c10
          have c10b1 : (t229 != 3) = true := bne_iff_ne.mpr c10
          exact absurd (H.trans (congrArg some HT.out)) (by simp)
      · replace c9 := Bool.eq_false_iff.mpr c9
        subst c9
        have H1 : (some false) = some r := by rw [if_neg (show ¬ (false = true) by decide)] at H; exact H
        clear H
        have H := H1
        clear H1
        exact absurd (H.trans (congrArg some HT.out)) (by simp)
    · rw [if_neg c8] at H
      have c8b0 : (t228 == 170) = false := beq_eq_false_iff_ne.mpr c8
      have c8b1 : (t228 != 170) = true := bne_iff_ne.mpr c8
      exact absurd (H.trans (congrArg some HT.out)) (by simp)
  · rw [if_neg c7] at H
    have c7b0 : (t224 == 0) = false := beq_eq_false_iff_ne.mpr c7
    have c7b1 : (t224 != 0) = true := bne_iff_ne.mpr c7
    exact absurd (H.trans (congrArg some HT.out)) (by simp)
theorem sextonlaw17_pinned.now : sextonlaw17_pinned.f 40 = some true := by kernel_rfl
theorem sextonlaw17_pinned.istrue {k : Nat} {r : Bool} (h : sextonlaw17_pinned.f k = some r) : r = true := by
  have h1 := at_rounds sextonlaw17_pinned.mono (Nat.le_max_left k 40) h
  have h2 := at_rounds sextonlaw17_pinned.mono (Nat.le_max_right k 40) sextonlaw17_pinned.now
  exact Option.some.inj (h1.symm.trans h2)

end Go.Proofs.Ytkdpjgcimnchlaa.P
