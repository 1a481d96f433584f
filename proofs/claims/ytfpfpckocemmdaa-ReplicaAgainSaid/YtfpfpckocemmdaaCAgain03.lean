/- Part 3 of the walk. -/
import Derived.Test.YtfpfpckocemmdaaCAgain02
section
namespace Go.Proofs.Ytfpfpckocemmdaa.P
open Go.RowKit Go.Proofs.YtfpfpckocemmdaaW.PrintWords Go.Proofs.YtfpfpckocemmdaaW.PrintLast Go.Proofs.YtfpfpckocemmdaaW.PrintMore
attribute [local go_sem] max2_int min2_int max_two min_two max_three min_three max_four min_four   -- for this text's walks alone
set_option linter.unusedVariables false
set_option linter.unusedSimpArgs false
def msg_within.f (a0 : Int) (a1 : Int) : Option (Bool) := if a0 ≥ 0 then (some (decide (a0 ≤ a1))) else (some false)
set_option maxHeartbeats 8000000 in
set_option maxRecDepth 100000 in
theorem msg_within.calls (a0 : Int) (a1 : Int) (r : Bool) (w : World) (h : msg_within.f a0 a1 = some r) :
    Calls Try.prog 44 #[.int .i64 a0, .int .i64 a1] w fun e w' => e = .returned (.bool r) ∧ Drawn0 w w' := by
  have H : (if a0 ≥ 0 then (some (decide (a0 ≤ a1))) else (some false)) = some r := h
  clear h
  by_cases c3 : a0 ≥ 0
  · rw [if_pos c3] at H
    have c3b0 : decide (0 ≤ a0) = true := decide_eq_true c3
    clear c3
    obtain rfl := Option.some.inj H
    go_enter Try.func44, Try.ntmps44
    go_wp2
    go_ret
    exact ⟨by first | rfl | (simp; done) | (simp [*]; done), by repeat (first | exact Drawn0.refl _ | apply Drawn0.step)⟩
  · rw [if_neg c3] at H
    have c3b0 : decide (0 ≤ a0) = false := decide_eq_false c3
    clear c3
    obtain rfl := Option.some.inj H
    go_enter Try.func44, Try.ntmps44
    go_wp2
    go_ret
    exact ⟨by first | rfl | (simp; done) | (simp [*]; done), by repeat (first | exact Drawn0.refl _ | apply Drawn0.step)⟩
def msg_logged_1.f (a0 : ByteArray) : Option (Bool) := some (decide ((a0.size : Int) > 300))
set_option maxHeartbeats 8000000 in
set_option maxRecDepth 100000 in
theorem msg_logged_1.calls (a0 : ByteArray) (r : Bool) (w : World) (h : msg_logged_1.f a0 = some r) :
    Calls Try.prog 56 #[.string a0] w fun e w' => e = .returned (.bool r) ∧ Drawn0 w w' := by
  have H : (some (decide ((a0.size : Int) > 300))) = some r := h
  clear h
  obtain rfl := Option.some.inj H
  go_enter Try.func56, Try.ntmps56
  go_wp2
  go_ret
  exact ⟨by first | rfl | (simp; done) | (simp [*]; done), by repeat (first | exact Drawn0.refl _ | apply Drawn0.step)⟩
def slices_IndexFunc_string_string_msg_logged_1.l0 : Nat → List ByteArray → Int → Int → Option (Int)
  | 0, _, _, _ => none
  | k + 1, x0, x7, x8 => if x8 < x7 then (if 0 ≤ x8 then (if x8 < (x0.length : Int) then ((msg_logged_1.f (rdOf ByteArray.empty x0 x8)).bind fun t120 => (if t120 = true then (some x8) else (slices_IndexFunc_string_string_msg_logged_1.l0 k x0 x7 (wrap64 (x8 + 1))))) else (none)) else (none)) else (some (-1))
def slices_IndexFunc_string_string_msg_logged_1.f (k : Nat) (l0 : List ByteArray)  : Option (Int) := slices_IndexFunc_string_string_msg_logged_1.l0 k l0 (l0.length : Int) 0
set_option maxHeartbeats 8000000 in
set_option maxRecDepth 100000 in
theorem slices_IndexFunc_string_string_msg_logged_1.calls (k : Nat) (A0 : Option Addr) (c0 : Nat) (l0 : List ByteArray)  (r : Int) (w : World) (hr0 : Kd.C Kd.string w A0 l0.length l0) (hc0 : l0.length ≤ c0) (h : slices_IndexFunc_string_string_msg_logged_1.f k l0 = some r) :
    Calls Try.prog 61 #[.slice A0 l0.length c0, .func (.func 56) #[] #[]] w fun e w' => e = .returned (.int .i64 r) ∧ Below w.heap.size w w' := by
  have HR0 := Aside0.mk hr0
  have HC0 := Aside0.mk hc0
  clear hr0 hc0
  have HB := Aside0.mk (Below.refl w.heap.size w)
  have H : (slices_IndexFunc_string_string_msg_logged_1.l0 k l0 (l0.length : Int) 0) = some r := h
  clear h
  have H' := Aside0.mk H
  clear H
  go_enter Try.func61, Try.ntmps61
  go_wp2
  go_loopg [8] k (fun kq v8 w' => ∃ (x8_1 : Int), v8 = .int .i64 x8_1 ∧ Aside0 (slices_IndexFunc_string_string_msg_logged_1.l0 kq l0 (l0.length : Int) x8_1 = some r) ∧ Aside0 (kq ≤ k) ∧ Aside0 (Below w.heap.size w w'))
  case atStart => exact ⟨(0), (by first | rfl | (simp; done) | (simp [*]; done)), H', ⟨Nat.le_refl _⟩, ⟨by repeat (first | (with_reducible first | exact HB.out | apply below_alloc | apply pw_below_drewN | apply below_drew1) | exact HB.out)⟩⟩
  case round =>
    clear H'
    try clear p2
    obtain ⟨x8_1, rfl, HA, HK1, HB⟩ := hrel
    cases gk with
    | zero => exact absurd HA.out (by simp [slices_IndexFunc_string_string_msg_logged_1.l0])
    | succ k1 =>
      have H := HA.out
      clear HA
      simp only [slices_IndexFunc_string_string_msg_logged_1.l0] at H
      by_cases c3 : x8_1 < (l0.length : Int)
      · rw [if_pos c3] at H
        have c3b0 : decide (x8_1 < (l0.length : Int)) = true := decide_eq_true c3
        clear c3
        by_cases c4 : 0 ≤ x8_1
        · rw [if_pos c4] at H
          have c4b0 : decide (0 ≤ x8_1) = true := decide_eq_true c4
          clear c4
          by_cases c5 : x8_1 < (l0.length : Int)
          · rw [if_pos c5] at H
            have c5b0 : decide (x8_1 < (l0.length : Int)) = true := decide_eq_true c5
            clear c5
            replace H := Option.bind_eq_some_iff.mp H
            obtain ⟨t120, A60, H⟩ := H
            replace H : (if t120 = true then (some x8_1) else (slices_IndexFunc_string_string_msg_logged_1.l0 k1 l0 (l0.length : Int) (wrap64 (x8_1 + 1)))) = some r := H
            have A6 := Aside0.mk A60
            clear A60
            by_cases c7 : t120 = true
            · subst c7
              have H1 : (some x8_1) = some r := by rw [if_pos rfl] at H; exact H
              clear H
              have H := H1
              clear H1
              obtain rfl := Option.some.inj H
              have p119 : 0 ≤ (x8_1 : Int) := of_decide_eq_true (by first | (with_reducible assumption) | assumption)
              have q119 : x8_1 < (l0.length : Int) := of_decide_eq_true (by first | (with_reducible assumption) | assumption)
              obtain ⟨ad119, e119, hx119_0⟩ := Kd.at_string HR0.out x8_1 p119 q119
              cases e119
              replace hx119_0 := (HB.out.cell (World.block_lt_of_cell? w _ hx119_0)).trans hx119_0
              replace p119 := eq_true p119
              replace q119 := eq_true q119
              go_wp2_with (first | (go_at_call 56; (with_reducible refine (msg_logged_1.calls (rdOf ByteArray.empty l0 x8_1) true _ A6.out).mono ?_); rintro e w' ⟨rfl, ⟨nd, rfl⟩⟩))
              go_ret
              exact ⟨by first | rfl | (simp [errW_none, errW_some] <;> rfl) | (simp [*, errW_none, errW_some] <;> rfl), by repeat (first | (with_reducible first | exact HB.out | apply below_alloc | apply pw_below_drewN | apply below_drew1) | exact HB.out)⟩
            · replace c7 := Bool.eq_false_iff.mpr c7
              subst c7
              have H1 : (slices_IndexFunc_string_string_msg_logged_1.l0 k1 l0 (l0.length : Int) (wrap64 (x8_1 + 1))) = some r := by rw [if_neg (show ¬ (false = true) by decide)] at H; exact H
              clear H
              have H := H1
              clear H1
              have H' := Aside0.mk H
              clear H
              have p119 : 0 ≤ (x8_1 : Int) := of_decide_eq_true (by first | (with_reducible assumption) | assumption)
              have q119 : x8_1 < (l0.length : Int) := of_decide_eq_true (by first | (with_reducible assumption) | assumption)
              obtain ⟨ad119, e119, hx119_0⟩ := Kd.at_string HR0.out x8_1 p119 q119
              cases e119
              replace hx119_0 := (HB.out.cell (World.block_lt_of_cell? w _ hx119_0)).trans hx119_0
              replace p119 := eq_true p119
              replace q119 := eq_true q119
              go_wp2_with (first | (go_at_call 56; (with_reducible refine (msg_logged_1.calls (rdOf ByteArray.empty l0 x8_1) false _ A6.out).mono ?_); rintro e w' ⟨rfl, ⟨nd, rfl⟩⟩))
              go_roundg k1
              case measure => have := HK1.out; omega
              case rel => exact ⟨(wrap64 (x8_1 + 1)), (by first | rfl | (simp; done) | (simp [*]; done)), H', ⟨by have := HK1.out; omega⟩, ⟨by repeat (first | (with_reducible first | exact HB.out | apply below_alloc | apply pw_below_drewN | apply below_drew1) | exact HB.out)⟩⟩
          · rw [if_neg c5] at H
            exact absurd H (by simp)
        · rw [if_neg c4] at H
          exact absurd H (by simp)
      · rw [if_neg c3] at H
        have c3b0 : decide (x8_1 < (l0.length : Int)) = false := decide_eq_false c3
        clear c3
        obtain rfl := Option.some.inj H
        go_wp2
        go_ret
        exact ⟨by first | rfl | (simp [errW_none, errW_some] <;> rfl) | (simp [*, errW_none, errW_some] <;> rfl), by repeat (first | (with_reducible first | exact HB.out | apply below_alloc | apply pw_below_drewN | apply below_drew1) | exact HB.out)⟩
def slices_ContainsFunc_string_string_msg_logged_1.f (k : Nat) (l0 : List ByteArray)  : Option (Bool) := (slices_IndexFunc_string_string_msg_logged_1.f k l0).bind fun t121 => (some (decide (t121 ≥ 0)))
set_option maxHeartbeats 8000000 in
set_option maxRecDepth 100000 in
theorem slices_ContainsFunc_string_string_msg_logged_1.calls (k : Nat) (A0 : Option Addr) (c0 : Nat) (l0 : List ByteArray)  (r : Bool) (w : World) (hr0 : Kd.C Kd.string w A0 l0.length l0) (hc0 : l0.length ≤ c0) (h : slices_ContainsFunc_string_string_msg_logged_1.f k l0 = some r) :
    Calls Try.prog 57 #[.slice A0 l0.length c0, .func (.func 56) #[] #[]] w fun e w' => e = .returned (.bool r) ∧ Below w.heap.size w w' := by
  have HR0 := Aside0.mk hr0
  have HC0 := Aside0.mk hc0
  clear hr0 hc0
  have HB := Aside0.mk (Below.refl w.heap.size w)
  have H : ((slices_IndexFunc_string_string_msg_logged_1.f k l0).bind fun t121 => (some (decide (t121 ≥ 0)))) = some r := h
  clear h
  replace H := Option.bind_eq_some_iff.mp H
  obtain ⟨t121, A30, H⟩ := H
  replace H : (some (decide (t121 ≥ 0))) = some r := H
  have A3 := Aside0.mk A30
  clear A30
  obtain rfl := Option.some.inj H
  go_enter Try.func57, Try.ntmps57
  go_wp2_with (first | ((with_reducible refine gate_callee (f := 61) rfl ?_); refine goesL_ (some 7) rfl rfl Try.func61 (by kernel_rfl) rfl #[.slice A0 l0.length c0, .func (.func 56) #[] #[]] rfl (by (try simp only [List.map_toArray, List.map_cons, List.map_nil]); first | done | rfl | (simp only [List.length_drop, List.length_take]; rfl)) ?_; (with_reducible refine (slices_IndexFunc_string_string_msg_logged_1.calls k _ _ l0  t121 _ ?side1 ?side2 A3.out).mono ?_); (case side1 => repeat (first | exact HR0.out | (with_reducible refine Kd.C_alloc ?_ _) | (with_reducible refine Kd.C_drewN ?_ _) | (with_reducible refine Kd.C_drew ?_))); (case side2 => exact HC0.out); rintro e w4 ⟨rfl, hb⟩; refine ⟨_, rfl, ?_⟩; have n0_ := Aside0.mk (below_step (by repeat (first | (with_reducible first | exact HB.out | apply below_alloc | apply pw_below_drewN | apply below_drew1) | exact HB.out)) hb); clear HB; have HB := n0_; clear n0_; (try clear hb); (try clear hb2); (try clear hk); (try clear hi)))
  go_ret
  exact ⟨by first | rfl | (simp [errW_none, errW_some] <;> rfl) | (simp [*, errW_none, errW_some] <;> rfl), by repeat (first | (with_reducible first | exact HB.out | apply below_alloc | apply pw_below_drewN | apply below_drew1) | exact HB.out)⟩
def msg_logged.f (k : Nat) (l0 : List ByteArray) (a1 : Int) : Option (Bool) := if (l0.length : Int) ≤ 60 then ((msg_within.f a1 (l0.length : Int)).bind fun t122 => (if t122 = true then ((slices_ContainsFunc_string_string_msg_logged_1.f k l0).bind fun t123 => (some (!t123))) else (some false))) else (some false)
set_option maxHeartbeats 8000000 in
set_option maxRecDepth 100000 in
theorem msg_logged.calls (k : Nat) (A0 : Option Addr) (c0 : Nat) (l0 : List ByteArray) (a1 : Int) (r : Bool) (w : World) (hr0 : Kd.C Kd.string w A0 l0.length l0) (hc0 : l0.length ≤ c0) (h : msg_logged.f k l0 a1 = some r) :
    Calls Try.prog 45 #[.slice A0 l0.length c0, .int .i64 a1] w fun e w' => e = .returned (.bool r) ∧ Below w.heap.size w w' := by
  have HR0 := Aside0.mk hr0
  have HC0 := Aside0.mk hc0
  clear hr0 hc0
  have HB := Aside0.mk (Below.refl w.heap.size w)
  have H : (if (l0.length : Int) ≤ 60 then ((msg_within.f a1 (l0.length : Int)).bind fun t122 => (if t122 = true then ((slices_ContainsFunc_string_string_msg_logged_1.f k l0).bind fun t123 => (some (!t123))) else (some false))) else (some false)) = some r := h
  clear h
  by_cases c3 : (l0.length : Int) ≤ 60
  · rw [if_pos c3] at H
    have c3b0 : decide ((l0.length : Int) ≤ 60) = true := decide_eq_true c3
    have c3b1 : decide (l0.length ≤ 60) = true := decide_eq_true (by omega)
    clear c3
    replace H := Option.bind_eq_some_iff.mp H
    obtain ⟨t122, A40, H⟩ := H
    replace H : (if t122 = true then ((slices_ContainsFunc_string_string_msg_logged_1.f k l0).bind fun t123 => (some (!t123))) else (some false)) = some r := H
    have A4 := Aside0.mk A40
    clear A40
    by_cases c5 : t122 = true
    · subst c5
      have H1 : ((slices_ContainsFunc_string_string_msg_logged_1.f k l0).bind fun t123 => (some (!t123))) = some r := by rw [if_pos rfl] at H; exact H
      clear H
      have H := H1
      clear H1
      replace H := Option.bind_eq_some_iff.mp H
      obtain ⟨t123, A60, H⟩ := H
      replace H : (some (!t123)) = some r := H
      have A6 := Aside0.mk A60
      clear A60
      obtain rfl := Option.some.inj H
      go_enter Try.func45, Try.ntmps45
      go_wp2_with (first | (go_at_call 44; (with_reducible refine (msg_within.calls a1 (l0.length : Int) true _ A4.out).mono ?_); rintro e w' ⟨rfl, ⟨nd, rfl⟩⟩) | (go_at_call 57; (with_reducible refine (slices_ContainsFunc_string_string_msg_logged_1.calls k _ _ l0  t123 _ ?side1 ?side2 A6.out).mono ?_); (case side1 => repeat (first | exact HR0.out | (with_reducible refine Kd.C_alloc ?_ _) | (with_reducible refine Kd.C_drewN ?_ _) | (with_reducible refine Kd.C_drew ?_))); (case side2 => exact HC0.out); rintro e w7 ⟨rfl, hb⟩; have n0_ := Aside0.mk (below_step (by repeat (first | (with_reducible first | exact HB.out | apply below_alloc | apply pw_below_drewN | apply below_drew1) | exact HB.out)) hb); clear HB; have HB := n0_; clear n0_; (try clear hb); (try clear hb2); (try clear hk); (try clear hi)))
      go_ret
      exact ⟨by first | rfl | (simp [errW_none, errW_some] <;> rfl) | (simp [*, errW_none, errW_some] <;> rfl), by repeat (first | (with_reducible first | exact HB.out | apply below_alloc | apply pw_below_drewN | apply below_drew1) | exact HB.out)⟩
    · replace c5 := Bool.eq_false_iff.mpr c5
      subst c5
      have H1 : (some false) = some r := by rw [if_neg (show ¬ (false = true) by decide)] at H; exact H
      clear H
      have H := H1
      clear H1
      obtain rfl := Option.some.inj H
      go_enter Try.func45, Try.ntmps45
      go_wp2_with (first | (go_at_call 44; (with_reducible refine (msg_within.calls a1 (l0.length : Int) false _ A4.out).mono ?_); rintro e w' ⟨rfl, ⟨nd, rfl⟩⟩))
      go_ret
      exact ⟨by first | rfl | (simp [errW_none, errW_some] <;> rfl) | (simp [*, errW_none, errW_some] <;> rfl), by repeat (first | (with_reducible first | exact HB.out | apply below_alloc | apply pw_below_drewN | apply below_drew1) | exact HB.out)⟩
  · rw [if_neg c3] at H
    have c3b0 : decide ((l0.length : Int) ≤ 60) = false := decide_eq_false c3
    have c3b1 : decide (l0.length ≤ 60) = false := decide_eq_false (by omega)
    clear c3
    obtain rfl := Option.some.inj H
    go_enter Try.func45, Try.ntmps45
    go_wp2
    go_ret
    exact ⟨by first | rfl | (simp [errW_none, errW_some] <;> rfl) | (simp [*, errW_none, errW_some] <;> rfl), by repeat (first | (with_reducible first | exact HB.out | apply below_alloc | apply pw_below_drewN | apply below_drew1) | exact HB.out)⟩
def msg_Is.j0 : Nat → Bool → Int → Int → Int → Int → Int → Int → Int → List ByteArray → Option (Bool)
  | 0, _, _, _, _, _, _, _, _, _ => none
  | k + 1, x18, x125000, x125001, x125002, x125003, x125004, x125005, x125006, x125007 => if x18 = true then (some false) else (if x125000 = 1 then ((msg_logged.f k x125007 x125005).bind fun t128 => (if t128 = true then (if x125004 = 0 then (some (x125006 == 0)) else (some false)) else (some false))) else (if x125000 = 2 then (if (x125007.length : Int) = 0 then (if x125005 = 0 then (if x125004 = 0 then ((msg_within.f x125006 60).bind fun t129 => (some t129)) else (some false)) else (some false)) else (some false)) else (if x125000 = 3 then ((msg_logged.f k x125007 x125005).bind fun t130 => (if t130 = true then ((msg_within.f x125004 x125003).bind fun t131 => (if t131 = true then (some (x125006 == 0)) else (some false))) else (some false))) else (some false))))
def msg_Is.f (k : Nat) (a0_0 : Int) (a0_1 : Int) (a0_2 : Int) (a0_3 : Int) (a0_4 : Int) (a0_5 : Int) (a0_6 : Int) (l0_7 : List ByteArray) : Option (Bool) := (msg_within.f a0_1 6).bind fun t125 => (if t125 = true then ((msg_within.f a0_2 6).bind fun t126 => (if t126 = true then ((msg_within.f a0_3 1000000).bind fun t127 => (msg_Is.j0 k (!t127) a0_0 a0_1 a0_2 a0_3 a0_4 a0_5 a0_6 l0_7)) else (msg_Is.j0 k true a0_0 a0_1 a0_2 a0_3 a0_4 a0_5 a0_6 l0_7))) else (msg_Is.j0 k true a0_0 a0_1 a0_2 a0_3 a0_4 a0_5 a0_6 l0_7))
set_option maxHeartbeats 8000000 in
set_option maxRecDepth 100000 in
theorem msg_Is.calls (k : Nat) (a0_0 : Int) (a0_1 : Int) (a0_2 : Int) (a0_3 : Int) (a0_4 : Int) (a0_5 : Int) (a0_6 : Int) (A0_7 : Option Addr) (c0_7 : Nat) (l0_7 : List ByteArray) (r : Bool) (w : World) (hr0_7 : Kd.C Kd.string w A0_7 l0_7.length l0_7) (hc0_7 : l0_7.length ≤ c0_7) (h : msg_Is.f k a0_0 a0_1 a0_2 a0_3 a0_4 a0_5 a0_6 l0_7 = some r) :
    Calls Try.prog 22 #[.agg #[.int .i64 a0_0, .int .i64 a0_1, .int .i64 a0_2, .int .i64 a0_3, .int .i64 a0_4, .int .i64 a0_5, .int .i64 a0_6, .slice A0_7 l0_7.length c0_7]] w fun e w' => e = .returned (.bool r) ∧ Below w.heap.size w w' := by
  have hu28 := Try.underlying28
  have HR0_7 := Aside0.mk hr0_7
  have HC0_7 := Aside0.mk hc0_7
  clear hr0_7 hc0_7
  have HB := Aside0.mk (Below.refl w.heap.size w)
  have H : ((msg_within.f a0_1 6).bind fun t125 => (if t125 = true then ((msg_within.f a0_2 6).bind fun t126 => (if t126 = true then ((msg_within.f a0_3 1000000).bind fun t127 => (msg_Is.j0 k (!t127) a0_0 a0_1 a0_2 a0_3 a0_4 a0_5 a0_6 l0_7)) else (msg_Is.j0 k true a0_0 a0_1 a0_2 a0_3 a0_4 a0_5 a0_6 l0_7))) else (msg_Is.j0 k true a0_0 a0_1 a0_2 a0_3 a0_4 a0_5 a0_6 l0_7))) = some r := h
  clear h
  have HC2 := Aside0.mk H
  clear H
  go_enter Try.func22, Try.ntmps22
  go_upto_region 1 with (first | ((with_reducible refine gate_dst (N := 1) rfl ?_); refine box_event ?hg (N := 1) ?hd (cs := #[.int .i64 a0_0, .int .i64 a0_1, .int .i64 a0_2, .int .i64 a0_3, .int .i64 a0_4, .int .i64 a0_5, .int .i64 a0_6, .slice A0_7 l0_7.length c0_7]) (t := 28) ?hr ?_; (case hd => rfl); (case hg => rfl); (case hr => first | (go_simp; done) | (go_simp; rfl)); intro gb124 hg w3 hbox hb; have n0_ := Aside0.mk (below_step (by repeat (first | (with_reducible first | exact HB.out | apply below_alloc | apply pw_below_drewN | apply below_drew1) | exact HB.out)) hb); have n1_ := Aside0.mk (hbox); have n2_ := Aside0.mk ((by rw [hg]; exact (below_size (by repeat (first | (with_reducible first | exact HB.out | apply below_alloc | apply pw_below_drewN | apply below_drew1) | exact HB.out))) : w.heap.size ≤ gb124)); have n3_ := Aside0.mk ((by rw [hg]; exact (below_size (by repeat (first | (with_reducible first | exact HB.out | apply below_alloc | apply pw_below_drewN | apply below_drew1) | exact HB.out))) : w.heap.size ≤ gb124)); clear HB; have HB := n0_; have BK124 := n1_; have GW124 := n2_; have GE124 := n3_; clear n0_ n1_ n2_ n3_; clear hb hbox hg))
  (try simp only [Act.put, List.setIfInBounds_toArray, List.set_cons_zero, List.set_cons_succ])
  go_cut [18] (fun v18 wc => ∃ (kq : Nat) (x18_1 : Bool), v18 = .bool x18_1 ∧ Aside0 (msg_Is.j0 kq x18_1 a0_0 a0_1 a0_2 a0_3 a0_4 a0_5 a0_6 l0_7 = some r) ∧ Aside0 (kq ≤ k) ∧ Aside0 (wc.heap[gb124]? = some (.cells #[.int .i64 a0_0, .int .i64 a0_1, .int .i64 a0_2, .int .i64 a0_3, .int .i64 a0_4, .int .i64 a0_5, .int .i64 a0_6, (.slice A0_7 l0_7.length c0_7)] 28 (0, 0))) ∧ Aside0 (Below w.heap.size w wc))
  case first =>
    have H := HC2.out
    clear HC2
    replace H := Option.bind_eq_some_iff.mp H
    obtain ⟨t125, A40, H⟩ := H
    replace H : (if t125 = true then ((msg_within.f a0_2 6).bind fun t126 => (if t126 = true then ((msg_within.f a0_3 1000000).bind fun t127 => (msg_Is.j0 k (!t127) a0_0 a0_1 a0_2 a0_3 a0_4 a0_5 a0_6 l0_7)) else (msg_Is.j0 k true a0_0 a0_1 a0_2 a0_3 a0_4 a0_5 a0_6 l0_7))) else (msg_Is.j0 k true a0_0 a0_1 a0_2 a0_3 a0_4 a0_5 a0_6 l0_7)) = some r := H
    have A4 := Aside0.mk A40
    clear A40
    by_cases c5 : t125 = true
    · subst c5
      have H1 : ((msg_within.f a0_2 6).bind fun t126 => (if t126 = true then ((msg_within.f a0_3 1000000).bind fun t127 => (msg_Is.j0 k (!t127) a0_0 a0_1 a0_2 a0_3 a0_4 a0_5 a0_6 l0_7)) else (msg_Is.j0 k true a0_0 a0_1 a0_2 a0_3 a0_4 a0_5 a0_6 l0_7))) = some r := by rw [if_pos rfl] at H; exact H
      clear H
      have H := H1
      clear H1
      replace H := Option.bind_eq_some_iff.mp H
      obtain ⟨t126, A60, H⟩ := H
      replace H : (if t126 = true then ((msg_within.f a0_3 1000000).bind fun t127 => (msg_Is.j0 k (!t127) a0_0 a0_1 a0_2 a0_3 a0_4 a0_5 a0_6 l0_7)) else (msg_Is.j0 k true a0_0 a0_1 a0_2 a0_3 a0_4 a0_5 a0_6 l0_7)) = some r := H
      have A6 := Aside0.mk A60
      clear A60
      by_cases c7 : t126 = true
      · subst c7
        have H1 : ((msg_within.f a0_3 1000000).bind fun t127 => (msg_Is.j0 k (!t127) a0_0 a0_1 a0_2 a0_3 a0_4 a0_5 a0_6 l0_7)) = some r := by rw [if_pos rfl] at H; exact H
        clear H
        have H := H1
        clear H1
        replace H := Option.bind_eq_some_iff.mp H
        obtain ⟨t127, A80, H⟩ := H
        replace H : (msg_Is.j0 k (!t127) a0_0 a0_1 a0_2 a0_3 a0_4 a0_5 a0_6 l0_7) = some r := H
        have A8 := Aside0.mk A80
        clear A80
        have H' := Aside0.mk H
        clear H
        have hcz9_0 : w3.cell? ⟨gb124, 0, none⟩ = some (.int .i64 a0_0) := (blk_cell BK124.out 0).trans rfl
        have hcz9_1 : w3.cell? ⟨gb124, 1, none⟩ = some (.int .i64 a0_1) := (blk_cell BK124.out 1).trans rfl
        have hcz9_2 : w3.cell? ⟨gb124, 2, none⟩ = some (.int .i64 a0_2) := (blk_cell BK124.out 2).trans rfl
        have hcz9_3 : w3.cell? ⟨gb124, 3, none⟩ = some (.int .i64 a0_3) := (blk_cell BK124.out 3).trans rfl
        have hcz9_4 : w3.cell? ⟨gb124, 4, none⟩ = some (.int .i64 a0_4) := (blk_cell BK124.out 4).trans rfl
        have hcz9_5 : w3.cell? ⟨gb124, 5, none⟩ = some (.int .i64 a0_5) := (blk_cell BK124.out 5).trans rfl
        have hcz9_6 : w3.cell? ⟨gb124, 6, none⟩ = some (.int .i64 a0_6) := (blk_cell BK124.out 6).trans rfl
        have hcz9_7 : w3.cell? ⟨gb124, 7, none⟩ = some (.slice A0_7 l0_7.length c0_7) := (blk_cell BK124.out 7).trans rfl
        have hfz9_0 := blk_frozen BK124.out 0
        have hfz9_1 := blk_frozen BK124.out 1
        have hfz9_2 := blk_frozen BK124.out 2
        have hfz9_3 := blk_frozen BK124.out 3
        have hfz9_4 := blk_frozen BK124.out 4
        have hfz9_5 := blk_frozen BK124.out 5
        have hfz9_6 := blk_frozen BK124.out 6
        have hfz9_7 := blk_frozen BK124.out 7
        go_wp2_with (first | ((with_reducible refine gate_callee (f := 44) rfl ?_); refine goesL_ (some 5) rfl rfl Try.func44 (by kernel_rfl) rfl #[.int .i64 a0_1, .int .i64 6] rfl (by (try simp only [List.map_toArray, List.map_cons, List.map_nil]); first | done | rfl | (simp only [List.length_drop, List.length_take]; rfl)) ?_; (with_reducible refine (msg_within.calls a0_1 6 true _ A4.out).mono ?_); rintro e w' ⟨rfl, ⟨nd, rfl⟩⟩; refine ⟨_, rfl, ?_⟩) | (go_at_call 44; (with_reducible refine (msg_within.calls a0_2 6 true _ A6.out).mono ?_); rintro e w' ⟨rfl, ⟨nd, rfl⟩⟩) | (go_at_call 44; (with_reducible refine (msg_within.calls a0_3 1000000 t127 _ A8.out).mono ?_); rintro e w' ⟨rfl, ⟨nd, rfl⟩⟩))
        go_meet
        case rel => exact ⟨_, (!t127), (by first | rfl | (simp; done) | (simp [*]; done)), H', ⟨by first | omega | exact Nat.le_refl _⟩, ⟨by (with_reducible repeat (first | refine blk_drewN ?_ _ | refine blk_drew ?_ | refine blk_alloc ?_ _)); exact BK124.out⟩, ⟨by repeat (first | (with_reducible first | exact HB.out | apply below_alloc | apply pw_below_drewN | apply below_drew1 | refine below_set ?_ GE124.out) | exact HB.out)⟩⟩
      · replace c7 := Bool.eq_false_iff.mpr c7
        subst c7
        have H1 : (msg_Is.j0 k true a0_0 a0_1 a0_2 a0_3 a0_4 a0_5 a0_6 l0_7) = some r := by rw [if_neg (show ¬ (false = true) by decide)] at H; exact H
        clear H
        have H := H1
        clear H1
        have H' := Aside0.mk H
        clear H
        have hcz10_0 : w3.cell? ⟨gb124, 0, none⟩ = some (.int .i64 a0_0) := (blk_cell BK124.out 0).trans rfl
        have hcz10_1 : w3.cell? ⟨gb124, 1, none⟩ = some (.int .i64 a0_1) := (blk_cell BK124.out 1).trans rfl
        have hcz10_2 : w3.cell? ⟨gb124, 2, none⟩ = some (.int .i64 a0_2) := (blk_cell BK124.out 2).trans rfl
        have hcz10_3 : w3.cell? ⟨gb124, 3, none⟩ = some (.int .i64 a0_3) := (blk_cell BK124.out 3).trans rfl
        have hcz10_4 : w3.cell? ⟨gb124, 4, none⟩ = some (.int .i64 a0_4) := (blk_cell BK124.out 4).trans rfl
        have hcz10_5 : w3.cell? ⟨gb124, 5, none⟩ = some (.int .i64 a0_5) := (blk_cell BK124.out 5).trans rfl
        have hcz10_6 : w3.cell? ⟨gb124, 6, none⟩ = some (.int .i64 a0_6) := (blk_cell BK124.out 6).trans rfl
        have hcz10_7 : w3.cell? ⟨gb124, 7, none⟩ = some (.slice A0_7 l0_7.length c0_7) := (blk_cell BK124.out 7).trans rfl
        have hfz10_0 := blk_frozen BK124.out 0
        have hfz10_1 := blk_frozen BK124.out 1
        have hfz10_2 := blk_frozen BK124.out 2
        have hfz10_3 := blk_frozen BK124.out 3
        have hfz10_4 := blk_frozen BK124.out 4
        have hfz10_5 := blk_frozen BK124.out 5
        have hfz10_6 := blk_frozen BK124.out 6
        have hfz10_7 := blk_frozen BK124.out 7
        go_wp2_with (first | ((with_reducible refine gate_callee (f := 44) rfl ?_); refine goesL_ (some 5) rfl rfl Try.func44 (by kernel_rfl) rfl #[.int .i64 a0_1, .int .i64 6] rfl (by (try simp only [List.map_toArray, List.map_cons, List.map_nil]); first | done | rfl | (simp only [List.length_drop, List.length_take]; rfl)) ?_; (with_reducible refine (msg_within.calls a0_1 6 true _ A4.out).mono ?_); rintro e w' ⟨rfl, ⟨nd, rfl⟩⟩; refine ⟨_, rfl, ?_⟩) | (go_at_call 44; (with_reducible refine (msg_within.calls a0_2 6 false _ A6.out).mono ?_); rintro e w' ⟨rfl, ⟨nd, rfl⟩⟩))
        go_meet
        case rel => exact ⟨_, (true), (by first | rfl | (simp; done) | (simp [*]; done)), H', ⟨by first | omega | exact Nat.le_refl _⟩, ⟨by (with_reducible repeat (first | refine blk_drewN ?_ _ | refine blk_drew ?_ | refine blk_alloc ?_ _)); exact BK124.out⟩, ⟨by repeat (first | (with_reducible first | exact HB.out | apply below_alloc | apply pw_below_drewN | apply below_drew1 | refine below_set ?_ GE124.out) | exact HB.out)⟩⟩
    · replace c5 := Bool.eq_false_iff.mpr c5
      subst c5
      have H1 : (msg_Is.j0 k true a0_0 a0_1 a0_2 a0_3 a0_4 a0_5 a0_6 l0_7) = some r := by rw [if_neg (show ¬ (false = true) by decide)] at H; exact H
      clear H
      have H := H1
      clear H1
      have H' := Aside0.mk H
      clear H
      have hcz11_0 : w3.cell? ⟨gb124, 0, none⟩ = some (.int .i64 a0_0) := (blk_cell BK124.out 0).trans rfl
      have hcz11_1 : w3.cell? ⟨gb124, 1, none⟩ = some (.int .i64 a0_1) := (blk_cell BK124.out 1).trans rfl
      have hcz11_2 : w3.cell? ⟨gb124, 2, none⟩ = some (.int .i64 a0_2) := (blk_cell BK124.out 2).trans rfl
      have hcz11_3 : w3.cell? ⟨gb124, 3, none⟩ = some (.int .i64 a0_3) := (blk_cell BK124.out 3).trans rfl
      have hcz11_4 : w3.cell? ⟨gb124, 4, none⟩ = some (.int .i64 a0_4) := (blk_cell BK124.out 4).trans rfl
      have hcz11_5 : w3.cell? ⟨gb124, 5, none⟩ = some (.int .i64 a0_5) := (blk_cell BK124.out 5).trans rfl
      have hcz11_6 : w3.cell? ⟨gb124, 6, none⟩ = some (.int .i64 a0_6) := (blk_cell BK124.out 6).trans rfl
      have hcz11_7 : w3.cell? ⟨gb124, 7, none⟩ = some (.slice A0_7 l0_7.length c0_7) := (blk_cell BK124.out 7).trans rfl
      have hfz11_0 := blk_frozen BK124.out 0
      have hfz11_1 := blk_frozen BK124.out 1
      have hfz11_2 := blk_frozen BK124.out 2
      have hfz11_3 := blk_frozen BK124.out 3
      have hfz11_4 := blk_frozen BK124.out 4
      have hfz11_5 := blk_frozen BK124.out 5
      have hfz11_6 := blk_frozen BK124.out 6
      have hfz11_7 := blk_frozen BK124.out 7
      go_wp2_with (first | ((with_reducible refine gate_callee (f := 44) rfl ?_); refine goesL_ (some 5) rfl rfl Try.func44 (by kernel_rfl) rfl #[.int .i64 a0_1, .int .i64 6] rfl (by (try simp only [List.map_toArray, List.map_cons, List.map_nil]); first | done | rfl | (simp only [List.length_drop, List.length_take]; rfl)) ?_; (with_reducible refine (msg_within.calls a0_1 6 false _ A4.out).mono ?_); rintro e w' ⟨rfl, ⟨nd, rfl⟩⟩; refine ⟨_, rfl, ?_⟩))
      go_meet
      case rel => exact ⟨_, (true), (by first | rfl | (simp; done) | (simp [*]; done)), H', ⟨by first | omega | exact Nat.le_refl _⟩, ⟨by (with_reducible repeat (first | refine blk_drewN ?_ _ | refine blk_drew ?_ | refine blk_alloc ?_ _)); exact BK124.out⟩, ⟨by repeat (first | (with_reducible first | exact HB.out | apply below_alloc | apply pw_below_drewN | apply below_drew1 | refine below_set ?_ GE124.out) | exact HB.out)⟩⟩
  case rest =>
    clear HC2
    try clear c2
    try clear p2
    try clear c4
    try clear c5
    try clear c7
    try clear hcz10_0
    try clear hcz10_1
    try clear hcz10_2
    try clear hcz10_3
    try clear hcz10_4
    try clear hcz10_5
    try clear hcz10_6
    try clear hcz10_7
    try clear hcz11_0
    try clear hcz11_1
    try clear hcz11_2
    try clear hcz11_3
    try clear hcz11_4
    try clear hcz11_5
    try clear hcz11_6
    try clear hcz11_7
    try clear hcz9_0
    try clear hcz9_1
    try clear hcz9_2
    try clear hcz9_3
    try clear hcz9_4
    try clear hcz9_5
    try clear hcz9_6
    try clear hcz9_7
    try clear hfz10_0
    try clear hfz10_1
    try clear hfz10_2
    try clear hfz10_3
    try clear hfz10_4
    try clear hfz10_5
    try clear hfz10_6
    try clear hfz10_7
    try clear hfz11_0
    try clear hfz11_1
    try clear hfz11_2
    try clear hfz11_3
    try clear hfz11_4
    try clear hfz11_5
    try clear hfz11_6
    try clear hfz11_7
    try clear hfz9_0
    try clear hfz9_1
    try clear hfz9_2
    try clear hfz9_3
    try clear hfz9_4
    try clear hfz9_5
    try clear hfz9_6
    try clear hfz9_7
    obtain ⟨kq, x18_1, rfl, HA, HJ1, BK124, HB⟩ := hcut
    cases kq with
    | zero => exact absurd HA.out (by simp [msg_Is.j0])
    | succ kj1 =>
      have H := HA.out
      clear HA
      simp only [msg_Is.j0] at H
      by_cases c12 : x18_1 = true
      · subst c12
        have H1 : (some false) = some r := by rw [if_pos rfl] at H; exact H
        clear H
        have H := H1
        clear H1
        obtain rfl := Option.some.inj H
        go_wp2
        go_ret
        exact ⟨by first | rfl | (simp [errW_none, errW_some] <;> rfl) | (simp [*, errW_none, errW_some] <;> rfl), by repeat (first | (with_reducible first | exact HB.out | apply below_alloc | apply pw_below_drewN | apply below_drew1 | refine below_set ?_ GE124.out) | exact HB.out)⟩
      · replace c12 := Bool.eq_false_iff.mpr c12
        subst c12
        have H1 : (if a0_0 = 1 then ((msg_logged.f kj1 l0_7 a0_5).bind fun t128 => (if t128 = true then (if a0_4 = 0 then (some (a0_6 == 0)) else (some false)) else (some false))) else (if a0_0 = 2 then (if (l0_7.length : Int) = 0 then (if a0_5 = 0 then (if a0_4 = 0 then ((msg_within.f a0_6 60).bind fun t129 => (some t129)) else (some false)) else (some false)) else (some false)) else (if a0_0 = 3 then ((msg_logged.f kj1 l0_7 a0_5).bind fun t130 => (if t130 = true then ((msg_within.f a0_4 a0_3).bind fun t131 => (if t131 = true then (some (a0_6 == 0)) else (some false))) else (some false))) else (some false)))) = some r := by rw [if_neg (show ¬ (false = true) by decide)] at H; exact H
        clear H
        have H := H1
        clear H1
        by_cases c13 : a0_0 = 1
        · rw [if_pos c13] at H
          have c13b0 : (a0_0 == 1) = true := beq_iff_eq.mpr c13
          have c13b1 : (a0_0 != 1) = false := bne_eq_false_iff_eq.mpr c13
          clear c13
          replace H := Option.bind_eq_some_iff.mp H
          obtain ⟨t128, A140, H⟩ := H
          replace H : (if t128 = true then (if a0_4 = 0 then (some (a0_6 == 0)) else (some false)) else (some false)) = some r := H
          have A14 := Aside0.mk A140
          clear A140
          by_cases c15 : t128 = true
          · subst c15
            have H1 : (if a0_4 = 0 then (some (a0_6 == 0)) else (some false)) = some r := by rw [if_pos rfl] at H; exact H
            clear H
            have H := H1
            clear H1
            by_cases c16 : a0_4 = 0
            · rw [if_pos c16] at H
              have c16b0 : (a0_4 == 0) = true := beq_iff_eq.mpr c16
              have c16b1 : (a0_4 != 0) = false := bne_eq_false_iff_eq.mpr c16
              clear c16
              obtain rfl := Option.some.inj H
              have hcz17_0 : wc.cell? ⟨gb124, 0, none⟩ = some (.int .i64 a0_0) := (blk_cell BK124.out 0).trans rfl
              have hcz17_1 : wc.cell? ⟨gb124, 1, none⟩ = some (.int .i64 a0_1) := (blk_cell BK124.out 1).trans rfl
              have hcz17_2 : wc.cell? ⟨gb124, 2, none⟩ = some (.int .i64 a0_2) := (blk_cell BK124.out 2).trans rfl
              have hcz17_3 : wc.cell? ⟨gb124, 3, none⟩ = some (.int .i64 a0_3) := (blk_cell BK124.out 3).trans rfl
              have hcz17_4 : wc.cell? ⟨gb124, 4, none⟩ = some (.int .i64 a0_4) := (blk_cell BK124.out 4).trans rfl
              have hcz17_5 : wc.cell? ⟨gb124, 5, none⟩ = some (.int .i64 a0_5) := (blk_cell BK124.out 5).trans rfl
              have hcz17_6 : wc.cell? ⟨gb124, 6, none⟩ = some (.int .i64 a0_6) := (blk_cell BK124.out 6).trans rfl
              have hcz17_7 : wc.cell? ⟨gb124, 7, none⟩ = some (.slice A0_7 l0_7.length c0_7) := (blk_cell BK124.out 7).trans rfl
              have hfz17_0 := blk_frozen BK124.out 0
              have hfz17_1 := blk_frozen BK124.out 1
              have hfz17_2 := blk_frozen BK124.out 2
              have hfz17_3 := blk_frozen BK124.out 3
              have hfz17_4 := blk_frozen BK124.out 4
              have hfz17_5 := blk_frozen BK124.out 5
              have hfz17_6 := blk_frozen BK124.out 6
              have hfz17_7 := blk_frozen BK124.out 7
              go_wp2_with (first | ((with_reducible refine gate_callee (f := 45) rfl ?_); refine goesL_ (some 27) rfl rfl Try.func45 (by kernel_rfl) rfl #[.slice A0_7 l0_7.length c0_7, .int .i64 a0_5] rfl (by (try simp only [List.map_toArray, List.map_cons, List.map_nil]); first | done | rfl | (simp only [List.length_drop, List.length_take]; rfl)) ?_; (with_reducible refine (msg_logged.calls kj1 _ _ l0_7 a0_5 true _ ?side1 ?side2 A14.out).mono ?_); (case side1 => repeat (first | exact (Kd.C_below HR0_7.out HB.out) | (with_reducible refine Kd.C_alloc ?_ _) | (with_reducible refine Kd.C_drewN ?_ _) | (with_reducible refine Kd.C_drew ?_))); (case side2 => exact HC0_7.out); rintro e w18 ⟨rfl, hb⟩; refine ⟨_, rfl, ?_⟩; have n0_ := Aside0.mk (blk_below (g := gb124) (o := .cells #[.int .i64 a0_0, .int .i64 a0_1, .int .i64 a0_2, .int .i64 a0_3, .int .i64 a0_4, .int .i64 a0_5, .int .i64 a0_6, .slice A0_7 l0_7.length c0_7] 28 (0, 0)) (by (with_reducible repeat (first | refine blk_drewN ?_ _ | refine blk_drew ?_ | refine blk_alloc ?_ _)); exact BK124.out) hb); have n1_ := Aside0.mk (below_step (by repeat (first | (with_reducible first | exact HB.out | apply below_alloc | apply pw_below_drewN | apply below_drew1 | refine below_set ?_ GE124.out) | exact HB.out)) hb); clear BK124; clear HB; have BK124 := n0_; have HB := n1_; clear n0_ n1_; (try clear hb); (try clear hb2); (try clear hk); (try clear hi); have hcz19_0 : w18.cell? ⟨gb124, 0, none⟩ = some (.int .i64 a0_0) := (blk_cell BK124.out 0).trans rfl; have hcz19_1 : w18.cell? ⟨gb124, 1, none⟩ = some (.int .i64 a0_1) := (blk_cell BK124.out 1).trans rfl; have hcz19_2 : w18.cell? ⟨gb124, 2, none⟩ = some (.int .i64 a0_2) := (blk_cell BK124.out 2).trans rfl; have hcz19_3 : w18.cell? ⟨gb124, 3, none⟩ = some (.int .i64 a0_3) := (blk_cell BK124.out 3).trans rfl; have hcz19_4 : w18.cell? ⟨gb124, 4, none⟩ = some (.int .i64 a0_4) := (blk_cell BK124.out 4).trans rfl; have hcz19_5 : w18.cell? ⟨gb124, 5, none⟩ = some (.int .i64 a0_5) := (blk_cell BK124.out 5).trans rfl; have hcz19_6 : w18.cell? ⟨gb124, 6, none⟩ = some (.int .i64 a0_6) := (blk_cell BK124.out 6).trans rfl; have hcz19_7 : w18.cell? ⟨gb124, 7, none⟩ = some (.slice A0_7 l0_7.length c0_7) := (blk_cell BK124.out 7).trans rfl; have hfz19_0 := blk_frozen BK124.out 0; have hfz19_1 := blk_frozen BK124.out 1; have hfz19_2 := blk_frozen BK124.out 2; have hfz19_3 := blk_frozen BK124.out 3; have hfz19_4 := blk_frozen BK124.out 4; have hfz19_5 := blk_frozen BK124.out 5; have hfz19_6 := blk_frozen BK124.out 6; have hfz19_7 := blk_frozen BK124.out 7))
              go_ret
              exact ⟨by first | rfl | (simp [errW_none, errW_some] <;> rfl) | (simp [*, errW_none, errW_some] <;> rfl), by repeat (first | (with_reducible first | exact HB.out | apply below_alloc | apply pw_below_drewN | apply below_drew1 | refine below_set ?_ GE124.out) | exact HB.out)⟩
            · rw [if_neg c16] at H
              have c16b0 : (a0_4 == 0) = false := beq_eq_false_iff_ne.mpr c16
              have c16b1 : (a0_4 != 0) = true := bne_iff_ne.mpr c16
              obtain rfl := Option.some.inj H
              have hcz20_0 : wc.cell? ⟨gb124, 0, none⟩ = some (.int .i64 a0_0) := (blk_cell BK124.out 0).trans rfl
              have hcz20_1 : wc.cell? ⟨gb124, 1, none⟩ = some (.int .i64 a0_1) := (blk_cell BK124.out 1).trans rfl
              have hcz20_2 : wc.cell? ⟨gb124, 2, none⟩ = some (.int .i64 a0_2) := (blk_cell BK124.out 2).trans rfl
              have hcz20_3 : wc.cell? ⟨gb124, 3, none⟩ = some (.int .i64 a0_3) := (blk_cell BK124.out 3).trans rfl
              have hcz20_4 : wc.cell? ⟨gb124, 4, none⟩ = some (.int .i64 a0_4) := (blk_cell BK124.out 4).trans rfl
              have hcz20_5 : wc.cell? ⟨gb124, 5, none⟩ = some (.int .i64 a0_5) := (blk_cell BK124.out 5).trans rfl
              have hcz20_6 : wc.cell? ⟨gb124, 6, none⟩ = some (.int .i64 a0_6) := (blk_cell BK124.out 6).trans rfl
              have hcz20_7 : wc.cell? ⟨gb124, 7, none⟩ = some (.slice A0_7 l0_7.length c0_7) := (blk_cell BK124.out 7).trans rfl
              have hfz20_0 := blk_frozen BK124.out 0
              have hfz20_1 := blk_frozen BK124.out 1
              have hfz20_2 := blk_frozen BK124.out 2
              have hfz20_3 := blk_frozen BK124.out 3
              have hfz20_4 := blk_frozen BK124.out 4
              have hfz20_5 := blk_frozen BK124.out 5
              have hfz20_6 := blk_frozen BK124.out 6
              have hfz20_7 := blk_frozen BK124.out 7
              go_wp2_with (first | ((with_reducible refine gate_callee (f := 45) rfl ?_); refine goesL_ (some 27) rfl rfl Try.func45 (by kernel_rfl) rfl #[.slice A0_7 l0_7.length c0_7, .int .i64 a0_5] rfl (by (try simp only [List.map_toArray, List.map_cons, List.map_nil]); first | done | rfl | (simp only [List.length_drop, List.length_take]; rfl)) ?_; (with_reducible refine (msg_logged.calls kj1 _ _ l0_7 a0_5 true _ ?side1 ?side2 A14.out).mono ?_); (case side1 => repeat (first | exact (Kd.C_below HR0_7.out HB.out) | (with_reducible refine Kd.C_alloc ?_ _) | (with_reducible refine Kd.C_drewN ?_ _) | (with_reducible refine Kd.C_drew ?_))); (case side2 => exact HC0_7.out); rintro e w21 ⟨rfl, hb⟩; refine ⟨_, rfl, ?_⟩; have n0_ := Aside0.mk (blk_below (g := gb124) (o := .cells #[.int .i64 a0_0, .int .i64 a0_1, .int .i64 a0_2, .int .i64 a0_3, .int .i64 a0_4, .int .i64 a0_5, .int .i64 a0_6, .slice A0_7 l0_7.length c0_7] 28 (0, 0)) (by (with_reducible repeat (first | refine blk_drewN ?_ _ | refine blk_drew ?_ | refine blk_alloc ?_ _)); exact BK124.out) hb); have n1_ := Aside0.mk (below_step (by repeat (first | (with_reducible first | exact HB.out | apply below_alloc | apply pw_below_drewN | apply below_drew1 | refine below_set ?_ GE124.out) | exact HB.out)) hb); clear BK124; clear HB; have BK124 := n0_; have HB := n1_; clear n0_ n1_; (try clear hb); (try clear hb2); (try clear hk); (try clear hi); have hcz22_0 : w21.cell? ⟨gb124, 0, none⟩ = some (.int .i64 a0_0) := (blk_cell BK124.out 0).trans rfl; have hcz22_1 : w21.cell? ⟨gb124, 1, none⟩ = some (.int .i64 a0_1) := (blk_cell BK124.out 1).trans rfl; have hcz22_2 : w21.cell? ⟨gb124, 2, none⟩ = some (.int .i64 a0_2) := (blk_cell BK124.out 2).trans rfl; have hcz22_3 : w21.cell? ⟨gb124, 3, none⟩ = some (.int .i64 a0_3) := (blk_cell BK124.out 3).trans rfl; have hcz22_4 : w21.cell? ⟨gb124, 4, none⟩ = some (.int .i64 a0_4) := (blk_cell BK124.out 4).trans rfl; have hcz22_5 : w21.cell? ⟨gb124, 5, none⟩ = some (.int .i64 a0_5) := (blk_cell BK124.out 5).trans rfl; have hcz22_6 : w21.cell? ⟨gb124, 6, none⟩ = some (.int .i64 a0_6) := (blk_cell BK124.out 6).trans rfl; have hcz22_7 : w21.cell? ⟨gb124, 7, none⟩ = some (.slice A0_7 l0_7.length c0_7) := (blk_cell BK124.out 7).trans rfl; have hfz22_0 := blk_frozen BK124.out 0; have hfz22_1 := blk_frozen BK124.out 1; have hfz22_2 := blk_frozen BK124.out 2; have hfz22_3 := blk_frozen BK124.out 3; have hfz22_4 := blk_frozen BK124.out 4; have hfz22_5 := blk_frozen BK124.out 5; have hfz22_6 := blk_frozen BK124.out 6; have hfz22_7 := blk_frozen BK124.out 7))
              go_ret
              exact ⟨by first | rfl | (simp [errW_none, errW_some] <;> rfl) | (simp [*, errW_none, errW_some] <;> rfl), by repeat (first | (with_reducible first | exact HB.out | apply below_alloc | apply pw_below_drewN | apply below_drew1 | refine below_set ?_ GE124.out) | exact HB.out)⟩
          · replace c15 := Bool.eq_false_iff.mpr c15
            subst c15
            have H1 : (some false) = some r := by rw [if_neg (show ¬ (false = true) by decide)] at H; exact H
            clear H
            have H := H1
            clear H1
            obtain rfl := Option.some.inj H
            have hcz23_0 : wc.cell? ⟨gb124, 0, none⟩ = some (.int .i64 a0_0) := (blk_cell BK124.out 0).trans rfl
            have hcz23_1 : wc.cell? ⟨gb124, 1, none⟩ = some (.int .i64 a0_1) := (blk_cell BK124.out 1).trans rfl
            have hcz23_2 : wc.cell? ⟨gb124, 2, none⟩ = some (.int .i64 a0_2) := (blk_cell BK124.out 2).trans rfl
            have hcz23_3 : wc.cell? ⟨gb124, 3, none⟩ = some (.int .i64 a0_3) := (blk_cell BK124.out 3).trans rfl
            have hcz23_4 : wc.cell? ⟨gb124, 4, none⟩ = some (.int .i64 a0_4) := (blk_cell BK124.out 4).trans rfl
            have hcz23_5 : wc.cell? ⟨gb124, 5, none⟩ = some (.int .i64 a0_5) := (blk_cell BK124.out 5).trans rfl
            have hcz23_6 : wc.cell? ⟨gb124, 6, none⟩ = some (.int .i64 a0_6) := (blk_cell BK124.out 6).trans rfl
            have hcz23_7 : wc.cell? ⟨gb124, 7, none⟩ = some (.slice A0_7 l0_7.length c0_7) := (blk_cell BK124.out 7).trans rfl
            have hfz23_0 := blk_frozen BK124.out 0
            have hfz23_1 := blk_frozen BK124.out 1
            have hfz23_2 := blk_frozen BK124.out 2
            have hfz23_3 := blk_frozen BK124.out 3
            have hfz23_4 := blk_frozen BK124.out 4
            have hfz23_5 := blk_frozen BK124.out 5
            have hfz23_6 := blk_frozen BK124.out 6
            have hfz23_7 := blk_frozen BK124.out 7
            go_wp2_with (first | ((with_reducible refine gate_callee (f := 45) rfl ?_); refine goesL_ (some 27) rfl rfl Try.func45 (by kernel_rfl) rfl #[.slice A0_7 l0_7.length c0_7, .int .i64 a0_5] rfl (by (try simp only [List.map_toArray, List.map_cons, List.map_nil]); first | done | rfl | (simp only [List.length_drop, List.length_take]; rfl)) ?_; (with_reducible refine (msg_logged.calls kj1 _ _ l0_7 a0_5 false _ ?side1 ?side2 A14.out).mono ?_); (case side1 => repeat (first | exact (Kd.C_below HR0_7.out HB.out) | (with_reducible refine Kd.C_alloc ?_ _) | (with_reducible refine Kd.C_drewN ?_ _) | (with_reducible refine Kd.C_drew ?_))); (case side2 => exact HC0_7.out); rintro e w24 ⟨rfl, hb⟩; refine ⟨_, rfl, ?_⟩; have n0_ := Aside0.mk (blk_below (g := gb124) (o := .cells #[.int .i64 a0_0, .int .i64 a0_1, .int .i64 a0_2, .int .i64 a0_3, .int .i64 a0_4, .int .i64 a0_5, .int .i64 a0_6, .slice A0_7 l0_7.length c0_7] 28 (0, 0)) (by (with_reducible repeat (first | refine blk_drewN ?_ _ | refine blk_drew ?_ | refine blk_alloc ?_ _)); exact BK124.out) hb); have n1_ := Aside0.mk (below_step (by repeat (first | (with_reducible first | exact HB.out | apply below_alloc | apply pw_below_drewN | apply below_drew1 | refine below_set ?_ GE124.out) | exact HB.out)) hb); clear BK124; clear HB; have BK124 := n0_; have HB := n1_; clear n0_ n1_; (try clear hb); (try clear hb2); (try clear hk); (try clear hi)))
            go_ret
            exact ⟨by first | rfl | (simp [errW_none, errW_some] <;> rfl) | (simp [*, errW_none, errW_some] <;> rfl), by repeat (first | (with_reducible first | exact HB.out | apply below_alloc | apply pw_below_drewN | apply below_drew1 | refine below_set ?_ GE124.out) | exact HB.out)⟩
        · rw [if_neg c13] at H
          have c13b0 : (a0_0 == 1) = false := beq_eq_false_iff_ne.mpr c13
          have c13b1 : (a0_0 != 1) = true := bne_iff_ne.mpr c13
          by_cases c25 : a0_0 = 2
          · rw [if_pos c25] at H
            have c25b0 : (a0_0 == 2) = true := beq_iff_eq.mpr c25
            have c25b1 : (a0_0 != 2) = false := bne_eq_false_iff_eq.mpr c25
            clear c25
            by_cases c26 : (l0_7.length : Int) = 0
            · rw [if_pos c26] at H
              have c26b0 : ((l0_7.length : Int) == 0) = true := beq_iff_eq.mpr c26
              have c26b1 : ((l0_7.length : Int) != 0) = false := bne_eq_false_iff_eq.mpr c26
              clear c26
              by_cases c27 : a0_5 = 0
              · rw [if_pos c27] at H
                have c27b0 : (a0_5 == 0) = true := beq_iff_eq.mpr c27
                have c27b1 : (a0_5 != 0) = false := bne_eq_false_iff_eq.mpr c27
                clear c27
                by_cases c28 : a0_4 = 0
                · rw [if_pos c28] at H
                  have c28b0 : (a0_4 == 0) = true := beq_iff_eq.mpr c28
                  have c28b1 : (a0_4 != 0) = false := bne_eq_false_iff_eq.mpr c28
                  clear c28
                  replace H := Option.bind_eq_some_iff.mp H
                  obtain ⟨t129, A290, H⟩ := H
                  replace H : (some t129) = some r := H
                  have A29 := Aside0.mk A290
                  clear A290
                  obtain rfl := Option.some.inj H
                  have hcz30_0 : wc.cell? ⟨gb124, 0, none⟩ = some (.int .i64 a0_0) := (blk_cell BK124.out 0).trans rfl
                  have hcz30_1 : wc.cell? ⟨gb124, 1, none⟩ = some (.int .i64 a0_1) := (blk_cell BK124.out 1).trans rfl
                  have hcz30_2 : wc.cell? ⟨gb124, 2, none⟩ = some (.int .i64 a0_2) := (blk_cell BK124.out 2).trans rfl
                  have hcz30_3 : wc.cell? ⟨gb124, 3, none⟩ = some (.int .i64 a0_3) := (blk_cell BK124.out 3).trans rfl
                  have hcz30_4 : wc.cell? ⟨gb124, 4, none⟩ = some (.int .i64 a0_4) := (blk_cell BK124.out 4).trans rfl
                  have hcz30_5 : wc.cell? ⟨gb124, 5, none⟩ = some (.int .i64 a0_5) := (blk_cell BK124.out 5).trans rfl
                  have hcz30_6 : wc.cell? ⟨gb124, 6, none⟩ = some (.int .i64 a0_6) := (blk_cell BK124.out 6).trans rfl
                  have hcz30_7 : wc.cell? ⟨gb124, 7, none⟩ = some (.slice A0_7 l0_7.length c0_7) := (blk_cell BK124.out 7).trans rfl
                  have hfz30_0 := blk_frozen BK124.out 0
                  have hfz30_1 := blk_frozen BK124.out 1
                  have hfz30_2 := blk_frozen BK124.out 2
                  have hfz30_3 := blk_frozen BK124.out 3
                  have hfz30_4 := blk_frozen BK124.out 4
                  have hfz30_5 := blk_frozen BK124.out 5
                  have hfz30_6 := blk_frozen BK124.out 6
                  have hfz30_7 := blk_frozen BK124.out 7
                  go_wp2_with (first | (go_at_call 44; (with_reducible refine (msg_within.calls a0_6 60 t129 _ A29.out).mono ?_); rintro e w' ⟨rfl, ⟨nd, rfl⟩⟩))
                  go_ret
                  exact ⟨by first | rfl | (simp [errW_none, errW_some] <;> rfl) | (simp [*, errW_none, errW_some] <;> rfl), by repeat (first | (with_reducible first | exact HB.out | apply below_alloc | apply pw_below_drewN | apply below_drew1 | refine below_set ?_ GE124.out) | exact HB.out)⟩
                · rw [if_neg c28] at H
                  have c28b0 : (a0_4 == 0) = false := beq_eq_false_iff_ne.mpr c28
                  have c28b1 : (a0_4 != 0) = true := bne_iff_ne.mpr c28
                  obtain rfl := Option.some.inj H
                  have hcz31_0 : wc.cell? ⟨gb124, 0, none⟩ = some (.int .i64 a0_0) := (blk_cell BK124.out 0).trans rfl
                  have hcz31_1 : wc.cell? ⟨gb124, 1, none⟩ = some (.int .i64 a0_1) := (blk_cell BK124.out 1).trans rfl
                  have hcz31_2 : wc.cell? ⟨gb124, 2, none⟩ = some (.int .i64 a0_2) := (blk_cell BK124.out 2).trans rfl
                  have hcz31_3 : wc.cell? ⟨gb124, 3, none⟩ = some (.int .i64 a0_3) := (blk_cell BK124.out 3).trans rfl
                  have hcz31_4 : wc.cell? ⟨gb124, 4, none⟩ = some (.int .i64 a0_4) := (blk_cell BK124.out 4).trans rfl
                  have hcz31_5 : wc.cell? ⟨gb124, 5, none⟩ = some (.int .i64 a0_5) := (blk_cell BK124.out 5).trans rfl
                  have hcz31_6 : wc.cell? ⟨gb124, 6, none⟩ = some (.int .i64 a0_6) := (blk_cell BK124.out 6).trans rfl
                  have hcz31_7 : wc.cell? ⟨gb124, 7, none⟩ = some (.slice A0_7 l0_7.length c0_7) := (blk_cell BK124.out 7).trans rfl
                  have hfz31_0 := blk_frozen BK124.out 0
                  have hfz31_1 := blk_frozen BK124.out 1
                  have hfz31_2 := blk_frozen BK124.out 2
                  have hfz31_3 := blk_frozen BK124.out 3
                  have hfz31_4 := blk_frozen BK124.out 4
                  have hfz31_5 := blk_frozen BK124.out 5
                  have hfz31_6 := blk_frozen BK124.out 6
                  have hfz31_7 := blk_frozen BK124.out 7
                  go_wp2
                  go_ret
                  exact ⟨by first | rfl | (simp [errW_none, errW_some] <;> rfl) | (simp [*, errW_none, errW_some] <;> rfl), by repeat (first | (with_reducible first | exact HB.out | apply below_alloc | apply pw_below_drewN | apply below_drew1 | refine below_set ?_ GE124.out) | exact HB.out)⟩
              · rw [if_neg c27] at H
                have c27b0 : (a0_5 == 0) = false := beq_eq_false_iff_ne.mpr c27
                have c27b1 : (a0_5 != 0) = true := bne_iff_ne.mpr c27
                obtain rfl := Option.some.inj H
                have hcz32_0 : wc.cell? ⟨gb124, 0, none⟩ = some (.int .i64 a0_0) := (blk_cell BK124.out 0).trans rfl
                have hcz32_1 : wc.cell? ⟨gb124, 1, none⟩ = some (.int .i64 a0_1) := (blk_cell BK124.out 1).trans rfl
                have hcz32_2 : wc.cell? ⟨gb124, 2, none⟩ = some (.int .i64 a0_2) := (blk_cell BK124.out 2).trans rfl
                have hcz32_3 : wc.cell? ⟨gb124, 3, none⟩ = some (.int .i64 a0_3) := (blk_cell BK124.out 3).trans rfl
                have hcz32_4 : wc.cell? ⟨gb124, 4, none⟩ = some (.int .i64 a0_4) := (blk_cell BK124.out 4).trans rfl
                have hcz32_5 : wc.cell? ⟨gb124, 5, none⟩ = some (.int .i64 a0_5) := (blk_cell BK124.out 5).trans rfl
                have hcz32_6 : wc.cell? ⟨gb124, 6, none⟩ = some (.int .i64 a0_6) := (blk_cell BK124.out 6).trans rfl
                have hcz32_7 : wc.cell? ⟨gb124, 7, none⟩ = some (.slice A0_7 l0_7.length c0_7) := (blk_cell BK124.out 7).trans rfl
                have hfz32_0 := blk_frozen BK124.out 0
                have hfz32_1 := blk_frozen BK124.out 1
                have hfz32_2 := blk_frozen BK124.out 2
                have hfz32_3 := blk_frozen BK124.out 3
                have hfz32_4 := blk_frozen BK124.out 4
                have hfz32_5 := blk_frozen BK124.out 5
                have hfz32_6 := blk_frozen BK124.out 6
                have hfz32_7 := blk_frozen BK124.out 7
                go_wp2
                go_ret
                exact ⟨by first | rfl | (simp [errW_none, errW_some] <;> rfl) | (simp [*, errW_none, errW_some] <;> rfl), by repeat (first | (with_reducible first | exact HB.out | apply below_alloc | apply pw_below_drewN | apply below_drew1 | refine below_set ?_ GE124.out) | exact HB.out)⟩
            · rw [if_neg c26] at H
              have c26b0 : ((l0_7.length : Int) == 0) = false := beq_eq_false_iff_ne.mpr c26
              have c26b1 : ((l0_7.length : Int) != 0) = true := bne_iff_ne.mpr c26
              have c26b2 : ¬ (l0_7 = []) := fun h_ => c26 (by rw [h_]; rfl)
              obtain rfl := Option.some.inj H
              have hcz33_0 : wc.cell? ⟨gb124, 0, none⟩ = some (.int .i64 a0_0) := (blk_cell BK124.out 0).trans rfl
              have hcz33_1 : wc.cell? ⟨gb124, 1, none⟩ = some (.int .i64 a0_1) := (blk_cell BK124.out 1).trans rfl
              have hcz33_2 : wc.cell? ⟨gb124, 2, none⟩ = some (.int .i64 a0_2) := (blk_cell BK124.out 2).trans rfl
              have hcz33_3 : wc.cell? ⟨gb124, 3, none⟩ = some (.int .i64 a0_3) := (blk_cell BK124.out 3).trans rfl
              have hcz33_4 : wc.cell? ⟨gb124, 4, none⟩ = some (.int .i64 a0_4) := (blk_cell BK124.out 4).trans rfl
              have hcz33_5 : wc.cell? ⟨gb124, 5, none⟩ = some (.int .i64 a0_5) := (blk_cell BK124.out 5).trans rfl
              have hcz33_6 : wc.cell? ⟨gb124, 6, none⟩ = some (.int .i64 a0_6) := (blk_cell BK124.out 6).trans rfl
              have hcz33_7 : wc.cell? ⟨gb124, 7, none⟩ = some (.slice A0_7 l0_7.length c0_7) := (blk_cell BK124.out 7).trans rfl
              have hfz33_0 := blk_frozen BK124.out 0
              have hfz33_1 := blk_frozen BK124.out 1
              have hfz33_2 := blk_frozen BK124.out 2
              have hfz33_3 := blk_frozen BK124.out 3
              have hfz33_4 := blk_frozen BK124.out 4
              have hfz33_5 := blk_frozen BK124.out 5
              have hfz33_6 := blk_frozen BK124.out 6
              have hfz33_7 := blk_frozen BK124.out 7
              go_wp2
              go_ret
              exact ⟨by first | rfl | (simp [errW_none, errW_some] <;> rfl) | (simp [*, errW_none, errW_some] <;> rfl), by repeat (first | (with_reducible first | exact HB.out | apply below_alloc | apply pw_below_drewN | apply below_drew1 | refine below_set ?_ GE124.out) | exact HB.out)⟩
          · rw [if_neg c25] at H
            have c25b0 : (a0_0 == 2) = false := beq_eq_false_iff_ne.mpr c25
            have c25b1 : (a0_0 != 2) = true := bne_iff_ne.mpr c25
            by_cases c34 : a0_0 = 3
            · rw [if_pos c34] at H
              have c34b0 : (a0_0 == 3) = true := beq_iff_eq.mpr c34
              have c34b1 : (a0_0 != 3) = false := bne_eq_false_iff_eq.mpr c34
              clear c34
              replace H := Option.bind_eq_some_iff.mp H
              obtain ⟨t130, A350, H⟩ := H
              replace H : (if t130 = true then ((msg_within.f a0_4 a0_3).bind fun t131 => (if t131 = true then (some (a0_6 == 0)) else (some false))) else (some false)) = some r := H
              have A35 := Aside0.mk A350
              clear A350
              by_cases c36 : t130 = true
              · subst c36
                have H1 : ((msg_within.f a0_4 a0_3).bind fun t131 => (if t131 = true then (some (a0_6 == 0)) else (some false))) = some r := by rw [if_pos rfl] at H; exact H
                clear H
                have H := H1
                clear H1
                replace H := Option.bind_eq_some_iff.mp H
                obtain ⟨t131, A370, H⟩ := H
                replace H : (if t131 = true then (some (a0_6 == 0)) else (some false)) = some r := H
                have A37 := Aside0.mk A370
                clear A370
                by_cases c38 : t131 = true
                · subst c38
                  have H1 : (some (a0_6 == 0)) = some r := by rw [if_pos rfl] at H; exact H
                  clear H
                  have H := H1
                  clear H1
                  obtain rfl := Option.some.inj H
                  have hcz39_0 : wc.cell? ⟨gb124, 0, none⟩ = some (.int .i64 a0_0) := (blk_cell BK124.out 0).trans rfl
                  have hcz39_1 : wc.cell? ⟨gb124, 1, none⟩ = some (.int .i64 a0_1) := (blk_cell BK124.out 1).trans rfl
                  have hcz39_2 : wc.cell? ⟨gb124, 2, none⟩ = some (.int .i64 a0_2) := (blk_cell BK124.out 2).trans rfl
                  have hcz39_3 : wc.cell? ⟨gb124, 3, none⟩ = some (.int .i64 a0_3) := (blk_cell BK124.out 3).trans rfl
                  have hcz39_4 : wc.cell? ⟨gb124, 4, none⟩ = some (.int .i64 a0_4) := (blk_cell BK124.out 4).trans rfl
                  have hcz39_5 : wc.cell? ⟨gb124, 5, none⟩ = some (.int .i64 a0_5) := (blk_cell BK124.out 5).trans rfl
                  have hcz39_6 : wc.cell? ⟨gb124, 6, none⟩ = some (.int .i64 a0_6) := (blk_cell BK124.out 6).trans rfl
                  have hcz39_7 : wc.cell? ⟨gb124, 7, none⟩ = some (.slice A0_7 l0_7.length c0_7) := (blk_cell BK124.out 7).trans rfl
                  have hfz39_0 := blk_frozen BK124.out 0
                  have hfz39_1 := blk_frozen BK124.out 1
                  have hfz39_2 := blk_frozen BK124.out 2
                  have hfz39_3 := blk_frozen BK124.out 3
                  have hfz39_4 := blk_frozen BK124.out 4
                  have hfz39_5 := blk_frozen BK124.out 5
                  have hfz39_6 := blk_frozen BK124.out 6
                  have hfz39_7 := blk_frozen BK124.out 7
                  go_wp2_with (first | ((with_reducible refine gate_callee (f := 45) rfl ?_); refine goesL_ (some 65) rfl rfl Try.func45 (by kernel_rfl) rfl #[.slice A0_7 l0_7.length c0_7, .int .i64 a0_5] rfl (by (try simp only [List.map_toArray, List.map_cons, List.map_nil]); first | done | rfl | (simp only [List.length_drop, List.length_take]; rfl)) ?_; (with_reducible refine (msg_logged.calls kj1 _ _ l0_7 a0_5 true _ ?side1 ?side2 A35.out).mono ?_); (case side1 => repeat (first | exact (Kd.C_below HR0_7.out HB.out) | (with_reducible refine Kd.C_alloc ?_ _) | (with_reducible refine Kd.C_drewN ?_ _) | (with_reducible refine Kd.C_drew ?_))); (case side2 => exact HC0_7.out); rintro e w40 ⟨rfl, hb⟩; refine ⟨_, rfl, ?_⟩; have n0_ := Aside0.mk (blk_below (g := gb124) (o := .cells #[.int .i64 a0_0, .int .i64 a0_1, .int .i64 a0_2, .int .i64 a0_3, .int .i64 a0_4, .int .i64 a0_5, .int .i64 a0_6, .slice A0_7 l0_7.length c0_7] 28 (0, 0)) (by (with_reducible repeat (first | refine blk_drewN ?_ _ | refine blk_drew ?_ | refine blk_alloc ?_ _)); exact BK124.out) hb); have n1_ := Aside0.mk (below_step (by repeat (first | (with_reducible first | exact HB.out | apply below_alloc | apply pw_below_drewN | apply below_drew1 | refine below_set ?_ GE124.out) | exact HB.out)) hb); clear BK124; clear HB; have BK124 := n0_; have HB := n1_; clear n0_ n1_; (try clear hb); (try clear hb2); (try clear hk); (try clear hi); have hcz41_0 : w40.cell? ⟨gb124, 0, none⟩ = some (.int .i64 a0_0) := (blk_cell BK124.out 0).trans rfl; have hcz41_1 : w40.cell? ⟨gb124, 1, none⟩ = some (.int .i64 a0_1) := (blk_cell BK124.out 1).trans rfl; have hcz41_2 : w40.cell? ⟨gb124, 2, none⟩ = some (.int .i64 a0_2) := (blk_cell BK124.out 2).trans rfl; have hcz41_3 : w40.cell? ⟨gb124, 3, none⟩ = some (.int .i64 a0_3) := (blk_cell BK124.out 3).trans rfl; have hcz41_4 : w40.cell? ⟨gb124, 4, none⟩ = some (.int .i64 a0_4) := (blk_cell BK124.out 4).trans rfl; have hcz41_5 : w40.cell? ⟨gb124, 5, none⟩ = some (.int .i64 a0_5) := (blk_cell BK124.out 5).trans rfl; have hcz41_6 : w40.cell? ⟨gb124, 6, none⟩ = some (.int .i64 a0_6) := (blk_cell BK124.out 6).trans rfl; have hcz41_7 : w40.cell? ⟨gb124, 7, none⟩ = some (.slice A0_7 l0_7.length c0_7) := (blk_cell BK124.out 7).trans rfl; have hfz41_0 := blk_frozen BK124.out 0; have hfz41_1 := blk_frozen BK124.out 1; have hfz41_2 := blk_frozen BK124.out 2; have hfz41_3 := blk_frozen BK124.out 3; have hfz41_4 := blk_frozen BK124.out 4; have hfz41_5 := blk_frozen BK124.out 5; have hfz41_6 := blk_frozen BK124.out 6; have hfz41_7 := blk_frozen BK124.out 7) | (go_at_call 44; (with_reducible refine (msg_within.calls a0_4 a0_3 true _ A37.out).mono ?_); rintro e w' ⟨rfl, ⟨nd, rfl⟩⟩))
                  go_ret
                  exact ⟨by first | rfl | (simp [errW_none, errW_some] <;> rfl) | (simp [*, errW_none, errW_some] <;> rfl), by repeat (first | (with_reducible first | exact HB.out | apply below_alloc | apply pw_below_drewN | apply below_drew1 | refine below_set ?_ GE124.out) | exact HB.out)⟩
                · replace c38 := Bool.eq_false_iff.mpr c38
                  subst c38
                  have H1 : (some false) = some r := by rw [if_neg (show ¬ (false = true) by decide)] at H; exact H
                  clear H
                  have H := H1
                  clear H1
                  obtain rfl := Option.some.inj H
                  have hcz42_0 : wc.cell? ⟨gb124, 0, none⟩ = some (.int .i64 a0_0) := (blk_cell BK124.out 0).trans rfl
                  have hcz42_1 : wc.cell? ⟨gb124, 1, none⟩ = some (.int .i64 a0_1) := (blk_cell BK124.out 1).trans rfl
                  have hcz42_2 : wc.cell? ⟨gb124, 2, none⟩ = some (.int .i64 a0_2) := (blk_cell BK124.out 2).trans rfl
                  have hcz42_3 : wc.cell? ⟨gb124, 3, none⟩ = some (.int .i64 a0_3) := (blk_cell BK124.out 3).trans rfl
                  have hcz42_4 : wc.cell? ⟨gb124, 4, none⟩ = some (.int .i64 a0_4) := (blk_cell BK124.out 4).trans rfl
                  have hcz42_5 : wc.cell? ⟨gb124, 5, none⟩ = some (.int .i64 a0_5) := (blk_cell BK124.out 5).trans rfl
                  have hcz42_6 : wc.cell? ⟨gb124, 6, none⟩ = some (.int .i64 a0_6) := (blk_cell BK124.out 6).trans rfl
                  have hcz42_7 : wc.cell? ⟨gb124, 7, none⟩ = some (.slice A0_7 l0_7.length c0_7) := (blk_cell BK124.out 7).trans rfl
                  have hfz42_0 := blk_frozen BK124.out 0
                  have hfz42_1 := blk_frozen BK124.out 1
                  have hfz42_2 := blk_frozen BK124.out 2
                  have hfz42_3 := blk_frozen BK124.out 3
                  have hfz42_4 := blk_frozen BK124.out 4
                  have hfz42_5 := blk_frozen BK124.out 5
                  have hfz42_6 := blk_frozen BK124.out 6
                  have hfz42_7 := blk_frozen BK124.out 7
                  go_wp2_with (first | ((with_reducible refine gate_callee (f := 45) rfl ?_); refine goesL_ (some 65) rfl rfl Try.func45 (by kernel_rfl) rfl #[.slice A0_7 l0_7.length c0_7, .int .i64 a0_5] rfl (by (try simp only [List.map_toArray, List.map_cons, List.map_nil]); first | done | rfl | (simp only [List.length_drop, List.length_take]; rfl)) ?_; (with_reducible refine (msg_logged.calls kj1 _ _ l0_7 a0_5 true _ ?side1 ?side2 A35.out).mono ?_); (case side1 => repeat (first | exact (Kd.C_below HR0_7.out HB.out) | (with_reducible refine Kd.C_alloc ?_ _) | (with_reducible refine Kd.C_drewN ?_ _) | (with_reducible refine Kd.C_drew ?_))); (case side2 => exact HC0_7.out); rintro e w43 ⟨rfl, hb⟩; refine ⟨_, rfl, ?_⟩; have n0_ := Aside0.mk (blk_below (g := gb124) (o := .cells #[.int .i64 a0_0, .int .i64 a0_1, .int .i64 a0_2, .int .i64 a0_3, .int .i64 a0_4, .int .i64 a0_5, .int .i64 a0_6, .slice A0_7 l0_7.length c0_7] 28 (0, 0)) (by (with_reducible repeat (first | refine blk_drewN ?_ _ | refine blk_drew ?_ | refine blk_alloc ?_ _)); exact BK124.out) hb); have n1_ := Aside0.mk (below_step (by repeat (first | (with_reducible first | exact HB.out | apply below_alloc | apply pw_below_drewN | apply below_drew1 | refine below_set ?_ GE124.out) | exact HB.out)) hb); clear BK124; clear HB; have BK124 := n0_; have HB := n1_; clear n0_ n1_; (try clear hb); (try clear hb2); (try clear hk); (try clear hi); have hcz44_0 : w43.cell? ⟨gb124, 0, none⟩ = some (.int .i64 a0_0) := (blk_cell BK124.out 0).trans rfl; have hcz44_1 : w43.cell? ⟨gb124, 1, none⟩ = some (.int .i64 a0_1) := (blk_cell BK124.out 1).trans rfl; have hcz44_2 : w43.cell? ⟨gb124, 2, none⟩ = some (.int .i64 a0_2) := (blk_cell BK124.out 2).trans rfl; have hcz44_3 : w43.cell? ⟨gb124, 3, none⟩ = some (.int .i64 a0_3) := (blk_cell BK124.out 3).trans rfl; have hcz44_4 : w43.cell? ⟨gb124, 4, none⟩ = some (.int .i64 a0_4) := (blk_cell BK124.out 4).trans rfl; have hcz44_5 : w43.cell? ⟨gb124, 5, none⟩ = some (.int .i64 a0_5) := (blk_cell BK124.out 5).trans rfl; have hcz44_6 : w43.cell? ⟨gb124, 6, none⟩ = some (.int .i64 a0_6) := (blk_cell BK124.out 6).trans rfl; have hcz44_7 : w43.cell? ⟨gb124, 7, none⟩ = some (.slice A0_7 l0_7.length c0_7) := (blk_cell BK124.out 7).trans rfl; have hfz44_0 := blk_frozen BK124.out 0; have hfz44_1 := blk_frozen BK124.out 1; have hfz44_2 := blk_frozen BK124.out 2; have hfz44_3 := blk_frozen BK124.out 3; have hfz44_4 := blk_frozen BK124.out 4; have hfz44_5 := blk_frozen BK124.out 5; have hfz44_6 := blk_frozen BK124.out 6; have hfz44_7 := blk_frozen BK124.out 7) | (go_at_call 44; (with_reducible refine (msg_within.calls a0_4 a0_3 false _ A37.out).mono ?_); rintro e w' ⟨rfl, ⟨nd, rfl⟩⟩))
                  go_ret
                  exact ⟨by first | rfl | (simp [errW_none, errW_some] <;> rfl) | (simp [*, errW_none, errW_some] <;> rfl), by repeat (first | (with_reducible first | exact HB.out | apply below_alloc | apply pw_below_drewN | apply below_drew1 | refine below_set ?_ GE124.out) | exact HB.out)⟩
              · replace c36 := Bool.eq_false_iff.mpr c36
                subst c36
                have H1 : (some false) = some r := by rw [if_neg (show ¬ (false = true) by decide)] at H; exact H
                clear H
                have H := H1
                clear H1
                obtain rfl := Option.some.inj H
                have hcz45_0 : wc.cell? ⟨gb124, 0, none⟩ = some (.int .i64 a0_0) := (blk_cell BK124.out 0).trans rfl
                have hcz45_1 : wc.cell? ⟨gb124, 1, none⟩ = some (.int .i64 a0_1) := (blk_cell BK124.out 1).trans rfl
                have hcz45_2 : wc.cell? ⟨gb124, 2, none⟩ = some (.int .i64 a0_2) := (blk_cell BK124.out 2).trans rfl
                have hcz45_3 : wc.cell? ⟨gb124, 3, none⟩ = some (.int .i64 a0_3) := (blk_cell BK124.out 3).trans rfl
                have hcz45_4 : wc.cell? ⟨gb124, 4, none⟩ = some (.int .i64 a0_4) := (blk_cell BK124.out 4).trans rfl
                have hcz45_5 : wc.cell? ⟨gb124, 5, none⟩ = some (.int .i64 a0_5) := (blk_cell BK124.out 5).trans rfl
                have hcz45_6 : wc.cell? ⟨gb124, 6, none⟩ = some (.int .i64 a0_6) := (blk_cell BK124.out 6).trans rfl
                have hcz45_7 : wc.cell? ⟨gb124, 7, none⟩ = some (.slice A0_7 l0_7.length c0_7) := (blk_cell BK124.out 7).trans rfl
                have hfz45_0 := blk_frozen BK124.out 0
                have hfz45_1 := blk_frozen BK124.out 1
                have hfz45_2 := blk_frozen BK124.out 2
                have hfz45_3 := blk_frozen BK124.out 3
                have hfz45_4 := blk_frozen BK124.out 4
                have hfz45_5 := blk_frozen BK124.out 5
                have hfz45_6 := blk_frozen BK124.out 6
                have hfz45_7 := blk_frozen BK124.out 7
                go_wp2_with (first | ((with_reducible refine gate_callee (f := 45) rfl ?_); refine goesL_ (some 65) rfl rfl Try.func45 (by kernel_rfl) rfl #[.slice A0_7 l0_7.length c0_7, .int .i64 a0_5] rfl (by (try simp only [List.map_toArray, List.map_cons, List.map_nil]); first | done | rfl | (simp only [List.length_drop, List.length_take]; rfl)) ?_; (with_reducible refine (msg_logged.calls kj1 _ _ l0_7 a0_5 false _ ?side1 ?side2 A35.out).mono ?_); (case side1 => repeat (first | exact (Kd.C_below HR0_7.out HB.out) | (with_reducible refine Kd.C_alloc ?_ _) | (with_reducible refine Kd.C_drewN ?_ _) | (with_reducible refine Kd.C_drew ?_))); (case side2 => exact HC0_7.out); rintro e w46 ⟨rfl, hb⟩; refine ⟨_, rfl, ?_⟩; have n0_ := Aside0.mk (blk_below (g := gb124) (o := .cells #[.int .i64 a0_0, .int .i64 a0_1, .int .i64 a0_2, .int .i64 a0_3, .int .i64 a0_4, .int .i64 a0_5, .int .i64 a0_6, .slice A0_7 l0_7.length c0_7] 28 (0, 0)) (by (with_reducible repeat (first | refine blk_drewN ?_ _ | refine blk_drew ?_ | refine blk_alloc ?_ _)); exact BK124.out) hb); have n1_ := Aside0.mk (below_step (by repeat (first | (with_reducible first | exact HB.out | apply below_alloc | apply pw_below_drewN | apply below_drew1 | refine below_set ?_ GE124.out) | exact HB.out)) hb); clear BK124; clear HB; have BK124 := n0_; have HB := n1_; clear n0_ n1_; (try clear hb); (try clear hb2); (try clear hk); (try clear hi)))
                go_ret
                exact ⟨by first | rfl | (simp [errW_none, errW_some] <;> rfl) | (simp [*, errW_none, errW_some] <;> rfl), by repeat (first | (with_reducible first | exact HB.out | apply below_alloc | apply pw_below_drewN | apply below_drew1 | refine below_set ?_ GE124.out) | exact HB.out)⟩
            · rw [if_neg c34] at H
              have c34b0 : (a0_0 == 3) = false := beq_eq_false_iff_ne.mpr c34
              have c34b1 : (a0_0 != 3) = true := bne_iff_ne.mpr c34
              obtain rfl := Option.some.inj H
              have hcz47_0 : wc.cell? ⟨gb124, 0, none⟩ = some (.int .i64 a0_0) := (blk_cell BK124.out 0).trans rfl
              have hcz47_1 : wc.cell? ⟨gb124, 1, none⟩ = some (.int .i64 a0_1) := (blk_cell BK124.out 1).trans rfl
              have hcz47_2 : wc.cell? ⟨gb124, 2, none⟩ = some (.int .i64 a0_2) := (blk_cell BK124.out 2).trans rfl
              have hcz47_3 : wc.cell? ⟨gb124, 3, none⟩ = some (.int .i64 a0_3) := (blk_cell BK124.out 3).trans rfl
              have hcz47_4 : wc.cell? ⟨gb124, 4, none⟩ = some (.int .i64 a0_4) := (blk_cell BK124.out 4).trans rfl
              have hcz47_5 : wc.cell? ⟨gb124, 5, none⟩ = some (.int .i64 a0_5) := (blk_cell BK124.out 5).trans rfl
              have hcz47_6 : wc.cell? ⟨gb124, 6, none⟩ = some (.int .i64 a0_6) := (blk_cell BK124.out 6).trans rfl
              have hcz47_7 : wc.cell? ⟨gb124, 7, none⟩ = some (.slice A0_7 l0_7.length c0_7) := (blk_cell BK124.out 7).trans rfl
              have hfz47_0 := blk_frozen BK124.out 0
              have hfz47_1 := blk_frozen BK124.out 1
              have hfz47_2 := blk_frozen BK124.out 2
              have hfz47_3 := blk_frozen BK124.out 3
              have hfz47_4 := blk_frozen BK124.out 4
              have hfz47_5 := blk_frozen BK124.out 5
              have hfz47_6 := blk_frozen BK124.out 6
              have hfz47_7 := blk_frozen BK124.out 7
              go_wp2
              go_ret
              exact ⟨by first | rfl | (simp [errW_none, errW_some] <;> rfl) | (simp [*, errW_none, errW_some] <;> rfl), by repeat (first | (with_reducible first | exact HB.out | apply below_alloc | apply pw_below_drewN | apply below_drew1 | refine below_set ?_ GE124.out) | exact HB.out)⟩
def slices_Clone_string_string.f (l0 : List ByteArray) : Option (List ByteArray) := if l0.length < 4398046511104 then some l0 else none
set_option maxHeartbeats 8000000 in
set_option maxRecDepth 100000 in
theorem slices_Clone_string_string.calls (A0 : Option Addr) (c0 : Nat) (l0 : List ByteArray) (r : List ByteArray) (w : World) (hr0 : Kd.C Kd.string w A0 l0.length l0) (hc0 : l0.length ≤ c0) (h : slices_Clone_string_string.f l0 = some r) :
    Calls Try.prog 42 #[.slice A0 l0.length c0] w fun e w' => ∃ v0_ : Value, e = .returned (v0_) ∧ Kd.R Kd.string 9 w' w.heap.size (fun _ => True) v0_ r ∧ Below w.heap.size w w' := by
  unfold slices_Clone_string_string.f at h
  split at h
  case isFalse => cases h
  rename_i hl
  obtain rfl := Option.some.inj h
  have HR := Aside0.mk hr0
  have HL := Aside0.mk hl
  have he := x_eql_nil (P := Try.prog) 22 9 Try.underlying22
  rcases A0 with _ | ad
  · have h0 : l0 = [] := List.eq_nil_of_length_eq_zero (by
      rcases Nat.eq_zero_or_pos l0.length with h | h
      · exact h
      · obtain ⟨ad, h, _⟩ := hr0.2.2 h
        cases h)
    subst h0
    clear hr0 h hl HR
    go_enter Try.func42, Try.ntmps42
    go_wp2
    go_ret
    exact ⟨_, rfl, Kd.R_nil _ _ _ _ _, Below.refl _ _⟩
  · clear hr0 h hl
    go_enter Try.func42, Try.ntmps42
    go_wp2_with (first | ((with_reducible refine gate_builtin (b := .append) (xs := #[.tmp 5, .tmp 6]) rfl ?_); at_builtin; refine Kd.R_append_rows Kd.string (w0 := w) w.heap.size rfl (.tmp 5) (.tmp 6) 22 9 (.string ⟨#[]⟩) 16 rfl Try.underlying22 info9 rfl (by decide) (by omega) (.slice (some ⟨w.heap.size, 0, none⟩) 0 0) ([] : List ByteArray) l0 _ _ _ (fun _ => True) (fun _ => False) rfl rfl ?aO ?aR (fun _ _ h => h) (fun _ h => h.elim) ?aF ?aB ?aS ?aL ?_; (case aR => exact Kd.C_alloc HR.out _); (case aB => exact below_alloc (Below.refl _ _) _); (case aF => exact (fun _ _ => trivial)); (case aO => exact Kd.R_empty _ _ _ _ _ (Nat.le_refl _) trivial); (case aS => exact (by simp)); (case aL => have := HL.out; simp; omega); intro v1 w1 ho hb hg hat; have HO := Aside0.mk ho; have HB := Aside0.mk hb; clear ho hb hg hat))
    go_ret
    exact ⟨_, rfl, HO.out, HB.out⟩
def msg_Prepare.f (a0 : Int) (a1 : Int) (a2 : Int) (a3 : Int) (l4 : List ByteArray) : Option (Int × Int × Int × Int × Int × Int × Int × List ByteArray) := (slices_Clone_string_string.f l4).bind fun t133 => (some (1, a0, a1, a2, 0, a3, 0, t133))
set_option maxHeartbeats 8000000 in
set_option maxRecDepth 100000 in
theorem msg_Prepare.calls (a0 : Int) (a1 : Int) (a2 : Int) (a3 : Int) (A4 : Option Addr) (c4 : Nat) (l4 : List ByteArray) (r1 : Int) (r2 : Int) (r3 : Int) (r4 : Int) (r5 : Int) (r6 : Int) (r7 : Int) (r8 : List ByteArray) (w : World) (hr4 : Kd.C Kd.string w A4 l4.length l4) (hc4 : l4.length ≤ c4) (h : msg_Prepare.f a0 a1 a2 a3 l4 = some (r1, r2, r3, r4, r5, r6, r7, r8)) :
    Calls Try.prog 48 #[.int .i64 a0, .int .i64 a1, .int .i64 a2, .int .i64 a3, .slice A4 l4.length c4] w fun e w' => ∃ v7_ : Value, e = .returned (.agg #[.int .i64 r1, .int .i64 r2, .int .i64 r3, .int .i64 r4, .int .i64 r5, .int .i64 r6, .int .i64 r7, v7_]) ∧ Kd.R Kd.string 9 w' w.heap.size (fun _ => True) v7_ r8 ∧ Below w.heap.size w w' := by
  have hu28 := Try.underlying28
  have HR4 := Aside0.mk hr4
  have HC4 := Aside0.mk hc4
  clear hr4 hc4
  have HB := Aside0.mk (Below.refl w.heap.size w)
  have H : ((slices_Clone_string_string.f l4).bind fun t133 => (some (1, a0, a1, a2, 0, a3, 0, t133))) = some (r1, r2, r3, r4, r5, r6, r7, r8) := h
  clear h
  replace H := Option.bind_eq_some_iff.mp H
  obtain ⟨t133, A60, H⟩ := H
  replace H : (some (1, a0, a1, a2, 0, a3, 0, t133)) = some (r1, r2, r3, r4, r5, r6, r7, r8) := H
  have A6 := Aside0.mk A60
  clear A60
  simp only [Option.some.injEq, Prod.mk.injEq] at H
  obtain ⟨rfl, rfl, rfl, rfl, rfl, rfl, rfl, rfl⟩ := H
  go_enter Try.func48, Try.ntmps48
  go_wp2_with (first | ((with_reducible refine gate_dst (N := 10) rfl ?_); refine box_event ?hg (N := 10) ?hd (cs := #[.int .i64 0, .int .i64 0, .int .i64 0, .int .i64 0, .int .i64 0, .int .i64 0, .int .i64 0, .slice none 0 0]) (t := 28) ?hr ?_; (case hd => rfl); (case hg => rfl); (case hr => first | (go_simp; done) | (go_simp; rfl)); intro gb132 hg w7 hbox hb; have n0_ := Aside0.mk (below_step (by repeat (first | (with_reducible first | exact HB.out | apply below_alloc | apply pw_below_drewN | apply below_drew1) | exact HB.out)) hb); have n1_ := Aside0.mk (hbox); have n2_ := Aside0.mk ((by rw [hg]; exact (below_size (by repeat (first | (with_reducible first | exact HB.out | apply below_alloc | apply pw_below_drewN | apply below_drew1) | exact HB.out))) : w.heap.size ≤ gb132)); have n3_ := Aside0.mk ((by rw [hg]; exact (below_size (by repeat (first | (with_reducible first | exact HB.out | apply below_alloc | apply pw_below_drewN | apply below_drew1) | exact HB.out))) : w.heap.size ≤ gb132)); clear HB; have HB := n0_; have BK132 := n1_; have GW132 := n2_; have GE132 := n3_; clear n0_ n1_ n2_ n3_; clear hb hbox hg) | ((with_reducible refine gate_callee (f := 42) rfl ?_); refine goesL_ (some 16) rfl rfl Try.func42 (by kernel_rfl) rfl #[.slice A4 l4.length c4] rfl (by (try simp only [List.map_toArray, List.map_cons, List.map_nil]); first | done | rfl | (simp only [List.length_drop, List.length_take]; rfl)) ?_; (with_reducible refine (slices_Clone_string_string.calls _ _ l4 t133 _ ?side1 ?side2 A6.out).mono ?_); (case side1 => repeat (first | exact (Kd.C_below HR4.out HB.out) | (with_reducible refine Kd.C_alloc ?_ _) | (with_reducible refine Kd.C_drewN ?_ _) | (with_reducible refine Kd.C_drew ?_))); (case side2 => exact HC4.out); rintro e w8 ⟨v134, rfl, ho0, hb⟩; refine ⟨_, rfl, ?_⟩; have n0_ := Aside0.mk (Kd.R_lower ho0 (below_size (by repeat (first | (with_reducible first | exact HB.out | apply below_alloc | apply pw_below_drewN | apply below_drew1 | refine below_set ?_ GE132.out) | exact HB.out)))); have n1_ := Aside0.mk (blk_below (g := gb132) (o := .cells #[.int .i64 0, .int .i64 0, .int .i64 0, .int .i64 0, .int .i64 0, .int .i64 0, .int .i64 0, .slice none 0 0] 28 (0, 0)) (by (with_reducible repeat (first | refine blk_drewN ?_ _ | refine blk_drew ?_ | refine blk_alloc ?_ _)); exact BK132.out) hb); have n2_ := Aside0.mk (below_step (by repeat (first | (with_reducible first | exact HB.out | apply below_alloc | apply pw_below_drewN | apply below_drew1 | refine below_set ?_ GE132.out) | exact HB.out)) hb); clear BK132; clear HB; have HO135 := n0_; have BK132 := n1_; have HB := n2_; clear n0_ n1_ n2_; (try clear hb); (try clear hb2); (try clear hk); (try clear hi); (try clear ho0); obtain ⟨Ao9, co9, eo9⟩ := Kd.R_slice HO135.out; subst eo9; have hcz10_0 : w8.cell? ⟨gb132, 0, none⟩ = some (.int .i64 0) := (blk_cell BK132.out 0).trans rfl; have hcz10_1 : w8.cell? ⟨gb132, 1, none⟩ = some (.int .i64 0) := (blk_cell BK132.out 1).trans rfl; have hcz10_2 : w8.cell? ⟨gb132, 2, none⟩ = some (.int .i64 0) := (blk_cell BK132.out 2).trans rfl; have hcz10_3 : w8.cell? ⟨gb132, 3, none⟩ = some (.int .i64 0) := (blk_cell BK132.out 3).trans rfl; have hcz10_4 : w8.cell? ⟨gb132, 4, none⟩ = some (.int .i64 0) := (blk_cell BK132.out 4).trans rfl; have hcz10_5 : w8.cell? ⟨gb132, 5, none⟩ = some (.int .i64 0) := (blk_cell BK132.out 5).trans rfl; have hcz10_6 : w8.cell? ⟨gb132, 6, none⟩ = some (.int .i64 0) := (blk_cell BK132.out 6).trans rfl; have hcz10_7 : w8.cell? ⟨gb132, 7, none⟩ = some (.slice none 0 0) := (blk_cell BK132.out 7).trans rfl; have hfz10_0 := blk_frozen BK132.out 0; have hfz10_1 := blk_frozen BK132.out 1; have hfz10_2 := blk_frozen BK132.out 2; have hfz10_3 := blk_frozen BK132.out 3; have hfz10_4 := blk_frozen BK132.out 4; have hfz10_5 := blk_frozen BK132.out 5; have hfz10_6 := blk_frozen BK132.out 6; have hfz10_7 := blk_frozen BK132.out 7))
  refine bodyPost_ret (results_cell_row rfl _ _ gb132 28 #[.int .i64 1, .int .i64 a0, .int .i64 a1, .int .i64 a2, .int .i64 0, .int .i64 a3, .int .i64 0, .slice Ao9 t133.length co9] (0, 0) _ rfl (by (with_reducible repeat (first | refine blk_drewN ?_ _ | refine blk_drew ?_ | refine blk_alloc ?_ _)); refine blk_put (cs := #[.int .i64 1, .int .i64 a0, .int .i64 a1, .int .i64 a2, .int .i64 0, .int .i64 a3, .int .i64 0, .slice none 0 0]) ?_ 7 _ rfl; (with_reducible repeat (first | refine blk_drewN ?_ _ | refine blk_drew ?_ | refine blk_alloc ?_ _)); refine blk_put (cs := #[.int .i64 1, .int .i64 a0, .int .i64 a1, .int .i64 a2, .int .i64 0, .int .i64 a3, .int .i64 0, .slice none 0 0]) ?_ 6 _ rfl; (with_reducible repeat (first | refine blk_drewN ?_ _ | refine blk_drew ?_ | refine blk_alloc ?_ _)); refine blk_put (cs := #[.int .i64 1, .int .i64 a0, .int .i64 a1, .int .i64 a2, .int .i64 0, .int .i64 0, .int .i64 0, .slice none 0 0]) ?_ 5 _ rfl; (with_reducible repeat (first | refine blk_drewN ?_ _ | refine blk_drew ?_ | refine blk_alloc ?_ _)); refine blk_put (cs := #[.int .i64 1, .int .i64 a0, .int .i64 a1, .int .i64 a2, .int .i64 0, .int .i64 0, .int .i64 0, .slice none 0 0]) ?_ 4 _ rfl; (with_reducible repeat (first | refine blk_drewN ?_ _ | refine blk_drew ?_ | refine blk_alloc ?_ _)); refine blk_put (cs := #[.int .i64 1, .int .i64 a0, .int .i64 a1, .int .i64 0, .int .i64 0, .int .i64 0, .int .i64 0, .slice none 0 0]) ?_ 3 _ rfl; (with_reducible repeat (first | refine blk_drewN ?_ _ | refine blk_drew ?_ | refine blk_alloc ?_ _)); refine blk_put (cs := #[.int .i64 1, .int .i64 a0, .int .i64 0, .int .i64 0, .int .i64 0, .int .i64 0, .int .i64 0, .slice none 0 0]) ?_ 2 _ rfl; (with_reducible repeat (first | refine blk_drewN ?_ _ | refine blk_drew ?_ | refine blk_alloc ?_ _)); refine blk_put (cs := #[.int .i64 1, .int .i64 0, .int .i64 0, .int .i64 0, .int .i64 0, .int .i64 0, .int .i64 0, .slice none 0 0]) ?_ 1 _ rfl; (with_reducible repeat (first | refine blk_drewN ?_ _ | refine blk_drew ?_ | refine blk_alloc ?_ _)); refine blk_put (cs := #[.int .i64 0, .int .i64 0, .int .i64 0, .int .i64 0, .int .i64 0, .int .i64 0, .int .i64 0, .slice none 0 0]) ?_ 0 _ rfl; (with_reducible repeat (first | refine blk_drewN ?_ _ | refine blk_drew ?_ | refine blk_alloc ?_ _)); exact BK132.out) Try.underlying28 rfl (by kernel_rfl)) rfl ?_
  exact ⟨_, by first | rfl | (simp [errW_none, errW_some] <;> rfl) | (simp [*, errW_none, errW_some] <;> rfl), by (with_reducible repeat (first | apply Kd.R_alloc | apply Kd.R_drewN | apply Kd.R_drew)); exact Kd.R_mono (Kd.R_far (p := ⟨gb132, 7, none⟩) (Kd.R_far (p := ⟨gb132, 6, none⟩) (Kd.R_far (p := ⟨gb132, 5, none⟩) (Kd.R_far (p := ⟨gb132, 4, none⟩) (Kd.R_far (p := ⟨gb132, 3, none⟩) (Kd.R_far (p := ⟨gb132, 2, none⟩) (Kd.R_far (p := ⟨gb132, 1, none⟩) (Kd.R_far (p := ⟨gb132, 0, none⟩) (Kd.R_types HO135.out BK132.out (by decide)) (fun _ hk => hk.2) (.int .i64 1)) (fun _ hk => hk.2) (.int .i64 a0)) (fun _ hk => hk.2) (.int .i64 a1)) (fun _ hk => hk.2) (.int .i64 a2)) (fun _ hk => hk.2) (.int .i64 0)) (fun _ hk => hk.2) (.int .i64 a3)) (fun _ hk => hk.2) (.int .i64 0)) (fun _ hk => hk.2) (.slice Ao9 t133.length co9)) (fun _ hk => trivial), by repeat (first | (with_reducible first | exact HB.out | apply below_alloc | apply pw_below_drewN | apply below_drew1 | refine below_set ?_ GE132.out) | exact HB.out)⟩
end Go.Proofs.Ytfpfpckocemmdaa.P
end
section
namespace Go.Proofs.Ytfpfpckocemmdaa.P
open Go.RowKit Go.Proofs.YtfpfpckocemmdaaW.PrintWords Go.Proofs.YtfpfpckocemmdaaW.PrintLast Go.Proofs.YtfpfpckocemmdaaW.PrintMore
attribute [local go_sem] max2_int min2_int max_two min_two max_three min_three max_four min_four   -- for this text's walks alone
set_option linter.unusedVariables false
set_option linter.unusedSimpArgs false
def replica_logged.f (k : Nat) (l0 : List ByteArray) (a1 : Int) : Option (Bool) := (msg_Prepare.f 0 0 0 a1 l0).bind fun bt136 => ((msg_Is.f k bt136.1 bt136.2.1 bt136.2.2.1 bt136.2.2.2.1 bt136.2.2.2.2.1 bt136.2.2.2.2.2.1 bt136.2.2.2.2.2.2.1 bt136.2.2.2.2.2.2.2).bind fun t146 => (some t146))
set_option maxHeartbeats 8000000 in
set_option maxRecDepth 100000 in
theorem replica_logged.calls (k : Nat) (A0 : Option Addr) (c0 : Nat) (l0 : List ByteArray) (a1 : Int) (r : Bool) (w : World) (hr0 : Kd.C Kd.string w A0 l0.length l0) (hc0 : l0.length ≤ c0) (h : replica_logged.f k l0 a1 = some r) :
    Calls Try.prog 38 #[.slice A0 l0.length c0, .int .i64 a1] w fun e w' => e = .returned (.bool r) ∧ Below w.heap.size w w' := by
  have HR0 := Aside0.mk hr0
  have HC0 := Aside0.mk hc0
  clear hr0 hc0
  have HB := Aside0.mk (Below.refl w.heap.size w)
  have H : ((msg_Prepare.f 0 0 0 a1 l0).bind fun bt136 => ((msg_Is.f k bt136.1 bt136.2.1 bt136.2.2.1 bt136.2.2.2.1 bt136.2.2.2.2.1 bt136.2.2.2.2.2.1 bt136.2.2.2.2.2.2.1 bt136.2.2.2.2.2.2.2).bind fun t146 => (some t146))) = some r := h
  clear h
  replace H := Option.bind_eq_some_iff.mp H
  obtain ⟨⟨t136, t137, t138, t139, t140, t141, t142, t143⟩, A30, H⟩ := H
  replace H : ((msg_Is.f k t136 t137 t138 t139 t140 t141 t142 t143).bind fun t146 => (some t146)) = some r := H
  have A3 := Aside0.mk A30
  clear A30
  replace H := Option.bind_eq_some_iff.mp H
  obtain ⟨t146, A40, H⟩ := H
  replace H : (some t146) = some r := H
  have A4 := Aside0.mk A40
  clear A40
  obtain rfl := Option.some.inj H
  go_enter Try.func38, Try.ntmps38
  go_wp2_with (first | ((with_reducible refine gate_callee (f := 48) rfl ?_); refine goesL_ (some 7) rfl rfl Try.func48 (by kernel_rfl) rfl #[.int .i64 0, .int .i64 0, .int .i64 0, .int .i64 a1, .slice A0 l0.length c0] rfl (by (try simp only [List.map_toArray, List.map_cons, List.map_nil]); first | done | rfl | (simp only [List.length_drop, List.length_take]; rfl)) ?_; (with_reducible refine (msg_Prepare.calls 0 0 0 a1 _ _ l0 t136 t137 t138 t139 t140 t141 t142 t143 _ ?side1 ?side2 A3.out).mono ?_); (case side1 => repeat (first | exact HR0.out | (with_reducible refine Kd.C_alloc ?_ _) | (with_reducible refine Kd.C_drewN ?_ _) | (with_reducible refine Kd.C_drew ?_))); (case side2 => exact HC0.out); rintro e w5 ⟨v144, rfl, ho0, hb⟩; refine ⟨_, rfl, ?_⟩; have n0_ := Aside0.mk (Kd.R_lower ho0 (below_size (by repeat (first | (with_reducible first | exact HB.out | apply below_alloc | apply pw_below_drewN | apply below_drew1) | exact HB.out)))); have n1_ := Aside0.mk (below_step (by repeat (first | (with_reducible first | exact HB.out | apply below_alloc | apply pw_below_drewN | apply below_drew1) | exact HB.out)) hb); clear HB; have HO145 := n0_; have HB := n1_; clear n0_ n1_; (try clear hb); (try clear hb2); (try clear hk); (try clear hi); (try clear ho0); obtain ⟨Ao6, co6, eo6⟩ := Kd.R_slice HO145.out; subst eo6) | ((with_reducible refine gate_callee (f := 22) rfl ?_); refine goesL_ (some 8) rfl rfl Try.func22 (by kernel_rfl) rfl #[.agg #[.int .i64 t136, .int .i64 t137, .int .i64 t138, .int .i64 t139, .int .i64 t140, .int .i64 t141, .int .i64 t142, .slice Ao6 t143.length co6]] rfl (by (try simp only [List.map_toArray, List.map_cons, List.map_nil]); first | done | rfl | (simp only [List.length_drop, List.length_take]; rfl)) ?_; (with_reducible refine (msg_Is.calls k t136 t137 t138 t139 t140 t141 t142 _ _ t143 t146 _ ?side1 ?side2 A4.out).mono ?_); (case side1 => repeat (first | exact (Kd.R_reads' HO145.out).2.2 | (with_reducible refine Kd.C_alloc ?_ _) | (with_reducible refine Kd.C_drewN ?_ _) | (with_reducible refine Kd.C_drew ?_))); (case side2 => exact (Kd.R_reads' HO145.out).2.1); rintro e w7 ⟨rfl, hb⟩; refine ⟨_, rfl, ?_⟩; have n0_ := Aside0.mk (Kd.R_below (by (with_reducible repeat (first | apply Kd.R_alloc | apply Kd.R_drewN | apply Kd.R_drew)); exact HO145.out) hb); have n1_ := Aside0.mk (below_step (by repeat (first | (with_reducible first | exact HB.out | apply below_alloc | apply pw_below_drewN | apply below_drew1) | exact HB.out)) hb); clear HO145; clear HB; have HO145 := n0_; have HB := n1_; clear n0_ n1_; (try clear hb); (try clear hb2); (try clear hk); (try clear hi)))
  go_ret
  exact ⟨by first | rfl | (simp [errW_none, errW_some] <;> rfl) | (simp [*, errW_none, errW_some] <;> rfl), by repeat (first | (with_reducible first | exact HB.out | apply below_alloc | apply pw_below_drewN | apply below_drew1) | exact HB.out)⟩
def quorum_vote_own.f (a0_0 : Int) (a0_1 : Int) (a0_2 : Int) (l0_3 : List ByteArray) : Option (Int × Int × Int × List ByteArray) := if l0_3.length < 4398046511104 then some (a0_0, a0_1, a0_2, l0_3) else none
set_option maxHeartbeats 8000000 in
set_option maxRecDepth 100000 in
theorem quorum_vote_own.calls (a0_0 : Int) (a0_1 : Int) (a0_2 : Int) (A0_3 : Option Addr) (c0_3 : Nat) (l0_3 : List ByteArray) (r1 : Int) (r2 : Int) (r3 : Int) (r4 : List ByteArray) (w : World) (hr0_3 : Kd.C Kd.string w A0_3 l0_3.length l0_3) (hc0_3 : l0_3.length ≤ c0_3) (h : quorum_vote_own.f a0_0 a0_1 a0_2 l0_3 = some (r1, r2, r3, r4)) :
    Calls Try.prog 54 #[.agg #[.int .i64 a0_0, .int .i64 a0_1, .int .i64 a0_2, .slice A0_3 l0_3.length c0_3]] w fun e w' => ∃ v3_ : Value, e = .returned (.agg #[.int .i64 r1, .int .i64 r2, .int .i64 r3, v3_]) ∧ Kd.R Kd.string 9 w' w.heap.size (fun _ => True) v3_ r4 ∧ Below w.heap.size w w' := by
  have hu66 := Try.underlying66
  have hu83 := Try.underlying83
  have hu22 := Try.underlying22
  have hu9 := Try.underlying9
  unfold quorum_vote_own.f at h
  split at h
  case isFalse => cases h
  rename_i hl
  injection h with h
  injection h with h1 h
  injection h with h2 h
  injection h with h3 h
  subst h1; subst h2; subst h3; subst h
  have HR := Aside0.mk hr0_3
  have HL := Aside0.mk hl
  have HC := Aside0.mk hc0_3
  clear hr0_3 hc0_3 hl
  have hm : ∀ W : World, (Instr.makeSlice 22 (.int .i64 (l0_3.length : Int)) (.int .i64 (l0_3.length : Int))).run Try.prog W = .ok (.slice (some ⟨W.heap.size, 0, none⟩) l0_3.length l0_3.length) (W.alloc (.cells (madeCells (Value.string ⟨#[]⟩).cells l0_3.length) 9)) := fun W => by
    obtain ⟨i, hi, hz, hs, hb⟩ := info_parts info9
    have h := run_make (P := Try.prog) W 22 9 i (.string ⟨#[]⟩) hu22 hi hz .i64 .i64 (l0_3.length : Int) (l0_3.length : Int) (by omega) (by omega) (by have := HL.out; rw [hb]; omega) (by have := HL.out; omega)
    simp only [Int.toNat_natCast, hs, Nat.mul_one] at h
    exact h
  have hcp : ∀ o1 o2 : Obj, (Builtin.copy_ #[22, 22] 3 #[.slice (some ⟨w.heap.size + 1 + 1, 0, none⟩) l0_3.length l0_3.length, .slice A0_3 l0_3.length c0_3]).run Try.prog (((w.alloc o1).alloc o2).alloc (.cells (madeCells (Value.string ⟨#[]⟩).cells l0_3.length) 9)) = .ok (.int .i64 (l0_3.length : Int)) (((w.alloc o1).alloc o2).alloc (.cells (l0_3.map Value.string).toArray 9)) := fun o1 o2 => by
    obtain ⟨i, hi, hz, hs, hb⟩ := info_parts info9
    have h := x_copy_fresh (P := Try.prog) Value.string (⟨#[]⟩ : ByteArray) (fun _ => rfl) ((w.alloc o1).alloc o2) 22 22 3 9 9 hu22 (by rw [hi]; simp [hs]) A0_3 l0_3.length c0_3 (madeCells (Value.string ⟨#[]⟩).cells l0_3.length) (size_madeCells _ _) l0_3 (Kd.C_alloc (Kd.C_alloc (Kd.C_alloc HR.out _) _) _)
    have hsz : ((w.alloc o1).alloc o2).heap.size = w.heap.size + 1 + 1 := by simp
    rw [hsz] at h
    exact h
  have hln : l0_3.length ≤ maxLen := by have := HL.out; simp [maxLen]; omega
  generalize hcs : (l0_3.map Value.string).toArray = cs at *
  generalize hn : l0_3.length = n at *
  generalize hc : madeCells (Value.string ⟨#[]⟩).cells n = mc at *
  go_enter Try.func54, Try.ntmps54
  go_wp2
  refine bodyPost_ret (results_cell_row rfl _ _ (w.heap.size + 1) 66 #[.int .i64 a0_0, .int .i64 a0_1, .int .i64 a0_2, .slice (some ⟨w.heap.size + 1 + 1, 0, none⟩) n n] (0, 0) _ rfl ?_ Try.underlying66 rfl (by kernel_rfl)) rfl ?_
  · have h1 := Below.heap_alloc (((w.alloc (.cells #[.int .i64 a0_0, .int .i64 a0_1, .int .i64 a0_2, .slice (some ⟨w.heap.size + 1 + 1, 0, none⟩) n n] 83)).alloc (.cells #[.int .i64 a0_0, .int .i64 a0_1, .int .i64 a0_2, .slice (some ⟨w.heap.size + 1 + 1, 0, none⟩) n n] 66))) (.cells cs 9) (w.heap.size + 1) (by simp)
    refine h1.trans ?_
    have h2 := x_alloc_new (w.alloc (.cells #[.int .i64 a0_0, .int .i64 a0_1, .int .i64 a0_2, .slice (some ⟨w.heap.size + 1 + 1, 0, none⟩) n n] 83)) (.cells #[.int .i64 a0_0, .int .i64 a0_1, .int .i64 a0_2, .slice (some ⟨w.heap.size + 1 + 1, 0, none⟩) n n] 66)
    simpa using h2
  subst hn
  refine ⟨_, rfl, x_R_scalar Value.string (fun _ => rfl) 9 _ w.heap.size _ (w.heap.size + 1 + 1) l0_3 (by omega) ?_ hln trivial, ?_⟩
  · rw [hcs]
    have h := x_alloc_new ((w.alloc (.cells #[.int .i64 a0_0, .int .i64 a0_1, .int .i64 a0_2, .slice (some ⟨w.heap.size + 1 + 1, 0, none⟩) l0_3.length l0_3.length] 83)).alloc (.cells #[.int .i64 a0_0, .int .i64 a0_1, .int .i64 a0_2, .slice (some ⟨w.heap.size + 1 + 1, 0, none⟩) l0_3.length l0_3.length] 66)) (.cells cs 9)
    simpa using h
  · exact below_alloc (below_alloc (below_alloc (Below.refl _ _) _) _) _
def quorum_Add.l0 : Nat → List (S66) → List (S66) → Int → Int → Int → Int → Int → List ByteArray → Option ((List (S66)))
  | 0, _, _, _, _, _, _, _, _ => none
  | k + 1, x5, x8, x9, x10, x148000, x148001, x148002, x148003 => if x10 < x9 then (if 0 ≤ x10 then (if x10 < (x8.length : Int) then (if ((rd_T66 x8 x10).f0) = x148000 then (quorum_Add.l0 k x5 x8 x9 (wrap64 (x10 + 1)) x148000 x148001 x148002 x148003) else ((quorum_vote_own.f ((rd_T66 x8 x10).f0) ((rd_T66 x8 x10).f1) ((rd_T66 x8 x10).f2) ((rd_T66 x8 x10).f3)).bind fun bt150 => (if x5.length < 2932031007402 then (quorum_Add.l0 k (x5 ++ [(⟨bt150.1, bt150.2.1, bt150.2.2.1, bt150.2.2.2⟩ : S66)]) x8 x9 (wrap64 (x10 + 1)) x148000 x148001 x148002 x148003) else (none)))) else (none)) else (none)) else ((quorum_vote_own.f x148000 x148001 x148002 x148003).bind fun bt159 => (if x5.length < 2932031007402 then (some (x5 ++ [(⟨bt159.1, bt159.2.1, bt159.2.2.1, bt159.2.2.2⟩ : S66)])) else (none)))
def quorum_Add.f (k : Nat) (l0 : List (S66)) (a1_0 : Int) (a1_1 : Int) (a1_2 : Int) (l1_3 : List ByteArray) : Option ((List (S66))) := quorum_Add.l0 k ([] : List (S66)) l0 (l0.length : Int) 0 a1_0 a1_1 a1_2 l1_3
set_option maxHeartbeats 8000000 in
set_option maxRecDepth 100000 in
theorem quorum_Add.calls (k : Nat) (A0 : Option Addr) (c0 : Nat) (l0 : List (S66)) (a1_0 : Int) (a1_1 : Int) (a1_2 : Int) (A1_3 : Option Addr) (c1_3 : Nat) (l1_3 : List ByteArray) (r : List (S66)) (w : World) (hr0 : Kd.C k66 w A0 l0.length l0) (hc0 : l0.length ≤ c0) (hr1_3 : Kd.C Kd.string w A1_3 l1_3.length l1_3) (hc1_3 : l1_3.length ≤ c1_3) (h : quorum_Add.f k l0 a1_0 a1_1 a1_2 l1_3 = some r) :
    Calls Try.prog 40 #[.slice A0 l0.length c0, .agg #[.int .i64 a1_0, .int .i64 a1_1, .int .i64 a1_2, .slice A1_3 l1_3.length c1_3]] w fun e w' => ∃ v0_ : Value, e = .returned (v0_) ∧ Kd.S k66 66 w' w.heap.size (fun _ => True) v0_ r ∧ Below w.heap.size w w' := by
  have hu66 := Try.underlying66
  have HR0 := Aside0.mk hr0
  have HC0 := Aside0.mk hc0
  clear hr0 hc0
  have HR1_3 := Aside0.mk hr1_3
  have HC1_3 := Aside0.mk hc1_3
  clear hr1_3 hc1_3
  have HB := Aside0.mk (Below.refl w.heap.size w)
  have H : (quorum_Add.l0 k ([] : List (S66)) l0 (l0.length : Int) 0 a1_0 a1_1 a1_2 l1_3) = some r := h
  clear h
  have H' := Aside0.mk H
  clear H
  go_enter Try.func40, Try.ntmps40
  go_wp2_with (first | ((with_reducible refine gate_dst (N := 3) rfl ?_); refine box_event ?hg (N := 3) ?hd (cs := #[.int .i64 a1_0, .int .i64 a1_1, .int .i64 a1_2, .slice A1_3 l1_3.length c1_3]) (t := 66) ?hr ?_; (case hd => rfl); (case hg => rfl); (case hr => first | (go_simp; done) | (go_simp; rfl)); intro gb147 hg w3 hbox hb; have n0_ := Aside0.mk (below_step (by repeat (first | (with_reducible first | exact HB.out | apply below_alloc | apply pw_below_drewN | apply below_drew1) | exact HB.out)) hb); have n1_ := Aside0.mk (hbox); have n2_ := Aside0.mk ((by rw [hg]; exact (below_size (by repeat (first | (with_reducible first | exact HB.out | apply below_alloc | apply pw_below_drewN | apply below_drew1) | exact HB.out))) : w.heap.size ≤ gb147)); have n3_ := Aside0.mk ((by rw [hg]; exact (below_size (by repeat (first | (with_reducible first | exact HB.out | apply below_alloc | apply pw_below_drewN | apply below_drew1) | exact HB.out))) : w.heap.size ≤ gb147)); clear HB; have HB := n0_; have BK147 := n1_; have GW147 := n2_; have GE147 := n3_; clear n0_ n1_ n2_ n3_; clear hb hbox hg))
  go_loopg [5, 10] k (fun kq v5 v10 w' => ∃ (x5_1 : List (S66)) (x10_1 : Int), v10 = .int .i64 x10_1 ∧ Aside0 (quorum_Add.l0 kq x5_1 l0 (l0.length : Int) x10_1 a1_0 a1_1 a1_2 l1_3 = some r) ∧ Aside0 (kq ≤ k) ∧ Aside0 (Kd.S k66 66 w' w.heap.size (fun k_ => k_ ≠ gb147) v5 x5_1) ∧ Aside0 (w'.heap[gb147]? = some (.cells #[.int .i64 a1_0, .int .i64 a1_1, .int .i64 a1_2, (.slice A1_3 l1_3.length c1_3)] 66 (0, 0))) ∧ Aside0 (Below w.heap.size w w'))
  case atStart => exact ⟨(([] : List (S66))), (0), (by first | rfl | (simp; done) | (simp [*]; done)), H', ⟨Nat.le_refl _⟩, ⟨by first | exact Kd.S_nil _ _ _ _ _ | exact Kd.N_nil _ _ _ _ _ | exact Kd.V_nil _ _ _ _ _ | exact Kd.Q_nil _ _ _ _ _ | exact Kd.R_nil _ _ _ _ _⟩, ⟨by (with_reducible repeat (first | refine blk_drewN ?_ _ | refine blk_drew ?_ | refine blk_alloc ?_ _)); exact BK147.out⟩, ⟨by repeat (first | (with_reducible first | exact HB.out | apply below_alloc | apply pw_below_drewN | apply below_drew1 | refine below_set ?_ GE147.out) | exact HB.out)⟩⟩
  case round =>
    clear H'
    try clear c1
    try clear p2
    obtain ⟨x5_1, x10_1, rfl, HA, HK1, HO_5, BK147, HB⟩ := hrel
    cases gk with
    | zero => exact absurd HA.out (by simp [quorum_Add.l0])
    | succ k1 =>
      have H := HA.out
      clear HA
      simp only [quorum_Add.l0] at H
      by_cases c4 : x10_1 < (l0.length : Int)
      · rw [if_pos c4] at H
        have c4b0 : decide (x10_1 < (l0.length : Int)) = true := decide_eq_true c4
        clear c4
        by_cases c5 : 0 ≤ x10_1
        · rw [if_pos c5] at H
          have c5b0 : decide (0 ≤ x10_1) = true := decide_eq_true c5
          clear c5
          by_cases c6 : x10_1 < (l0.length : Int)
          · rw [if_pos c6] at H
            have c6b0 : decide (x10_1 < (l0.length : Int)) = true := decide_eq_true c6
            clear c6
            by_cases c7 : ((rd_T66 l0 x10_1).f0) = a1_0
            · rw [if_pos c7] at H
              have c7b0 : (((rd_T66 l0 x10_1).f0) == a1_0) = true := beq_iff_eq.mpr c7
              have c7b1 : (((rd_T66 l0 x10_1).f0) != a1_0) = false := bne_eq_false_iff_eq.mpr c7
              clear c7
              have H' := Aside0.mk H
              clear H
              have p148 : 0 ≤ (x10_1 : Int) := of_decide_eq_true (by first | (with_reducible assumption) | assumption)
              have q148 : x10_1 < (l0.length : Int) := of_decide_eq_true (by first | (with_reducible assumption) | assumption)
              obtain ⟨ad148, A148_3, c148_3, e148, hx148_0, hx148_1, hx148_2, hx148_3, hl148_3, hi148_3⟩ := at_T66 HR0.out x10_1 p148 q148
              cases e148
              replace hx148_0 := (HB.out.cell (World.block_lt_of_cell? w _ hx148_0)).trans hx148_0
              replace hx148_1 := (HB.out.cell (World.block_lt_of_cell? w _ hx148_1)).trans hx148_1
              replace hx148_2 := (HB.out.cell (World.block_lt_of_cell? w _ hx148_2)).trans hx148_2
              replace hx148_3 := (HB.out.cell (World.block_lt_of_cell? w _ hx148_3)).trans hx148_3
              have HR148_3 := Aside0.mk hi148_3
              have HC148_3 := Aside0.mk hl148_3
              clear hi148_3 hl148_3
              replace p148 := eq_true p148
              replace q148 := eq_true q148
              go_wp2_with (first | ((with_reducible refine gate_dst (N := 7) rfl ?_); refine box_event ?hg (N := 7) ?hd (cs := #[.int .i64 0, .int .i64 0, .int .i64 0, .slice none 0 0]) (t := 66) ?hr ?_; (case hd => rfl); (case hg => rfl); (case hr => first | (go_simp; done) | (go_simp; rfl)); intro gb149 hg w8 hbox hb; have n0_ := Aside0.mk (Kd.S_below (Kd.S_elderB (by (with_reducible repeat (first | apply Kd.S_alloc | apply Kd.S_drewN | apply Kd.S_drew)); exact HO_5.out) gb149 (Nat.le_of_eq hg.symm)) hb); have n1_ := Aside0.mk (blk_below (g := gb147) (o := .cells #[.int .i64 a1_0, .int .i64 a1_1, .int .i64 a1_2, .slice A1_3 l1_3.length c1_3] 66 (0, 0)) (by (with_reducible repeat (first | refine blk_drewN ?_ _ | refine blk_drew ?_ | refine blk_alloc ?_ _)); exact BK147.out) hb); have n2_ := Aside0.mk (below_step (by repeat (first | (with_reducible first | exact HB.out | apply below_alloc | apply pw_below_drewN | apply below_drew1 | refine below_set ?_ GE147.out) | exact HB.out)) hb); have n3_ := Aside0.mk (hbox); have n4_ := Aside0.mk ((by rw [hg]; exact (below_size (by repeat (first | (with_reducible first | exact HB.out | apply below_alloc | apply pw_below_drewN | apply below_drew1 | refine below_set ?_ GE147.out) | exact HB.out))) : w.heap.size ≤ gb149)); have n5_ := Aside0.mk ((by rw [hg]; exact (below_size (by repeat (first | (with_reducible first | exact HB.out | apply below_alloc | apply pw_below_drewN | apply below_drew1 | refine below_set ?_ GE147.out) | exact HB.out))) : w.heap.size ≤ gb149)); have n6_ := Aside0.mk ((by rw [hg]; exact Nat.ne_of_lt (blk_lt (g := gb147) (o := .cells #[.int .i64 a1_0, .int .i64 a1_1, .int .i64 a1_2, .slice A1_3 l1_3.length c1_3] 66 (0, 0)) (by (with_reducible repeat (first | refine blk_drewN ?_ _ | refine blk_drew ?_ | refine blk_alloc ?_ _)); exact BK147.out)) : gb147 ≠ gb149)); have n7_ := Aside0.mk ((by rw [hg]; exact Nat.ne_of_gt (blk_lt (g := gb147) (o := .cells #[.int .i64 a1_0, .int .i64 a1_1, .int .i64 a1_2, .slice A1_3 l1_3.length c1_3] 66 (0, 0)) (by (with_reducible repeat (first | refine blk_drewN ?_ _ | refine blk_drew ?_ | refine blk_alloc ?_ _)); exact BK147.out)) : gb149 ≠ gb147)); clear HO_5; clear BK147; clear HB; have HO_5 := n0_; have BK147 := n1_; have HB := n2_; have BK149 := n3_; have GW149 := n4_; have GE149 := n5_; have NB147_149 := n6_; have NB149_147 := n7_; clear n0_ n1_ n2_ n3_ n4_ n5_ n6_ n7_; clear hb hbox hg; have hnb9 := NB149_147.out; have hnc9 := NB147_149.out; have hcz10_0 : w8.cell? ⟨gb149, 0, none⟩ = some (.int .i64 0) := (blk_cell BK149.out 0).trans rfl; have hcz10_1 : w8.cell? ⟨gb149, 1, none⟩ = some (.int .i64 0) := (blk_cell BK149.out 1).trans rfl; have hcz10_2 : w8.cell? ⟨gb149, 2, none⟩ = some (.int .i64 0) := (blk_cell BK149.out 2).trans rfl; have hcz10_3 : w8.cell? ⟨gb149, 3, none⟩ = some (.slice none 0 0) := (blk_cell BK149.out 3).trans rfl; have hfz10_0 := blk_frozen BK149.out 0; have hfz10_1 := blk_frozen BK149.out 1; have hfz10_2 := blk_frozen BK149.out 2; have hfz10_3 := blk_frozen BK149.out 3; have hcz11_0 : w8.cell? ⟨gb147, 0, none⟩ = some (.int .i64 a1_0) := (blk_cell BK147.out 0).trans rfl; have hcz11_1 : w8.cell? ⟨gb147, 1, none⟩ = some (.int .i64 a1_1) := (blk_cell BK147.out 1).trans rfl; have hcz11_2 : w8.cell? ⟨gb147, 2, none⟩ = some (.int .i64 a1_2) := (blk_cell BK147.out 2).trans rfl; have hcz11_3 : w8.cell? ⟨gb147, 3, none⟩ = some (.slice A1_3 l1_3.length c1_3) := (blk_cell BK147.out 3).trans rfl; have hfz11_0 := blk_frozen BK147.out 0; have hfz11_1 := blk_frozen BK147.out 1; have hfz11_2 := blk_frozen BK147.out 2; have hfz11_3 := blk_frozen BK147.out 3))
              go_roundg k1
              case measure => have := HK1.out; omega
              case rel => exact ⟨(x5_1), (wrap64 (x10_1 + 1)), (by first | rfl | (simp; done) | (simp [*]; done)), H', ⟨by have := HK1.out; omega⟩, ⟨by (with_reducible repeat (first | apply Kd.S_alloc | apply Kd.S_drewN | apply Kd.S_drew)); exact Kd.S_mono (Kd.S_far (p := ⟨gb149, 3, none⟩) (Kd.S_far (p := ⟨gb149, 2, none⟩) (Kd.S_far (p := ⟨gb149, 1, none⟩) (Kd.S_far (p := ⟨gb149, 0, none⟩) (Kd.S_mono HO_5.out (fun k_ hk => (⟨hk, hk.2⟩ : _ ∧ k_ ≠ gb149))) (fun _ hk => hk.2) (.int .i64 ((rd_T66 l0 x10_1).f0))) (fun _ hk => hk.2) (.int .i64 ((rd_T66 l0 x10_1).f1))) (fun _ hk => hk.2) (.int .i64 ((rd_T66 l0 x10_1).f2))) (fun _ hk => hk.2) (.slice A148_3 ((rd_T66 l0 x10_1).f3).length c148_3)) (fun _ hk => hk.1.1)⟩, ⟨by (with_reducible repeat (first | refine blk_drewN ?_ _ | refine blk_drew ?_ | refine blk_alloc ?_ _)); refine blk_far ?_ NB147_149.out _; (with_reducible repeat (first | refine blk_drewN ?_ _ | refine blk_drew ?_ | refine blk_alloc ?_ _)); refine blk_far ?_ NB147_149.out _; (with_reducible repeat (first | refine blk_drewN ?_ _ | refine blk_drew ?_ | refine blk_alloc ?_ _)); refine blk_far ?_ NB147_149.out _; (with_reducible repeat (first | refine blk_drewN ?_ _ | refine blk_drew ?_ | refine blk_alloc ?_ _)); refine blk_far ?_ NB147_149.out _; (with_reducible repeat (first | refine blk_drewN ?_ _ | refine blk_drew ?_ | refine blk_alloc ?_ _)); exact BK147.out⟩, ⟨by repeat (first | (with_reducible first | exact HB.out | apply below_alloc | apply pw_below_drewN | apply below_drew1 | refine below_set ?_ GE147.out | refine below_set ?_ GE149.out) | exact HB.out)⟩⟩
            · rw [if_neg c7] at H
              have c7b0 : (((rd_T66 l0 x10_1).f0) == a1_0) = false := beq_eq_false_iff_ne.mpr c7
              have c7b1 : (((rd_T66 l0 x10_1).f0) != a1_0) = true := bne_iff_ne.mpr c7
              replace H := Option.bind_eq_some_iff.mp H
              obtain ⟨⟨t150, t151, t152, t153⟩, A120, H⟩ := H
              replace H : (if x5_1.length < 2932031007402 then (quorum_Add.l0 k1 (x5_1 ++ [(⟨t150, t151, t152, t153⟩ : S66)]) l0 (l0.length : Int) (wrap64 (x10_1 + 1)) a1_0 a1_1 a1_2 l1_3) else (none)) = some r := H
              have A12 := Aside0.mk A120
              clear A120
              by_cases c13 : x5_1.length < 2932031007402
              · rw [if_pos c13] at H
                have LMc13 := Aside0.mk c13
                clear c13
                obtain ⟨y156, hy156⟩ : ∃ y_ : List (S66), y_ = (x5_1 ++ [(⟨t150, t151, t152, t153⟩ : S66)]) := ⟨_, rfl⟩
                replace H : (quorum_Add.l0 k1 y156 l0 (l0.length : Int) (wrap64 (x10_1 + 1)) a1_0 a1_1 a1_2 l1_3) = some r := by first | (rw [hy156]; with_reducible exact H) | (have H2_ := (Option.bind_some _ _).symm.trans H; rw [hy156]; with_reducible exact H2_) | (have H2_ := (Option.bind_some _ _).symm.trans H; with_reducible exact H2_) | with_reducible exact H | (rw [hy156]; exact H) | exact H
                have Ny156 := Aside0.mk hy156
                clear hy156
                have H' := Aside0.mk H
                clear H
                have p148 : 0 ≤ (x10_1 : Int) := of_decide_eq_true (by first | (with_reducible assumption) | assumption)
                have q148 : x10_1 < (l0.length : Int) := of_decide_eq_true (by first | (with_reducible assumption) | assumption)
                obtain ⟨ad148, A148_3, c148_3, e148, hx148_0, hx148_1, hx148_2, hx148_3, hl148_3, hi148_3⟩ := at_T66 HR0.out x10_1 p148 q148
                cases e148
                replace hx148_0 := (HB.out.cell (World.block_lt_of_cell? w _ hx148_0)).trans hx148_0
                replace hx148_1 := (HB.out.cell (World.block_lt_of_cell? w _ hx148_1)).trans hx148_1
                replace hx148_2 := (HB.out.cell (World.block_lt_of_cell? w _ hx148_2)).trans hx148_2
                replace hx148_3 := (HB.out.cell (World.block_lt_of_cell? w _ hx148_3)).trans hx148_3
                have HR148_3 := Aside0.mk hi148_3
                have HC148_3 := Aside0.mk hl148_3
                clear hi148_3 hl148_3
                replace p148 := eq_true p148
                replace q148 := eq_true q148
                go_wp2_with (first | ((with_reducible refine gate_dst (N := 7) rfl ?_); refine box_event ?hg (N := 7) ?hd (cs := #[.int .i64 0, .int .i64 0, .int .i64 0, .slice none 0 0]) (t := 66) ?hr ?_; (case hd => rfl); (case hg => rfl); (case hr => first | (go_simp; done) | (go_simp; rfl)); intro gb149 hg w14 hbox hb; have n0_ := Aside0.mk (Kd.S_below (Kd.S_elderB (by (with_reducible repeat (first | apply Kd.S_alloc | apply Kd.S_drewN | apply Kd.S_drew)); exact HO_5.out) gb149 (Nat.le_of_eq hg.symm)) hb); have n1_ := Aside0.mk (blk_below (g := gb147) (o := .cells #[.int .i64 a1_0, .int .i64 a1_1, .int .i64 a1_2, .slice A1_3 l1_3.length c1_3] 66 (0, 0)) (by (with_reducible repeat (first | refine blk_drewN ?_ _ | refine blk_drew ?_ | refine blk_alloc ?_ _)); exact BK147.out) hb); have n2_ := Aside0.mk (below_step (by repeat (first | (with_reducible first | exact HB.out | apply below_alloc | apply pw_below_drewN | apply below_drew1 | refine below_set ?_ GE147.out) | exact HB.out)) hb); have n3_ := Aside0.mk (hbox); have n4_ := Aside0.mk ((by rw [hg]; exact (below_size (by repeat (first | (with_reducible first | exact HB.out | apply below_alloc | apply pw_below_drewN | apply below_drew1 | refine below_set ?_ GE147.out) | exact HB.out))) : w.heap.size ≤ gb149)); have n5_ := Aside0.mk ((by rw [hg]; exact (below_size (by repeat (first | (with_reducible first | exact HB.out | apply below_alloc | apply pw_below_drewN | apply below_drew1 | refine below_set ?_ GE147.out) | exact HB.out))) : w.heap.size ≤ gb149)); have n6_ := Aside0.mk ((by rw [hg]; exact Nat.ne_of_lt (blk_lt (g := gb147) (o := .cells #[.int .i64 a1_0, .int .i64 a1_1, .int .i64 a1_2, .slice A1_3 l1_3.length c1_3] 66 (0, 0)) (by (with_reducible repeat (first | refine blk_drewN ?_ _ | refine blk_drew ?_ | refine blk_alloc ?_ _)); exact BK147.out)) : gb147 ≠ gb149)); have n7_ := Aside0.mk ((by rw [hg]; exact Nat.ne_of_gt (blk_lt (g := gb147) (o := .cells #[.int .i64 a1_0, .int .i64 a1_1, .int .i64 a1_2, .slice A1_3 l1_3.length c1_3] 66 (0, 0)) (by (with_reducible repeat (first | refine blk_drewN ?_ _ | refine blk_drew ?_ | refine blk_alloc ?_ _)); exact BK147.out)) : gb149 ≠ gb147)); clear HO_5; clear BK147; clear HB; have HO_5 := n0_; have BK147 := n1_; have HB := n2_; have BK149 := n3_; have GW149 := n4_; have GE149 := n5_; have NB147_149 := n6_; have NB149_147 := n7_; clear n0_ n1_ n2_ n3_ n4_ n5_ n6_ n7_; clear hb hbox hg; have hnb15 := NB149_147.out; have hnc15 := NB147_149.out; have hcz16_0 : w14.cell? ⟨gb149, 0, none⟩ = some (.int .i64 0) := (blk_cell BK149.out 0).trans rfl; have hcz16_1 : w14.cell? ⟨gb149, 1, none⟩ = some (.int .i64 0) := (blk_cell BK149.out 1).trans rfl; have hcz16_2 : w14.cell? ⟨gb149, 2, none⟩ = some (.int .i64 0) := (blk_cell BK149.out 2).trans rfl; have hcz16_3 : w14.cell? ⟨gb149, 3, none⟩ = some (.slice none 0 0) := (blk_cell BK149.out 3).trans rfl; have hfz16_0 := blk_frozen BK149.out 0; have hfz16_1 := blk_frozen BK149.out 1; have hfz16_2 := blk_frozen BK149.out 2; have hfz16_3 := blk_frozen BK149.out 3; have hcz17_0 : w14.cell? ⟨gb147, 0, none⟩ = some (.int .i64 a1_0) := (blk_cell BK147.out 0).trans rfl; have hcz17_1 : w14.cell? ⟨gb147, 1, none⟩ = some (.int .i64 a1_1) := (blk_cell BK147.out 1).trans rfl; have hcz17_2 : w14.cell? ⟨gb147, 2, none⟩ = some (.int .i64 a1_2) := (blk_cell BK147.out 2).trans rfl; have hcz17_3 : w14.cell? ⟨gb147, 3, none⟩ = some (.slice A1_3 l1_3.length c1_3) := (blk_cell BK147.out 3).trans rfl; have hfz17_0 := blk_frozen BK147.out 0; have hfz17_1 := blk_frozen BK147.out 1; have hfz17_2 := blk_frozen BK147.out 2; have hfz17_3 := blk_frozen BK147.out 3) | ((with_reducible refine gate_callee (f := 54) rfl ?_); refine goesL_ (some 21) rfl rfl Try.func54 (by kernel_rfl) rfl #[.agg #[.int .i64 ((rd_T66 l0 x10_1).f0), .int .i64 ((rd_T66 l0 x10_1).f1), .int .i64 ((rd_T66 l0 x10_1).f2), .slice A148_3 ((rd_T66 l0 x10_1).f3).length c148_3]] rfl (by (try simp only [List.map_toArray, List.map_cons, List.map_nil]); first | done | rfl | (simp only [List.length_drop, List.length_take]; rfl)) ?_; (with_reducible refine (quorum_vote_own.calls ((rd_T66 l0 x10_1).f0) ((rd_T66 l0 x10_1).f1) ((rd_T66 l0 x10_1).f2) _ _ ((rd_T66 l0 x10_1).f3) t150 t151 t152 t153 _ ?side1 ?side2 A12.out).mono ?_); (case side1 => exact Kd.C_below HR148_3.out (by repeat (first | (with_reducible first | exact HB.out | apply below_alloc | apply pw_below_drewN | apply below_drew1 | refine below_set ?_ GE147.out | refine below_set ?_ GE149.out) | exact HB.out))); (case side2 => exact HC148_3.out); rintro e w18 ⟨v154, rfl, ho0, hb⟩; refine ⟨_, rfl, ?_⟩; have n0_ := Aside0.mk (Kd.S_elder' (by (with_reducible repeat (first | apply Kd.S_alloc | apply Kd.S_drewN | apply Kd.S_drew)); exact (Kd.S_mono (Kd.S_far (p := ⟨gb149, 3, none⟩) (Kd.S_far (p := ⟨gb149, 2, none⟩) (Kd.S_far (p := ⟨gb149, 1, none⟩) (Kd.S_far (p := ⟨gb149, 0, none⟩) (Kd.S_mono HO_5.out (fun k_ hk => (⟨hk, hk.2⟩ : _ ∧ k_ ≠ gb149))) (fun _ hk => hk.2) (.int .i64 ((rd_T66 l0 x10_1).f0))) (fun _ hk => hk.2) (.int .i64 ((rd_T66 l0 x10_1).f1))) (fun _ hk => hk.2) (.int .i64 ((rd_T66 l0 x10_1).f2))) (fun _ hk => hk.2) (.slice A148_3 ((rd_T66 l0 x10_1).f3).length c148_3)) (fun _ h_ => h_.1))) (Kd.R_base ho0) hb); have n1_ := Aside0.mk (Kd.R_lower ho0 (below_size (by repeat (first | (with_reducible first | exact HB.out | apply below_alloc | apply pw_below_drewN | apply below_drew1 | refine below_set ?_ GE147.out | refine below_set ?_ GE149.out) | exact HB.out)))); have n2_ := Aside0.mk (blk_below (g := gb147) (o := .cells #[.int .i64 a1_0, .int .i64 a1_1, .int .i64 a1_2, .slice A1_3 l1_3.length c1_3] 66 (0, 0)) (by (with_reducible repeat (first | refine blk_drewN ?_ _ | refine blk_drew ?_ | refine blk_alloc ?_ _)); refine blk_far ?_ NB147_149.out _; (with_reducible repeat (first | refine blk_drewN ?_ _ | refine blk_drew ?_ | refine blk_alloc ?_ _)); refine blk_far ?_ NB147_149.out _; (with_reducible repeat (first | refine blk_drewN ?_ _ | refine blk_drew ?_ | refine blk_alloc ?_ _)); refine blk_far ?_ NB147_149.out _; (with_reducible repeat (first | refine blk_drewN ?_ _ | refine blk_drew ?_ | refine blk_alloc ?_ _)); refine blk_far ?_ NB147_149.out _; (with_reducible repeat (first | refine blk_drewN ?_ _ | refine blk_drew ?_ | refine blk_alloc ?_ _)); exact BK147.out) hb); have n3_ := Aside0.mk (blk_below (g := gb149) (o := .cells #[.int .i64 ((rd_T66 l0 x10_1).f0), .int .i64 ((rd_T66 l0 x10_1).f1), .int .i64 ((rd_T66 l0 x10_1).f2), .slice A148_3 ((rd_T66 l0 x10_1).f3).length c148_3] 66 (0, 0)) (by (with_reducible repeat (first | refine blk_drewN ?_ _ | refine blk_drew ?_ | refine blk_alloc ?_ _)); refine blk_put (cs := #[.int .i64 ((rd_T66 l0 x10_1).f0), .int .i64 ((rd_T66 l0 x10_1).f1), .int .i64 ((rd_T66 l0 x10_1).f2), .slice none 0 0]) ?_ 3 _ rfl; (with_reducible repeat (first | refine blk_drewN ?_ _ | refine blk_drew ?_ | refine blk_alloc ?_ _)); refine blk_put (cs := #[.int .i64 ((rd_T66 l0 x10_1).f0), .int .i64 ((rd_T66 l0 x10_1).f1), .int .i64 0, .slice none 0 0]) ?_ 2 _ rfl; (with_reducible repeat (first | refine blk_drewN ?_ _ | refine blk_drew ?_ | refine blk_alloc ?_ _)); refine blk_put (cs := #[.int .i64 ((rd_T66 l0 x10_1).f0), .int .i64 0, .int .i64 0, .slice none 0 0]) ?_ 1 _ rfl; (with_reducible repeat (first | refine blk_drewN ?_ _ | refine blk_drew ?_ | refine blk_alloc ?_ _)); refine blk_put (cs := #[.int .i64 0, .int .i64 0, .int .i64 0, .slice none 0 0]) ?_ 0 _ rfl; (with_reducible repeat (first | refine blk_drewN ?_ _ | refine blk_drew ?_ | refine blk_alloc ?_ _)); exact BK149.out) hb); have n4_ := Aside0.mk (below_step (by repeat (first | (with_reducible first | exact HB.out | apply below_alloc | apply pw_below_drewN | apply below_drew1 | refine below_set ?_ GE147.out | refine below_set ?_ GE149.out) | exact HB.out)) hb); clear HO_5; clear BK147; clear BK149; clear HB; have HO_5 := n0_; have HO155 := n1_; have BK147 := n2_; have BK149 := n3_; have HB := n4_; clear n0_ n1_ n2_ n3_ n4_; (try clear hb); (try clear hb2); (try clear hk); (try clear hi); (try clear ho0); obtain ⟨Ao20, co20, eo20⟩ := Kd.R_slice HO155.out; subst eo20) | ((with_reducible refine gate_builtin (b := .append) (xs := #[.tmp 19, .tmp 22]) rfl ?_); at_builtin; refine Kd.S_append k66 (w0 := w) w.heap.size rfl (.tmp 19) (.tmp 22) 24 66 (.agg #[(.int .i64 0), (.int .i64 0), (.int .i64 0), (.slice none 0 0)]) 48 rfl Try.underlying24 info66 rfl (by decide) (by omega) u5 x5_1 (⟨t150, t151, t152, t153⟩ : S66) [.int .i64 t150, .int .i64 t151, .int .i64 t152, .slice Ao20 t153.length co20] (fun k_ => k_ ≠ gb147 ∧ k_ ≠ gb149) (fun k_ => some k_ = (.slice Ao20 t153.length co20 : Value).ownBlock) rfl rfl ?aP (fun k_ hk_ => ((Kd.R_mono (ok' := fun k_ => ((fun k_ => k_ ≠ gb147 ∧ k_ ≠ gb149)) k_ ∧ some k_ ≠ (u5 : Value).ownBlock) (Kd.R_types (Kd.R_types (Kd.R_apart' (HO155.out) (Kd.S_typed HO_5.out) (by decide)) BK147.out (by decide)) BK149.out (by decide)) (fun k_ hk => ⟨⟨hk.1.2, hk.2⟩, hk.1.1.2⟩))).1 k_ hk_.symm) ?aF ?aO ?aB ?aS ?aL ?_; (case aP => exact k66_mkM _ _ _ (⟨t150, t151, t152, t153⟩ : S66) (Kd.R_mono (Kd.R_tight rfl (Kd.R_mono (ok' := fun k_ => ((fun k_ => k_ ≠ gb147 ∧ k_ ≠ gb149)) k_ ∧ some k_ ≠ (u5 : Value).ownBlock) (Kd.R_types (Kd.R_types (Kd.R_apart' (HO155.out) (Kd.S_typed HO_5.out) (by decide)) BK147.out (by decide)) BK149.out (by decide)) (fun k_ hk => ⟨⟨hk.1.2, hk.2⟩, hk.1.1.2⟩))) (fun _ h_ => h_))); (case aB => exact (by repeat (first | (with_reducible first | exact HB.out | apply below_alloc | apply pw_below_drewN | apply below_drew1 | refine below_set ?_ GE147.out | refine below_set ?_ GE149.out) | exact HB.out))); (case aF => exact (fun k_ hk => ⟨Kd.freshB (g := gb147) (o := .cells #[.int .i64 a1_0, .int .i64 a1_1, .int .i64 a1_2, .slice A1_3 l1_3.length c1_3] 66 (0, 0)) (by (with_reducible repeat (first | refine blk_drewN ?_ _ | refine blk_drew ?_ | refine blk_alloc ?_ _)); exact BK147.out) k_ hk, Kd.freshB (g := gb149) (o := .cells #[.int .i64 ((rd_T66 l0 x10_1).f0), .int .i64 ((rd_T66 l0 x10_1).f1), .int .i64 ((rd_T66 l0 x10_1).f2), .slice A148_3 ((rd_T66 l0 x10_1).f3).length c148_3] 66 (0, 0)) (by (with_reducible repeat (first | refine blk_drewN ?_ _ | refine blk_drew ?_ | refine blk_alloc ?_ _)); exact BK149.out) k_ hk⟩)); (case aO => exact (by (with_reducible repeat (first | apply Kd.S_alloc | apply Kd.S_drewN | apply Kd.S_drew)); exact Kd.S_mono HO_5.out (fun k_ hk => ⟨⟨hk.1.1, hk.1.2⟩, fun e_ => hk.2 e_⟩))); (case aS => exact (below_size (by repeat (first | (with_reducible first | exact HB.out | apply below_alloc | apply pw_below_drewN | apply below_drew1 | refine below_set ?_ GE147.out | refine below_set ?_ GE149.out) | exact HB.out)))); (case aL => have := LMc13.out; omega); intro v157 w19 ho hb hg hat; rw [← Ny156.out] at ho; have n0_ := Aside0.mk (blk_grown (g := gb147) (o := .cells #[.int .i64 a1_0, .int .i64 a1_1, .int .i64 a1_2, .slice A1_3 l1_3.length c1_3] 66 (0, 0)) (by (with_reducible repeat (first | refine blk_drewN ?_ _ | refine blk_drew ?_ | refine blk_alloc ?_ _)); exact BK147.out) hg (Kd.S_away HO_5.out (fun _ hk => hk.1.1))); have n1_ := Aside0.mk (blk_grown (g := gb149) (o := .cells #[.int .i64 ((rd_T66 l0 x10_1).f0), .int .i64 ((rd_T66 l0 x10_1).f1), .int .i64 ((rd_T66 l0 x10_1).f2), .slice A148_3 ((rd_T66 l0 x10_1).f3).length c148_3] 66 (0, 0)) (by (with_reducible repeat (first | refine blk_drewN ?_ _ | refine blk_drew ?_ | refine blk_alloc ?_ _)); exact BK149.out) hg (Kd.S_away HO_5.out (fun _ hk => hk.1.2))); have n2_ := Aside0.mk (hb); have n3_ := Aside0.mk (ho); clear BK147; clear BK149; clear HB; clear HO_5; clear HO155; have BK147 := n0_; have BK149 := n1_; have HB := n2_; have HO158 := n3_; clear n0_ n1_ n2_ n3_; clear ho hb hg hat))
                go_roundg k1
                case measure => have := HK1.out; omega
                case rel => exact ⟨(y156), (wrap64 (x10_1 + 1)), (by first | rfl | (simp; done) | (simp [*]; done)), H', ⟨by have := HK1.out; omega⟩, ⟨by (with_reducible repeat (first | apply Kd.S_alloc | apply Kd.S_drewN | apply Kd.S_drew)); exact Kd.S_mono HO158.out (fun _ hk => hk.1)⟩, ⟨by (with_reducible repeat (first | refine blk_drewN ?_ _ | refine blk_drew ?_ | refine blk_alloc ?_ _)); exact BK147.out⟩, ⟨by repeat (first | (with_reducible first | exact HB.out | apply below_alloc | apply pw_below_drewN | apply below_drew1 | refine below_set ?_ GE147.out | refine below_set ?_ GE149.out) | exact HB.out)⟩⟩
              · rw [if_neg c13] at H
                exact absurd H (by simp)
          · rw [if_neg c6] at H
            exact absurd H (by simp)
        · rw [if_neg c5] at H
          exact absurd H (by simp)
      · rw [if_neg c4] at H
        have c4b0 : decide (x10_1 < (l0.length : Int)) = false := decide_eq_false c4
        clear c4
        replace H := Option.bind_eq_some_iff.mp H
        obtain ⟨⟨t159, t160, t161, t162⟩, A210, H⟩ := H
        replace H : (if x5_1.length < 2932031007402 then (some (x5_1 ++ [(⟨t159, t160, t161, t162⟩ : S66)])) else (none)) = some r := H
        have A21 := Aside0.mk A210
        clear A210
        by_cases c22 : x5_1.length < 2932031007402
        · rw [if_pos c22] at H
          have LMc22 := Aside0.mk c22
          clear c22
          obtain ⟨y165, hy165⟩ : ∃ y_ : List (S66), y_ = (x5_1 ++ [(⟨t159, t160, t161, t162⟩ : S66)]) := ⟨_, rfl⟩
          replace H : (some y165) = some r := by first | (rw [hy165]; with_reducible exact H) | (have H2_ := (Option.bind_some _ _).symm.trans H; rw [hy165]; with_reducible exact H2_) | (have H2_ := (Option.bind_some _ _).symm.trans H; with_reducible exact H2_) | with_reducible exact H | (rw [hy165]; exact H) | exact H
          have Ny165 := Aside0.mk hy165
          clear hy165
          obtain rfl := Option.some.inj H
          have hcz23_0 : wr.cell? ⟨gb147, 0, none⟩ = some (.int .i64 a1_0) := (blk_cell BK147.out 0).trans rfl
          have hcz23_1 : wr.cell? ⟨gb147, 1, none⟩ = some (.int .i64 a1_1) := (blk_cell BK147.out 1).trans rfl
          have hcz23_2 : wr.cell? ⟨gb147, 2, none⟩ = some (.int .i64 a1_2) := (blk_cell BK147.out 2).trans rfl
          have hcz23_3 : wr.cell? ⟨gb147, 3, none⟩ = some (.slice A1_3 l1_3.length c1_3) := (blk_cell BK147.out 3).trans rfl
          have hfz23_0 := blk_frozen BK147.out 0
          have hfz23_1 := blk_frozen BK147.out 1
          have hfz23_2 := blk_frozen BK147.out 2
          have hfz23_3 := blk_frozen BK147.out 3
          go_wp2_with (first | ((with_reducible refine gate_callee (f := 54) rfl ?_); refine goesL_ (some 27) rfl rfl Try.func54 (by kernel_rfl) rfl #[.agg #[.int .i64 a1_0, .int .i64 a1_1, .int .i64 a1_2, .slice A1_3 l1_3.length c1_3]] rfl (by (try simp only [List.map_toArray, List.map_cons, List.map_nil]); first | done | rfl | (simp only [List.length_drop, List.length_take]; rfl)) ?_; (with_reducible refine (quorum_vote_own.calls a1_0 a1_1 a1_2 _ _ l1_3 t159 t160 t161 t162 _ ?side1 ?side2 A21.out).mono ?_); (case side1 => repeat (first | exact (Kd.C_below HR1_3.out HB.out) | (with_reducible refine Kd.C_alloc ?_ _) | (with_reducible refine Kd.C_drewN ?_ _) | (with_reducible refine Kd.C_drew ?_))); (case side2 => exact HC1_3.out); rintro e w24 ⟨v163, rfl, ho0, hb⟩; refine ⟨_, rfl, ?_⟩; have n0_ := Aside0.mk (Kd.S_elder' (by (with_reducible repeat (first | apply Kd.S_alloc | apply Kd.S_drewN | apply Kd.S_drew)); exact HO_5.out) (Kd.R_base ho0) hb); have n1_ := Aside0.mk (Kd.R_lower ho0 (below_size (by repeat (first | (with_reducible first | exact HB.out | apply below_alloc | apply pw_below_drewN | apply below_drew1 | refine below_set ?_ GE147.out) | exact HB.out)))); have n2_ := Aside0.mk (blk_below (g := gb147) (o := .cells #[.int .i64 a1_0, .int .i64 a1_1, .int .i64 a1_2, .slice A1_3 l1_3.length c1_3] 66 (0, 0)) (by (with_reducible repeat (first | refine blk_drewN ?_ _ | refine blk_drew ?_ | refine blk_alloc ?_ _)); exact BK147.out) hb); have n3_ := Aside0.mk (below_step (by repeat (first | (with_reducible first | exact HB.out | apply below_alloc | apply pw_below_drewN | apply below_drew1 | refine below_set ?_ GE147.out) | exact HB.out)) hb); clear HO_5; clear BK147; clear HB; have HO_5 := n0_; have HO164 := n1_; have BK147 := n2_; have HB := n3_; clear n0_ n1_ n2_ n3_; (try clear hb); (try clear hb2); (try clear hk); (try clear hi); (try clear ho0); obtain ⟨Ao26, co26, eo26⟩ := Kd.R_slice HO164.out; subst eo26) | ((with_reducible refine gate_builtin (b := .append) (xs := #[.tmp 25, .tmp 28]) rfl ?_); at_builtin; refine Kd.S_append k66 (w0 := w) w.heap.size rfl (.tmp 25) (.tmp 28) 24 66 (.agg #[(.int .i64 0), (.int .i64 0), (.int .i64 0), (.slice none 0 0)]) 48 rfl Try.underlying24 info66 rfl (by decide) (by omega) u5 x5_1 (⟨t159, t160, t161, t162⟩ : S66) [.int .i64 t159, .int .i64 t160, .int .i64 t161, .slice Ao26 t162.length co26] (fun k_ => k_ ≠ gb147) (fun k_ => some k_ = (.slice Ao26 t162.length co26 : Value).ownBlock) rfl rfl ?aP (fun k_ hk_ => ((Kd.R_mono (ok' := fun k_ => ((fun k_ => k_ ≠ gb147)) k_ ∧ some k_ ≠ (u5 : Value).ownBlock) (Kd.R_types (Kd.R_apart' (HO164.out) (Kd.S_typed HO_5.out) (by decide)) BK147.out (by decide)) (fun k_ hk => ⟨hk.2, hk.1.2⟩))).1 k_ hk_.symm) ?aF ?aO ?aB ?aS ?aL ?_; (case aP => exact k66_mkM _ _ _ (⟨t159, t160, t161, t162⟩ : S66) (Kd.R_mono (Kd.R_tight rfl (Kd.R_mono (ok' := fun k_ => ((fun k_ => k_ ≠ gb147)) k_ ∧ some k_ ≠ (u5 : Value).ownBlock) (Kd.R_types (Kd.R_apart' (HO164.out) (Kd.S_typed HO_5.out) (by decide)) BK147.out (by decide)) (fun k_ hk => ⟨hk.2, hk.1.2⟩))) (fun _ h_ => h_))); (case aB => exact (by repeat (first | (with_reducible first | exact HB.out | apply below_alloc | apply pw_below_drewN | apply below_drew1 | refine below_set ?_ GE147.out) | exact HB.out))); (case aF => exact (fun k_ hk => Kd.freshB (g := gb147) (o := .cells #[.int .i64 a1_0, .int .i64 a1_1, .int .i64 a1_2, .slice A1_3 l1_3.length c1_3] 66 (0, 0)) (by (with_reducible repeat (first | refine blk_drewN ?_ _ | refine blk_drew ?_ | refine blk_alloc ?_ _)); exact BK147.out) k_ hk)); (case aO => exact (by (with_reducible repeat (first | apply Kd.S_alloc | apply Kd.S_drewN | apply Kd.S_drew)); exact Kd.S_mono HO_5.out (fun k_ hk => ⟨hk.1, fun e_ => hk.2 e_⟩))); (case aS => exact (below_size (by repeat (first | (with_reducible first | exact HB.out | apply below_alloc | apply pw_below_drewN | apply below_drew1 | refine below_set ?_ GE147.out) | exact HB.out)))); (case aL => have := LMc22.out; omega); intro v166 w25 ho hb hg hat; rw [← Ny165.out] at ho; have n0_ := Aside0.mk (blk_grown (g := gb147) (o := .cells #[.int .i64 a1_0, .int .i64 a1_1, .int .i64 a1_2, .slice A1_3 l1_3.length c1_3] 66 (0, 0)) (by (with_reducible repeat (first | refine blk_drewN ?_ _ | refine blk_drew ?_ | refine blk_alloc ?_ _)); exact BK147.out) hg (Kd.S_away HO_5.out (fun _ hk => hk.1))); have n1_ := Aside0.mk (hb); have n2_ := Aside0.mk (ho); clear BK147; clear HB; clear HO_5; clear HO164; have BK147 := n0_; have HB := n1_; have HO167 := n2_; clear n0_ n1_ n2_; clear ho hb hg hat))
          go_ret
          exact ⟨_, by first | rfl | (simp [errW_none, errW_some] <;> rfl) | (simp [*, errW_none, errW_some] <;> rfl), by (with_reducible repeat (first | apply Kd.S_alloc | apply Kd.S_drewN | apply Kd.S_drew)); exact Kd.S_mono HO167.out (fun _ hk => trivial), by repeat (first | (with_reducible first | exact HB.out | apply below_alloc | apply pw_below_drewN | apply below_drew1 | refine below_set ?_ GE147.out) | exact HB.out)⟩
        · rw [if_neg c22] at H
          exact absurd H (by simp)
def slices_Clone_int_int.f (l0 : List Int) : Option (List Int) := if l0.length < 4398046511104 then some l0 else none
set_option maxHeartbeats 8000000 in
set_option maxRecDepth 100000 in
theorem slices_Clone_int_int.calls (A0 : Option Addr) (c0 : Nat) (l0 : List Int) (r : List Int) (w : World) (hr0 : Kd.C (Kd.int .i64) w A0 l0.length l0) (hc0 : l0.length ≤ c0) (h : slices_Clone_int_int.f l0 = some r) :
    Calls Try.prog 43 #[.slice A0 l0.length c0] w fun e w' => ∃ v0_ : Value, e = .returned (v0_) ∧ Kd.R (Kd.int .i64) 3 w' w.heap.size (fun _ => True) v0_ r ∧ Below w.heap.size w w' := by
  unfold slices_Clone_int_int.f at h
  split at h
  case isFalse => cases h
  rename_i hl
  obtain rfl := Option.some.inj h
  have HR := Aside0.mk hr0
  have HL := Aside0.mk hl
  have he := x_eql_nil (P := Try.prog) 23 3 Try.underlying23
  rcases A0 with _ | ad
  · have h0 : l0 = [] := List.eq_nil_of_length_eq_zero (by
      rcases Nat.eq_zero_or_pos l0.length with h | h
      · exact h
      · obtain ⟨ad, h, _⟩ := hr0.2.2 h
        cases h)
    subst h0
    clear hr0 h hl HR
    go_enter Try.func43, Try.ntmps43
    go_wp2
    go_ret
    exact ⟨_, rfl, Kd.R_nil _ _ _ _ _, Below.refl _ _⟩
  · clear hr0 h hl
    go_enter Try.func43, Try.ntmps43
    go_wp2_with (first | ((with_reducible refine gate_builtin (b := .append) (xs := #[.tmp 5, .tmp 6]) rfl ?_); at_builtin; refine Kd.R_append_rows (Kd.int .i64) (w0 := w) w.heap.size rfl (.tmp 5) (.tmp 6) 23 3 (.int .i64 0) 8 rfl Try.underlying23 info3 rfl (by decide) (by omega) (.slice (some ⟨w.heap.size, 0, none⟩) 0 0) ([] : List Int) l0 _ _ _ (fun _ => True) (fun _ => False) rfl rfl ?aO ?aR (fun _ _ h => h) (fun _ h => h.elim) ?aF ?aB ?aS ?aL ?_; (case aR => exact Kd.C_alloc HR.out _); (case aB => exact below_alloc (Below.refl _ _) _); (case aF => exact (fun _ _ => trivial)); (case aO => exact Kd.R_empty _ _ _ _ _ (Nat.le_refl _) trivial); (case aS => exact (by simp)); (case aL => have := HL.out; simp; omega); intro v1 w1 ho hb hg hat; have HO := Aside0.mk ho; have HB := Aside0.mk hb; clear ho hb hg hat))
    go_ret
    exact ⟨_, rfl, HO.out, HB.out⟩
def replica_New.f (a0 : Int) (a1 : Int) : Option (Int × Int × Int × Int × Bool × Int × List ByteArray × List Int × (List (S66)) × Int) := (replica_size.f a1).bind fun t169 => (if t169 = true then (if a0 < 0 then (some (0, 0, 0, 0, false, 0, ([] : List ByteArray), ([] : List Int), ([] : List (S66)), 1)) else (if a0 ≥ a1 then (some (0, 0, 0, 0, false, 0, ([] : List ByteArray), ([] : List Int), ([] : List (S66)), 1)) else (if 0 ≤ a1 then (if (a1 : Int).toNat ≤ 35184372088832 then (some (a0, a1, 0, 0, true, 0, ([] : List ByteArray), (List.replicate (a1 : Int).toNat 0), ([] : List (S66)), 0)) else (none)) else (none)))) else (some (0, 0, 0, 0, false, 0, ([] : List ByteArray), ([] : List Int), ([] : List (S66)), 1)))
set_option maxHeartbeats 8000000 in
set_option maxRecDepth 100000 in
theorem replica_New.calls (a0 : Int) (a1 : Int) (r1 : Int) (r2 : Int) (r3 : Int) (r4 : Int) (r5 : Bool) (r6 : Int) (r7 : List ByteArray) (r8 : List Int) (r9 : List (S66)) (r10 : Int) (w : World) (h : replica_New.f a0 a1 = some (r1, r2, r3, r4, r5, r6, r7, r8, r9, r10)) :
    Calls Try.prog 11 #[.int .i64 a0, .int .i64 a1] w fun e w' => ∃ v6_ v7_ v8_ : Value, e = .returned (.tuple #[.agg #[.int .i64 r1, .int .i64 r2, .int .i64 r3, .int .i64 r4, .bool r5, .int .i64 r6, v6_, v7_, v8_], .int .i64 r10]) ∧ Kd.R Kd.string 9 w' w.heap.size (fun _ => True) v6_ r7 ∧ Kd.R (Kd.int .i64) 3 w' w.heap.size (fun _ => True) v7_ r8 ∧ Kd.S k66 66 w' w.heap.size (fun k_ => some k_ ≠ (v6_ : Value).ownBlock) v8_ r9 ∧ Below w.heap.size w w' := by
  have hu26 := Try.underlying26
  have HB := Aside0.mk (Below.refl w.heap.size w)
  have H : ((replica_size.f a1).bind fun t169 => (if t169 = true then (if a0 < 0 then (some (0, 0, 0, 0, false, 0, ([] : List ByteArray), ([] : List Int), ([] : List (S66)), 1)) else (if a0 ≥ a1 then (some (0, 0, 0, 0, false, 0, ([] : List ByteArray), ([] : List Int), ([] : List (S66)), 1)) else (if 0 ≤ a1 then (if (a1 : Int).toNat ≤ 35184372088832 then (some (a0, a1, 0, 0, true, 0, ([] : List ByteArray), (List.replicate (a1 : Int).toNat 0), ([] : List (S66)), 0)) else (none)) else (none)))) else (some (0, 0, 0, 0, false, 0, ([] : List ByteArray), ([] : List Int), ([] : List (S66)), 1)))) = some (r1, r2, r3, r4, r5, r6, r7, r8, r9, r10) := h
  clear h
  replace H := Option.bind_eq_some_iff.mp H
  obtain ⟨t169, A30, H⟩ := H
  replace H : (if t169 = true then (if a0 < 0 then (some (0, 0, 0, 0, false, 0, ([] : List ByteArray), ([] : List Int), ([] : List (S66)), 1)) else (if a0 ≥ a1 then (some (0, 0, 0, 0, false, 0, ([] : List ByteArray), ([] : List Int), ([] : List (S66)), 1)) else (if 0 ≤ a1 then (if (a1 : Int).toNat ≤ 35184372088832 then (some (a0, a1, 0, 0, true, 0, ([] : List ByteArray), (List.replicate (a1 : Int).toNat 0), ([] : List (S66)), 0)) else (none)) else (none)))) else (some (0, 0, 0, 0, false, 0, ([] : List ByteArray), ([] : List Int), ([] : List (S66)), 1))) = some (r1, r2, r3, r4, r5, r6, r7, r8, r9, r10) := H
  have A3 := Aside0.mk A30
  clear A30
  by_cases c4 : t169 = true
  · subst c4
    have H1 : (if a0 < 0 then (some (0, 0, 0, 0, false, 0, ([] : List ByteArray), ([] : List Int), ([] : List (S66)), 1)) else (if a0 ≥ a1 then (some (0, 0, 0, 0, false, 0, ([] : List ByteArray), ([] : List Int), ([] : List (S66)), 1)) else (if 0 ≤ a1 then (if (a1 : Int).toNat ≤ 35184372088832 then (some (a0, a1, 0, 0, true, 0, ([] : List ByteArray), (List.replicate (a1 : Int).toNat 0), ([] : List (S66)), 0)) else (none)) else (none)))) = some (r1, r2, r3, r4, r5, r6, r7, r8, r9, r10) := by rw [if_pos rfl] at H; exact H
    clear H
    have H := H1
    clear H1
    by_cases c5 : a0 < 0
    · rw [if_pos c5] at H
      have c5b0 : decide (a0 < 0) = true := decide_eq_true c5
      clear c5
      simp only [Option.some.injEq, Prod.mk.injEq] at H
      obtain ⟨rfl, rfl, rfl, rfl, rfl, rfl, rfl, rfl, rfl, rfl⟩ := H
      go_enter Try.func11, Try.ntmps11
      go_wp2_with (first | ((with_reducible refine gate_dst (N := 4) rfl ?_); refine box_event ?hg (N := 4) ?hd (cs := #[.int .i64 0, .int .i64 0, .int .i64 0, .int .i64 0, .bool false, .int .i64 0, .slice none 0 0, .slice none 0 0, .slice none 0 0]) (t := 26) ?hr ?_; (case hd => rfl); (case hg => rfl); (case hr => first | (go_simp; done) | (go_simp; rfl)); intro gb168 hg w6 hbox hb; have n0_ := Aside0.mk (below_step (by repeat (first | (with_reducible first | exact HB.out | apply below_alloc | apply pw_below_drewN | apply below_drew1) | exact HB.out)) hb); have n1_ := Aside0.mk (hbox); have n2_ := Aside0.mk ((by rw [hg]; exact (below_size (by repeat (first | (with_reducible first | exact HB.out | apply below_alloc | apply pw_below_drewN | apply below_drew1) | exact HB.out))) : w.heap.size ≤ gb168)); have n3_ := Aside0.mk ((by rw [hg]; exact (below_size (by repeat (first | (with_reducible first | exact HB.out | apply below_alloc | apply pw_below_drewN | apply below_drew1) | exact HB.out))) : w.heap.size ≤ gb168)); clear HB; have HB := n0_; have BK168 := n1_; have GW168 := n2_; have GE168 := n3_; clear n0_ n1_ n2_ n3_; clear hb hbox hg) | ((with_reducible refine gate_callee (f := 28) rfl ?_); refine goesL_ (some 7) rfl rfl Try.func28 (by kernel_rfl) rfl #[.int .i64 a1] rfl (by (try simp only [List.map_toArray, List.map_cons, List.map_nil]); first | done | rfl | (simp only [List.length_drop, List.length_take]; rfl)) ?_; (with_reducible refine (replica_size.calls a1 true _ A3.out).mono ?_); rintro e w' ⟨rfl, ⟨nd, rfl⟩⟩; refine ⟨_, rfl, ?_⟩; (try (rw [drewN_self w6]; generalize hq_ : World.drewN w6 _ = w6; have n0_ : Aside0 (w6.heap[gb168]? = some (.cells #[.int .i64 0, .int .i64 0, .int .i64 0, .int .i64 0, .bool false, .int .i64 0, .slice none 0 0, .slice none 0 0, .slice none 0 0] 26 (0, 0))) := ⟨by rw [← hq_]; exact (by (with_reducible repeat (first | refine blk_drewN ?_ _ | refine blk_drew ?_ | refine blk_alloc ?_ _)); exact BK168.out)⟩; have n1_ : Aside0 (Below w.heap.size w w6) := ⟨by rw [← hq_]; exact (by repeat (first | (with_reducible first | exact HB.out | apply below_alloc | apply pw_below_drewN | apply below_drew1 | refine below_set ?_ GE168.out) | exact HB.out))⟩; clear BK168 HB hq_; have BK168 := n0_; have HB := n1_; clear n0_ n1_)); have hcz7_0 : w6.cell? ⟨gb168, 0, none⟩ = some (.int .i64 0) := (blk_cell BK168.out 0).trans rfl; have hcz7_1 : w6.cell? ⟨gb168, 1, none⟩ = some (.int .i64 0) := (blk_cell BK168.out 1).trans rfl; have hcz7_2 : w6.cell? ⟨gb168, 2, none⟩ = some (.int .i64 0) := (blk_cell BK168.out 2).trans rfl; have hcz7_3 : w6.cell? ⟨gb168, 3, none⟩ = some (.int .i64 0) := (blk_cell BK168.out 3).trans rfl; have hcz7_4 : w6.cell? ⟨gb168, 4, none⟩ = some (.bool false) := (blk_cell BK168.out 4).trans rfl; have hcz7_5 : w6.cell? ⟨gb168, 5, none⟩ = some (.int .i64 0) := (blk_cell BK168.out 5).trans rfl; have hcz7_6 : w6.cell? ⟨gb168, 6, none⟩ = some (.slice none 0 0) := (blk_cell BK168.out 6).trans rfl; have hcz7_7 : w6.cell? ⟨gb168, 7, none⟩ = some (.slice none 0 0) := (blk_cell BK168.out 7).trans rfl; have hcz7_8 : w6.cell? ⟨gb168, 8, none⟩ = some (.slice none 0 0) := (blk_cell BK168.out 8).trans rfl; have hfz7_0 := blk_frozen BK168.out 0; have hfz7_1 := blk_frozen BK168.out 1; have hfz7_2 := blk_frozen BK168.out 2; have hfz7_3 := blk_frozen BK168.out 3; have hfz7_4 := blk_frozen BK168.out 4; have hfz7_5 := blk_frozen BK168.out 5; have hfz7_6 := blk_frozen BK168.out 6; have hfz7_7 := blk_frozen BK168.out 7; have hfz7_8 := blk_frozen BK168.out 8))
      refine bodyPost_ret (results_ct rfl _ _ gb168 26 #[.int .i64 0, .int .i64 0, .int .i64 0, .int .i64 0, .bool false, .int .i64 0, .slice none 0 0, .slice none 0 0, .slice none 0 0] (0, 0) _ rfl (by (with_reducible repeat (first | refine blk_drewN ?_ _ | refine blk_drew ?_ | refine blk_alloc ?_ _)); refine blk_put (cs := #[.int .i64 0, .int .i64 0, .int .i64 0, .int .i64 0, .bool false, .int .i64 0, .slice none 0 0, .slice none 0 0, .slice none 0 0]) ?_ 8 _ rfl; (with_reducible repeat (first | refine blk_drewN ?_ _ | refine blk_drew ?_ | refine blk_alloc ?_ _)); refine blk_put (cs := #[.int .i64 0, .int .i64 0, .int .i64 0, .int .i64 0, .bool false, .int .i64 0, .slice none 0 0, .slice none 0 0, .slice none 0 0]) ?_ 7 _ rfl; (with_reducible repeat (first | refine blk_drewN ?_ _ | refine blk_drew ?_ | refine blk_alloc ?_ _)); refine blk_put (cs := #[.int .i64 0, .int .i64 0, .int .i64 0, .int .i64 0, .bool false, .int .i64 0, .slice none 0 0, .slice none 0 0, .slice none 0 0]) ?_ 6 _ rfl; (with_reducible repeat (first | refine blk_drewN ?_ _ | refine blk_drew ?_ | refine blk_alloc ?_ _)); refine blk_put (cs := #[.int .i64 0, .int .i64 0, .int .i64 0, .int .i64 0, .bool false, .int .i64 0, .slice none 0 0, .slice none 0 0, .slice none 0 0]) ?_ 5 _ rfl; (with_reducible repeat (first | refine blk_drewN ?_ _ | refine blk_drew ?_ | refine blk_alloc ?_ _)); refine blk_put (cs := #[.int .i64 0, .int .i64 0, .int .i64 0, .int .i64 0, .bool false, .int .i64 0, .slice none 0 0, .slice none 0 0, .slice none 0 0]) ?_ 4 _ rfl; (with_reducible repeat (first | refine blk_drewN ?_ _ | refine blk_drew ?_ | refine blk_alloc ?_ _)); refine blk_put (cs := #[.int .i64 0, .int .i64 0, .int .i64 0, .int .i64 0, .bool false, .int .i64 0, .slice none 0 0, .slice none 0 0, .slice none 0 0]) ?_ 3 _ rfl; (with_reducible repeat (first | refine blk_drewN ?_ _ | refine blk_drew ?_ | refine blk_alloc ?_ _)); refine blk_put (cs := #[.int .i64 0, .int .i64 0, .int .i64 0, .int .i64 0, .bool false, .int .i64 0, .slice none 0 0, .slice none 0 0, .slice none 0 0]) ?_ 2 _ rfl; (with_reducible repeat (first | refine blk_drewN ?_ _ | refine blk_drew ?_ | refine blk_alloc ?_ _)); refine blk_put (cs := #[.int .i64 0, .int .i64 0, .int .i64 0, .int .i64 0, .bool false, .int .i64 0, .slice none 0 0, .slice none 0 0, .slice none 0 0]) ?_ 1 _ rfl; (with_reducible repeat (first | refine blk_drewN ?_ _ | refine blk_drew ?_ | refine blk_alloc ?_ _)); refine blk_put (cs := #[.int .i64 0, .int .i64 0, .int .i64 0, .int .i64 0, .bool false, .int .i64 0, .slice none 0 0, .slice none 0 0, .slice none 0 0]) ?_ 0 _ rfl; (with_reducible repeat (first | refine blk_drewN ?_ _ | refine blk_drew ?_ | refine blk_alloc ?_ _)); exact BK168.out) Try.underlying26 rfl (by kernel_rfl)) rfl ?_
      exact ⟨_, _, _, by first | rfl | (simp [errW_none, errW_some] <;> rfl) | (simp [*, errW_none, errW_some] <;> rfl), by first | exact Kd.R_nil _ _ _ _ _ | exact Kd.N_nil _ _ _ _ _ | exact Kd.V_nil _ _ _ _ _ | exact Kd.Q_nil _ _ _ _ _ | exact Kd.S_nil _ _ _ _ _, by first | exact Kd.R_nil _ _ _ _ _ | exact Kd.N_nil _ _ _ _ _ | exact Kd.V_nil _ _ _ _ _ | exact Kd.Q_nil _ _ _ _ _ | exact Kd.S_nil _ _ _ _ _, by first | exact Kd.S_nil _ _ _ _ _ | exact Kd.N_nil _ _ _ _ _ | exact Kd.V_nil _ _ _ _ _ | exact Kd.Q_nil _ _ _ _ _ | exact Kd.R_nil _ _ _ _ _, by repeat (first | (with_reducible first | exact HB.out | apply below_alloc | apply pw_below_drewN | apply below_drew1 | refine below_set ?_ GE168.out) | exact HB.out)⟩
    · rw [if_neg c5] at H
      have c5b0 : decide (a0 < 0) = false := decide_eq_false c5
      clear c5
      by_cases c8 : a0 ≥ a1
      · rw [if_pos c8] at H
        have c8b0 : decide (a1 ≤ a0) = true := decide_eq_true c8
        clear c8
        simp only [Option.some.injEq, Prod.mk.injEq] at H
        obtain ⟨rfl, rfl, rfl, rfl, rfl, rfl, rfl, rfl, rfl, rfl⟩ := H
        go_enter Try.func11, Try.ntmps11
        go_wp2_with (first | ((with_reducible refine gate_dst (N := 4) rfl ?_); refine box_event ?hg (N := 4) ?hd (cs := #[.int .i64 0, .int .i64 0, .int .i64 0, .int .i64 0, .bool false, .int .i64 0, .slice none 0 0, .slice none 0 0, .slice none 0 0]) (t := 26) ?hr ?_; (case hd => rfl); (case hg => rfl); (case hr => first | (go_simp; done) | (go_simp; rfl)); intro gb168 hg w9 hbox hb; have n0_ := Aside0.mk (below_step (by repeat (first | (with_reducible first | exact HB.out | apply below_alloc | apply pw_below_drewN | apply below_drew1) | exact HB.out)) hb); have n1_ := Aside0.mk (hbox); have n2_ := Aside0.mk ((by rw [hg]; exact (below_size (by repeat (first | (with_reducible first | exact HB.out | apply below_alloc | apply pw_below_drewN | apply below_drew1) | exact HB.out))) : w.heap.size ≤ gb168)); have n3_ := Aside0.mk ((by rw [hg]; exact (below_size (by repeat (first | (with_reducible first | exact HB.out | apply below_alloc | apply pw_below_drewN | apply below_drew1) | exact HB.out))) : w.heap.size ≤ gb168)); clear HB; have HB := n0_; have BK168 := n1_; have GW168 := n2_; have GE168 := n3_; clear n0_ n1_ n2_ n3_; clear hb hbox hg) | ((with_reducible refine gate_callee (f := 28) rfl ?_); refine goesL_ (some 7) rfl rfl Try.func28 (by kernel_rfl) rfl #[.int .i64 a1] rfl (by (try simp only [List.map_toArray, List.map_cons, List.map_nil]); first | done | rfl | (simp only [List.length_drop, List.length_take]; rfl)) ?_; (with_reducible refine (replica_size.calls a1 true _ A3.out).mono ?_); rintro e w' ⟨rfl, ⟨nd, rfl⟩⟩; refine ⟨_, rfl, ?_⟩; (try (rw [drewN_self w9]; generalize hq_ : World.drewN w9 _ = w9; have n0_ : Aside0 (w9.heap[gb168]? = some (.cells #[.int .i64 0, .int .i64 0, .int .i64 0, .int .i64 0, .bool false, .int .i64 0, .slice none 0 0, .slice none 0 0, .slice none 0 0] 26 (0, 0))) := ⟨by rw [← hq_]; exact (by (with_reducible repeat (first | refine blk_drewN ?_ _ | refine blk_drew ?_ | refine blk_alloc ?_ _)); exact BK168.out)⟩; have n1_ : Aside0 (Below w.heap.size w w9) := ⟨by rw [← hq_]; exact (by repeat (first | (with_reducible first | exact HB.out | apply below_alloc | apply pw_below_drewN | apply below_drew1 | refine below_set ?_ GE168.out) | exact HB.out))⟩; clear BK168 HB hq_; have BK168 := n0_; have HB := n1_; clear n0_ n1_)); have hcz10_0 : w9.cell? ⟨gb168, 0, none⟩ = some (.int .i64 0) := (blk_cell BK168.out 0).trans rfl; have hcz10_1 : w9.cell? ⟨gb168, 1, none⟩ = some (.int .i64 0) := (blk_cell BK168.out 1).trans rfl; have hcz10_2 : w9.cell? ⟨gb168, 2, none⟩ = some (.int .i64 0) := (blk_cell BK168.out 2).trans rfl; have hcz10_3 : w9.cell? ⟨gb168, 3, none⟩ = some (.int .i64 0) := (blk_cell BK168.out 3).trans rfl; have hcz10_4 : w9.cell? ⟨gb168, 4, none⟩ = some (.bool false) := (blk_cell BK168.out 4).trans rfl; have hcz10_5 : w9.cell? ⟨gb168, 5, none⟩ = some (.int .i64 0) := (blk_cell BK168.out 5).trans rfl; have hcz10_6 : w9.cell? ⟨gb168, 6, none⟩ = some (.slice none 0 0) := (blk_cell BK168.out 6).trans rfl; have hcz10_7 : w9.cell? ⟨gb168, 7, none⟩ = some (.slice none 0 0) := (blk_cell BK168.out 7).trans rfl; have hcz10_8 : w9.cell? ⟨gb168, 8, none⟩ = some (.slice none 0 0) := (blk_cell BK168.out 8).trans rfl; have hfz10_0 := blk_frozen BK168.out 0; have hfz10_1 := blk_frozen BK168.out 1; have hfz10_2 := blk_frozen BK168.out 2; have hfz10_3 := blk_frozen BK168.out 3; have hfz10_4 := blk_frozen BK168.out 4; have hfz10_5 := blk_frozen BK168.out 5; have hfz10_6 := blk_frozen BK168.out 6; have hfz10_7 := blk_frozen BK168.out 7; have hfz10_8 := blk_frozen BK168.out 8))
        refine bodyPost_ret (results_ct rfl _ _ gb168 26 #[.int .i64 0, .int .i64 0, .int .i64 0, .int .i64 0, .bool false, .int .i64 0, .slice none 0 0, .slice none 0 0, .slice none 0 0] (0, 0) _ rfl (by (with_reducible repeat (first | refine blk_drewN ?_ _ | refine blk_drew ?_ | refine blk_alloc ?_ _)); refine blk_put (cs := #[.int .i64 0, .int .i64 0, .int .i64 0, .int .i64 0, .bool false, .int .i64 0, .slice none 0 0, .slice none 0 0, .slice none 0 0]) ?_ 8 _ rfl; (with_reducible repeat (first | refine blk_drewN ?_ _ | refine blk_drew ?_ | refine blk_alloc ?_ _)); refine blk_put (cs := #[.int .i64 0, .int .i64 0, .int .i64 0, .int .i64 0, .bool false, .int .i64 0, .slice none 0 0, .slice none 0 0, .slice none 0 0]) ?_ 7 _ rfl; (with_reducible repeat (first | refine blk_drewN ?_ _ | refine blk_drew ?_ | refine blk_alloc ?_ _)); refine blk_put (cs := #[.int .i64 0, .int .i64 0, .int .i64 0, .int .i64 0, .bool false, .int .i64 0, .slice none 0 0, .slice none 0 0, .slice none 0 0]) ?_ 6 _ rfl; (with_reducible repeat (first | refine blk_drewN ?_ _ | refine blk_drew ?_ | refine blk_alloc ?_ _)); refine blk_put (cs := #[.int .i64 0, .int .i64 0, .int .i64 0, .int .i64 0, .bool false, .int .i64 0, .slice none 0 0, .slice none 0 0, .slice none 0 0]) ?_ 5 _ rfl; (with_reducible repeat (first | refine blk_drewN ?_ _ | refine blk_drew ?_ | refine blk_alloc ?_ _)); refine blk_put (cs := #[.int .i64 0, .int .i64 0, .int .i64 0, .int .i64 0, .bool false, .int .i64 0, .slice none 0 0, .slice none 0 0, .slice none 0 0]) ?_ 4 _ rfl; (with_reducible repeat (first | refine blk_drewN ?_ _ | refine blk_drew ?_ | refine blk_alloc ?_ _)); refine blk_put (cs := #[.int .i64 0, .int .i64 0, .int .i64 0, .int .i64 0, .bool false, .int .i64 0, .slice none 0 0, .slice none 0 0, .slice none 0 0]) ?_ 3 _ rfl; (with_reducible repeat (first | refine blk_drewN ?_ _ | refine blk_drew ?_ | refine blk_alloc ?_ _)); refine blk_put (cs := #[.int .i64 0, .int .i64 0, .int .i64 0, .int .i64 0, .bool false, .int .i64 0, .slice none 0 0, .slice none 0 0, .slice none 0 0]) ?_ 2 _ rfl; (with_reducible repeat (first | refine blk_drewN ?_ _ | refine blk_drew ?_ | refine blk_alloc ?_ _)); refine blk_put (cs := #[.int .i64 0, .int .i64 0, .int .i64 0, .int .i64 0, .bool false, .int .i64 0, .slice none 0 0, .slice none 0 0, .slice none 0 0]) ?_ 1 _ rfl; (with_reducible repeat (first | refine blk_drewN ?_ _ | refine blk_drew ?_ | refine blk_alloc ?_ _)); refine blk_put (cs := #[.int .i64 0, .int .i64 0, .int .i64 0, .int .i64 0, .bool false, .int .i64 0, .slice none 0 0, .slice none 0 0, .slice none 0 0]) ?_ 0 _ rfl; (with_reducible repeat (first | refine blk_drewN ?_ _ | refine blk_drew ?_ | refine blk_alloc ?_ _)); exact BK168.out) Try.underlying26 rfl (by kernel_rfl)) rfl ?_
        exact ⟨_, _, _, by first | rfl | (simp [errW_none, errW_some] <;> rfl) | (simp [*, errW_none, errW_some] <;> rfl), by first | exact Kd.R_nil _ _ _ _ _ | exact Kd.N_nil _ _ _ _ _ | exact Kd.V_nil _ _ _ _ _ | exact Kd.Q_nil _ _ _ _ _ | exact Kd.S_nil _ _ _ _ _, by first | exact Kd.R_nil _ _ _ _ _ | exact Kd.N_nil _ _ _ _ _ | exact Kd.V_nil _ _ _ _ _ | exact Kd.Q_nil _ _ _ _ _ | exact Kd.S_nil _ _ _ _ _, by first | exact Kd.S_nil _ _ _ _ _ | exact Kd.N_nil _ _ _ _ _ | exact Kd.V_nil _ _ _ _ _ | exact Kd.Q_nil _ _ _ _ _ | exact Kd.R_nil _ _ _ _ _, by repeat (first | (with_reducible first | exact HB.out | apply below_alloc | apply pw_below_drewN | apply below_drew1 | refine below_set ?_ GE168.out) | exact HB.out)⟩
      · rw [if_neg c8] at H
        have c8b0 : decide (a1 ≤ a0) = false := decide_eq_false c8
        clear c8
        by_cases c11 : 0 ≤ a1
        · rw [if_pos c11] at H
          have c11b0 := eq_true c11
          have c11b1 : decide (0 ≤ a1) = true := decide_eq_true c11
          clear c11
          by_cases c12 : (a1 : Int).toNat ≤ 35184372088832
          · rw [if_pos c12] at H
            have c12b0 := eq_true c12
            have c12b1 : decide ((a1 : Int).toNat ≤ 35184372088832) = true := decide_eq_true c12
            clear c12
            obtain ⟨y170, hy170⟩ : ∃ y_ : List Int, y_ = (List.replicate (a1 : Int).toNat 0) := ⟨_, rfl⟩
            replace H : (some (a0, a1, 0, 0, true, 0, ([] : List ByteArray), y170, ([] : List (S66)), 0)) = some (r1, r2, r3, r4, r5, r6, r7, r8, r9, r10) := by first | (rw [hy170]; with_reducible exact H) | (have H2_ := (Option.bind_some _ _).symm.trans H; rw [hy170]; with_reducible exact H2_) | (have H2_ := (Option.bind_some _ _).symm.trans H; with_reducible exact H2_) | with_reducible exact H | (rw [hy170]; exact H) | exact H
            have Ny170 := Aside0.mk hy170
            clear hy170
            simp only [Option.some.injEq, Prod.mk.injEq] at H
            obtain ⟨rfl, rfl, rfl, rfl, rfl, rfl, rfl, rfl, rfl, rfl⟩ := H
            go_enter Try.func11, Try.ntmps11
            go_wp2_with (first | ((with_reducible refine gate_dst (N := 4) rfl ?_); refine box_event ?hg (N := 4) ?hd (cs := #[.int .i64 0, .int .i64 0, .int .i64 0, .int .i64 0, .bool false, .int .i64 0, .slice none 0 0, .slice none 0 0, .slice none 0 0]) (t := 26) ?hr ?_; (case hd => rfl); (case hg => rfl); (case hr => first | (go_simp; done) | (go_simp; rfl)); intro gb168 hg w13 hbox hb; have n0_ := Aside0.mk (below_step (by repeat (first | (with_reducible first | exact HB.out | apply below_alloc | apply pw_below_drewN | apply below_drew1) | exact HB.out)) hb); have n1_ := Aside0.mk (hbox); have n2_ := Aside0.mk ((by rw [hg]; exact (below_size (by repeat (first | (with_reducible first | exact HB.out | apply below_alloc | apply pw_below_drewN | apply below_drew1) | exact HB.out))) : w.heap.size ≤ gb168)); have n3_ := Aside0.mk ((by rw [hg]; exact (below_size (by repeat (first | (with_reducible first | exact HB.out | apply below_alloc | apply pw_below_drewN | apply below_drew1) | exact HB.out))) : w.heap.size ≤ gb168)); clear HB; have HB := n0_; have BK168 := n1_; have GW168 := n2_; have GE168 := n3_; clear n0_ n1_ n2_ n3_; clear hb hbox hg) | ((with_reducible refine gate_callee (f := 28) rfl ?_); refine goesL_ (some 7) rfl rfl Try.func28 (by kernel_rfl) rfl #[.int .i64 a1] rfl (by (try simp only [List.map_toArray, List.map_cons, List.map_nil]); first | done | rfl | (simp only [List.length_drop, List.length_take]; rfl)) ?_; (with_reducible refine (replica_size.calls a1 true _ A3.out).mono ?_); rintro e w' ⟨rfl, ⟨nd, rfl⟩⟩; refine ⟨_, rfl, ?_⟩; (try (rw [drewN_self w13]; generalize hq_ : World.drewN w13 _ = w13; have n0_ : Aside0 (w13.heap[gb168]? = some (.cells #[.int .i64 0, .int .i64 0, .int .i64 0, .int .i64 0, .bool false, .int .i64 0, .slice none 0 0, .slice none 0 0, .slice none 0 0] 26 (0, 0))) := ⟨by rw [← hq_]; exact (by (with_reducible repeat (first | refine blk_drewN ?_ _ | refine blk_drew ?_ | refine blk_alloc ?_ _)); exact BK168.out)⟩; have n1_ : Aside0 (Below w.heap.size w w13) := ⟨by rw [← hq_]; exact (by repeat (first | (with_reducible first | exact HB.out | apply below_alloc | apply pw_below_drewN | apply below_drew1 | refine below_set ?_ GE168.out) | exact HB.out))⟩; clear BK168 HB hq_; have BK168 := n0_; have HB := n1_; clear n0_ n1_))) | ((with_reducible refine gate_dst (N := 22) rfl ?_); refine Kd.R_make (Kd.int .i64) _ 3 rfl (N := 22) rfl 23 _ _ rfl a1 rfl rfl Try.underlying23 (.int .i64 0) 8 info3 rfl (by decide) (by omega) 0 (ok := fun _ => True) (okp := fun _ => True) rfl (fun _ hk => hk) trivial (of_decide_eq_true (by first | (with_reducible assumption) | assumption)) (Nat.le_trans (Nat.mul_le_mul_right _ (of_decide_eq_true (by first | (with_reducible assumption) | assumption) : a1.toNat ≤ 35184372088832)) (by omega)) (Below.refl _ _) (Nat.le_refl _) ?_; intro v171 w14 ho15 hb hg_ hnew_; clear hg_ hnew_; (first | rw [← Ny170.out] at ho15 | (simp only [Int.reduceToNat] at ho15; rw [← Ny170.out] at ho15)); have n0_ := Aside0.mk (Kd.R_lower ho15 (below_size (by repeat (first | (with_reducible first | exact HB.out | apply below_alloc | apply pw_below_drewN | apply below_drew1 | refine below_set ?_ GE168.out) | exact HB.out)))); have n1_ := Aside0.mk (blk_below (g := gb168) (o := .cells #[.int .i64 0, .int .i64 0, .int .i64 0, .int .i64 0, .bool false, .int .i64 0, .slice none 0 0, .slice none 0 0, .slice none 0 0] 26 (0, 0)) (by (with_reducible repeat (first | refine blk_drewN ?_ _ | refine blk_drew ?_ | refine blk_alloc ?_ _)); exact BK168.out) hb); have n2_ := Aside0.mk (below_step (by repeat (first | (with_reducible first | exact HB.out | apply below_alloc | apply pw_below_drewN | apply below_drew1 | refine below_set ?_ GE168.out) | exact HB.out)) hb); clear BK168; clear HB; have HO172 := n0_; have BK168 := n1_; have HB := n2_; clear n0_ n1_ n2_; clear hb ho15; obtain ⟨Ao16, co16, eo16⟩ := Kd.R_slice HO172.out; subst eo16; have hcz17_0 : w14.cell? ⟨gb168, 0, none⟩ = some (.int .i64 0) := (blk_cell BK168.out 0).trans rfl; have hcz17_1 : w14.cell? ⟨gb168, 1, none⟩ = some (.int .i64 0) := (blk_cell BK168.out 1).trans rfl; have hcz17_2 : w14.cell? ⟨gb168, 2, none⟩ = some (.int .i64 0) := (blk_cell BK168.out 2).trans rfl; have hcz17_3 : w14.cell? ⟨gb168, 3, none⟩ = some (.int .i64 0) := (blk_cell BK168.out 3).trans rfl; have hcz17_4 : w14.cell? ⟨gb168, 4, none⟩ = some (.bool false) := (blk_cell BK168.out 4).trans rfl; have hcz17_5 : w14.cell? ⟨gb168, 5, none⟩ = some (.int .i64 0) := (blk_cell BK168.out 5).trans rfl; have hcz17_6 : w14.cell? ⟨gb168, 6, none⟩ = some (.slice none 0 0) := (blk_cell BK168.out 6).trans rfl; have hcz17_7 : w14.cell? ⟨gb168, 7, none⟩ = some (.slice none 0 0) := (blk_cell BK168.out 7).trans rfl; have hcz17_8 : w14.cell? ⟨gb168, 8, none⟩ = some (.slice none 0 0) := (blk_cell BK168.out 8).trans rfl; have hfz17_0 := blk_frozen BK168.out 0; have hfz17_1 := blk_frozen BK168.out 1; have hfz17_2 := blk_frozen BK168.out 2; have hfz17_3 := blk_frozen BK168.out 3; have hfz17_4 := blk_frozen BK168.out 4; have hfz17_5 := blk_frozen BK168.out 5; have hfz17_6 := blk_frozen BK168.out 6; have hfz17_7 := blk_frozen BK168.out 7; have hfz17_8 := blk_frozen BK168.out 8))
            refine bodyPost_ret (results_ct rfl _ _ gb168 26 #[.int .i64 a0, .int .i64 a1, .int .i64 0, .int .i64 0, .bool true, .int .i64 0, .slice none 0 0, .slice Ao16 y170.length co16, .slice none 0 0] (0, 0) _ rfl (by (with_reducible repeat (first | refine blk_drewN ?_ _ | refine blk_drew ?_ | refine blk_alloc ?_ _)); refine blk_put (cs := #[.int .i64 a0, .int .i64 a1, .int .i64 0, .int .i64 0, .bool true, .int .i64 0, .slice none 0 0, .slice Ao16 y170.length co16, .slice none 0 0]) ?_ 8 _ rfl; (with_reducible repeat (first | refine blk_drewN ?_ _ | refine blk_drew ?_ | refine blk_alloc ?_ _)); refine blk_put (cs := #[.int .i64 a0, .int .i64 a1, .int .i64 0, .int .i64 0, .bool true, .int .i64 0, .slice none 0 0, .slice none 0 0, .slice none 0 0]) ?_ 7 _ rfl; (with_reducible repeat (first | refine blk_drewN ?_ _ | refine blk_drew ?_ | refine blk_alloc ?_ _)); refine blk_put (cs := #[.int .i64 a0, .int .i64 a1, .int .i64 0, .int .i64 0, .bool true, .int .i64 0, .slice none 0 0, .slice none 0 0, .slice none 0 0]) ?_ 6 _ rfl; (with_reducible repeat (first | refine blk_drewN ?_ _ | refine blk_drew ?_ | refine blk_alloc ?_ _)); refine blk_put (cs := #[.int .i64 a0, .int .i64 a1, .int .i64 0, .int .i64 0, .bool true, .int .i64 0, .slice none 0 0, .slice none 0 0, .slice none 0 0]) ?_ 5 _ rfl; (with_reducible repeat (first | refine blk_drewN ?_ _ | refine blk_drew ?_ | refine blk_alloc ?_ _)); refine blk_put (cs := #[.int .i64 a0, .int .i64 a1, .int .i64 0, .int .i64 0, .bool false, .int .i64 0, .slice none 0 0, .slice none 0 0, .slice none 0 0]) ?_ 4 _ rfl; (with_reducible repeat (first | refine blk_drewN ?_ _ | refine blk_drew ?_ | refine blk_alloc ?_ _)); refine blk_put (cs := #[.int .i64 a0, .int .i64 a1, .int .i64 0, .int .i64 0, .bool false, .int .i64 0, .slice none 0 0, .slice none 0 0, .slice none 0 0]) ?_ 3 _ rfl; (with_reducible repeat (first | refine blk_drewN ?_ _ | refine blk_drew ?_ | refine blk_alloc ?_ _)); refine blk_put (cs := #[.int .i64 a0, .int .i64 a1, .int .i64 0, .int .i64 0, .bool false, .int .i64 0, .slice none 0 0, .slice none 0 0, .slice none 0 0]) ?_ 2 _ rfl; (with_reducible repeat (first | refine blk_drewN ?_ _ | refine blk_drew ?_ | refine blk_alloc ?_ _)); refine blk_put (cs := #[.int .i64 a0, .int .i64 0, .int .i64 0, .int .i64 0, .bool false, .int .i64 0, .slice none 0 0, .slice none 0 0, .slice none 0 0]) ?_ 1 _ rfl; (with_reducible repeat (first | refine blk_drewN ?_ _ | refine blk_drew ?_ | refine blk_alloc ?_ _)); refine blk_put (cs := #[.int .i64 0, .int .i64 0, .int .i64 0, .int .i64 0, .bool false, .int .i64 0, .slice none 0 0, .slice none 0 0, .slice none 0 0]) ?_ 0 _ rfl; (with_reducible repeat (first | refine blk_drewN ?_ _ | refine blk_drew ?_ | refine blk_alloc ?_ _)); exact BK168.out) Try.underlying26 rfl (by kernel_rfl)) rfl ?_
            exact ⟨_, _, _, by first | rfl | (simp [errW_none, errW_some] <;> rfl) | (simp [*, errW_none, errW_some] <;> rfl), by first | exact Kd.R_nil _ _ _ _ _ | exact Kd.N_nil _ _ _ _ _ | exact Kd.V_nil _ _ _ _ _ | exact Kd.Q_nil _ _ _ _ _ | exact Kd.S_nil _ _ _ _ _, by (with_reducible repeat (first | apply Kd.R_alloc | apply Kd.R_drewN | apply Kd.R_drew)); exact Kd.R_mono (Kd.R_far (p := ⟨gb168, 8, none⟩) (Kd.R_far (p := ⟨gb168, 7, none⟩) (Kd.R_far (p := ⟨gb168, 6, none⟩) (Kd.R_far (p := ⟨gb168, 5, none⟩) (Kd.R_far (p := ⟨gb168, 4, none⟩) (Kd.R_far (p := ⟨gb168, 3, none⟩) (Kd.R_far (p := ⟨gb168, 2, none⟩) (Kd.R_far (p := ⟨gb168, 1, none⟩) (Kd.R_far (p := ⟨gb168, 0, none⟩) (Kd.R_types HO172.out BK168.out (by decide)) (fun _ hk => hk.2) (.int .i64 a0)) (fun _ hk => hk.2) (.int .i64 a1)) (fun _ hk => hk.2) (.int .i64 0)) (fun _ hk => hk.2) (.int .i64 0)) (fun _ hk => hk.2) (.bool true)) (fun _ hk => hk.2) (.int .i64 0)) (fun _ hk => hk.2) (.slice none 0 0)) (fun _ hk => hk.2) (.slice Ao16 y170.length co16)) (fun _ hk => hk.2) (.slice none 0 0)) (fun _ hk => trivial), by first | exact Kd.S_nil _ _ _ _ _ | exact Kd.N_nil _ _ _ _ _ | exact Kd.V_nil _ _ _ _ _ | exact Kd.Q_nil _ _ _ _ _ | exact Kd.R_nil _ _ _ _ _, by repeat (first | (with_reducible first | exact HB.out | apply below_alloc | apply pw_below_drewN | apply below_drew1 | refine below_set ?_ GE168.out) | exact HB.out)⟩
          · rw [if_neg c12] at H
            exact absurd H (by simp)
        · rw [if_neg c11] at H
          exact absurd H (by simp)
  · replace c4 := Bool.eq_false_iff.mpr c4
    subst c4
    have H1 : (some (0, 0, 0, 0, false, 0, ([] : List ByteArray), ([] : List Int), ([] : List (S66)), 1)) = some (r1, r2, r3, r4, r5, r6, r7, r8, r9, r10) := by rw [if_neg (show ¬ (false = true) by decide)] at H; exact H
    clear H
    have H := H1
    clear H1
    simp only [Option.some.injEq, Prod.mk.injEq] at H
    obtain ⟨rfl, rfl, rfl, rfl, rfl, rfl, rfl, rfl, rfl, rfl⟩ := H
    go_enter Try.func11, Try.ntmps11
    go_wp2_with (first | ((with_reducible refine gate_dst (N := 4) rfl ?_); refine box_event ?hg (N := 4) ?hd (cs := #[.int .i64 0, .int .i64 0, .int .i64 0, .int .i64 0, .bool false, .int .i64 0, .slice none 0 0, .slice none 0 0, .slice none 0 0]) (t := 26) ?hr ?_; (case hd => rfl); (case hg => rfl); (case hr => first | (go_simp; done) | (go_simp; rfl)); intro gb168 hg w18 hbox hb; have n0_ := Aside0.mk (below_step (by repeat (first | (with_reducible first | exact HB.out | apply below_alloc | apply pw_below_drewN | apply below_drew1) | exact HB.out)) hb); have n1_ := Aside0.mk (hbox); have n2_ := Aside0.mk ((by rw [hg]; exact (below_size (by repeat (first | (with_reducible first | exact HB.out | apply below_alloc | apply pw_below_drewN | apply below_drew1) | exact HB.out))) : w.heap.size ≤ gb168)); have n3_ := Aside0.mk ((by rw [hg]; exact (below_size (by repeat (first | (with_reducible first | exact HB.out | apply below_alloc | apply pw_below_drewN | apply below_drew1) | exact HB.out))) : w.heap.size ≤ gb168)); clear HB; have HB := n0_; have BK168 := n1_; have GW168 := n2_; have GE168 := n3_; clear n0_ n1_ n2_ n3_; clear hb hbox hg) | ((with_reducible refine gate_callee (f := 28) rfl ?_); refine goesL_ (some 7) rfl rfl Try.func28 (by kernel_rfl) rfl #[.int .i64 a1] rfl (by (try simp only [List.map_toArray, List.map_cons, List.map_nil]); first | done | rfl | (simp only [List.length_drop, List.length_take]; rfl)) ?_; (with_reducible refine (replica_size.calls a1 false _ A3.out).mono ?_); rintro e w' ⟨rfl, ⟨nd, rfl⟩⟩; refine ⟨_, rfl, ?_⟩; (try (rw [drewN_self w18]; generalize hq_ : World.drewN w18 _ = w18; have n0_ : Aside0 (w18.heap[gb168]? = some (.cells #[.int .i64 0, .int .i64 0, .int .i64 0, .int .i64 0, .bool false, .int .i64 0, .slice none 0 0, .slice none 0 0, .slice none 0 0] 26 (0, 0))) := ⟨by rw [← hq_]; exact (by (with_reducible repeat (first | refine blk_drewN ?_ _ | refine blk_drew ?_ | refine blk_alloc ?_ _)); exact BK168.out)⟩; have n1_ : Aside0 (Below w.heap.size w w18) := ⟨by rw [← hq_]; exact (by repeat (first | (with_reducible first | exact HB.out | apply below_alloc | apply pw_below_drewN | apply below_drew1 | refine below_set ?_ GE168.out) | exact HB.out))⟩; clear BK168 HB hq_; have BK168 := n0_; have HB := n1_; clear n0_ n1_)); have hcz19_0 : w18.cell? ⟨gb168, 0, none⟩ = some (.int .i64 0) := (blk_cell BK168.out 0).trans rfl; have hcz19_1 : w18.cell? ⟨gb168, 1, none⟩ = some (.int .i64 0) := (blk_cell BK168.out 1).trans rfl; have hcz19_2 : w18.cell? ⟨gb168, 2, none⟩ = some (.int .i64 0) := (blk_cell BK168.out 2).trans rfl; have hcz19_3 : w18.cell? ⟨gb168, 3, none⟩ = some (.int .i64 0) := (blk_cell BK168.out 3).trans rfl; have hcz19_4 : w18.cell? ⟨gb168, 4, none⟩ = some (.bool false) := (blk_cell BK168.out 4).trans rfl; have hcz19_5 : w18.cell? ⟨gb168, 5, none⟩ = some (.int .i64 0) := (blk_cell BK168.out 5).trans rfl; have hcz19_6 : w18.cell? ⟨gb168, 6, none⟩ = some (.slice none 0 0) := (blk_cell BK168.out 6).trans rfl; have hcz19_7 : w18.cell? ⟨gb168, 7, none⟩ = some (.slice none 0 0) := (blk_cell BK168.out 7).trans rfl; have hcz19_8 : w18.cell? ⟨gb168, 8, none⟩ = some (.slice none 0 0) := (blk_cell BK168.out 8).trans rfl; have hfz19_0 := blk_frozen BK168.out 0; have hfz19_1 := blk_frozen BK168.out 1; have hfz19_2 := blk_frozen BK168.out 2; have hfz19_3 := blk_frozen BK168.out 3; have hfz19_4 := blk_frozen BK168.out 4; have hfz19_5 := blk_frozen BK168.out 5; have hfz19_6 := blk_frozen BK168.out 6; have hfz19_7 := blk_frozen BK168.out 7; have hfz19_8 := blk_frozen BK168.out 8))
    refine bodyPost_ret (results_ct rfl _ _ gb168 26 #[.int .i64 0, .int .i64 0, .int .i64 0, .int .i64 0, .bool false, .int .i64 0, .slice none 0 0, .slice none 0 0, .slice none 0 0] (0, 0) _ rfl (by (with_reducible repeat (first | refine blk_drewN ?_ _ | refine blk_drew ?_ | refine blk_alloc ?_ _)); refine blk_put (cs := #[.int .i64 0, .int .i64 0, .int .i64 0, .int .i64 0, .bool false, .int .i64 0, .slice none 0 0, .slice none 0 0, .slice none 0 0]) ?_ 8 _ rfl; (with_reducible repeat (first | refine blk_drewN ?_ _ | refine blk_drew ?_ | refine blk_alloc ?_ _)); refine blk_put (cs := #[.int .i64 0, .int .i64 0, .int .i64 0, .int .i64 0, .bool false, .int .i64 0, .slice none 0 0, .slice none 0 0, .slice none 0 0]) ?_ 7 _ rfl; (with_reducible repeat (first | refine blk_drewN ?_ _ | refine blk_drew ?_ | refine blk_alloc ?_ _)); refine blk_put (cs := #[.int .i64 0, .int .i64 0, .int .i64 0, .int .i64 0, .bool false, .int .i64 0, .slice none 0 0, .slice none 0 0, .slice none 0 0]) ?_ 6 _ rfl; (with_reducible repeat (first | refine blk_drewN ?_ _ | refine blk_drew ?_ | refine blk_alloc ?_ _)); refine blk_put (cs := #[.int .i64 0, .int .i64 0, .int .i64 0, .int .i64 0, .bool false, .int .i64 0, .slice none 0 0, .slice none 0 0, .slice none 0 0]) ?_ 5 _ rfl; (with_reducible repeat (first | refine blk_drewN ?_ _ | refine blk_drew ?_ | refine blk_alloc ?_ _)); refine blk_put (cs := #[.int .i64 0, .int .i64 0, .int .i64 0, .int .i64 0, .bool false, .int .i64 0, .slice none 0 0, .slice none 0 0, .slice none 0 0]) ?_ 4 _ rfl; (with_reducible repeat (first | refine blk_drewN ?_ _ | refine blk_drew ?_ | refine blk_alloc ?_ _)); refine blk_put (cs := #[.int .i64 0, .int .i64 0, .int .i64 0, .int .i64 0, .bool false, .int .i64 0, .slice none 0 0, .slice none 0 0, .slice none 0 0]) ?_ 3 _ rfl; (with_reducible repeat (first | refine blk_drewN ?_ _ | refine blk_drew ?_ | refine blk_alloc ?_ _)); refine blk_put (cs := #[.int .i64 0, .int .i64 0, .int .i64 0, .int .i64 0, .bool false, .int .i64 0, .slice none 0 0, .slice none 0 0, .slice none 0 0]) ?_ 2 _ rfl; (with_reducible repeat (first | refine blk_drewN ?_ _ | refine blk_drew ?_ | refine blk_alloc ?_ _)); refine blk_put (cs := #[.int .i64 0, .int .i64 0, .int .i64 0, .int .i64 0, .bool false, .int .i64 0, .slice none 0 0, .slice none 0 0, .slice none 0 0]) ?_ 1 _ rfl; (with_reducible repeat (first | refine blk_drewN ?_ _ | refine blk_drew ?_ | refine blk_alloc ?_ _)); refine blk_put (cs := #[.int .i64 0, .int .i64 0, .int .i64 0, .int .i64 0, .bool false, .int .i64 0, .slice none 0 0, .slice none 0 0, .slice none 0 0]) ?_ 0 _ rfl; (with_reducible repeat (first | refine blk_drewN ?_ _ | refine blk_drew ?_ | refine blk_alloc ?_ _)); exact BK168.out) Try.underlying26 rfl (by kernel_rfl)) rfl ?_
    exact ⟨_, _, _, by first | rfl | (simp [errW_none, errW_some] <;> rfl) | (simp [*, errW_none, errW_some] <;> rfl), by first | exact Kd.R_nil _ _ _ _ _ | exact Kd.N_nil _ _ _ _ _ | exact Kd.V_nil _ _ _ _ _ | exact Kd.Q_nil _ _ _ _ _ | exact Kd.S_nil _ _ _ _ _, by first | exact Kd.R_nil _ _ _ _ _ | exact Kd.N_nil _ _ _ _ _ | exact Kd.V_nil _ _ _ _ _ | exact Kd.Q_nil _ _ _ _ _ | exact Kd.S_nil _ _ _ _ _, by first | exact Kd.S_nil _ _ _ _ _ | exact Kd.N_nil _ _ _ _ _ | exact Kd.V_nil _ _ _ _ _ | exact Kd.Q_nil _ _ _ _ _ | exact Kd.R_nil _ _ _ _ _, by repeat (first | (with_reducible first | exact HB.out | apply below_alloc | apply pw_below_drewN | apply below_drew1 | refine below_set ?_ GE168.out) | exact HB.out)⟩
def quorum_Primary.f (a0 : Int) (a1 : Int) : Option (Int × Bool) := if a0 < 0 then (some (0, false)) else (if a1 < 1 then (some (0, false)) else (if a1 = 0 then (none) else (some (Int.tmod a0 a1, true))))
set_option maxHeartbeats 8000000 in
set_option maxRecDepth 100000 in
theorem quorum_Primary.calls (a0 : Int) (a1 : Int) (r1 : Int) (r2 : Bool) (w : World) (h : quorum_Primary.f a0 a1 = some (r1, r2)) :
    Calls Try.prog 31 #[.int .i64 a0, .int .i64 a1] w fun e w' => e = .returned (.tuple #[.int .i64 r1, .bool r2]) ∧ Drawn0 w w' := by
  have H : (if a0 < 0 then (some (0, false)) else (if a1 < 1 then (some (0, false)) else (if a1 = 0 then (none) else (some (Int.tmod a0 a1, true))))) = some (r1, r2) := h
  clear h
  by_cases c3 : a0 < 0
  · rw [if_pos c3] at H
    have c3b0 : decide (a0 < 0) = true := decide_eq_true c3
    clear c3
    simp only [Option.some.injEq, Prod.mk.injEq] at H
    obtain ⟨rfl, rfl⟩ := H
    go_enter Try.func31, Try.ntmps31
    go_wp2
    go_ret2
    exact ⟨by first | rfl | (simp; done) | (simp [*]; done), by repeat (first | exact Drawn0.refl _ | apply Drawn0.step)⟩
  · rw [if_neg c3] at H
    have c3b0 : decide (a0 < 0) = false := decide_eq_false c3
    clear c3
    by_cases c4 : a1 < 1
    · rw [if_pos c4] at H
      have c4b0 : decide (a1 < 1) = true := decide_eq_true c4
      clear c4
      simp only [Option.some.injEq, Prod.mk.injEq] at H
      obtain ⟨rfl, rfl⟩ := H
      go_enter Try.func31, Try.ntmps31
      go_wp2
      go_ret2
      exact ⟨by first | rfl | (simp; done) | (simp [*]; done), by repeat (first | exact Drawn0.refl _ | apply Drawn0.step)⟩
    · rw [if_neg c4] at H
      have c4b0 : decide (a1 < 1) = false := decide_eq_false c4
      clear c4
      by_cases c5 : a1 = 0
      · rw [if_pos c5] at H
        exact absurd H (by simp)
      · rw [if_neg c5] at H
        have c5b0 : (a1 == 0) = false := beq_eq_false_iff_ne.mpr c5
        have c5b1 : (a1 != 0) = true := bne_iff_ne.mpr c5
        simp only [Option.some.injEq, Prod.mk.injEq] at H
        obtain ⟨rfl, rfl⟩ := H
        go_enter Try.func31, Try.ntmps31
        go_wp2
        go_ret2
        exact ⟨by first | rfl | (simp; done) | (simp [*]; done), by repeat (first | exact Drawn0.refl _ | apply Drawn0.step)⟩
def IsS57 (w0 W : World) (g : Nat) (f0 : Int) (f1 : Int) (f2 : Int) (f3 : Int) (f4 : Bool) (f5 : Int) (f6 : List ByteArray) (f7 : List Int) (f8 : List (S66)) (f9 : List (S28)) : Prop := ∃ A6 c6, ∃ A7 c7, ∃ A8 c8, ∃ A9 c9, W.heap[g]? = some (.cells #[.int .i64 f0, .int .i64 f1, .int .i64 f2, .int .i64 f3, .bool f4, .int .i64 f5, .slice A6 f6.length c6, .slice A7 f7.length c7, .slice A8 f8.length c8, .slice A9 f9.length c9] 57 (0, 0)) ∧ w0.heap.size ≤ g ∧ Kd.C Kd.string w0 A6 f6.length f6 ∧ Kd.C (Kd.int .i64) w0 A7 f7.length f7 ∧ Kd.C k66 w0 A8 f8.length f8 ∧ Kd.C k28 w0 A9 f9.length f9
theorem IsS57.grown {w0 W : World} {g : Nat} {f0 : Int} {f1 : Int} {f2 : Int} {f3 : Int} {f4 : Bool} {f5 : Int} {f6 : List ByteArray} {f7 : List Int} {f8 : List (S66)} {f9 : List (S28)} {W1 : World} {row : Option Nat} (h : IsS57 w0 W g f0 f1 f2 f3 f4 f5 f6 f7 f8 f9) (hw : W.grownBy W1 row) (hne : some g ≠ row) : IsS57 w0 W1 g f0 f1 f2 f3 f4 f5 f6 f7 f8 f9 := by
  obtain ⟨A6, c6, A7, c7, A8, c8, A9, c9, hb, hg, hr6, hr7, hr8, hr9⟩ := h
  exact ⟨A6, c6, A7, c7, A8, c8, A9, c9, blk_grown hb hw hne, hg, hr6, hr7, hr8, hr9⟩
theorem IsS57.below {w0 W : World} {g : Nat} {f0 : Int} {f1 : Int} {f2 : Int} {f3 : Int} {f4 : Bool} {f5 : Int} {f6 : List ByteArray} {f7 : List Int} {f8 : List (S66)} {f9 : List (S28)} {W1 : World} (h : IsS57 w0 W g f0 f1 f2 f3 f4 f5 f6 f7 f8 f9) (hw : Below W.heap.size W W1) : IsS57 w0 W1 g f0 f1 f2 f3 f4 f5 f6 f7 f8 f9 := h.grown (grown_of_below hw none) (by simp)
theorem IsS57.alloc {w0 W : World} {g : Nat} {f0 : Int} {f1 : Int} {f2 : Int} {f3 : Int} {f4 : Bool} {f5 : Int} {f6 : List ByteArray} {f7 : List Int} {f8 : List (S66)} {f9 : List (S28)} (h : IsS57 w0 W g f0 f1 f2 f3 f4 f5 f6 f7 f8 f9) (o : Obj) : IsS57 w0 (W.alloc o) g f0 f1 f2 f3 f4 f5 f6 f7 f8 f9 := h.below (below_alloc (Below.refl _ _) o)
theorem quorum_Commit.maj (n : Nat) (h0 : 1 ≤ n) (hn : n < 4398046511104) (w : World) :
    Calls Try.prog 58 #[.int .i64 (n : Int)] w fun e w' => e = .returned (.int .i64 ((n / 2 + 1 : Nat) : Int)) ∧ Drawn0 w w' := by
  have c2b0 : decide ((n : Int) < 1) = false := decide_eq_false (by omega)
  have hw : IntKind.i64.wrap (IntKind.i64.wrap (Int.tdiv (n : Int) 2) + 1) = ((n / 2 + 1 : Nat) : Int) := by
    rw [Int.tdiv_eq_ediv_of_nonneg (by omega), IntKind.wrap_i64, IntKind.wrap_i64]
    omega
  go_enter Try.func58, Try.ntmps58
  go_wp2
  go_ret
  refine ⟨?_, by repeat (first | exact Drawn0.refl _ | apply Drawn0.step)⟩
  simp [hw]
theorem quorum_Commit.cell_of (w : World) (g : Nat) (cur : Array Value) (ss : List Int) (h : w.heap[g]? = some (.cells cur 3 (0, 0))) (ht : cur.toList.take ss.length = ss.map (Value.int .i64)) (i : Nat) (hi : i < ss.length) :
    w.cell? ⟨g, i, none⟩ = some (.int .i64 (ss.getD i 0)) := by
  have h1 := (holds_of_blockI h ht i (by simpa using hi)).1
  rw [Nat.zero_add] at h1
  rw [h1]
  simp [List.getD_eq_getElem?_getD, List.getElem?_eq_getElem hi, hi]
def quorum_Commit.put (x : Int) : List Int → List Int
  | [] => [x]
  | y :: l => if x ≤ y then x :: y :: l else y :: quorum_Commit.put x l
def quorum_Commit.sorted (l : List Int) : List Int := l.foldr quorum_Commit.put []
theorem quorum_Commit.put_perm (x : Int) (l : List Int) : (quorum_Commit.put x l).Perm (x :: l) := by
  induction l with
  | nil => exact List.Perm.refl _
  | cons y l ih =>
    simp only [quorum_Commit.put]
    split
    · exact List.Perm.refl _
    · exact (ih.cons y).trans (List.Perm.swap _ _ _)
theorem quorum_Commit.put_sorted (x : Int) (l : List Int) (h : l.Pairwise (· ≤ ·)) : (quorum_Commit.put x l).Pairwise (· ≤ ·) := by
  induction l with
  | nil => simp [quorum_Commit.put]
  | cons y l ih =>
    rw [List.pairwise_cons] at h
    simp only [quorum_Commit.put]
    split
    · rename_i hxy
      rw [List.pairwise_cons, List.pairwise_cons]
      refine ⟨fun z hz => ?_, h.1, h.2⟩
      rcases List.mem_cons.1 hz with rfl | hz
      · exact hxy
      · have := h.1 z hz; omega
    · rename_i hxy
      rw [List.pairwise_cons]
      refine ⟨fun z hz => ?_, ih h.2⟩
      rcases List.mem_cons.1 ((quorum_Commit.put_perm x l).mem_iff.1 hz) with rfl | hz
      · omega
      · exact h.1 z hz
theorem quorum_Commit.sorted_perm (l : List Int) : (quorum_Commit.sorted l).Perm l := by
  induction l with
  | nil => exact List.Perm.refl _
  | cons x l ih => exact (quorum_Commit.put_perm x _).trans (ih.cons x)
theorem quorum_Commit.sorted_sorted (l : List Int) : (quorum_Commit.sorted l).Pairwise (· ≤ ·) := by
  induction l with
  | nil => exact List.Pairwise.nil
  | cons x l ih => exact quorum_Commit.put_sorted x _ ih
theorem quorum_Commit.sorted_eq (l : List Int) : (l.mergeSort fun x y => decide (x ≤ y)) = quorum_Commit.sorted l := by
  have h1 : (l.mergeSort fun x y => decide (x ≤ y)).Pairwise (fun x y => decide (x ≤ y) = true) := List.pairwise_mergeSort (fun a b c h1 h2 => by simp at h1 h2 ⊢; omega) (fun a b => by simp; omega) l
  have h2 : (l.mergeSort fun x y => decide (x ≤ y)).Pairwise (· ≤ ·) := h1.imp (fun h => by simpa using h)
  exact ((List.mergeSort_perm l _).trans (quorum_Commit.sorted_perm l).symm).eq_of_pairwise (fun a b _ _ h1 h2 => Int.le_antisymm h1 h2) h2 (quorum_Commit.sorted_sorted l)
def quorum_Commit.f (l0 : List Int) : Option Int := if l0.length = 0 then some 0 else if l0.length < 4398046511104 then some (max ((quorum_Commit.sorted l0).getD (l0.length - (l0.length / 2 + 1)) 0) 0) else none
set_option maxHeartbeats 8000000 in
set_option maxRecDepth 100000 in
theorem quorum_Commit.calls (A0 : Option Addr) (c0 : Nat) (l0 : List Int) (r : Int) (w : World) (hr0 : Kd.C (Kd.int .i64) w A0 l0.length l0) (hc0 : l0.length ≤ c0) (h : quorum_Commit.f l0 = some r) :
    Calls Try.prog 53 #[.slice A0 l0.length c0] w fun e w' => e = .returned (.int .i64 r) ∧ Below w.heap.size w w' := by
  have hu23 := Try.underlying23
  have hu3 := Try.underlying3
  have HR := Aside0.mk hr0
  have HC := Aside0.mk hc0
  clear hr0 hc0
  unfold quorum_Commit.f at h
  by_cases h0 : l0.length = 0
  · rw [if_pos h0] at h
    obtain rfl := Option.some.inj h
    have hb : decide ((l0.length : Int) = 0) = true := decide_eq_true (by omega)
    rw [h0]
    go_enter Try.func53, Try.ntmps53
    go_wp2
    go_ret
    exact ⟨rfl, Below.refl _ _⟩
  rw [if_neg h0] at h
  by_cases hl' : ¬ l0.length < 4398046511104
  · rw [if_neg hl'] at h; cases h
  have hl : l0.length < 4398046511104 := by omega
  rw [if_pos hl] at h
  have hr := Option.some.inj h
  clear h
  have hm : ∀ W : World, (Instr.makeSlice 23 (.int .i64 (l0.length : Int)) (.int .i64 (l0.length : Int))).run Try.prog W = .ok (.slice (some ⟨W.heap.size, 0, none⟩) l0.length l0.length) (W.alloc (.cells (madeCells (Value.int .i64 0).cells l0.length) 3)) := fun W => by
    obtain ⟨i, hi, hz, hs, hb⟩ := info_parts info3
    have h := run_make (P := Try.prog) W 23 3 i (.int .i64 0) hu23 hi hz .i64 .i64 (l0.length : Int) (l0.length : Int) (by omega) (by omega) (by rw [hb]; omega) (by omega)
    simp only [Int.toNat_natCast, hs, Nat.mul_one] at h
    exact h
  have hcp : (Builtin.copy_ #[23, 23] 3 #[.slice (some ⟨w.heap.size, 0, none⟩) l0.length l0.length, .slice A0 l0.length c0]).run Try.prog (w.alloc (.cells (madeCells (Value.int .i64 0).cells l0.length) 3)) = .ok (.int .i64 (l0.length : Int)) (w.alloc (.cells (l0.map (Value.int .i64)).toArray 3)) := by
    obtain ⟨i, hi, hz, hs, hb⟩ := info_parts info3
    exact x_copy_fresh (P := Try.prog) (Value.int .i64) (0 : Int) (fun _ => rfl) w 23 23 3 3 3 hu23 (by rw [hi]; simp [hs]) A0 l0.length c0 (madeCells (Value.int .i64 0).cells l0.length) (size_madeCells _ _) l0 (Kd.C_alloc HR.out _)
  have hsl : (quorum_Commit.sorted l0).length = l0.length := (quorum_Commit.sorted_perm l0).length_eq
  obtain ⟨ss, hss⟩ : ∃ ss, ss = quorum_Commit.sorted l0 := ⟨_, rfl⟩
  rw [← hss] at hsl hr
  obtain ⟨v, hv⟩ : ∃ v, v = ss.getD (l0.length - (l0.length / 2 + 1)) 0 := ⟨_, rfl⟩
  rw [← hv] at hr
  have HSORT : Aside0 (∀ W : World, W.heap[w.heap.size]? = some (.cells (l0.map (Value.int .i64)).toArray 3 (0, 0)) → Calls Try.prog 60 #[.slice (some ⟨w.heap.size, 0, none⟩) l0.length l0.length] W fun e w' => e = .returned (.tuple #[]) ∧ W.grownBy w' (some w.heap.size) ∧ ∃ cur, w'.heap[w.heap.size]? = some (.cells cur 3 (0, 0)) ∧ cur.toList.take ss.length = ss.map (Value.int .i64)) := ⟨fun W hW => by
    have hH := holds_of_blockI (ss := l0) hW (List.take_of_length_le (by simp))
    have hlt : w.heap.size < W.heap.size := (Array.getElem?_eq_some_iff.1 hW).1
    refine (Shelf.slices_Sort_int w.heap.size 0 l0.length l0 W hH hlt (by omega)).mono ?_
    rintro e w' ⟨rfl, nd, os, rfl⟩
    refine ⟨rfl, grownBy_sortedI _, _, heap_sortedI _ hW, ?_⟩
    rw [show (l0.mergeSort fun x y => decide (x ≤ y)) = ss from (quorum_Commit.sorted_eq l0).trans hss.symm]
    exact take_putCellsI _ ss (by simp [hsl])⟩
  generalize hcs : (l0.map (Value.int .i64)).toArray = cs at *
  generalize hn : l0.length = n at *
  generalize hc : madeCells (Value.int .i64 0).cells n = mc at *
  have hz0 : decide ((n : Int) = 0) = false := decide_eq_false (by omega)
  have HM := Aside0.mk (quorum_Commit.maj n (by omega) hl)
  have HV := Aside0.mk hv
  clear hv hss
  go_enter Try.func53, Try.ntmps53
  go_wp2_with (first | (go_at_call 60; refine (HSORT.out _ ?aH).mono ?_; (case aH => exact x_alloc_new _ _); rintro e w1 ⟨rfl, hg1, cur, hcur, htk⟩; have HG1 := Aside0.mk hg1; have hcell := quorum_Commit.cell_of w1 w.heap.size cur ss hcur htk (n - (n / 2 + 1)) (by omega); rw [← HV.out] at hcell; clear hg1 hcur htk) | (go_at_call 58; refine (HM.out _).mono ?_; rintro e w' ⟨rfl, ⟨nd, rfl⟩⟩))
  all_goals (go_ret; refine ⟨?_, ?_⟩)
  · rw [← hr, show max v 0 = 0 by omega]; rfl
  · exact pw_below_drewN (Below.grown (below_alloc (Below.refl w.heap.size w) (.cells cs 3)) HG1.out (by simp) (fun k hk => by injection hk with hk; omega)) _
  · rw [← hr, show max v 0 = v by omega]; rfl
  · exact pw_below_drewN (Below.grown (below_alloc (Below.refl w.heap.size w) (.cells cs 3)) HG1.out (by simp) (fun k hk => by injection hk with hk; omega)) _
end Go.Proofs.Ytfpfpckocemmdaa.P
end
