-- printed by a program of this session (wip/tools/xprint.py) over the translation; not trusted: Lean checks it
import Derived.Test.YtgphefohdbgokaaPx0
import Derived.Test.YtgphefohdbgokaaPx1
import Derived.Test.YtgphefohdbgokaaPx2
namespace Go.Proofs.Ytgphefohdbgokaa.P
open Go.RowKit Go.Proofs.YtgphefohdbgokaaW.PrintWords Go.Proofs.YtgphefohdbgokaaW.PrintLast Go.Proofs.YtgphefohdbgokaaW.PrintMore
attribute [local go_sem] max2_int min2_int max_two min_two max_three min_three max_four min_four   -- for this text's walks alone
set_option linter.unusedVariables false
set_option linter.unusedSimpArgs false

/-! ### sextonlaw22_QuorumCommit: function 5 -/
mutual
def sextonlaw22_QuorumCommit.l0 : Nat → List Int → Int → Int → Int → Int → Int → Int → Option (Bool)
  | 0, _, _, _, _, _, _, _ => none
  | k + 1, x0, x1, x2, x7, x8, x9, x10 => if x10 < (x0.length : Int) then (if 0 ≤ x10 then (if (rd x0 x10) ≥ x7 then (if (rd x0 x10) > x7 then (sextonlaw22_QuorumCommit.l0 k x0 x1 x2 x7 (wrap64 (x8 + 1)) (wrap64 (x9 + 1)) (wrap64 (x10 + 1))) else (sextonlaw22_QuorumCommit.l0 k x0 x1 x2 x7 (wrap64 (x8 + 1)) x9 (wrap64 (x10 + 1)))) else (if (rd x0 x10) > x7 then (sextonlaw22_QuorumCommit.l0 k x0 x1 x2 x7 x8 (wrap64 (x9 + 1)) (wrap64 (x10 + 1))) else (sextonlaw22_QuorumCommit.l0 k x0 x1 x2 x7 x8 x9 (wrap64 (x10 + 1))))) else (none)) else (if x7 < 0 then (sextonlaw22_QuorumCommit.j1 k x0 x1 x2 x7 true) else (if x7 > 0 then ((quorum_Majority.f (x0.length : Int)).bind fun t188 => (if x8 < t188 then (sextonlaw22_QuorumCommit.j1 k x0 x1 x2 x7 true) else (if (x0.length : Int) > 0 then ((quorum_Majority.f (x0.length : Int)).bind fun t189 => (sextonlaw22_QuorumCommit.j1 k x0 x1 x2 x7 (decide (x9 ≥ t189)))) else (sextonlaw22_QuorumCommit.j1 k x0 x1 x2 x7 false)))) else (if (x0.length : Int) > 0 then ((quorum_Majority.f (x0.length : Int)).bind fun t190 => (sextonlaw22_QuorumCommit.j1 k x0 x1 x2 x7 (decide (x9 ≥ t190)))) else (sextonlaw22_QuorumCommit.j1 k x0 x1 x2 x7 false))))
def sextonlaw22_QuorumCommit.j1 : Nat → List Int → Int → Int → Int → Bool → Option (Bool)
  | 0, _, _, _, _, _ => none
  | k + 1, x0, x1, x2, x7, x63 => if x63 = true then (some false) else (if x1 < 0 then (sextonlaw22_QuorumCommit.j2 k x0 x1 x2 x7 true) else (if x1 ≥ (x0.length : Int) then (sextonlaw22_QuorumCommit.j2 k x0 x1 x2 x7 true) else (if 0 ≤ x1 then (if x1 < (x0.length : Int) then (sextonlaw22_QuorumCommit.j2 k x0 x1 x2 x7 (decide (x2 < (rd x0 x1)))) else (none)) else (none))))
def sextonlaw22_QuorumCommit.j2 : Nat → List Int → Int → Int → Int → Bool → Option (Bool)
  | 0, _, _, _, _, _ => none
  | k + 1, x0, x1, x2, x7, x79 => if x79 = true then ((sextonlaw22_most.f k).bind fun t192 => (some t192)) else (if ([] : List Int).length + x0.length < 17592186044416 then ((some (([] : List Int) ++ x0 : List Int)).bind fun y193 => (if 0 ≤ x1 then (if x1 < (y193.length : Int) then ((sextonlaw22_most.f k).bind fun t197 => (if t197 = true then ((quorum_Commit.f (y193.set (x1 : Int).toNat x2)).bind fun t198 => (some (decide (t198 ≥ x7)))) else (some false))) else (none)) else (none))) else (none))
end
def sextonlaw22_QuorumCommit.f (k : Nat) (l0 : List Int) (a1 : Int) (a2 : Int) : Option (Bool) := if (l0.length : Int) > 60 then (some true) else ((quorum_Commit.f l0).bind fun t184 => (sextonlaw22_QuorumCommit.l0 k l0 a1 a2 t184 0 0 0))
theorem sextonlaw22_QuorumCommit.mono_l : ∀ k, (∀ y0 y1 y2 y3 y4 y5 y6, LeO (sextonlaw22_QuorumCommit.l0 k y0 y1 y2 y3 y4 y5 y6) (sextonlaw22_QuorumCommit.l0 (k + 1) y0 y1 y2 y3 y4 y5 y6)) ∧ (∀ y0 y1 y2 y3 y4, LeO (sextonlaw22_QuorumCommit.j1 k y0 y1 y2 y3 y4) (sextonlaw22_QuorumCommit.j1 (k + 1) y0 y1 y2 y3 y4)) ∧ (∀ y0 y1 y2 y3 y4, LeO (sextonlaw22_QuorumCommit.j2 k y0 y1 y2 y3 y4) (sextonlaw22_QuorumCommit.j2 (k + 1) y0 y1 y2 y3 y4))
  | 0 => ⟨fun _ _ _ _ _ _ _ r h => by simp [sextonlaw22_QuorumCommit.l0] at h, fun _ _ _ _ _ r h => by simp [sextonlaw22_QuorumCommit.j1] at h, fun _ _ _ _ _ r h => by simp [sextonlaw22_QuorumCommit.j2] at h⟩
  | k + 1 => by
    obtain ⟨ih0, ih1, ih2⟩ := sextonlaw22_QuorumCommit.mono_l k
    refine ⟨?_, ?_, ?_⟩
    · intro y0 y1 y2 y3 y4 y5 y6
      unfold sextonlaw22_QuorumCommit.l0
      repeat' first
      | (with_reducible exact ih0 _ _ _ _ _ _ _)
      | (with_reducible exact ih1 _ _ _ _ _)
      | (with_reducible exact ih2 _ _ _ _ _)
      | (with_reducible exact sextonlaw22_most.mono _)
      | (with_reducible exact LeO.refl _)
      | (with_reducible exact LeO.none _)
      | (with_reducible refine LeO.ite ?_ ?_)
      | (with_reducible refine LeO.bind ?_ (fun _ => ?_))
      | exact ih0 _ _ _ _ _ _ _
      | exact ih1 _ _ _ _ _
      | exact ih2 _ _ _ _ _
      | exact sextonlaw22_most.mono _
      | exact LeO.none _
      | refine LeO.ite ?_ ?_
      | refine LeO.bind ?_ (fun _ => ?_)
    · intro y0 y1 y2 y3 y4
      unfold sextonlaw22_QuorumCommit.j1
      repeat' first
      | (with_reducible exact ih0 _ _ _ _ _ _ _)
      | (with_reducible exact ih1 _ _ _ _ _)
      | (with_reducible exact ih2 _ _ _ _ _)
      | (with_reducible exact sextonlaw22_most.mono _)
      | (with_reducible exact LeO.refl _)
      | (with_reducible exact LeO.none _)
      | (with_reducible refine LeO.ite ?_ ?_)
      | (with_reducible refine LeO.bind ?_ (fun _ => ?_))
      | exact ih0 _ _ _ _ _ _ _
      | exact ih1 _ _ _ _ _
      | exact ih2 _ _ _ _ _
      | exact sextonlaw22_most.mono _
      | exact LeO.none _
      | refine LeO.ite ?_ ?_
      | refine LeO.bind ?_ (fun _ => ?_)
    · intro y0 y1 y2 y3 y4
      unfold sextonlaw22_QuorumCommit.j2
      repeat' first
      | (with_reducible exact ih0 _ _ _ _ _ _ _)
      | (with_reducible exact ih1 _ _ _ _ _)
      | (with_reducible exact ih2 _ _ _ _ _)
      | (with_reducible exact sextonlaw22_most.mono _)
      | (with_reducible exact LeO.refl _)
      | (with_reducible exact LeO.none _)
      | (with_reducible refine LeO.ite ?_ ?_)
      | (with_reducible refine LeO.bind ?_ (fun _ => ?_))
      | exact ih0 _ _ _ _ _ _ _
      | exact ih1 _ _ _ _ _
      | exact ih2 _ _ _ _ _
      | exact sextonlaw22_most.mono _
      | exact LeO.none _
      | refine LeO.ite ?_ ?_
      | refine LeO.bind ?_ (fun _ => ?_)
theorem sextonlaw22_QuorumCommit.mono : ∀ a0 a1 a2 k, LeO (sextonlaw22_QuorumCommit.f k a0 a1 a2) (sextonlaw22_QuorumCommit.f (k + 1) a0 a1 a2) := by
  intro a0 a1 a2 k
  obtain ⟨ih0, ih1, ih2⟩ := sextonlaw22_QuorumCommit.mono_l k
  unfold sextonlaw22_QuorumCommit.f
  repeat' first
      | (with_reducible exact ih0 _ _ _ _ _ _ _)
      | (with_reducible exact ih1 _ _ _ _ _)
      | (with_reducible exact ih2 _ _ _ _ _)
      | (with_reducible exact sextonlaw22_most.mono _)
      | (with_reducible exact LeO.refl _)
      | (with_reducible exact LeO.none _)
      | (with_reducible refine LeO.ite ?_ ?_)
      | (with_reducible refine LeO.bind ?_ (fun _ => ?_))
      | exact ih0 _ _ _ _ _ _ _
      | exact ih1 _ _ _ _ _
      | exact ih2 _ _ _ _ _
      | exact sextonlaw22_most.mono _
      | exact LeO.none _
      | refine LeO.ite ?_ ?_
      | refine LeO.bind ?_ (fun _ => ?_)
set_option maxHeartbeats 8000000 in
set_option maxRecDepth 100000 in
theorem sextonlaw22_QuorumCommit.calls (k : Nat) (A0 : Option Addr) (c0 : Nat) (l0 : List Int) (a1 : Int) (a2 : Int) (r : Bool) (w : World) (hr0 : Kd.C (Kd.int .i64) w A0 l0.length l0) (hc0 : l0.length ≤ c0) (h : sextonlaw22_QuorumCommit.f k l0 a1 a2 = some r) (ht : r = true) :
    Calls Try.prog 5 #[.slice A0 l0.length c0, .int .i64 a1, .int .i64 a2] w fun e w' => e = .returned (.bool r) ∧ Below w.heap.size w w' := by
  have HT := Aside0.mk ht
  clear ht
  have HR0 := Aside0.mk hr0
  have HC0 := Aside0.mk hc0
  clear hr0 hc0
  have HB := Aside0.mk (Below.refl w.heap.size w)
  have H : (if (l0.length : Int) > 60 then (some true) else ((quorum_Commit.f l0).bind fun t184 => (sextonlaw22_QuorumCommit.l0 k l0 a1 a2 t184 0 0 0))) = some r := h
  clear h
  by_cases c4 : (l0.length : Int) > 60
  · rw [if_pos c4] at H
    have c4b0 : decide (60 < (l0.length : Int)) = true := decide_eq_true c4
    have c4b1 : decide (60 < l0.length) = true := decide_eq_true (by omega)
    clear c4
    obtain rfl := Option.some.inj H
    go_enter Try.func5, Try.ntmps5
    go_wp2
    go_ret
    exact ⟨by first | rfl | (simp [errW_none, errW_some] <;> rfl) | (simp [*, errW_none, errW_some] <;> rfl), by repeat (first | (with_reducible first | exact HB.out | apply below_alloc | apply pw_below_drewN | apply below_drew1) | exact HB.out)⟩
  · rw [if_neg c4] at H
    have c4b0 : decide (60 < (l0.length : Int)) = false := decide_eq_false c4
    have c4b1 : decide (60 < l0.length) = false := decide_eq_false (by omega)
    clear c4
    replace H := Option.bind_eq_some_iff.mp H
    obtain ⟨t184, A50, H⟩ := H
    replace H : (sextonlaw22_QuorumCommit.l0 k l0 a1 a2 t184 0 0 0) = some r := H
    have A5 := Aside0.mk A50
    clear A50
    have H' := Aside0.mk H
    clear H
    go_enter Try.func5, Try.ntmps5
    go_wp2_with (first | ((with_reducible refine gate_callee (f := 14) rfl ?_); refine goesL_ (some 16) rfl rfl Try.func14 (by kernel_rfl) rfl #[.slice A0 l0.length c0] rfl (by (try simp only [List.map_toArray, List.map_cons, List.map_nil]); first | done | rfl | (simp only [List.length_drop, List.length_take]; rfl)) ?_; (with_reducible refine (quorum_Commit.calls _ _ l0 t184 _ ?side1 ?side2 A5.out).mono ?_); (case side1 => repeat (first | exact HR0.out | (with_reducible refine Kd.C_alloc ?_ _) | (with_reducible refine Kd.C_drewN ?_ _) | (with_reducible refine Kd.C_drew ?_))); (case side2 => exact HC0.out); rintro e w6 ⟨rfl, hb⟩; refine ⟨_, rfl, ?_⟩; have n0_ := Aside0.mk (below_step (by repeat (first | (with_reducible first | exact HB.out | apply below_alloc | apply pw_below_drewN | apply below_drew1) | exact HB.out)) hb); clear HB; have HB := n0_; clear n0_; (try clear hb); (try clear hb2); (try clear hk); (try clear hi)))
    go_loopg [8, 9, 10] k (fun kq v8 v9 v10 w' => ∃ (x8_1 : Int) (x9_1 : Int) (x10_1 : Int), v8 = .int .i64 x8_1 ∧ v9 = .int .i64 x9_1 ∧ v10 = .int .i64 x10_1 ∧ Aside0 (sextonlaw22_QuorumCommit.l0 kq l0 a1 a2 t184 x8_1 x9_1 x10_1 = some r) ∧ Aside0 (kq ≤ k) ∧ Aside0 (Below w.heap.size w w'))
    case atStart => exact ⟨(0), (0), (0), (by first | rfl | (simp; done) | (simp [*]; done)), (by first | rfl | (simp; done) | (simp [*]; done)), (by first | rfl | (simp; done) | (simp [*]; done)), H', ⟨Nat.le_refl _⟩, ⟨by repeat (first | (with_reducible first | exact HB.out | apply below_alloc | apply pw_below_drewN | apply below_drew1) | exact HB.out)⟩⟩
    case round =>
      clear H'
      try clear c1
      try clear p2
      try clear c4
      try clear c4b0
      try clear c4b1
      try clear c5
      obtain ⟨x8_1, x9_1, x10_1, rfl, rfl, rfl, HA, HK1, HB⟩ := hrel
      cases gk with
      | zero => exact absurd HA.out (by simp [sextonlaw22_QuorumCommit.l0])
      | succ k1 =>
        have H := HA.out
        clear HA
        simp only [sextonlaw22_QuorumCommit.l0] at H
        by_cases c7 : x10_1 < (l0.length : Int)
        · rw [if_pos c7] at H
          have c7b0 : decide (x10_1 < (l0.length : Int)) = true := decide_eq_true c7
          clear c7
          by_cases c8 : 0 ≤ x10_1
          · rw [if_pos c8] at H
            have c8b0 : decide (0 ≤ x10_1) = true := decide_eq_true c8
            clear c8
            by_cases c9 : (rd l0 x10_1) ≥ t184
            · rw [if_pos c9] at H
              have c9b0 : decide (t184 ≤ (rd l0 x10_1)) = true := decide_eq_true c9
              clear c9
              by_cases c10 : (rd l0 x10_1) > t184
              · rw [if_pos c10] at H
                have c10b0 : decide (t184 < (rd l0 x10_1)) = true := decide_eq_true c10
                clear c10
                have H' := Aside0.mk H
                clear H
                have p185 : 0 ≤ (x10_1 : Int) := of_decide_eq_true (by first | (with_reducible assumption) | assumption)
                have q185 : x10_1 < (l0.length : Int) := of_decide_eq_true (by first | (with_reducible assumption) | assumption)
                obtain ⟨ad185, e185, hx185_0⟩ := Kd.at_int HR0.out x10_1 p185 q185
                cases e185
                replace hx185_0 := (HB.out.cell (World.block_lt_of_cell? w _ hx185_0)).trans hx185_0
                replace p185 := eq_true p185
                replace q185 := eq_true q185
                have p186 : 0 ≤ (x10_1 : Int) := of_decide_eq_true (by first | (with_reducible assumption) | assumption)
                have q186 : x10_1 < (l0.length : Int) := of_decide_eq_true (by first | (with_reducible assumption) | assumption)
                obtain ⟨ad186, e186, hx186_0⟩ := Kd.at_int HR0.out x10_1 p186 q186
                obtain rfl : ad185 = ad186 := (by injection e186)
                replace hx186_0 := (HB.out.cell (World.block_lt_of_cell? w _ hx186_0)).trans hx186_0
                replace p186 := eq_true p186
                replace q186 := eq_true q186
                go_wp2
                go_roundg k1
                case measure => have := HK1.out; omega
                case rel => exact ⟨(wrap64 (x8_1 + 1)), (wrap64 (x9_1 + 1)), (wrap64 (x10_1 + 1)), (by first | rfl | (simp; done) | (simp [*]; done)), (by first | rfl | (simp; done) | (simp [*]; done)), (by first | rfl | (simp; done) | (simp [*]; done)), H', ⟨by have := HK1.out; omega⟩, ⟨by repeat (first | (with_reducible first | exact HB.out | apply below_alloc | apply pw_below_drewN | apply below_drew1) | exact HB.out)⟩⟩
              · rw [if_neg c10] at H
                have c10b0 : decide (t184 < (rd l0 x10_1)) = false := decide_eq_false c10
                clear c10
                have H' := Aside0.mk H
                clear H
                have p185 : 0 ≤ (x10_1 : Int) := of_decide_eq_true (by first | (with_reducible assumption) | assumption)
                have q185 : x10_1 < (l0.length : Int) := of_decide_eq_true (by first | (with_reducible assumption) | assumption)
                obtain ⟨ad185, e185, hx185_0⟩ := Kd.at_int HR0.out x10_1 p185 q185
                cases e185
                replace hx185_0 := (HB.out.cell (World.block_lt_of_cell? w _ hx185_0)).trans hx185_0
                replace p185 := eq_true p185
                replace q185 := eq_true q185
                have p186 : 0 ≤ (x10_1 : Int) := of_decide_eq_true (by first | (with_reducible assumption) | assumption)
                have q186 : x10_1 < (l0.length : Int) := of_decide_eq_true (by first | (with_reducible assumption) | assumption)
                obtain ⟨ad186, e186, hx186_0⟩ := Kd.at_int HR0.out x10_1 p186 q186
                obtain rfl : ad185 = ad186 := (by injection e186)
                replace hx186_0 := (HB.out.cell (World.block_lt_of_cell? w _ hx186_0)).trans hx186_0
                replace p186 := eq_true p186
                replace q186 := eq_true q186
                go_wp2
                go_roundg k1
                case measure => have := HK1.out; omega
                case rel => exact ⟨(wrap64 (x8_1 + 1)), (x9_1), (wrap64 (x10_1 + 1)), (by first | rfl | (simp; done) | (simp [*]; done)), (by first | rfl | (simp; done) | (simp [*]; done)), (by first | rfl | (simp; done) | (simp [*]; done)), H', ⟨by have := HK1.out; omega⟩, ⟨by repeat (first | (with_reducible first | exact HB.out | apply below_alloc | apply pw_below_drewN | apply below_drew1) | exact HB.out)⟩⟩
            · rw [if_neg c9] at H
              have c9b0 : decide (t184 ≤ (rd l0 x10_1)) = false := decide_eq_false c9
              clear c9
              by_cases c11 : (rd l0 x10_1) > t184
              · rw [if_pos c11] at H
                have c11b0 : decide (t184 < (rd l0 x10_1)) = true := decide_eq_true c11
                clear c11
                have H' := Aside0.mk H
                clear H
                have p185 : 0 ≤ (x10_1 : Int) := of_decide_eq_true (by first | (with_reducible assumption) | assumption)
                have q185 : x10_1 < (l0.length : Int) := of_decide_eq_true (by first | (with_reducible assumption) | assumption)
                obtain ⟨ad185, e185, hx185_0⟩ := Kd.at_int HR0.out x10_1 p185 q185
                cases e185
                replace hx185_0 := (HB.out.cell (World.block_lt_of_cell? w _ hx185_0)).trans hx185_0
                replace p185 := eq_true p185
                replace q185 := eq_true q185
                have p187 : 0 ≤ (x10_1 : Int) := of_decide_eq_true (by first | (with_reducible assumption) | assumption)
                have q187 : x10_1 < (l0.length : Int) := of_decide_eq_true (by first | (with_reducible assumption) | assumption)
                obtain ⟨ad187, e187, hx187_0⟩ := Kd.at_int HR0.out x10_1 p187 q187
                obtain rfl : ad185 = ad187 := (by injection e187)
                replace hx187_0 := (HB.out.cell (World.block_lt_of_cell? w _ hx187_0)).trans hx187_0
                replace p187 := eq_true p187
                replace q187 := eq_true q187
                go_wp2
                go_roundg k1
                case measure => have := HK1.out; omega
                case rel => exact ⟨(x8_1), (wrap64 (x9_1 + 1)), (wrap64 (x10_1 + 1)), (by first | rfl | (simp; done) | (simp [*]; done)), (by first | rfl | (simp; done) | (simp [*]; done)), (by first | rfl | (simp; done) | (simp [*]; done)), H', ⟨by have := HK1.out; omega⟩, ⟨by repeat (first | (with_reducible first | exact HB.out | apply below_alloc | apply pw_below_drewN | apply below_drew1) | exact HB.out)⟩⟩
              · rw [if_neg c11] at H
                have c11b0 : decide (t184 < (rd l0 x10_1)) = false := decide_eq_false c11
                clear c11
                have H' := Aside0.mk H
                clear H
                have p185 : 0 ≤ (x10_1 : Int) := of_decide_eq_true (by first | (with_reducible assumption) | assumption)
                have q185 : x10_1 < (l0.length : Int) := of_decide_eq_true (by first | (with_reducible assumption) | assumption)
                obtain ⟨ad185, e185, hx185_0⟩ := Kd.at_int HR0.out x10_1 p185 q185
                cases e185
                replace hx185_0 := (HB.out.cell (World.block_lt_of_cell? w _ hx185_0)).trans hx185_0
                replace p185 := eq_true p185
                replace q185 := eq_true q185
                have p187 : 0 ≤ (x10_1 : Int) := of_decide_eq_true (by first | (with_reducible assumption) | assumption)
                have q187 : x10_1 < (l0.length : Int) := of_decide_eq_true (by first | (with_reducible assumption) | assumption)
                obtain ⟨ad187, e187, hx187_0⟩ := Kd.at_int HR0.out x10_1 p187 q187
                obtain rfl : ad185 = ad187 := (by injection e187)
                replace hx187_0 := (HB.out.cell (World.block_lt_of_cell? w _ hx187_0)).trans hx187_0
                replace p187 := eq_true p187
                replace q187 := eq_true q187
                go_wp2
                go_roundg k1
                case measure => have := HK1.out; omega
                case rel => exact ⟨(x8_1), (x9_1), (wrap64 (x10_1 + 1)), (by first | rfl | (simp; done) | (simp [*]; done)), (by first | rfl | (simp; done) | (simp [*]; done)), (by first | rfl | (simp; done) | (simp [*]; done)), H', ⟨by have := HK1.out; omega⟩, ⟨by repeat (first | (with_reducible first | exact HB.out | apply below_alloc | apply pw_below_drewN | apply below_drew1) | exact HB.out)⟩⟩
          · rw [if_neg c8] at H
            exact absurd H (by simp)
        · rw [if_neg c7] at H
          have c7b0 : decide (x10_1 < (l0.length : Int)) = false := decide_eq_false c7
          clear c7
          have HC12 := Aside0.mk H
          clear H
          go_upto_region 13 with (fail)
          go_cut [63] (fun v63 wc => ∃ (kq : Nat) (x63_11 : Bool), v63 = .bool x63_11 ∧ Aside0 (sextonlaw22_QuorumCommit.j1 kq l0 a1 a2 t184 x63_11 = some r) ∧ Aside0 (kq ≤ k1) ∧ Aside0 (Below w.heap.size w wc))
          case first =>
            have H := HC12.out
            clear HC12
            by_cases c13 : t184 < 0
            · rw [if_pos c13] at H
              have c13b0 : decide (t184 < 0) = true := decide_eq_true c13
              clear c13
              (first | rw [c13b0] | (simp only [i64_w, i32_w]; rw [c13b0]) | skip)
              have H' := Aside0.mk H
              clear H
              go_wp2
              go_meet
              case rel => exact ⟨_, (true), (by first | rfl | (simp; done) | (simp [*]; done)), H', ⟨by have := HK1.out; first | omega | exact Nat.le_refl _⟩, ⟨by repeat (first | (with_reducible first | exact HB.out | apply below_alloc | apply pw_below_drewN | apply below_drew1) | exact HB.out)⟩⟩
            · rw [if_neg c13] at H
              have c13b0 : decide (t184 < 0) = false := decide_eq_false c13
              clear c13
              (first | rw [c13b0] | (simp only [i64_w, i32_w]; rw [c13b0]) | skip)
              by_cases c14 : t184 > 0
              · rw [if_pos c14] at H
                have c14b0 : decide (0 < t184) = true := decide_eq_true c14
                clear c14
                replace H := Option.bind_eq_some_iff.mp H
                obtain ⟨t188, A150, H⟩ := H
                replace H : (if x8_1 < t188 then (sextonlaw22_QuorumCommit.j1 k1 l0 a1 a2 t184 true) else (if (l0.length : Int) > 0 then ((quorum_Majority.f (l0.length : Int)).bind fun t189 => (sextonlaw22_QuorumCommit.j1 k1 l0 a1 a2 t184 (decide (x9_1 ≥ t189)))) else (sextonlaw22_QuorumCommit.j1 k1 l0 a1 a2 t184 false))) = some r := H
                have A15 := Aside0.mk A150
                clear A150
                by_cases c16 : x8_1 < t188
                · rw [if_pos c16] at H
                  have c16b0 : decide (x8_1 < t188) = true := decide_eq_true c16
                  clear c16
                  have H' := Aside0.mk H
                  clear H
                  go_wp2_with (first | (go_at_call 15; (with_reducible refine (quorum_Majority.calls (l0.length : Int) t188 _ A15.out).mono ?_); rintro e w' ⟨rfl, ⟨nd, rfl⟩⟩))
                  go_meet
                  case rel => exact ⟨_, (true), (by first | rfl | (simp; done) | (simp [*]; done)), H', ⟨by have := HK1.out; first | omega | exact Nat.le_refl _⟩, ⟨by repeat (first | (with_reducible first | exact HB.out | apply below_alloc | apply pw_below_drewN | apply below_drew1) | exact HB.out)⟩⟩
                · rw [if_neg c16] at H
                  have c16b0 : decide (x8_1 < t188) = false := decide_eq_false c16
                  clear c16
                  by_cases c17 : (l0.length : Int) > 0
                  · rw [if_pos c17] at H
                    have c17b0 : decide (0 < (l0.length : Int)) = true := decide_eq_true c17
                    have c17b1 : decide (0 < l0.length) = true := decide_eq_true (by omega)
                    clear c17
                    replace H := Option.bind_eq_some_iff.mp H
                    obtain ⟨t189, A180, H⟩ := H
                    replace H : (sextonlaw22_QuorumCommit.j1 k1 l0 a1 a2 t184 (decide (x9_1 ≥ t189))) = some r := H
                    have A18 := Aside0.mk A180
                    clear A180
                    have H' := Aside0.mk H
                    clear H
                    have E_ : t188 = t189 := Option.some.inj (A15.out.symm.trans A18.out)
                    subst E_
                    go_wp2_with (first | (go_at_call 15; (with_reducible refine (quorum_Majority.calls (l0.length : Int) t188 _ A15.out).mono ?_); rintro e w' ⟨rfl, ⟨nd, rfl⟩⟩) | (go_at_call 15; (with_reducible refine (quorum_Majority.calls (l0.length : Int) t188 _ A18.out).mono ?_); rintro e w' ⟨rfl, ⟨nd, rfl⟩⟩))
                    go_meet
                    case rel => exact ⟨_, (decide (x9_1 ≥ t188)), (by first | rfl | (simp; done) | (simp [*]; done)), H', ⟨by have := HK1.out; first | omega | exact Nat.le_refl _⟩, ⟨by repeat (first | (with_reducible first | exact HB.out | apply below_alloc | apply pw_below_drewN | apply below_drew1) | exact HB.out)⟩⟩
                  · rw [if_neg c17] at H
                    have c17b0 : decide (0 < (l0.length : Int)) = false := decide_eq_false c17
                    have c17b1 : decide (0 < l0.length) = false := decide_eq_false (by omega)
                    clear c17
                    have H' := Aside0.mk H
                    clear H
                    go_wp2_with (first | (go_at_call 15; (with_reducible refine (quorum_Majority.calls (l0.length : Int) t188 _ A15.out).mono ?_); rintro e w' ⟨rfl, ⟨nd, rfl⟩⟩))
                    go_meet
                    case rel => exact ⟨_, (false), (by first | rfl | (simp; done) | (simp [*]; done)), H', ⟨by have := HK1.out; first | omega | exact Nat.le_refl _⟩, ⟨by repeat (first | (with_reducible first | exact HB.out | apply below_alloc | apply pw_below_drewN | apply below_drew1) | exact HB.out)⟩⟩
              · rw [if_neg c14] at H
                have c14b0 : decide (0 < t184) = false := decide_eq_false c14
                clear c14
                by_cases c19 : (l0.length : Int) > 0
                · rw [if_pos c19] at H
                  have c19b0 : decide (0 < (l0.length : Int)) = true := decide_eq_true c19
                  have c19b1 : decide (0 < l0.length) = true := decide_eq_true (by omega)
                  clear c19
                  replace H := Option.bind_eq_some_iff.mp H
                  obtain ⟨t190, A200, H⟩ := H
                  replace H : (sextonlaw22_QuorumCommit.j1 k1 l0 a1 a2 t184 (decide (x9_1 ≥ t190))) = some r := H
                  have A20 := Aside0.mk A200
                  clear A200
                  have H' := Aside0.mk H
                  clear H
                  go_wp2_with (first | (go_at_call 15; (with_reducible refine (quorum_Majority.calls (l0.length : Int) t190 _ A20.out).mono ?_); rintro e w' ⟨rfl, ⟨nd, rfl⟩⟩))
                  go_meet
                  case rel => exact ⟨_, (decide (x9_1 ≥ t190)), (by first | rfl | (simp; done) | (simp [*]; done)), H', ⟨by have := HK1.out; first | omega | exact Nat.le_refl _⟩, ⟨by repeat (first | (with_reducible first | exact HB.out | apply below_alloc | apply pw_below_drewN | apply below_drew1) | exact HB.out)⟩⟩
                · rw [if_neg c19] at H
                  have c19b0 : decide (0 < (l0.length : Int)) = false := decide_eq_false c19
                  have c19b1 : decide (0 < l0.length) = false := decide_eq_false (by omega)
                  clear c19
                  have H' := Aside0.mk H
                  clear H
                  go_wp2
                  go_meet
                  case rel => exact ⟨_, (false), (by first | rfl | (simp; done) | (simp [*]; done)), H', ⟨by have := HK1.out; first | omega | exact Nat.le_refl _⟩, ⟨by repeat (first | (with_reducible first | exact HB.out | apply below_alloc | apply pw_below_drewN | apply below_drew1) | exact HB.out)⟩⟩
          case rest =>
            clear HC12
            try clear c1
            try clear p1
            try clear q1
            try clear hx1
            try clear p2
            try clear c4
            try clear c4b0
            try clear c4b1
            try clear c5
            try clear p6
            try clear c7
            try clear c7b0
            try clear c8
            try clear c8b0
            try clear c9
            try clear c9b0
            try clear c10
            try clear c10b0
            try clear c11
            try clear c11b0
            try clear c13
            try clear c13b0
            try clear c14
            try clear c14b0
            try clear c16
            try clear c16b0
            try clear c17
            try clear c17b0
            try clear c17b1
            try clear p18
            try clear q18
            try clear hx18
            try clear c19
            try clear c19b0
            try clear c19b1
            try clear hx185_0
            try clear hx186_0
            try clear hx187_0
            try clear p185
            try clear p186
            try clear p187
            try clear p2
            try clear q185
            try clear q186
            try clear q187
            obtain ⟨kq, x63_11, rfl, HA, HJ11, HB⟩ := hcut
            cases kq with
            | zero => exact absurd HA.out (by simp [sextonlaw22_QuorumCommit.j1])
            | succ kj11 =>
              have H := HA.out
              clear HA
              simp only [sextonlaw22_QuorumCommit.j1] at H
              by_cases c21 : x63_11 = true
              · subst c21
                have H1 : (some false) = some r := by rw [if_pos rfl] at H; exact H
                clear H
                have H := H1
                clear H1
                exact absurd (H.trans (congrArg some HT.out)) (by simp)
              · replace c21 := Bool.eq_false_iff.mpr c21
                subst c21
                have H1 : (if a1 < 0 then (sextonlaw22_QuorumCommit.j2 kj11 l0 a1 a2 t184 true) else (if a1 ≥ (l0.length : Int) then (sextonlaw22_QuorumCommit.j2 kj11 l0 a1 a2 t184 true) else (if 0 ≤ a1 then (if a1 < (l0.length : Int) then (sextonlaw22_QuorumCommit.j2 kj11 l0 a1 a2 t184 (decide (a2 < (rd l0 a1)))) else (none)) else (none)))) = some r := by rw [if_neg (show ¬ (false = true) by decide)] at H; exact H
                clear H
                have H := H1
                clear H1
                have HC22 := Aside0.mk H
                clear H
                go_upto_region 15 with (fail)
                go_cut [79] (fun v79 wc => ∃ (kq : Nat) (x79_21 : Bool), v79 = .bool x79_21 ∧ Aside0 (sextonlaw22_QuorumCommit.j2 kq l0 a1 a2 t184 x79_21 = some r) ∧ Aside0 (kq ≤ kj11) ∧ Aside0 (Below w.heap.size w wc))
                case first =>
                  have H := HC22.out
                  clear HC22
                  by_cases c23 : a1 < 0
                  · rw [if_pos c23] at H
                    have c23b0 : decide (a1 < 0) = true := decide_eq_true c23
                    clear c23
                    (first | rw [c23b0] | (simp only [i64_w, i32_w]; rw [c23b0]) | skip)
                    have H' := Aside0.mk H
                    clear H
                    go_wp2
                    go_meet
                    case rel => exact ⟨_, (true), (by first | rfl | (simp; done) | (simp [*]; done)), H', ⟨by have := HK1.out; have := HJ11.out; first | omega | exact Nat.le_refl _⟩, ⟨by repeat (first | (with_reducible first | exact HB.out | apply below_alloc | apply pw_below_drewN | apply below_drew1) | exact HB.out)⟩⟩
                  · rw [if_neg c23] at H
                    have c23b0 : decide (a1 < 0) = false := decide_eq_false c23
                    clear c23
                    (first | rw [c23b0] | (simp only [i64_w, i32_w]; rw [c23b0]) | skip)
                    by_cases c24 : a1 ≥ (l0.length : Int)
                    · rw [if_pos c24] at H
                      have c24b0 : decide ((l0.length : Int) ≤ a1) = true := decide_eq_true c24
                      clear c24
                      have H' := Aside0.mk H
                      clear H
                      go_wp2
                      go_meet
                      case rel => exact ⟨_, (true), (by first | rfl | (simp; done) | (simp [*]; done)), H', ⟨by have := HK1.out; have := HJ11.out; first | omega | exact Nat.le_refl _⟩, ⟨by repeat (first | (with_reducible first | exact HB.out | apply below_alloc | apply pw_below_drewN | apply below_drew1) | exact HB.out)⟩⟩
                    · rw [if_neg c24] at H
                      have c24b0 : decide ((l0.length : Int) ≤ a1) = false := decide_eq_false c24
                      clear c24
                      by_cases c25 : 0 ≤ a1
                      · rw [if_pos c25] at H
                        have c25b0 : decide (0 ≤ a1) = true := decide_eq_true c25
                        clear c25
                        by_cases c26 : a1 < (l0.length : Int)
                        · rw [if_pos c26] at H
                          have c26b0 : decide (a1 < (l0.length : Int)) = true := decide_eq_true c26
                          clear c26
                          have H' := Aside0.mk H
                          clear H
                          have p191 : 0 ≤ (a1 : Int) := of_decide_eq_true (by first | (with_reducible assumption) | assumption)
                          have q191 : a1 < (l0.length : Int) := of_decide_eq_true (by first | (with_reducible assumption) | assumption)
                          obtain ⟨ad191, e191, hx191_0⟩ := Kd.at_int HR0.out a1 p191 q191
                          cases e191
                          replace hx191_0 := (HB.out.cell (World.block_lt_of_cell? w _ hx191_0)).trans hx191_0
                          replace p191 := eq_true p191
                          replace q191 := eq_true q191
                          go_wp2
                          go_meet
                          case rel => exact ⟨_, (decide (a2 < (rd l0 a1))), (by first | rfl | (simp; done) | (simp [*]; done)), H', ⟨by have := HK1.out; have := HJ11.out; first | omega | exact Nat.le_refl _⟩, ⟨by repeat (first | (with_reducible first | exact HB.out | apply below_alloc | apply pw_below_drewN | apply below_drew1) | exact HB.out)⟩⟩
                        · rw [if_neg c26] at H
                          exact absurd H (by simp)
                      · rw [if_neg c25] at H
                        exact absurd H (by simp)
                case rest =>
                  clear HC22
                  try clear c1
                  try clear p1
                  try clear q1
                  try clear hx1
                  try clear c2
                  try clear p2
                  try clear c4
                  try clear c4b0
                  try clear c4b1
                  try clear c5
                  try clear p6
                  try clear c7
                  try clear c7b0
                  try clear c8
                  try clear c8b0
                  try clear c9
                  try clear c9b0
                  try clear c10
                  try clear c10b0
                  try clear c11
                  try clear c11b0
                  try clear c13
                  try clear c13b0
                  try clear c14
                  try clear c14b0
                  try clear c16
                  try clear c16b0
                  try clear c17
                  try clear c17b0
                  try clear c17b1
                  try clear p18
                  try clear q18
                  try clear hx18
                  try clear c19
                  try clear c19b0
                  try clear c19b1
                  try clear p19
                  try clear q19
                  try clear hx19
                  try clear c21
                  try clear c23
                  try clear c23b0
                  try clear c24
                  try clear c24b0
                  try clear c25
                  try clear c25b0
                  try clear c26
                  try clear c26b0
                  try clear hx185_0
                  try clear hx186_0
                  try clear hx187_0
                  try clear hx191_0
                  try clear p1
                  try clear p18
                  try clear p185
                  try clear p186
                  try clear p187
                  try clear p191
                  try clear p2
                  try clear p6
                  try clear q1
                  try clear q18
                  try clear q185
                  try clear q186
                  try clear q187
                  try clear q191
                  obtain ⟨kq, x79_21, rfl, HA, HJ21, HB⟩ := hcut
                  cases kq with
                  | zero => exact absurd HA.out (by simp [sextonlaw22_QuorumCommit.j2])
                  | succ kj21 =>
                    have H := HA.out
                    clear HA
                    simp only [sextonlaw22_QuorumCommit.j2] at H
                    by_cases c27 : x79_21 = true
                    · subst c27
                      have H1 : ((sextonlaw22_most.f kj21).bind fun t192 => (some t192)) = some r := by rw [if_pos rfl] at H; exact H
                      clear H
                      have H := H1
                      clear H1
                      replace H := Option.bind_eq_some_iff.mp H
                      obtain ⟨t192, A280, H⟩ := H
                      replace H : (some t192) = some r := H
                      have A28 := Aside0.mk A280
                      clear A280
                      obtain rfl := Option.some.inj H
                      go_wp2_with (first | ((with_reducible refine gate_callee (f := 9) rfl ?_); refine goesL_ (some 80) rfl rfl Try.func9 (by kernel_rfl) rfl #[] rfl (by (try simp only [List.map_toArray, List.map_cons, List.map_nil]); first | done | rfl | (simp only [List.length_drop, List.length_take]; rfl)) ?_; (with_reducible refine (sextonlaw22_most.calls kj21  t192 _ A28.out (sextonlaw22_most.istrue A28.out)).mono ?_); rintro e w29 ⟨rfl, hb⟩; refine ⟨_, rfl, ?_⟩; have n0_ := Aside0.mk (below_step (by repeat (first | (with_reducible first | exact HB.out | apply below_alloc | apply pw_below_drewN | apply below_drew1) | exact HB.out)) hb); clear HB; have HB := n0_; clear n0_; (try clear hb); (try clear hb2); (try clear hk); (try clear hi)))
                      go_ret
                      exact ⟨by first | rfl | (simp [errW_none, errW_some] <;> rfl) | (simp [*, errW_none, errW_some] <;> rfl), by repeat (first | (with_reducible first | exact HB.out | apply below_alloc | apply pw_below_drewN | apply below_drew1) | exact HB.out)⟩
                    · replace c27 := Bool.eq_false_iff.mpr c27
                      subst c27
                      have H1 : (if ([] : List Int).length + l0.length < 17592186044416 then ((some (([] : List Int) ++ l0 : List Int)).bind fun y193 => (if 0 ≤ a1 then (if a1 < (y193.length : Int) then ((sextonlaw22_most.f kj21).bind fun t197 => (if t197 = true then ((quorum_Commit.f (y193.set (a1 : Int).toNat a2)).bind fun t198 => (some (decide (t198 ≥ t184)))) else (some false))) else (none)) else (none))) else (none)) = some r := by rw [if_neg (show ¬ (false = true) by decide)] at H; exact H
                      clear H
                      have H := H1
                      clear H1
                      by_cases c30 : ([] : List Int).length + l0.length < 17592186044416
                      · rw [if_pos c30] at H
                        have LMc30 := Aside0.mk c30
                        clear c30
                        obtain ⟨y193, hy193⟩ : ∃ y_ : List Int, y_ = (([] : List Int) ++ l0) := ⟨_, rfl⟩
                        replace H : (if 0 ≤ a1 then (if a1 < (y193.length : Int) then ((sextonlaw22_most.f kj21).bind fun t197 => (if t197 = true then ((quorum_Commit.f (y193.set (a1 : Int).toNat a2)).bind fun t198 => (some (decide (t198 ≥ t184)))) else (some false))) else (none)) else (none)) = some r := by first | (rw [hy193]; with_reducible exact H) | (have H2_ := (Option.bind_some _ _).symm.trans H; rw [hy193]; with_reducible exact H2_) | (have H2_ := (Option.bind_some _ _).symm.trans H; with_reducible exact H2_) | with_reducible exact H | (rw [hy193]; exact H) | exact H
                        have Ny193 := Aside0.mk hy193
                        clear hy193
                        by_cases c31 : 0 ≤ a1
                        · rw [if_pos c31] at H
                          have c31b0 : decide (0 ≤ a1) = true := decide_eq_true c31
                          clear c31
                          by_cases c32 : a1 < (y193.length : Int)
                          · rw [if_pos c32] at H
                            have c32b0 : decide (a1 < (y193.length : Int)) = true := decide_eq_true c32
                            clear c32
                            obtain ⟨y196, hy196⟩ : ∃ y_ : List Int, y_ = (y193.set (a1 : Int).toNat a2) := ⟨_, rfl⟩
                            replace H : ((sextonlaw22_most.f kj21).bind fun t197 => (if t197 = true then ((quorum_Commit.f y196).bind fun t198 => (some (decide (t198 ≥ t184)))) else (some false))) = some r := by first | (rw [hy196]; with_reducible exact H) | (have H2_ := (Option.bind_some _ _).symm.trans H; rw [hy196]; with_reducible exact H2_) | (have H2_ := (Option.bind_some _ _).symm.trans H; with_reducible exact H2_) | with_reducible exact H | (rw [hy196]; exact H) | exact H
                            have Ny196 := Aside0.mk hy196
                            clear hy196
                            replace H := Option.bind_eq_some_iff.mp H
                            obtain ⟨t197, A340, H⟩ := H
                            replace H : (if t197 = true then ((quorum_Commit.f y196).bind fun t198 => (some (decide (t198 ≥ t184)))) else (some false)) = some r := H
                            have A34 := Aside0.mk A340
                            clear A340
                            by_cases c35 : t197 = true
                            · subst c35
                              have H1 : ((quorum_Commit.f y196).bind fun t198 => (some (decide (t198 ≥ t184)))) = some r := by rw [if_pos rfl] at H; exact H
                              clear H
                              have H := H1
                              clear H1
                              replace H := Option.bind_eq_some_iff.mp H
                              obtain ⟨t198, A360, H⟩ := H
                              replace H : (some (decide (t198 ≥ t184))) = some r := H
                              have A36 := Aside0.mk A360
                              clear A360
                              obtain rfl := Option.some.inj H
                              go_wp2_with (first | ((with_reducible refine gate_builtin (b := .append) (xs := #[.tmp 81, .tmp 82]) rfl ?_); (try (refine gate_guard (by rfl) ?_; dsimp only)); at_builtin; refine Kd.R_append_rows (Kd.int .i64) (w0 := w) w.heap.size rfl (.tmp 81) (.tmp 82) 33 3 (.int .i64 0) 8 rfl Try.underlying33 info3 rfl (by decide) (by omega) (.slice none 0 0) ([] : List Int) l0 _ _ _ (fun _ => True) (fun _ => False) rfl rfl ?aO ?aR (fun _ _ h => h) (fun _ h => h.elim) ?aF ?aB ?aS ?aL ?_; (case aR => (try change Kd.C (Kd.int .i64) _ _ _ _); repeat (first | exact (Kd.C_below HR0.out HB.out) | (with_reducible refine Kd.C_alloc ?_ _) | (with_reducible refine Kd.C_drewN ?_ _) | (with_reducible refine Kd.C_drew ?_))); (case aB => exact (by repeat (first | (with_reducible first | exact HB.out | apply below_alloc | apply pw_below_drewN | apply below_drew1) | exact HB.out))); (case aF => exact (fun _ _ => trivial)); (case aO => exact ((Kd.R_nil _ _ _ _ (fun _ => True)))); (case aS => exact (below_size (by repeat (first | (with_reducible first | exact HB.out | apply below_alloc | apply pw_below_drewN | apply below_drew1) | exact HB.out)))); (case aL => have := LMc30.out; omega); intro v194 w37 ho hb hg hat; rw [← Ny193.out] at ho; have n0_ := Aside0.mk (hb); have n1_ := Aside0.mk (ho); clear HB; have HB := n0_; have HO195 := n1_; clear n0_ n1_; clear ho hb hg hat; have p33 : 0 ≤ (a1 : Int) := of_decide_eq_true (by first | (with_reducible assumption) | assumption); have q33 : (a1 : Int) < ((y193.length : Int) : Int) := of_decide_eq_true (by first | (with_reducible assumption) | assumption); obtain ⟨go33, co33, eo33, gb33, gl33, cl33, HG33⟩ := Kd.R_form HO195.out (by omega); (first | cases eo33 | (injection eo33 with ea_ en_ ec_; (first | subst ea_ | (injection ea_ with ea_; subst ea_)); subst ec_; clear en_)); have GB33 := Aside0.mk gb33; have GG33 := Aside0.mk HG33; clear gb33 gl33 HG33; obtain ⟨hx33_0, hf33_0⟩ := Kd.R_celln 0 HO195.out (a1 : Int) p33 q33; replace p33 := eq_true p33; replace q33 := eq_true q33; obtain ⟨hy38_, hz38_⟩ := Kd.R_celln 0 HO195.out (a1 : Int) (of_decide_eq_true (by first | (with_reducible assumption) | assumption)) (of_decide_eq_true (by first | (with_reducible assumption) | assumption)); have HP38 := Kd.R_putg HO195.out (a1 : Int) a2) | ((with_reducible refine gate_store (t := 3) (p := 87) rfl ?_); refine store_event (t := 3) (p := 87) (v := ?vo_w39) (w1 := (w37.setCell ⟨go33, (a1 : Int).toNat, none⟩ (.int .i64 a2))) ?hg ?ho ?hn ?hr ?_; (case ho => rfl); (case hg => rfl); (case hn => rfl); (case hr => first | (go_simp; done) | (go_simp; rfl)); intro w39 hw; have hg : w37.grownBy w39 (some go33) := (by rw [hw]; exact HP38.2); have hp_ : Kd.R (Kd.int .i64) 3 w39 w.heap.size (fun _ => True) (.slice (some ⟨go33, 0, none⟩) y193.length co33) y196 := (by rw [hw, Ny196.out]; exact HP38.1); clear HP38; have n0_ := Aside0.mk (hp_); have n1_ := Aside0.mk ((by rw [hw]; exact below_set (HB.out) GB33.out : Below w.heap.size w w39)); clear HO195; clear HB; have HO195 := n0_; have HB := n1_; clear n0_ n1_; clear hg hw hp_) | ((with_reducible refine gate_callee (f := 9) rfl ?_); refine goesL_ (some 88) rfl rfl Try.func9 (by kernel_rfl) rfl #[] rfl (by (try simp only [List.map_toArray, List.map_cons, List.map_nil]); first | done | rfl | (simp only [List.length_drop, List.length_take]; rfl)) ?_; (with_reducible refine (sextonlaw22_most.calls kj21  true _ A34.out (sextonlaw22_most.istrue A34.out)).mono ?_); rintro e w40 ⟨rfl, hb⟩; refine ⟨_, rfl, ?_⟩; have n0_ := Aside0.mk (Kd.R_below (by (with_reducible repeat (first | apply Kd.R_alloc | apply Kd.R_drewN | apply Kd.R_drew)); exact HO195.out) hb); have n1_ := Aside0.mk (below_step (by repeat (first | (with_reducible first | exact HB.out | apply below_alloc | apply pw_below_drewN | apply below_drew1) | exact HB.out)) hb); clear HO195; clear HB; have HO195 := n0_; have HB := n1_; clear n0_ n1_; (try clear hb); (try clear hb2); (try clear hk); (try clear hi)) | (go_at_call 14; refine calls_of_args (args' := #[.slice (some ⟨go33, 0, none⟩) y196.length co33]) (by first | (rw [show y196.length = y193.length from (Kd.R_reads' HO195.out).1.symm] <;> rfl) | rfl) ?_; (with_reducible refine (quorum_Commit.calls _ _ y196 t198 _ ?side1 ?side2 A36.out).mono ?_); (case side1 => repeat (first | exact (Kd.R_reads' HO195.out).2.2 | (with_reducible refine Kd.C_alloc ?_ _) | (with_reducible refine Kd.C_drewN ?_ _) | (with_reducible refine Kd.C_drew ?_))); (case side2 => rw [show y196.length = y193.length from (Kd.R_reads' HO195.out).1.symm]; exact (Kd.R_reads' HO195.out).2.1); rintro e w41 ⟨rfl, hb⟩; have n0_ := Aside0.mk (Kd.R_below (by (with_reducible repeat (first | apply Kd.R_alloc | apply Kd.R_drewN | apply Kd.R_drew)); exact HO195.out) hb); have n1_ := Aside0.mk (below_step (by repeat (first | (with_reducible first | exact HB.out | apply below_alloc | apply pw_below_drewN | apply below_drew1) | exact HB.out)) hb); clear HO195; clear HB; have HO195 := n0_; have HB := n1_; clear n0_ n1_; (try clear hb); (try clear hb2); (try clear hk); (try clear hi)))
                              go_ret
                              exact ⟨by first | rfl | (simp [errW_none, errW_some] <;> rfl) | (simp [*, errW_none, errW_some] <;> rfl), by repeat (first | (with_reducible first | exact HB.out | apply below_alloc | apply pw_below_drewN | apply below_drew1) | exact HB.out)⟩
                            · replace c35 := Bool.eq_false_iff.mpr c35
                              subst c35
                              have H1 : (some false) = some r := by rw [if_neg (show ¬ (false = true) by decide)] at H; exact H
                              clear H
                              have H := H1
                              clear H1
                              exact absurd (H.trans (congrArg some HT.out)) (by simp)
                          · rw [if_neg c32] at H
                            exact absurd H (by simp)
                        · rw [if_neg c31] at H
                          exact absurd H (by simp)
                      · rw [if_neg c30] at H
                        exact absurd H (by simp)

/-! ### quorum_Enough: function 16 (given) -/
-- given making: yes
-- given info: 29
def quorum_Enough.froms (l : List S29) : List Int := l.foldl (fun a v => if a.contains v.f0 then a else v.f0 :: a) []
theorem quorum_Enough.froms_append (l : List S29) (v : S29) : quorum_Enough.froms (l ++ [v]) = if (quorum_Enough.froms l).contains v.f0 then quorum_Enough.froms l else v.f0 :: quorum_Enough.froms l := by simp [quorum_Enough.froms]
theorem quorum_Enough.froms_length (l : List S29) : (quorum_Enough.froms l).length ≤ l.length := by
  have h : ∀ (l : List S29) (a : List Int), (l.foldl (fun a v => if a.contains v.f0 then a else v.f0 :: a) a).length ≤ a.length + l.length := by
    intro l
    induction l with
    | nil => intro a; simp
    | cons v l ih =>
      intro a
      rw [List.foldl_cons]
      refine Nat.le_trans (ih _) ?_
      split <;> simp <;> omega
  have h1 := h l []
  simpa [quorum_Enough.froms] using h1
/-- What the map holds: the numbers of those that were seen. -/
def quorum_Enough.Inv (D : DataW Unit) (ks : List Int) : Prop := Maps.size D = ks.length ∧ ∀ c : Int, Maps.has D (.int .i64 c) = ks.contains c
theorem quorum_Enough.inv_put {w : World} {b n : Nat} {D : DataW Unit} {ks : List Int} (ho : w.ownsMap Try.prog 3 (plainElem Try.prog 4) b n D) (h : quorum_Enough.Inv D ks) (c : Int) (d : DataW Unit) : quorum_Enough.Inv (D.put (.int .i64 c) d) (if ks.contains c then ks else c :: ks) := by
  have hk : WideAt.IsKeyLit (.int .i64 c) := trivial
  refine ⟨?_, fun c' => ?_⟩
  · rw [Maps.size_put (ho.tidy (Maps.int_keyed Try.underlying3)), h.1, h.2 c]
    split <;> simp
  · by_cases he : c' = c
    · subst he
      rw [Maps.has_put_same ho.isMap hk]
      split
      · rename_i h1; exact h1.symm
      · simp
    · rw [Maps.has_put_other (by simpa using he), h.2 c']
      split
      · rfl
      · simp [he]
def quorum_Enough.f (l0 : List S29) (a1 : Int) : Option Bool := if a1 < 1 then some false else if l0.all (fun v => (Lit.int .i64 v.f0).wf) = true ∧ l0.length < 4398046511104 ∧ a1 ≤ 9223372036854775807 then some (decide (a1 / 2 + 1 ≤ ((quorum_Enough.froms l0).length : Int))) else none
theorem quorum_Enough.maj (n : Int) (h0 : 1 ≤ n) (hn : n ≤ 9223372036854775807) (w : World) :
    Calls Try.prog 15 #[.int .i64 n] w fun e w' => e = .returned (.int .i64 (n / 2 + 1)) ∧ Drawn0 w w' := by
  have c2b0 : decide (n < 1) = false := decide_eq_false (by omega)
  have hw : IntKind.i64.wrap (IntKind.i64.wrap (Int.tdiv n 2) + 1) = n / 2 + 1 := by
    rw [Int.tdiv_eq_ediv_of_nonneg (by omega), IntKind.wrap_i64, IntKind.wrap_i64]
    omega
  go_enter Try.func15, Try.ntmps15
  go_wp2
  go_ret
  refine ⟨?_, by repeat (first | exact Drawn0.refl _ | apply Drawn0.step)⟩
  simp [hw]
set_option maxHeartbeats 8000000 in
set_option maxRecDepth 100000 in
theorem quorum_Enough.calls (A0 : Option Addr) (c0 : Nat) (l0 : List S29) (a1 : Int) (r : Bool) (w : World) (hr0 : Kd.C k29 w A0 l0.length l0) (hc0 : l0.length ≤ c0) (h : quorum_Enough.f l0 a1 = some r) :
    Calls Try.prog 16 #[.slice A0 l0.length c0, .int .i64 a1] w fun e w' => e = .returned (.bool r) ∧ Below w.heap.size w w' := by
  have hu29 := Try.underlying29
  have hu54 := Try.underlying54
  have HR := Aside0.mk hr0
  have HC := Aside0.mk hc0
  clear hr0 hc0
  unfold quorum_Enough.f at h
  by_cases h0 : a1 < 1
  · rw [if_pos h0] at h
    obtain rfl := Option.some.inj h
    have hb : decide (a1 < 1) = true := decide_eq_true h0
    go_enter Try.func16, Try.ntmps16
    go_wp2
    go_ret
    exact ⟨rfl, Below.refl _ _⟩
  rw [if_neg h0] at h
  split at h
  case isFalse => cases h
  rename_i hl
  obtain ⟨hwf, hl, ha1⟩ := hl
  have hr := Option.some.inj h
  clear h
  have HR1 := Aside0.mk hr
  have HWF := Aside0.mk hwf
  have HL := Aside0.mk hl
  clear hr hwf hl
  have hb : decide (a1 < 1) = false := decide_eq_false h0
  have hmk : ∀ W : World, (Instr.makeMap 54 none).run Try.prog W = .ok (.map (some W.heap.size)) (W.alloc (.map #[] 0)) := fun _ => rfl
  have HM := Aside0.mk (quorum_Enough.maj a1 (by omega) ha1)
  have h01 := Aside0.mk h0
  have ha11 := Aside0.mk ha1
  clear h0 ha1
  go_enter Try.func16, Try.ntmps16
  go_wp2
  go_loopg [13] l0.length (fun kq v13 w' => ∃ (i : Nat) (D : DataW Unit), v13 = .int .i64 (i : Int) ∧ Aside0 (kq = l0.length - i ∧ i ≤ l0.length) ∧ Aside0 (w'.ownsMap Try.prog 3 (plainElem Try.prog 4) w.heap.size i D) ∧ Aside0 (quorum_Enough.Inv D (quorum_Enough.froms (l0.take i))) ∧ Aside0 (Below w.heap.size w w'))
  case atStart =>
    refine ⟨0, .map [], rfl, ⟨by simp, by omega⟩, ⟨World.ownsMap_made w _ _ _⟩, ⟨by rfl, fun c => by rfl⟩, ⟨below_alloc (Below.refl _ _) _⟩⟩
  case round =>
    obtain ⟨i, D, rfl, hi, HO, HI, HB⟩ := hrel
    by_cases hlt : i < l0.length
    · have hb1 : decide ((i : Int) < (l0.length : Int)) = true := decide_eq_true (by omega)
      have p1 : (0 : Int) ≤ (i : Int) := by omega
      have q1 : (i : Int) < (l0.length : Int) := by omega
      obtain ⟨ad, A3, c3, rfl, hx0, hx1, hx2, hx3, hl3, hi3⟩ := at_T29 HR.out (i : Int) p1 q1
      simp only [Int.toNat_natCast] at hx0 hx1 hx2 hx3
      replace hx0 := (HB.out.cell (World.block_lt_of_cell? w _ hx0)).trans hx0
      replace hx1 := (HB.out.cell (World.block_lt_of_cell? w _ hx1)).trans hx1
      replace hx2 := (HB.out.cell (World.block_lt_of_cell? w _ hx2)).trans hx2
      replace hx3 := (HB.out.cell (World.block_lt_of_cell? w _ hx3)).trans hx3
      have hwf : (Lit.int .i64 (rd_T29 l0 (i : Int)).f0).wf = true := by
        have h1 := List.all_eq_true.1 HWF.out l0[i] (List.getElem_mem hlt)
        simpa [rd_T29, List.getD_eq_getElem?_getD, List.getElem?_eq_getElem hlt] using h1
      have HT : l0.take (i + 1) = l0.take i ++ [rd_T29 l0 (i : Int)] := by
        rw [List.take_succ_eq_append_getElem hlt]
        simp [rd_T29, List.getD_eq_getElem?_getD, List.getElem?_eq_getElem hlt]
      have HT1 := Aside0.mk HT
      clear HT
      replace p1 := eq_true p1
      replace q1 := eq_true q1
      generalize hv : rd_T29 l0 (i : Int) = v at *
      clear hv
      have HI2 := Aside0.mk (quorum_Enough.inv_put HO.out HI.out v.f0 (.lit (.bool true)))
      have hkey : keyOf Try.prog 3 (.int .i64 v.f0) = some (.int .i64 v.f0) := Maps.keyOf_int_mk Try.underlying3 hwf
      go_wp2_with (first | (at_mapUpdate; refine wpList_mapUpdate_own (H := Unit) _ rfl _ _ _ 54 rfl 3 4 (Maps.int_keyed Try.underlying3) Try.underlying54 (plainElem Try.prog 4) w.heap.size i D rfl ?own ?room _ _ (.int .i64 v.f0) rfl rfl hkey (.lit (.bool true)) [] (plainElem_bool Try.underlying4 true) ?_; (case own => exact HO.out.alloc _); (case room => have := HL.out; simp [maxLen]; omega); intro w2 ho2 hg2; have HO2 := Aside0.mk ho2; have HG2 := Aside0.mk hg2; clear ho2 hg2))
      go_roundg (l0.length - (i + 1))
      case measure => have := hi.out.1; omega
      case rel =>
        have hw : wrap64 ((i : Int) + 1) = ((i + 1 : Nat) : Int) := by have := HL.out; unfold wrap64; omega
        refine ⟨i + 1, D.put (.int .i64 v.f0) (.lit (.bool true)), by rw [hw], ⟨by have := hi.out; omega, by omega⟩, HO2, ⟨?_⟩, ⟨?_⟩⟩
        · rw [HT1.out, quorum_Enough.froms_append]
          exact HI2.out
        · exact Below.grown (below_alloc HB.out _) HG2.out (by have := HO.out.lt; have := HB.out; simp; omega) (fun k hk => by injection hk with hk; omega)
    · have hb1 : decide ((i : Int) < (l0.length : Int)) = false := decide_eq_false (by omega)
      have hie : i = l0.length := by have := hi.out; omega
      subst hie
      have hlen := HO.out.len hu54 3
      have HI1 := HI.out
      rw [List.take_length] at HI1
      have hsz : Maps.size D = (quorum_Enough.froms l0).length := HI1.1
      rw [hsz] at hlen
      have HI3 := Aside0.mk HI1
      clear HI1 hsz HI
      go_wp2_with (first | (go_at_call 15; refine (HM.out _).mono ?_; rintro e w' ⟨rfl, ⟨nd, rfl⟩⟩))
      go_ret
      exact ⟨by rw [← HR1.out]; rfl, pw_below_drewN HB.out _⟩

end Go.Proofs.Ytgphefohdbgokaa.P
