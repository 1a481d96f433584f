-- printed by a program of this session (wip/tools/xprint.py) over the translation; not trusted: Lean checks it
import Derived.Test.YtkdpjgcimnchlaaPx0
import Derived.Test.YtkdpjgcimnchlaaPx3
import Derived.Test.YtkdpjgcimnchlaaPx4
import Derived.Test.YtkdpjgcimnchlaaPx6
import Derived.Test.YtkdpjgcimnchlaaPx7
namespace Go.Proofs.Ytkdpjgcimnchlaa.P
open Go.RowKit Go.Proofs.YtkdpjgcimnchlaaW.PrintWords Go.Proofs.YtkdpjgcimnchlaaW.PrintLast Go.Proofs.YtkdpjgcimnchlaaW.PrintMore
attribute [local go_sem] max2_int min2_int max_two min_two max_three min_three max_four min_four   -- for this text's walks alone
set_option linter.unusedVariables false
set_option linter.unusedSimpArgs false

/-! ### sextonlaw17_PinRuns: function 4 -/
mutual
def sextonlaw17_PinRuns.l0 : Nat → List (S40) → Int → List (S24) → Int → Bool → Int → Option (Bool)
  | 0, _, _, _, _, _, _ => none
  | k + 1, x0, x1, x5, x6, x7, x8 => if x8 < (x0.length : Int) then (if 0 ≤ x8 then (if ((rd_T40 x0 x8).f0) = 1 then ((pin_Add.f k x5 ((rd_T40 x0 x8).f1.f0) ((rd_T40 x0 x8).f1.f1)).bind fun bt287 => (sextonlaw17_PinRuns.j1 k x0 x1 x5 x6 x7 x8 bt287.1 bt287.2 ((rd_T40 x0 x8).f1.f0) ((rd_T40 x0 x8).f1.f1))) else (if ((rd_T40 x0 x8).f0) = 2 then ((pin_Drop.f k x5 ((rd_T40 x0 x8).f1.f0)).bind fun bt291 => (sextonlaw17_PinRuns.j1 k x0 x1 x5 x6 x7 x8 bt291.1 bt291.2 ((rd_T40 x0 x8).f1.f0) ((rd_T40 x0 x8).f1.f1))) else (sextonlaw17_PinRuns.j1 k x0 x1 x5 x6 x7 x8 ([] : List (S24)) 1 ((rd_T40 x0 x8).f1.f0) ((rd_T40 x0 x8).f1.f1)))) else (none)) else ((sextonlaw17_pinned.f k).bind fun t283 => (some t283))
def sextonlaw17_PinRuns.j1 : Nat → List (S40) → Int → List (S24) → Int → Bool → Int → List (S24) → Int → Int → Int → Option (Bool)
  | 0, _, _, _, _, _, _, _, _, _, _ => none
  | k + 1, x0, x1, x5, x6, x7, x8, x10, x11, x286000, x286001 => if x11 = 0 then (if x286000 = x1 then (if 0 ≤ x8 then (if x8 < (x0.length : Int) then (sextonlaw17_PinRuns.j2 k x0 x1 x286001 (((rd_T40 x0 x8).f0) == 1) x8 x10) else (none)) else (none)) else (sextonlaw17_PinRuns.j2 k x0 x1 x6 x7 x8 x10)) else (sextonlaw17_PinRuns.l0 k x0 x1 x5 x6 x7 (wrap64 (x8 + 1)))
def sextonlaw17_PinRuns.j2 : Nat → List (S40) → Int → Int → Bool → Int → List (S24) → Option (Bool)
  | 0, _, _, _, _, _, _ => none
  | k + 1, x0, x1, x6, x7, x8, x10 => (pin_Of.f x10 x1).bind fun bt296 => (if (bt296.2 != x7) = true then (some false) else (if bt296.2 = true then (if bt296.1 = x6 then ((pin_Is.f k x10).bind fun t298 => (if t298 = true then (sextonlaw17_PinRuns.l0 k x0 x1 x10 x6 x7 (wrap64 (x8 + 1))) else (some false))) else (some false)) else ((pin_Is.f k x10).bind fun t299 => (if t299 = true then (sextonlaw17_PinRuns.l0 k x0 x1 x10 x6 x7 (wrap64 (x8 + 1))) else (some false)))))
end
def sextonlaw17_PinRuns.f (k : Nat) (l0 : List (S40)) (a1 : Int) : Option (Bool) := if (l0.length : Int) > 100 then (some true) else (sextonlaw17_PinRuns.l0 k l0 a1 ([] : List (S24)) 0 false 0)
theorem sextonlaw17_PinRuns.mono_l : ∀ k, (∀ y0 y1 y2 y3 y4 y5, LeO (sextonlaw17_PinRuns.l0 k y0 y1 y2 y3 y4 y5) (sextonlaw17_PinRuns.l0 (k + 1) y0 y1 y2 y3 y4 y5)) ∧ (∀ y0 y1 y2 y3 y4 y5 y6 y7 y8 y9, LeO (sextonlaw17_PinRuns.j1 k y0 y1 y2 y3 y4 y5 y6 y7 y8 y9) (sextonlaw17_PinRuns.j1 (k + 1) y0 y1 y2 y3 y4 y5 y6 y7 y8 y9)) ∧ (∀ y0 y1 y2 y3 y4 y5, LeO (sextonlaw17_PinRuns.j2 k y0 y1 y2 y3 y4 y5) (sextonlaw17_PinRuns.j2 (k + 1) y0 y1 y2 y3 y4 y5))
  | 0 => ⟨fun _ _ _ _ _ _ r h => by simp [sextonlaw17_PinRuns.l0] at h, fun _ _ _ _ _ _ _ _ _ _ r h => by simp [sextonlaw17_PinRuns.j1] at h, fun _ _ _ _ _ _ r h => by simp [sextonlaw17_PinRuns.j2] at h⟩
  | k + 1 => by
    obtain ⟨ih0, ih1, ih2⟩ := sextonlaw17_PinRuns.mono_l k
    refine ⟨?_, ?_, ?_⟩
    · intro y0 y1 y2 y3 y4 y5
      unfold sextonlaw17_PinRuns.l0
      repeat' first
      | (with_reducible exact ih0 _ _ _ _ _ _)
      | (with_reducible exact ih1 _ _ _ _ _ _ _ _ _ _)
      | (with_reducible exact ih2 _ _ _ _ _ _)
      | (with_reducible exact pin_Add.mono _ _ _ _)
      | (with_reducible exact pin_Drop.mono _ _ _)
      | (with_reducible exact pin_Is.mono _ _)
      | (with_reducible exact sextonlaw17_pinned.mono _)
      | (with_reducible exact LeO.refl _)
      | (with_reducible exact LeO.none _)
      | (with_reducible refine LeO.ite ?_ ?_)
      | (with_reducible refine LeO.bind ?_ (fun _ => ?_))
      | exact ih0 _ _ _ _ _ _
      | exact ih1 _ _ _ _ _ _ _ _ _ _
      | exact ih2 _ _ _ _ _ _
      | exact pin_Add.mono _ _ _ _
      | exact pin_Drop.mono _ _ _
      | exact pin_Is.mono _ _
      | exact sextonlaw17_pinned.mono _
      | exact LeO.none _
      | refine LeO.ite ?_ ?_
      | refine LeO.bind ?_ (fun _ => ?_)
    · intro y0 y1 y2 y3 y4 y5 y6 y7 y8 y9
      unfold sextonlaw17_PinRuns.j1
      repeat' first
      | (with_reducible exact ih0 _ _ _ _ _ _)
      | (with_reducible exact ih1 _ _ _ _ _ _ _ _ _ _)
      | (with_reducible exact ih2 _ _ _ _ _ _)
      | (with_reducible exact pin_Add.mono _ _ _ _)
      | (with_reducible exact pin_Drop.mono _ _ _)
      | (with_reducible exact pin_Is.mono _ _)
      | (with_reducible exact sextonlaw17_pinned.mono _)
      | (with_reducible exact LeO.refl _)
      | (with_reducible exact LeO.none _)
      | (with_reducible refine LeO.ite ?_ ?_)
      | (with_reducible refine LeO.bind ?_ (fun _ => ?_))
      | exact ih0 _ _ _ _ _ _
      | exact ih1 _ _ _ _ _ _ _ _ _ _
      | exact ih2 _ _ _ _ _ _
      | exact pin_Add.mono _ _ _ _
      | exact pin_Drop.mono _ _ _
      | exact pin_Is.mono _ _
      | exact sextonlaw17_pinned.mono _
      | exact LeO.none _
      | refine LeO.ite ?_ ?_
      | refine LeO.bind ?_ (fun _ => ?_)
    · intro y0 y1 y2 y3 y4 y5
      unfold sextonlaw17_PinRuns.j2
      repeat' first
      | (with_reducible exact ih0 _ _ _ _ _ _)
      | (with_reducible exact ih1 _ _ _ _ _ _ _ _ _ _)
      | (with_reducible exact ih2 _ _ _ _ _ _)
      | (with_reducible exact pin_Add.mono _ _ _ _)
      | (with_reducible exact pin_Drop.mono _ _ _)
      | (with_reducible exact pin_Is.mono _ _)
      | (with_reducible exact sextonlaw17_pinned.mono _)
      | (with_reducible exact LeO.refl _)
      | (with_reducible exact LeO.none _)
      | (with_reducible refine LeO.ite ?_ ?_)
      | (with_reducible refine LeO.bind ?_ (fun _ => ?_))
      | exact ih0 _ _ _ _ _ _
      | exact ih1 _ _ _ _ _ _ _ _ _ _
      | exact ih2 _ _ _ _ _ _
      | exact pin_Add.mono _ _ _ _
      | exact pin_Drop.mono _ _ _
      | exact pin_Is.mono _ _
      | exact sextonlaw17_pinned.mono _
      | exact LeO.none _
      | refine LeO.ite ?_ ?_
      | refine LeO.bind ?_ (fun _ => ?_)
theorem sextonlaw17_PinRuns.mono : ∀ a0 a1 k, LeO (sextonlaw17_PinRuns.f k a0 a1) (sextonlaw17_PinRuns.f (k + 1) a0 a1) := by
  intro a0 a1 k
  obtain ⟨ih0, ih1, ih2⟩ := sextonlaw17_PinRuns.mono_l k
  unfold sextonlaw17_PinRuns.f
  repeat' first
      | (with_reducible exact ih0 _ _ _ _ _ _)
      | (with_reducible exact ih1 _ _ _ _ _ _ _ _ _ _)
      | (with_reducible exact ih2 _ _ _ _ _ _)
      | (with_reducible exact pin_Add.mono _ _ _ _)
      | (with_reducible exact pin_Drop.mono _ _ _)
      | (with_reducible exact pin_Is.mono _ _)
      | (with_reducible exact sextonlaw17_pinned.mono _)
      | (with_reducible exact LeO.refl _)
      | (with_reducible exact LeO.none _)
      | (with_reducible refine LeO.ite ?_ ?_)
      | (with_reducible refine LeO.bind ?_ (fun _ => ?_))
      | exact ih0 _ _ _ _ _ _
      | exact ih1 _ _ _ _ _ _ _ _ _ _
      | exact ih2 _ _ _ _ _ _
      | exact pin_Add.mono _ _ _ _
      | exact pin_Drop.mono _ _ _
      | exact pin_Is.mono _ _
      | exact sextonlaw17_pinned.mono _
      | exact LeO.none _
      | refine LeO.ite ?_ ?_
      | refine LeO.bind ?_ (fun _ => ?_)
set_option maxHeartbeats 8000000 in
set_option maxRecDepth 100000 in
theorem sextonlaw17_PinRuns.calls (k : Nat) (A0 : Option Addr) (c0 : Nat) (l0 : List (S40)) (a1 : Int) (r : Bool) (w : World) (hr0 : Kd.C k40 w A0 l0.length l0) (hc0 : l0.length ≤ c0) (h : sextonlaw17_PinRuns.f k l0 a1 = some r) (ht : r = true) :
    Calls Try.prog 4 #[.slice A0 l0.length c0, .int .i64 a1] w fun e w' => e = .returned (.bool r) ∧ Below w.heap.size w w' := by
  have hu24 := Try.underlying24
  have HT := Aside0.mk ht
  clear ht
  have HR0 := Aside0.mk hr0
  have HC0 := Aside0.mk hc0
  clear hr0 hc0
  have HB := Aside0.mk (Below.refl w.heap.size w)
  have H : (if (l0.length : Int) > 100 then (some true) else (sextonlaw17_PinRuns.l0 k l0 a1 ([] : List (S24)) 0 false 0)) = some r := h
  clear h
  by_cases c3 : (l0.length : Int) > 100
  · rw [if_pos c3] at H
    have c3b0 : decide (100 < (l0.length : Int)) = true := decide_eq_true c3
    have c3b1 : decide (100 < l0.length) = true := decide_eq_true (by omega)
    clear c3
    obtain rfl := Option.some.inj H
    go_enter Try.func4, Try.ntmps4
    go_wp2
    go_ret
    exact ⟨by first | rfl | (simp [errW_none, errW_some] <;> rfl) | (simp [*, errW_none, errW_some] <;> rfl), by repeat (first | (with_reducible first | exact HB.out | apply below_alloc | apply pw_below_drewN | apply below_drew1) | exact HB.out)⟩
  · rw [if_neg c3] at H
    have c3b0 : decide (100 < (l0.length : Int)) = false := decide_eq_false c3
    have c3b1 : decide (100 < l0.length) = false := decide_eq_false (by omega)
    clear c3
    have H' := Aside0.mk H
    clear H
    go_enter Try.func4, Try.ntmps4
    go_wp2
    go_loopg [5, 6, 7, 8] k (fun kq v5 v6 v7 v8 w' => ∃ (x5_1 : List (S24)) (x6_1 : Int) (x7_1 : Bool) (x8_1 : Int), v6 = .int .i64 x6_1 ∧ v7 = .bool x7_1 ∧ v8 = .int .i64 x8_1 ∧ Aside0 (sextonlaw17_PinRuns.l0 kq l0 a1 x5_1 x6_1 x7_1 x8_1 = some r) ∧ Aside0 (kq ≤ k) ∧ Aside0 (Kd.R k24 24 w' w.heap.size (fun _ => True) v5 x5_1) ∧ Aside0 (Below w.heap.size w w'))
    case atStart => exact ⟨(([] : List (S24))), (0), (false), (0), (by first | rfl | (simp; done) | (simp [*]; done)), (by first | rfl | (simp; done) | (simp [*]; done)), (by first | rfl | (simp; done) | (simp [*]; done)), H', ⟨Nat.le_refl _⟩, ⟨by first | exact Kd.R_nil _ _ _ _ _ | exact Kd.N_nil _ _ _ _ _ | exact Kd.V_nil _ _ _ _ _ | exact Kd.Q_nil _ _ _ _ _ | exact Kd.S_nil _ _ _ _ _⟩, ⟨by repeat (first | (with_reducible first | exact HB.out | apply below_alloc | apply pw_below_drewN | apply below_drew1) | exact HB.out)⟩⟩
    case round =>
      clear H'
      try clear p2
      try clear c3
      try clear c3b0
      try clear c3b1
      obtain ⟨x5_1, x6_1, x7_1, x8_1, rfl, rfl, rfl, HA, HK1, HO_5, HB⟩ := hrel
      cases gk with
      | zero => exact absurd HA.out (by simp [sextonlaw17_PinRuns.l0])
      | succ k1 =>
        have H := HA.out
        clear HA
        simp only [sextonlaw17_PinRuns.l0] at H
        by_cases c4 : x8_1 < (l0.length : Int)
        · rw [if_pos c4] at H
          have c4b0 : decide (x8_1 < (l0.length : Int)) = true := decide_eq_true c4
          clear c4
          by_cases c5 : 0 ≤ x8_1
          · rw [if_pos c5] at H
            have c5b0 : decide (0 ≤ x8_1) = true := decide_eq_true c5
            clear c5
            have HC6 := Aside0.mk H
            clear H
            have p284 : 0 ≤ (x8_1 : Int) := of_decide_eq_true (by first | (with_reducible assumption) | assumption)
            have q284 : x8_1 < (l0.length : Int) := of_decide_eq_true (by first | (with_reducible assumption) | assumption)
            obtain ⟨ad284, e284, hx284_0, hx284_1, hx284_2⟩ := at_T40 HR0.out x8_1 p284 q284
            cases e284
            replace hx284_0 := (HB.out.cell (World.block_lt_of_cell? w _ hx284_0)).trans hx284_0
            replace hx284_1 := (HB.out.cell (World.block_lt_of_cell? w _ hx284_1)).trans hx284_1
            replace hx284_2 := (HB.out.cell (World.block_lt_of_cell? w _ hx284_2)).trans hx284_2
            replace p284 := eq_true p284
            replace q284 := eq_true q284
            go_upto_block 2 with (first | ((with_reducible refine gate_dst (N := 9) rfl ?_); refine box_event ?hg (N := 9) ?hd (cs := #[.int .i64 0, .int .i64 0]) (t := 24) ?hr ?_; (case hd => rfl); (case hg => rfl); (case hr => first | (go_simp; done) | (go_simp; rfl)); intro gb285 hg w7 hbox hb; have n0_ := Aside0.mk (Kd.R_below (Kd.R_elderB (by (with_reducible repeat (first | apply Kd.R_alloc | apply Kd.R_drewN | apply Kd.R_drew)); exact HO_5.out) gb285 (Nat.le_of_eq hg.symm)) hb); have n1_ := Aside0.mk (below_step (by repeat (first | (with_reducible first | exact HB.out | apply below_alloc | apply pw_below_drewN | apply below_drew1) | exact HB.out)) hb); have n2_ := Aside0.mk (hbox); have n3_ := Aside0.mk ((by rw [hg]; exact (below_size (by repeat (first | (with_reducible first | exact HB.out | apply below_alloc | apply pw_below_drewN | apply below_drew1) | exact HB.out))) : w.heap.size ≤ gb285)); have n4_ := Aside0.mk ((by rw [hg]; exact (below_size (by repeat (first | (with_reducible first | exact HB.out | apply below_alloc | apply pw_below_drewN | apply below_drew1) | exact HB.out))) : w.heap.size ≤ gb285)); clear HO_5; clear HB; have HO_5 := n0_; have HB := n1_; have BK285 := n2_; have GW285 := n3_; have GE285 := n4_; clear n0_ n1_ n2_ n3_ n4_; clear hb hbox hg; have hcz8_0 : w7.cell? ⟨gb285, 0, none⟩ = some (.int .i64 0) := (blk_cell BK285.out 0).trans rfl; have hcz8_1 : w7.cell? ⟨gb285, 1, none⟩ = some (.int .i64 0) := (blk_cell BK285.out 1).trans rfl; have hfz8_0 := blk_frozen BK285.out 0; have hfz8_1 := blk_frozen BK285.out 1; have p286 : 0 ≤ (x8_1 : Int) := of_decide_eq_true (by first | (with_reducible assumption) | assumption); have q286 : x8_1 < (l0.length : Int) := of_decide_eq_true (by first | (with_reducible assumption) | assumption); obtain ⟨ad286, e286, hx286_0, hx286_1, hx286_2⟩ := at_T40 HR0.out x8_1 p286 q286; obtain rfl : ad284 = ad286 := (by injection e286); have hn286_0 : ad284.block ≠ gb285 := Nat.ne_of_lt (Nat.lt_of_lt_of_le (by have := World.block_lt_of_cell? _ _ hx286_0; first | rwa [add_block] at this | exact this) GW285.out); have hn286_1 : ad284.block ≠ gb285 := Nat.ne_of_lt (Nat.lt_of_lt_of_le (by have := World.block_lt_of_cell? _ _ hx286_0; first | rwa [add_block] at this | exact this) GW285.out); replace hx286_0 := (HB.out.cell (World.block_lt_of_cell? w _ hx286_0)).trans hx286_0; replace hx286_1 := (HB.out.cell (World.block_lt_of_cell? w _ hx286_1)).trans hx286_1; replace hx286_2 := (HB.out.cell (World.block_lt_of_cell? w _ hx286_2)).trans hx286_2; replace hx286_0 := (cell_far (p := ⟨gb285, 0, none⟩) (by first | (rw [add_block]; exact hn286_0) | (show (Addr.add _ _).block ≠ _; rw [add_block]; exact hn286_0) | exact hn286_0) (.int .i64 ((rd_T40 l0 x8_1).f1.f0))).trans hx286_0; replace hx286_1 := (cell_far (p := ⟨gb285, 0, none⟩) (by first | (rw [add_block]; exact hn286_0) | (show (Addr.add _ _).block ≠ _; rw [add_block]; exact hn286_0) | exact hn286_0) (.int .i64 ((rd_T40 l0 x8_1).f1.f0))).trans hx286_1; replace hx286_2 := (cell_far (p := ⟨gb285, 0, none⟩) (by first | (rw [add_block]; exact hn286_0) | (show (Addr.add _ _).block ≠ _; rw [add_block]; exact hn286_0) | exact hn286_0) (.int .i64 ((rd_T40 l0 x8_1).f1.f0))).trans hx286_2; replace hx286_0 := (cell_far (p := ⟨gb285, 1, none⟩) (by first | (rw [add_block]; exact hn286_1) | (show (Addr.add _ _).block ≠ _; rw [add_block]; exact hn286_1) | exact hn286_1) (.int .i64 ((rd_T40 l0 x8_1).f1.f1))).trans hx286_0; replace hx286_1 := (cell_far (p := ⟨gb285, 1, none⟩) (by first | (rw [add_block]; exact hn286_1) | (show (Addr.add _ _).block ≠ _; rw [add_block]; exact hn286_1) | exact hn286_1) (.int .i64 ((rd_T40 l0 x8_1).f1.f1))).trans hx286_1; replace hx286_2 := (cell_far (p := ⟨gb285, 1, none⟩) (by first | (rw [add_block]; exact hn286_1) | (show (Addr.add _ _).block ≠ _; rw [add_block]; exact hn286_1) | exact hn286_1) (.int .i64 ((rd_T40 l0 x8_1).f1.f1))).trans hx286_2; clear hn286_0; clear hn286_1; replace p286 := eq_true p286; replace q286 := eq_true q286))
            (try simp only [Act.put, List.setIfInBounds_toArray, List.set_cons_zero, List.set_cons_succ])
            go_cut [10, 11] (fun v10 v11 wc => ∃ (kq : Nat) (x10_5 : List (S24)) (x11_5 : Int), v11 = .int .i64 x11_5 ∧ Aside0 (sextonlaw17_PinRuns.j1 kq l0 a1 x5_1 x6_1 x7_1 x8_1 x10_5 x11_5 ((rd_T40 l0 x8_1).f1.f0) ((rd_T40 l0 x8_1).f1.f1) = some r) ∧ Aside0 (kq ≤ k1) ∧ Aside0 (Kd.R k24 24 wc w.heap.size (fun k_ => some k_ ≠ (v10 : Value).ownBlock ∧ k_ ≠ gb285) u5 x5_1) ∧ Aside0 (Kd.R k24 24 wc w.heap.size (fun k_ => some k_ ≠ (u5 : Value).ownBlock ∧ k_ ≠ gb285) v10 x10_5) ∧ Aside0 (wc.heap[gb285]? = some (.cells #[.int .i64 ((rd_T40 l0 x8_1).f1.f0), .int .i64 ((rd_T40 l0 x8_1).f1.f1)] 24 (0, 0))) ∧ Aside0 (Below w.heap.size w wc))
            case first =>
              have H := HC6.out
              clear HC6
              by_cases c9 : ((rd_T40 l0 x8_1).f0) = 1
              · rw [if_pos c9] at H
                have c9b0 : (((rd_T40 l0 x8_1).f0) == 1) = true := beq_iff_eq.mpr c9
                have c9b1 : (((rd_T40 l0 x8_1).f0) != 1) = false := bne_eq_false_iff_eq.mpr c9
                clear c9
                (first | rw [c9b0] | (simp only [i64_w, i32_w]; rw [c9b0]) | skip)
                replace H := Option.bind_eq_some_iff.mp H
                obtain ⟨⟨t287, t290⟩, A100, H⟩ := H
                replace H : (sextonlaw17_PinRuns.j1 k1 l0 a1 x5_1 x6_1 x7_1 x8_1 t287 t290 ((rd_T40 l0 x8_1).f1.f0) ((rd_T40 l0 x8_1).f1.f1)) = some r := H
                have A10 := Aside0.mk A100
                clear A100
                have H' := Aside0.mk H
                clear H
                have hcz11_0 : w7.cell? ⟨gb285, 0, none⟩ = some (.int .i64 0) := (blk_cell BK285.out 0).trans rfl
                have hcz11_1 : w7.cell? ⟨gb285, 1, none⟩ = some (.int .i64 0) := (blk_cell BK285.out 1).trans rfl
                have hfz11_0 := blk_frozen BK285.out 0
                have hfz11_1 := blk_frozen BK285.out 1
                obtain ⟨Ao12, co12, eo12⟩ := Kd.R_slice HO_5.out
                subst eo12
                go_wp2_with (first | ((with_reducible refine gate_callee (f := 9) rfl ?_); refine goesL_ (some 42) rfl rfl Try.func9 (by kernel_rfl) rfl #[.slice Ao12 x5_1.length co12, .agg #[.int .i64 ((rd_T40 l0 x8_1).f1.f0), .int .i64 ((rd_T40 l0 x8_1).f1.f1)]] rfl (by (try simp only [List.map_toArray, List.map_cons, List.map_nil]); first | done | rfl | (simp only [List.length_drop, List.length_take]; rfl)) ?_; (with_reducible refine (pin_Add.calls k1 _ _ x5_1 ((rd_T40 l0 x8_1).f1.f0) ((rd_T40 l0 x8_1).f1.f1) t287 t290 _ ?side1 ?side2 A10.out).mono ?_); (case side1 => refine (Kd.R_reads' (e := 24) (base := w.heap.size) (ok := fun k_ => (True ∧ k_ ≠ gb285)) (n := x5_1.length) (c := co12) ?_).2.2; exact (by (with_reducible repeat (first | apply Kd.R_alloc | apply Kd.R_drewN | apply Kd.R_drew)); exact (Kd.R_mono (Kd.R_far (p := ⟨gb285, 1, none⟩) (Kd.R_far (p := ⟨gb285, 0, none⟩) (Kd.R_mono HO_5.out (fun k_ hk => (⟨hk, hk.2⟩ : _ ∧ k_ ≠ gb285))) (fun _ hk => hk.2) (.int .i64 ((rd_T40 l0 x8_1).f1.f0))) (fun _ hk => hk.2) (.int .i64 ((rd_T40 l0 x8_1).f1.f1))) (fun _ h_ => h_.1)))); (case side2 => exact (Kd.R_reads' HO_5.out).2.1); rintro e w13 ⟨v288, rfl, ho0, hb⟩; refine ⟨_, rfl, ?_⟩; have n0_ := Aside0.mk (Kd.R_elder' (by (with_reducible repeat (first | apply Kd.R_alloc | apply Kd.R_drewN | apply Kd.R_drew)); exact (Kd.R_mono (Kd.R_far (p := ⟨gb285, 1, none⟩) (Kd.R_far (p := ⟨gb285, 0, none⟩) (Kd.R_mono HO_5.out (fun k_ hk => (⟨hk, hk.2⟩ : _ ∧ k_ ≠ gb285))) (fun _ hk => hk.2) (.int .i64 ((rd_T40 l0 x8_1).f1.f0))) (fun _ hk => hk.2) (.int .i64 ((rd_T40 l0 x8_1).f1.f1))) (fun _ h_ => h_.1))) (Kd.R_base ho0) hb); have n1_ := Aside0.mk (Kd.R_lower (Kd.R_newB (Kd.R_new' ho0 (Kd.R_lt (by (with_reducible repeat (first | apply Kd.R_alloc | apply Kd.R_drewN | apply Kd.R_drew)); exact (Kd.R_mono (Kd.R_far (p := ⟨gb285, 1, none⟩) (Kd.R_far (p := ⟨gb285, 0, none⟩) (Kd.R_mono HO_5.out (fun k_ hk => (⟨hk, hk.2⟩ : _ ∧ k_ ≠ gb285))) (fun _ hk => hk.2) (.int .i64 ((rd_T40 l0 x8_1).f1.f0))) (fun _ hk => hk.2) (.int .i64 ((rd_T40 l0 x8_1).f1.f1))) (fun _ h_ => h_.1))))) (g := gb285) (o := .cells #[.int .i64 ((rd_T40 l0 x8_1).f1.f0), .int .i64 ((rd_T40 l0 x8_1).f1.f1)] 24 (0, 0)) (by (with_reducible repeat (first | refine blk_drewN ?_ _ | refine blk_drew ?_ | refine blk_alloc ?_ _)); refine blk_put (cs := #[.int .i64 ((rd_T40 l0 x8_1).f1.f0), .int .i64 0]) ?_ 1 _ rfl; (with_reducible repeat (first | refine blk_drewN ?_ _ | refine blk_drew ?_ | refine blk_alloc ?_ _)); refine blk_put (cs := #[.int .i64 0, .int .i64 0]) ?_ 0 _ rfl; (with_reducible repeat (first | refine blk_drewN ?_ _ | refine blk_drew ?_ | refine blk_alloc ?_ _)); exact BK285.out)) (below_size (by repeat (first | (with_reducible first | exact HB.out | apply below_alloc | apply pw_below_drewN | apply below_drew1 | refine below_set ?_ GE285.out) | exact HB.out)))); have n2_ := Aside0.mk (blk_below (g := gb285) (o := .cells #[.int .i64 ((rd_T40 l0 x8_1).f1.f0), .int .i64 ((rd_T40 l0 x8_1).f1.f1)] 24 (0, 0)) (by (with_reducible repeat (first | refine blk_drewN ?_ _ | refine blk_drew ?_ | refine blk_alloc ?_ _)); refine blk_put (cs := #[.int .i64 ((rd_T40 l0 x8_1).f1.f0), .int .i64 0]) ?_ 1 _ rfl; (with_reducible repeat (first | refine blk_drewN ?_ _ | refine blk_drew ?_ | refine blk_alloc ?_ _)); refine blk_put (cs := #[.int .i64 0, .int .i64 0]) ?_ 0 _ rfl; (with_reducible repeat (first | refine blk_drewN ?_ _ | refine blk_drew ?_ | refine blk_alloc ?_ _)); exact BK285.out) hb); have n3_ := Aside0.mk (below_step (by repeat (first | (with_reducible first | exact HB.out | apply below_alloc | apply pw_below_drewN | apply below_drew1 | refine below_set ?_ GE285.out) | exact HB.out)) hb); clear HO_5; clear BK285; clear HB; have HO_5 := n0_; have HO289 := n1_; have BK285 := n2_; have HB := n3_; clear n0_ n1_ n2_ n3_; (try clear hb); (try clear hb2); (try clear hk); (try clear hi); (try clear ho0)))
                go_meet
                case rel => exact ⟨_, (t287), (t290), (by first | rfl | (simp; done) | (simp [*]; done)), H', ⟨by have := HK1.out; first | omega | exact Nat.le_refl _⟩, ⟨by (with_reducible repeat (first | apply Kd.R_alloc | apply Kd.R_drewN | apply Kd.R_drew)); exact Kd.R_mono HO_5.out (fun _ hk => ⟨hk.2, hk.1.2⟩)⟩, ⟨by (with_reducible repeat (first | apply Kd.R_alloc | apply Kd.R_drewN | apply Kd.R_drew)); exact Kd.R_mono HO289.out (fun _ hk => ⟨hk.1.2, hk.2⟩)⟩, ⟨by (with_reducible repeat (first | refine blk_drewN ?_ _ | refine blk_drew ?_ | refine blk_alloc ?_ _)); exact BK285.out⟩, ⟨by repeat (first | (with_reducible first | exact HB.out | apply below_alloc | apply pw_below_drewN | apply below_drew1 | refine below_set ?_ GE285.out) | exact HB.out)⟩⟩
              · rw [if_neg c9] at H
                have c9b0 : (((rd_T40 l0 x8_1).f0) == 1) = false := beq_eq_false_iff_ne.mpr c9
                have c9b1 : (((rd_T40 l0 x8_1).f0) != 1) = true := bne_iff_ne.mpr c9
                (first | rw [c9b0] | (simp only [i64_w, i32_w]; rw [c9b0]) | skip)
                by_cases c14 : ((rd_T40 l0 x8_1).f0) = 2
                · rw [if_pos c14] at H
                  have c14b0 : (((rd_T40 l0 x8_1).f0) == 2) = true := beq_iff_eq.mpr c14
                  have c14b1 : (((rd_T40 l0 x8_1).f0) != 2) = false := bne_eq_false_iff_eq.mpr c14
                  clear c14
                  replace H := Option.bind_eq_some_iff.mp H
                  obtain ⟨⟨t291, t292⟩, A150, H⟩ := H
                  replace H : (sextonlaw17_PinRuns.j1 k1 l0 a1 x5_1 x6_1 x7_1 x8_1 t291 t292 ((rd_T40 l0 x8_1).f1.f0) ((rd_T40 l0 x8_1).f1.f1)) = some r := H
                  have A15 := Aside0.mk A150
                  clear A150
                  have H' := Aside0.mk H
                  clear H
                  have hcz16_0 : w7.cell? ⟨gb285, 0, none⟩ = some (.int .i64 0) := (blk_cell BK285.out 0).trans rfl
                  have hcz16_1 : w7.cell? ⟨gb285, 1, none⟩ = some (.int .i64 0) := (blk_cell BK285.out 1).trans rfl
                  have hfz16_0 := blk_frozen BK285.out 0
                  have hfz16_1 := blk_frozen BK285.out 1
                  obtain ⟨Ao17, co17, eo17⟩ := Kd.R_slice HO_5.out
                  subst eo17
                  go_wp2_with (first | ((with_reducible refine gate_callee (f := 11) rfl ?_); refine goesL_ (some 53) rfl rfl Try.func11 (by kernel_rfl) rfl #[.slice Ao17 x5_1.length co17, .int .i64 ((rd_T40 l0 x8_1).f1.f0)] rfl (by (try simp only [List.map_toArray, List.map_cons, List.map_nil]); first | done | rfl | (simp only [List.length_drop, List.length_take]; rfl)) ?_; (with_reducible refine (pin_Drop.calls k1 _ _ x5_1 ((rd_T40 l0 x8_1).f1.f0) t291 t292 _ ?side1 ?side2 A15.out).mono ?_); (case side1 => refine (Kd.R_reads' (e := 24) (base := w.heap.size) (ok := fun k_ => (True ∧ k_ ≠ gb285)) (n := x5_1.length) (c := co17) ?_).2.2; exact (by (with_reducible repeat (first | apply Kd.R_alloc | apply Kd.R_drewN | apply Kd.R_drew)); exact (Kd.R_mono (Kd.R_far (p := ⟨gb285, 1, none⟩) (Kd.R_far (p := ⟨gb285, 0, none⟩) (Kd.R_mono HO_5.out (fun k_ hk => (⟨hk, hk.2⟩ : _ ∧ k_ ≠ gb285))) (fun _ hk => hk.2) (.int .i64 ((rd_T40 l0 x8_1).f1.f0))) (fun _ hk => hk.2) (.int .i64 ((rd_T40 l0 x8_1).f1.f1))) (fun _ h_ => h_.1)))); (case side2 => exact (Kd.R_reads' HO_5.out).2.1); rintro e w18 ⟨v293, rfl, ho0, hb⟩; refine ⟨_, rfl, ?_⟩; have n0_ := Aside0.mk (Kd.R_elder' (by (with_reducible repeat (first | apply Kd.R_alloc | apply Kd.R_drewN | apply Kd.R_drew)); exact (Kd.R_mono (Kd.R_far (p := ⟨gb285, 1, none⟩) (Kd.R_far (p := ⟨gb285, 0, none⟩) (Kd.R_mono HO_5.out (fun k_ hk => (⟨hk, hk.2⟩ : _ ∧ k_ ≠ gb285))) (fun _ hk => hk.2) (.int .i64 ((rd_T40 l0 x8_1).f1.f0))) (fun _ hk => hk.2) (.int .i64 ((rd_T40 l0 x8_1).f1.f1))) (fun _ h_ => h_.1))) (Kd.R_base ho0) hb); have n1_ := Aside0.mk (Kd.R_lower (Kd.R_newB (Kd.R_new' ho0 (Kd.R_lt (by (with_reducible repeat (first | apply Kd.R_alloc | apply Kd.R_drewN | apply Kd.R_drew)); exact (Kd.R_mono (Kd.R_far (p := ⟨gb285, 1, none⟩) (Kd.R_far (p := ⟨gb285, 0, none⟩) (Kd.R_mono HO_5.out (fun k_ hk => (⟨hk, hk.2⟩ : _ ∧ k_ ≠ gb285))) (fun _ hk => hk.2) (.int .i64 ((rd_T40 l0 x8_1).f1.f0))) (fun _ hk => hk.2) (.int .i64 ((rd_T40 l0 x8_1).f1.f1))) (fun _ h_ => h_.1))))) (g := gb285) (o := .cells #[.int .i64 ((rd_T40 l0 x8_1).f1.f0), .int .i64 ((rd_T40 l0 x8_1).f1.f1)] 24 (0, 0)) (by (with_reducible repeat (first | refine blk_drewN ?_ _ | refine blk_drew ?_ | refine blk_alloc ?_ _)); refine blk_put (cs := #[.int .i64 ((rd_T40 l0 x8_1).f1.f0), .int .i64 0]) ?_ 1 _ rfl; (with_reducible repeat (first | refine blk_drewN ?_ _ | refine blk_drew ?_ | refine blk_alloc ?_ _)); refine blk_put (cs := #[.int .i64 0, .int .i64 0]) ?_ 0 _ rfl; (with_reducible repeat (first | refine blk_drewN ?_ _ | refine blk_drew ?_ | refine blk_alloc ?_ _)); exact BK285.out)) (below_size (by repeat (first | (with_reducible first | exact HB.out | apply below_alloc | apply pw_below_drewN | apply below_drew1 | refine below_set ?_ GE285.out) | exact HB.out)))); have n2_ := Aside0.mk (blk_below (g := gb285) (o := .cells #[.int .i64 ((rd_T40 l0 x8_1).f1.f0), .int .i64 ((rd_T40 l0 x8_1).f1.f1)] 24 (0, 0)) (by (with_reducible repeat (first | refine blk_drewN ?_ _ | refine blk_drew ?_ | refine blk_alloc ?_ _)); refine blk_put (cs := #[.int .i64 ((rd_T40 l0 x8_1).f1.f0), .int .i64 0]) ?_ 1 _ rfl; (with_reducible repeat (first | refine blk_drewN ?_ _ | refine blk_drew ?_ | refine blk_alloc ?_ _)); refine blk_put (cs := #[.int .i64 0, .int .i64 0]) ?_ 0 _ rfl; (with_reducible repeat (first | refine blk_drewN ?_ _ | refine blk_drew ?_ | refine blk_alloc ?_ _)); exact BK285.out) hb); have n3_ := Aside0.mk (below_step (by repeat (first | (with_reducible first | exact HB.out | apply below_alloc | apply pw_below_drewN | apply below_drew1 | refine below_set ?_ GE285.out) | exact HB.out)) hb); clear HO_5; clear BK285; clear HB; have HO_5 := n0_; have HO294 := n1_; have BK285 := n2_; have HB := n3_; clear n0_ n1_ n2_ n3_; (try clear hb); (try clear hb2); (try clear hk); (try clear hi); (try clear ho0)))
                  go_meet
                  case rel => exact ⟨_, (t291), (t292), (by first | rfl | (simp; done) | (simp [*]; done)), H', ⟨by have := HK1.out; first | omega | exact Nat.le_refl _⟩, ⟨by (with_reducible repeat (first | apply Kd.R_alloc | apply Kd.R_drewN | apply Kd.R_drew)); exact Kd.R_mono HO_5.out (fun _ hk => ⟨hk.2, hk.1.2⟩)⟩, ⟨by (with_reducible repeat (first | apply Kd.R_alloc | apply Kd.R_drewN | apply Kd.R_drew)); exact Kd.R_mono HO294.out (fun _ hk => ⟨hk.1.2, hk.2⟩)⟩, ⟨by (with_reducible repeat (first | refine blk_drewN ?_ _ | refine blk_drew ?_ | refine blk_alloc ?_ _)); exact BK285.out⟩, ⟨by repeat (first | (with_reducible first | exact HB.out | apply below_alloc | apply pw_below_drewN | apply below_drew1 | refine below_set ?_ GE285.out) | exact HB.out)⟩⟩
                · rw [if_neg c14] at H
                  have c14b0 : (((rd_T40 l0 x8_1).f0) == 2) = false := beq_eq_false_iff_ne.mpr c14
                  have c14b1 : (((rd_T40 l0 x8_1).f0) != 2) = true := bne_iff_ne.mpr c14
                  have H' := Aside0.mk H
                  clear H
                  go_wp2
                  go_meet
                  case rel => exact ⟨_, (([] : List (S24))), (1), (by first | rfl | (simp; done) | (simp [*]; done)), H', ⟨by have := HK1.out; first | omega | exact Nat.le_refl _⟩, ⟨by (with_reducible repeat (first | apply Kd.R_alloc | apply Kd.R_drewN | apply Kd.R_drew)); exact Kd.R_mono (Kd.R_far (p := ⟨gb285, 1, none⟩) (Kd.R_far (p := ⟨gb285, 0, none⟩) (Kd.R_mono HO_5.out (fun k_ hk => (⟨hk, hk.2⟩ : _ ∧ k_ ≠ gb285))) (fun _ hk => hk.2) (.int .i64 ((rd_T40 l0 x8_1).f1.f0))) (fun _ hk => hk.2) (.int .i64 ((rd_T40 l0 x8_1).f1.f1))) (fun _ hk => ⟨(by simp [Value.ownBlock]), hk.1.2⟩)⟩, ⟨by first | exact Kd.R_nil _ _ _ _ _ | exact Kd.N_nil _ _ _ _ _ | exact Kd.V_nil _ _ _ _ _ | exact Kd.Q_nil _ _ _ _ _ | exact Kd.S_nil _ _ _ _ _⟩, ⟨by (with_reducible repeat (first | refine blk_drewN ?_ _ | refine blk_drew ?_ | refine blk_alloc ?_ _)); refine blk_put (cs := #[.int .i64 ((rd_T40 l0 x8_1).f1.f0), .int .i64 0]) ?_ 1 _ rfl; (with_reducible repeat (first | refine blk_drewN ?_ _ | refine blk_drew ?_ | refine blk_alloc ?_ _)); refine blk_put (cs := #[.int .i64 0, .int .i64 0]) ?_ 0 _ rfl; (with_reducible repeat (first | refine blk_drewN ?_ _ | refine blk_drew ?_ | refine blk_alloc ?_ _)); exact BK285.out⟩, ⟨by repeat (first | (with_reducible first | exact HB.out | apply below_alloc | apply pw_below_drewN | apply below_drew1 | refine below_set ?_ GE285.out) | exact HB.out)⟩⟩
            case rest =>
              clear HC6
              try clear c1
              try clear p2
              try clear q2
              try clear hx2
              try clear c3
              try clear c3b0
              try clear c3b1
              try clear c4
              try clear c4b0
              try clear c5
              try clear c5b0
              try clear c9
              try clear c9b0
              try clear c9b1
              try clear c11
              try clear c14
              try clear c14b0
              try clear c14b1
              try clear hcz11_0
              try clear hcz11_1
              try clear hcz16_0
              try clear hcz16_1
              try clear hcz8_0
              try clear hcz8_1
              try clear hfz11_0
              try clear hfz11_1
              try clear hfz16_0
              try clear hfz16_1
              try clear hfz8_0
              try clear hfz8_1
              try clear hx284_0
              try clear hx284_1
              try clear hx284_2
              try clear hx286_0
              try clear hx286_1
              try clear hx286_2
              try clear p2
              try clear p284
              try clear p286
              try clear q284
              try clear q286
              obtain ⟨kq, x10_5, x11_5, rfl, HA, HJ5, HO_5, HO_10, BK285, HB⟩ := hcut
              cases kq with
              | zero => exact absurd HA.out (by simp [sextonlaw17_PinRuns.j1])
              | succ kj5 =>
                have H := HA.out
                clear HA
                simp only [sextonlaw17_PinRuns.j1] at H
                by_cases c19 : x11_5 = 0
                · rw [if_pos c19] at H
                  have c19b0 : (x11_5 == 0) = true := beq_iff_eq.mpr c19
                  have c19b1 : (x11_5 != 0) = false := bne_eq_false_iff_eq.mpr c19
                  clear c19
                  have HC20 := Aside0.mk H
                  clear H
                  have hcz21_0 : wc.cell? ⟨gb285, 0, none⟩ = some (.int .i64 ((rd_T40 l0 x8_1).f1.f0)) := (blk_cell BK285.out 0).trans rfl
                  have hcz21_1 : wc.cell? ⟨gb285, 1, none⟩ = some (.int .i64 ((rd_T40 l0 x8_1).f1.f1)) := (blk_cell BK285.out 1).trans rfl
                  have hfz21_0 := blk_frozen BK285.out 0
                  have hfz21_1 := blk_frozen BK285.out 1
                  go_upto_if 63 with (fail)
                  go_cut [6, 7] (fun v6 v7 wc => ∃ (kq : Nat) (x6_19 : Int) (x7_19 : Bool), v6 = .int .i64 x6_19 ∧ v7 = .bool x7_19 ∧ Aside0 (sextonlaw17_PinRuns.j2 kq l0 a1 x6_19 x7_19 x8_1 x10_5 = some r) ∧ Aside0 (kq ≤ kj5) ∧ Aside0 (Kd.R k24 24 wc w.heap.size (fun k_ => k_ ≠ gb285) u10 x10_5) ∧ Aside0 (wc.heap[gb285]? = some (.cells #[.int .i64 ((rd_T40 l0 x8_1).f1.f0), .int .i64 ((rd_T40 l0 x8_1).f1.f1)] 24 (0, 0))) ∧ Aside0 (Below w.heap.size w wc))
                  case first =>
                    have H := HC20.out
                    clear HC20
                    by_cases c22 : ((rd_T40 l0 x8_1).f1.f0) = a1
                    · rw [if_pos c22] at H
                      have c22b0 : (((rd_T40 l0 x8_1).f1.f0) == a1) = true := beq_iff_eq.mpr c22
                      have c22b1 : (((rd_T40 l0 x8_1).f1.f0) != a1) = false := bne_eq_false_iff_eq.mpr c22
                      clear c22
                      (first | rw [c22b0] | (simp only [i64_w, i32_w]; rw [c22b0]) | skip)
                      by_cases c23 : 0 ≤ x8_1
                      · rw [if_pos c23] at H
                        have c23b0 : decide (0 ≤ x8_1) = true := decide_eq_true c23
                        clear c23
                        by_cases c24 : x8_1 < (l0.length : Int)
                        · rw [if_pos c24] at H
                          have c24b0 : decide (x8_1 < (l0.length : Int)) = true := decide_eq_true c24
                          clear c24
                          have H' := Aside0.mk H
                          clear H
                          have p295 : 0 ≤ (x8_1 : Int) := of_decide_eq_true (by first | (with_reducible assumption) | assumption)
                          have q295 : x8_1 < (l0.length : Int) := of_decide_eq_true (by first | (with_reducible assumption) | assumption)
                          obtain ⟨ad295, e295, hx295_0, hx295_1, hx295_2⟩ := at_T40 HR0.out x8_1 p295 q295
                          obtain rfl : ad284 = ad295 := (by injection e295)
                          replace hx295_0 := (HB.out.cell (World.block_lt_of_cell? w _ hx295_0)).trans hx295_0
                          replace hx295_1 := (HB.out.cell (World.block_lt_of_cell? w _ hx295_1)).trans hx295_1
                          replace hx295_2 := (HB.out.cell (World.block_lt_of_cell? w _ hx295_2)).trans hx295_2
                          replace p295 := eq_true p295
                          replace q295 := eq_true q295
                          have hcz25_0 : wc.cell? ⟨gb285, 0, none⟩ = some (.int .i64 ((rd_T40 l0 x8_1).f1.f0)) := (blk_cell BK285.out 0).trans rfl
                          have hcz25_1 : wc.cell? ⟨gb285, 1, none⟩ = some (.int .i64 ((rd_T40 l0 x8_1).f1.f1)) := (blk_cell BK285.out 1).trans rfl
                          have hfz25_0 := blk_frozen BK285.out 0
                          have hfz25_1 := blk_frozen BK285.out 1
                          go_wp2
                          go_meet
                          case rel => exact ⟨_, (((rd_T40 l0 x8_1).f1.f1)), ((((rd_T40 l0 x8_1).f0) == 1)), (by first | rfl | (simp; done) | (simp [*]; done)), (by first | rfl | (simp; done) | (simp [*]; done)), H', ⟨by have := HK1.out; have := HJ5.out; first | omega | exact Nat.le_refl _⟩, ⟨by (with_reducible repeat (first | apply Kd.R_alloc | apply Kd.R_drewN | apply Kd.R_drew)); exact Kd.R_mono HO_10.out (fun _ hk => hk.2)⟩, ⟨by (with_reducible repeat (first | refine blk_drewN ?_ _ | refine blk_drew ?_ | refine blk_alloc ?_ _)); exact BK285.out⟩, ⟨by repeat (first | (with_reducible first | exact HB.out | apply below_alloc | apply pw_below_drewN | apply below_drew1 | refine below_set ?_ GE285.out) | exact HB.out)⟩⟩
                        · rw [if_neg c24] at H
                          exact absurd H (by simp)
                      · rw [if_neg c23] at H
                        exact absurd H (by simp)
                    · rw [if_neg c22] at H
                      have c22b0 : (((rd_T40 l0 x8_1).f1.f0) == a1) = false := beq_eq_false_iff_ne.mpr c22
                      have c22b1 : (((rd_T40 l0 x8_1).f1.f0) != a1) = true := bne_iff_ne.mpr c22
                      (first | rw [c22b0] | (simp only [i64_w, i32_w]; rw [c22b0]) | skip)
                      have H' := Aside0.mk H
                      clear H
                      go_wp2
                      go_meet
                      case rel => exact ⟨_, (x6_1), (x7_1), (by first | rfl | (simp; done) | (simp [*]; done)), (by first | rfl | (simp; done) | (simp [*]; done)), H', ⟨by have := HK1.out; have := HJ5.out; first | omega | exact Nat.le_refl _⟩, ⟨by (with_reducible repeat (first | apply Kd.R_alloc | apply Kd.R_drewN | apply Kd.R_drew)); exact Kd.R_mono HO_10.out (fun _ hk => hk.2)⟩, ⟨by (with_reducible repeat (first | refine blk_drewN ?_ _ | refine blk_drew ?_ | refine blk_alloc ?_ _)); exact BK285.out⟩, ⟨by repeat (first | (with_reducible first | exact HB.out | apply below_alloc | apply pw_below_drewN | apply below_drew1 | refine below_set ?_ GE285.out) | exact HB.out)⟩⟩
                  case rest =>
                    clear HC20
                    try clear c1
                    try clear c2
                    try clear p2
                    try clear q2
                    try clear hx2
                    try clear c3
                    try clear c3b0
                    try clear c3b1
                    try clear c4
                    try clear c4b0
                    try clear c5
                    try clear c5b0
                    try clear c9
                    try clear c9b0
                    try clear c9b1
                    try clear c11
                    try clear c14
                    try clear c14b0
                    try clear c14b1
                    try clear c19
                    try clear c19b0
                    try clear c19b1
                    try clear c22
                    try clear c22b0
                    try clear c22b1
                    try clear c23
                    try clear c23b0
                    try clear c24
                    try clear c24b0
                    try clear hcz11_0
                    try clear hcz11_1
                    try clear hcz16_0
                    try clear hcz16_1
                    try clear hcz21_0
                    try clear hcz21_1
                    try clear hcz25_0
                    try clear hcz25_1
                    try clear hcz8_0
                    try clear hcz8_1
                    try clear hfz11_0
                    try clear hfz11_1
                    try clear hfz16_0
                    try clear hfz16_1
                    try clear hfz21_0
                    try clear hfz21_1
                    try clear hfz25_0
                    try clear hfz25_1
                    try clear hfz8_0
                    try clear hfz8_1
                    try clear hx284_0
                    try clear hx284_1
                    try clear hx284_2
                    try clear hx286_0
                    try clear hx286_1
                    try clear hx286_2
                    try clear hx295_0
                    try clear hx295_1
                    try clear hx295_2
                    try clear p2
                    try clear p284
                    try clear p286
                    try clear p295
                    try clear q2
                    try clear q284
                    try clear q286
                    try clear q295
                    obtain ⟨kq, x6_19, x7_19, rfl, rfl, HA, HJ19, HO_10, BK285, HB⟩ := hcut
                    cases kq with
                    | zero => exact absurd HA.out (by simp [sextonlaw17_PinRuns.j2])
                    | succ kj19 =>
                      have H := HA.out
                      clear HA
                      simp only [sextonlaw17_PinRuns.j2] at H
                      replace H := Option.bind_eq_some_iff.mp H
                      obtain ⟨⟨t296, t297⟩, A260, H⟩ := H
                      replace H : (if (t297 != x7_19) = true then (some false) else (if t297 = true then (if t296 = x6_19 then ((pin_Is.f kj19 x10_5).bind fun t298 => (if t298 = true then (sextonlaw17_PinRuns.l0 kj19 l0 a1 x10_5 x6_19 x7_19 (wrap64 (x8_1 + 1))) else (some false))) else (some false)) else ((pin_Is.f kj19 x10_5).bind fun t299 => (if t299 = true then (sextonlaw17_PinRuns.l0 kj19 l0 a1 x10_5 x6_19 x7_19 (wrap64 (x8_1 + 1))) else (some false))))) = some r := H
                      have A26 := Aside0.mk A260
                      clear A260
                      by_cases c27 : (t297 != x7_19) = true
                      · rw [if_pos c27] at H
                        have c27b0 : (t297 != x7_19) = true := c27
                        (try (have c27b1 : decide (t297 = x7_19) = false := by simpa using c27))
                        (try (have c27b2 : (t297 == x7_19) = false := by simpa using c27))
                        (try (have c27b3 : ¬ (t297 = x7_19) := by simpa using c27))
                        clear c27
                        exact absurd (H.trans (congrArg some HT.out)) (by simp)
                      · rw [if_neg c27] at H
                        have c27b0 : (t297 != x7_19) = false := by simpa using c27
                        (try (have c27b1 : decide (t297 = x7_19) = true := by simpa using c27))
                        (try (have c27b2 : (t297 == x7_19) = true := by simpa using c27))
                        clear c27
                        by_cases c28 : t297 = true
                        · subst c28
                          have H1 : (if t296 = x6_19 then ((pin_Is.f kj19 x10_5).bind fun t298 => (if t298 = true then (sextonlaw17_PinRuns.l0 kj19 l0 a1 x10_5 x6_19 x7_19 (wrap64 (x8_1 + 1))) else (some false))) else (some false)) = some r := by rw [if_pos rfl] at H; exact H
                          clear H
                          have H := H1
                          clear H1
                          by_cases c29 : t296 = x6_19
                          · rw [if_pos c29] at H
                            have c29b0 : (t296 == x6_19) = true := beq_iff_eq.mpr c29
                            have c29b1 : (t296 != x6_19) = false := bne_eq_false_iff_eq.mpr c29
                            clear c29
                            replace H := Option.bind_eq_some_iff.mp H
                            obtain ⟨t298, A300, H⟩ := H
                            replace H : (if t298 = true then (sextonlaw17_PinRuns.l0 kj19 l0 a1 x10_5 x6_19 x7_19 (wrap64 (x8_1 + 1))) else (some false)) = some r := H
                            have A30 := Aside0.mk A300
                            clear A300
                            by_cases c31 : t298 = true
                            · subst c31
                              have H1 : (sextonlaw17_PinRuns.l0 kj19 l0 a1 x10_5 x6_19 x7_19 (wrap64 (x8_1 + 1))) = some r := by rw [if_pos rfl] at H; exact H
                              clear H
                              have H := H1
                              clear H1
                              have H' := Aside0.mk H
                              clear H
                              obtain ⟨Ao32, co32, eo32⟩ := Kd.R_slice HO_10.out
                              subst eo32
                              go_wp2_with (first | ((with_reducible refine gate_callee (f := 13) rfl ?_); refine goesL_ (some 76) rfl rfl Try.func13 (by kernel_rfl) rfl #[.slice Ao32 x10_5.length co32, .int .i64 a1] rfl (by (try simp only [List.map_toArray, List.map_cons, List.map_nil]); first | done | rfl | (simp only [List.length_drop, List.length_take]; rfl)) ?_; (with_reducible refine (pin_Of.calls _ _ x10_5 a1 t296 true _ ?side1 ?side2 A26.out).mono ?_); (case side1 => repeat (first | exact (Kd.R_reads' HO_10.out).2.2 | (with_reducible refine Kd.C_alloc ?_ _) | (with_reducible refine Kd.C_drewN ?_ _) | (with_reducible refine Kd.C_drew ?_))); (case side2 => exact (Kd.R_reads' HO_10.out).2.1); rintro e w33 ⟨rfl, hb⟩; refine ⟨_, rfl, ?_⟩; have n0_ := Aside0.mk (Kd.R_below (by (with_reducible repeat (first | apply Kd.R_alloc | apply Kd.R_drewN | apply Kd.R_drew)); exact HO_10.out) hb); have n1_ := Aside0.mk (blk_below (g := gb285) (o := .cells #[.int .i64 ((rd_T40 l0 x8_1).f1.f0), .int .i64 ((rd_T40 l0 x8_1).f1.f1)] 24 (0, 0)) (by (with_reducible repeat (first | refine blk_drewN ?_ _ | refine blk_drew ?_ | refine blk_alloc ?_ _)); exact BK285.out) hb); have n2_ := Aside0.mk (below_step (by repeat (first | (with_reducible first | exact HB.out | apply below_alloc | apply pw_below_drewN | apply below_drew1 | refine below_set ?_ GE285.out) | exact HB.out)) hb); clear HO_10; clear BK285; clear HB; have HO_10 := n0_; have BK285 := n1_; have HB := n2_; clear n0_ n1_ n2_; (try clear hb); (try clear hb2); (try clear hk); (try clear hi)) | (go_at_call 21; (with_reducible refine (pin_Is.calls kj19 _ _ x10_5 true _ ?side1 ?side2 A30.out).mono ?_); (case side1 => repeat (first | exact (Kd.R_reads' HO_10.out).2.2 | (with_reducible refine Kd.C_alloc ?_ _) | (with_reducible refine Kd.C_drewN ?_ _) | (with_reducible refine Kd.C_drew ?_))); (case side2 => exact (Kd.R_reads' HO_10.out).2.1); rintro e w34 ⟨rfl, hb⟩; have n0_ := Aside0.mk (Kd.R_below (by (with_reducible repeat (first | apply Kd.R_alloc | apply Kd.R_drewN | apply Kd.R_drew)); exact HO_10.out) hb); have n1_ := Aside0.mk (blk_below (g := gb285) (o := .cells #[.int .i64 ((rd_T40 l0 x8_1).f1.f0), .int .i64 ((rd_T40 l0 x8_1).f1.f1)] 24 (0, 0)) (by (with_reducible repeat (first | refine blk_drewN ?_ _ | refine blk_drew ?_ | refine blk_alloc ?_ _)); exact BK285.out) hb); have n2_ := Aside0.mk (below_step (by repeat (first | (with_reducible first | exact HB.out | apply below_alloc | apply pw_below_drewN | apply below_drew1 | refine below_set ?_ GE285.out) | exact HB.out)) hb); clear HO_10; clear BK285; clear HB; have HO_10 := n0_; have BK285 := n1_; have HB := n2_; clear n0_ n1_ n2_; (try clear hb); (try clear hb2); (try clear hk); (try clear hi)))
                              go_roundg kj19
                              case measure => have := HK1.out; have := HJ5.out; have := HJ19.out; omega
                              case rel => exact ⟨(x10_5), (x6_19), (x7_19), (wrap64 (x8_1 + 1)), (by first | rfl | (simp; done) | (simp [*]; done)), (by first | rfl | (simp; done) | (simp [*]; done)), (by first | rfl | (simp; done) | (simp [*]; done)), H', ⟨by have := HK1.out; have := HJ5.out; have := HJ19.out; omega⟩, ⟨by (with_reducible repeat (first | apply Kd.R_alloc | apply Kd.R_drewN | apply Kd.R_drew)); exact Kd.R_mono HO_10.out (fun _ hk => trivial)⟩, ⟨by repeat (first | (with_reducible first | exact HB.out | apply below_alloc | apply pw_below_drewN | apply below_drew1 | refine below_set ?_ GE285.out) | exact HB.out)⟩⟩
                            · replace c31 := Bool.eq_false_iff.mpr c31
                              subst c31
                              have H1 : (some false) = some r := by rw [if_neg (show ¬ (false = true) by decide)] at H; exact H
                              clear H
                              have H := H1
                              clear H1
                              exact absurd (H.trans (congrArg some HT.out)) (by simp)
                          · rw [if_neg c29] at H
                            have c29b0 : (t296 == x6_19) = false := beq_eq_false_iff_ne.mpr c29
                            have c29b1 : (t296 != x6_19) = true := bne_iff_ne.mpr c29
                            exact absurd (H.trans (congrArg some HT.out)) (by simp)
                        · replace c28 := Bool.eq_false_iff.mpr c28
                          subst c28
                          have H1 : ((pin_Is.f kj19 x10_5).bind fun t299 => (if t299 = true then (sextonlaw17_PinRuns.l0 kj19 l0 a1 x10_5 x6_19 x7_19 (wrap64 (x8_1 + 1))) else (some false))) = some r := by rw [if_neg (show ¬ (false = true) by decide)] at H; exact H
                          clear H
                          have H := H1
                          clear H1
                          replace H := Option.bind_eq_some_iff.mp H
                          obtain ⟨t299, A350, H⟩ := H
                          replace H : (if t299 = true then (sextonlaw17_PinRuns.l0 kj19 l0 a1 x10_5 x6_19 x7_19 (wrap64 (x8_1 + 1))) else (some false)) = some r := H
                          have A35 := Aside0.mk A350
                          clear A350
                          by_cases c36 : t299 = true
                          · subst c36
                            have H1 : (sextonlaw17_PinRuns.l0 kj19 l0 a1 x10_5 x6_19 x7_19 (wrap64 (x8_1 + 1))) = some r := by rw [if_pos rfl] at H; exact H
                            clear H
                            have H := H1
                            clear H1
                            have H' := Aside0.mk H
                            clear H
                            obtain ⟨Ao37, co37, eo37⟩ := Kd.R_slice HO_10.out
                            subst eo37
                            go_wp2_with (first | ((with_reducible refine gate_callee (f := 13) rfl ?_); refine goesL_ (some 76) rfl rfl Try.func13 (by kernel_rfl) rfl #[.slice Ao37 x10_5.length co37, .int .i64 a1] rfl (by (try simp only [List.map_toArray, List.map_cons, List.map_nil]); first | done | rfl | (simp only [List.length_drop, List.length_take]; rfl)) ?_; (with_reducible refine (pin_Of.calls _ _ x10_5 a1 t296 false _ ?side1 ?side2 A26.out).mono ?_); (case side1 => repeat (first | exact (Kd.R_reads' HO_10.out).2.2 | (with_reducible refine Kd.C_alloc ?_ _) | (with_reducible refine Kd.C_drewN ?_ _) | (with_reducible refine Kd.C_drew ?_))); (case side2 => exact (Kd.R_reads' HO_10.out).2.1); rintro e w38 ⟨rfl, hb⟩; refine ⟨_, rfl, ?_⟩; have n0_ := Aside0.mk (Kd.R_below (by (with_reducible repeat (first | apply Kd.R_alloc | apply Kd.R_drewN | apply Kd.R_drew)); exact HO_10.out) hb); have n1_ := Aside0.mk (blk_below (g := gb285) (o := .cells #[.int .i64 ((rd_T40 l0 x8_1).f1.f0), .int .i64 ((rd_T40 l0 x8_1).f1.f1)] 24 (0, 0)) (by (with_reducible repeat (first | refine blk_drewN ?_ _ | refine blk_drew ?_ | refine blk_alloc ?_ _)); exact BK285.out) hb); have n2_ := Aside0.mk (below_step (by repeat (first | (with_reducible first | exact HB.out | apply below_alloc | apply pw_below_drewN | apply below_drew1 | refine below_set ?_ GE285.out) | exact HB.out)) hb); clear HO_10; clear BK285; clear HB; have HO_10 := n0_; have BK285 := n1_; have HB := n2_; clear n0_ n1_ n2_; (try clear hb); (try clear hb2); (try clear hk); (try clear hi)) | (go_at_call 21; (with_reducible refine (pin_Is.calls kj19 _ _ x10_5 true _ ?side1 ?side2 A35.out).mono ?_); (case side1 => repeat (first | exact (Kd.R_reads' HO_10.out).2.2 | (with_reducible refine Kd.C_alloc ?_ _) | (with_reducible refine Kd.C_drewN ?_ _) | (with_reducible refine Kd.C_drew ?_))); (case side2 => exact (Kd.R_reads' HO_10.out).2.1); rintro e w39 ⟨rfl, hb⟩; have n0_ := Aside0.mk (Kd.R_below (by (with_reducible repeat (first | apply Kd.R_alloc | apply Kd.R_drewN | apply Kd.R_drew)); exact HO_10.out) hb); have n1_ := Aside0.mk (blk_below (g := gb285) (o := .cells #[.int .i64 ((rd_T40 l0 x8_1).f1.f0), .int .i64 ((rd_T40 l0 x8_1).f1.f1)] 24 (0, 0)) (by (with_reducible repeat (first | refine blk_drewN ?_ _ | refine blk_drew ?_ | refine blk_alloc ?_ _)); exact BK285.out) hb); have n2_ := Aside0.mk (below_step (by repeat (first | (with_reducible first | exact HB.out | apply below_alloc | apply pw_below_drewN | apply below_drew1 | refine below_set ?_ GE285.out) | exact HB.out)) hb); clear HO_10; clear BK285; clear HB; have HO_10 := n0_; have BK285 := n1_; have HB := n2_; clear n0_ n1_ n2_; (try clear hb); (try clear hb2); (try clear hk); (try clear hi)))
                            go_roundg kj19
                            case measure => have := HK1.out; have := HJ5.out; have := HJ19.out; omega
                            case rel => exact ⟨(x10_5), (x6_19), (x7_19), (wrap64 (x8_1 + 1)), (by first | rfl | (simp; done) | (simp [*]; done)), (by first | rfl | (simp; done) | (simp [*]; done)), (by first | rfl | (simp; done) | (simp [*]; done)), H', ⟨by have := HK1.out; have := HJ5.out; have := HJ19.out; omega⟩, ⟨by (with_reducible repeat (first | apply Kd.R_alloc | apply Kd.R_drewN | apply Kd.R_drew)); exact Kd.R_mono HO_10.out (fun _ hk => trivial)⟩, ⟨by repeat (first | (with_reducible first | exact HB.out | apply below_alloc | apply pw_below_drewN | apply below_drew1 | refine below_set ?_ GE285.out) | exact HB.out)⟩⟩
                          · replace c36 := Bool.eq_false_iff.mpr c36
                            subst c36
                            have H1 : (some false) = some r := by rw [if_neg (show ¬ (false = true) by decide)] at H; exact H
                            clear H
                            have H := H1
                            clear H1
                            exact absurd (H.trans (congrArg some HT.out)) (by simp)
                · rw [if_neg c19] at H
                  have c19b0 : (x11_5 == 0) = false := beq_eq_false_iff_ne.mpr c19
                  have c19b1 : (x11_5 != 0) = true := bne_iff_ne.mpr c19
                  have H' := Aside0.mk H
                  clear H
                  go_wp2
                  go_roundg kj5
                  case measure => have := HK1.out; have := HJ5.out; omega
                  case rel => exact ⟨(x5_1), (x6_1), (x7_1), (wrap64 (x8_1 + 1)), (by first | rfl | (simp; done) | (simp [*]; done)), (by first | rfl | (simp; done) | (simp [*]; done)), (by first | rfl | (simp; done) | (simp [*]; done)), H', ⟨by have := HK1.out; have := HJ5.out; omega⟩, ⟨by (with_reducible repeat (first | apply Kd.R_alloc | apply Kd.R_drewN | apply Kd.R_drew)); exact Kd.R_mono HO_5.out (fun _ hk => trivial)⟩, ⟨by repeat (first | (with_reducible first | exact HB.out | apply below_alloc | apply pw_below_drewN | apply below_drew1 | refine below_set ?_ GE285.out) | exact HB.out)⟩⟩
          · rw [if_neg c5] at H
            exact absurd H (by simp)
        · rw [if_neg c4] at H
          have c4b0 : decide (x8_1 < (l0.length : Int)) = false := decide_eq_false c4
          clear c4
          replace H := Option.bind_eq_some_iff.mp H
          obtain ⟨t283, A400, H⟩ := H
          replace H : (some t283) = some r := H
          have A40 := Aside0.mk A400
          clear A400
          obtain rfl := Option.some.inj H
          go_wp2_with (first | ((with_reducible refine gate_callee (f := 20) rfl ?_); refine goesL_ (some 95) rfl rfl Try.func20 (by kernel_rfl) rfl #[] rfl (by (try simp only [List.map_toArray, List.map_cons, List.map_nil]); first | done | rfl | (simp only [List.length_drop, List.length_take]; rfl)) ?_; (with_reducible refine (sextonlaw17_pinned.calls k1  t283 _ A40.out (sextonlaw17_pinned.istrue A40.out)).mono ?_); rintro e w41 ⟨rfl, hb⟩; refine ⟨_, rfl, ?_⟩; have n0_ := Aside0.mk (Kd.R_below (by (with_reducible repeat (first | apply Kd.R_alloc | apply Kd.R_drewN | apply Kd.R_drew)); exact HO_5.out) hb); have n1_ := Aside0.mk (below_step (by repeat (first | (with_reducible first | exact HB.out | apply below_alloc | apply pw_below_drewN | apply below_drew1) | exact HB.out)) hb); clear HO_5; clear HB; have HO_5 := n0_; have HB := n1_; clear n0_ n1_; (try clear hb); (try clear hb2); (try clear hk); (try clear hi)))
          go_ret
          exact ⟨by first | rfl | (simp [errW_none, errW_some] <;> rfl) | (simp [*, errW_none, errW_some] <;> rfl), by repeat (first | (with_reducible first | exact HB.out | apply below_alloc | apply pw_below_drewN | apply below_drew1) | exact HB.out)⟩

/-! ### sextonlaw17_PinRaise: function 5 -/
def sextonlaw17_PinRaise.l0 : Nat → Int → Int → Int → List (S24) → Int → Int → Option (Bool)
  | 0, _, _, _, _, _, _ => none
  | k + 1, x0, x1, x2, x3, x9, x10 => if x10 < (x3.length : Int) then (if x9 > x0 then (if 0 ≤ x10 then (if ((rd_T24 x3 x10).f1) < x9 then (some false) else (sextonlaw17_PinRaise.l0 k x0 x1 x2 x3 x9 (wrap64 (x10 + 1)))) else (none)) else (sextonlaw17_PinRaise.l0 k x0 x1 x2 x3 x9 (wrap64 (x10 + 1)))) else ((pin_Raise.f k x9 x1 x2 x3).bind fun t302 => ((sextonlaw17_pinned.f k).bind fun t303 => (if t303 = true then (if x9 = x0 then (some (t302 == x9)) else (if x9 ≤ x1 then (if x9 ≤ x2 then (some (t302 == x9)) else (some false)) else (some false))) else (some false))))
def sextonlaw17_PinRaise.f (k : Nat) (a0 : Int) (a1 : Int) (a2 : Int) (l3 : List (S24)) : Option (Bool) := if (l3.length : Int) > 100 then (some true) else ((pin_Raise.f k a0 a1 a2 l3).bind fun t300 => (if t300 < a0 then (some false) else (sextonlaw17_PinRaise.l0 k a0 a1 a2 l3 t300 0)))
theorem sextonlaw17_PinRaise.mono_l : ∀ k, (∀ y0 y1 y2 y3 y4 y5, LeO (sextonlaw17_PinRaise.l0 k y0 y1 y2 y3 y4 y5) (sextonlaw17_PinRaise.l0 (k + 1) y0 y1 y2 y3 y4 y5))
  | 0 => fun _ _ _ _ _ _ r h => by simp [sextonlaw17_PinRaise.l0] at h
  | k + 1 => by
    have ih0 := sextonlaw17_PinRaise.mono_l k
    · intro y0 y1 y2 y3 y4 y5
      unfold sextonlaw17_PinRaise.l0
      repeat' first
      | (with_reducible exact ih0 _ _ _ _ _ _)
      | (with_reducible exact pin_Raise.mono _ _ _ _ _)
      | (with_reducible exact sextonlaw17_pinned.mono _)
      | (with_reducible exact LeO.refl _)
      | (with_reducible exact LeO.none _)
      | (with_reducible refine LeO.ite ?_ ?_)
      | (with_reducible refine LeO.bind ?_ (fun _ => ?_))
      | exact ih0 _ _ _ _ _ _
      | exact pin_Raise.mono _ _ _ _ _
      | exact sextonlaw17_pinned.mono _
      | exact LeO.none _
      | refine LeO.ite ?_ ?_
      | refine LeO.bind ?_ (fun _ => ?_)
theorem sextonlaw17_PinRaise.mono : ∀ a0 a1 a2 a3 k, LeO (sextonlaw17_PinRaise.f k a0 a1 a2 a3) (sextonlaw17_PinRaise.f (k + 1) a0 a1 a2 a3) := by
  intro a0 a1 a2 a3 k
  have ih0 := sextonlaw17_PinRaise.mono_l k
  unfold sextonlaw17_PinRaise.f
  repeat' first
      | (with_reducible exact ih0 _ _ _ _ _ _)
      | (with_reducible exact pin_Raise.mono _ _ _ _ _)
      | (with_reducible exact sextonlaw17_pinned.mono _)
      | (with_reducible exact LeO.refl _)
      | (with_reducible exact LeO.none _)
      | (with_reducible refine LeO.ite ?_ ?_)
      | (with_reducible refine LeO.bind ?_ (fun _ => ?_))
      | exact ih0 _ _ _ _ _ _
      | exact pin_Raise.mono _ _ _ _ _
      | exact sextonlaw17_pinned.mono _
      | exact LeO.none _
      | refine LeO.ite ?_ ?_
      | refine LeO.bind ?_ (fun _ => ?_)
set_option maxHeartbeats 8000000 in
set_option maxRecDepth 100000 in
theorem sextonlaw17_PinRaise.calls (k : Nat) (a0 : Int) (a1 : Int) (a2 : Int) (A3 : Option Addr) (c3 : Nat) (l3 : List (S24)) (r : Bool) (w : World) (hr3 : Kd.C k24 w A3 l3.length l3) (hc3 : l3.length ≤ c3) (h : sextonlaw17_PinRaise.f k a0 a1 a2 l3 = some r) (ht : r = true) :
    Calls Try.prog 5 #[.int .i64 a0, .int .i64 a1, .int .i64 a2, .slice A3 l3.length c3] w fun e w' => e = .returned (.bool r) ∧ Below w.heap.size w w' := by
  have HT := Aside0.mk ht
  clear ht
  have HR3 := Aside0.mk hr3
  have HC3 := Aside0.mk hc3
  clear hr3 hc3
  have HB := Aside0.mk (Below.refl w.heap.size w)
  have H : (if (l3.length : Int) > 100 then (some true) else ((pin_Raise.f k a0 a1 a2 l3).bind fun t300 => (if t300 < a0 then (some false) else (sextonlaw17_PinRaise.l0 k a0 a1 a2 l3 t300 0)))) = some r := h
  clear h
  by_cases c5 : (l3.length : Int) > 100
  · rw [if_pos c5] at H
    have c5b0 : decide (100 < (l3.length : Int)) = true := decide_eq_true c5
    have c5b1 : decide (100 < l3.length) = true := decide_eq_true (by omega)
    clear c5
    obtain rfl := Option.some.inj H
    go_enter Try.func5, Try.ntmps5
    go_wp2
    go_ret
    exact ⟨by first | rfl | (simp [errW_none, errW_some] <;> rfl) | (simp [*, errW_none, errW_some] <;> rfl), by repeat (first | (with_reducible first | exact HB.out | apply below_alloc | apply pw_below_drewN | apply below_drew1) | exact HB.out)⟩
  · rw [if_neg c5] at H
    have c5b0 : decide (100 < (l3.length : Int)) = false := decide_eq_false c5
    have c5b1 : decide (100 < l3.length) = false := decide_eq_false (by omega)
    clear c5
    replace H := Option.bind_eq_some_iff.mp H
    obtain ⟨t300, A60, H⟩ := H
    replace H : (if t300 < a0 then (some false) else (sextonlaw17_PinRaise.l0 k a0 a1 a2 l3 t300 0)) = some r := H
    have A6 := Aside0.mk A60
    clear A60
    by_cases c7 : t300 < a0
    · rw [if_pos c7] at H
      have c7b0 : decide (t300 < a0) = true := decide_eq_true c7
      clear c7
      exact absurd (H.trans (congrArg some HT.out)) (by simp)
    · rw [if_neg c7] at H
      have c7b0 : decide (t300 < a0) = false := decide_eq_false c7
      clear c7
      have H' := Aside0.mk H
      clear H
      go_enter Try.func5, Try.ntmps5
      go_wp2_with (first | ((with_reducible refine gate_callee (f := 18) rfl ?_); refine goesL_ (some 19) rfl rfl Try.func18 (by kernel_rfl) rfl #[.int .i64 a0, .int .i64 a1, .int .i64 a2, .slice A3 l3.length c3] rfl (by (try simp only [List.map_toArray, List.map_cons, List.map_nil]); first | done | rfl | (simp only [List.length_drop, List.length_take]; rfl)) ?_; (with_reducible refine (pin_Raise.calls k a0 a1 a2 _ _ l3 t300 _ ?side1 ?side2 A6.out).mono ?_); (case side1 => repeat (first | exact HR3.out | (with_reducible refine Kd.C_alloc ?_ _) | (with_reducible refine Kd.C_drewN ?_ _) | (with_reducible refine Kd.C_drew ?_))); (case side2 => exact HC3.out); rintro e w8 ⟨rfl, hb⟩; refine ⟨_, rfl, ?_⟩; have n0_ := Aside0.mk (below_step (by repeat (first | (with_reducible first | exact HB.out | apply below_alloc | apply pw_below_drewN | apply below_drew1) | exact HB.out)) hb); clear HB; have HB := n0_; clear n0_; (try clear hb); (try clear hb2); (try clear hk); (try clear hi)))
      go_loopg [10] k (fun kq v10 w' => ∃ (x10_1 : Int), v10 = .int .i64 x10_1 ∧ Aside0 (sextonlaw17_PinRaise.l0 kq a0 a1 a2 l3 t300 x10_1 = some r) ∧ Aside0 (kq ≤ k) ∧ Aside0 (Below w.heap.size w w'))
      case atStart => exact ⟨(0), (by first | rfl | (simp; done) | (simp [*]; done)), H', ⟨Nat.le_refl _⟩, ⟨by repeat (first | (with_reducible first | exact HB.out | apply below_alloc | apply pw_below_drewN | apply below_drew1) | exact HB.out)⟩⟩
      case round =>
        clear H'
        try clear c1
        try clear p2
        try clear c3
        try clear c5
        try clear c5b0
        try clear c5b1
        try clear c7
        try clear c7b0
        obtain ⟨x10_1, rfl, HA, HK1, HB⟩ := hrel
        cases gk with
        | zero => exact absurd HA.out (by simp [sextonlaw17_PinRaise.l0])
        | succ k1 =>
          have H := HA.out
          clear HA
          simp only [sextonlaw17_PinRaise.l0] at H
          by_cases c9 : x10_1 < (l3.length : Int)
          · rw [if_pos c9] at H
            have c9b0 : decide (x10_1 < (l3.length : Int)) = true := decide_eq_true c9
            clear c9
            by_cases c10 : t300 > a0
            · rw [if_pos c10] at H
              have c10b0 : decide (a0 < t300) = true := decide_eq_true c10
              clear c10
              by_cases c11 : 0 ≤ x10_1
              · rw [if_pos c11] at H
                have c11b0 : decide (0 ≤ x10_1) = true := decide_eq_true c11
                clear c11
                by_cases c12 : ((rd_T24 l3 x10_1).f1) < t300
                · rw [if_pos c12] at H
                  have c12b0 : decide (((rd_T24 l3 x10_1).f1) < t300) = true := decide_eq_true c12
                  clear c12
                  exact absurd (H.trans (congrArg some HT.out)) (by simp)
                · rw [if_neg c12] at H
                  have c12b0 : decide (((rd_T24 l3 x10_1).f1) < t300) = false := decide_eq_false c12
                  clear c12
                  have H' := Aside0.mk H
                  clear H
                  have p301 : 0 ≤ (x10_1 : Int) := of_decide_eq_true (by first | (with_reducible assumption) | assumption)
                  have q301 : x10_1 < (l3.length : Int) := of_decide_eq_true (by first | (with_reducible assumption) | assumption)
                  obtain ⟨ad301, e301, hx301_0, hx301_1⟩ := at_T24 HR3.out x10_1 p301 q301
                  cases e301
                  replace hx301_0 := (HB.out.cell (World.block_lt_of_cell? w _ hx301_0)).trans hx301_0
                  replace hx301_1 := (HB.out.cell (World.block_lt_of_cell? w _ hx301_1)).trans hx301_1
                  replace p301 := eq_true p301
                  replace q301 := eq_true q301
                  go_wp2
                  go_roundg k1
                  case measure => have := HK1.out; omega
                  case rel => exact ⟨(wrap64 (x10_1 + 1)), (by first | rfl | (simp; done) | (simp [*]; done)), H', ⟨by have := HK1.out; omega⟩, ⟨by repeat (first | (with_reducible first | exact HB.out | apply below_alloc | apply pw_below_drewN | apply below_drew1) | exact HB.out)⟩⟩
              · rw [if_neg c11] at H
                exact absurd H (by simp)
            · rw [if_neg c10] at H
              have c10b0 : decide (a0 < t300) = false := decide_eq_false c10
              clear c10
              have H' := Aside0.mk H
              clear H
              go_wp2
              go_roundg k1
              case measure => have := HK1.out; omega
              case rel => exact ⟨(wrap64 (x10_1 + 1)), (by first | rfl | (simp; done) | (simp [*]; done)), H', ⟨by have := HK1.out; omega⟩, ⟨by repeat (first | (with_reducible first | exact HB.out | apply below_alloc | apply pw_below_drewN | apply below_drew1) | exact HB.out)⟩⟩
          · rw [if_neg c9] at H
            have c9b0 : decide (x10_1 < (l3.length : Int)) = false := decide_eq_false c9
            clear c9
            replace H := Option.bind_eq_some_iff.mp H
            obtain ⟨t302, A130, H⟩ := H
            replace H : ((sextonlaw17_pinned.f k1).bind fun t303 => (if t303 = true then (if t300 = a0 then (some (t302 == t300)) else (if t300 ≤ a1 then (if t300 ≤ a2 then (some (t302 == t300)) else (some false)) else (some false))) else (some false))) = some r := H
            have A13 := Aside0.mk A130
            clear A130
            replace H := Option.bind_eq_some_iff.mp H
            obtain ⟨t303, A140, H⟩ := H
            replace H : (if t303 = true then (if t300 = a0 then (some (t302 == t300)) else (if t300 ≤ a1 then (if t300 ≤ a2 then (some (t302 == t300)) else (some false)) else (some false))) else (some false)) = some r := H
            have A14 := Aside0.mk A140
            clear A140
            by_cases c15 : t303 = true
            · subst c15
              have H1 : (if t300 = a0 then (some (t302 == t300)) else (if t300 ≤ a1 then (if t300 ≤ a2 then (some (t302 == t300)) else (some false)) else (some false))) = some r := by rw [if_pos rfl] at H; exact H
              clear H
              have H := H1
              clear H1
              by_cases c16 : t300 = a0
              · rw [if_pos c16] at H
                have c16b0 : (t300 == a0) = true := beq_iff_eq.mpr c16
                have c16b1 : (t300 != a0) = false := bne_eq_false_iff_eq.mpr c16
                clear c16
                obtain rfl := Option.some.inj H
                go_wp2_with (first | ((with_reducible refine gate_callee (f := 18) rfl ?_); refine goesL_ (some 45) rfl rfl Try.func18 (by kernel_rfl) rfl #[.int .i64 t300, .int .i64 a1, .int .i64 a2, .slice A3 l3.length c3] rfl (by (try simp only [List.map_toArray, List.map_cons, List.map_nil]); first | done | rfl | (simp only [List.length_drop, List.length_take]; rfl)) ?_; (with_reducible refine (pin_Raise.calls k1 t300 a1 a2 _ _ l3 t302 _ ?side1 ?side2 A13.out).mono ?_); (case side1 => repeat (first | exact (Kd.C_below HR3.out HB.out) | (with_reducible refine Kd.C_alloc ?_ _) | (with_reducible refine Kd.C_drewN ?_ _) | (with_reducible refine Kd.C_drew ?_))); (case side2 => exact HC3.out); rintro e w17 ⟨rfl, hb⟩; refine ⟨_, rfl, ?_⟩; have n0_ := Aside0.mk (below_step (by repeat (first | (with_reducible first | exact HB.out | apply below_alloc | apply pw_below_drewN | apply below_drew1) | exact HB.out)) hb); clear HB; have HB := n0_; clear n0_; (try clear hb); (try clear hb2); (try clear hk); (try clear hi)) | ((with_reducible refine gate_callee (f := 20) rfl ?_); refine goesL_ (some 46) rfl rfl Try.func20 (by kernel_rfl) rfl #[] rfl (by (try simp only [List.map_toArray, List.map_cons, List.map_nil]); first | done | rfl | (simp only [List.length_drop, List.length_take]; rfl)) ?_; (with_reducible refine (sextonlaw17_pinned.calls k1  true _ A14.out (sextonlaw17_pinned.istrue A14.out)).mono ?_); rintro e w18 ⟨rfl, hb⟩; refine ⟨_, rfl, ?_⟩; have n0_ := Aside0.mk (below_step (by repeat (first | (with_reducible first | exact HB.out | apply below_alloc | apply pw_below_drewN | apply below_drew1) | exact HB.out)) hb); clear HB; have HB := n0_; clear n0_; (try clear hb); (try clear hb2); (try clear hk); (try clear hi)))
                go_ret
                exact ⟨by first | rfl | (simp [errW_none, errW_some] <;> rfl) | (simp [*, errW_none, errW_some] <;> rfl), by repeat (first | (with_reducible first | exact HB.out | apply below_alloc | apply pw_below_drewN | apply below_drew1) | exact HB.out)⟩
              · rw [if_neg c16] at H
                have c16b0 : (t300 == a0) = false := beq_eq_false_iff_ne.mpr c16
                have c16b1 : (t300 != a0) = true := bne_iff_ne.mpr c16
                by_cases c19 : t300 ≤ a1
                · rw [if_pos c19] at H
                  have c19b0 : decide (t300 ≤ a1) = true := decide_eq_true c19
                  clear c19
                  by_cases c20 : t300 ≤ a2
                  · rw [if_pos c20] at H
                    have c20b0 : decide (t300 ≤ a2) = true := decide_eq_true c20
                    clear c20
                    obtain rfl := Option.some.inj H
                    go_wp2_with (first | ((with_reducible refine gate_callee (f := 18) rfl ?_); refine goesL_ (some 45) rfl rfl Try.func18 (by kernel_rfl) rfl #[.int .i64 t300, .int .i64 a1, .int .i64 a2, .slice A3 l3.length c3] rfl (by (try simp only [List.map_toArray, List.map_cons, List.map_nil]); first | done | rfl | (simp only [List.length_drop, List.length_take]; rfl)) ?_; (with_reducible refine (pin_Raise.calls k1 t300 a1 a2 _ _ l3 t302 _ ?side1 ?side2 A13.out).mono ?_); (case side1 => repeat (first | exact (Kd.C_below HR3.out HB.out) | (with_reducible refine Kd.C_alloc ?_ _) | (with_reducible refine Kd.C_drewN ?_ _) | (with_reducible refine Kd.C_drew ?_))); (case side2 => exact HC3.out); rintro e w21 ⟨rfl, hb⟩; refine ⟨_, rfl, ?_⟩; have n0_ := Aside0.mk (below_step (by repeat (first | (with_reducible first | exact HB.out | apply below_alloc | apply pw_below_drewN | apply below_drew1) | exact HB.out)) hb); clear HB; have HB := n0_; clear n0_; (try clear hb); (try clear hb2); (try clear hk); (try clear hi)) | ((with_reducible refine gate_callee (f := 20) rfl ?_); refine goesL_ (some 46) rfl rfl Try.func20 (by kernel_rfl) rfl #[] rfl (by (try simp only [List.map_toArray, List.map_cons, List.map_nil]); first | done | rfl | (simp only [List.length_drop, List.length_take]; rfl)) ?_; (with_reducible refine (sextonlaw17_pinned.calls k1  true _ A14.out (sextonlaw17_pinned.istrue A14.out)).mono ?_); rintro e w22 ⟨rfl, hb⟩; refine ⟨_, rfl, ?_⟩; have n0_ := Aside0.mk (below_step (by repeat (first | (with_reducible first | exact HB.out | apply below_alloc | apply pw_below_drewN | apply below_drew1) | exact HB.out)) hb); clear HB; have HB := n0_; clear n0_; (try clear hb); (try clear hb2); (try clear hk); (try clear hi)))
                    go_ret
                    exact ⟨by first | rfl | (simp [errW_none, errW_some] <;> rfl) | (simp [*, errW_none, errW_some] <;> rfl), by repeat (first | (with_reducible first | exact HB.out | apply below_alloc | apply pw_below_drewN | apply below_drew1) | exact HB.out)⟩
                  · rw [if_neg c20] at H
                    have c20b0 : decide (t300 ≤ a2) = false := decide_eq_false c20
                    clear c20
                    exact absurd (H.trans (congrArg some HT.out)) (by simp)
                · rw [if_neg c19] at H
                  have c19b0 : decide (t300 ≤ a1) = false := decide_eq_false c19
                  clear c19
                  exact absurd (H.trans (congrArg some HT.out)) (by simp)
            · replace c15 := Bool.eq_false_iff.mpr c15
              subst c15
              have H1 : (some false) = some r := by rw [if_neg (show ¬ (false = true) by decide)] at H; exact H
              clear H
              have H := H1
              clear H1
              exact absurd (H.trans (congrArg some HT.out)) (by simp)

end Go.Proofs.Ytkdpjgcimnchlaa.P
