/- Part 5 of the walk. -/
import Derived.Test.YtfpfpckocemmdaaCOld04
section
namespace Go.Proofs.Ytfpfpckocemmdaa.P
open Go.RowKit Go.Proofs.YtfpfpckocemmdaaW.PrintWords Go.Proofs.YtfpfpckocemmdaaW.PrintLast Go.Proofs.YtfpfpckocemmdaaW.PrintMore
attribute [local go_sem] max2_int min2_int max_two min_two max_three min_three max_four min_four   -- for this text's walks alone
set_option linter.unusedVariables false
set_option linter.unusedSimpArgs false
def sextonref22_SameVote.f (k : Nat) (a0_0 : Int) (a0_1 : Int) (a0_2 : Int) (l0_3 : List ByteArray) (a1_0 : Int) (a1_1 : Int) (a1_2 : Int) (l1_3 : List ByteArray) : Option (Bool) := if a0_0 = a1_0 then (if a0_1 = a1_1 then (if a0_2 = a1_2 then ((sextonref01_Texts.f k l0_3 l1_3).bind fun t195 => (some t195)) else (some false)) else (some false)) else (some false)
set_option maxHeartbeats 8000000 in
set_option maxRecDepth 100000 in
theorem sextonref22_SameVote.calls (k : Nat) (a0_0 : Int) (a0_1 : Int) (a0_2 : Int) (A0_3 : Option Addr) (c0_3 : Nat) (l0_3 : List ByteArray) (a1_0 : Int) (a1_1 : Int) (a1_2 : Int) (A1_3 : Option Addr) (c1_3 : Nat) (l1_3 : List ByteArray) (r : Bool) (w : World) (hr0_3 : Kd.C Kd.string w A0_3 l0_3.length l0_3) (hc0_3 : l0_3.length ≤ c0_3) (hr1_3 : Kd.C Kd.string w A1_3 l1_3.length l1_3) (hc1_3 : l1_3.length ≤ c1_3) (h : sextonref22_SameVote.f k a0_0 a0_1 a0_2 l0_3 a1_0 a1_1 a1_2 l1_3 = some r) :
    Calls Try.prog 50 #[.agg #[.int .i64 a0_0, .int .i64 a0_1, .int .i64 a0_2, .slice A0_3 l0_3.length c0_3], .agg #[.int .i64 a1_0, .int .i64 a1_1, .int .i64 a1_2, .slice A1_3 l1_3.length c1_3]] w fun e w' => e = .returned (.bool r) ∧ Below w.heap.size w w' := by
  have hu66 := Try.underlying66
  have HR0_3 := Aside0.mk hr0_3
  have HC0_3 := Aside0.mk hc0_3
  clear hr0_3 hc0_3
  have HR1_3 := Aside0.mk hr1_3
  have HC1_3 := Aside0.mk hc1_3
  clear hr1_3 hc1_3
  have HB := Aside0.mk (Below.refl w.heap.size w)
  have H : (if a0_0 = a1_0 then (if a0_1 = a1_1 then (if a0_2 = a1_2 then ((sextonref01_Texts.f k l0_3 l1_3).bind fun t195 => (some t195)) else (some false)) else (some false)) else (some false)) = some r := h
  clear h
  by_cases c3 : a0_0 = a1_0
  · rw [if_pos c3] at H
    have c3b0 : (a0_0 == a1_0) = true := beq_iff_eq.mpr c3
    have c3b1 : (a0_0 != a1_0) = false := bne_eq_false_iff_eq.mpr c3
    clear c3
    by_cases c4 : a0_1 = a1_1
    · rw [if_pos c4] at H
      have c4b0 : (a0_1 == a1_1) = true := beq_iff_eq.mpr c4
      have c4b1 : (a0_1 != a1_1) = false := bne_eq_false_iff_eq.mpr c4
      clear c4
      by_cases c5 : a0_2 = a1_2
      · rw [if_pos c5] at H
        have c5b0 : (a0_2 == a1_2) = true := beq_iff_eq.mpr c5
        have c5b1 : (a0_2 != a1_2) = false := bne_eq_false_iff_eq.mpr c5
        clear c5
        replace H := Option.bind_eq_some_iff.mp H
        obtain ⟨t195, A60, H⟩ := H
        replace H : (some t195) = some r := H
        have A6 := Aside0.mk A60
        clear A60
        obtain rfl := Option.some.inj H
        go_enter Try.func50, Try.ntmps50
        go_wp2_with (first | ((with_reducible refine gate_dst (N := 2) rfl ?_); refine box_event ?hg (N := 2) ?hd (cs := #[.int .i64 a0_0, .int .i64 a0_1, .int .i64 a0_2, .slice A0_3 l0_3.length c0_3]) (t := 66) ?hr ?_; (case hd => rfl); (case hg => rfl); (case hr => first | (go_simp; done) | (go_simp; rfl)); intro gb193 hg w7 hbox hb; have n0_ := Aside0.mk (below_step (by repeat (first | (with_reducible first | exact HB.out | apply below_alloc | apply pw_below_drewN | apply below_drew1) | exact HB.out)) hb); have n1_ := Aside0.mk (hbox); have n2_ := Aside0.mk ((by rw [hg]; exact (below_size (by repeat (first | (with_reducible first | exact HB.out | apply below_alloc | apply pw_below_drewN | apply below_drew1) | exact HB.out))) : w.heap.size ≤ gb193)); have n3_ := Aside0.mk ((by rw [hg]; exact (below_size (by repeat (first | (with_reducible first | exact HB.out | apply below_alloc | apply pw_below_drewN | apply below_drew1) | exact HB.out))) : w.heap.size ≤ gb193)); clear HB; have HB := n0_; have BK193 := n1_; have GW193 := n2_; have GE193 := n3_; clear n0_ n1_ n2_ n3_; clear hb hbox hg) | ((with_reducible refine gate_dst (N := 3) rfl ?_); refine box_event ?hg (N := 3) ?hd (cs := #[.int .i64 a1_0, .int .i64 a1_1, .int .i64 a1_2, .slice A1_3 l1_3.length c1_3]) (t := 66) ?hr ?_; (case hd => rfl); (case hg => rfl); (case hr => first | (go_simp; done) | (go_simp; rfl)); intro gb194 hg w8 hbox hb; have n0_ := Aside0.mk (blk_below (g := gb193) (o := .cells #[.int .i64 a0_0, .int .i64 a0_1, .int .i64 a0_2, .slice A0_3 l0_3.length c0_3] 66 (0, 0)) (by (with_reducible repeat (first | refine blk_drewN ?_ _ | refine blk_drew ?_ | refine blk_alloc ?_ _)); exact BK193.out) hb); have n1_ := Aside0.mk (below_step (by repeat (first | (with_reducible first | exact HB.out | apply below_alloc | apply pw_below_drewN | apply below_drew1 | refine below_set ?_ GE193.out) | exact HB.out)) hb); have n2_ := Aside0.mk (hbox); have n3_ := Aside0.mk ((by rw [hg]; exact (below_size (by repeat (first | (with_reducible first | exact HB.out | apply below_alloc | apply pw_below_drewN | apply below_drew1 | refine below_set ?_ GE193.out) | exact HB.out))) : w.heap.size ≤ gb194)); have n4_ := Aside0.mk ((by rw [hg]; exact (below_size (by repeat (first | (with_reducible first | exact HB.out | apply below_alloc | apply pw_below_drewN | apply below_drew1 | refine below_set ?_ GE193.out) | exact HB.out))) : w.heap.size ≤ gb194)); have n5_ := Aside0.mk ((by rw [hg]; exact Nat.ne_of_lt (blk_lt (g := gb193) (o := .cells #[.int .i64 a0_0, .int .i64 a0_1, .int .i64 a0_2, .slice A0_3 l0_3.length c0_3] 66 (0, 0)) (by (with_reducible repeat (first | refine blk_drewN ?_ _ | refine blk_drew ?_ | refine blk_alloc ?_ _)); exact BK193.out)) : gb193 ≠ gb194)); have n6_ := Aside0.mk ((by rw [hg]; exact Nat.ne_of_gt (blk_lt (g := gb193) (o := .cells #[.int .i64 a0_0, .int .i64 a0_1, .int .i64 a0_2, .slice A0_3 l0_3.length c0_3] 66 (0, 0)) (by (with_reducible repeat (first | refine blk_drewN ?_ _ | refine blk_drew ?_ | refine blk_alloc ?_ _)); exact BK193.out)) : gb194 ≠ gb193)); clear BK193; clear HB; have BK193 := n0_; have HB := n1_; have BK194 := n2_; have GW194 := n3_; have GE194 := n4_; have NB193_194 := n5_; have NB194_193 := n6_; clear n0_ n1_ n2_ n3_ n4_ n5_ n6_; clear hb hbox hg; have hnb9 := NB193_194.out; have hnc9 := NB194_193.out; have hcz10_0 : w8.cell? ⟨gb193, 0, none⟩ = some (.int .i64 a0_0) := (blk_cell BK193.out 0).trans rfl; have hcz10_1 : w8.cell? ⟨gb193, 1, none⟩ = some (.int .i64 a0_1) := (blk_cell BK193.out 1).trans rfl; have hcz10_2 : w8.cell? ⟨gb193, 2, none⟩ = some (.int .i64 a0_2) := (blk_cell BK193.out 2).trans rfl; have hcz10_3 : w8.cell? ⟨gb193, 3, none⟩ = some (.slice A0_3 l0_3.length c0_3) := (blk_cell BK193.out 3).trans rfl; have hfz10_0 := blk_frozen BK193.out 0; have hfz10_1 := blk_frozen BK193.out 1; have hfz10_2 := blk_frozen BK193.out 2; have hfz10_3 := blk_frozen BK193.out 3; have hcz11_0 : w8.cell? ⟨gb194, 0, none⟩ = some (.int .i64 a1_0) := (blk_cell BK194.out 0).trans rfl; have hcz11_1 : w8.cell? ⟨gb194, 1, none⟩ = some (.int .i64 a1_1) := (blk_cell BK194.out 1).trans rfl; have hcz11_2 : w8.cell? ⟨gb194, 2, none⟩ = some (.int .i64 a1_2) := (blk_cell BK194.out 2).trans rfl; have hcz11_3 : w8.cell? ⟨gb194, 3, none⟩ = some (.slice A1_3 l1_3.length c1_3) := (blk_cell BK194.out 3).trans rfl; have hfz11_0 := blk_frozen BK194.out 0; have hfz11_1 := blk_frozen BK194.out 1; have hfz11_2 := blk_frozen BK194.out 2; have hfz11_3 := blk_frozen BK194.out 3) | (go_at_call 14; (with_reducible refine (sextonref01_Texts.calls k _ _ l0_3 _ _ l1_3 t195 _ ?side1 ?side2 ?side3 ?side4 A6.out).mono ?_); (case side1 => repeat (first | exact (Kd.C_below HR0_3.out HB.out) | (with_reducible refine Kd.C_alloc ?_ _) | (with_reducible refine Kd.C_drewN ?_ _) | (with_reducible refine Kd.C_drew ?_))); (case side2 => exact HC0_3.out); (case side3 => repeat (first | exact (Kd.C_below HR1_3.out HB.out) | (with_reducible refine Kd.C_alloc ?_ _) | (with_reducible refine Kd.C_drewN ?_ _) | (with_reducible refine Kd.C_drew ?_))); (case side4 => exact HC1_3.out); rintro e w' ⟨rfl, ⟨nd, rfl⟩⟩))
        go_ret
        exact ⟨by first | rfl | (simp [errW_none, errW_some] <;> rfl) | (simp [*, errW_none, errW_some] <;> rfl), by repeat (first | (with_reducible first | exact HB.out | apply below_alloc | apply pw_below_drewN | apply below_drew1 | refine below_set ?_ GE193.out | refine below_set ?_ GE194.out) | exact HB.out)⟩
      · rw [if_neg c5] at H
        have c5b0 : (a0_2 == a1_2) = false := beq_eq_false_iff_ne.mpr c5
        have c5b1 : (a0_2 != a1_2) = true := bne_iff_ne.mpr c5
        obtain rfl := Option.some.inj H
        go_enter Try.func50, Try.ntmps50
        go_wp2_with (first | ((with_reducible refine gate_dst (N := 2) rfl ?_); refine box_event ?hg (N := 2) ?hd (cs := #[.int .i64 a0_0, .int .i64 a0_1, .int .i64 a0_2, .slice A0_3 l0_3.length c0_3]) (t := 66) ?hr ?_; (case hd => rfl); (case hg => rfl); (case hr => first | (go_simp; done) | (go_simp; rfl)); intro gb193 hg w12 hbox hb; have n0_ := Aside0.mk (below_step (by repeat (first | (with_reducible first | exact HB.out | apply below_alloc | apply pw_below_drewN | apply below_drew1) | exact HB.out)) hb); have n1_ := Aside0.mk (hbox); have n2_ := Aside0.mk ((by rw [hg]; exact (below_size (by repeat (first | (with_reducible first | exact HB.out | apply below_alloc | apply pw_below_drewN | apply below_drew1) | exact HB.out))) : w.heap.size ≤ gb193)); have n3_ := Aside0.mk ((by rw [hg]; exact (below_size (by repeat (first | (with_reducible first | exact HB.out | apply below_alloc | apply pw_below_drewN | apply below_drew1) | exact HB.out))) : w.heap.size ≤ gb193)); clear HB; have HB := n0_; have BK193 := n1_; have GW193 := n2_; have GE193 := n3_; clear n0_ n1_ n2_ n3_; clear hb hbox hg) | ((with_reducible refine gate_dst (N := 3) rfl ?_); refine box_event ?hg (N := 3) ?hd (cs := #[.int .i64 a1_0, .int .i64 a1_1, .int .i64 a1_2, .slice A1_3 l1_3.length c1_3]) (t := 66) ?hr ?_; (case hd => rfl); (case hg => rfl); (case hr => first | (go_simp; done) | (go_simp; rfl)); intro gb194 hg w13 hbox hb; have n0_ := Aside0.mk (blk_below (g := gb193) (o := .cells #[.int .i64 a0_0, .int .i64 a0_1, .int .i64 a0_2, .slice A0_3 l0_3.length c0_3] 66 (0, 0)) (by (with_reducible repeat (first | refine blk_drewN ?_ _ | refine blk_drew ?_ | refine blk_alloc ?_ _)); exact BK193.out) hb); have n1_ := Aside0.mk (below_step (by repeat (first | (with_reducible first | exact HB.out | apply below_alloc | apply pw_below_drewN | apply below_drew1 | refine below_set ?_ GE193.out) | exact HB.out)) hb); have n2_ := Aside0.mk (hbox); have n3_ := Aside0.mk ((by rw [hg]; exact (below_size (by repeat (first | (with_reducible first | exact HB.out | apply below_alloc | apply pw_below_drewN | apply below_drew1 | refine below_set ?_ GE193.out) | exact HB.out))) : w.heap.size ≤ gb194)); have n4_ := Aside0.mk ((by rw [hg]; exact (below_size (by repeat (first | (with_reducible first | exact HB.out | apply below_alloc | apply pw_below_drewN | apply below_drew1 | refine below_set ?_ GE193.out) | exact HB.out))) : w.heap.size ≤ gb194)); have n5_ := Aside0.mk ((by rw [hg]; exact Nat.ne_of_lt (blk_lt (g := gb193) (o := .cells #[.int .i64 a0_0, .int .i64 a0_1, .int .i64 a0_2, .slice A0_3 l0_3.length c0_3] 66 (0, 0)) (by (with_reducible repeat (first | refine blk_drewN ?_ _ | refine blk_drew ?_ | refine blk_alloc ?_ _)); exact BK193.out)) : gb193 ≠ gb194)); have n6_ := Aside0.mk ((by rw [hg]; exact Nat.ne_of_gt (blk_lt (g := gb193) (o := .cells #[.int .i64 a0_0, .int .i64 a0_1, .int .i64 a0_2, .slice A0_3 l0_3.length c0_3] 66 (0, 0)) (by (with_reducible repeat (first | refine blk_drewN ?_ _ | refine blk_drew ?_ | refine blk_alloc ?_ _)); exact BK193.out)) : gb194 ≠ gb193)); clear BK193; clear HB; have BK193 := n0_; have HB := n1_; have BK194 := n2_; have GW194 := n3_; have GE194 := n4_; have NB193_194 := n5_; have NB194_193 := n6_; clear n0_ n1_ n2_ n3_ n4_ n5_ n6_; clear hb hbox hg; have hnb14 := NB193_194.out; have hnc14 := NB194_193.out; have hcz15_0 : w13.cell? ⟨gb193, 0, none⟩ = some (.int .i64 a0_0) := (blk_cell BK193.out 0).trans rfl; have hcz15_1 : w13.cell? ⟨gb193, 1, none⟩ = some (.int .i64 a0_1) := (blk_cell BK193.out 1).trans rfl; have hcz15_2 : w13.cell? ⟨gb193, 2, none⟩ = some (.int .i64 a0_2) := (blk_cell BK193.out 2).trans rfl; have hcz15_3 : w13.cell? ⟨gb193, 3, none⟩ = some (.slice A0_3 l0_3.length c0_3) := (blk_cell BK193.out 3).trans rfl; have hfz15_0 := blk_frozen BK193.out 0; have hfz15_1 := blk_frozen BK193.out 1; have hfz15_2 := blk_frozen BK193.out 2; have hfz15_3 := blk_frozen BK193.out 3; have hcz16_0 : w13.cell? ⟨gb194, 0, none⟩ = some (.int .i64 a1_0) := (blk_cell BK194.out 0).trans rfl; have hcz16_1 : w13.cell? ⟨gb194, 1, none⟩ = some (.int .i64 a1_1) := (blk_cell BK194.out 1).trans rfl; have hcz16_2 : w13.cell? ⟨gb194, 2, none⟩ = some (.int .i64 a1_2) := (blk_cell BK194.out 2).trans rfl; have hcz16_3 : w13.cell? ⟨gb194, 3, none⟩ = some (.slice A1_3 l1_3.length c1_3) := (blk_cell BK194.out 3).trans rfl; have hfz16_0 := blk_frozen BK194.out 0; have hfz16_1 := blk_frozen BK194.out 1; have hfz16_2 := blk_frozen BK194.out 2; have hfz16_3 := blk_frozen BK194.out 3))
        go_ret
        exact ⟨by first | rfl | (simp [errW_none, errW_some] <;> rfl) | (simp [*, errW_none, errW_some] <;> rfl), by repeat (first | (with_reducible first | exact HB.out | apply below_alloc | apply pw_below_drewN | apply below_drew1 | refine below_set ?_ GE193.out | refine below_set ?_ GE194.out) | exact HB.out)⟩
    · rw [if_neg c4] at H
      have c4b0 : (a0_1 == a1_1) = false := beq_eq_false_iff_ne.mpr c4
      have c4b1 : (a0_1 != a1_1) = true := bne_iff_ne.mpr c4
      obtain rfl := Option.some.inj H
      go_enter Try.func50, Try.ntmps50
      go_wp2_with (first | ((with_reducible refine gate_dst (N := 2) rfl ?_); refine box_event ?hg (N := 2) ?hd (cs := #[.int .i64 a0_0, .int .i64 a0_1, .int .i64 a0_2, .slice A0_3 l0_3.length c0_3]) (t := 66) ?hr ?_; (case hd => rfl); (case hg => rfl); (case hr => first | (go_simp; done) | (go_simp; rfl)); intro gb193 hg w17 hbox hb; have n0_ := Aside0.mk (below_step (by repeat (first | (with_reducible first | exact HB.out | apply below_alloc | apply pw_below_drewN | apply below_drew1) | exact HB.out)) hb); have n1_ := Aside0.mk (hbox); have n2_ := Aside0.mk ((by rw [hg]; exact (below_size (by repeat (first | (with_reducible first | exact HB.out | apply below_alloc | apply pw_below_drewN | apply below_drew1) | exact HB.out))) : w.heap.size ≤ gb193)); have n3_ := Aside0.mk ((by rw [hg]; exact (below_size (by repeat (first | (with_reducible first | exact HB.out | apply below_alloc | apply pw_below_drewN | apply below_drew1) | exact HB.out))) : w.heap.size ≤ gb193)); clear HB; have HB := n0_; have BK193 := n1_; have GW193 := n2_; have GE193 := n3_; clear n0_ n1_ n2_ n3_; clear hb hbox hg) | ((with_reducible refine gate_dst (N := 3) rfl ?_); refine box_event ?hg (N := 3) ?hd (cs := #[.int .i64 a1_0, .int .i64 a1_1, .int .i64 a1_2, .slice A1_3 l1_3.length c1_3]) (t := 66) ?hr ?_; (case hd => rfl); (case hg => rfl); (case hr => first | (go_simp; done) | (go_simp; rfl)); intro gb194 hg w18 hbox hb; have n0_ := Aside0.mk (blk_below (g := gb193) (o := .cells #[.int .i64 a0_0, .int .i64 a0_1, .int .i64 a0_2, .slice A0_3 l0_3.length c0_3] 66 (0, 0)) (by (with_reducible repeat (first | refine blk_drewN ?_ _ | refine blk_drew ?_ | refine blk_alloc ?_ _)); exact BK193.out) hb); have n1_ := Aside0.mk (below_step (by repeat (first | (with_reducible first | exact HB.out | apply below_alloc | apply pw_below_drewN | apply below_drew1 | refine below_set ?_ GE193.out) | exact HB.out)) hb); have n2_ := Aside0.mk (hbox); have n3_ := Aside0.mk ((by rw [hg]; exact (below_size (by repeat (first | (with_reducible first | exact HB.out | apply below_alloc | apply pw_below_drewN | apply below_drew1 | refine below_set ?_ GE193.out) | exact HB.out))) : w.heap.size ≤ gb194)); have n4_ := Aside0.mk ((by rw [hg]; exact (below_size (by repeat (first | (with_reducible first | exact HB.out | apply below_alloc | apply pw_below_drewN | apply below_drew1 | refine below_set ?_ GE193.out) | exact HB.out))) : w.heap.size ≤ gb194)); have n5_ := Aside0.mk ((by rw [hg]; exact Nat.ne_of_lt (blk_lt (g := gb193) (o := .cells #[.int .i64 a0_0, .int .i64 a0_1, .int .i64 a0_2, .slice A0_3 l0_3.length c0_3] 66 (0, 0)) (by (with_reducible repeat (first | refine blk_drewN ?_ _ | refine blk_drew ?_ | refine blk_alloc ?_ _)); exact BK193.out)) : gb193 ≠ gb194)); have n6_ := Aside0.mk ((by rw [hg]; exact Nat.ne_of_gt (blk_lt (g := gb193) (o := .cells #[.int .i64 a0_0, .int .i64 a0_1, .int .i64 a0_2, .slice A0_3 l0_3.length c0_3] 66 (0, 0)) (by (with_reducible repeat (first | refine blk_drewN ?_ _ | refine blk_drew ?_ | refine blk_alloc ?_ _)); exact BK193.out)) : gb194 ≠ gb193)); clear BK193; clear HB; have BK193 := n0_; have HB := n1_; have BK194 := n2_; have GW194 := n3_; have GE194 := n4_; have NB193_194 := n5_; have NB194_193 := n6_; clear n0_ n1_ n2_ n3_ n4_ n5_ n6_; clear hb hbox hg; have hnb19 := NB193_194.out; have hnc19 := NB194_193.out; have hcz20_0 : w18.cell? ⟨gb193, 0, none⟩ = some (.int .i64 a0_0) := (blk_cell BK193.out 0).trans rfl; have hcz20_1 : w18.cell? ⟨gb193, 1, none⟩ = some (.int .i64 a0_1) := (blk_cell BK193.out 1).trans rfl; have hcz20_2 : w18.cell? ⟨gb193, 2, none⟩ = some (.int .i64 a0_2) := (blk_cell BK193.out 2).trans rfl; have hcz20_3 : w18.cell? ⟨gb193, 3, none⟩ = some (.slice A0_3 l0_3.length c0_3) := (blk_cell BK193.out 3).trans rfl; have hfz20_0 := blk_frozen BK193.out 0; have hfz20_1 := blk_frozen BK193.out 1; have hfz20_2 := blk_frozen BK193.out 2; have hfz20_3 := blk_frozen BK193.out 3; have hcz21_0 : w18.cell? ⟨gb194, 0, none⟩ = some (.int .i64 a1_0) := (blk_cell BK194.out 0).trans rfl; have hcz21_1 : w18.cell? ⟨gb194, 1, none⟩ = some (.int .i64 a1_1) := (blk_cell BK194.out 1).trans rfl; have hcz21_2 : w18.cell? ⟨gb194, 2, none⟩ = some (.int .i64 a1_2) := (blk_cell BK194.out 2).trans rfl; have hcz21_3 : w18.cell? ⟨gb194, 3, none⟩ = some (.slice A1_3 l1_3.length c1_3) := (blk_cell BK194.out 3).trans rfl; have hfz21_0 := blk_frozen BK194.out 0; have hfz21_1 := blk_frozen BK194.out 1; have hfz21_2 := blk_frozen BK194.out 2; have hfz21_3 := blk_frozen BK194.out 3))
      go_ret
      exact ⟨by first | rfl | (simp [errW_none, errW_some] <;> rfl) | (simp [*, errW_none, errW_some] <;> rfl), by repeat (first | (with_reducible first | exact HB.out | apply below_alloc | apply pw_below_drewN | apply below_drew1 | refine below_set ?_ GE193.out | refine below_set ?_ GE194.out) | exact HB.out)⟩
  · rw [if_neg c3] at H
    have c3b0 : (a0_0 == a1_0) = false := beq_eq_false_iff_ne.mpr c3
    have c3b1 : (a0_0 != a1_0) = true := bne_iff_ne.mpr c3
    obtain rfl := Option.some.inj H
    go_enter Try.func50, Try.ntmps50
    go_wp2_with (first | ((with_reducible refine gate_dst (N := 2) rfl ?_); refine box_event ?hg (N := 2) ?hd (cs := #[.int .i64 a0_0, .int .i64 a0_1, .int .i64 a0_2, .slice A0_3 l0_3.length c0_3]) (t := 66) ?hr ?_; (case hd => rfl); (case hg => rfl); (case hr => first | (go_simp; done) | (go_simp; rfl)); intro gb193 hg w22 hbox hb; have n0_ := Aside0.mk (below_step (by repeat (first | (with_reducible first | exact HB.out | apply below_alloc | apply pw_below_drewN | apply below_drew1) | exact HB.out)) hb); have n1_ := Aside0.mk (hbox); have n2_ := Aside0.mk ((by rw [hg]; exact (below_size (by repeat (first | (with_reducible first | exact HB.out | apply below_alloc | apply pw_below_drewN | apply below_drew1) | exact HB.out))) : w.heap.size ≤ gb193)); have n3_ := Aside0.mk ((by rw [hg]; exact (below_size (by repeat (first | (with_reducible first | exact HB.out | apply below_alloc | apply pw_below_drewN | apply below_drew1) | exact HB.out))) : w.heap.size ≤ gb193)); clear HB; have HB := n0_; have BK193 := n1_; have GW193 := n2_; have GE193 := n3_; clear n0_ n1_ n2_ n3_; clear hb hbox hg) | ((with_reducible refine gate_dst (N := 3) rfl ?_); refine box_event ?hg (N := 3) ?hd (cs := #[.int .i64 a1_0, .int .i64 a1_1, .int .i64 a1_2, .slice A1_3 l1_3.length c1_3]) (t := 66) ?hr ?_; (case hd => rfl); (case hg => rfl); (case hr => first | (go_simp; done) | (go_simp; rfl)); intro gb194 hg w23 hbox hb; have n0_ := Aside0.mk (blk_below (g := gb193) (o := .cells #[.int .i64 a0_0, .int .i64 a0_1, .int .i64 a0_2, .slice A0_3 l0_3.length c0_3] 66 (0, 0)) (by (with_reducible repeat (first | refine blk_drewN ?_ _ | refine blk_drew ?_ | refine blk_alloc ?_ _)); exact BK193.out) hb); have n1_ := Aside0.mk (below_step (by repeat (first | (with_reducible first | exact HB.out | apply below_alloc | apply pw_below_drewN | apply below_drew1 | refine below_set ?_ GE193.out) | exact HB.out)) hb); have n2_ := Aside0.mk (hbox); have n3_ := Aside0.mk ((by rw [hg]; exact (below_size (by repeat (first | (with_reducible first | exact HB.out | apply below_alloc | apply pw_below_drewN | apply below_drew1 | refine below_set ?_ GE193.out) | exact HB.out))) : w.heap.size ≤ gb194)); have n4_ := Aside0.mk ((by rw [hg]; exact (below_size (by repeat (first | (with_reducible first | exact HB.out | apply below_alloc | apply pw_below_drewN | apply below_drew1 | refine below_set ?_ GE193.out) | exact HB.out))) : w.heap.size ≤ gb194)); have n5_ := Aside0.mk ((by rw [hg]; exact Nat.ne_of_lt (blk_lt (g := gb193) (o := .cells #[.int .i64 a0_0, .int .i64 a0_1, .int .i64 a0_2, .slice A0_3 l0_3.length c0_3] 66 (0, 0)) (by (with_reducible repeat (first | refine blk_drewN ?_ _ | refine blk_drew ?_ | refine blk_alloc ?_ _)); exact BK193.out)) : gb193 ≠ gb194)); have n6_ := Aside0.mk ((by rw [hg]; exact Nat.ne_of_gt (blk_lt (g := gb193) (o := .cells #[.int .i64 a0_0, .int .i64 a0_1, .int .i64 a0_2, .slice A0_3 l0_3.length c0_3] 66 (0, 0)) (by (with_reducible repeat (first | refine blk_drewN ?_ _ | refine blk_drew ?_ | refine blk_alloc ?_ _)); exact BK193.out)) : gb194 ≠ gb193)); clear BK193; clear HB; have BK193 := n0_; have HB := n1_; have BK194 := n2_; have GW194 := n3_; have GE194 := n4_; have NB193_194 := n5_; have NB194_193 := n6_; clear n0_ n1_ n2_ n3_ n4_ n5_ n6_; clear hb hbox hg; have hnb24 := NB193_194.out; have hnc24 := NB194_193.out; have hcz25_0 : w23.cell? ⟨gb193, 0, none⟩ = some (.int .i64 a0_0) := (blk_cell BK193.out 0).trans rfl; have hcz25_1 : w23.cell? ⟨gb193, 1, none⟩ = some (.int .i64 a0_1) := (blk_cell BK193.out 1).trans rfl; have hcz25_2 : w23.cell? ⟨gb193, 2, none⟩ = some (.int .i64 a0_2) := (blk_cell BK193.out 2).trans rfl; have hcz25_3 : w23.cell? ⟨gb193, 3, none⟩ = some (.slice A0_3 l0_3.length c0_3) := (blk_cell BK193.out 3).trans rfl; have hfz25_0 := blk_frozen BK193.out 0; have hfz25_1 := blk_frozen BK193.out 1; have hfz25_2 := blk_frozen BK193.out 2; have hfz25_3 := blk_frozen BK193.out 3; have hcz26_0 : w23.cell? ⟨gb194, 0, none⟩ = some (.int .i64 a1_0) := (blk_cell BK194.out 0).trans rfl; have hcz26_1 : w23.cell? ⟨gb194, 1, none⟩ = some (.int .i64 a1_1) := (blk_cell BK194.out 1).trans rfl; have hcz26_2 : w23.cell? ⟨gb194, 2, none⟩ = some (.int .i64 a1_2) := (blk_cell BK194.out 2).trans rfl; have hcz26_3 : w23.cell? ⟨gb194, 3, none⟩ = some (.slice A1_3 l1_3.length c1_3) := (blk_cell BK194.out 3).trans rfl; have hfz26_0 := blk_frozen BK194.out 0; have hfz26_1 := blk_frozen BK194.out 1; have hfz26_2 := blk_frozen BK194.out 2; have hfz26_3 := blk_frozen BK194.out 3))
    go_ret
    exact ⟨by first | rfl | (simp [errW_none, errW_some] <;> rfl) | (simp [*, errW_none, errW_some] <;> rfl), by repeat (first | (with_reducible first | exact HB.out | apply below_alloc | apply pw_below_drewN | apply below_drew1 | refine below_set ?_ GE193.out | refine below_set ?_ GE194.out) | exact HB.out)⟩
def sextonref22_Same.l0 : Nat → List (S66) → List (S66) → Int → Option (Bool)
  | 0, _, _, _ => none
  | k + 1, x0, x1, x5 => if x5 < (x0.length : Int) then (if 0 ≤ x5 then (if x5 < (x1.length : Int) then ((sextonref22_SameVote.f k ((rd_T66 x0 x5).f0) ((rd_T66 x0 x5).f1) ((rd_T66 x0 x5).f2) ((rd_T66 x0 x5).f3) ((rd_T66 x1 x5).f0) ((rd_T66 x1 x5).f1) ((rd_T66 x1 x5).f2) ((rd_T66 x1 x5).f3)).bind fun t198 => (if t198 = true then (sextonref22_Same.l0 k x0 x1 (wrap64 (x5 + 1))) else (some false))) else (none)) else (none)) else (some true)
def sextonref22_Same.f (k : Nat) (l0 : List (S66)) (l1 : List (S66)) : Option (Bool) := if (l0.length : Int) = (l1.length : Int) then (sextonref22_Same.l0 k l0 l1 0) else (some false)
def sextonref22_Same.T6 : Bool × List (List Nat × List Nat) := (true, [([], []), ([], []), ([0, 1], [0, 1]), ([2], [2]), ([], []), ([], []), ([4, 5], [4, 5]), ([6], [6]), ([3, 7], [3, 7]), ([8], [8])])
def sextonref22_Same.B6 : List Nat := [0, 0, 3, 7, 0, 0, 48, 112, 255, 511]
theorem sextonref22_Same.tab6 : rtab .any (opsOf Try.f27 6) = sextonref22_Same.T6 := by kernel_rfl
theorem sextonref22_Same.bits6 : waitsOk sextonref22_Same.T6.2 sextonref22_Same.B6 = true := by kernel_rfl
set_option maxHeartbeats 8000000 in
set_option maxRecDepth 100000 in
theorem sextonref22_Same.calls (k : Nat) (A0 : Option Addr) (c0 : Nat) (l0 : List (S66)) (A1 : Option Addr) (c1 : Nat) (l1 : List (S66)) (r : Bool) (w : World) (hr0 : Kd.C k66 w A0 l0.length l0) (hc0 : l0.length ≤ c0) (hr1 : Kd.C k66 w A1 l1.length l1) (hc1 : l1.length ≤ c1) (h : sextonref22_Same.f k l0 l1 = some r) :
    Calls Try.prog 27 #[.slice A0 l0.length c0, .slice A1 l1.length c1] w fun e w' => e = .returned (.bool r) ∧ Below w.heap.size w w' := by
  have hu66 := Try.underlying66
  have HR0 := Aside0.mk hr0
  have HC0 := Aside0.mk hc0
  clear hr0 hc0
  have HR1 := Aside0.mk hr1
  have HC1 := Aside0.mk hc1
  clear hr1 hc1
  have HB := Aside0.mk (Below.refl w.heap.size w)
  have H : (if (l0.length : Int) = (l1.length : Int) then (sextonref22_Same.l0 k l0 l1 0) else (some false)) = some r := h
  clear h
  by_cases c3 : (l0.length : Int) = (l1.length : Int)
  · rw [if_pos c3] at H
    have c3b0 : ((l0.length : Int) == (l1.length : Int)) = true := beq_iff_eq.mpr c3
    have c3b1 : ((l0.length : Int) != (l1.length : Int)) = false := bne_eq_false_iff_eq.mpr c3
    have c3b2 : (l0.length == l1.length) = true := by first | simpa using c3 | (simp at c3 ⊢; omega)
    clear c3
    have H' := Aside0.mk H
    clear H
    go_enter Try.func27, Try.ntmps27
    go_wp2
    go_loopg [5] k (fun kq v5 w' => ∃ (x5_1 : Int), v5 = .int .i64 x5_1 ∧ Aside0 (sextonref22_Same.l0 kq l0 l1 x5_1 = some r) ∧ Aside0 (kq ≤ k) ∧ Aside0 (Below w.heap.size w w'))
    case atStart => exact ⟨(0), (by first | rfl | (simp; done) | (simp [*]; done)), H', ⟨Nat.le_refl _⟩, ⟨by repeat (first | (with_reducible first | exact HB.out | apply below_alloc | apply pw_below_drewN | apply below_drew1) | exact HB.out)⟩⟩
    case round =>
      clear H'
      try clear c1
      try clear c2
      try clear p2
      try clear c3
      try clear c3b0
      try clear c3b1
      try clear c3b2
      obtain ⟨x5_1, rfl, HA, HK1, HB⟩ := hrel
      cases gk with
      | zero => exact absurd HA.out (by simp [sextonref22_Same.l0])
      | succ k1 =>
        have H := HA.out
        clear HA
        simp only [sextonref22_Same.l0] at H
        by_cases c4 : x5_1 < (l0.length : Int)
        · rw [if_pos c4] at H
          have c4b0 : decide (x5_1 < (l0.length : Int)) = true := decide_eq_true c4
          clear c4
          by_cases c5 : 0 ≤ x5_1
          · rw [if_pos c5] at H
            have c5b0 : decide (0 ≤ x5_1) = true := decide_eq_true c5
            clear c5
            by_cases c6 : x5_1 < (l1.length : Int)
            · rw [if_pos c6] at H
              have c6b0 : decide (x5_1 < (l1.length : Int)) = true := decide_eq_true c6
              clear c6
              replace H := Option.bind_eq_some_iff.mp H
              obtain ⟨t198, A70, H⟩ := H
              replace H : (if t198 = true then (sextonref22_Same.l0 k1 l0 l1 (wrap64 (x5_1 + 1))) else (some false)) = some r := H
              have A7 := Aside0.mk A70
              clear A70
              by_cases c8 : t198 = true
              · subst c8
                have H1 : (sextonref22_Same.l0 k1 l0 l1 (wrap64 (x5_1 + 1))) = some r := by rw [if_pos rfl] at H; exact H
                clear H
                have H := H1
                clear H1
                have H' := Aside0.mk H
                clear H
                try go_wp2
                have n0_ := Aside0.mk (below_drew1 HB.out)
                clear HB
                have HB := n0_
                clear n0_
                have p196 : 0 ≤ (x5_1 : Int) := of_decide_eq_true (by first | (with_reducible assumption) | assumption)
                have q196 : x5_1 < (l0.length : Int) := of_decide_eq_true (by first | (with_reducible assumption) | assumption)
                obtain ⟨ad196, A196_3, c196_3, e196, hx196_0, hx196_1, hx196_2, hx196_3, hl196_3, hi196_3⟩ := at_T66 HR0.out x5_1 p196 q196
                have hw196_3 := hx196_3
                have hw196_2 := hx196_2
                have hw196_1 := hx196_1
                have hw196_0 := hx196_0
                cases e196
                replace hx196_0 := (HB.out.cell (World.block_lt_of_cell? w _ hx196_0)).trans hx196_0
                replace hx196_1 := (HB.out.cell (World.block_lt_of_cell? w _ hx196_1)).trans hx196_1
                replace hx196_2 := (HB.out.cell (World.block_lt_of_cell? w _ hx196_2)).trans hx196_2
                replace hx196_3 := (HB.out.cell (World.block_lt_of_cell? w _ hx196_3)).trans hx196_3
                have HR196_3 := Aside0.mk hi196_3
                have HC196_3 := Aside0.mk hl196_3
                clear hi196_3 hl196_3
                replace p196 := eq_true p196
                replace q196 := eq_true q196
                have p197 : 0 ≤ (x5_1 : Int) := of_decide_eq_true (by first | (with_reducible assumption) | assumption)
                have q197 : x5_1 < (l1.length : Int) := of_decide_eq_true (by first | (with_reducible assumption) | assumption)
                obtain ⟨ad197, A197_3, c197_3, e197, hx197_0, hx197_1, hx197_2, hx197_3, hl197_3, hi197_3⟩ := at_T66 HR1.out x5_1 p197 q197
                have hw197_3 := hx197_3
                have hw197_2 := hx197_2
                have hw197_1 := hx197_1
                have hw197_0 := hx197_0
                cases e197
                replace hx197_0 := (HB.out.cell (World.block_lt_of_cell? w _ hx197_0)).trans hx197_0
                replace hx197_1 := (HB.out.cell (World.block_lt_of_cell? w _ hx197_1)).trans hx197_1
                replace hx197_2 := (HB.out.cell (World.block_lt_of_cell? w _ hx197_2)).trans hx197_2
                replace hx197_3 := (HB.out.cell (World.block_lt_of_cell? w _ hx197_3)).trans hx197_3
                have HR197_3 := Aside0.mk hi197_3
                have HC197_3 := Aside0.mk hl197_3
                clear hi197_3 hl197_3
                replace p197 := eq_true p197
                replace q197 := eq_true q197
                refine start_ (n := 10) (S := fun w' => w'.cell? (ad196.add ((x5_1).toNat * 4)) = some (.int .i64 ((rd_T66 l0 x5_1).f0)) ∧ w'.cell? ⟨(ad196.add ((x5_1).toNat * 4)).block, (ad196.add ((x5_1).toNat * 4)).off + 1, none⟩ = some (.int .i64 ((rd_T66 l0 x5_1).f1)) ∧ w'.cell? ⟨(ad196.add ((x5_1).toNat * 4)).block, (ad196.add ((x5_1).toNat * 4)).off + 2, none⟩ = some (.int .i64 ((rd_T66 l0 x5_1).f2)) ∧ w'.cell? ⟨(ad196.add ((x5_1).toNat * 4)).block, (ad196.add ((x5_1).toNat * 4)).off + 3, none⟩ = some (.slice A196_3 ((rd_T66 l0 x5_1).f3).length c196_3) ∧ w'.cell? (ad197.add ((x5_1).toNat * 4)) = some (.int .i64 ((rd_T66 l1 x5_1).f0)) ∧ w'.cell? ⟨(ad197.add ((x5_1).toNat * 4)).block, (ad197.add ((x5_1).toNat * 4)).off + 1, none⟩ = some (.int .i64 ((rd_T66 l1 x5_1).f1)) ∧ w'.cell? ⟨(ad197.add ((x5_1).toNat * 4)).block, (ad197.add ((x5_1).toNat * 4)).off + 2, none⟩ = some (.int .i64 ((rd_T66 l1 x5_1).f2)) ∧ w'.cell? ⟨(ad197.add ((x5_1).toNat * 4)).block, (ad197.add ((x5_1).toNat * 4)).off + 3, none⟩ = some (.slice A197_3 ((rd_T66 l1 x5_1).f3).length c197_3)) (ds := []) #[false, false, false, false, false, false, false, false, false, false] (by kernel_rfl) rfl rfl ⟨((HB.out.cell (World.block_lt_of_cell? w _ hw196_0)).trans hw196_0), ((HB.out.cell (World.block_lt_of_cell? w _ hw196_1)).trans hw196_1), ((HB.out.cell (World.block_lt_of_cell? w _ hw196_2)).trans hw196_2), ((HB.out.cell (World.block_lt_of_cell? w _ hw196_3)).trans hw196_3), ((HB.out.cell (World.block_lt_of_cell? w _ hw197_0)).trans hw197_0), ((HB.out.cell (World.block_lt_of_cell? w _ hw197_1)).trans hw197_1), ((HB.out.cell (World.block_lt_of_cell? w _ hw197_2)).trans hw197_2), ((HB.out.cell (World.block_lt_of_cell? w _ hw197_3)).trans hw197_3)⟩ (fun hHeld => ?_); refine with_tabW sextonref22_Same.tab6 sextonref22_Same.bits6 (fun HT_ HW_ => ?_)
                generalize wr.drew = w9 at HB HR196_3 HR197_3 hx196_0 hx196_1 hx196_2 hx196_3 hx197_0 hx197_1 hx197_2 hx197_3 hHeld ⊢
                refine pure_ (i := 0) (N := some 17) (v := ?_) (a' := ?_) #[true, false, false, false, false, false, false, false, false, false] rfl rfl (any_of HT_.out (by kernel_rfl)) (fun _ _ _ h => h) (Or.inl ⟨by rfl, ?_⟩) ?_ ?_
                rotate_left
                · intro w'
                  go_simp
                  with_reducible rfl
                rotate_left
                · simp only [Act.put, List.setIfInBounds_toArray, List.set_cons_zero, List.set_cons_succ, i64_w, i32_w]
                  rfl
                refine pure_ (i := 1) (N := some 18) (v := ?_) (a' := ?_) #[true, true, false, false, false, false, false, false, false, false] rfl rfl (any_of HT_.out (by kernel_rfl)) (fun _ _ _ h => h) (Or.inl ⟨by rfl, ?_⟩) ?_ ?_
                rotate_left
                · intro w'
                  go_simp
                  with_reducible rfl
                rotate_left
                · simp only [Act.put, List.setIfInBounds_toArray, List.set_cons_zero, List.set_cons_succ, i64_w, i32_w]
                  rfl
                refine pure_ (i := 2) (N := some 19) (v := ?_) (a' := ?_) #[true, true, true, false, false, false, false, false, false, false] rfl rfl (any_of HT_.out (by kernel_rfl)) (fun _ _ _ h => h) (Or.inl ⟨by rfl, ?_⟩) ?_ ?_
                rotate_left
                · intro w'
                  go_simp
                  with_reducible rfl
                rotate_left
                · simp only [Act.put, List.setIfInBounds_toArray, List.set_cons_zero, List.set_cons_succ, i64_w, i32_w]
                  rfl
                refine pure_ (i := 4) (N := some 21) (v := ?_) (a' := ?_) #[true, true, true, false, true, false, false, false, false, false] rfl rfl (any_of HT_.out (by kernel_rfl)) (fun _ _ _ h => h) (Or.inl ⟨by rfl, ?_⟩) ?_ ?_
                rotate_left
                · intro w'
                  go_simp
                  with_reducible rfl
                rotate_left
                · simp only [Act.put, List.setIfInBounds_toArray, List.set_cons_zero, List.set_cons_succ, i64_w, i32_w]
                  rfl
                refine pure_ (i := 5) (N := some 22) (v := ?_) (a' := ?_) #[true, true, true, false, true, true, false, false, false, false] rfl rfl (any_of HT_.out (by kernel_rfl)) (fun _ _ _ h => h) (Or.inl ⟨by rfl, ?_⟩) ?_ ?_
                rotate_left
                · intro w'
                  go_simp
                  with_reducible rfl
                rotate_left
                · simp only [Act.put, List.setIfInBounds_toArray, List.set_cons_zero, List.set_cons_succ, i64_w, i32_w]
                  rfl
                refine pure_ (i := 6) (N := some 23) (v := ?_) (a' := ?_) #[true, true, true, false, true, true, true, false, false, false] rfl rfl (any_of HT_.out (by kernel_rfl)) (fun _ _ _ h => h) (Or.inl ⟨by rfl, ?_⟩) ?_ ?_
                rotate_left
                · intro w'
                  go_simp
                  with_reducible rfl
                rotate_left
                · simp only [Act.put, List.setIfInBounds_toArray, List.set_cons_zero, List.set_cons_succ, i64_w, i32_w]
                  rfl
                refine take_ (i := 3) (N := some 20) (v := ?_) (a' := ?_) #[true, true, true, true, true, true, true, false, false, false] rfl rfl (take_ofW HT_.out HW_.out (by kernel_rfl)) (fun _ _ _ h => h) (Or.inl ⟨by rfl, ?_⟩) hHeld ?_ ?_
                rotate_left
                · rintro w' ⟨s0, s1, s2, s3, s4, s5, s6, s7⟩
                  go_simp
                  with_reducible rfl
                rotate_left
                · simp only [Act.put, List.setIfInBounds_toArray, List.set_cons_zero, List.set_cons_succ, i64_w, i32_w]
                  rfl
                refine take_ (i := 7) (N := some 24) (v := ?_) (a' := ?_) #[true, true, true, true, true, true, true, true, false, false] rfl rfl (take_ofW HT_.out HW_.out (by kernel_rfl)) (fun _ _ _ h => h) (Or.inl ⟨by rfl, ?_⟩) hHeld ?_ ?_
                rotate_left
                · rintro w' ⟨s0, s1, s2, s3, s4, s5, s6, s7⟩
                  go_simp
                  with_reducible rfl
                rotate_left
                · simp only [Act.put, List.setIfInBounds_toArray, List.set_cons_zero, List.set_cons_succ, i64_w, i32_w]
                  rfl
                refine one_ (i := 8) (N := some 25) #[true, true, true, true, true, true, true, true, true, false] rfl rfl (one_of HT_.out (by kernel_rfl)) (by decide) (fun K hK => ?_)
                refine goes_ Try.func50 (by kernel_rfl) rfl #[.agg #[.int .i64 ((rd_T66 l0 x5_1).f0), .int .i64 ((rd_T66 l0 x5_1).f1), .int .i64 ((rd_T66 l0 x5_1).f2), .slice A196_3 ((rd_T66 l0 x5_1).f3).length c196_3], .agg #[.int .i64 ((rd_T66 l1 x5_1).f0), .int .i64 ((rd_T66 l1 x5_1).f1), .int .i64 ((rd_T66 l1 x5_1).f2), .slice A197_3 ((rd_T66 l1 x5_1).f3).length c197_3]] (by rfl) rfl rfl (by (try simp only [List.map_toArray, List.map_cons, List.map_nil]); first | done | rfl | (simp only [List.length_drop, List.length_take]; rfl)) ?_
                with_reducible refine (sextonref22_SameVote.calls k1 ((rd_T66 l0 x5_1).f0) ((rd_T66 l0 x5_1).f1) ((rd_T66 l0 x5_1).f2) _ _ ((rd_T66 l0 x5_1).f3) ((rd_T66 l1 x5_1).f0) ((rd_T66 l1 x5_1).f1) ((rd_T66 l1 x5_1).f2) _ _ ((rd_T66 l1 x5_1).f3) true _ ?side1 ?side2 ?side3 ?side4 A7.out).mono ?_
                (case side1 => repeat (first | exact (Kd.C_below HR196_3.out HB.out) | (with_reducible refine Kd.C_alloc ?_ _) | (with_reducible refine Kd.C_drewN ?_ _) | (with_reducible refine Kd.C_drew ?_)))
                (case side2 => exact HC196_3.out)
                (case side3 => repeat (first | exact (Kd.C_below HR197_3.out HB.out) | (with_reducible refine Kd.C_alloc ?_ _) | (with_reducible refine Kd.C_drewN ?_ _) | (with_reducible refine Kd.C_drew ?_)))
                (case side4 => exact HC197_3.out)
                rintro e w10 ⟨rfl, hb⟩
                refine ⟨_, rfl, ?_⟩
                have n0_ := Aside0.mk (below_step (by repeat (first | (with_reducible first | exact HB.out | apply below_alloc | apply pw_below_drewN | apply below_drew1) | exact HB.out)) hb)
                clear HB
                have HB := n0_
                clear n0_
                (try clear hb)
                (try clear hb2)
                (try clear hk)
                (try clear hi)
                refine hK.out _ _ ⟨((HB.out.cell (World.block_lt_of_cell? w _ hw196_0)).trans hw196_0), ((HB.out.cell (World.block_lt_of_cell? w _ hw196_1)).trans hw196_1), ((HB.out.cell (World.block_lt_of_cell? w _ hw196_2)).trans hw196_2), ((HB.out.cell (World.block_lt_of_cell? w _ hw196_3)).trans hw196_3), ((HB.out.cell (World.block_lt_of_cell? w _ hw197_0)).trans hw197_0), ((HB.out.cell (World.block_lt_of_cell? w _ hw197_1)).trans hw197_1), ((HB.out.cell (World.block_lt_of_cell? w _ hw197_2)).trans hw197_2), ((HB.out.cell (World.block_lt_of_cell? w _ hw197_3)).trans hw197_3)⟩ (fun hHeld => ?_)
                clear hK K
                refine norm_ (a' := ?_) ?_ ?_
                rotate_left
                · show Act.put _ (some 25) _ = _
                  simp only [Act.put, List.setIfInBounds_toArray, List.set_cons_zero, List.set_cons_succ, i64_w, i32_w]
                  rfl
                refine pure_ (i := 9) (N := some 26) (v := ?_) (a' := ?_) #[true, true, true, true, true, true, true, true, true, true] rfl rfl (any_of HT_.out (by kernel_rfl)) (fun _ _ _ h => h) (Or.inl ⟨by rfl, ?_⟩) ?_ ?_
                rotate_left
                · intro w'
                  go_simp
                  with_reducible rfl
                rotate_left
                · simp only [Act.put, List.setIfInBounds_toArray, List.set_cons_zero, List.set_cons_succ, i64_w, i32_w]
                  rfl
                refine done_ (done_of HT_.out (by kernel_rfl)) ?_
                try go_wp2
                go_roundg k1
                case measure => have := HK1.out; omega
                case rel => exact ⟨(wrap64 (x5_1 + 1)), (by first | rfl | (simp; done) | (simp [*]; done)), H', ⟨by have := HK1.out; omega⟩, ⟨by repeat (first | (with_reducible first | exact HB.out | apply below_alloc | apply pw_below_drewN | apply below_drew1) | exact HB.out)⟩⟩
              · replace c8 := Bool.eq_false_iff.mpr c8
                subst c8
                have H1 : (some false) = some r := by rw [if_neg (show ¬ (false = true) by decide)] at H; exact H
                clear H
                have H := H1
                clear H1
                obtain rfl := Option.some.inj H
                try go_wp2
                have n0_ := Aside0.mk (below_drew1 HB.out)
                clear HB
                have HB := n0_
                clear n0_
                have p196 : 0 ≤ (x5_1 : Int) := of_decide_eq_true (by first | (with_reducible assumption) | assumption)
                have q196 : x5_1 < (l0.length : Int) := of_decide_eq_true (by first | (with_reducible assumption) | assumption)
                obtain ⟨ad196, A196_3, c196_3, e196, hx196_0, hx196_1, hx196_2, hx196_3, hl196_3, hi196_3⟩ := at_T66 HR0.out x5_1 p196 q196
                have hw196_3 := hx196_3
                have hw196_2 := hx196_2
                have hw196_1 := hx196_1
                have hw196_0 := hx196_0
                cases e196
                replace hx196_0 := (HB.out.cell (World.block_lt_of_cell? w _ hx196_0)).trans hx196_0
                replace hx196_1 := (HB.out.cell (World.block_lt_of_cell? w _ hx196_1)).trans hx196_1
                replace hx196_2 := (HB.out.cell (World.block_lt_of_cell? w _ hx196_2)).trans hx196_2
                replace hx196_3 := (HB.out.cell (World.block_lt_of_cell? w _ hx196_3)).trans hx196_3
                have HR196_3 := Aside0.mk hi196_3
                have HC196_3 := Aside0.mk hl196_3
                clear hi196_3 hl196_3
                replace p196 := eq_true p196
                replace q196 := eq_true q196
                have p197 : 0 ≤ (x5_1 : Int) := of_decide_eq_true (by first | (with_reducible assumption) | assumption)
                have q197 : x5_1 < (l1.length : Int) := of_decide_eq_true (by first | (with_reducible assumption) | assumption)
                obtain ⟨ad197, A197_3, c197_3, e197, hx197_0, hx197_1, hx197_2, hx197_3, hl197_3, hi197_3⟩ := at_T66 HR1.out x5_1 p197 q197
                have hw197_3 := hx197_3
                have hw197_2 := hx197_2
                have hw197_1 := hx197_1
                have hw197_0 := hx197_0
                cases e197
                replace hx197_0 := (HB.out.cell (World.block_lt_of_cell? w _ hx197_0)).trans hx197_0
                replace hx197_1 := (HB.out.cell (World.block_lt_of_cell? w _ hx197_1)).trans hx197_1
                replace hx197_2 := (HB.out.cell (World.block_lt_of_cell? w _ hx197_2)).trans hx197_2
                replace hx197_3 := (HB.out.cell (World.block_lt_of_cell? w _ hx197_3)).trans hx197_3
                have HR197_3 := Aside0.mk hi197_3
                have HC197_3 := Aside0.mk hl197_3
                clear hi197_3 hl197_3
                replace p197 := eq_true p197
                replace q197 := eq_true q197
                refine start_ (n := 10) (S := fun w' => w'.cell? (ad196.add ((x5_1).toNat * 4)) = some (.int .i64 ((rd_T66 l0 x5_1).f0)) ∧ w'.cell? ⟨(ad196.add ((x5_1).toNat * 4)).block, (ad196.add ((x5_1).toNat * 4)).off + 1, none⟩ = some (.int .i64 ((rd_T66 l0 x5_1).f1)) ∧ w'.cell? ⟨(ad196.add ((x5_1).toNat * 4)).block, (ad196.add ((x5_1).toNat * 4)).off + 2, none⟩ = some (.int .i64 ((rd_T66 l0 x5_1).f2)) ∧ w'.cell? ⟨(ad196.add ((x5_1).toNat * 4)).block, (ad196.add ((x5_1).toNat * 4)).off + 3, none⟩ = some (.slice A196_3 ((rd_T66 l0 x5_1).f3).length c196_3) ∧ w'.cell? (ad197.add ((x5_1).toNat * 4)) = some (.int .i64 ((rd_T66 l1 x5_1).f0)) ∧ w'.cell? ⟨(ad197.add ((x5_1).toNat * 4)).block, (ad197.add ((x5_1).toNat * 4)).off + 1, none⟩ = some (.int .i64 ((rd_T66 l1 x5_1).f1)) ∧ w'.cell? ⟨(ad197.add ((x5_1).toNat * 4)).block, (ad197.add ((x5_1).toNat * 4)).off + 2, none⟩ = some (.int .i64 ((rd_T66 l1 x5_1).f2)) ∧ w'.cell? ⟨(ad197.add ((x5_1).toNat * 4)).block, (ad197.add ((x5_1).toNat * 4)).off + 3, none⟩ = some (.slice A197_3 ((rd_T66 l1 x5_1).f3).length c197_3)) (ds := []) #[false, false, false, false, false, false, false, false, false, false] (by kernel_rfl) rfl rfl ⟨((HB.out.cell (World.block_lt_of_cell? w _ hw196_0)).trans hw196_0), ((HB.out.cell (World.block_lt_of_cell? w _ hw196_1)).trans hw196_1), ((HB.out.cell (World.block_lt_of_cell? w _ hw196_2)).trans hw196_2), ((HB.out.cell (World.block_lt_of_cell? w _ hw196_3)).trans hw196_3), ((HB.out.cell (World.block_lt_of_cell? w _ hw197_0)).trans hw197_0), ((HB.out.cell (World.block_lt_of_cell? w _ hw197_1)).trans hw197_1), ((HB.out.cell (World.block_lt_of_cell? w _ hw197_2)).trans hw197_2), ((HB.out.cell (World.block_lt_of_cell? w _ hw197_3)).trans hw197_3)⟩ (fun hHeld => ?_); refine with_tabW sextonref22_Same.tab6 sextonref22_Same.bits6 (fun HT_ HW_ => ?_)
                generalize wr.drew = w11 at HB HR196_3 HR197_3 hx196_0 hx196_1 hx196_2 hx196_3 hx197_0 hx197_1 hx197_2 hx197_3 hHeld ⊢
                refine pure_ (i := 0) (N := some 17) (v := ?_) (a' := ?_) #[true, false, false, false, false, false, false, false, false, false] rfl rfl (any_of HT_.out (by kernel_rfl)) (fun _ _ _ h => h) (Or.inl ⟨by rfl, ?_⟩) ?_ ?_
                rotate_left
                · intro w'
                  go_simp
                  with_reducible rfl
                rotate_left
                · simp only [Act.put, List.setIfInBounds_toArray, List.set_cons_zero, List.set_cons_succ, i64_w, i32_w]
                  rfl
                refine pure_ (i := 1) (N := some 18) (v := ?_) (a' := ?_) #[true, true, false, false, false, false, false, false, false, false] rfl rfl (any_of HT_.out (by kernel_rfl)) (fun _ _ _ h => h) (Or.inl ⟨by rfl, ?_⟩) ?_ ?_
                rotate_left
                · intro w'
                  go_simp
                  with_reducible rfl
                rotate_left
                · simp only [Act.put, List.setIfInBounds_toArray, List.set_cons_zero, List.set_cons_succ, i64_w, i32_w]
                  rfl
                refine pure_ (i := 2) (N := some 19) (v := ?_) (a' := ?_) #[true, true, true, false, false, false, false, false, false, false] rfl rfl (any_of HT_.out (by kernel_rfl)) (fun _ _ _ h => h) (Or.inl ⟨by rfl, ?_⟩) ?_ ?_
                rotate_left
                · intro w'
                  go_simp
                  with_reducible rfl
                rotate_left
                · simp only [Act.put, List.setIfInBounds_toArray, List.set_cons_zero, List.set_cons_succ, i64_w, i32_w]
                  rfl
                refine pure_ (i := 4) (N := some 21) (v := ?_) (a' := ?_) #[true, true, true, false, true, false, false, false, false, false] rfl rfl (any_of HT_.out (by kernel_rfl)) (fun _ _ _ h => h) (Or.inl ⟨by rfl, ?_⟩) ?_ ?_
                rotate_left
                · intro w'
                  go_simp
                  with_reducible rfl
                rotate_left
                · simp only [Act.put, List.setIfInBounds_toArray, List.set_cons_zero, List.set_cons_succ, i64_w, i32_w]
                  rfl
                refine pure_ (i := 5) (N := some 22) (v := ?_) (a' := ?_) #[true, true, true, false, true, true, false, false, false, false] rfl rfl (any_of HT_.out (by kernel_rfl)) (fun _ _ _ h => h) (Or.inl ⟨by rfl, ?_⟩) ?_ ?_
                rotate_left
                · intro w'
                  go_simp
                  with_reducible rfl
                rotate_left
                · simp only [Act.put, List.setIfInBounds_toArray, List.set_cons_zero, List.set_cons_succ, i64_w, i32_w]
                  rfl
                refine pure_ (i := 6) (N := some 23) (v := ?_) (a' := ?_) #[true, true, true, false, true, true, true, false, false, false] rfl rfl (any_of HT_.out (by kernel_rfl)) (fun _ _ _ h => h) (Or.inl ⟨by rfl, ?_⟩) ?_ ?_
                rotate_left
                · intro w'
                  go_simp
                  with_reducible rfl
                rotate_left
                · simp only [Act.put, List.setIfInBounds_toArray, List.set_cons_zero, List.set_cons_succ, i64_w, i32_w]
                  rfl
                refine take_ (i := 3) (N := some 20) (v := ?_) (a' := ?_) #[true, true, true, true, true, true, true, false, false, false] rfl rfl (take_ofW HT_.out HW_.out (by kernel_rfl)) (fun _ _ _ h => h) (Or.inl ⟨by rfl, ?_⟩) hHeld ?_ ?_
                rotate_left
                · rintro w' ⟨s0, s1, s2, s3, s4, s5, s6, s7⟩
                  go_simp
                  with_reducible rfl
                rotate_left
                · simp only [Act.put, List.setIfInBounds_toArray, List.set_cons_zero, List.set_cons_succ, i64_w, i32_w]
                  rfl
                refine take_ (i := 7) (N := some 24) (v := ?_) (a' := ?_) #[true, true, true, true, true, true, true, true, false, false] rfl rfl (take_ofW HT_.out HW_.out (by kernel_rfl)) (fun _ _ _ h => h) (Or.inl ⟨by rfl, ?_⟩) hHeld ?_ ?_
                rotate_left
                · rintro w' ⟨s0, s1, s2, s3, s4, s5, s6, s7⟩
                  go_simp
                  with_reducible rfl
                rotate_left
                · simp only [Act.put, List.setIfInBounds_toArray, List.set_cons_zero, List.set_cons_succ, i64_w, i32_w]
                  rfl
                refine one_ (i := 8) (N := some 25) #[true, true, true, true, true, true, true, true, true, false] rfl rfl (one_of HT_.out (by kernel_rfl)) (by decide) (fun K hK => ?_)
                refine goes_ Try.func50 (by kernel_rfl) rfl #[.agg #[.int .i64 ((rd_T66 l0 x5_1).f0), .int .i64 ((rd_T66 l0 x5_1).f1), .int .i64 ((rd_T66 l0 x5_1).f2), .slice A196_3 ((rd_T66 l0 x5_1).f3).length c196_3], .agg #[.int .i64 ((rd_T66 l1 x5_1).f0), .int .i64 ((rd_T66 l1 x5_1).f1), .int .i64 ((rd_T66 l1 x5_1).f2), .slice A197_3 ((rd_T66 l1 x5_1).f3).length c197_3]] (by rfl) rfl rfl (by (try simp only [List.map_toArray, List.map_cons, List.map_nil]); first | done | rfl | (simp only [List.length_drop, List.length_take]; rfl)) ?_
                with_reducible refine (sextonref22_SameVote.calls k1 ((rd_T66 l0 x5_1).f0) ((rd_T66 l0 x5_1).f1) ((rd_T66 l0 x5_1).f2) _ _ ((rd_T66 l0 x5_1).f3) ((rd_T66 l1 x5_1).f0) ((rd_T66 l1 x5_1).f1) ((rd_T66 l1 x5_1).f2) _ _ ((rd_T66 l1 x5_1).f3) false _ ?side1 ?side2 ?side3 ?side4 A7.out).mono ?_
                (case side1 => repeat (first | exact (Kd.C_below HR196_3.out HB.out) | (with_reducible refine Kd.C_alloc ?_ _) | (with_reducible refine Kd.C_drewN ?_ _) | (with_reducible refine Kd.C_drew ?_)))
                (case side2 => exact HC196_3.out)
                (case side3 => repeat (first | exact (Kd.C_below HR197_3.out HB.out) | (with_reducible refine Kd.C_alloc ?_ _) | (with_reducible refine Kd.C_drewN ?_ _) | (with_reducible refine Kd.C_drew ?_)))
                (case side4 => exact HC197_3.out)
                rintro e w12 ⟨rfl, hb⟩
                refine ⟨_, rfl, ?_⟩
                have n0_ := Aside0.mk (below_step (by repeat (first | (with_reducible first | exact HB.out | apply below_alloc | apply pw_below_drewN | apply below_drew1) | exact HB.out)) hb)
                clear HB
                have HB := n0_
                clear n0_
                (try clear hb)
                (try clear hb2)
                (try clear hk)
                (try clear hi)
                refine hK.out _ _ ⟨((HB.out.cell (World.block_lt_of_cell? w _ hw196_0)).trans hw196_0), ((HB.out.cell (World.block_lt_of_cell? w _ hw196_1)).trans hw196_1), ((HB.out.cell (World.block_lt_of_cell? w _ hw196_2)).trans hw196_2), ((HB.out.cell (World.block_lt_of_cell? w _ hw196_3)).trans hw196_3), ((HB.out.cell (World.block_lt_of_cell? w _ hw197_0)).trans hw197_0), ((HB.out.cell (World.block_lt_of_cell? w _ hw197_1)).trans hw197_1), ((HB.out.cell (World.block_lt_of_cell? w _ hw197_2)).trans hw197_2), ((HB.out.cell (World.block_lt_of_cell? w _ hw197_3)).trans hw197_3)⟩ (fun hHeld => ?_)
                clear hK K
                refine norm_ (a' := ?_) ?_ ?_
                rotate_left
                · show Act.put _ (some 25) _ = _
                  simp only [Act.put, List.setIfInBounds_toArray, List.set_cons_zero, List.set_cons_succ, i64_w, i32_w]
                  rfl
                refine pure_ (i := 9) (N := some 26) (v := ?_) (a' := ?_) #[true, true, true, true, true, true, true, true, true, true] rfl rfl (any_of HT_.out (by kernel_rfl)) (fun _ _ _ h => h) (Or.inl ⟨by rfl, ?_⟩) ?_ ?_
                rotate_left
                · intro w'
                  go_simp
                  with_reducible rfl
                rotate_left
                · simp only [Act.put, List.setIfInBounds_toArray, List.set_cons_zero, List.set_cons_succ, i64_w, i32_w]
                  rfl
                refine done_ (done_of HT_.out (by kernel_rfl)) ?_
                try go_wp2
                go_ret
                exact ⟨by first | rfl | (simp [errW_none, errW_some] <;> rfl) | (simp [*, errW_none, errW_some] <;> rfl), by repeat (first | (with_reducible first | exact HB.out | apply below_alloc | apply pw_below_drewN | apply below_drew1) | exact HB.out)⟩
            · rw [if_neg c6] at H
              exact absurd H (by simp)
          · rw [if_neg c5] at H
            exact absurd H (by simp)
        · rw [if_neg c4] at H
          have c4b0 : decide (x5_1 < (l0.length : Int)) = false := decide_eq_false c4
          clear c4
          obtain rfl := Option.some.inj H
          go_wp2
          go_ret
          exact ⟨by first | rfl | (simp [errW_none, errW_some] <;> rfl) | (simp [*, errW_none, errW_some] <;> rfl), by repeat (first | (with_reducible first | exact HB.out | apply below_alloc | apply pw_below_drewN | apply below_drew1) | exact HB.out)⟩
  · rw [if_neg c3] at H
    have c3b0 : ((l0.length : Int) == (l1.length : Int)) = false := beq_eq_false_iff_ne.mpr c3
    have c3b1 : ((l0.length : Int) != (l1.length : Int)) = true := bne_iff_ne.mpr c3
    have c3b2 : (l0.length == l1.length) = false := by first | simpa using c3 | (simp at c3 ⊢; omega)
    obtain rfl := Option.some.inj H
    go_enter Try.func27, Try.ntmps27
    go_wp2
    go_ret
    exact ⟨by first | rfl | (simp [errW_none, errW_some] <;> rfl) | (simp [*, errW_none, errW_some] <;> rfl), by repeat (first | (with_reducible first | exact HB.out | apply below_alloc | apply pw_below_drewN | apply below_drew1) | exact HB.out)⟩
def sextonref24_Same.f (k : Nat) (a0_0 : Int) (a0_1 : Int) (a0_2 : Int) (a0_3 : Int) (a0_4 : Bool) (a0_5 : Int) (l0_6 : List ByteArray) (l0_7 : List Int) (l0_8 : List (S66)) (a1_0 : Int) (a1_1 : Int) (a1_2 : Int) (a1_3 : Int) (a1_4 : Bool) (a1_5 : Int) (l1_6 : List ByteArray) (l1_7 : List Int) (l1_8 : List (S66)) : Option (Bool) := if a0_0 = a1_0 then (if a0_1 = a1_1 then (if a0_2 = a1_2 then (if a0_3 = a1_3 then (if (a0_4 == a1_4) = true then (if a0_5 = a1_5 then ((sextonref01_Texts.f k l0_6 l1_6).bind fun t201 => (if t201 = true then ((sextonref01_Ints.f k l0_7 l1_7).bind fun t202 => (if t202 = true then ((sextonref22_Same.f k l0_8 l1_8).bind fun t203 => (some t203)) else (some false))) else (some false))) else (some false)) else (some false)) else (some false)) else (some false)) else (some false)) else (some false)
set_option maxHeartbeats 8000000 in
set_option maxRecDepth 100000 in
theorem sextonref24_Same.calls (k : Nat) (a0_0 : Int) (a0_1 : Int) (a0_2 : Int) (a0_3 : Int) (a0_4 : Bool) (a0_5 : Int) (A0_6 : Option Addr) (c0_6 : Nat) (l0_6 : List ByteArray) (A0_7 : Option Addr) (c0_7 : Nat) (l0_7 : List Int) (A0_8 : Option Addr) (c0_8 : Nat) (l0_8 : List (S66)) (a1_0 : Int) (a1_1 : Int) (a1_2 : Int) (a1_3 : Int) (a1_4 : Bool) (a1_5 : Int) (A1_6 : Option Addr) (c1_6 : Nat) (l1_6 : List ByteArray) (A1_7 : Option Addr) (c1_7 : Nat) (l1_7 : List Int) (A1_8 : Option Addr) (c1_8 : Nat) (l1_8 : List (S66)) (r : Bool) (w : World) (hr0_6 : Kd.C Kd.string w A0_6 l0_6.length l0_6) (hc0_6 : l0_6.length ≤ c0_6) (hr0_7 : Kd.C (Kd.int .i64) w A0_7 l0_7.length l0_7) (hc0_7 : l0_7.length ≤ c0_7) (hr0_8 : Kd.C k66 w A0_8 l0_8.length l0_8) (hc0_8 : l0_8.length ≤ c0_8) (hr1_6 : Kd.C Kd.string w A1_6 l1_6.length l1_6) (hc1_6 : l1_6.length ≤ c1_6) (hr1_7 : Kd.C (Kd.int .i64) w A1_7 l1_7.length l1_7) (hc1_7 : l1_7.length ≤ c1_7) (hr1_8 : Kd.C k66 w A1_8 l1_8.length l1_8) (hc1_8 : l1_8.length ≤ c1_8) (h : sextonref24_Same.f k a0_0 a0_1 a0_2 a0_3 a0_4 a0_5 l0_6 l0_7 l0_8 a1_0 a1_1 a1_2 a1_3 a1_4 a1_5 l1_6 l1_7 l1_8 = some r) :
    Calls Try.prog 10 #[.agg #[.int .i64 a0_0, .int .i64 a0_1, .int .i64 a0_2, .int .i64 a0_3, .bool a0_4, .int .i64 a0_5, .slice A0_6 l0_6.length c0_6, .slice A0_7 l0_7.length c0_7, .slice A0_8 l0_8.length c0_8], .agg #[.int .i64 a1_0, .int .i64 a1_1, .int .i64 a1_2, .int .i64 a1_3, .bool a1_4, .int .i64 a1_5, .slice A1_6 l1_6.length c1_6, .slice A1_7 l1_7.length c1_7, .slice A1_8 l1_8.length c1_8]] w fun e w' => e = .returned (.bool r) ∧ Below w.heap.size w w' := by
  have hu26 := Try.underlying26
  have HR0_6 := Aside0.mk hr0_6
  have HC0_6 := Aside0.mk hc0_6
  clear hr0_6 hc0_6
  have HR0_7 := Aside0.mk hr0_7
  have HC0_7 := Aside0.mk hc0_7
  clear hr0_7 hc0_7
  have HR0_8 := Aside0.mk hr0_8
  have HC0_8 := Aside0.mk hc0_8
  clear hr0_8 hc0_8
  have HR1_6 := Aside0.mk hr1_6
  have HC1_6 := Aside0.mk hc1_6
  clear hr1_6 hc1_6
  have HR1_7 := Aside0.mk hr1_7
  have HC1_7 := Aside0.mk hc1_7
  clear hr1_7 hc1_7
  have HR1_8 := Aside0.mk hr1_8
  have HC1_8 := Aside0.mk hc1_8
  clear hr1_8 hc1_8
  have HB := Aside0.mk (Below.refl w.heap.size w)
  have H : (if a0_0 = a1_0 then (if a0_1 = a1_1 then (if a0_2 = a1_2 then (if a0_3 = a1_3 then (if (a0_4 == a1_4) = true then (if a0_5 = a1_5 then ((sextonref01_Texts.f k l0_6 l1_6).bind fun t201 => (if t201 = true then ((sextonref01_Ints.f k l0_7 l1_7).bind fun t202 => (if t202 = true then ((sextonref22_Same.f k l0_8 l1_8).bind fun t203 => (some t203)) else (some false))) else (some false))) else (some false)) else (some false)) else (some false)) else (some false)) else (some false)) else (some false)) = some r := h
  clear h
  by_cases c3 : a0_0 = a1_0
  · rw [if_pos c3] at H
    have c3b0 : (a0_0 == a1_0) = true := beq_iff_eq.mpr c3
    have c3b1 : (a0_0 != a1_0) = false := bne_eq_false_iff_eq.mpr c3
    clear c3
    by_cases c4 : a0_1 = a1_1
    · rw [if_pos c4] at H
      have c4b0 : (a0_1 == a1_1) = true := beq_iff_eq.mpr c4
      have c4b1 : (a0_1 != a1_1) = false := bne_eq_false_iff_eq.mpr c4
      clear c4
      by_cases c5 : a0_2 = a1_2
      · rw [if_pos c5] at H
        have c5b0 : (a0_2 == a1_2) = true := beq_iff_eq.mpr c5
        have c5b1 : (a0_2 != a1_2) = false := bne_eq_false_iff_eq.mpr c5
        clear c5
        by_cases c6 : a0_3 = a1_3
        · rw [if_pos c6] at H
          have c6b0 : (a0_3 == a1_3) = true := beq_iff_eq.mpr c6
          have c6b1 : (a0_3 != a1_3) = false := bne_eq_false_iff_eq.mpr c6
          clear c6
          by_cases c7 : (a0_4 == a1_4) = true
          · rw [if_pos c7] at H
            have c7b0 : (a0_4 == a1_4) = true := c7
            (try (have c7b1 : decide (a0_4 = a1_4) = true := by simpa using c7))
            (try (have c7b2 : (a0_4 == a1_4) = true := by simpa using c7))
            clear c7
            by_cases c8 : a0_5 = a1_5
            · rw [if_pos c8] at H
              have c8b0 : (a0_5 == a1_5) = true := beq_iff_eq.mpr c8
              have c8b1 : (a0_5 != a1_5) = false := bne_eq_false_iff_eq.mpr c8
              clear c8
              replace H := Option.bind_eq_some_iff.mp H
              obtain ⟨t201, A90, H⟩ := H
              replace H : (if t201 = true then ((sextonref01_Ints.f k l0_7 l1_7).bind fun t202 => (if t202 = true then ((sextonref22_Same.f k l0_8 l1_8).bind fun t203 => (some t203)) else (some false))) else (some false)) = some r := H
              have A9 := Aside0.mk A90
              clear A90
              by_cases c10 : t201 = true
              · subst c10
                have H1 : ((sextonref01_Ints.f k l0_7 l1_7).bind fun t202 => (if t202 = true then ((sextonref22_Same.f k l0_8 l1_8).bind fun t203 => (some t203)) else (some false))) = some r := by rw [if_pos rfl] at H; exact H
                clear H
                have H := H1
                clear H1
                replace H := Option.bind_eq_some_iff.mp H
                obtain ⟨t202, A110, H⟩ := H
                replace H : (if t202 = true then ((sextonref22_Same.f k l0_8 l1_8).bind fun t203 => (some t203)) else (some false)) = some r := H
                have A11 := Aside0.mk A110
                clear A110
                by_cases c12 : t202 = true
                · subst c12
                  have H1 : ((sextonref22_Same.f k l0_8 l1_8).bind fun t203 => (some t203)) = some r := by rw [if_pos rfl] at H; exact H
                  clear H
                  have H := H1
                  clear H1
                  replace H := Option.bind_eq_some_iff.mp H
                  obtain ⟨t203, A130, H⟩ := H
                  replace H : (some t203) = some r := H
                  have A13 := Aside0.mk A130
                  clear A130
                  obtain rfl := Option.some.inj H
                  go_enter Try.func10, Try.ntmps10
                  go_wp2_with (first | ((with_reducible refine gate_dst (N := 2) rfl ?_); refine box_event ?hg (N := 2) ?hd (cs := #[.int .i64 a0_0, .int .i64 a0_1, .int .i64 a0_2, .int .i64 a0_3, .bool a0_4, .int .i64 a0_5, .slice A0_6 l0_6.length c0_6, .slice A0_7 l0_7.length c0_7, .slice A0_8 l0_8.length c0_8]) (t := 26) ?hr ?_; (case hd => rfl); (case hg => rfl); (case hr => first | (go_simp; done) | (go_simp; rfl)); intro gb199 hg w14 hbox hb; have n0_ := Aside0.mk (below_step (by repeat (first | (with_reducible first | exact HB.out | apply below_alloc | apply pw_below_drewN | apply below_drew1) | exact HB.out)) hb); have n1_ := Aside0.mk (hbox); have n2_ := Aside0.mk ((by rw [hg]; exact (below_size (by repeat (first | (with_reducible first | exact HB.out | apply below_alloc | apply pw_below_drewN | apply below_drew1) | exact HB.out))) : w.heap.size ≤ gb199)); have n3_ := Aside0.mk ((by rw [hg]; exact (below_size (by repeat (first | (with_reducible first | exact HB.out | apply below_alloc | apply pw_below_drewN | apply below_drew1) | exact HB.out))) : w.heap.size ≤ gb199)); clear HB; have HB := n0_; have BK199 := n1_; have GW199 := n2_; have GE199 := n3_; clear n0_ n1_ n2_ n3_; clear hb hbox hg) | ((with_reducible refine gate_dst (N := 3) rfl ?_); refine box_event ?hg (N := 3) ?hd (cs := #[.int .i64 a1_0, .int .i64 a1_1, .int .i64 a1_2, .int .i64 a1_3, .bool a1_4, .int .i64 a1_5, .slice A1_6 l1_6.length c1_6, .slice A1_7 l1_7.length c1_7, .slice A1_8 l1_8.length c1_8]) (t := 26) ?hr ?_; (case hd => rfl); (case hg => rfl); (case hr => first | (go_simp; done) | (go_simp; rfl)); intro gb200 hg w15 hbox hb; have n0_ := Aside0.mk (blk_below (g := gb199) (o := .cells #[.int .i64 a0_0, .int .i64 a0_1, .int .i64 a0_2, .int .i64 a0_3, .bool a0_4, .int .i64 a0_5, .slice A0_6 l0_6.length c0_6, .slice A0_7 l0_7.length c0_7, .slice A0_8 l0_8.length c0_8] 26 (0, 0)) (by (with_reducible repeat (first | refine blk_drewN ?_ _ | refine blk_drew ?_ | refine blk_alloc ?_ _)); exact BK199.out) hb); have n1_ := Aside0.mk (below_step (by repeat (first | (with_reducible first | exact HB.out | apply below_alloc | apply pw_below_drewN | apply below_drew1 | refine below_set ?_ GE199.out) | exact HB.out)) hb); have n2_ := Aside0.mk (hbox); have n3_ := Aside0.mk ((by rw [hg]; exact (below_size (by repeat (first | (with_reducible first | exact HB.out | apply below_alloc | apply pw_below_drewN | apply below_drew1 | refine below_set ?_ GE199.out) | exact HB.out))) : w.heap.size ≤ gb200)); have n4_ := Aside0.mk ((by rw [hg]; exact (below_size (by repeat (first | (with_reducible first | exact HB.out | apply below_alloc | apply pw_below_drewN | apply below_drew1 | refine below_set ?_ GE199.out) | exact HB.out))) : w.heap.size ≤ gb200)); have n5_ := Aside0.mk ((by rw [hg]; exact Nat.ne_of_lt (blk_lt (g := gb199) (o := .cells #[.int .i64 a0_0, .int .i64 a0_1, .int .i64 a0_2, .int .i64 a0_3, .bool a0_4, .int .i64 a0_5, .slice A0_6 l0_6.length c0_6, .slice A0_7 l0_7.length c0_7, .slice A0_8 l0_8.length c0_8] 26 (0, 0)) (by (with_reducible repeat (first | refine blk_drewN ?_ _ | refine blk_drew ?_ | refine blk_alloc ?_ _)); exact BK199.out)) : gb199 ≠ gb200)); have n6_ := Aside0.mk ((by rw [hg]; exact Nat.ne_of_gt (blk_lt (g := gb199) (o := .cells #[.int .i64 a0_0, .int .i64 a0_1, .int .i64 a0_2, .int .i64 a0_3, .bool a0_4, .int .i64 a0_5, .slice A0_6 l0_6.length c0_6, .slice A0_7 l0_7.length c0_7, .slice A0_8 l0_8.length c0_8] 26 (0, 0)) (by (with_reducible repeat (first | refine blk_drewN ?_ _ | refine blk_drew ?_ | refine blk_alloc ?_ _)); exact BK199.out)) : gb200 ≠ gb199)); clear BK199; clear HB; have BK199 := n0_; have HB := n1_; have BK200 := n2_; have GW200 := n3_; have GE200 := n4_; have NB199_200 := n5_; have NB200_199 := n6_; clear n0_ n1_ n2_ n3_ n4_ n5_ n6_; clear hb hbox hg; have hnb16 := NB199_200.out; have hnc16 := NB200_199.out; have hcz17_0 : w15.cell? ⟨gb199, 0, none⟩ = some (.int .i64 a0_0) := (blk_cell BK199.out 0).trans rfl; have hcz17_1 : w15.cell? ⟨gb199, 1, none⟩ = some (.int .i64 a0_1) := (blk_cell BK199.out 1).trans rfl; have hcz17_2 : w15.cell? ⟨gb199, 2, none⟩ = some (.int .i64 a0_2) := (blk_cell BK199.out 2).trans rfl; have hcz17_3 : w15.cell? ⟨gb199, 3, none⟩ = some (.int .i64 a0_3) := (blk_cell BK199.out 3).trans rfl; have hcz17_4 : w15.cell? ⟨gb199, 4, none⟩ = some (.bool a0_4) := (blk_cell BK199.out 4).trans rfl; have hcz17_5 : w15.cell? ⟨gb199, 5, none⟩ = some (.int .i64 a0_5) := (blk_cell BK199.out 5).trans rfl; have hcz17_6 : w15.cell? ⟨gb199, 6, none⟩ = some (.slice A0_6 l0_6.length c0_6) := (blk_cell BK199.out 6).trans rfl; have hcz17_7 : w15.cell? ⟨gb199, 7, none⟩ = some (.slice A0_7 l0_7.length c0_7) := (blk_cell BK199.out 7).trans rfl; have hcz17_8 : w15.cell? ⟨gb199, 8, none⟩ = some (.slice A0_8 l0_8.length c0_8) := (blk_cell BK199.out 8).trans rfl; have hfz17_0 := blk_frozen BK199.out 0; have hfz17_1 := blk_frozen BK199.out 1; have hfz17_2 := blk_frozen BK199.out 2; have hfz17_3 := blk_frozen BK199.out 3; have hfz17_4 := blk_frozen BK199.out 4; have hfz17_5 := blk_frozen BK199.out 5; have hfz17_6 := blk_frozen BK199.out 6; have hfz17_7 := blk_frozen BK199.out 7; have hfz17_8 := blk_frozen BK199.out 8; have hcz18_0 : w15.cell? ⟨gb200, 0, none⟩ = some (.int .i64 a1_0) := (blk_cell BK200.out 0).trans rfl; have hcz18_1 : w15.cell? ⟨gb200, 1, none⟩ = some (.int .i64 a1_1) := (blk_cell BK200.out 1).trans rfl; have hcz18_2 : w15.cell? ⟨gb200, 2, none⟩ = some (.int .i64 a1_2) := (blk_cell BK200.out 2).trans rfl; have hcz18_3 : w15.cell? ⟨gb200, 3, none⟩ = some (.int .i64 a1_3) := (blk_cell BK200.out 3).trans rfl; have hcz18_4 : w15.cell? ⟨gb200, 4, none⟩ = some (.bool a1_4) := (blk_cell BK200.out 4).trans rfl; have hcz18_5 : w15.cell? ⟨gb200, 5, none⟩ = some (.int .i64 a1_5) := (blk_cell BK200.out 5).trans rfl; have hcz18_6 : w15.cell? ⟨gb200, 6, none⟩ = some (.slice A1_6 l1_6.length c1_6) := (blk_cell BK200.out 6).trans rfl; have hcz18_7 : w15.cell? ⟨gb200, 7, none⟩ = some (.slice A1_7 l1_7.length c1_7) := (blk_cell BK200.out 7).trans rfl; have hcz18_8 : w15.cell? ⟨gb200, 8, none⟩ = some (.slice A1_8 l1_8.length c1_8) := (blk_cell BK200.out 8).trans rfl; have hfz18_0 := blk_frozen BK200.out 0; have hfz18_1 := blk_frozen BK200.out 1; have hfz18_2 := blk_frozen BK200.out 2; have hfz18_3 := blk_frozen BK200.out 3; have hfz18_4 := blk_frozen BK200.out 4; have hfz18_5 := blk_frozen BK200.out 5; have hfz18_6 := blk_frozen BK200.out 6; have hfz18_7 := blk_frozen BK200.out 7; have hfz18_8 := blk_frozen BK200.out 8) | (go_at_call 14; (with_reducible refine (sextonref01_Texts.calls k _ _ l0_6 _ _ l1_6 true _ ?side1 ?side2 ?side3 ?side4 A9.out).mono ?_); (case side1 => repeat (first | exact (Kd.C_below HR0_6.out HB.out) | (with_reducible refine Kd.C_alloc ?_ _) | (with_reducible refine Kd.C_drewN ?_ _) | (with_reducible refine Kd.C_drew ?_))); (case side2 => exact HC0_6.out); (case side3 => repeat (first | exact (Kd.C_below HR1_6.out HB.out) | (with_reducible refine Kd.C_alloc ?_ _) | (with_reducible refine Kd.C_drewN ?_ _) | (with_reducible refine Kd.C_drew ?_))); (case side4 => exact HC1_6.out); rintro e w' ⟨rfl, ⟨nd, rfl⟩⟩) | (go_at_call 26; (with_reducible refine (sextonref01_Ints.calls k _ _ l0_7 _ _ l1_7 true _ ?side1 ?side2 ?side3 ?side4 A11.out).mono ?_); (case side1 => repeat (first | exact (Kd.C_below HR0_7.out (by repeat (first | (with_reducible first | exact HB.out | apply below_alloc | apply pw_below_drewN | apply below_drew1 | refine below_set ?_ GE199.out | refine below_set ?_ GE200.out) | exact HB.out))) | (with_reducible refine Kd.C_alloc ?_ _) | (with_reducible refine Kd.C_drewN ?_ _) | (with_reducible refine Kd.C_drew ?_))); (case side2 => exact HC0_7.out); (case side3 => repeat (first | exact (Kd.C_below HR1_7.out (by repeat (first | (with_reducible first | exact HB.out | apply below_alloc | apply pw_below_drewN | apply below_drew1 | refine below_set ?_ GE199.out | refine below_set ?_ GE200.out) | exact HB.out))) | (with_reducible refine Kd.C_alloc ?_ _) | (with_reducible refine Kd.C_drewN ?_ _) | (with_reducible refine Kd.C_drew ?_))); (case side4 => exact HC1_7.out); rintro e w' ⟨rfl, ⟨nd, rfl⟩⟩) | (go_at_call 27; (with_reducible refine (sextonref22_Same.calls k _ _ l0_8 _ _ l1_8 t203 _ ?side1 ?side2 ?side3 ?side4 A13.out).mono ?_); (case side1 => repeat (first | exact (Kd.C_below HR0_8.out (by repeat (first | (with_reducible first | exact HB.out | apply below_alloc | apply pw_below_drewN | apply below_drew1 | refine below_set ?_ GE199.out | refine below_set ?_ GE200.out) | exact HB.out))) | (with_reducible refine Kd.C_alloc ?_ _) | (with_reducible refine Kd.C_drewN ?_ _) | (with_reducible refine Kd.C_drew ?_))); (case side2 => exact HC0_8.out); (case side3 => repeat (first | exact (Kd.C_below HR1_8.out (by repeat (first | (with_reducible first | exact HB.out | apply below_alloc | apply pw_below_drewN | apply below_drew1 | refine below_set ?_ GE199.out | refine below_set ?_ GE200.out) | exact HB.out))) | (with_reducible refine Kd.C_alloc ?_ _) | (with_reducible refine Kd.C_drewN ?_ _) | (with_reducible refine Kd.C_drew ?_))); (case side4 => exact HC1_8.out); rintro e w19 ⟨rfl, hb⟩; have n0_ := Aside0.mk (blk_below (g := gb199) (o := .cells #[.int .i64 a0_0, .int .i64 a0_1, .int .i64 a0_2, .int .i64 a0_3, .bool a0_4, .int .i64 a0_5, .slice A0_6 l0_6.length c0_6, .slice A0_7 l0_7.length c0_7, .slice A0_8 l0_8.length c0_8] 26 (0, 0)) (by (with_reducible repeat (first | refine blk_drewN ?_ _ | refine blk_drew ?_ | refine blk_alloc ?_ _)); exact BK199.out) hb); have n1_ := Aside0.mk (blk_below (g := gb200) (o := .cells #[.int .i64 a1_0, .int .i64 a1_1, .int .i64 a1_2, .int .i64 a1_3, .bool a1_4, .int .i64 a1_5, .slice A1_6 l1_6.length c1_6, .slice A1_7 l1_7.length c1_7, .slice A1_8 l1_8.length c1_8] 26 (0, 0)) (by (with_reducible repeat (first | refine blk_drewN ?_ _ | refine blk_drew ?_ | refine blk_alloc ?_ _)); exact BK200.out) hb); have n2_ := Aside0.mk (below_step (by repeat (first | (with_reducible first | exact HB.out | apply below_alloc | apply pw_below_drewN | apply below_drew1 | refine below_set ?_ GE199.out | refine below_set ?_ GE200.out) | exact HB.out)) hb); clear BK199; clear BK200; clear HB; have BK199 := n0_; have BK200 := n1_; have HB := n2_; clear n0_ n1_ n2_; (try clear hb); (try clear hb2); (try clear hk); (try clear hi)))
                  go_ret
                  exact ⟨by first | rfl | (simp [errW_none, errW_some] <;> rfl) | (simp [*, errW_none, errW_some] <;> rfl), by repeat (first | (with_reducible first | exact HB.out | apply below_alloc | apply pw_below_drewN | apply below_drew1 | refine below_set ?_ GE199.out | refine below_set ?_ GE200.out) | exact HB.out)⟩
                · replace c12 := Bool.eq_false_iff.mpr c12
                  subst c12
                  have H1 : (some false) = some r := by rw [if_neg (show ¬ (false = true) by decide)] at H; exact H
                  clear H
                  have H := H1
                  clear H1
                  obtain rfl := Option.some.inj H
                  go_enter Try.func10, Try.ntmps10
                  go_wp2_with (first | ((with_reducible refine gate_dst (N := 2) rfl ?_); refine box_event ?hg (N := 2) ?hd (cs := #[.int .i64 a0_0, .int .i64 a0_1, .int .i64 a0_2, .int .i64 a0_3, .bool a0_4, .int .i64 a0_5, .slice A0_6 l0_6.length c0_6, .slice A0_7 l0_7.length c0_7, .slice A0_8 l0_8.length c0_8]) (t := 26) ?hr ?_; (case hd => rfl); (case hg => rfl); (case hr => first | (go_simp; done) | (go_simp; rfl)); intro gb199 hg w20 hbox hb; have n0_ := Aside0.mk (below_step (by repeat (first | (with_reducible first | exact HB.out | apply below_alloc | apply pw_below_drewN | apply below_drew1) | exact HB.out)) hb); have n1_ := Aside0.mk (hbox); have n2_ := Aside0.mk ((by rw [hg]; exact (below_size (by repeat (first | (with_reducible first | exact HB.out | apply below_alloc | apply pw_below_drewN | apply below_drew1) | exact HB.out))) : w.heap.size ≤ gb199)); have n3_ := Aside0.mk ((by rw [hg]; exact (below_size (by repeat (first | (with_reducible first | exact HB.out | apply below_alloc | apply pw_below_drewN | apply below_drew1) | exact HB.out))) : w.heap.size ≤ gb199)); clear HB; have HB := n0_; have BK199 := n1_; have GW199 := n2_; have GE199 := n3_; clear n0_ n1_ n2_ n3_; clear hb hbox hg) | ((with_reducible refine gate_dst (N := 3) rfl ?_); refine box_event ?hg (N := 3) ?hd (cs := #[.int .i64 a1_0, .int .i64 a1_1, .int .i64 a1_2, .int .i64 a1_3, .bool a1_4, .int .i64 a1_5, .slice A1_6 l1_6.length c1_6, .slice A1_7 l1_7.length c1_7, .slice A1_8 l1_8.length c1_8]) (t := 26) ?hr ?_; (case hd => rfl); (case hg => rfl); (case hr => first | (go_simp; done) | (go_simp; rfl)); intro gb200 hg w21 hbox hb; have n0_ := Aside0.mk (blk_below (g := gb199) (o := .cells #[.int .i64 a0_0, .int .i64 a0_1, .int .i64 a0_2, .int .i64 a0_3, .bool a0_4, .int .i64 a0_5, .slice A0_6 l0_6.length c0_6, .slice A0_7 l0_7.length c0_7, .slice A0_8 l0_8.length c0_8] 26 (0, 0)) (by (with_reducible repeat (first | refine blk_drewN ?_ _ | refine blk_drew ?_ | refine blk_alloc ?_ _)); exact BK199.out) hb); have n1_ := Aside0.mk (below_step (by repeat (first | (with_reducible first | exact HB.out | apply below_alloc | apply pw_below_drewN | apply below_drew1 | refine below_set ?_ GE199.out) | exact HB.out)) hb); have n2_ := Aside0.mk (hbox); have n3_ := Aside0.mk ((by rw [hg]; exact (below_size (by repeat (first | (with_reducible first | exact HB.out | apply below_alloc | apply pw_below_drewN | apply below_drew1 | refine below_set ?_ GE199.out) | exact HB.out))) : w.heap.size ≤ gb200)); have n4_ := Aside0.mk ((by rw [hg]; exact (below_size (by repeat (first | (with_reducible first | exact HB.out | apply below_alloc | apply pw_below_drewN | apply below_drew1 | refine below_set ?_ GE199.out) | exact HB.out))) : w.heap.size ≤ gb200)); have n5_ := Aside0.mk ((by rw [hg]; exact Nat.ne_of_lt (blk_lt (g := gb199) (o := .cells #[.int .i64 a0_0, .int .i64 a0_1, .int .i64 a0_2, .int .i64 a0_3, .bool a0_4, .int .i64 a0_5, .slice A0_6 l0_6.length c0_6, .slice A0_7 l0_7.length c0_7, .slice A0_8 l0_8.length c0_8] 26 (0, 0)) (by (with_reducible repeat (first | refine blk_drewN ?_ _ | refine blk_drew ?_ | refine blk_alloc ?_ _)); exact BK199.out)) : gb199 ≠ gb200)); have n6_ := Aside0.mk ((by rw [hg]; exact Nat.ne_of_gt (blk_lt (g := gb199) (o := .cells #[.int .i64 a0_0, .int .i64 a0_1, .int .i64 a0_2, .int .i64 a0_3, .bool a0_4, .int .i64 a0_5, .slice A0_6 l0_6.length c0_6, .slice A0_7 l0_7.length c0_7, .slice A0_8 l0_8.length c0_8] 26 (0, 0)) (by (with_reducible repeat (first | refine blk_drewN ?_ _ | refine blk_drew ?_ | refine blk_alloc ?_ _)); exact BK199.out)) : gb200 ≠ gb199)); clear BK199; clear HB; have BK199 := n0_; have HB := n1_; have BK200 := n2_; have GW200 := n3_; have GE200 := n4_; have NB199_200 := n5_; have NB200_199 := n6_; clear n0_ n1_ n2_ n3_ n4_ n5_ n6_; clear hb hbox hg; have hnb22 := NB199_200.out; have hnc22 := NB200_199.out; have hcz23_0 : w21.cell? ⟨gb199, 0, none⟩ = some (.int .i64 a0_0) := (blk_cell BK199.out 0).trans rfl; have hcz23_1 : w21.cell? ⟨gb199, 1, none⟩ = some (.int .i64 a0_1) := (blk_cell BK199.out 1).trans rfl; have hcz23_2 : w21.cell? ⟨gb199, 2, none⟩ = some (.int .i64 a0_2) := (blk_cell BK199.out 2).trans rfl; have hcz23_3 : w21.cell? ⟨gb199, 3, none⟩ = some (.int .i64 a0_3) := (blk_cell BK199.out 3).trans rfl; have hcz23_4 : w21.cell? ⟨gb199, 4, none⟩ = some (.bool a0_4) := (blk_cell BK199.out 4).trans rfl; have hcz23_5 : w21.cell? ⟨gb199, 5, none⟩ = some (.int .i64 a0_5) := (blk_cell BK199.out 5).trans rfl; have hcz23_6 : w21.cell? ⟨gb199, 6, none⟩ = some (.slice A0_6 l0_6.length c0_6) := (blk_cell BK199.out 6).trans rfl; have hcz23_7 : w21.cell? ⟨gb199, 7, none⟩ = some (.slice A0_7 l0_7.length c0_7) := (blk_cell BK199.out 7).trans rfl; have hcz23_8 : w21.cell? ⟨gb199, 8, none⟩ = some (.slice A0_8 l0_8.length c0_8) := (blk_cell BK199.out 8).trans rfl; have hfz23_0 := blk_frozen BK199.out 0; have hfz23_1 := blk_frozen BK199.out 1; have hfz23_2 := blk_frozen BK199.out 2; have hfz23_3 := blk_frozen BK199.out 3; have hfz23_4 := blk_frozen BK199.out 4; have hfz23_5 := blk_frozen BK199.out 5; have hfz23_6 := blk_frozen BK199.out 6; have hfz23_7 := blk_frozen BK199.out 7; have hfz23_8 := blk_frozen BK199.out 8; have hcz24_0 : w21.cell? ⟨gb200, 0, none⟩ = some (.int .i64 a1_0) := (blk_cell BK200.out 0).trans rfl; have hcz24_1 : w21.cell? ⟨gb200, 1, none⟩ = some (.int .i64 a1_1) := (blk_cell BK200.out 1).trans rfl; have hcz24_2 : w21.cell? ⟨gb200, 2, none⟩ = some (.int .i64 a1_2) := (blk_cell BK200.out 2).trans rfl; have hcz24_3 : w21.cell? ⟨gb200, 3, none⟩ = some (.int .i64 a1_3) := (blk_cell BK200.out 3).trans rfl; have hcz24_4 : w21.cell? ⟨gb200, 4, none⟩ = some (.bool a1_4) := (blk_cell BK200.out 4).trans rfl; have hcz24_5 : w21.cell? ⟨gb200, 5, none⟩ = some (.int .i64 a1_5) := (blk_cell BK200.out 5).trans rfl; have hcz24_6 : w21.cell? ⟨gb200, 6, none⟩ = some (.slice A1_6 l1_6.length c1_6) := (blk_cell BK200.out 6).trans rfl; have hcz24_7 : w21.cell? ⟨gb200, 7, none⟩ = some (.slice A1_7 l1_7.length c1_7) := (blk_cell BK200.out 7).trans rfl; have hcz24_8 : w21.cell? ⟨gb200, 8, none⟩ = some (.slice A1_8 l1_8.length c1_8) := (blk_cell BK200.out 8).trans rfl; have hfz24_0 := blk_frozen BK200.out 0; have hfz24_1 := blk_frozen BK200.out 1; have hfz24_2 := blk_frozen BK200.out 2; have hfz24_3 := blk_frozen BK200.out 3; have hfz24_4 := blk_frozen BK200.out 4; have hfz24_5 := blk_frozen BK200.out 5; have hfz24_6 := blk_frozen BK200.out 6; have hfz24_7 := blk_frozen BK200.out 7; have hfz24_8 := blk_frozen BK200.out 8) | (go_at_call 14; (with_reducible refine (sextonref01_Texts.calls k _ _ l0_6 _ _ l1_6 true _ ?side1 ?side2 ?side3 ?side4 A9.out).mono ?_); (case side1 => repeat (first | exact (Kd.C_below HR0_6.out HB.out) | (with_reducible refine Kd.C_alloc ?_ _) | (with_reducible refine Kd.C_drewN ?_ _) | (with_reducible refine Kd.C_drew ?_))); (case side2 => exact HC0_6.out); (case side3 => repeat (first | exact (Kd.C_below HR1_6.out HB.out) | (with_reducible refine Kd.C_alloc ?_ _) | (with_reducible refine Kd.C_drewN ?_ _) | (with_reducible refine Kd.C_drew ?_))); (case side4 => exact HC1_6.out); rintro e w' ⟨rfl, ⟨nd, rfl⟩⟩) | (go_at_call 26; (with_reducible refine (sextonref01_Ints.calls k _ _ l0_7 _ _ l1_7 false _ ?side1 ?side2 ?side3 ?side4 A11.out).mono ?_); (case side1 => repeat (first | exact (Kd.C_below HR0_7.out (by repeat (first | (with_reducible first | exact HB.out | apply below_alloc | apply pw_below_drewN | apply below_drew1 | refine below_set ?_ GE199.out | refine below_set ?_ GE200.out) | exact HB.out))) | (with_reducible refine Kd.C_alloc ?_ _) | (with_reducible refine Kd.C_drewN ?_ _) | (with_reducible refine Kd.C_drew ?_))); (case side2 => exact HC0_7.out); (case side3 => repeat (first | exact (Kd.C_below HR1_7.out (by repeat (first | (with_reducible first | exact HB.out | apply below_alloc | apply pw_below_drewN | apply below_drew1 | refine below_set ?_ GE199.out | refine below_set ?_ GE200.out) | exact HB.out))) | (with_reducible refine Kd.C_alloc ?_ _) | (with_reducible refine Kd.C_drewN ?_ _) | (with_reducible refine Kd.C_drew ?_))); (case side4 => exact HC1_7.out); rintro e w' ⟨rfl, ⟨nd, rfl⟩⟩))
                  go_ret
                  exact ⟨by first | rfl | (simp [errW_none, errW_some] <;> rfl) | (simp [*, errW_none, errW_some] <;> rfl), by repeat (first | (with_reducible first | exact HB.out | apply below_alloc | apply pw_below_drewN | apply below_drew1 | refine below_set ?_ GE199.out | refine below_set ?_ GE200.out) | exact HB.out)⟩
              · replace c10 := Bool.eq_false_iff.mpr c10
                subst c10
                have H1 : (some false) = some r := by rw [if_neg (show ¬ (false = true) by decide)] at H; exact H
                clear H
                have H := H1
                clear H1
                obtain rfl := Option.some.inj H
                go_enter Try.func10, Try.ntmps10
                go_wp2_with (first | ((with_reducible refine gate_dst (N := 2) rfl ?_); refine box_event ?hg (N := 2) ?hd (cs := #[.int .i64 a0_0, .int .i64 a0_1, .int .i64 a0_2, .int .i64 a0_3, .bool a0_4, .int .i64 a0_5, .slice A0_6 l0_6.length c0_6, .slice A0_7 l0_7.length c0_7, .slice A0_8 l0_8.length c0_8]) (t := 26) ?hr ?_; (case hd => rfl); (case hg => rfl); (case hr => first | (go_simp; done) | (go_simp; rfl)); intro gb199 hg w25 hbox hb; have n0_ := Aside0.mk (below_step (by repeat (first | (with_reducible first | exact HB.out | apply below_alloc | apply pw_below_drewN | apply below_drew1) | exact HB.out)) hb); have n1_ := Aside0.mk (hbox); have n2_ := Aside0.mk ((by rw [hg]; exact (below_size (by repeat (first | (with_reducible first | exact HB.out | apply below_alloc | apply pw_below_drewN | apply below_drew1) | exact HB.out))) : w.heap.size ≤ gb199)); have n3_ := Aside0.mk ((by rw [hg]; exact (below_size (by repeat (first | (with_reducible first | exact HB.out | apply below_alloc | apply pw_below_drewN | apply below_drew1) | exact HB.out))) : w.heap.size ≤ gb199)); clear HB; have HB := n0_; have BK199 := n1_; have GW199 := n2_; have GE199 := n3_; clear n0_ n1_ n2_ n3_; clear hb hbox hg) | ((with_reducible refine gate_dst (N := 3) rfl ?_); refine box_event ?hg (N := 3) ?hd (cs := #[.int .i64 a1_0, .int .i64 a1_1, .int .i64 a1_2, .int .i64 a1_3, .bool a1_4, .int .i64 a1_5, .slice A1_6 l1_6.length c1_6, .slice A1_7 l1_7.length c1_7, .slice A1_8 l1_8.length c1_8]) (t := 26) ?hr ?_; (case hd => rfl); (case hg => rfl); (case hr => first | (go_simp; done) | (go_simp; rfl)); intro gb200 hg w26 hbox hb; have n0_ := Aside0.mk (blk_below (g := gb199) (o := .cells #[.int .i64 a0_0, .int .i64 a0_1, .int .i64 a0_2, .int .i64 a0_3, .bool a0_4, .int .i64 a0_5, .slice A0_6 l0_6.length c0_6, .slice A0_7 l0_7.length c0_7, .slice A0_8 l0_8.length c0_8] 26 (0, 0)) (by (with_reducible repeat (first | refine blk_drewN ?_ _ | refine blk_drew ?_ | refine blk_alloc ?_ _)); exact BK199.out) hb); have n1_ := Aside0.mk (below_step (by repeat (first | (with_reducible first | exact HB.out | apply below_alloc | apply pw_below_drewN | apply below_drew1 | refine below_set ?_ GE199.out) | exact HB.out)) hb); have n2_ := Aside0.mk (hbox); have n3_ := Aside0.mk ((by rw [hg]; exact (below_size (by repeat (first | (with_reducible first | exact HB.out | apply below_alloc | apply pw_below_drewN | apply below_drew1 | refine below_set ?_ GE199.out) | exact HB.out))) : w.heap.size ≤ gb200)); have n4_ := Aside0.mk ((by rw [hg]; exact (below_size (by repeat (first | (with_reducible first | exact HB.out | apply below_alloc | apply pw_below_drewN | apply below_drew1 | refine below_set ?_ GE199.out) | exact HB.out))) : w.heap.size ≤ gb200)); have n5_ := Aside0.mk ((by rw [hg]; exact Nat.ne_of_lt (blk_lt (g := gb199) (o := .cells #[.int .i64 a0_0, .int .i64 a0_1, .int .i64 a0_2, .int .i64 a0_3, .bool a0_4, .int .i64 a0_5, .slice A0_6 l0_6.length c0_6, .slice A0_7 l0_7.length c0_7, .slice A0_8 l0_8.length c0_8] 26 (0, 0)) (by (with_reducible repeat (first | refine blk_drewN ?_ _ | refine blk_drew ?_ | refine blk_alloc ?_ _)); exact BK199.out)) : gb199 ≠ gb200)); have n6_ := Aside0.mk ((by rw [hg]; exact Nat.ne_of_gt (blk_lt (g := gb199) (o := .cells #[.int .i64 a0_0, .int .i64 a0_1, .int .i64 a0_2, .int .i64 a0_3, .bool a0_4, .int .i64 a0_5, .slice A0_6 l0_6.length c0_6, .slice A0_7 l0_7.length c0_7, .slice A0_8 l0_8.length c0_8] 26 (0, 0)) (by (with_reducible repeat (first | refine blk_drewN ?_ _ | refine blk_drew ?_ | refine blk_alloc ?_ _)); exact BK199.out)) : gb200 ≠ gb199)); clear BK199; clear HB; have BK199 := n0_; have HB := n1_; have BK200 := n2_; have GW200 := n3_; have GE200 := n4_; have NB199_200 := n5_; have NB200_199 := n6_; clear n0_ n1_ n2_ n3_ n4_ n5_ n6_; clear hb hbox hg; have hnb27 := NB199_200.out; have hnc27 := NB200_199.out; have hcz28_0 : w26.cell? ⟨gb199, 0, none⟩ = some (.int .i64 a0_0) := (blk_cell BK199.out 0).trans rfl; have hcz28_1 : w26.cell? ⟨gb199, 1, none⟩ = some (.int .i64 a0_1) := (blk_cell BK199.out 1).trans rfl; have hcz28_2 : w26.cell? ⟨gb199, 2, none⟩ = some (.int .i64 a0_2) := (blk_cell BK199.out 2).trans rfl; have hcz28_3 : w26.cell? ⟨gb199, 3, none⟩ = some (.int .i64 a0_3) := (blk_cell BK199.out 3).trans rfl; have hcz28_4 : w26.cell? ⟨gb199, 4, none⟩ = some (.bool a0_4) := (blk_cell BK199.out 4).trans rfl; have hcz28_5 : w26.cell? ⟨gb199, 5, none⟩ = some (.int .i64 a0_5) := (blk_cell BK199.out 5).trans rfl; have hcz28_6 : w26.cell? ⟨gb199, 6, none⟩ = some (.slice A0_6 l0_6.length c0_6) := (blk_cell BK199.out 6).trans rfl; have hcz28_7 : w26.cell? ⟨gb199, 7, none⟩ = some (.slice A0_7 l0_7.length c0_7) := (blk_cell BK199.out 7).trans rfl; have hcz28_8 : w26.cell? ⟨gb199, 8, none⟩ = some (.slice A0_8 l0_8.length c0_8) := (blk_cell BK199.out 8).trans rfl; have hfz28_0 := blk_frozen BK199.out 0; have hfz28_1 := blk_frozen BK199.out 1; have hfz28_2 := blk_frozen BK199.out 2; have hfz28_3 := blk_frozen BK199.out 3; have hfz28_4 := blk_frozen BK199.out 4; have hfz28_5 := blk_frozen BK199.out 5; have hfz28_6 := blk_frozen BK199.out 6; have hfz28_7 := blk_frozen BK199.out 7; have hfz28_8 := blk_frozen BK199.out 8; have hcz29_0 : w26.cell? ⟨gb200, 0, none⟩ = some (.int .i64 a1_0) := (blk_cell BK200.out 0).trans rfl; have hcz29_1 : w26.cell? ⟨gb200, 1, none⟩ = some (.int .i64 a1_1) := (blk_cell BK200.out 1).trans rfl; have hcz29_2 : w26.cell? ⟨gb200, 2, none⟩ = some (.int .i64 a1_2) := (blk_cell BK200.out 2).trans rfl; have hcz29_3 : w26.cell? ⟨gb200, 3, none⟩ = some (.int .i64 a1_3) := (blk_cell BK200.out 3).trans rfl; have hcz29_4 : w26.cell? ⟨gb200, 4, none⟩ = some (.bool a1_4) := (blk_cell BK200.out 4).trans rfl; have hcz29_5 : w26.cell? ⟨gb200, 5, none⟩ = some (.int .i64 a1_5) := (blk_cell BK200.out 5).trans rfl; have hcz29_6 : w26.cell? ⟨gb200, 6, none⟩ = some (.slice A1_6 l1_6.length c1_6) := (blk_cell BK200.out 6).trans rfl; have hcz29_7 : w26.cell? ⟨gb200, 7, none⟩ = some (.slice A1_7 l1_7.length c1_7) := (blk_cell BK200.out 7).trans rfl; have hcz29_8 : w26.cell? ⟨gb200, 8, none⟩ = some (.slice A1_8 l1_8.length c1_8) := (blk_cell BK200.out 8).trans rfl; have hfz29_0 := blk_frozen BK200.out 0; have hfz29_1 := blk_frozen BK200.out 1; have hfz29_2 := blk_frozen BK200.out 2; have hfz29_3 := blk_frozen BK200.out 3; have hfz29_4 := blk_frozen BK200.out 4; have hfz29_5 := blk_frozen BK200.out 5; have hfz29_6 := blk_frozen BK200.out 6; have hfz29_7 := blk_frozen BK200.out 7; have hfz29_8 := blk_frozen BK200.out 8) | (go_at_call 14; (with_reducible refine (sextonref01_Texts.calls k _ _ l0_6 _ _ l1_6 false _ ?side1 ?side2 ?side3 ?side4 A9.out).mono ?_); (case side1 => repeat (first | exact (Kd.C_below HR0_6.out HB.out) | (with_reducible refine Kd.C_alloc ?_ _) | (with_reducible refine Kd.C_drewN ?_ _) | (with_reducible refine Kd.C_drew ?_))); (case side2 => exact HC0_6.out); (case side3 => repeat (first | exact (Kd.C_below HR1_6.out HB.out) | (with_reducible refine Kd.C_alloc ?_ _) | (with_reducible refine Kd.C_drewN ?_ _) | (with_reducible refine Kd.C_drew ?_))); (case side4 => exact HC1_6.out); rintro e w' ⟨rfl, ⟨nd, rfl⟩⟩))
                go_ret
                exact ⟨by first | rfl | (simp [errW_none, errW_some] <;> rfl) | (simp [*, errW_none, errW_some] <;> rfl), by repeat (first | (with_reducible first | exact HB.out | apply below_alloc | apply pw_below_drewN | apply below_drew1 | refine below_set ?_ GE199.out | refine below_set ?_ GE200.out) | exact HB.out)⟩
            · rw [if_neg c8] at H
              have c8b0 : (a0_5 == a1_5) = false := beq_eq_false_iff_ne.mpr c8
              have c8b1 : (a0_5 != a1_5) = true := bne_iff_ne.mpr c8
              obtain rfl := Option.some.inj H
              go_enter Try.func10, Try.ntmps10
              go_wp2_with (first | ((with_reducible refine gate_dst (N := 2) rfl ?_); refine box_event ?hg (N := 2) ?hd (cs := #[.int .i64 a0_0, .int .i64 a0_1, .int .i64 a0_2, .int .i64 a0_3, .bool a0_4, .int .i64 a0_5, .slice A0_6 l0_6.length c0_6, .slice A0_7 l0_7.length c0_7, .slice A0_8 l0_8.length c0_8]) (t := 26) ?hr ?_; (case hd => rfl); (case hg => rfl); (case hr => first | (go_simp; done) | (go_simp; rfl)); intro gb199 hg w30 hbox hb; have n0_ := Aside0.mk (below_step (by repeat (first | (with_reducible first | exact HB.out | apply below_alloc | apply pw_below_drewN | apply below_drew1) | exact HB.out)) hb); have n1_ := Aside0.mk (hbox); have n2_ := Aside0.mk ((by rw [hg]; exact (below_size (by repeat (first | (with_reducible first | exact HB.out | apply below_alloc | apply pw_below_drewN | apply below_drew1) | exact HB.out))) : w.heap.size ≤ gb199)); have n3_ := Aside0.mk ((by rw [hg]; exact (below_size (by repeat (first | (with_reducible first | exact HB.out | apply below_alloc | apply pw_below_drewN | apply below_drew1) | exact HB.out))) : w.heap.size ≤ gb199)); clear HB; have HB := n0_; have BK199 := n1_; have GW199 := n2_; have GE199 := n3_; clear n0_ n1_ n2_ n3_; clear hb hbox hg) | ((with_reducible refine gate_dst (N := 3) rfl ?_); refine box_event ?hg (N := 3) ?hd (cs := #[.int .i64 a1_0, .int .i64 a1_1, .int .i64 a1_2, .int .i64 a1_3, .bool a1_4, .int .i64 a1_5, .slice A1_6 l1_6.length c1_6, .slice A1_7 l1_7.length c1_7, .slice A1_8 l1_8.length c1_8]) (t := 26) ?hr ?_; (case hd => rfl); (case hg => rfl); (case hr => first | (go_simp; done) | (go_simp; rfl)); intro gb200 hg w31 hbox hb; have n0_ := Aside0.mk (blk_below (g := gb199) (o := .cells #[.int .i64 a0_0, .int .i64 a0_1, .int .i64 a0_2, .int .i64 a0_3, .bool a0_4, .int .i64 a0_5, .slice A0_6 l0_6.length c0_6, .slice A0_7 l0_7.length c0_7, .slice A0_8 l0_8.length c0_8] 26 (0, 0)) (by (with_reducible repeat (first | refine blk_drewN ?_ _ | refine blk_drew ?_ | refine blk_alloc ?_ _)); exact BK199.out) hb); have n1_ := Aside0.mk (below_step (by repeat (first | (with_reducible first | exact HB.out | apply below_alloc | apply pw_below_drewN | apply below_drew1 | refine below_set ?_ GE199.out) | exact HB.out)) hb); have n2_ := Aside0.mk (hbox); have n3_ := Aside0.mk ((by rw [hg]; exact (below_size (by repeat (first | (with_reducible first | exact HB.out | apply below_alloc | apply pw_below_drewN | apply below_drew1 | refine below_set ?_ GE199.out) | exact HB.out))) : w.heap.size ≤ gb200)); have n4_ := Aside0.mk ((by rw [hg]; exact (below_size (by repeat (first | (with_reducible first | exact HB.out | apply below_alloc | apply pw_below_drewN | apply below_drew1 | refine below_set ?_ GE199.out) | exact HB.out))) : w.heap.size ≤ gb200)); have n5_ := Aside0.mk ((by rw [hg]; exact Nat.ne_of_lt (blk_lt (g := gb199) (o := .cells #[.int .i64 a0_0, .int .i64 a0_1, .int .i64 a0_2, .int .i64 a0_3, .bool a0_4, .int .i64 a0_5, .slice A0_6 l0_6.length c0_6, .slice A0_7 l0_7.length c0_7, .slice A0_8 l0_8.length c0_8] 26 (0, 0)) (by (with_reducible repeat (first | refine blk_drewN ?_ _ | refine blk_drew ?_ | refine blk_alloc ?_ _)); exact BK199.out)) : gb199 ≠ gb200)); have n6_ := Aside0.mk ((by rw [hg]; exact Nat.ne_of_gt (blk_lt (g := gb199) (o := .cells #[.int .i64 a0_0, .int .i64 a0_1, .int .i64 a0_2, .int .i64 a0_3, .bool a0_4, .int .i64 a0_5, .slice A0_6 l0_6.length c0_6, .slice A0_7 l0_7.length c0_7, .slice A0_8 l0_8.length c0_8] 26 (0, 0)) (by (with_reducible repeat (first | refine blk_drewN ?_ _ | refine blk_drew ?_ | refine blk_alloc ?_ _)); exact BK199.out)) : gb200 ≠ gb199)); clear BK199; clear HB; have BK199 := n0_; have HB := n1_; have BK200 := n2_; have GW200 := n3_; have GE200 := n4_; have NB199_200 := n5_; have NB200_199 := n6_; clear n0_ n1_ n2_ n3_ n4_ n5_ n6_; clear hb hbox hg; have hnb32 := NB199_200.out; have hnc32 := NB200_199.out; have hcz33_0 : w31.cell? ⟨gb199, 0, none⟩ = some (.int .i64 a0_0) := (blk_cell BK199.out 0).trans rfl; have hcz33_1 : w31.cell? ⟨gb199, 1, none⟩ = some (.int .i64 a0_1) := (blk_cell BK199.out 1).trans rfl; have hcz33_2 : w31.cell? ⟨gb199, 2, none⟩ = some (.int .i64 a0_2) := (blk_cell BK199.out 2).trans rfl; have hcz33_3 : w31.cell? ⟨gb199, 3, none⟩ = some (.int .i64 a0_3) := (blk_cell BK199.out 3).trans rfl; have hcz33_4 : w31.cell? ⟨gb199, 4, none⟩ = some (.bool a0_4) := (blk_cell BK199.out 4).trans rfl; have hcz33_5 : w31.cell? ⟨gb199, 5, none⟩ = some (.int .i64 a0_5) := (blk_cell BK199.out 5).trans rfl; have hcz33_6 : w31.cell? ⟨gb199, 6, none⟩ = some (.slice A0_6 l0_6.length c0_6) := (blk_cell BK199.out 6).trans rfl; have hcz33_7 : w31.cell? ⟨gb199, 7, none⟩ = some (.slice A0_7 l0_7.length c0_7) := (blk_cell BK199.out 7).trans rfl; have hcz33_8 : w31.cell? ⟨gb199, 8, none⟩ = some (.slice A0_8 l0_8.length c0_8) := (blk_cell BK199.out 8).trans rfl; have hfz33_0 := blk_frozen BK199.out 0; have hfz33_1 := blk_frozen BK199.out 1; have hfz33_2 := blk_frozen BK199.out 2; have hfz33_3 := blk_frozen BK199.out 3; have hfz33_4 := blk_frozen BK199.out 4; have hfz33_5 := blk_frozen BK199.out 5; have hfz33_6 := blk_frozen BK199.out 6; have hfz33_7 := blk_frozen BK199.out 7; have hfz33_8 := blk_frozen BK199.out 8; have hcz34_0 : w31.cell? ⟨gb200, 0, none⟩ = some (.int .i64 a1_0) := (blk_cell BK200.out 0).trans rfl; have hcz34_1 : w31.cell? ⟨gb200, 1, none⟩ = some (.int .i64 a1_1) := (blk_cell BK200.out 1).trans rfl; have hcz34_2 : w31.cell? ⟨gb200, 2, none⟩ = some (.int .i64 a1_2) := (blk_cell BK200.out 2).trans rfl; have hcz34_3 : w31.cell? ⟨gb200, 3, none⟩ = some (.int .i64 a1_3) := (blk_cell BK200.out 3).trans rfl; have hcz34_4 : w31.cell? ⟨gb200, 4, none⟩ = some (.bool a1_4) := (blk_cell BK200.out 4).trans rfl; have hcz34_5 : w31.cell? ⟨gb200, 5, none⟩ = some (.int .i64 a1_5) := (blk_cell BK200.out 5).trans rfl; have hcz34_6 : w31.cell? ⟨gb200, 6, none⟩ = some (.slice A1_6 l1_6.length c1_6) := (blk_cell BK200.out 6).trans rfl; have hcz34_7 : w31.cell? ⟨gb200, 7, none⟩ = some (.slice A1_7 l1_7.length c1_7) := (blk_cell BK200.out 7).trans rfl; have hcz34_8 : w31.cell? ⟨gb200, 8, none⟩ = some (.slice A1_8 l1_8.length c1_8) := (blk_cell BK200.out 8).trans rfl; have hfz34_0 := blk_frozen BK200.out 0; have hfz34_1 := blk_frozen BK200.out 1; have hfz34_2 := blk_frozen BK200.out 2; have hfz34_3 := blk_frozen BK200.out 3; have hfz34_4 := blk_frozen BK200.out 4; have hfz34_5 := blk_frozen BK200.out 5; have hfz34_6 := blk_frozen BK200.out 6; have hfz34_7 := blk_frozen BK200.out 7; have hfz34_8 := blk_frozen BK200.out 8))
              go_ret
              exact ⟨by first | rfl | (simp [errW_none, errW_some] <;> rfl) | (simp [*, errW_none, errW_some] <;> rfl), by repeat (first | (with_reducible first | exact HB.out | apply below_alloc | apply pw_below_drewN | apply below_drew1 | refine below_set ?_ GE199.out | refine below_set ?_ GE200.out) | exact HB.out)⟩
          · rw [if_neg c7] at H
            have c7b0 : (a0_4 == a1_4) = false := by simpa using c7
            (try (have c7b1 : decide (a0_4 = a1_4) = false := by simpa using c7))
            (try (have c7b2 : (a0_4 == a1_4) = false := by simpa using c7))
            (try (have c7b3 : ¬ (a0_4 = a1_4) := by simpa using c7))
            clear c7
            obtain rfl := Option.some.inj H
            go_enter Try.func10, Try.ntmps10
            go_wp2_with (first | ((with_reducible refine gate_dst (N := 2) rfl ?_); refine box_event ?hg (N := 2) ?hd (cs := #[.int .i64 a0_0, .int .i64 a0_1, .int .i64 a0_2, .int .i64 a0_3, .bool a0_4, .int .i64 a0_5, .slice A0_6 l0_6.length c0_6, .slice A0_7 l0_7.length c0_7, .slice A0_8 l0_8.length c0_8]) (t := 26) ?hr ?_; (case hd => rfl); (case hg => rfl); (case hr => first | (go_simp; done) | (go_simp; rfl)); intro gb199 hg w35 hbox hb; have n0_ := Aside0.mk (below_step (by repeat (first | (with_reducible first | exact HB.out | apply below_alloc | apply pw_below_drewN | apply below_drew1) | exact HB.out)) hb); have n1_ := Aside0.mk (hbox); have n2_ := Aside0.mk ((by rw [hg]; exact (below_size (by repeat (first | (with_reducible first | exact HB.out | apply below_alloc | apply pw_below_drewN | apply below_drew1) | exact HB.out))) : w.heap.size ≤ gb199)); have n3_ := Aside0.mk ((by rw [hg]; exact (below_size (by repeat (first | (with_reducible first | exact HB.out | apply below_alloc | apply pw_below_drewN | apply below_drew1) | exact HB.out))) : w.heap.size ≤ gb199)); clear HB; have HB := n0_; have BK199 := n1_; have GW199 := n2_; have GE199 := n3_; clear n0_ n1_ n2_ n3_; clear hb hbox hg) | ((with_reducible refine gate_dst (N := 3) rfl ?_); refine box_event ?hg (N := 3) ?hd (cs := #[.int .i64 a1_0, .int .i64 a1_1, .int .i64 a1_2, .int .i64 a1_3, .bool a1_4, .int .i64 a1_5, .slice A1_6 l1_6.length c1_6, .slice A1_7 l1_7.length c1_7, .slice A1_8 l1_8.length c1_8]) (t := 26) ?hr ?_; (case hd => rfl); (case hg => rfl); (case hr => first | (go_simp; done) | (go_simp; rfl)); intro gb200 hg w36 hbox hb; have n0_ := Aside0.mk (blk_below (g := gb199) (o := .cells #[.int .i64 a0_0, .int .i64 a0_1, .int .i64 a0_2, .int .i64 a0_3, .bool a0_4, .int .i64 a0_5, .slice A0_6 l0_6.length c0_6, .slice A0_7 l0_7.length c0_7, .slice A0_8 l0_8.length c0_8] 26 (0, 0)) (by (with_reducible repeat (first | refine blk_drewN ?_ _ | refine blk_drew ?_ | refine blk_alloc ?_ _)); exact BK199.out) hb); have n1_ := Aside0.mk (below_step (by repeat (first | (with_reducible first | exact HB.out | apply below_alloc | apply pw_below_drewN | apply below_drew1 | refine below_set ?_ GE199.out) | exact HB.out)) hb); have n2_ := Aside0.mk (hbox); have n3_ := Aside0.mk ((by rw [hg]; exact (below_size (by repeat (first | (with_reducible first | exact HB.out | apply below_alloc | apply pw_below_drewN | apply below_drew1 | refine below_set ?_ GE199.out) | exact HB.out))) : w.heap.size ≤ gb200)); have n4_ := Aside0.mk ((by rw [hg]; exact (below_size (by repeat (first | (with_reducible first | exact HB.out | apply below_alloc | apply pw_below_drewN | apply below_drew1 | refine below_set ?_ GE199.out) | exact HB.out))) : w.heap.size ≤ gb200)); have n5_ := Aside0.mk ((by rw [hg]; exact Nat.ne_of_lt (blk_lt (g := gb199) (o := .cells #[.int .i64 a0_0, .int .i64 a0_1, .int .i64 a0_2, .int .i64 a0_3, .bool a0_4, .int .i64 a0_5, .slice A0_6 l0_6.length c0_6, .slice A0_7 l0_7.length c0_7, .slice A0_8 l0_8.length c0_8] 26 (0, 0)) (by (with_reducible repeat (first | refine blk_drewN ?_ _ | refine blk_drew ?_ | refine blk_alloc ?_ _)); exact BK199.out)) : gb199 ≠ gb200)); have n6_ := Aside0.mk ((by rw [hg]; exact Nat.ne_of_gt (blk_lt (g := gb199) (o := .cells #[.int .i64 a0_0, .int .i64 a0_1, .int .i64 a0_2, .int .i64 a0_3, .bool a0_4, .int .i64 a0_5, .slice A0_6 l0_6.length c0_6, .slice A0_7 l0_7.length c0_7, .slice A0_8 l0_8.length c0_8] 26 (0, 0)) (by (with_reducible repeat (first | refine blk_drewN ?_ _ | refine blk_drew ?_ | refine blk_alloc ?_ _)); exact BK199.out)) : gb200 ≠ gb199)); clear BK199; clear HB; have BK199 := n0_; have HB := n1_; have BK200 := n2_; have GW200 := n3_; have GE200 := n4_; have NB199_200 := n5_; have NB200_199 := n6_; clear n0_ n1_ n2_ n3_ n4_ n5_ n6_; clear hb hbox hg; have hnb37 := NB199_200.out; have hnc37 := NB200_199.out; have hcz38_0 : w36.cell? ⟨gb199, 0, none⟩ = some (.int .i64 a0_0) := (blk_cell BK199.out 0).trans rfl; have hcz38_1 : w36.cell? ⟨gb199, 1, none⟩ = some (.int .i64 a0_1) := (blk_cell BK199.out 1).trans rfl; have hcz38_2 : w36.cell? ⟨gb199, 2, none⟩ = some (.int .i64 a0_2) := (blk_cell BK199.out 2).trans rfl; have hcz38_3 : w36.cell? ⟨gb199, 3, none⟩ = some (.int .i64 a0_3) := (blk_cell BK199.out 3).trans rfl; have hcz38_4 : w36.cell? ⟨gb199, 4, none⟩ = some (.bool a0_4) := (blk_cell BK199.out 4).trans rfl; have hcz38_5 : w36.cell? ⟨gb199, 5, none⟩ = some (.int .i64 a0_5) := (blk_cell BK199.out 5).trans rfl; have hcz38_6 : w36.cell? ⟨gb199, 6, none⟩ = some (.slice A0_6 l0_6.length c0_6) := (blk_cell BK199.out 6).trans rfl; have hcz38_7 : w36.cell? ⟨gb199, 7, none⟩ = some (.slice A0_7 l0_7.length c0_7) := (blk_cell BK199.out 7).trans rfl; have hcz38_8 : w36.cell? ⟨gb199, 8, none⟩ = some (.slice A0_8 l0_8.length c0_8) := (blk_cell BK199.out 8).trans rfl; have hfz38_0 := blk_frozen BK199.out 0; have hfz38_1 := blk_frozen BK199.out 1; have hfz38_2 := blk_frozen BK199.out 2; have hfz38_3 := blk_frozen BK199.out 3; have hfz38_4 := blk_frozen BK199.out 4; have hfz38_5 := blk_frozen BK199.out 5; have hfz38_6 := blk_frozen BK199.out 6; have hfz38_7 := blk_frozen BK199.out 7; have hfz38_8 := blk_frozen BK199.out 8; have hcz39_0 : w36.cell? ⟨gb200, 0, none⟩ = some (.int .i64 a1_0) := (blk_cell BK200.out 0).trans rfl; have hcz39_1 : w36.cell? ⟨gb200, 1, none⟩ = some (.int .i64 a1_1) := (blk_cell BK200.out 1).trans rfl; have hcz39_2 : w36.cell? ⟨gb200, 2, none⟩ = some (.int .i64 a1_2) := (blk_cell BK200.out 2).trans rfl; have hcz39_3 : w36.cell? ⟨gb200, 3, none⟩ = some (.int .i64 a1_3) := (blk_cell BK200.out 3).trans rfl; have hcz39_4 : w36.cell? ⟨gb200, 4, none⟩ = some (.bool a1_4) := (blk_cell BK200.out 4).trans rfl; have hcz39_5 : w36.cell? ⟨gb200, 5, none⟩ = some (.int .i64 a1_5) := (blk_cell BK200.out 5).trans rfl; have hcz39_6 : w36.cell? ⟨gb200, 6, none⟩ = some (.slice A1_6 l1_6.length c1_6) := (blk_cell BK200.out 6).trans rfl; have hcz39_7 : w36.cell? ⟨gb200, 7, none⟩ = some (.slice A1_7 l1_7.length c1_7) := (blk_cell BK200.out 7).trans rfl; have hcz39_8 : w36.cell? ⟨gb200, 8, none⟩ = some (.slice A1_8 l1_8.length c1_8) := (blk_cell BK200.out 8).trans rfl; have hfz39_0 := blk_frozen BK200.out 0; have hfz39_1 := blk_frozen BK200.out 1; have hfz39_2 := blk_frozen BK200.out 2; have hfz39_3 := blk_frozen BK200.out 3; have hfz39_4 := blk_frozen BK200.out 4; have hfz39_5 := blk_frozen BK200.out 5; have hfz39_6 := blk_frozen BK200.out 6; have hfz39_7 := blk_frozen BK200.out 7; have hfz39_8 := blk_frozen BK200.out 8))
            go_ret
            exact ⟨by first | rfl | (simp [errW_none, errW_some] <;> rfl) | (simp [*, errW_none, errW_some] <;> rfl), by repeat (first | (with_reducible first | exact HB.out | apply below_alloc | apply pw_below_drewN | apply below_drew1 | refine below_set ?_ GE199.out | refine below_set ?_ GE200.out) | exact HB.out)⟩
        · rw [if_neg c6] at H
          have c6b0 : (a0_3 == a1_3) = false := beq_eq_false_iff_ne.mpr c6
          have c6b1 : (a0_3 != a1_3) = true := bne_iff_ne.mpr c6
          obtain rfl := Option.some.inj H
          go_enter Try.func10, Try.ntmps10
          go_wp2_with (first | ((with_reducible refine gate_dst (N := 2) rfl ?_); refine box_event ?hg (N := 2) ?hd (cs := #[.int .i64 a0_0, .int .i64 a0_1, .int .i64 a0_2, .int .i64 a0_3, .bool a0_4, .int .i64 a0_5, .slice A0_6 l0_6.length c0_6, .slice A0_7 l0_7.length c0_7, .slice A0_8 l0_8.length c0_8]) (t := 26) ?hr ?_; (case hd => rfl); (case hg => rfl); (case hr => first | (go_simp; done) | (go_simp; rfl)); intro gb199 hg w40 hbox hb; have n0_ := Aside0.mk (below_step (by repeat (first | (with_reducible first | exact HB.out | apply below_alloc | apply pw_below_drewN | apply below_drew1) | exact HB.out)) hb); have n1_ := Aside0.mk (hbox); have n2_ := Aside0.mk ((by rw [hg]; exact (below_size (by repeat (first | (with_reducible first | exact HB.out | apply below_alloc | apply pw_below_drewN | apply below_drew1) | exact HB.out))) : w.heap.size ≤ gb199)); have n3_ := Aside0.mk ((by rw [hg]; exact (below_size (by repeat (first | (with_reducible first | exact HB.out | apply below_alloc | apply pw_below_drewN | apply below_drew1) | exact HB.out))) : w.heap.size ≤ gb199)); clear HB; have HB := n0_; have BK199 := n1_; have GW199 := n2_; have GE199 := n3_; clear n0_ n1_ n2_ n3_; clear hb hbox hg) | ((with_reducible refine gate_dst (N := 3) rfl ?_); refine box_event ?hg (N := 3) ?hd (cs := #[.int .i64 a1_0, .int .i64 a1_1, .int .i64 a1_2, .int .i64 a1_3, .bool a1_4, .int .i64 a1_5, .slice A1_6 l1_6.length c1_6, .slice A1_7 l1_7.length c1_7, .slice A1_8 l1_8.length c1_8]) (t := 26) ?hr ?_; (case hd => rfl); (case hg => rfl); (case hr => first | (go_simp; done) | (go_simp; rfl)); intro gb200 hg w41 hbox hb; have n0_ := Aside0.mk (blk_below (g := gb199) (o := .cells #[.int .i64 a0_0, .int .i64 a0_1, .int .i64 a0_2, .int .i64 a0_3, .bool a0_4, .int .i64 a0_5, .slice A0_6 l0_6.length c0_6, .slice A0_7 l0_7.length c0_7, .slice A0_8 l0_8.length c0_8] 26 (0, 0)) (by (with_reducible repeat (first | refine blk_drewN ?_ _ | refine blk_drew ?_ | refine blk_alloc ?_ _)); exact BK199.out) hb); have n1_ := Aside0.mk (below_step (by repeat (first | (with_reducible first | exact HB.out | apply below_alloc | apply pw_below_drewN | apply below_drew1 | refine below_set ?_ GE199.out) | exact HB.out)) hb); have n2_ := Aside0.mk (hbox); have n3_ := Aside0.mk ((by rw [hg]; exact (below_size (by repeat (first | (with_reducible first | exact HB.out | apply below_alloc | apply pw_below_drewN | apply below_drew1 | refine below_set ?_ GE199.out) | exact HB.out))) : w.heap.size ≤ gb200)); have n4_ := Aside0.mk ((by rw [hg]; exact (below_size (by repeat (first | (with_reducible first | exact HB.out | apply below_alloc | apply pw_below_drewN | apply below_drew1 | refine below_set ?_ GE199.out) | exact HB.out))) : w.heap.size ≤ gb200)); have n5_ := Aside0.mk ((by rw [hg]; exact Nat.ne_of_lt (blk_lt (g := gb199) (o := .cells #[.int .i64 a0_0, .int .i64 a0_1, .int .i64 a0_2, .int .i64 a0_3, .bool a0_4, .int .i64 a0_5, .slice A0_6 l0_6.length c0_6, .slice A0_7 l0_7.length c0_7, .slice A0_8 l0_8.length c0_8] 26 (0, 0)) (by (with_reducible repeat (first | refine blk_drewN ?_ _ | refine blk_drew ?_ | refine blk_alloc ?_ _)); exact BK199.out)) : gb199 ≠ gb200)); have n6_ := Aside0.mk ((by rw [hg]; exact Nat.ne_of_gt (blk_lt (g := gb199) (o := .cells #[.int .i64 a0_0, .int .i64 a0_1, .int .i64 a0_2, .int .i64 a0_3, .bool a0_4, .int .i64 a0_5, .slice A0_6 l0_6.length c0_6, .slice A0_7 l0_7.length c0_7, .slice A0_8 l0_8.length c0_8] 26 (0, 0)) (by (with_reducible repeat (first | refine blk_drewN ?_ _ | refine blk_drew ?_ | refine blk_alloc ?_ _)); exact BK199.out)) : gb200 ≠ gb199)); clear BK199; clear HB; have BK199 := n0_; have HB := n1_; have BK200 := n2_; have GW200 := n3_; have GE200 := n4_; have NB199_200 := n5_; have NB200_199 := n6_; clear n0_ n1_ n2_ n3_ n4_ n5_ n6_; clear hb hbox hg; have hnb42 := NB199_200.out; have hnc42 := NB200_199.out; have hcz43_0 : w41.cell? ⟨gb199, 0, none⟩ = some (.int .i64 a0_0) := (blk_cell BK199.out 0).trans rfl; have hcz43_1 : w41.cell? ⟨gb199, 1, none⟩ = some (.int .i64 a0_1) := (blk_cell BK199.out 1).trans rfl; have hcz43_2 : w41.cell? ⟨gb199, 2, none⟩ = some (.int .i64 a0_2) := (blk_cell BK199.out 2).trans rfl; have hcz43_3 : w41.cell? ⟨gb199, 3, none⟩ = some (.int .i64 a0_3) := (blk_cell BK199.out 3).trans rfl; have hcz43_4 : w41.cell? ⟨gb199, 4, none⟩ = some (.bool a0_4) := (blk_cell BK199.out 4).trans rfl; have hcz43_5 : w41.cell? ⟨gb199, 5, none⟩ = some (.int .i64 a0_5) := (blk_cell BK199.out 5).trans rfl; have hcz43_6 : w41.cell? ⟨gb199, 6, none⟩ = some (.slice A0_6 l0_6.length c0_6) := (blk_cell BK199.out 6).trans rfl; have hcz43_7 : w41.cell? ⟨gb199, 7, none⟩ = some (.slice A0_7 l0_7.length c0_7) := (blk_cell BK199.out 7).trans rfl; have hcz43_8 : w41.cell? ⟨gb199, 8, none⟩ = some (.slice A0_8 l0_8.length c0_8) := (blk_cell BK199.out 8).trans rfl; have hfz43_0 := blk_frozen BK199.out 0; have hfz43_1 := blk_frozen BK199.out 1; have hfz43_2 := blk_frozen BK199.out 2; have hfz43_3 := blk_frozen BK199.out 3; have hfz43_4 := blk_frozen BK199.out 4; have hfz43_5 := blk_frozen BK199.out 5; have hfz43_6 := blk_frozen BK199.out 6; have hfz43_7 := blk_frozen BK199.out 7; have hfz43_8 := blk_frozen BK199.out 8; have hcz44_0 : w41.cell? ⟨gb200, 0, none⟩ = some (.int .i64 a1_0) := (blk_cell BK200.out 0).trans rfl; have hcz44_1 : w41.cell? ⟨gb200, 1, none⟩ = some (.int .i64 a1_1) := (blk_cell BK200.out 1).trans rfl; have hcz44_2 : w41.cell? ⟨gb200, 2, none⟩ = some (.int .i64 a1_2) := (blk_cell BK200.out 2).trans rfl; have hcz44_3 : w41.cell? ⟨gb200, 3, none⟩ = some (.int .i64 a1_3) := (blk_cell BK200.out 3).trans rfl; have hcz44_4 : w41.cell? ⟨gb200, 4, none⟩ = some (.bool a1_4) := (blk_cell BK200.out 4).trans rfl; have hcz44_5 : w41.cell? ⟨gb200, 5, none⟩ = some (.int .i64 a1_5) := (blk_cell BK200.out 5).trans rfl; have hcz44_6 : w41.cell? ⟨gb200, 6, none⟩ = some (.slice A1_6 l1_6.length c1_6) := (blk_cell BK200.out 6).trans rfl; have hcz44_7 : w41.cell? ⟨gb200, 7, none⟩ = some (.slice A1_7 l1_7.length c1_7) := (blk_cell BK200.out 7).trans rfl; have hcz44_8 : w41.cell? ⟨gb200, 8, none⟩ = some (.slice A1_8 l1_8.length c1_8) := (blk_cell BK200.out 8).trans rfl; have hfz44_0 := blk_frozen BK200.out 0; have hfz44_1 := blk_frozen BK200.out 1; have hfz44_2 := blk_frozen BK200.out 2; have hfz44_3 := blk_frozen BK200.out 3; have hfz44_4 := blk_frozen BK200.out 4; have hfz44_5 := blk_frozen BK200.out 5; have hfz44_6 := blk_frozen BK200.out 6; have hfz44_7 := blk_frozen BK200.out 7; have hfz44_8 := blk_frozen BK200.out 8))
          go_ret
          exact ⟨by first | rfl | (simp [errW_none, errW_some] <;> rfl) | (simp [*, errW_none, errW_some] <;> rfl), by repeat (first | (with_reducible first | exact HB.out | apply below_alloc | apply pw_below_drewN | apply below_drew1 | refine below_set ?_ GE199.out | refine below_set ?_ GE200.out) | exact HB.out)⟩
      · rw [if_neg c5] at H
        have c5b0 : (a0_2 == a1_2) = false := beq_eq_false_iff_ne.mpr c5
        have c5b1 : (a0_2 != a1_2) = true := bne_iff_ne.mpr c5
        obtain rfl := Option.some.inj H
        go_enter Try.func10, Try.ntmps10
        go_wp2_with (first | ((with_reducible refine gate_dst (N := 2) rfl ?_); refine box_event ?hg (N := 2) ?hd (cs := #[.int .i64 a0_0, .int .i64 a0_1, .int .i64 a0_2, .int .i64 a0_3, .bool a0_4, .int .i64 a0_5, .slice A0_6 l0_6.length c0_6, .slice A0_7 l0_7.length c0_7, .slice A0_8 l0_8.length c0_8]) (t := 26) ?hr ?_; (case hd => rfl); (case hg => rfl); (case hr => first | (go_simp; done) | (go_simp; rfl)); intro gb199 hg w45 hbox hb; have n0_ := Aside0.mk (below_step (by repeat (first | (with_reducible first | exact HB.out | apply below_alloc | apply pw_below_drewN | apply below_drew1) | exact HB.out)) hb); have n1_ := Aside0.mk (hbox); have n2_ := Aside0.mk ((by rw [hg]; exact (below_size (by repeat (first | (with_reducible first | exact HB.out | apply below_alloc | apply pw_below_drewN | apply below_drew1) | exact HB.out))) : w.heap.size ≤ gb199)); have n3_ := Aside0.mk ((by rw [hg]; exact (below_size (by repeat (first | (with_reducible first | exact HB.out | apply below_alloc | apply pw_below_drewN | apply below_drew1) | exact HB.out))) : w.heap.size ≤ gb199)); clear HB; have HB := n0_; have BK199 := n1_; have GW199 := n2_; have GE199 := n3_; clear n0_ n1_ n2_ n3_; clear hb hbox hg) | ((with_reducible refine gate_dst (N := 3) rfl ?_); refine box_event ?hg (N := 3) ?hd (cs := #[.int .i64 a1_0, .int .i64 a1_1, .int .i64 a1_2, .int .i64 a1_3, .bool a1_4, .int .i64 a1_5, .slice A1_6 l1_6.length c1_6, .slice A1_7 l1_7.length c1_7, .slice A1_8 l1_8.length c1_8]) (t := 26) ?hr ?_; (case hd => rfl); (case hg => rfl); (case hr => first | (go_simp; done) | (go_simp; rfl)); intro gb200 hg w46 hbox hb; have n0_ := Aside0.mk (blk_below (g := gb199) (o := .cells #[.int .i64 a0_0, .int .i64 a0_1, .int .i64 a0_2, .int .i64 a0_3, .bool a0_4, .int .i64 a0_5, .slice A0_6 l0_6.length c0_6, .slice A0_7 l0_7.length c0_7, .slice A0_8 l0_8.length c0_8] 26 (0, 0)) (by (with_reducible repeat (first | refine blk_drewN ?_ _ | refine blk_drew ?_ | refine blk_alloc ?_ _)); exact BK199.out) hb); have n1_ := Aside0.mk (below_step (by repeat (first | (with_reducible first | exact HB.out | apply below_alloc | apply pw_below_drewN | apply below_drew1 | refine below_set ?_ GE199.out) | exact HB.out)) hb); have n2_ := Aside0.mk (hbox); have n3_ := Aside0.mk ((by rw [hg]; exact (below_size (by repeat (first | (with_reducible first | exact HB.out | apply below_alloc | apply pw_below_drewN | apply below_drew1 | refine below_set ?_ GE199.out) | exact HB.out))) : w.heap.size ≤ gb200)); have n4_ := Aside0.mk ((by rw [hg]; exact (below_size (by repeat (first | (with_reducible first | exact HB.out | apply below_alloc | apply pw_below_drewN | apply below_drew1 | refine below_set ?_ GE199.out) | exact HB.out))) : w.heap.size ≤ gb200)); have n5_ := Aside0.mk ((by rw [hg]; exact Nat.ne_of_lt (blk_lt (g := gb199) (o := .cells #[.int .i64 a0_0, .int .i64 a0_1, .int .i64 a0_2, .int .i64 a0_3, .bool a0_4, .int .i64 a0_5, .slice A0_6 l0_6.length c0_6, .slice A0_7 l0_7.length c0_7, .slice A0_8 l0_8.length c0_8] 26 (0, 0)) (by (with_reducible repeat (first | refine blk_drewN ?_ _ | refine blk_drew ?_ | refine blk_alloc ?_ _)); exact BK199.out)) : gb199 ≠ gb200)); have n6_ := Aside0.mk ((by rw [hg]; exact Nat.ne_of_gt (blk_lt (g := gb199) (o := .cells #[.int .i64 a0_0, .int .i64 a0_1, .int .i64 a0_2, .int .i64 a0_3, .bool a0_4, .int .i64 a0_5, .slice A0_6 l0_6.length c0_6, .slice A0_7 l0_7.length c0_7, .slice A0_8 l0_8.length c0_8] 26 (0, 0)) (by (with_reducible repeat (first | refine blk_drewN ?_ _ | refine blk_drew ?_ | refine blk_alloc ?_ _)); exact BK199.out)) : gb200 ≠ gb199)); clear BK199; clear HB; have BK199 := n0_; have HB := n1_; have BK200 := n2_; have GW200 := n3_; have GE200 := n4_; have NB199_200 := n5_; have NB200_199 := n6_; clear n0_ n1_ n2_ n3_ n4_ n5_ n6_; clear hb hbox hg; have hnb47 := NB199_200.out; have hnc47 := NB200_199.out; have hcz48_0 : w46.cell? ⟨gb199, 0, none⟩ = some (.int .i64 a0_0) := (blk_cell BK199.out 0).trans rfl; have hcz48_1 : w46.cell? ⟨gb199, 1, none⟩ = some (.int .i64 a0_1) := (blk_cell BK199.out 1).trans rfl; have hcz48_2 : w46.cell? ⟨gb199, 2, none⟩ = some (.int .i64 a0_2) := (blk_cell BK199.out 2).trans rfl; have hcz48_3 : w46.cell? ⟨gb199, 3, none⟩ = some (.int .i64 a0_3) := (blk_cell BK199.out 3).trans rfl; have hcz48_4 : w46.cell? ⟨gb199, 4, none⟩ = some (.bool a0_4) := (blk_cell BK199.out 4).trans rfl; have hcz48_5 : w46.cell? ⟨gb199, 5, none⟩ = some (.int .i64 a0_5) := (blk_cell BK199.out 5).trans rfl; have hcz48_6 : w46.cell? ⟨gb199, 6, none⟩ = some (.slice A0_6 l0_6.length c0_6) := (blk_cell BK199.out 6).trans rfl; have hcz48_7 : w46.cell? ⟨gb199, 7, none⟩ = some (.slice A0_7 l0_7.length c0_7) := (blk_cell BK199.out 7).trans rfl; have hcz48_8 : w46.cell? ⟨gb199, 8, none⟩ = some (.slice A0_8 l0_8.length c0_8) := (blk_cell BK199.out 8).trans rfl; have hfz48_0 := blk_frozen BK199.out 0; have hfz48_1 := blk_frozen BK199.out 1; have hfz48_2 := blk_frozen BK199.out 2; have hfz48_3 := blk_frozen BK199.out 3; have hfz48_4 := blk_frozen BK199.out 4; have hfz48_5 := blk_frozen BK199.out 5; have hfz48_6 := blk_frozen BK199.out 6; have hfz48_7 := blk_frozen BK199.out 7; have hfz48_8 := blk_frozen BK199.out 8; have hcz49_0 : w46.cell? ⟨gb200, 0, none⟩ = some (.int .i64 a1_0) := (blk_cell BK200.out 0).trans rfl; have hcz49_1 : w46.cell? ⟨gb200, 1, none⟩ = some (.int .i64 a1_1) := (blk_cell BK200.out 1).trans rfl; have hcz49_2 : w46.cell? ⟨gb200, 2, none⟩ = some (.int .i64 a1_2) := (blk_cell BK200.out 2).trans rfl; have hcz49_3 : w46.cell? ⟨gb200, 3, none⟩ = some (.int .i64 a1_3) := (blk_cell BK200.out 3).trans rfl; have hcz49_4 : w46.cell? ⟨gb200, 4, none⟩ = some (.bool a1_4) := (blk_cell BK200.out 4).trans rfl; have hcz49_5 : w46.cell? ⟨gb200, 5, none⟩ = some (.int .i64 a1_5) := (blk_cell BK200.out 5).trans rfl; have hcz49_6 : w46.cell? ⟨gb200, 6, none⟩ = some (.slice A1_6 l1_6.length c1_6) := (blk_cell BK200.out 6).trans rfl; have hcz49_7 : w46.cell? ⟨gb200, 7, none⟩ = some (.slice A1_7 l1_7.length c1_7) := (blk_cell BK200.out 7).trans rfl; have hcz49_8 : w46.cell? ⟨gb200, 8, none⟩ = some (.slice A1_8 l1_8.length c1_8) := (blk_cell BK200.out 8).trans rfl; have hfz49_0 := blk_frozen BK200.out 0; have hfz49_1 := blk_frozen BK200.out 1; have hfz49_2 := blk_frozen BK200.out 2; have hfz49_3 := blk_frozen BK200.out 3; have hfz49_4 := blk_frozen BK200.out 4; have hfz49_5 := blk_frozen BK200.out 5; have hfz49_6 := blk_frozen BK200.out 6; have hfz49_7 := blk_frozen BK200.out 7; have hfz49_8 := blk_frozen BK200.out 8))
        go_ret
        exact ⟨by first | rfl | (simp [errW_none, errW_some] <;> rfl) | (simp [*, errW_none, errW_some] <;> rfl), by repeat (first | (with_reducible first | exact HB.out | apply below_alloc | apply pw_below_drewN | apply below_drew1 | refine below_set ?_ GE199.out | refine below_set ?_ GE200.out) | exact HB.out)⟩
    · rw [if_neg c4] at H
      have c4b0 : (a0_1 == a1_1) = false := beq_eq_false_iff_ne.mpr c4
      have c4b1 : (a0_1 != a1_1) = true := bne_iff_ne.mpr c4
      obtain rfl := Option.some.inj H
      go_enter Try.func10, Try.ntmps10
      go_wp2_with (first | ((with_reducible refine gate_dst (N := 2) rfl ?_); refine box_event ?hg (N := 2) ?hd (cs := #[.int .i64 a0_0, .int .i64 a0_1, .int .i64 a0_2, .int .i64 a0_3, .bool a0_4, .int .i64 a0_5, .slice A0_6 l0_6.length c0_6, .slice A0_7 l0_7.length c0_7, .slice A0_8 l0_8.length c0_8]) (t := 26) ?hr ?_; (case hd => rfl); (case hg => rfl); (case hr => first | (go_simp; done) | (go_simp; rfl)); intro gb199 hg w50 hbox hb; have n0_ := Aside0.mk (below_step (by repeat (first | (with_reducible first | exact HB.out | apply below_alloc | apply pw_below_drewN | apply below_drew1) | exact HB.out)) hb); have n1_ := Aside0.mk (hbox); have n2_ := Aside0.mk ((by rw [hg]; exact (below_size (by repeat (first | (with_reducible first | exact HB.out | apply below_alloc | apply pw_below_drewN | apply below_drew1) | exact HB.out))) : w.heap.size ≤ gb199)); have n3_ := Aside0.mk ((by rw [hg]; exact (below_size (by repeat (first | (with_reducible first | exact HB.out | apply below_alloc | apply pw_below_drewN | apply below_drew1) | exact HB.out))) : w.heap.size ≤ gb199)); clear HB; have HB := n0_; have BK199 := n1_; have GW199 := n2_; have GE199 := n3_; clear n0_ n1_ n2_ n3_; clear hb hbox hg) | ((with_reducible refine gate_dst (N := 3) rfl ?_); refine box_event ?hg (N := 3) ?hd (cs := #[.int .i64 a1_0, .int .i64 a1_1, .int .i64 a1_2, .int .i64 a1_3, .bool a1_4, .int .i64 a1_5, .slice A1_6 l1_6.length c1_6, .slice A1_7 l1_7.length c1_7, .slice A1_8 l1_8.length c1_8]) (t := 26) ?hr ?_; (case hd => rfl); (case hg => rfl); (case hr => first | (go_simp; done) | (go_simp; rfl)); intro gb200 hg w51 hbox hb; have n0_ := Aside0.mk (blk_below (g := gb199) (o := .cells #[.int .i64 a0_0, .int .i64 a0_1, .int .i64 a0_2, .int .i64 a0_3, .bool a0_4, .int .i64 a0_5, .slice A0_6 l0_6.length c0_6, .slice A0_7 l0_7.length c0_7, .slice A0_8 l0_8.length c0_8] 26 (0, 0)) (by (with_reducible repeat (first | refine blk_drewN ?_ _ | refine blk_drew ?_ | refine blk_alloc ?_ _)); exact BK199.out) hb); have n1_ := Aside0.mk (below_step (by repeat (first | (with_reducible first | exact HB.out | apply below_alloc | apply pw_below_drewN | apply below_drew1 | refine below_set ?_ GE199.out) | exact HB.out)) hb); have n2_ := Aside0.mk (hbox); have n3_ := Aside0.mk ((by rw [hg]; exact (below_size (by repeat (first | (with_reducible first | exact HB.out | apply below_alloc | apply pw_below_drewN | apply below_drew1 | refine below_set ?_ GE199.out) | exact HB.out))) : w.heap.size ≤ gb200)); have n4_ := Aside0.mk ((by rw [hg]; exact (below_size (by repeat (first | (with_reducible first | exact HB.out | apply below_alloc | apply pw_below_drewN | apply below_drew1 | refine below_set ?_ GE199.out) | exact HB.out))) : w.heap.size ≤ gb200)); have n5_ := Aside0.mk ((by rw [hg]; exact Nat.ne_of_lt (blk_lt (g := gb199) (o := .cells #[.int .i64 a0_0, .int .i64 a0_1, .int .i64 a0_2, .int .i64 a0_3, .bool a0_4, .int .i64 a0_5, .slice A0_6 l0_6.length c0_6, .slice A0_7 l0_7.length c0_7, .slice A0_8 l0_8.length c0_8] 26 (0, 0)) (by (with_reducible repeat (first | refine blk_drewN ?_ _ | refine blk_drew ?_ | refine blk_alloc ?_ _)); exact BK199.out)) : gb199 ≠ gb200)); have n6_ := Aside0.mk ((by rw [hg]; exact Nat.ne_of_gt (blk_lt (g := gb199) (o := .cells #[.int .i64 a0_0, .int .i64 a0_1, .int .i64 a0_2, .int .i64 a0_3, .bool a0_4, .int .i64 a0_5, .slice A0_6 l0_6.length c0_6, .slice A0_7 l0_7.length c0_7, .slice A0_8 l0_8.length c0_8] 26 (0, 0)) (by (with_reducible repeat (first | refine blk_drewN ?_ _ | refine blk_drew ?_ | refine blk_alloc ?_ _)); exact BK199.out)) : gb200 ≠ gb199)); clear BK199; clear HB; have BK199 := n0_; have HB := n1_; have BK200 := n2_; have GW200 := n3_; have GE200 := n4_; have NB199_200 := n5_; have NB200_199 := n6_; clear n0_ n1_ n2_ n3_ n4_ n5_ n6_; clear hb hbox hg; have hnb52 := NB199_200.out; have hnc52 := NB200_199.out; have hcz53_0 : w51.cell? ⟨gb199, 0, none⟩ = some (.int .i64 a0_0) := (blk_cell BK199.out 0).trans rfl; have hcz53_1 : w51.cell? ⟨gb199, 1, none⟩ = some (.int .i64 a0_1) := (blk_cell BK199.out 1).trans rfl; have hcz53_2 : w51.cell? ⟨gb199, 2, none⟩ = some (.int .i64 a0_2) := (blk_cell BK199.out 2).trans rfl; have hcz53_3 : w51.cell? ⟨gb199, 3, none⟩ = some (.int .i64 a0_3) := (blk_cell BK199.out 3).trans rfl; have hcz53_4 : w51.cell? ⟨gb199, 4, none⟩ = some (.bool a0_4) := (blk_cell BK199.out 4).trans rfl; have hcz53_5 : w51.cell? ⟨gb199, 5, none⟩ = some (.int .i64 a0_5) := (blk_cell BK199.out 5).trans rfl; have hcz53_6 : w51.cell? ⟨gb199, 6, none⟩ = some (.slice A0_6 l0_6.length c0_6) := (blk_cell BK199.out 6).trans rfl; have hcz53_7 : w51.cell? ⟨gb199, 7, none⟩ = some (.slice A0_7 l0_7.length c0_7) := (blk_cell BK199.out 7).trans rfl; have hcz53_8 : w51.cell? ⟨gb199, 8, none⟩ = some (.slice A0_8 l0_8.length c0_8) := (blk_cell BK199.out 8).trans rfl; have hfz53_0 := blk_frozen BK199.out 0; have hfz53_1 := blk_frozen BK199.out 1; have hfz53_2 := blk_frozen BK199.out 2; have hfz53_3 := blk_frozen BK199.out 3; have hfz53_4 := blk_frozen BK199.out 4; have hfz53_5 := blk_frozen BK199.out 5; have hfz53_6 := blk_frozen BK199.out 6; have hfz53_7 := blk_frozen BK199.out 7; have hfz53_8 := blk_frozen BK199.out 8; have hcz54_0 : w51.cell? ⟨gb200, 0, none⟩ = some (.int .i64 a1_0) := (blk_cell BK200.out 0).trans rfl; have hcz54_1 : w51.cell? ⟨gb200, 1, none⟩ = some (.int .i64 a1_1) := (blk_cell BK200.out 1).trans rfl; have hcz54_2 : w51.cell? ⟨gb200, 2, none⟩ = some (.int .i64 a1_2) := (blk_cell BK200.out 2).trans rfl; have hcz54_3 : w51.cell? ⟨gb200, 3, none⟩ = some (.int .i64 a1_3) := (blk_cell BK200.out 3).trans rfl; have hcz54_4 : w51.cell? ⟨gb200, 4, none⟩ = some (.bool a1_4) := (blk_cell BK200.out 4).trans rfl; have hcz54_5 : w51.cell? ⟨gb200, 5, none⟩ = some (.int .i64 a1_5) := (blk_cell BK200.out 5).trans rfl; have hcz54_6 : w51.cell? ⟨gb200, 6, none⟩ = some (.slice A1_6 l1_6.length c1_6) := (blk_cell BK200.out 6).trans rfl; have hcz54_7 : w51.cell? ⟨gb200, 7, none⟩ = some (.slice A1_7 l1_7.length c1_7) := (blk_cell BK200.out 7).trans rfl; have hcz54_8 : w51.cell? ⟨gb200, 8, none⟩ = some (.slice A1_8 l1_8.length c1_8) := (blk_cell BK200.out 8).trans rfl; have hfz54_0 := blk_frozen BK200.out 0; have hfz54_1 := blk_frozen BK200.out 1; have hfz54_2 := blk_frozen BK200.out 2; have hfz54_3 := blk_frozen BK200.out 3; have hfz54_4 := blk_frozen BK200.out 4; have hfz54_5 := blk_frozen BK200.out 5; have hfz54_6 := blk_frozen BK200.out 6; have hfz54_7 := blk_frozen BK200.out 7; have hfz54_8 := blk_frozen BK200.out 8))
      go_ret
      exact ⟨by first | rfl | (simp [errW_none, errW_some] <;> rfl) | (simp [*, errW_none, errW_some] <;> rfl), by repeat (first | (with_reducible first | exact HB.out | apply below_alloc | apply pw_below_drewN | apply below_drew1 | refine below_set ?_ GE199.out | refine below_set ?_ GE200.out) | exact HB.out)⟩
  · rw [if_neg c3] at H
    have c3b0 : (a0_0 == a1_0) = false := beq_eq_false_iff_ne.mpr c3
    have c3b1 : (a0_0 != a1_0) = true := bne_iff_ne.mpr c3
    obtain rfl := Option.some.inj H
    go_enter Try.func10, Try.ntmps10
    go_wp2_with (first | ((with_reducible refine gate_dst (N := 2) rfl ?_); refine box_event ?hg (N := 2) ?hd (cs := #[.int .i64 a0_0, .int .i64 a0_1, .int .i64 a0_2, .int .i64 a0_3, .bool a0_4, .int .i64 a0_5, .slice A0_6 l0_6.length c0_6, .slice A0_7 l0_7.length c0_7, .slice A0_8 l0_8.length c0_8]) (t := 26) ?hr ?_; (case hd => rfl); (case hg => rfl); (case hr => first | (go_simp; done) | (go_simp; rfl)); intro gb199 hg w55 hbox hb; have n0_ := Aside0.mk (below_step (by repeat (first | (with_reducible first | exact HB.out | apply below_alloc | apply pw_below_drewN | apply below_drew1) | exact HB.out)) hb); have n1_ := Aside0.mk (hbox); have n2_ := Aside0.mk ((by rw [hg]; exact (below_size (by repeat (first | (with_reducible first | exact HB.out | apply below_alloc | apply pw_below_drewN | apply below_drew1) | exact HB.out))) : w.heap.size ≤ gb199)); have n3_ := Aside0.mk ((by rw [hg]; exact (below_size (by repeat (first | (with_reducible first | exact HB.out | apply below_alloc | apply pw_below_drewN | apply below_drew1) | exact HB.out))) : w.heap.size ≤ gb199)); clear HB; have HB := n0_; have BK199 := n1_; have GW199 := n2_; have GE199 := n3_; clear n0_ n1_ n2_ n3_; clear hb hbox hg) | ((with_reducible refine gate_dst (N := 3) rfl ?_); refine box_event ?hg (N := 3) ?hd (cs := #[.int .i64 a1_0, .int .i64 a1_1, .int .i64 a1_2, .int .i64 a1_3, .bool a1_4, .int .i64 a1_5, .slice A1_6 l1_6.length c1_6, .slice A1_7 l1_7.length c1_7, .slice A1_8 l1_8.length c1_8]) (t := 26) ?hr ?_; (case hd => rfl); (case hg => rfl); (case hr => first | (go_simp; done) | (go_simp; rfl)); intro gb200 hg w56 hbox hb; have n0_ := Aside0.mk (blk_below (g := gb199) (o := .cells #[.int .i64 a0_0, .int .i64 a0_1, .int .i64 a0_2, .int .i64 a0_3, .bool a0_4, .int .i64 a0_5, .slice A0_6 l0_6.length c0_6, .slice A0_7 l0_7.length c0_7, .slice A0_8 l0_8.length c0_8] 26 (0, 0)) (by (with_reducible repeat (first | refine blk_drewN ?_ _ | refine blk_drew ?_ | refine blk_alloc ?_ _)); exact BK199.out) hb); have n1_ := Aside0.mk (below_step (by repeat (first | (with_reducible first | exact HB.out | apply below_alloc | apply pw_below_drewN | apply below_drew1 | refine below_set ?_ GE199.out) | exact HB.out)) hb); have n2_ := Aside0.mk (hbox); have n3_ := Aside0.mk ((by rw [hg]; exact (below_size (by repeat (first | (with_reducible first | exact HB.out | apply below_alloc | apply pw_below_drewN | apply below_drew1 | refine below_set ?_ GE199.out) | exact HB.out))) : w.heap.size ≤ gb200)); have n4_ := Aside0.mk ((by rw [hg]; exact (below_size (by repeat (first | (with_reducible first | exact HB.out | apply below_alloc | apply pw_below_drewN | apply below_drew1 | refine below_set ?_ GE199.out) | exact HB.out))) : w.heap.size ≤ gb200)); have n5_ := Aside0.mk ((by rw [hg]; exact Nat.ne_of_lt (blk_lt (g := gb199) (o := .cells #[.int .i64 a0_0, .int .i64 a0_1, .int .i64 a0_2, .int .i64 a0_3, .bool a0_4, .int .i64 a0_5, .slice A0_6 l0_6.length c0_6, .slice A0_7 l0_7.length c0_7, .slice A0_8 l0_8.length c0_8] 26 (0, 0)) (by (with_reducible repeat (first | refine blk_drewN ?_ _ | refine blk_drew ?_ | refine blk_alloc ?_ _)); exact BK199.out)) : gb199 ≠ gb200)); have n6_ := Aside0.mk ((by rw [hg]; exact Nat.ne_of_gt (blk_lt (g := gb199) (o := .cells #[.int .i64 a0_0, .int .i64 a0_1, .int .i64 a0_2, .int .i64 a0_3, .bool a0_4, .int .i64 a0_5, .slice A0_6 l0_6.length c0_6, .slice A0_7 l0_7.length c0_7, .slice A0_8 l0_8.length c0_8] 26 (0, 0)) (by (with_reducible repeat (first | refine blk_drewN ?_ _ | refine blk_drew ?_ | refine blk_alloc ?_ _)); exact BK199.out)) : gb200 ≠ gb199)); clear BK199; clear HB; have BK199 := n0_; have HB := n1_; have BK200 := n2_; have GW200 := n3_; have GE200 := n4_; have NB199_200 := n5_; have NB200_199 := n6_; clear n0_ n1_ n2_ n3_ n4_ n5_ n6_; clear hb hbox hg; have hnb57 := NB199_200.out; have hnc57 := NB200_199.out; have hcz58_0 : w56.cell? ⟨gb199, 0, none⟩ = some (.int .i64 a0_0) := (blk_cell BK199.out 0).trans rfl; have hcz58_1 : w56.cell? ⟨gb199, 1, none⟩ = some (.int .i64 a0_1) := (blk_cell BK199.out 1).trans rfl; have hcz58_2 : w56.cell? ⟨gb199, 2, none⟩ = some (.int .i64 a0_2) := (blk_cell BK199.out 2).trans rfl; have hcz58_3 : w56.cell? ⟨gb199, 3, none⟩ = some (.int .i64 a0_3) := (blk_cell BK199.out 3).trans rfl; have hcz58_4 : w56.cell? ⟨gb199, 4, none⟩ = some (.bool a0_4) := (blk_cell BK199.out 4).trans rfl; have hcz58_5 : w56.cell? ⟨gb199, 5, none⟩ = some (.int .i64 a0_5) := (blk_cell BK199.out 5).trans rfl; have hcz58_6 : w56.cell? ⟨gb199, 6, none⟩ = some (.slice A0_6 l0_6.length c0_6) := (blk_cell BK199.out 6).trans rfl; have hcz58_7 : w56.cell? ⟨gb199, 7, none⟩ = some (.slice A0_7 l0_7.length c0_7) := (blk_cell BK199.out 7).trans rfl; have hcz58_8 : w56.cell? ⟨gb199, 8, none⟩ = some (.slice A0_8 l0_8.length c0_8) := (blk_cell BK199.out 8).trans rfl; have hfz58_0 := blk_frozen BK199.out 0; have hfz58_1 := blk_frozen BK199.out 1; have hfz58_2 := blk_frozen BK199.out 2; have hfz58_3 := blk_frozen BK199.out 3; have hfz58_4 := blk_frozen BK199.out 4; have hfz58_5 := blk_frozen BK199.out 5; have hfz58_6 := blk_frozen BK199.out 6; have hfz58_7 := blk_frozen BK199.out 7; have hfz58_8 := blk_frozen BK199.out 8; have hcz59_0 : w56.cell? ⟨gb200, 0, none⟩ = some (.int .i64 a1_0) := (blk_cell BK200.out 0).trans rfl; have hcz59_1 : w56.cell? ⟨gb200, 1, none⟩ = some (.int .i64 a1_1) := (blk_cell BK200.out 1).trans rfl; have hcz59_2 : w56.cell? ⟨gb200, 2, none⟩ = some (.int .i64 a1_2) := (blk_cell BK200.out 2).trans rfl; have hcz59_3 : w56.cell? ⟨gb200, 3, none⟩ = some (.int .i64 a1_3) := (blk_cell BK200.out 3).trans rfl; have hcz59_4 : w56.cell? ⟨gb200, 4, none⟩ = some (.bool a1_4) := (blk_cell BK200.out 4).trans rfl; have hcz59_5 : w56.cell? ⟨gb200, 5, none⟩ = some (.int .i64 a1_5) := (blk_cell BK200.out 5).trans rfl; have hcz59_6 : w56.cell? ⟨gb200, 6, none⟩ = some (.slice A1_6 l1_6.length c1_6) := (blk_cell BK200.out 6).trans rfl; have hcz59_7 : w56.cell? ⟨gb200, 7, none⟩ = some (.slice A1_7 l1_7.length c1_7) := (blk_cell BK200.out 7).trans rfl; have hcz59_8 : w56.cell? ⟨gb200, 8, none⟩ = some (.slice A1_8 l1_8.length c1_8) := (blk_cell BK200.out 8).trans rfl; have hfz59_0 := blk_frozen BK200.out 0; have hfz59_1 := blk_frozen BK200.out 1; have hfz59_2 := blk_frozen BK200.out 2; have hfz59_3 := blk_frozen BK200.out 3; have hfz59_4 := blk_frozen BK200.out 4; have hfz59_5 := blk_frozen BK200.out 5; have hfz59_6 := blk_frozen BK200.out 6; have hfz59_7 := blk_frozen BK200.out 7; have hfz59_8 := blk_frozen BK200.out 8))
    go_ret
    exact ⟨by first | rfl | (simp [errW_none, errW_some] <;> rfl) | (simp [*, errW_none, errW_some] <;> rfl), by repeat (first | (with_reducible first | exact HB.out | apply below_alloc | apply pw_below_drewN | apply below_drew1 | refine below_set ?_ GE199.out | refine below_set ?_ GE200.out) | exact HB.out)⟩
end Go.Proofs.Ytfpfpckocemmdaa.P
end
section
set_option linter.unusedVariables false
set_option linter.unusedSimpArgs false
namespace Go.Proofs.Ytfpfpckocemmdaa.P
open Go.RowKit Go.Proofs.YtfpfpckocemmdaaW.PrintWords Go.Proofs.YtfpfpckocemmdaaW.PrintLast Go.Proofs.YtfpfpckocemmdaaW.PrintMore
structure Nod where
  id : Int
  n : Int
  view : Int
  last : Int
  works : Bool
  commit : Int
  log : List ByteArray
  acks : List Int
  votes : List S66
  told : List S28
def Nod.cells (x : Nod) (v6 v7 v8 v9 : Value) : Array Value := #[.int .i64 x.id, .int .i64 x.n, .int .i64 x.view, .int .i64 x.last, .bool x.works, .int .i64 x.commit, v6, v7, v8, v9]
def Nd (w : World) (base g : Nat) (ok : Nat → Prop) (x : Nod) : Prop := ∃ (v6 v7 v8 v9 : Value) (P6 P7 P8 P9 : Nat → Prop),
  w.heap[g]? = some (.cells (x.cells v6 v7 v8 v9) 57 (0, 0)) ∧ base ≤ g ∧ ok g ∧
  Kd.R Kd.string 9 w base P6 v6 x.log ∧ Kd.R (Kd.int .i64) 3 w base P7 v7 x.acks ∧ Kd.S k66 66 w base P8 v8 x.votes ∧ Kd.S k28 28 w base P9 v9 x.told ∧
  (∀ k, P6 k ∨ P7 k ∨ P8 k ∨ P9 k → ok k ∧ k ≠ g) ∧ (∀ k, P6 k → ¬ P7 k ∧ ¬ P8 k ∧ ¬ P9 k) ∧ (∀ k, P7 k → ¬ P8 k ∧ ¬ P9 k) ∧ (∀ k, P8 k → ¬ P9 k)
theorem Nd.lt {w : World} {base g : Nat} {ok : Nat → Prop} {x : Nod} (h : Nd w base g ok x) : g < w.heap.size := by
  obtain ⟨_, _, _, _, _, _, _, _, hb, _⟩ := h
  exact (Array.getElem?_eq_some_iff.1 hb).1
theorem Nd.ge {w : World} {base g : Nat} {ok : Nat → Prop} {x : Nod} (h : Nd w base g ok x) : base ≤ g := by
  obtain ⟨_, _, _, _, _, _, _, _, _, hg, _⟩ := h
  exact hg
theorem Nd.step {w w1 : World} {base g : Nat} {ok : Nat → Prop} {x : Nod} (h : Nd w base g ok x) (hm : ∀ k, ok k → k < w.heap.size → w1.heap[k]? = w.heap[k]?) : Nd w1 base g ok x := by
  have hlt := h.lt
  obtain ⟨v6, v7, v8, v9, P6, P7, P8, P9, hb, hg, hok, h6, h7, h8, h9, ho, a6, a7, a8⟩ := h
  exact ⟨v6, v7, v8, v9, P6, P7, P8, P9, (hm g hok hlt).trans hb, hg, hok, Kd.R_step h6 (fun k hk hl => hm k (ho k (.inl hk)).1 hl), Kd.R_step h7 (fun k hk hl => hm k (ho k (.inr (.inl hk))).1 hl), Kd.S_step h8 (fun k hk hl => hm k (ho k (.inr (.inr (.inl hk)))).1 hl), Kd.S_step h9 (fun k hk hl => hm k (ho k (.inr (.inr (.inr hk)))).1 hl), ho, a6, a7, a8⟩
theorem Nd.below {w w1 : World} {base g : Nat} {ok : Nat → Prop} {x : Nod} (h : Nd w base g ok x) (hb : Below w.heap.size w w1) : Nd w1 base g ok x := h.step (fun k _ hk => hb.block k hk)
theorem Nd.mono {w : World} {base g : Nat} {ok ok' : Nat → Prop} {x : Nod} (h : Nd w base g ok x) (hm : ∀ k, ok k → ok' k) : Nd w base g ok' x := by
  obtain ⟨v6, v7, v8, v9, P6, P7, P8, P9, hb, hg, hok, h6, h7, h8, h9, ho, a6, a7, a8⟩ := h
  exact ⟨v6, v7, v8, v9, P6, P7, P8, P9, hb, hg, hm g hok, h6, h7, h8, h9, fun k hk => ⟨hm k (ho k hk).1, (ho k hk).2⟩, a6, a7, a8⟩
theorem Nd.bound {w : World} {base g : Nat} {ok : Nat → Prop} {x : Nod} (h : Nd w base g ok x) : Nd w base g (fun k => ok k ∧ k < w.heap.size ∧ base ≤ k) x := by
  have hlt := h.lt
  obtain ⟨v6, v7, v8, v9, P6, P7, P8, P9, hb, hg, hok, h6, h7, h8, h9, ho, a6, a7, a8⟩ := h
  refine ⟨v6, v7, v8, v9, _, _, _, _, hb, hg, ⟨hok, hlt, hg⟩, Kd.R_bound h6, Kd.R_bound h7, Kd.S_bound h8, Kd.S_bound h9, ?_, fun k hk => ⟨fun h => (a6 k hk.1).1 h.1, fun h => (a6 k hk.1).2.1 h.1, fun h => (a6 k hk.1).2.2 h.1⟩, fun k hk => ⟨fun h => (a7 k hk.1).1 h.1, fun h => (a7 k hk.1).2 h.1⟩, fun k hk h => a8 k hk.1 h.1⟩
  rintro k (hk | hk | hk | hk)
  · exact ⟨⟨(ho k (.inl hk.1)).1, hk.2.2.1, hk.2.1⟩, (ho k (.inl hk.1)).2⟩
  · exact ⟨⟨(ho k (.inr (.inl hk.1))).1, hk.2.2.1, hk.2.1⟩, (ho k (.inr (.inl hk.1))).2⟩
  · exact ⟨⟨(ho k (.inr (.inr (.inl hk.1)))).1, hk.2.2.1, hk.2.1⟩, (ho k (.inr (.inr (.inl hk.1)))).2⟩
  · exact ⟨⟨(ho k (.inr (.inr (.inr hk.1)))).1, hk.2.2.1, hk.2.1⟩, (ho k (.inr (.inr (.inr hk.1)))).2⟩
theorem made_ints (n : Nat) : madeCells (Value.int .i64 0).cells n = ((List.replicate n (0 : Int)).map (Value.int .i64)).toArray := by
  apply Array.ext
  · simp [madeCells]
  · intro i h1 h2
    simp [madeCells, Value.cells, Nat.mod_one]
theorem below_at {w W : World} {base g j : Nat} {v : Value} (h : Below base w W) (hg : base ≤ g) : Below base w (W.setCell ⟨g, j, none⟩ v) :=
  h.trans ⟨rfl, rfl, rfl, by simp [World.setCell], fun k hk => Below.heap_setCell W ⟨g, j, none⟩ v k (by show k ≠ g; omega)⟩
theorem kept_at {w W : World} {ok : Nat → Prop} {g j : Nat} {v : Value} (h : Kept w W ok) (hg : ok g) : Kept w (W.setCell ⟨g, j, none⟩ v) ok :=
  ⟨by have := h.1; simpa [World.setCell] using this, fun i hi hno => (Below.heap_setCell W ⟨g, j, none⟩ v i (fun e => hno (by rw [show i = g from e]; exact hg))).trans (h.2 i hi hno)⟩
theorem kept_alloc_ {w W : World} {ok : Nat → Prop} (h : Kept w W ok) (o : Obj) : Kept w (W.alloc o) ok :=
  ⟨by have := h.1; simp; omega, fun i hi hno => (Below.heap_alloc W o i (by have := h.1; omega)).trans (h.2 i hi hno)⟩
theorem below_new {base : Nat} {w W : World} (h : Below base w W) (hb : base ≤ w.heap.size) (o : Obj) : Below base w (W.alloc o) :=
  h.trans ⟨rfl, rfl, rfl, by simp, fun k hk => Below.heap_alloc W o k (by have := h.size; omega)⟩
def Nod.clear (x : Nod) : Nod := { x with acks := List.replicate x.n.toNat 0, votes := [] }
set_option maxHeartbeats 8000000 in
set_option maxRecDepth 100000 in
theorem clear_calls (x : Nod) (w : World) (base g : Nat) (ok : Nat → Prop) (hn0 : 0 ≤ x.n) (hn1 : x.n ≤ 1000) (h : Nd w base g ok x) :
    Calls Try.prog 39 #[.pointer (some ⟨g, 0, none⟩)] w fun e w' => e = .returned (.tuple #[]) ∧ Nd w' base g (fun k => ok k ∨ w.heap.size ≤ k) x.clear ∧ Kept w w' ok ∧ Below base w w' := by
  have hu57 := Try.underlying57
  have hu26 := Try.underlying26
  have HN := Aside0.mk h.bound
  have hlt := h.lt
  have hge := h.ge
  obtain ⟨v6, v7, v8, v9, P6, P7, P8, P9, hb, -, hok, h6, h7, h8, h9, ho, a6, a7, a8⟩ := h.bound
  clear h
  have HB := Aside0.mk hb
  have H6 := Aside0.mk h6
  have H9 := Aside0.mk h9
  have HO := Aside0.mk ho
  have HA6 := Aside0.mk a6
  have HA7 := Aside0.mk a7
  have HA8 := Aside0.mk a8
  have HOK := Aside0.mk hok
  obtain ⟨n, hn⟩ := Int.eq_ofNat_of_zero_le hn0
  have HLIM := Aside0.mk (show n ≤ 1000 by omega)
  have hm : ∀ W : World, (Instr.makeSlice 23 (.int .i64 x.n) (.int .i64 x.n)).run Try.prog W = .ok (.slice (some ⟨W.heap.size, 0, none⟩) n n) (W.alloc (.cells (madeCells (Value.int .i64 0).cells n) 3)) := fun W => by
    obtain ⟨i, hi, hz, hs, hbb⟩ := info_parts info3
    have h := run_make (P := Try.prog) W 23 3 i (.int .i64 0) Try.underlying23 hi hz .i64 .i64 x.n x.n (by omega) (by omega) (by rw [hbb]; omega) (by omega)
    rw [hn] at h ⊢
    simp only [Int.toNat_natCast, hs, Nat.mul_one] at h
    exact h
  have hc1 : w.cell? ⟨g, 1, none⟩ = some (.int .i64 x.n) := blk_cell hb 1
  have hc7 : ∀ o, (w.alloc o).cell? ⟨g, 7, none⟩ = some v7 := fun o => blk_cell (blk_alloc hb o) 7
  have hf7 : ∀ o, (w.alloc o).frozen? ⟨g, 7, none⟩ = false := fun o => blk_frozen (blk_alloc hb o) 7
  have hput7 : ∀ u, (w.setCell ⟨g, 7, none⟩ u).heap[g]? = some (.cells (x.cells v6 u v8 v9) 57 (0, 0)) := fun u => blk_put (cs' := x.cells v6 u v8 v9) hb 7 u rfl
  have hc8 : ∀ u o, ((w.setCell ⟨g, 7, none⟩ u).alloc o).cell? ⟨g, 8, none⟩ = some v8 := fun u o => blk_cell (blk_alloc (hput7 u) o) 8
  have hf8 : ∀ u o, ((w.setCell ⟨g, 7, none⟩ u).alloc o).frozen? ⟨g, 8, none⟩ = false := fun u o => blk_frozen (blk_alloc (hput7 u) o) 8
  have HPUT := Aside0.mk (fun u t => (blk_put (cs' := x.cells v6 u t v9) (hput7 u) 8 t rfl : ((w.setCell ⟨g, 7, none⟩ u).setCell ⟨g, 8, none⟩ t).heap[g]? = _))
  clear hput7
  have HN0 := Aside0.mk hn
  generalize hmc : madeCells (Value.int .i64 0).cells n = mc at *
  clear hb hok h6 h7 h8 h9 ho a6 a7 a8 hn hn0 hn1
  go_enter Try.func39, Try.ntmps39
  go_wp2
  go_end0
  refine ⟨rfl, ?_, kept_alloc_ (kept_at (kept_at (Kept.refl _ _) HOK.out.1) HOK.out.1) _, below_new (below_at (below_at (Below.refl base w) hge) hge) (by omega) _⟩
  have hsz : ((w.setCell ⟨g, 7, none⟩ (.slice (some ⟨w.heap.size, 0, none⟩) n n)).setCell ⟨g, 8, none⟩ (.slice none 0 0)).heap.size = w.heap.size := by simp [World.setCell]
  have hnew := x_alloc_new ((w.setCell ⟨g, 7, none⟩ (.slice (some ⟨w.heap.size, 0, none⟩) n n)).setCell ⟨g, 8, none⟩ (.slice none 0 0)) (.cells mc 3)
  rw [hsz] at hnew
  have hcl : x.clear = { x with acks := List.replicate n 0, votes := [] } := by unfold Nod.clear; rw [HN0.out]; simp
  rw [hcl]
  have hr := x_R_scalar (Value.int .i64) (fun _ => rfl) 3 (((w.setCell ⟨g, 7, none⟩ (.slice (some ⟨w.heap.size, 0, none⟩) n n)).setCell ⟨g, 8, none⟩ (.slice none 0 0)).alloc (.cells mc 3)) base (fun k => k = w.heap.size) w.heap.size (List.replicate n 0) (by omega) (by rw [hnew, ← hmc, made_ints]) (by simp [maxLen]; have := HLIM.out; omega) rfl
  simp only [List.length_replicate] at hr
  have lt6 : ∀ k, P6 k → k < w.heap.size ∧ k ≠ g := fun k hk => ⟨(HO.out k (.inl hk)).1.2.1, (HO.out k (.inl hk)).2⟩
  have lt9 : ∀ k, P9 k → k < w.heap.size ∧ k ≠ g := fun k hk => ⟨(HO.out k (.inr (.inr (.inr hk)))).1.2.1, (HO.out k (.inr (.inr (.inr hk)))).2⟩
  refine ⟨v6, .slice (some ⟨w.heap.size, 0, none⟩) n n, .slice none 0 0, v9, P6, fun k => k = w.heap.size, fun _ => False, P9, blk_alloc (HPUT.out _ _) _, hge, .inl HOK.out.1, Kd.R_alloc (Kd.R_far (Kd.R_far H6.out (fun k hk => (lt6 k hk).2) _) (fun k hk => (lt6 k hk).2) _) _, hr, Kd.S_nil _ _ _ _ _, Kd.S_alloc (Kd.S_far (Kd.S_far H9.out (fun k hk => (lt9 k hk).2) _) (fun k hk => (lt9 k hk).2) _) _, ?_, ?_, ?_, ?_⟩
  · rintro k (hk | hk | hk | hk)
    · exact ⟨.inl (HO.out k (.inl hk)).1.1, (lt6 k hk).2⟩
    · subst hk; exact ⟨.inr (Nat.le_refl _), by omega⟩
    · exact hk.elim
    · exact ⟨.inl (HO.out k (.inr (.inr (.inr hk)))).1.1, (lt9 k hk).2⟩
  · intro k hk
    exact ⟨fun h => by have := (lt6 k hk).1; omega, fun h => h, (HA6.out k hk).2.2⟩
  · intro k hk
    subst hk
    exact ⟨fun h => h, fun h => by have := (lt9 _ h).1; omega⟩
  · exact fun k hk => hk.elim
end Go.Proofs.Ytfpfpckocemmdaa.P
end
section
namespace Go.Proofs.Ytfpfpckocemmdaa.P
open Go.RowKit Go.Proofs.YtfpfpckocemmdaaW.PrintWords Go.Proofs.YtfpfpckocemmdaaW.PrintLast Go.Proofs.YtfpfpckocemmdaaW.PrintMore
set_option linter.unusedVariables false
set_option linter.unusedSimpArgs false
def Nod.prim (x : Nod) (view : Int) : Bool := view % x.n == x.id
def Nod.leads (x : Nod) : Bool := x.works && x.prim x.view
theorem primary_of (view n : Int) (hv : 0 ≤ view) (hn : 1 ≤ n) : quorum_Primary.f view n = some (view % n, true) := by
  unfold quorum_Primary.f
  rw [if_neg (by omega), if_neg (by omega), if_neg (by omega), Int.tmod_eq_emod_of_nonneg hv]
set_option maxHeartbeats 8000000 in
set_option maxRecDepth 100000 in
theorem primary_calls (x : Nod) (view : Int) (w : World) (g : Nat) (h0 : w.cell? ⟨g, 0, none⟩ = some (.int .i64 x.id)) (h1 : w.cell? ⟨g, 1, none⟩ = some (.int .i64 x.n)) (hv : 0 ≤ view) (hn : 1 ≤ x.n) :
    Calls Try.prog 47 #[.pointer (some ⟨g, 0, none⟩), .int .i64 view] w fun e w' => e = .returned (.bool (x.prim view)) ∧ Drawn0 w w' := by
  have hu57 := Try.underlying57
  have hu26 := Try.underlying26
  have HP := Aside0.mk (primary_of view x.n hv hn)
  have HE := Aside0.mk (show x.prim view = (view % x.n == x.id) from rfl)
  clear hv hn
  generalize hp : view % x.n = p at *
  go_enter Try.func47, Try.ntmps47
  go_wp2_with (first | (go_at_call 31; refine (quorum_Primary.calls view x.n p true _ HP.out).mono ?_; rintro e w' ⟨rfl, ⟨nd, rfl⟩⟩))
  go_ret
  exact ⟨by rw [HE.out]; rfl, by repeat (first | exact Drawn0.refl _ | apply Drawn0.step)⟩
set_option maxHeartbeats 8000000 in
set_option maxRecDepth 100000 in
theorem leads_calls (x : Nod) (w : World) (g : Nat) (h0 : w.cell? ⟨g, 0, none⟩ = some (.int .i64 x.id)) (h1 : w.cell? ⟨g, 1, none⟩ = some (.int .i64 x.n)) (h2 : w.cell? ⟨g, 2, none⟩ = some (.int .i64 x.view)) (h4 : w.cell? ⟨g, 4, none⟩ = some (.bool x.works)) (hv : 0 ≤ x.view) (hn : 1 ≤ x.n) :
    Calls Try.prog 34 #[.pointer (some ⟨g, 0, none⟩)] w fun e w' => e = .returned (.bool x.leads) ∧ Drawn0 w w' := by
  have hu57 := Try.underlying57
  have hu26 := Try.underlying26
  have HP := Aside0.mk (primary_calls x x.view w g h0 h1 hv hn)
  have HE := Aside0.mk (show x.leads = (x.works && x.prim x.view) from rfl)
  clear hv hn
  generalize x.prim x.view = p at *
  cases hw : x.works with
  | false =>
    rw [hw] at h4 HE
    go_enter Try.func34, Try.ntmps34
    go_wp2
    go_ret
    exact ⟨by rw [HE.out]; rfl, by repeat (first | exact Drawn0.refl _ | apply Drawn0.step)⟩
  | true =>
    rw [hw] at h4 HE
    go_enter Try.func34, Try.ntmps34
    go_wp2_with (first | (go_at_call 47; refine HP.out.mono ?_; rintro e w' ⟨rfl, ⟨nd, rfl⟩⟩))
    go_ret
    exact ⟨by rw [HE.out]; rfl, by repeat (first | exact Drawn0.refl _ | apply Drawn0.step)⟩
theorem x_step_call {P : Program} {ops : Array Oper} {o : Oper} {a : Act} {w : World} {K : Act → World → Prop} {Q : Exit → Act → World → Prop} {E : Prop} (hg : o.guard = none) {f : FuncId} {fn : Func} {xs : Array Operand} {ts : Array TypeId}
    (hf : P.funcs[f]? = some fn) (hname : (fn.name == "runtime.NumGoroutine") = false) (hb : fn.body.isSome = true) (args : Array Value)
    (hop : o.op = .call { callee := .value (.func f), args := xs, argTypes := ts }) (hargs : xs.map a.eval = args)
    (h : Calls P f args w fun e w' => ∃ v, e = .returned v ∧ K (a.put o.dst v) w') : if Region.wanted o (yielded ops a.tmps) = true then Oper.wp P o a w K Q else E := by
  have hw : Region.wanted o (yielded ops a.tmps) = true := by simp [Region.wanted, hg]
  rw [if_pos hw]
  have he := enters_ hf hname hb args w
  have hrun : (execOp a.eval o).run P w = .ok (.enter f args) w := by
    unfold execOp
    simp [hop, resolve, Deferred.ofValue, invoke, Act.eval, hargs, he]
  unfold Oper.wp
  rw [hrun, Oper.upon_enter]
  refine h.mono fun e w'' hh => ?_
  obtain ⟨v, rfl, hk⟩ := hh
  exact hk
theorem Nd.set_commit {w : World} {base g : Nat} {ok : Nat → Prop} {x : Nod} (h : Nd w base g ok x) (v : Int) : Nd (w.setCell ⟨g, 5, none⟩ (.int .i64 v)) base g ok { x with commit := v } := by
  obtain ⟨v6, v7, v8, v9, P6, P7, P8, P9, hb, hg, hok, h6, h7, h8, h9, ho, a6, a7, a8⟩ := h
  exact ⟨v6, v7, v8, v9, P6, P7, P8, P9, blk_put (cs' := Nod.cells { x with commit := v } v6 v7 v8 v9) hb 5 _ rfl, hg, hok, Kd.R_far h6 (fun k hk => (ho k (.inl hk)).2) _, Kd.R_far h7 (fun k hk => (ho k (.inr (.inl hk))).2) _, Kd.S_far h8 (fun k hk => (ho k (.inr (.inr (.inl hk)))).2) _, Kd.S_far h9 (fun k hk => (ho k (.inr (.inr (.inr hk)))).2) _, ho, a6, a7, a8⟩
theorem Nd.set_ack {w : World} {base g : Nat} {ok : Nat → Prop} {x : Nod} (h : Nd w base g ok x) (ga n c7 : Nat) (hc : w.cell? ⟨g, 7, none⟩ = some (.slice (some ⟨ga, 0, none⟩) n c7)) (i y : Int) : Nd (w.setCell ⟨ga, i.toNat, none⟩ (.int .i64 y)) base g ok { x with acks := x.acks.set i.toNat y } := by
  obtain ⟨v6, v7, v8, v9, P6, P7, P8, P9, hb, hg, hok, h6, h7, h8, h9, ho, a6, a7, a8⟩ := h
  have e7 : v7 = .slice (some ⟨ga, 0, none⟩) n c7 := by
    have h1 : w.cell? ⟨g, 7, none⟩ = some v7 := blk_cell hb 7
    rw [h1] at hc
    exact Option.some.inj hc
  subst e7
  have hP : P7 ga := h7.1 ga rfl
  have hne : g ≠ ga := fun e => (ho ga (.inr (.inl hP))).2 e.symm
  exact ⟨v6, _, v8, v9, P6, P7, P8, P9, blk_far hb (p := ⟨ga, i.toNat, none⟩) hne _, hg, hok, Kd.R_far h6 (fun k hk e => (a6 k hk).1 (by rw [show k = ga from e]; exact hP)) _, (Kd.R_putg h7 i y).1, Kd.S_far h8 (fun k hk e => (a7 ga hP).1 (by rw [← show k = ga from e]; exact hk)) _, Kd.S_far h9 (fun k hk e => (a7 ga hP).2 (by rw [← show k = ga from e]; exact hk)) _, ho, a6, a7, a8⟩
def Nod.count (x : Nod) (c : Int) : Nod := if x.leads then { x with acks := x.acks.set x.id.toNat (x.log.length : Int), commit := max x.commit c } else x
set_option maxHeartbeats 8000000 in
set_option maxRecDepth 100000 in
theorem count_calls (x : Nod) (w : World) (base g : Nat) (ok : Nat → Prop) (c : Int) (hid : 0 ≤ x.id) (hid2 : x.id < (x.acks.length : Int)) (hv : 0 ≤ x.view) (hn : 1 ≤ x.n) (hc : quorum_Commit.f (x.acks.set x.id.toNat (x.log.length : Int)) = some c) (hbase : base ≤ w.heap.size) (h : Nd w base g ok x) :
    Calls Try.prog 35 #[.pointer (some ⟨g, 0, none⟩)] w fun e w' => e = .returned (.tuple #[]) ∧ Nd w' base g (fun k => ok k ∨ w.heap.size ≤ k) (x.count c) ∧ Kept w w' ok ∧ Below base w w' := by
  have hu57 := Try.underlying57
  have hu26 := Try.underlying26
  have HN := Aside0.mk h
  have hlt := h.lt
  have hge := h.ge
  obtain ⟨v6, v7, v8, v9, P6, P7, P8, P9, hb, -, hok, h6, h7, h8, h9, ho, a6, a7, a8⟩ := h.bound
  clear h
  have hL := Aside0.mk (leads_calls x w g (blk_cell hb 0) (blk_cell hb 1) (blk_cell hb 2) (blk_cell hb 4) hv hn)
  by_cases hle : x.leads = true
  · obtain ⟨ga, c7, rfl, gb7, gl7, cl7, hg7⟩ := Kd.R_form h7 (by omega)
    obtain ⟨A6, c6, rfl⟩ := Kd.R_slice h6
    have hc0 : w.cell? ⟨g, 0, none⟩ = some (.int .i64 x.id) := blk_cell hb 0
    have hc6 : w.cell? ⟨g, 6, none⟩ = some (.slice A6 x.log.length c6) := blk_cell hb 6
    have hc7 : w.cell? ⟨g, 7, none⟩ = some (.slice (some ⟨ga, 0, none⟩) x.acks.length c7) := blk_cell hb 7
    obtain ⟨hx, hf⟩ := Kd.R_celln (0 : Int) h7 x.id hid hid2
    have HP := Aside0.mk (Kd.R_putg h7 x.id (x.log.length : Int))
    have p1 := eq_true hid
    have q1 := eq_true hid2
    have HCT := Aside0.mk (show x.count c = { x with acks := x.acks.set x.id.toNat (x.log.length : Int), commit := max x.commit c } by unfold Nod.count; rw [if_pos hle])
    have HOK := Aside0.mk hok.1
    rw [hle] at hL
    have HO := Aside0.mk ho
    have HBK := Aside0.mk hb
    have HCC := Aside0.mk hc
    have H6 := Aside0.mk h6
    have HR7 := Aside0.mk h7
    have H8 := Aside0.mk h8
    have H9 := Aside0.mk h9
    clear hb h6 h7 h8 h9 ho a6 a7 a8 hok hc hle cl7 hg7
    go_enter Try.func35, Try.ntmps35
    go_wp2_with (first | (go_at_call 34; refine hL.out.mono ?_; rintro e w' ⟨rfl, ⟨nd, rfl⟩⟩))
    go_region
    have hga : g ≠ ga := fun e => (HO.out ga (.inr (.inl (HR7.out.1 ga rfl)))).2 e.symm
    have HBK1 := Aside0.mk (blk_far (blk_drewN HBK.out (nd + 1)) (p := ⟨ga, x.id.toNat, none⟩) hga (.int .i64 (x.log.length : Int)))
    have hd5 : ((w.drewN (nd + 1)).setCell ⟨ga, x.id.toNat, none⟩ (.int .i64 (x.log.length : Int))).cell? ⟨g, 5, none⟩ = some (.int .i64 x.commit) := blk_cell HBK1.out 5
    have hd7 : ((w.drewN (nd + 1)).setCell ⟨ga, x.id.toNat, none⟩ (.int .i64 (x.log.length : Int))).cell? ⟨g, 7, none⟩ = some (.slice (some ⟨ga, 0, none⟩) x.acks.length c7) := blk_cell HBK1.out 7
    have HN1 := Aside0.mk ((HN.out.step (w1 := w.drewN (nd + 1)) (fun _ _ _ => rfl)).set_ack ga _ c7 hc7 x.id (x.log.length : Int))
    have HOKA := Aside0.mk (show ok ga from (HO.out ga (.inr (.inl (HR7.out.1 ga rfl)))).1.1)
    have HKA : Aside0 (∀ W, W = (w.drewN (nd + 1)).setCell ⟨ga, x.id.toNat, none⟩ (.int .i64 (x.log.length : Int)) → ∀ w3, Below W.drew.heap.size W.drew w3 → Kept w w3 ok) := ⟨fun W hW w3 hb3 => by
      have hsz : W.drew.heap.size = w.heap.size := by rw [hW]; simp [World.setCell]
      refine ⟨by have := hb3.size; omega, fun i hi hno => ?_⟩
      have h1 := hb3.block i (by omega)
      rw [h1, hW]
      exact Below.heap_setCell _ _ _ i (fun e => hno (by rw [show i = ga from e]; exact HOKA.out))⟩
    have HBA : Aside0 (∀ W, W = (w.drewN (nd + 1)).setCell ⟨ga, x.id.toNat, none⟩ (.int .i64 (x.log.length : Int)) → ∀ w3, Below W.drew.heap.size W.drew w3 → Below base w w3) := ⟨fun W hW w3 hb3 => by
      have hsz : W.drew.heap.size = w.heap.size := by rw [hW]; simp [World.setCell]
      refine ⟨by rw [hb3.os, hW]; rfl, by rw [hb3.tape, hW]; rfl, by rw [hb3.output, hW]; rfl, by have := hb3.size; omega, fun i hi => ?_⟩
      have h1 := hb3.block i (by omega)
      rw [h1, hW]
      exact Below.heap_setCell _ _ _ i (fun e => by have : i = ga := e; omega)⟩
    clear hc0 hc6 hc7 hx hf p1 q1
    generalize hW1 : (w.drewN (nd + 1)).setCell ⟨ga, x.id.toNat, none⟩ (.int .i64 (x.log.length : Int)) = W1 at *
    have HR1 := Aside0.mk (show Kd.R (Kd.int .i64) 3 W1 base _ (.slice (some ⟨ga, 0, none⟩) x.acks.length c7) (x.acks.set x.id.toNat (x.log.length : Int)) from by rw [← hW1]; exact HP.out.1)
    have HCOM := Aside0.mk (show Calls Try.prog 53 #[.slice (some ⟨ga, 0, none⟩) x.acks.length c7] W1.drew fun e w' => e = .returned (.int .i64 c) ∧ Below W1.drew.heap.size W1.drew w' from by
      obtain ⟨hn7, hcap, hC⟩ := Kd.R_reads' HR1.out
      have h := quorum_Commit.calls (some ⟨ga, 0, none⟩) c7 (x.acks.set x.id.toNat (x.log.length : Int)) c W1.drew (by exact hC) (by rw [List.length_set]; exact hcap) HCC.out
      rwa [List.length_set] at h)
    go_wp2
    go_region_law (refine x_step_call rfl Try.func53 (by kernel_rfl) rfl #[.slice (some ⟨ga, 0, none⟩) x.acks.length c7] rfl (by simp [Act.eval, Act.put]) ?_; refine HCOM.out.mono ?_; rintro e w3 ⟨rfl, hb3⟩; have HB3 := Aside0.mk hb3; have HBK3 := Aside0.mk ((hb3.block g (blk_lt HBK1.out)).trans HBK1.out); have hs5 : w3.cell? ⟨g, 5, none⟩ = some (.int .i64 x.commit) := blk_cell HBK3.out 5; have ht5 : w3.frozen? ⟨g, 5, none⟩ = false := blk_frozen HBK3.out 5; clear hb3; refine ⟨_, rfl, ?_⟩)
    all_goals
      go_end0
      refine ⟨rfl, ?_, ?_, ?_⟩
      · rw [HCT.out]
        exact ((((HN1.out.step (w1 := W1.drew) (fun _ _ _ => rfl)).below HB3.out).set_commit _).mono (fun k hk => Or.inl hk))
      · exact kept_at (HKA.out W1 rfl _ HB3.out) HOK.out
      · exact below_at (HBA.out W1 rfl _ HB3.out) hge
  · have hle2 : x.leads = false := by simpa using hle
    rw [hle2] at hL
    have HC := Aside0.mk (show x.count c = x by unfold Nod.count; rw [if_neg hle])
    clear hb h6 h7 h8 h9 ho a6 a7 a8 hok hle hle2 hc
    go_enter Try.func35, Try.ntmps35
    go_wp2_with (first | (go_at_call 34; refine hL.out.mono ?_; rintro e w' ⟨rfl, ⟨nd, rfl⟩⟩))
    go_end0
    refine ⟨rfl, ?_, ⟨Nat.le_refl _, fun _ _ _ => rfl⟩, ?_⟩
    · rw [HC.out]
      exact (HN.out.step (w1 := w.drewN nd) (fun _ _ _ => rfl)).mono (fun k hk => Or.inl hk)
    · exact ⟨rfl, rfl, rfl, Nat.le_refl _, fun _ _ => rfl⟩
set_option maxHeartbeats 8000000 in
set_option maxRecDepth 100000 in
theorem own_calls (x : Nod) (w : World) (base g : Nat) (ok : Nat → Prop) (h : Nd w base g ok x) :
    Calls Try.prog 33 #[.pointer (some ⟨g, 0, none⟩)] w fun e w' => ∃ A6 c6, e = .returned (.agg #[.int .i64 x.id, .int .i64 x.last, .int .i64 x.commit, .slice A6 x.log.length c6]) ∧ x.log.length ≤ c6 ∧ Kd.C Kd.string w A6 x.log.length x.log ∧ Below w.heap.size w w' := by
  have hu57 := Try.underlying57
  have hu26 := Try.underlying26
  have hu66 := Try.underlying66
  obtain ⟨v6, v7, v8, v9, P6, P7, P8, P9, hb, -, hok, h6, h7, h8, h9, ho, a6, a7, a8⟩ := h
  obtain ⟨A6, c6, rfl, hc6, hC⟩ := Kd.R_reads h6
  have HC := Aside0.mk hC
  have HC6 := Aside0.mk hc6
  have hc0 : ∀ o, (w.alloc o).cell? ⟨g, 0, none⟩ = some (.int .i64 x.id) := fun o => blk_cell (blk_alloc hb o) 0
  have hc3 : ∀ o, (w.alloc o).cell? ⟨g, 3, none⟩ = some (.int .i64 x.last) := fun o => blk_cell (blk_alloc hb o) 3
  have hc5 : ∀ o, (w.alloc o).cell? ⟨g, 5, none⟩ = some (.int .i64 x.commit) := fun o => blk_cell (blk_alloc hb o) 5
  have hcL : ∀ o, (w.alloc o).cell? ⟨g, 6, none⟩ = some (.slice A6 x.log.length c6) := fun o => blk_cell (blk_alloc hb o) 6
  clear hb hok h6 h7 h8 h9 ho a6 a7 a8 hC hc6
  go_enter Try.func33, Try.ntmps33
  go_wp2
  go_region
  all_goals
    go_wp2
    refine bodyPost_ret (results_cell_row rfl _ _ w.heap.size 66 #[.int .i64 x.id, .int .i64 x.last, .int .i64 x.commit, .slice A6 x.log.length c6] (0, 0) _ rfl ?_ Try.underlying66 rfl (by kernel_rfl)) rfl ?_
    · exact x_alloc_new (w.drew) _
    · exact ⟨A6, c6, rfl, HC6.out, HC.out, by repeat (first | exact Below.refl _ _ | apply pw_below_drewN | apply below_drew1 | apply below_alloc)⟩
end Go.Proofs.Ytfpfpckocemmdaa.P
end
section
namespace Go.Proofs.Ytfpfpckocemmdaa.P
open Go.RowKit Go.Proofs.YtfpfpckocemmdaaW.PrintWords Go.Proofs.YtfpfpckocemmdaaW.PrintLast Go.Proofs.YtfpfpckocemmdaaW.PrintMore
set_option linter.unusedVariables false
set_option linter.unusedSimpArgs false
theorem Nd.blk {w : World} {base g : Nat} {ok : Nat → Prop} {x : Nod} (h : Nd w base g ok x) : ∃ A6 c6 A7 c7 A8 c8 A9 c9, w.heap[g]? = some (.cells (x.cells (.slice A6 x.log.length c6) (.slice A7 x.acks.length c7) (.slice A8 x.votes.length c8) (.slice A9 x.told.length c9)) 57 (0, 0)) ∧
    x.log.length ≤ c6 ∧ Kd.C Kd.string w A6 x.log.length x.log ∧ x.acks.length ≤ c7 ∧ Kd.C (Kd.int .i64) w A7 x.acks.length x.acks ∧ x.votes.length ≤ c8 ∧ Kd.C k66 w A8 x.votes.length x.votes ∧ x.told.length ≤ c9 ∧ Kd.C k28 w A9 x.told.length x.told := by
  obtain ⟨v6, v7, v8, v9, P6, P7, P8, P9, hb, hg, hok, h6, h7, h8, h9, ho, a6, a7, a8⟩ := h
  obtain ⟨A6, c6, rfl, e6, k6⟩ := Kd.R_reads h6
  obtain ⟨A7, c7, rfl, e7, k7⟩ := Kd.R_reads h7
  obtain ⟨A8, c8, rfl, e8, k8⟩ := Kd.S_reads h8
  obtain ⟨A9, c9, rfl, e9, k9⟩ := Kd.S_reads h9
  exact ⟨A6, c6, A7, c7, A8, c8, A9, c9, hb, e6, k6, e7, k7, e8, k8, e9, k9⟩
theorem Nd.old {w w1 : World} {base g : Nat} {ok : Nat → Prop} {x : Nod} (h : Nd w base g ok x) (hb : Below w.heap.size w w1) : Nd w1 base g (fun k => ok k ∧ k < w.heap.size ∧ base ≤ k) x := h.bound.below hb
theorem Nd.set_view {w : World} {base g : Nat} {ok : Nat → Prop} {x : Nod} (h : Nd w base g ok x) (v : Int) : Nd (w.setCell ⟨g, 2, none⟩ (.int .i64 v)) base g ok { x with view := v } := by
  obtain ⟨v6, v7, v8, v9, P6, P7, P8, P9, hb, hg, hok, h6, h7, h8, h9, ho, a6, a7, a8⟩ := h
  exact ⟨v6, v7, v8, v9, P6, P7, P8, P9, blk_put (cs' := Nod.cells { x with view := v } v6 v7 v8 v9) hb 2 _ rfl, hg, hok, Kd.R_far h6 (fun k hk => (ho k (.inl hk)).2) _, Kd.R_far h7 (fun k hk => (ho k (.inr (.inl hk))).2) _, Kd.S_far h8 (fun k hk => (ho k (.inr (.inr (.inl hk)))).2) _, Kd.S_far h9 (fun k hk => (ho k (.inr (.inr (.inr hk)))).2) _, ho, a6, a7, a8⟩
theorem Nd.set_last {w : World} {base g : Nat} {ok : Nat → Prop} {x : Nod} (h : Nd w base g ok x) (v : Int) : Nd (w.setCell ⟨g, 3, none⟩ (.int .i64 v)) base g ok { x with last := v } := by
  obtain ⟨v6, v7, v8, v9, P6, P7, P8, P9, hb, hg, hok, h6, h7, h8, h9, ho, a6, a7, a8⟩ := h
  exact ⟨v6, v7, v8, v9, P6, P7, P8, P9, blk_put (cs' := Nod.cells { x with last := v } v6 v7 v8 v9) hb 3 _ rfl, hg, hok, Kd.R_far h6 (fun k hk => (ho k (.inl hk)).2) _, Kd.R_far h7 (fun k hk => (ho k (.inr (.inl hk))).2) _, Kd.S_far h8 (fun k hk => (ho k (.inr (.inr (.inl hk)))).2) _, Kd.S_far h9 (fun k hk => (ho k (.inr (.inr (.inr hk)))).2) _, ho, a6, a7, a8⟩
theorem Nd.set_works {w : World} {base g : Nat} {ok : Nat → Prop} {x : Nod} (h : Nd w base g ok x) (v : Bool) : Nd (w.setCell ⟨g, 4, none⟩ (.bool v)) base g ok { x with works := v } := by
  obtain ⟨v6, v7, v8, v9, P6, P7, P8, P9, hb, hg, hok, h6, h7, h8, h9, ho, a6, a7, a8⟩ := h
  exact ⟨v6, v7, v8, v9, P6, P7, P8, P9, blk_put (cs' := Nod.cells { x with works := v } v6 v7 v8 v9) hb 4 _ rfl, hg, hok, Kd.R_far h6 (fun k hk => (ho k (.inl hk)).2) _, Kd.R_far h7 (fun k hk => (ho k (.inr (.inl hk))).2) _, Kd.S_far h8 (fun k hk => (ho k (.inr (.inr (.inl hk)))).2) _, Kd.S_far h9 (fun k hk => (ho k (.inr (.inr (.inr hk)))).2) _, ho, a6, a7, a8⟩
theorem Nd.set_log {w : World} {base g : Nat} {ok Q : Nat → Prop} {x : Nod} {v : Value} {r : List ByteArray} (h : Nd w base g ok x) (hv : Kd.R Kd.string 9 w base Q v r) (hd : ∀ k, Q k → ¬ ok k) : Nd (w.setCell ⟨g, 6, none⟩ v) base g (fun k => ok k ∨ Q k) { x with log := r } := by
  obtain ⟨v6, v7, v8, v9, P6, P7, P8, P9, hb, hg, hok, h6, h7, h8, h9, ho, a6, a7, a8⟩ := h
  refine ⟨v, v7, v8, v9, Q, P7, P8, P9, blk_put (cs' := Nod.cells { x with log := r } v v7 v8 v9) hb 6 _ rfl, hg, .inl hok, Kd.R_far hv (fun k hk e => hd k hk (by rw [show k = g from e]; exact hok)) _, Kd.R_far h7 (fun k hk => (ho k (.inr (.inl hk))).2) _, Kd.S_far h8 (fun k hk => (ho k (.inr (.inr (.inl hk)))).2) _, Kd.S_far h9 (fun k hk => (ho k (.inr (.inr (.inr hk)))).2) _, ?_, ?_, a7, a8⟩
  · rintro k (hk | hk)
    · exact ⟨.inr hk, fun e => hd k hk (by rw [e]; exact hok)⟩
    · exact ⟨.inl (ho k (.inr hk)).1, (ho k (.inr hk)).2⟩
  · exact fun k hk => ⟨fun h => hd k hk (ho k (.inr (.inl h))).1, fun h => hd k hk (ho k (.inr (.inr (.inl h)))).1, fun h => hd k hk (ho k (.inr (.inr (.inr h)))).1⟩
theorem Nd.set_votes {w : World} {base g : Nat} {ok Q : Nat → Prop} {x : Nod} {v : Value} {r : List S66} (h : Nd w base g ok x) (hv : Kd.S k66 66 w base Q v r) (hd : ∀ k, Q k → ¬ ok k) : Nd (w.setCell ⟨g, 8, none⟩ v) base g (fun k => ok k ∨ Q k) { x with votes := r } := by
  obtain ⟨v6, v7, v8, v9, P6, P7, P8, P9, hb, hg, hok, h6, h7, h8, h9, ho, a6, a7, a8⟩ := h
  refine ⟨v6, v7, v, v9, P6, P7, Q, P9, blk_put (cs' := Nod.cells { x with votes := r } v6 v7 v v9) hb 8 _ rfl, hg, .inl hok, Kd.R_far h6 (fun k hk => (ho k (.inl hk)).2) _, Kd.R_far h7 (fun k hk => (ho k (.inr (.inl hk))).2) _, Kd.S_far hv (fun k hk e => hd k hk (by rw [show k = g from e]; exact hok)) _, Kd.S_far h9 (fun k hk => (ho k (.inr (.inr (.inr hk)))).2) _, ?_, ?_, ?_, ?_⟩
  · rintro k (hk | hk | hk | hk)
    · exact ⟨.inl (ho k (.inl hk)).1, (ho k (.inl hk)).2⟩
    · exact ⟨.inl (ho k (.inr (.inl hk))).1, (ho k (.inr (.inl hk))).2⟩
    · exact ⟨.inr hk, fun e => hd k hk (by rw [e]; exact hok)⟩
    · exact ⟨.inl (ho k (.inr (.inr (.inr hk)))).1, (ho k (.inr (.inr (.inr hk)))).2⟩
  · exact fun k hk => ⟨(a6 k hk).1, fun h => hd k h (ho k (.inl hk)).1, (a6 k hk).2.2⟩
  · exact fun k hk => ⟨fun h => hd k h (ho k (.inr (.inl hk))).1, (a7 k hk).2⟩
  · exact fun k hk h => hd k hk (ho k (.inr (.inr (.inr h)))).1
end Go.Proofs.Ytfpfpckocemmdaa.P
end
section
namespace Go.Proofs.Ytfpfpckocemmdaa.P
open Go.RowKit Go.Proofs.YtfpfpckocemmdaaW.PrintWords Go.Proofs.YtfpfpckocemmdaaW.PrintLast Go.Proofs.YtfpfpckocemmdaaW.PrintMore
set_option linter.unusedVariables false
set_option linter.unusedSimpArgs false
theorem below_weak {b B : Nat} {w W : World} (h : Below B w W) (hb : b ≤ B) : Below b w W := ⟨h.os, h.tape, h.output, h.size, fun k hk => h.block k (by omega)⟩
def Did (w w' : World) (base g : Nat) (ok : Nat → Prop) (x : Nod) : Prop := Nd w' base g (fun k => ok k ∨ w.heap.size ≤ k) x ∧ Kept w w' ok ∧ Below base w w' ∧ base ≤ w.heap.size ∧ ok g
section
variable {w w1 w2 : World} {base g : Nat} {ok : Nat → Prop} {x y : Nod} {v : Value}
theorem Did.refl (h : Nd w base g ok x) : Did w w base g ok x := by
  have hlt := h.lt
  have hge := h.ge
  obtain ⟨v6, v7, v8, v9, P6, P7, P8, P9, hb, hg, hok, _⟩ := id h
  exact ⟨h.mono (fun k hk => .inl hk), Kept.refl _ _, Below.refl _ _, by omega, hok⟩
theorem Did.then_ (h : Did w w1 base g ok x) (k : Did w1 w2 base g (fun k => ok k ∨ w.heap.size ≤ k) y) : Did w w2 base g ok y :=
  ⟨k.1.mono (fun i hi => by
    have := h.2.1.1
    rcases hi with (hi | hi) | hi
    · exact .inl hi
    · exact .inr hi
    · exact .inr (by omega)), h.2.1.then_ k.2.1 (fun i hi => hi), h.2.2.1.trans k.2.2.1, h.2.2.2.1, h.2.2.2.2⟩
theorem Did.below (h : Did w w1 base g ok x) (hb : Below w1.heap.size w1 w2) : Did w w2 base g ok x :=
  ⟨h.1.below hb, h.2.1.below hb, h.2.2.1.trans (below_weak hb (by have := h.2.2.1.size; have := h.2.2.2.1; omega)), h.2.2.2⟩
theorem Did.blk (h : Did w w1 base g ok x) : ∃ A6 c6 A7 c7 A8 c8 A9 c9, w1.heap[g]? = some (.cells (x.cells (.slice A6 x.log.length c6) (.slice A7 x.acks.length c7) (.slice A8 x.votes.length c8) (.slice A9 x.told.length c9)) 57 (0, 0)) ∧
    x.log.length ≤ c6 ∧ Kd.C Kd.string w1 A6 x.log.length x.log ∧ x.acks.length ≤ c7 ∧ Kd.C (Kd.int .i64) w1 A7 x.acks.length x.acks ∧ x.votes.length ≤ c8 ∧ Kd.C k66 w1 A8 x.votes.length x.votes ∧ x.told.length ≤ c9 ∧ Kd.C k28 w1 A9 x.told.length x.told := h.1.blk
theorem Did.put (h : Did w w1 base g ok x) (j : Nat) (v : Value) (hn : Nd (w1.setCell ⟨g, j, none⟩ v) base g (fun k => ok k ∨ w.heap.size ≤ k) y) : Did w (w1.setCell ⟨g, j, none⟩ v) base g ok y :=
  ⟨hn, h.2.1.setCell (.inl h.2.2.2.2) _, below_at h.2.2.1 h.1.ge, h.2.2.2⟩
theorem Did.set_view (h : Did w w1 base g ok x) (v : Int) : Did w (w1.setCell ⟨g, 2, none⟩ (.int .i64 v)) base g ok { x with view := v } := h.put 2 _ (h.1.set_view v)
theorem Did.set_last (h : Did w w1 base g ok x) (v : Int) : Did w (w1.setCell ⟨g, 3, none⟩ (.int .i64 v)) base g ok { x with last := v } := h.put 3 _ (h.1.set_last v)
theorem Did.set_works (h : Did w w1 base g ok x) (v : Bool) : Did w (w1.setCell ⟨g, 4, none⟩ (.bool v)) base g ok { x with works := v } := h.put 4 _ (h.1.set_works v)
theorem Did.set_commit (h : Did w w1 base g ok x) (v : Int) : Did w (w1.setCell ⟨g, 5, none⟩ (.int .i64 v)) base g ok { x with commit := v } := h.put 5 _ (h.1.set_commit v)
theorem Did.set_log {r : List ByteArray} {W : World} (h : Did w w1 base g ok x) (hb : Below w1.heap.size w1 w2) (hle : w1.heap.size ≤ W.heap.size) (hv : Kd.R Kd.string 9 w2 W.heap.size (fun _ => True) v r) : Did w (w2.setCell ⟨g, 6, none⟩ v) base g ok { x with log := r } := by
  have h1 := h.2.2.1.size
  have h2 := h.2.2.2.1
  have hn := (h.1.old hb).set_log (Q := fun k => w1.heap.size ≤ k) (Kd.R_mono (Kd.R_lower (Kd.R_bound hv) (by omega : base ≤ W.heap.size)) (fun k hk => by have := hk.2.1; omega)) (fun k hk hk2 => by have := hk2.2.1; omega)
  refine (h.below hb).put 6 v (hn.mono (fun k hk => ?_))
  rcases hk with hk | hk
  · exact hk.1
  · exact .inr (by omega)
theorem Did.set_votes {r : List S66} {W : World} (h : Did w w1 base g ok x) (hb : Below w1.heap.size w1 w2) (hle : w1.heap.size ≤ W.heap.size) (hv : Kd.S k66 66 w2 W.heap.size (fun _ => True) v r) : Did w (w2.setCell ⟨g, 8, none⟩ v) base g ok { x with votes := r } := by
  have h1 := h.2.2.1.size
  have h2 := h.2.2.2.1
  have hn := (h.1.old hb).set_votes (Q := fun k => w1.heap.size ≤ k) (Kd.S_mono (Kd.S_lower (Kd.S_bound hv) (by omega : base ≤ W.heap.size)) (fun k hk => by have := hk.2.1; omega)) (fun k hk hk2 => by have := hk2.2.1; omega)
  refine (h.below hb).put 8 v (hn.mono (fun k hk => ?_))
  rcases hk with hk | hk
  · exact hk.1
  · exact .inr (by omega)
theorem Did.drewN (h : Did w w1 base g ok x) (n : Nat) : Did w (w1.drewN n) base g ok x := h.below (pw_below_drewN (Below.refl _ _) n)
theorem Did.drew (h : Did w w1 base g ok x) : Did w w1.drew base g ok x := h.below (below_drew (Below.refl _ _))
theorem Did.alloc (h : Did w w1 base g ok x) (o : Obj) : Did w (w1.alloc o) base g ok x := h.below (below_alloc (Below.refl _ _) o)
end
theorem clear_did (x : Nod) (w0 w : World) (base g : Nat) (ok : Nat → Prop) (hn0 : 0 ≤ x.n) (hn1 : x.n ≤ 1000) (h : Did w0 w base g ok x) :
    Calls Try.prog 39 #[.pointer (some ⟨g, 0, none⟩)] w fun e w' => e = .returned (.tuple #[]) ∧ Did w0 w' base g ok x.clear := by
  refine (clear_calls x w base g _ hn0 hn1 h.1).mono ?_
  rintro e w' ⟨rfl, a, b, c⟩
  exact ⟨rfl, h.then_ ⟨a, b, c, by have := h.2.2.1.size; have := h.2.2.2.1; omega, .inl h.2.2.2.2⟩⟩
theorem count_did (x : Nod) (w0 w : World) (base g : Nat) (ok : Nat → Prop) (c : Int) (hid : 0 ≤ x.id) (hid2 : x.id < (x.acks.length : Int)) (hv : 0 ≤ x.view) (hn : 1 ≤ x.n) (hc : quorum_Commit.f (x.acks.set x.id.toNat (x.log.length : Int)) = some c) (h : Did w0 w base g ok x) :
    Calls Try.prog 35 #[.pointer (some ⟨g, 0, none⟩)] w fun e w' => e = .returned (.tuple #[]) ∧ Did w0 w' base g ok (x.count c) := by
  have hbase : base ≤ w.heap.size := by have := h.2.2.1.size; have := h.2.2.2.1; omega
  refine (count_calls x w base g _ c hid hid2 hv hn hc hbase h.1).mono ?_
  rintro e w' ⟨rfl, a, b, c⟩
  exact ⟨rfl, h.then_ ⟨a, b, c, hbase, .inl h.2.2.2.2⟩⟩
def Nod.join (x : Nod) (view : Int) (r : List S66) : Nod := { ({ x with view := view, works := false } : Nod).clear with votes := r }
set_option maxHeartbeats 8000000 in
set_option maxRecDepth 100000 in
theorem join_did (k : Nat) (x : Nod) (view : Int) (r : List S66) (w0 w : World) (base g : Nat) (ok : Nat → Prop) (hn0 : 0 ≤ x.n) (hn1 : x.n ≤ 1000) (hr : quorum_Add.f k [] x.id x.last x.commit x.log = some r) (h : Did w0 w base g ok x) :
    Calls Try.prog 29 #[.pointer (some ⟨g, 0, none⟩), .int .i64 view] w fun e w' => e = .returned (.tuple #[]) ∧ Did w0 w' base g ok (x.join view r) := by
  have hu57 := Try.underlying57
  have hu26 := Try.underlying26
  have HN := Aside0.mk h
  have hN0 := Aside0.mk hn0
  have hN1 := Aside0.mk hn1
  have HR := Aside0.mk (show quorum_Add.f k [] (Nod.clear { x with view := view, works := false }).id (Nod.clear { x with view := view, works := false }).last (Nod.clear { x with view := view, works := false }).commit (Nod.clear { x with view := view, works := false }).log = some r from hr)
  obtain ⟨A6, c6, A7, c7, A8, c8, A9, c9, hb, -⟩ := h.blk
  have hc2 : w.cell? ⟨g, 2, none⟩ = some (.int .i64 x.view) := blk_cell hb 2
  have hf2 : w.frozen? ⟨g, 2, none⟩ = false := blk_frozen hb 2
  have hput : ∀ u, (w.setCell ⟨g, 2, none⟩ (.int .i64 u)).heap[g]? = some (.cells (Nod.cells { x with view := u } (.slice A6 x.log.length c6) (.slice A7 x.acks.length c7) (.slice A8 x.votes.length c8) (.slice A9 x.told.length c9)) 57 (0, 0)) := fun u => blk_put hb 2 _ rfl
  have hc4 : ∀ u, (w.setCell ⟨g, 2, none⟩ (.int .i64 u)).cell? ⟨g, 4, none⟩ = some (.bool x.works) := fun u => blk_cell (hput u) 4
  have hf4 : ∀ u, (w.setCell ⟨g, 2, none⟩ (.int .i64 u)).frozen? ⟨g, 4, none⟩ = false := fun u => blk_frozen (hput u) 4
  clear hb hput h hn0 hn1 hr
  go_enter Try.func29, Try.ntmps29
  go_wp2_with (first | (go_at_call 39; refine (clear_did { x with view := view, works := false } w0 _ base g ok hN0.out hN1.out ((HN.out.set_view view).set_works false)).mono ?_; rintro e w3 ⟨rfl, h3⟩; have HN3 := Aside0.mk h3; clear h3) | (go_at_call 33; refine (own_calls _ w3 base g _ HN3.out.1).mono ?_; rintro e w4 ⟨B6, b6, rfl, hc6, hC, hb4⟩; have HC6 := Aside0.mk hc6; have HC := Aside0.mk hC; have HB4 := Aside0.mk hb4; clear hc6 hC hb4) | (go_at_call 40; refine (quorum_Add.calls k none 0 [] _ _ _ B6 b6 _ r w4 (Kd.C_nil _ _) (Nat.le_refl 0) (Kd.C_below HC.out HB4.out) HC6.out HR.out).mono ?_; rintro e w5 ⟨v0, rfl, hS, hb5⟩; obtain ⟨S8, s8, rfl⟩ := Kd.S_slice hS; have HS := Aside0.mk hS; have HB5 := Aside0.mk hb5; obtain ⟨D6, d6, D7, d7, D8, d8, D9, d9, hb, -⟩ := ((HN3.out.below HB4.out).below HB5.out).blk; have hs8 : w5.cell? ⟨g, 8, none⟩ = some _ := blk_cell hb 8; have ht8 : w5.frozen? ⟨g, 8, none⟩ = false := blk_frozen hb 8; clear hS hb5 hb))
  all_goals
    go_end0
    exact ⟨rfl, (HN3.out.below HB4.out).set_votes HB5.out (Nat.le_refl _) HS.out⟩
end Go.Proofs.Ytfpfpckocemmdaa.P
end
section
namespace Go.Proofs.Ytfpfpckocemmdaa.P
open Go.RowKit Go.Proofs.YtfpfpckocemmdaaW.PrintWords Go.Proofs.YtfpfpckocemmdaaW.PrintLast Go.Proofs.YtfpfpckocemmdaaW.PrintMore
set_option linter.unusedVariables false
set_option linter.unusedSimpArgs false
theorem info28 : (Try.prog.info? 28).map (fun i => (i.zero, i.size, i.bytes)) = some (some (.agg #[.int .i64 0, .int .i64 0, .int .i64 0, .int .i64 0, .int .i64 0, .int .i64 0, .int .i64 0, .slice none 0 0]), 8, 80) := by kernel_rfl
def Nod.say (x : Nod) (m : S28) : Nod := { x with told := x.told ++ [m] }
theorem Did.say_core {w0 w W : World} {base g : Nat} {ok : Nat → Prop} {x : Nod} {v0 : Value} (h : Did w0 w base g ok x) (hb : Below w.heap.size w W) (hc : w.cell? ⟨g, 9, none⟩ = some v0) :
    ∃ P : Nat → Prop, Kd.S k28 28 W base (fun k => P k ∧ ¬ w.heap.size ≤ k) v0 x.told ∧ (∀ k, w.heap.size ≤ k → P k ∧ some k ≠ v0.ownBlock) ∧ base ≤ w.heap.size ∧
      ∀ m v1 w1, Kd.S k28 28 w1 base P v1 (x.told ++ [m]) → W.grownBy w1 v0.ownBlock → Did w0 (w1.setCell ⟨g, 9, none⟩ v1) base g ok (x.say m) ∧ w1.heap[g]? = w.heap[g]? := by
  have hlt := h.1.lt
  have hge := h.1.ge
  have hbase : base ≤ w.heap.size := by have := h.2.2.1.size; have := h.2.2.2.1; omega
  have hN := h.1
  obtain ⟨v6, v7, v8, v9, P6, P7, P8, P9, hb9, hg, ⟨hok, hok2⟩, h6, h7, h8, h9, ho, a6, a7, a8⟩ := h.1.bound
  have e9 : v9 = v0 := by
    have h1 : w.cell? ⟨g, 9, none⟩ = some v9 := blk_cell hb9 9
    rw [h1] at hc
    exact Option.some.inj hc
  subst e9
  have hown : ∀ k, v9.ownBlock = some k → P9 k := fun k hk => (Kd.S_R h9).1 k hk
  have hP9 : ∀ k, P9 k → k < w.heap.size ∧ k ≠ g := fun k hk => ⟨(ho k (.inr (.inr (.inr hk)))).1.2.1, (ho k (.inr (.inr (.inr hk)))).2⟩
  refine ⟨fun k => P9 k ∨ w.heap.size ≤ k, Kd.S_mono (Kd.S_below h9 hb) (fun k hk => ⟨.inl hk, by have := (hP9 k hk).1; omega⟩), fun k hk => ⟨.inr hk, fun e => by have := (hP9 k (hown k e.symm)).1; omega⟩, hbase, ?_⟩
  intro m v1 w1 hs hgr
  have hstay : ∀ k, k < w.heap.size → ¬ P9 k → w1.heap[k]? = w.heap[k]? := fun k hk hn => (hgr.block k (by have := hb.size; omega) (fun e => hn (hown k e.symm))).trans (hb.block k hk)
  have hg1 : w1.heap[g]? = w.heap[g]? := hstay g hlt (fun hp => (hP9 g hp).2 rfl)
  have hsz : w.heap.size ≤ w1.heap.size := by have := hb.size; have := hgr.size; omega
  have hb1 : w1.heap[g]? = some (.cells (x.cells v6 v7 v8 v9) 57 (0, 0)) := hg1.trans hb9
  have hko : ∀ k, k < w.heap.size → (ok k ∨ w0.heap.size ≤ k) ∨ w.heap.size ≤ k → ok k ∨ w0.heap.size ≤ k := fun k hk h => h.elim id (fun h => by omega)
  have hnd : Nd (w1.setCell ⟨g, 9, none⟩ v1) base g (fun k => ok k ∨ w0.heap.size ≤ k) (x.say m) := by
    have hs0 : w0.heap.size ≤ w.heap.size := h.2.2.1.size
    refine ⟨v6, v7, v8, v1, P6, P7, P8, fun k => P9 k ∨ w.heap.size ≤ k, blk_put (cs' := (x.say m).cells v6 v7 v8 v1) hb1 9 _ rfl, hg, hok, ?_, ?_, ?_, ?_, ?_, ?_, ?_, ?_⟩
    · exact Kd.R_far (Kd.R_step h6 (fun k hp hl => hstay k hl (a6 k hp).2.2)) (fun k hp => (ho k (.inl hp)).2) _
    · exact Kd.R_far (Kd.R_step h7 (fun k hp hl => hstay k hl (a7 k hp).2)) (fun k hp => (ho k (.inr (.inl hp))).2) _
    · exact Kd.S_far (Kd.S_step h8 (fun k hp hl => hstay k hl (a8 k hp))) (fun k hp => (ho k (.inr (.inr (.inl hp)))).2) _
    · exact Kd.S_far hs (fun k hp e => by rcases hp with hp | hp; exact (hP9 k hp).2 e; have : k = g := e; omega) _
    · rintro k (hk | hk | hk | hk | hk)
      · exact ⟨(ho k (.inl hk)).1.1, (ho k (.inl hk)).2⟩
      · exact ⟨(ho k (.inr (.inl hk))).1.1, (ho k (.inr (.inl hk))).2⟩
      · exact ⟨(ho k (.inr (.inr (.inl hk)))).1.1, (ho k (.inr (.inr (.inl hk)))).2⟩
      · exact ⟨(ho k (.inr (.inr (.inr hk)))).1.1, (hP9 k hk).2⟩
      · exact ⟨.inr (by omega), by omega⟩
    · exact fun k hk => ⟨(a6 k hk).1, (a6 k hk).2.1, fun h => h.elim (a6 k hk).2.2 (fun h => by have := (ho k (.inl hk)).1.2.1; omega)⟩
    · exact fun k hk => ⟨(a7 k hk).1, fun h => h.elim (a7 k hk).2 (fun h => by have := (ho k (.inr (.inl hk))).1.2.1; omega)⟩
    · exact fun k hk h => h.elim (a8 k hk) (fun h => by have := (ho k (.inr (.inr (.inl hk)))).1.2.1; omega)
  have hown9 : ∀ k, P9 k → (ok k ∨ w0.heap.size ≤ k) ∧ base ≤ k := fun k hk => ⟨(ho k (.inr (.inr (.inr hk)))).1.1, (ho k (.inr (.inr (.inr hk)))).1.2.2⟩
  have hkept : Kept w0 w1 ok := h.2.1.then_ (S2 := fun k => P9 k) ⟨hsz, fun k hk hn => hstay k hk hn⟩ (fun k hk => (hown9 k hk).1)
  have hbel : Below base w0 w1 := h.2.2.1.trans ⟨by rw [hgr.os, hb.os], by rw [hgr.tape, hb.tape], by rw [hgr.output, hb.output], hsz, fun k hk => hstay k (by omega) (fun hp => by have := (hown9 k hp).2; omega)⟩
  exact ⟨⟨hnd, hkept.setCell (.inl h.2.2.2.2) _, below_at hbel hge, h.2.2.2⟩, hg1⟩
theorem say_M {w W : World} {base : Nat} {m : S28} {A : Option Addr} {c : Nat} (hbase : base ≤ w.heap.size) (hR : Kd.R Kd.string 9 W w.heap.size (fun _ => True) (.slice A m.f7.length c) m.f7) :
    k28.M W base (fun k => w.heap.size ≤ k) m [.int .i64 m.f0, .int .i64 m.f1, .int .i64 m.f2, .int .i64 m.f3, .int .i64 m.f4, .int .i64 m.f5, .int .i64 m.f6, .slice A m.f7.length c] :=
  k28_mkM W base _ m (Kd.R_mono (Kd.R_lower (Kd.R_bound hR) hbase) (fun k hk => hk.2.1))
theorem say_step {w0 w W : World} {base g : Nat} {ok : Nat → Prop} {x : Nod} {ops : Array Oper} {o : Oper} {a : Act} {Kc : Act → World → Prop} {Q : Exit → Act → World → Prop} (m : S28) (A9 : Option Addr) (c9 : Nat) (A : Option Addr) (c : Nat) (h : Did w0 w base g ok x) (hb : Below w.heap.size w W) (hc : w.cell? ⟨g, 9, none⟩ = some (.slice A9 x.told.length c9)) (hR : Kd.R Kd.string 9 W w.heap.size (fun _ => True) (.slice A m.f7.length c) m.f7) (hl : x.told.length ≤ 100000)
    (hg : o.guard = none) (s y : Operand) (ho : o.op = .call { callee := .builtin .append, args := #[s, y], argTypes := #[30, 30] }) (hs : a.eval s = .slice A9 x.told.length c9) (hy : a.eval y = .slice (some ⟨W.heap.size, 0, none⟩) 1 1)
    (hk : ∀ v1 w1, Did w0 (w1.setCell ⟨g, 9, none⟩ v1) base g ok (x.say m) → w1.heap[g]? = w.heap[g]? → (∃ A1 c1, v1 = .slice A1 (x.say m).told.length c1) → Kc (a.put o.dst v1) w1) :
    if Region.wanted o (yielded ops a.tmps) = true then Oper.wp Try.prog o a (W.alloc (.cells #[.int .i64 m.f0, .int .i64 m.f1, .int .i64 m.f2, .int .i64 m.f3, .int .i64 m.f4, .int .i64 m.f5, .int .i64 m.f6, .slice A m.f7.length c] 28)) Kc Q else Kc (a.put o.dst undef) (W.alloc (.cells #[.int .i64 m.f0, .int .i64 m.f1, .int .i64 m.f2, .int .i64 m.f3, .int .i64 m.f4, .int .i64 m.f5, .int .i64 m.f6, .slice A m.f7.length c] 28)) := by
  obtain ⟨P, hS, hP, hbase, hend⟩ := h.say_core hb hc
  refine Kd.S_append_step k28 (w0 := W) base (by simp [Region.wanted, hg]) s y 30 28 (.agg #[.int .i64 0, .int .i64 0, .int .i64 0, .int .i64 0, .int .i64 0, .int .i64 0, .int .i64 0, .slice none 0 0]) 80 ho Try.underlying30 info28 rfl (by decide) (by omega) _ x.told m [.int .i64 m.f0, .int .i64 m.f1, .int .i64 m.f2, .int .i64 m.f3, .int .i64 m.f4, .int .i64 m.f5, .int .i64 m.f6, .slice A m.f7.length c] P (fun k => w.heap.size ≤ k) hs hy (say_M hbase hR) hP (fun k hk => (hP k (by have := hb.size; omega)).1) hS (Below.refl _ _) (by have := hb.size; omega) (by have := hl; omega) ?_
  intro v1 w1 hs1 hb1 hg1 _
  obtain ⟨hd, he⟩ := hend m v1 w1 hs1 hg1
  obtain ⟨A1, c1, rfl⟩ := Kd.S_slice hs1
  exact hk _ w1 hd he ⟨A1, c1, rfl⟩
end Go.Proofs.Ytfpfpckocemmdaa.P
end
section
namespace Go.Proofs.Ytfpfpckocemmdaa.P
open Go.RowKit Go.Proofs.YtfpfpckocemmdaaW.PrintWords Go.Proofs.YtfpfpckocemmdaaW.PrintLast Go.Proofs.YtfpfpckocemmdaaW.PrintMore
set_option linter.unusedVariables false
set_option linter.unusedSimpArgs false
@[reducible] def ldTold (n : Nat) : Op := Op.load 30 (Operand.tmp n)
theorem ldTold_eq (n : Nat) : Op.load 30 (Operand.tmp n) = ldTold n := rfl
def Nod.prep (x : Nod) (j : Int) : S28 := ⟨1, x.id, j, x.view, 0, x.commit, 0, x.log⟩
def Nod.upto (x : Nod) (i : Nat) : List S28 := ((List.range i).filter (fun j : Nat => (j : Int) ≠ x.id)).map (fun j : Nat => x.prep (j : Int))
def Nod.tells (x : Nod) (i : Nat) : Nod := { x with told := x.told ++ x.upto i }
def Nod.tell (x : Nod) : Nod := x.tells x.n.toNat
theorem Nod.upto_le (x : Nod) (i : Nat) : (x.upto i).length ≤ i := by
  unfold Nod.upto
  rw [List.length_map]
  exact Nat.le_trans (List.length_filter_le _ _) (by simp)
theorem Nod.tells_self (x : Nod) (i : Nat) (h : (i : Int) = x.id) : x.tells (i + 1) = x.tells i := by
  unfold Nod.tells Nod.upto
  rw [List.range_succ, List.filter_append]
  simp [h]
theorem Nod.tells_other (x : Nod) (i : Nat) (h : (i : Int) ≠ x.id) : x.tells (i + 1) = (x.tells i).say (x.prep (i : Int)) := by
  unfold Nod.tells Nod.upto Nod.say
  rw [List.range_succ, List.filter_append]
  simp [h]
theorem prepare_of (a b c d : Int) (l : List ByteArray) (hl : l.length < 4398046511104) : msg_Prepare.f a b c d l = some (1, a, b, c, 0, d, 0, l) := by
  unfold msg_Prepare.f slices_Clone_string_string.f
  rw [if_pos hl]; rfl
set_option maxHeartbeats 8000000 in
set_option maxRecDepth 100000 in
theorem tell_did (x : Nod) (w0 w : World) (base g : Nat) (ok : Nat → Prop) (hn0 : 0 ≤ x.n) (hn1 : x.n ≤ 1000) (ht : x.told.length ≤ 1000) (hlog : x.log.length < 4398046511104) (h : Did w0 w base g ok x) :
    Calls Try.prog 36 #[.pointer (some ⟨g, 0, none⟩)] w fun e w' => e = .returned (.tuple #[]) ∧ Did w0 w' base g ok x.tell := by
  have hu57 := Try.underlying57
  have hu26 := Try.underlying26
  have hu28 := Try.underlying28
  have HN := Aside0.mk h
  have HT := Aside0.mk ht
  have HLOG := Aside0.mk hlog
  obtain ⟨n, hn⟩ := Int.eq_ofNat_of_zero_le hn0
  have HN1 := Aside0.mk (show n ≤ 1000 by omega)
  have HE := Aside0.mk (show x.tell = x.tells n by unfold Nod.tell; rw [hn]; rfl)
  obtain ⟨A6, c6, A7, c7, A8, c8, A9, c9, hb, -⟩ := h.blk
  have hc1 : w.cell? ⟨g, 1, none⟩ = some (.int .i64 x.n) := blk_cell hb 1
  rw [hn] at hc1
  clear hb h ht hlog hn0 hn1
  have HNE := Aside0.mk hn
  clear hn
  go_enter Try.func36, Try.ntmps36
  go_wp2
  go_loopg [2, 8] n (fun kq v2 v8 w' => ∃ (i : Nat), v8 = .int .i64 (i : Int) ∧ Aside0 (kq = n - i ∧ i ≤ n) ∧ Aside0 (Did w0 w' base g ok (x.tells i)))
  case atStart =>
    refine ⟨0, rfl, ⟨by simp⟩, ⟨?_⟩⟩
    have h0 : x.tells 0 = x := by simp [Nod.tells, Nod.upto]
    rw [h0]; exact HN.out
  case round =>
    obtain ⟨i, rfl, hi, HD⟩ := hrel
    have hwr : wrap64 ((i : Int) + 1) = ((i + 1 : Nat) : Int) := by have := HN1.out; have := hi.out; unfold wrap64; omega
    have HW := Aside0.mk hwr
    clear hwr
    by_cases hlt : i < n
    · have hb1 : decide ((i : Int) < (n : Int)) = true := decide_eq_true (by omega)
      obtain ⟨A6, c6, A7, c7, A8, c8, A9, c9, hb, hc6, hC, -⟩ := HD.out.blk
      have HBK := Aside0.mk hb
      have HC6 := Aside0.mk hc6
      have HC := Aside0.mk hC
      have hx0 : wr.cell? ⟨g, 0, none⟩ = some (.int .i64 x.id) := blk_cell hb 0
      have hx2 : wr.cell? ⟨g, 2, none⟩ = some (.int .i64 x.view) := blk_cell hb 2
      have hx5 : wr.cell? ⟨g, 5, none⟩ = some (.int .i64 x.commit) := blk_cell hb 5
      have hx6 : wr.cell? ⟨g, 6, none⟩ = some (.slice A6 x.log.length c6) := blk_cell hb 6
      have hx9 : wr.cell? ⟨g, 9, none⟩ = some (.slice A9 (x.tells i).told.length c9) := blk_cell hb 9
      clear hb hc6 hC
      by_cases he : (i : Int) = x.id
      · have e1 : ((i : Int) == x.id) = true := beq_iff_eq.mpr he
        have e2 : ((i : Int) != x.id) = false := bne_eq_false_iff_eq.mpr he
        have HE1 := Aside0.mk he
        clear he
        go_wp2
        go_roundg (n - (i + 1))
        case measure => have := hi.out.1; omega
        case rel =>
          refine ⟨i + 1, by rw [HW.out], ⟨by have := hi.out; omega, by omega⟩, ⟨?_⟩⟩
          rw [x.tells_self i HE1.out]; exact HD.out
      · have e1 : ((i : Int) == x.id) = false := beq_eq_false_iff_ne.mpr he
        have e2 : ((i : Int) != x.id) = true := bne_iff_ne.mpr he
        have HE1 := Aside0.mk he
        have HP := Aside0.mk (prepare_of x.id (i : Int) x.view x.commit x.log HLOG.out)
        have HBKD := Aside0.mk (show wr.drew.heap[g]? = some _ from HBK.out)
        have HC9 := Aside0.mk (show wr.drew.cell? ⟨g, 9, none⟩ = _ from hx9)
        have HTI := Aside0.mk (show (x.tells i).told.length ≤ 100000 by unfold Nod.tells; rw [List.length_append]; have := x.upto_le i; have := HT.out; have := HN1.out; omega)
        clear he
        go_wp2
        rw [ldTold_eq 21]
        go_region_held3 (fun W => W.cell? ⟨g, 0, none⟩ = some (.int .i64 x.id) ∧ W.cell? ⟨g, 2, none⟩ = some (.int .i64 x.view) ∧ W.cell? ⟨g, 5, none⟩ = some (.int .i64 x.commit) ∧ W.cell? ⟨g, 6, none⟩ = some (.slice A6 x.log.length c6))
          (first
            | exact ⟨hx0, hx2, hx5, hx6⟩
            | exact ⟨blk_cell HBK3.out 0, blk_cell HBK3.out 2, blk_cell HBK3.out 5, blk_cell HBK3.out 6⟩
            | exact ⟨blk_cell (blk_alloc HBK3.out _) 0, blk_cell (blk_alloc HBK3.out _) 2, blk_cell (blk_alloc HBK3.out _) 5, blk_cell (blk_alloc HBK3.out _) 6⟩
            | exact ⟨blk_cell HBK4.out 0, blk_cell HBK4.out 2, blk_cell HBK4.out 5, blk_cell HBK4.out 6⟩
            | exact ⟨blk_cell HBK5.out 0, blk_cell HBK5.out 2, blk_cell HBK5.out 5, blk_cell HBK5.out 6⟩
            | go_keep)
          (first
            | (refine x_step_call rfl Try.func48 (by kernel_rfl) rfl #[.int .i64 x.id, .int .i64 (i : Int), .int .i64 x.view, .int .i64 x.commit, .slice A6 x.log.length c6] rfl (by simp [Act.eval, Act.put]) ?_; refine (msg_Prepare.calls x.id (i : Int) x.view x.commit A6 c6 x.log 1 x.id (i : Int) x.view 0 x.commit 0 x.log wr.drew (Kd.C_drew HC.out) HC6.out HP.out).mono ?_; rintro e w3 ⟨v7, rfl, hR, hb3⟩; have HB3 := Aside0.mk hb3; obtain ⟨AR, cR, eR⟩ := Kd.R_slice hR; subst eR; have HR := Aside0.mk hR; have HBK3 := Aside0.mk ((hb3.block g (show g < wr.drew.heap.size from blk_lt HBK.out)).trans HBK.out); have hs9 : ∀ o, (w3.alloc o).cell? ⟨g, 9, none⟩ = some (.slice A9 (x.tells i).told.length c9) := fun o => blk_cell (blk_alloc HBK3.out o) 9; have hs9' : w3.cell? ⟨g, 9, none⟩ = some (.slice A9 (x.tells i).told.length c9) := blk_cell HBK3.out 9; clear hb3 hR; refine ⟨_, rfl, ?_⟩)
            | (refine say_step (x.prep (i : Int)) A9 c9 AR cR (HD.out.drew) HB3.out (HC9.out) HR.out HTI.out rfl (.tmp 22) (.tmp 45) rfl rfl rfl ?_; intro v1 w4 hd4 hg4 hv4; obtain ⟨A1, c1, rfl⟩ := hv4; have HD4 := Aside0.mk hd4; have HBK4 := Aside0.mk (hg4.trans HBKD.out); have HBK5 := Aside0.mk (blk_put (cs' := (x.tells i).cells (.slice A6 (x.tells i).log.length c6) (.slice A7 (x.tells i).acks.length c7) (.slice A8 (x.tells i).votes.length c8) (.slice A1 ((x.tells i).say (x.prep (i : Int))).told.length c1)) HBK4.out 9 (.slice A1 ((x.tells i).say (x.prep (i : Int))).told.length c1) rfl); have hr9 : w4.cell? ⟨g, 9, none⟩ = some (.slice A9 (x.tells i).told.length c9) := blk_cell HBK4.out 9; have hf9 : w4.frozen? ⟨g, 9, none⟩ = false := blk_frozen HBK4.out 9; clear hd4 hg4))
        all_goals
          go_wp2
          go_roundg (n - (i + 1))
          case measure => have := hi.out.1; omega
          case rel =>
            refine ⟨i + 1, by rw [HW.out], ⟨by have := hi.out; omega, by omega⟩, ⟨?_⟩⟩
            rw [x.tells_other i HE1.out]; exact HD4.out
    · have hb1 : decide ((i : Int) < (n : Int)) = false := decide_eq_false (by omega)
      have hie : i = n := by have := hi.out; omega
      subst hie
      go_wp2
      go_end0
      exact ⟨rfl, by rw [HE.out]; exact HD.out⟩
end Go.Proofs.Ytfpfpckocemmdaa.P
end
section
namespace Go.Proofs.Ytfpfpckocemmdaa.P
open Go.RowKit Go.Proofs.YtfpfpckocemmdaaW.PrintWords Go.Proofs.YtfpfpckocemmdaaW.PrintLast Go.Proofs.YtfpfpckocemmdaaW.PrintMore
set_option linter.unusedVariables false
set_option linter.unusedSimpArgs false
set_option maxHeartbeats 8000000 in
set_option maxRecDepth 100000 in
theorem ack_calls (a b c n : Int) (w : World) :
    Calls Try.prog 46 #[.int .i64 a, .int .i64 b, .int .i64 c, .int .i64 n] w fun e w' => e = .returned (.agg #[.int .i64 2, .int .i64 a, .int .i64 b, .int .i64 c, .int .i64 0, .int .i64 0, .int .i64 n, .slice none 0 0]) ∧ Below w.heap.size w w' := by
  have hu28 := Try.underlying28
  go_enter Try.func46, Try.ntmps46
  go_wp2
  refine bodyPost_ret (results_cell_row rfl _ _ w.heap.size 28 #[.int .i64 2, .int .i64 a, .int .i64 b, .int .i64 c, .int .i64 0, .int .i64 0, .int .i64 n, .slice none 0 0] (0, 0) _ rfl ?_ Try.underlying28 rfl (by kernel_rfl)) rfl ?_
  · exact x_alloc_new _ _
  · exact ⟨rfl, below_alloc (Below.refl _ _) _⟩
theorem alloc2_new (w : World) (a b : Obj) : ((w.alloc a).alloc b).heap[w.heap.size + 1]? = some b := by
  have h := x_alloc_new (w.alloc a) b
  simpa using h
theorem alloc2_size (w : World) (a b : Obj) : ((w.alloc a).alloc b).drew.heap.size = w.heap.size + 2 := by show ((w.alloc a).alloc b).heap.size = _; simp
set_option maxHeartbeats 8000000 in
set_option maxRecDepth 100000 in
theorem vote_calls (m : S28) (A : Option Addr) (c : Nat) (w : World) (hk : m.f0 = 3) (hc : m.f7.length ≤ c) (hC : Kd.C Kd.string w A m.f7.length m.f7) (hl : m.f7.length < 4398046511104) :
    Calls Try.prog 49 #[.agg #[.int .i64 m.f0, .int .i64 m.f1, .int .i64 m.f2, .int .i64 m.f3, .int .i64 m.f4, .int .i64 m.f5, .int .i64 m.f6, .slice A m.f7.length c]] w fun e w' => ∃ v, e = .returned (.tuple #[.agg #[.int .i64 m.f1, .int .i64 m.f4, .int .i64 m.f5, v], .bool true]) ∧ Kd.R Kd.string 9 w' w.heap.size (fun _ => True) v m.f7 ∧ Below w.heap.size w w' := by
  have hu28 := Try.underlying28
  have hu66 := Try.underlying66
  have HC := Aside0.mk hC
  have HCC := Aside0.mk hc
  have HL := Aside0.mk (show slices_Clone_string_string.f m.f7 = some m.f7 from if_pos hl)
  have e1 : (m.f0 == (3 : Int)) = true := beq_iff_eq.mpr hk
  have e2 : (m.f0 != (3 : Int)) = false := bne_eq_false_iff_eq.mpr hk
  clear hC hc hl
  have HK := Aside0.mk hk
  clear hk
  go_enter Try.func49, Try.ntmps49
  go_wp2
  have HBM := Aside0.mk (show ((w.alloc (.cells #[.int .i64 m.f0, .int .i64 m.f1, .int .i64 m.f2, .int .i64 m.f3, .int .i64 m.f4, .int .i64 m.f5, .int .i64 m.f6, .slice A m.f7.length c] 28)).alloc (.cells #[.int .i64 0, .int .i64 0, .int .i64 0, .slice none 0 0] 66)).drew.heap[w.heap.size]? = some (.cells #[.int .i64 m.f0, .int .i64 m.f1, .int .i64 m.f2, .int .i64 m.f3, .int .i64 m.f4, .int .i64 m.f5, .int .i64 m.f6, .slice A m.f7.length c] 28 (0, 0)) from blk_alloc (x_alloc_new _ _) _)
  have HBZ := Aside0.mk (show ((w.alloc (.cells #[.int .i64 m.f0, .int .i64 m.f1, .int .i64 m.f2, .int .i64 m.f3, .int .i64 m.f4, .int .i64 m.f5, .int .i64 m.f6, .slice A m.f7.length c] 28)).alloc (.cells #[.int .i64 0, .int .i64 0, .int .i64 0, .slice none 0 0] 66)).drew.heap[w.heap.size + 1]? = some (.cells #[.int .i64 0, .int .i64 0, .int .i64 0, .slice none 0 0] 66 (0, 0)) from alloc2_new w _ _)
  go_region_held3 (fun W => W.cell? ⟨w.heap.size, 1, none⟩ = some (.int .i64 m.f1) ∧ W.cell? ⟨w.heap.size, 4, none⟩ = some (.int .i64 m.f4) ∧ W.cell? ⟨w.heap.size, 5, none⟩ = some (.int .i64 m.f5) ∧ W.cell? ⟨w.heap.size, 7, none⟩ = some (.slice A m.f7.length c))
    (first
      | exact ⟨blk_cell HBM.out 1, blk_cell HBM.out 4, blk_cell HBM.out 5, blk_cell HBM.out 7⟩
      | exact ⟨blk_cell HBM3.out 1, blk_cell HBM3.out 4, blk_cell HBM3.out 5, blk_cell HBM3.out 7⟩
      | exact ⟨blk_cell (HF.out _ _ _ _) 1, blk_cell (HF.out _ _ _ _) 4, blk_cell (HF.out _ _ _ _) 5, blk_cell (HF.out _ _ _ _) 7⟩
      | go_keep)
    (first
      | (refine x_step_call rfl Try.func42 (by kernel_rfl) rfl #[.slice A m.f7.length c] rfl (by simp [Act.eval, Act.put]) ?_; refine (slices_Clone_string_string.calls A c m.f7 m.f7 ((w.alloc (.cells #[.int .i64 m.f0, .int .i64 m.f1, .int .i64 m.f2, .int .i64 m.f3, .int .i64 m.f4, .int .i64 m.f5, .int .i64 m.f6, .slice A m.f7.length c] 28)).alloc (.cells #[.int .i64 0, .int .i64 0, .int .i64 0, .slice none 0 0] 66)).drew (Kd.C_drew (Kd.C_alloc (Kd.C_alloc HC.out _) _)) HCC.out HL.out).mono ?_; rintro e w3 ⟨v7, rfl, hR, hb3⟩; obtain ⟨AR, cR, eR⟩ := Kd.R_slice hR; subst eR; have HB3 := Aside0.mk hb3; have HR := Aside0.mk hR; have HBM3 := Aside0.mk ((hb3.block w.heap.size (by rw [alloc2_size]; omega)).trans HBM.out); have HBZ3 := Aside0.mk ((hb3.block (w.heap.size + 1) (by rw [alloc2_size]; omega)).trans HBZ.out); have HF := Aside0.mk (fun u0 u1 u2 u3 : Value => blk_far (p := ⟨w.heap.size + 1, 3, none⟩) (blk_far (p := ⟨w.heap.size + 1, 2, none⟩) (blk_far (p := ⟨w.heap.size + 1, 1, none⟩) (blk_far (p := ⟨w.heap.size + 1, 0, none⟩) HBM3.out (by simp) u0) (by simp) u1) (by simp) u2) (by simp) u3); have hz0 : w3.cell? ⟨w.heap.size + 1, 0, none⟩ = some (.int .i64 0) := blk_cell HBZ3.out 0; have hz1 : w3.cell? ⟨w.heap.size + 1, 1, none⟩ = some (.int .i64 0) := blk_cell HBZ3.out 1; have hz2 : w3.cell? ⟨w.heap.size + 1, 2, none⟩ = some (.int .i64 0) := blk_cell HBZ3.out 2; have hz3 : w3.cell? ⟨w.heap.size + 1, 3, none⟩ = some (.slice none 0 0) := blk_cell HBZ3.out 3; have hf0 : w3.frozen? ⟨w.heap.size + 1, 0, none⟩ = false := blk_frozen HBZ3.out 0; have hf1 : w3.frozen? ⟨w.heap.size + 1, 1, none⟩ = false := blk_frozen HBZ3.out 1; have hf2 : w3.frozen? ⟨w.heap.size + 1, 2, none⟩ = false := blk_frozen HBZ3.out 2; have hf3 : w3.frozen? ⟨w.heap.size + 1, 3, none⟩ = false := blk_frozen HBZ3.out 3; clear hb3 hR; refine ⟨_, rfl, ?_⟩))
  all_goals
    go_wp2
    refine bodyPost_ret (results_ct rfl _ _ (w.heap.size + 1) 66 #[.int .i64 m.f1, .int .i64 m.f4, .int .i64 m.f5, .slice AR m.f7.length cR] (0, 0) _ rfl ?_ Try.underlying66 rfl (by kernel_rfl)) rfl ?_
    · refine blk_put (cs := #[.int .i64 m.f1, .int .i64 m.f4, .int .i64 m.f5, .slice none 0 0]) ?_ 3 _ rfl
      refine blk_put (cs := #[.int .i64 m.f1, .int .i64 m.f4, .int .i64 0, .slice none 0 0]) ?_ 2 _ rfl
      refine blk_put (cs := #[.int .i64 m.f1, .int .i64 0, .int .i64 0, .slice none 0 0]) ?_ 1 _ rfl
      exact blk_put (cs := #[.int .i64 0, .int .i64 0, .int .i64 0, .slice none 0 0]) HBZ3.out 0 _ rfl
    · have hge : w.heap.size ≤ w.heap.size + 1 := by omega
      have hb4 : Below w.heap.size w w3 := (below_drew (below_alloc (below_alloc (Below.refl _ _) _) _)).trans (below_weak HB3.out (by rw [alloc2_size]; omega))
      exact ⟨_, rfl, Kd.R_mono (Kd.R_far (p := ⟨w.heap.size + 1, 3, none⟩) (Kd.R_far (p := ⟨w.heap.size + 1, 2, none⟩) (Kd.R_far (p := ⟨w.heap.size + 1, 1, none⟩) (Kd.R_far (p := ⟨w.heap.size + 1, 0, none⟩) (Kd.R_types (Kd.R_lower HR.out (by rw [alloc2_size]; omega)) HBZ3.out (by decide)) (fun _ hk => hk.2) _) (fun _ hk => hk.2) _) (fun _ hk => hk.2) _) (fun _ hk => hk.2) _) (fun _ hk => trivial), below_set (below_set (below_set (below_set hb4 hge) hge) hge) hge⟩
end Go.Proofs.Ytfpfpckocemmdaa.P
end
