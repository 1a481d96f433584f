-- printed by a program of this session (wip/tools/xprint.py) over the translation; not trusted: Lean checks it
import Derived.Test.YtbohgnecphhdmaaPx0
import Derived.Test.YtbohgnecphhdmaaPx2
import Derived.Test.YtbohgnecphhdmaaPx3
import Derived.Test.YtbohgnecphhdmaaPx7
import Derived.Test.YtbohgnecphhdmaaPx8
namespace Go.Proofs.Ytbohgnecphhdmaa.P
open Go.RowKit Go.Proofs.YtbohgnecphhdmaaW.PrintWords Go.Proofs.YtbohgnecphhdmaaW.PrintLast Go.Proofs.YtbohgnecphhdmaaW.PrintMore
attribute [local go_sem] max2_int min2_int max_two min_two max_three min_three max_four min_four   -- for this text's walks alone
set_option linter.unusedVariables false
set_option linter.unusedSimpArgs false

attribute [local go_sem high] eqA27
/-! ### sextonref19_Put: function 11 -/
mutual
def sextonref19_Put.j0 : Nat → List (S27) → Bool → Int → Int → Int → Int → Option ((List (S27)) × Int)
  | 0, _, _, _, _, _, _ => none
  | k + 1, x0, x15, x192000, x192001, x192002, x192003 => if x15 = true then (some (([] : List (S27)), 1)) else ((sextonref19_Last.f k x0 x192000).bind fun t194 => (if x192001 ≤ t194 then (some (([] : List (S27)), 180)) else ((sextonref19_find.f k x0 x192000).bind fun t195 => (if t195 < 0 then (sextonref19_Put.j1 k x0 (decide ((x0.length : Int) ≥ 50)) x192000 x192001 x192002 x192003) else (sextonref19_Put.j1 k x0 false x192000 x192001 x192002 x192003)))))
def sextonref19_Put.j1 : Nat → List (S27) → Bool → Int → Int → Int → Int → Option ((List (S27)) × Int)
  | 0, _, _, _, _, _, _ => none
  | k + 1, x0, x32, x192000, x192001, x192002, x192003 => if x32 = true then (some (([] : List (S27)), 2)) else (sextonref19_Put.l0 k x0 0 x192000 x192001 x192002 x192003)
def sextonref19_Put.l0 : Nat → List (S27) → Int → Int → Int → Int → Int → Option ((List (S27)) × Int)
  | 0, _, _, _, _, _, _ => none
  | k + 1, x0, x6, x192000, x192001, x192002, x192003 => if x6 < (x0.length : Int) then (if 0 ≤ x6 then (if ((rd_T27 x0 x6).f0) < x192000 then (sextonref19_Put.l0 k x0 (wrap64 (x6 + 1)) x192000 x192001 x192002 x192003) else (if x6 ≤ (x0.length : Int) then ((some (x0.take (x6 : Int).toNat : List (S27))).bind fun y197 => (if ([] : List (S27)).length + y197.length < 4398046511104 then ((some (([] : List (S27)) ++ y197 : List (S27))).bind fun y201 => (if y201.length < 4398046511104 then ((some (y201 ++ [(⟨x192000, x192001, (⟨x192002, x192003⟩ : S25)⟩ : S27)] : List (S27))).bind fun y204 => (if ((rd_T27 x0 x6).f0) = x192000 then (if 0 ≤ (wrap64 (x6 + 1)) then (if (wrap64 (x6 + 1)) ≤ (x0.length : Int) then ((some (x0.drop ((wrap64 (x6 + 1)) : Int).toNat : List (S27))).bind fun y208 => (if y204.length + y208.length < 4398046511104 then (some ((y204 ++ y208), 0)) else (none))) else (none)) else (none)) else ((some (x0.drop (x6 : Int).toNat : List (S27))).bind fun y215 => (if y204.length + y215.length < 4398046511104 then (some ((y204 ++ y215), 0)) else (none))))) else (none))) else (none))) else (none))) else (none)) else (if 0 ≤ x6 then (if x6 ≤ (x0.length : Int) then ((some (x0.take (x6 : Int).toNat : List (S27))).bind fun y222 => (if ([] : List (S27)).length + y222.length < 4398046511104 then ((some (([] : List (S27)) ++ y222 : List (S27))).bind fun y226 => (if y226.length < 4398046511104 then ((some (y226 ++ [(⟨x192000, x192001, (⟨x192002, x192003⟩ : S25)⟩ : S27)] : List (S27))).bind fun y229 => ((some (x0.drop (x6 : Int).toNat : List (S27))).bind fun y232 => (if y229.length + y232.length < 4398046511104 then (some ((y229 ++ y232), 0)) else (none)))) else (none))) else (none))) else (none)) else (none))
end
def sextonref19_Put.f (k : Nat) (l0 : List (S27)) (a1_0 : Int) (a1_1 : Int) (a1_2 : Int) (a1_3 : Int) : Option ((List (S27)) × Int) := (sextonref19_Is.f k l0).bind fun t192 => (if t192 = true then ((sextonref19_may.f a1_0 a1_1 a1_2 a1_3).bind fun t193 => (sextonref19_Put.j0 k l0 (!t193) a1_0 a1_1 a1_2 a1_3)) else (sextonref19_Put.j0 k l0 true a1_0 a1_1 a1_2 a1_3))
theorem sextonref19_Put.mono_l : ∀ k, (∀ y0 y1 y2 y3 y4 y5, LeO (sextonref19_Put.j0 k y0 y1 y2 y3 y4 y5) (sextonref19_Put.j0 (k + 1) y0 y1 y2 y3 y4 y5)) ∧ (∀ y0 y1 y2 y3 y4 y5, LeO (sextonref19_Put.j1 k y0 y1 y2 y3 y4 y5) (sextonref19_Put.j1 (k + 1) y0 y1 y2 y3 y4 y5)) ∧ (∀ y0 y1 y2 y3 y4 y5, LeO (sextonref19_Put.l0 k y0 y1 y2 y3 y4 y5) (sextonref19_Put.l0 (k + 1) y0 y1 y2 y3 y4 y5))
  | 0 => ⟨fun _ _ _ _ _ _ r h => by simp [sextonref19_Put.j0] at h, fun _ _ _ _ _ _ r h => by simp [sextonref19_Put.j1] at h, fun _ _ _ _ _ _ r h => by simp [sextonref19_Put.l0] at h⟩
  | k + 1 => by
    obtain ⟨ih0, ih1, ih2⟩ := sextonref19_Put.mono_l k
    refine ⟨?_, ?_, ?_⟩
    · intro y0 y1 y2 y3 y4 y5
      unfold sextonref19_Put.j0
      repeat' first
      | (with_reducible exact ih0 _ _ _ _ _ _)
      | (with_reducible exact ih1 _ _ _ _ _ _)
      | (with_reducible exact ih2 _ _ _ _ _ _)
      | (with_reducible exact sextonref19_Is.mono _ _)
      | (with_reducible exact sextonref19_Last.mono _ _ _)
      | (with_reducible exact sextonref19_find.mono _ _ _)
      | (with_reducible exact LeO.refl _)
      | (with_reducible exact LeO.none _)
      | (with_reducible refine LeO.ite ?_ ?_)
      | (with_reducible refine LeO.bind ?_ (fun _ => ?_))
      | exact ih0 _ _ _ _ _ _
      | exact ih1 _ _ _ _ _ _
      | exact ih2 _ _ _ _ _ _
      | exact sextonref19_Is.mono _ _
      | exact sextonref19_Last.mono _ _ _
      | exact sextonref19_find.mono _ _ _
      | exact LeO.none _
      | refine LeO.ite ?_ ?_
      | refine LeO.bind ?_ (fun _ => ?_)
    · intro y0 y1 y2 y3 y4 y5
      unfold sextonref19_Put.j1
      repeat' first
      | (with_reducible exact ih0 _ _ _ _ _ _)
      | (with_reducible exact ih1 _ _ _ _ _ _)
      | (with_reducible exact ih2 _ _ _ _ _ _)
      | (with_reducible exact sextonref19_Is.mono _ _)
      | (with_reducible exact sextonref19_Last.mono _ _ _)
      | (with_reducible exact sextonref19_find.mono _ _ _)
      | (with_reducible exact LeO.refl _)
      | (with_reducible exact LeO.none _)
      | (with_reducible refine LeO.ite ?_ ?_)
      | (with_reducible refine LeO.bind ?_ (fun _ => ?_))
      | exact ih0 _ _ _ _ _ _
      | exact ih1 _ _ _ _ _ _
      | exact ih2 _ _ _ _ _ _
      | exact sextonref19_Is.mono _ _
      | exact sextonref19_Last.mono _ _ _
      | exact sextonref19_find.mono _ _ _
      | exact LeO.none _
      | refine LeO.ite ?_ ?_
      | refine LeO.bind ?_ (fun _ => ?_)
    · intro y0 y1 y2 y3 y4 y5
      unfold sextonref19_Put.l0
      repeat' first
      | (with_reducible exact ih0 _ _ _ _ _ _)
      | (with_reducible exact ih1 _ _ _ _ _ _)
      | (with_reducible exact ih2 _ _ _ _ _ _)
      | (with_reducible exact sextonref19_Is.mono _ _)
      | (with_reducible exact sextonref19_Last.mono _ _ _)
      | (with_reducible exact sextonref19_find.mono _ _ _)
      | (with_reducible exact LeO.refl _)
      | (with_reducible exact LeO.none _)
      | (with_reducible refine LeO.ite ?_ ?_)
      | (with_reducible refine LeO.bind ?_ (fun _ => ?_))
      | exact ih0 _ _ _ _ _ _
      | exact ih1 _ _ _ _ _ _
      | exact ih2 _ _ _ _ _ _
      | exact sextonref19_Is.mono _ _
      | exact sextonref19_Last.mono _ _ _
      | exact sextonref19_find.mono _ _ _
      | exact LeO.none _
      | refine LeO.ite ?_ ?_
      | refine LeO.bind ?_ (fun _ => ?_)
theorem sextonref19_Put.mono : ∀ a0 a1 a2 a3 a4 k, LeO (sextonref19_Put.f k a0 a1 a2 a3 a4) (sextonref19_Put.f (k + 1) a0 a1 a2 a3 a4) := by
  intro a0 a1 a2 a3 a4 k
  obtain ⟨ih0, ih1, ih2⟩ := sextonref19_Put.mono_l k
  unfold sextonref19_Put.f
  repeat' first
      | (with_reducible exact ih0 _ _ _ _ _ _)
      | (with_reducible exact ih1 _ _ _ _ _ _)
      | (with_reducible exact ih2 _ _ _ _ _ _)
      | (with_reducible exact sextonref19_Is.mono _ _)
      | (with_reducible exact sextonref19_Last.mono _ _ _)
      | (with_reducible exact sextonref19_find.mono _ _ _)
      | (with_reducible exact LeO.refl _)
      | (with_reducible exact LeO.none _)
      | (with_reducible refine LeO.ite ?_ ?_)
      | (with_reducible refine LeO.bind ?_ (fun _ => ?_))
      | exact ih0 _ _ _ _ _ _
      | exact ih1 _ _ _ _ _ _
      | exact ih2 _ _ _ _ _ _
      | exact sextonref19_Is.mono _ _
      | exact sextonref19_Last.mono _ _ _
      | exact sextonref19_find.mono _ _ _
      | exact LeO.none _
      | refine LeO.ite ?_ ?_
      | refine LeO.bind ?_ (fun _ => ?_)
set_option maxHeartbeats 8000000 in
set_option maxRecDepth 100000 in
theorem sextonref19_Put.calls (k : Nat) (A0 : Option Addr) (c0 : Nat) (l0 : List (S27)) (a1_0 : Int) (a1_1 : Int) (a1_2 : Int) (a1_3 : Int) (r1 : List (S27)) (r2 : Int) (w : World) (hr0 : Kd.C k27 w A0 l0.length l0) (hc0 : l0.length ≤ c0) (h : sextonref19_Put.f k l0 a1_0 a1_1 a1_2 a1_3 = some (r1, r2)) :
    Calls Try.prog 11 #[.slice A0 l0.length c0, .agg #[.int .i64 a1_0, .int .i64 a1_1, .int .i64 a1_2, .int .i64 a1_3]] w fun e w' => ∃ v0_ : Value, e = .returned (.tuple #[v0_, .int .i64 r2]) ∧ Kd.R k27 27 w' w.heap.size (fun _ => True) v0_ r1 ∧ Below w.heap.size w w' := by
  have hu27 := Try.underlying27
  have HR0 := Aside0.mk hr0
  have HC0 := Aside0.mk hc0
  clear hr0 hc0
  have HB := Aside0.mk (Below.refl w.heap.size w)
  have H : ((sextonref19_Is.f k l0).bind fun t192 => (if t192 = true then ((sextonref19_may.f a1_0 a1_1 a1_2 a1_3).bind fun t193 => (sextonref19_Put.j0 k l0 (!t193) a1_0 a1_1 a1_2 a1_3)) else (sextonref19_Put.j0 k l0 true a1_0 a1_1 a1_2 a1_3))) = some (r1, r2) := h
  clear h
  have HC3 := Aside0.mk H
  clear H
  go_enter Try.func11, Try.ntmps11
  go_upto_region 1 with (first | ((with_reducible refine gate_dst (N := 3) rfl ?_); (try (refine gate_guard (by rfl) ?_; dsimp only)); refine box_event ?hg (N := 3) ?hd (cs := #[.int .i64 a1_0, .int .i64 a1_1, .int .i64 a1_2, .int .i64 a1_3]) (t := 27) ?hr ?_; (case hd => rfl); (case hg => rfl); (case hr => first | (go_simp; done) | (go_simp; rfl)); intro gb191 hg w4 hbox hb; have n0_ := Aside0.mk (below_step (by repeat (first | (with_reducible first | exact HB.out | apply below_alloc | apply pw_below_drewN | apply below_drew1) | exact HB.out)) hb); have n1_ := Aside0.mk (hbox); have n2_ := Aside0.mk ((by rw [hg]; exact (below_size (by repeat (first | (with_reducible first | exact HB.out | apply below_alloc | apply pw_below_drewN | apply below_drew1) | exact HB.out))) : w.heap.size ≤ gb191)); have n3_ := Aside0.mk ((by rw [hg]; exact (below_size (by repeat (first | (with_reducible first | exact HB.out | apply below_alloc | apply pw_below_drewN | apply below_drew1) | exact HB.out))) : w.heap.size ≤ gb191)); clear HB; have HB := n0_; have BK191 := n1_; have GW191 := n2_; have GE191 := n3_; clear n0_ n1_ n2_ n3_; clear hb hbox hg))
  repeat (go_quiet (first | ((with_reducible refine gate_dst (N := 3) rfl ?_); (try (refine gate_guard (by rfl) ?_; dsimp only)); refine box_event ?hg (N := 3) ?hd (cs := #[.int .i64 a1_0, .int .i64 a1_1, .int .i64 a1_2, .int .i64 a1_3]) (t := 27) ?hr ?_; (case hd => rfl); (case hg => rfl); (case hr => first | (go_simp; done) | (go_simp; rfl)); intro gb191 hg w4 hbox hb; have n0_ := Aside0.mk (below_step (by repeat (first | (with_reducible first | exact HB.out | apply below_alloc | apply pw_below_drewN | apply below_drew1) | exact HB.out)) hb); have n1_ := Aside0.mk (hbox); have n2_ := Aside0.mk ((by rw [hg]; exact (below_size (by repeat (first | (with_reducible first | exact HB.out | apply below_alloc | apply pw_below_drewN | apply below_drew1) | exact HB.out))) : w.heap.size ≤ gb191)); have n3_ := Aside0.mk ((by rw [hg]; exact (below_size (by repeat (first | (with_reducible first | exact HB.out | apply below_alloc | apply pw_below_drewN | apply below_drew1) | exact HB.out))) : w.heap.size ≤ gb191)); clear HB; have HB := n0_; have BK191 := n1_; have GW191 := n2_; have GE191 := n3_; clear n0_ n1_ n2_ n3_; clear hb hbox hg)); go_upto_region 1 with (first | ((with_reducible refine gate_dst (N := 3) rfl ?_); (try (refine gate_guard (by rfl) ?_; dsimp only)); refine box_event ?hg (N := 3) ?hd (cs := #[.int .i64 a1_0, .int .i64 a1_1, .int .i64 a1_2, .int .i64 a1_3]) (t := 27) ?hr ?_; (case hd => rfl); (case hg => rfl); (case hr => first | (go_simp; done) | (go_simp; rfl)); intro gb191 hg w4 hbox hb; have n0_ := Aside0.mk (below_step (by repeat (first | (with_reducible first | exact HB.out | apply below_alloc | apply pw_below_drewN | apply below_drew1) | exact HB.out)) hb); have n1_ := Aside0.mk (hbox); have n2_ := Aside0.mk ((by rw [hg]; exact (below_size (by repeat (first | (with_reducible first | exact HB.out | apply below_alloc | apply pw_below_drewN | apply below_drew1) | exact HB.out))) : w.heap.size ≤ gb191)); have n3_ := Aside0.mk ((by rw [hg]; exact (below_size (by repeat (first | (with_reducible first | exact HB.out | apply below_alloc | apply pw_below_drewN | apply below_drew1) | exact HB.out))) : w.heap.size ≤ gb191)); clear HB; have HB := n0_; have BK191 := n1_; have GW191 := n2_; have GE191 := n3_; clear n0_ n1_ n2_ n3_; clear hb hbox hg)))
  (try simp only [Act.put, List.setIfInBounds_toArray, List.set_cons_zero, List.set_cons_succ])
  go_cut [15] (fun v15 wc => ∃ (kq : Nat) (x15_2 : Bool), v15 = .bool x15_2 ∧ Aside0 (sextonref19_Put.j0 kq l0 x15_2 a1_0 a1_1 a1_2 a1_3 = some (r1, r2)) ∧ Aside0 (kq ≤ k) ∧ Aside0 (wc.heap[gb191]? = some (.cells #[.int .i64 a1_0, .int .i64 a1_1, .int .i64 a1_2, .int .i64 a1_3] 27 (0, 0))) ∧ Aside0 (Below w.heap.size w wc))
  case first =>
    have H := HC3.out
    clear HC3
    replace H := Option.bind_eq_some_iff.mp H
    obtain ⟨t192, A50, H⟩ := H
    replace H : (if t192 = true then ((sextonref19_may.f a1_0 a1_1 a1_2 a1_3).bind fun t193 => (sextonref19_Put.j0 k l0 (!t193) a1_0 a1_1 a1_2 a1_3)) else (sextonref19_Put.j0 k l0 true a1_0 a1_1 a1_2 a1_3)) = some (r1, r2) := H
    have A5 := Aside0.mk A50
    clear A50
    by_cases c6 : t192 = true
    · subst c6
      have H1 : ((sextonref19_may.f a1_0 a1_1 a1_2 a1_3).bind fun t193 => (sextonref19_Put.j0 k l0 (!t193) a1_0 a1_1 a1_2 a1_3)) = some (r1, r2) := by rw [if_pos rfl] at H; exact H
      clear H
      have H := H1
      clear H1
      replace H := Option.bind_eq_some_iff.mp H
      obtain ⟨t193, A70, H⟩ := H
      replace H : (sextonref19_Put.j0 k l0 (!t193) a1_0 a1_1 a1_2 a1_3) = some (r1, r2) := H
      have A7 := Aside0.mk A70
      clear A70
      have H' := Aside0.mk H
      clear H
      go_wp2_with (first | (go_at_call 14; (with_reducible refine (sextonref19_Is.calls k _ _ l0 true _ ?side1 ?side2 A5.out).mono ?_); (case side1 => repeat (first | exact (Kd.C_below HR0.out HB.out) | (with_reducible refine Kd.C_alloc ?_ _) | (with_reducible refine Kd.C_drewN ?_ _) | (with_reducible refine Kd.C_drew ?_))); (case side2 => exact HC0.out); rintro e w8 ⟨rfl, hb⟩; have n0_ := Aside0.mk (blk_below (g := gb191) (o := .cells #[.int .i64 a1_0, .int .i64 a1_1, .int .i64 a1_2, .int .i64 a1_3] 27 (0, 0)) (by (with_reducible repeat (first | refine blk_drewN ?_ _ | refine blk_drew ?_ | refine blk_alloc ?_ _)); exact BK191.out) hb); have n1_ := Aside0.mk (below_step (by repeat (first | (with_reducible first | exact HB.out | apply below_alloc | apply pw_below_drewN | apply below_drew1 | refine below_set ?_ GE191.out) | exact HB.out)) hb); clear BK191; clear HB; have BK191 := n0_; have HB := n1_; clear n0_ n1_; (try clear hb); (try clear hb2); (try clear hk); (try clear hi); have hcz9_0 : w8.cell? ⟨gb191, 0, none⟩ = some (.int .i64 a1_0) := (blk_cell BK191.out 0).trans rfl; have hcz9_1 : w8.cell? ⟨gb191, 1, none⟩ = some (.int .i64 a1_1) := (blk_cell BK191.out 1).trans rfl; have hcz9_2 : w8.cell? ⟨gb191, 2, none⟩ = some (.int .i64 a1_2) := (blk_cell BK191.out 2).trans rfl; have hcz9_3 : w8.cell? ⟨gb191, 3, none⟩ = some (.int .i64 a1_3) := (blk_cell BK191.out 3).trans rfl; have hfz9_0 := blk_frozen BK191.out 0; have hfz9_1 := blk_frozen BK191.out 1; have hfz9_2 := blk_frozen BK191.out 2; have hfz9_3 := blk_frozen BK191.out 3) | (go_at_call 27; (with_reducible refine (sextonref19_may.calls a1_0 a1_1 a1_2 a1_3 t193 _ A7.out).mono ?_); rintro e w10 ⟨rfl, hb⟩; have n0_ := Aside0.mk (blk_below (g := gb191) (o := .cells #[.int .i64 a1_0, .int .i64 a1_1, .int .i64 a1_2, .int .i64 a1_3] 27 (0, 0)) (by (with_reducible repeat (first | refine blk_drewN ?_ _ | refine blk_drew ?_ | refine blk_alloc ?_ _)); exact BK191.out) hb); have n1_ := Aside0.mk (below_step (by repeat (first | (with_reducible first | exact HB.out | apply below_alloc | apply pw_below_drewN | apply below_drew1 | refine below_set ?_ GE191.out) | exact HB.out)) hb); clear BK191; clear HB; have BK191 := n0_; have HB := n1_; clear n0_ n1_; (try clear hb); (try clear hb2); (try clear hk); (try clear hi)))
      repeat (go_quiet (first | (go_at_call 14; (with_reducible refine (sextonref19_Is.calls k _ _ l0 true _ ?side1 ?side2 A5.out).mono ?_); (case side1 => repeat (first | exact (Kd.C_below HR0.out HB.out) | (with_reducible refine Kd.C_alloc ?_ _) | (with_reducible refine Kd.C_drewN ?_ _) | (with_reducible refine Kd.C_drew ?_))); (case side2 => exact HC0.out); rintro e w8 ⟨rfl, hb⟩; have n0_ := Aside0.mk (blk_below (g := gb191) (o := .cells #[.int .i64 a1_0, .int .i64 a1_1, .int .i64 a1_2, .int .i64 a1_3] 27 (0, 0)) (by (with_reducible repeat (first | refine blk_drewN ?_ _ | refine blk_drew ?_ | refine blk_alloc ?_ _)); exact BK191.out) hb); have n1_ := Aside0.mk (below_step (by repeat (first | (with_reducible first | exact HB.out | apply below_alloc | apply pw_below_drewN | apply below_drew1 | refine below_set ?_ GE191.out) | exact HB.out)) hb); clear BK191; clear HB; have BK191 := n0_; have HB := n1_; clear n0_ n1_; (try clear hb); (try clear hb2); (try clear hk); (try clear hi); have hcz9_0 : w8.cell? ⟨gb191, 0, none⟩ = some (.int .i64 a1_0) := (blk_cell BK191.out 0).trans rfl; have hcz9_1 : w8.cell? ⟨gb191, 1, none⟩ = some (.int .i64 a1_1) := (blk_cell BK191.out 1).trans rfl; have hcz9_2 : w8.cell? ⟨gb191, 2, none⟩ = some (.int .i64 a1_2) := (blk_cell BK191.out 2).trans rfl; have hcz9_3 : w8.cell? ⟨gb191, 3, none⟩ = some (.int .i64 a1_3) := (blk_cell BK191.out 3).trans rfl; have hfz9_0 := blk_frozen BK191.out 0; have hfz9_1 := blk_frozen BK191.out 1; have hfz9_2 := blk_frozen BK191.out 2; have hfz9_3 := blk_frozen BK191.out 3) | (go_at_call 27; (with_reducible refine (sextonref19_may.calls a1_0 a1_1 a1_2 a1_3 t193 _ A7.out).mono ?_); rintro e w10 ⟨rfl, hb⟩; have n0_ := Aside0.mk (blk_below (g := gb191) (o := .cells #[.int .i64 a1_0, .int .i64 a1_1, .int .i64 a1_2, .int .i64 a1_3] 27 (0, 0)) (by (with_reducible repeat (first | refine blk_drewN ?_ _ | refine blk_drew ?_ | refine blk_alloc ?_ _)); exact BK191.out) hb); have n1_ := Aside0.mk (below_step (by repeat (first | (with_reducible first | exact HB.out | apply below_alloc | apply pw_below_drewN | apply below_drew1 | refine below_set ?_ GE191.out) | exact HB.out)) hb); clear BK191; clear HB; have BK191 := n0_; have HB := n1_; clear n0_ n1_; (try clear hb); (try clear hb2); (try clear hk); (try clear hi))); try go_wp2_with (first | (go_at_call 14; (with_reducible refine (sextonref19_Is.calls k _ _ l0 true _ ?side1 ?side2 A5.out).mono ?_); (case side1 => repeat (first | exact (Kd.C_below HR0.out HB.out) | (with_reducible refine Kd.C_alloc ?_ _) | (with_reducible refine Kd.C_drewN ?_ _) | (with_reducible refine Kd.C_drew ?_))); (case side2 => exact HC0.out); rintro e w8 ⟨rfl, hb⟩; have n0_ := Aside0.mk (blk_below (g := gb191) (o := .cells #[.int .i64 a1_0, .int .i64 a1_1, .int .i64 a1_2, .int .i64 a1_3] 27 (0, 0)) (by (with_reducible repeat (first | refine blk_drewN ?_ _ | refine blk_drew ?_ | refine blk_alloc ?_ _)); exact BK191.out) hb); have n1_ := Aside0.mk (below_step (by repeat (first | (with_reducible first | exact HB.out | apply below_alloc | apply pw_below_drewN | apply below_drew1 | refine below_set ?_ GE191.out) | exact HB.out)) hb); clear BK191; clear HB; have BK191 := n0_; have HB := n1_; clear n0_ n1_; (try clear hb); (try clear hb2); (try clear hk); (try clear hi); have hcz9_0 : w8.cell? ⟨gb191, 0, none⟩ = some (.int .i64 a1_0) := (blk_cell BK191.out 0).trans rfl; have hcz9_1 : w8.cell? ⟨gb191, 1, none⟩ = some (.int .i64 a1_1) := (blk_cell BK191.out 1).trans rfl; have hcz9_2 : w8.cell? ⟨gb191, 2, none⟩ = some (.int .i64 a1_2) := (blk_cell BK191.out 2).trans rfl; have hcz9_3 : w8.cell? ⟨gb191, 3, none⟩ = some (.int .i64 a1_3) := (blk_cell BK191.out 3).trans rfl; have hfz9_0 := blk_frozen BK191.out 0; have hfz9_1 := blk_frozen BK191.out 1; have hfz9_2 := blk_frozen BK191.out 2; have hfz9_3 := blk_frozen BK191.out 3) | (go_at_call 27; (with_reducible refine (sextonref19_may.calls a1_0 a1_1 a1_2 a1_3 t193 _ A7.out).mono ?_); rintro e w10 ⟨rfl, hb⟩; have n0_ := Aside0.mk (blk_below (g := gb191) (o := .cells #[.int .i64 a1_0, .int .i64 a1_1, .int .i64 a1_2, .int .i64 a1_3] 27 (0, 0)) (by (with_reducible repeat (first | refine blk_drewN ?_ _ | refine blk_drew ?_ | refine blk_alloc ?_ _)); exact BK191.out) hb); have n1_ := Aside0.mk (below_step (by repeat (first | (with_reducible first | exact HB.out | apply below_alloc | apply pw_below_drewN | apply below_drew1 | refine below_set ?_ GE191.out) | exact HB.out)) hb); clear BK191; clear HB; have BK191 := n0_; have HB := n1_; clear n0_ n1_; (try clear hb); (try clear hb2); (try clear hk); (try clear hi))))
      go_meet
      case rel => exact ⟨_, (!t193), (by first | rfl | (simp; done) | (simp [*]; done)), H', ⟨by first | omega | exact Nat.le_refl _⟩, ⟨by (with_reducible repeat (first | refine blk_drewN ?_ _ | refine blk_drew ?_ | refine blk_alloc ?_ _)); exact BK191.out⟩, ⟨by repeat (first | (with_reducible first | exact HB.out | apply below_alloc | apply pw_below_drewN | apply below_drew1 | refine below_set ?_ GE191.out) | exact HB.out)⟩⟩
    · replace c6 := Bool.eq_false_iff.mpr c6
      subst c6
      have H1 : (sextonref19_Put.j0 k l0 true a1_0 a1_1 a1_2 a1_3) = some (r1, r2) := by rw [if_neg (show ¬ (false = true) by decide)] at H; exact H
      clear H
      have H := H1
      clear H1
      have H' := Aside0.mk H
      clear H
      go_wp2_with (first | (go_at_call 14; (with_reducible refine (sextonref19_Is.calls k _ _ l0 false _ ?side1 ?side2 A5.out).mono ?_); (case side1 => repeat (first | exact (Kd.C_below HR0.out HB.out) | (with_reducible refine Kd.C_alloc ?_ _) | (with_reducible refine Kd.C_drewN ?_ _) | (with_reducible refine Kd.C_drew ?_))); (case side2 => exact HC0.out); rintro e w11 ⟨rfl, hb⟩; have n0_ := Aside0.mk (blk_below (g := gb191) (o := .cells #[.int .i64 a1_0, .int .i64 a1_1, .int .i64 a1_2, .int .i64 a1_3] 27 (0, 0)) (by (with_reducible repeat (first | refine blk_drewN ?_ _ | refine blk_drew ?_ | refine blk_alloc ?_ _)); exact BK191.out) hb); have n1_ := Aside0.mk (below_step (by repeat (first | (with_reducible first | exact HB.out | apply below_alloc | apply pw_below_drewN | apply below_drew1 | refine below_set ?_ GE191.out) | exact HB.out)) hb); clear BK191; clear HB; have BK191 := n0_; have HB := n1_; clear n0_ n1_; (try clear hb); (try clear hb2); (try clear hk); (try clear hi)))
      repeat (go_quiet (first | (go_at_call 14; (with_reducible refine (sextonref19_Is.calls k _ _ l0 false _ ?side1 ?side2 A5.out).mono ?_); (case side1 => repeat (first | exact (Kd.C_below HR0.out HB.out) | (with_reducible refine Kd.C_alloc ?_ _) | (with_reducible refine Kd.C_drewN ?_ _) | (with_reducible refine Kd.C_drew ?_))); (case side2 => exact HC0.out); rintro e w11 ⟨rfl, hb⟩; have n0_ := Aside0.mk (blk_below (g := gb191) (o := .cells #[.int .i64 a1_0, .int .i64 a1_1, .int .i64 a1_2, .int .i64 a1_3] 27 (0, 0)) (by (with_reducible repeat (first | refine blk_drewN ?_ _ | refine blk_drew ?_ | refine blk_alloc ?_ _)); exact BK191.out) hb); have n1_ := Aside0.mk (below_step (by repeat (first | (with_reducible first | exact HB.out | apply below_alloc | apply pw_below_drewN | apply below_drew1 | refine below_set ?_ GE191.out) | exact HB.out)) hb); clear BK191; clear HB; have BK191 := n0_; have HB := n1_; clear n0_ n1_; (try clear hb); (try clear hb2); (try clear hk); (try clear hi))); try go_wp2_with (first | (go_at_call 14; (with_reducible refine (sextonref19_Is.calls k _ _ l0 false _ ?side1 ?side2 A5.out).mono ?_); (case side1 => repeat (first | exact (Kd.C_below HR0.out HB.out) | (with_reducible refine Kd.C_alloc ?_ _) | (with_reducible refine Kd.C_drewN ?_ _) | (with_reducible refine Kd.C_drew ?_))); (case side2 => exact HC0.out); rintro e w11 ⟨rfl, hb⟩; have n0_ := Aside0.mk (blk_below (g := gb191) (o := .cells #[.int .i64 a1_0, .int .i64 a1_1, .int .i64 a1_2, .int .i64 a1_3] 27 (0, 0)) (by (with_reducible repeat (first | refine blk_drewN ?_ _ | refine blk_drew ?_ | refine blk_alloc ?_ _)); exact BK191.out) hb); have n1_ := Aside0.mk (below_step (by repeat (first | (with_reducible first | exact HB.out | apply below_alloc | apply pw_below_drewN | apply below_drew1 | refine below_set ?_ GE191.out) | exact HB.out)) hb); clear BK191; clear HB; have BK191 := n0_; have HB := n1_; clear n0_ n1_; (try clear hb); (try clear hb2); (try clear hk); (try clear hi))))
      go_meet
      case rel => exact ⟨_, (true), (by first | rfl | (simp; done) | (simp [*]; done)), H', ⟨by first | omega | exact Nat.le_refl _⟩, ⟨by (with_reducible repeat (first | refine blk_drewN ?_ _ | refine blk_drew ?_ | refine blk_alloc ?_ _)); exact BK191.out⟩, ⟨by repeat (first | (with_reducible first | exact HB.out | apply below_alloc | apply pw_below_drewN | apply below_drew1 | refine below_set ?_ GE191.out) | exact HB.out)⟩⟩
  case rest =>
    clear HC3
    try clear c1
    try clear p2
    try clear c6
    try clear c11
    try clear hcz9_0
    try clear hcz9_1
    try clear hcz9_2
    try clear hcz9_3
    try clear hfz9_0
    try clear hfz9_1
    try clear hfz9_2
    try clear hfz9_3
    obtain ⟨kq, x15_2, rfl, HA, HJ2, BK191, HB⟩ := hcut
    cases kq with
    | zero => exact absurd HA.out (by simp [sextonref19_Put.j0])
    | succ kj2 =>
      have H := HA.out
      clear HA
      simp only [sextonref19_Put.j0] at H
      by_cases c12 : x15_2 = true
      · subst c12
        have H1 : (some (([] : List (S27)), 1)) = some (r1, r2) := by rw [if_pos rfl] at H; exact H
        clear H
        have H := H1
        clear H1
        simp only [Option.some.injEq, Prod.mk.injEq] at H
        obtain ⟨rfl, rfl⟩ := H
        go_wp2
        repeat (go_quiet (fail); try go_wp2)
        go_ret2
        exact ⟨_, by first | rfl | (simp [errW_none, errW_some] <;> rfl) | (simp [*, errW_none, errW_some] <;> rfl), by first | exact Kd.R_nil _ _ _ _ _ | exact Kd.N_nil _ _ _ _ _ | exact Kd.V_nil _ _ _ _ _ | exact Kd.Q_nil _ _ _ _ _ | exact Kd.S_nil _ _ _ _ _, by repeat (first | (with_reducible first | exact HB.out | apply below_alloc | apply pw_below_drewN | apply below_drew1 | refine below_set ?_ GE191.out) | exact HB.out)⟩
      · replace c12 := Bool.eq_false_iff.mpr c12
        subst c12
        have H1 : ((sextonref19_Last.f kj2 l0 a1_0).bind fun t194 => (if a1_1 ≤ t194 then (some (([] : List (S27)), 180)) else ((sextonref19_find.f kj2 l0 a1_0).bind fun t195 => (if t195 < 0 then (sextonref19_Put.j1 kj2 l0 (decide ((l0.length : Int) ≥ 50)) a1_0 a1_1 a1_2 a1_3) else (sextonref19_Put.j1 kj2 l0 false a1_0 a1_1 a1_2 a1_3))))) = some (r1, r2) := by rw [if_neg (show ¬ (false = true) by decide)] at H; exact H
        clear H
        have H := H1
        clear H1
        replace H := Option.bind_eq_some_iff.mp H
        obtain ⟨t194, A130, H⟩ := H
        replace H : (if a1_1 ≤ t194 then (some (([] : List (S27)), 180)) else ((sextonref19_find.f kj2 l0 a1_0).bind fun t195 => (if t195 < 0 then (sextonref19_Put.j1 kj2 l0 (decide ((l0.length : Int) ≥ 50)) a1_0 a1_1 a1_2 a1_3) else (sextonref19_Put.j1 kj2 l0 false a1_0 a1_1 a1_2 a1_3)))) = some (r1, r2) := H
        have A13 := Aside0.mk A130
        clear A130
        by_cases c14 : a1_1 ≤ t194
        · rw [if_pos c14] at H
          have c14b0 : decide (a1_1 ≤ t194) = true := decide_eq_true c14
          clear c14
          simp only [Option.some.injEq, Prod.mk.injEq] at H
          obtain ⟨rfl, rfl⟩ := H
          have hcz15_0 : wc.cell? ⟨gb191, 0, none⟩ = some (.int .i64 a1_0) := (blk_cell BK191.out 0).trans rfl
          have hcz15_1 : wc.cell? ⟨gb191, 1, none⟩ = some (.int .i64 a1_1) := (blk_cell BK191.out 1).trans rfl
          have hcz15_2 : wc.cell? ⟨gb191, 2, none⟩ = some (.int .i64 a1_2) := (blk_cell BK191.out 2).trans rfl
          have hcz15_3 : wc.cell? ⟨gb191, 3, none⟩ = some (.int .i64 a1_3) := (blk_cell BK191.out 3).trans rfl
          have hfz15_0 := blk_frozen BK191.out 0
          have hfz15_1 := blk_frozen BK191.out 1
          have hfz15_2 := blk_frozen BK191.out 2
          have hfz15_3 := blk_frozen BK191.out 3
          go_wp2_with (first | (go_at_call 16; (with_reducible refine (sextonref19_Last.calls kj2 _ _ l0 a1_0 t194 _ ?side1 ?side2 A13.out).mono ?_); (case side1 => repeat (first | exact (Kd.C_below HR0.out HB.out) | (with_reducible refine Kd.C_alloc ?_ _) | (with_reducible refine Kd.C_drewN ?_ _) | (with_reducible refine Kd.C_drew ?_))); (case side2 => exact HC0.out); rintro e w' ⟨rfl, ⟨nd, rfl⟩⟩; (try first | exact ⟨rfl, _, World.drewN_drewN _ _ _⟩ | exact ⟨rfl, _, Eq.trans (World.drewN_drewN _ _ _) (congrArg (World.drewN _) (Nat.add_assoc _ _ _))⟩)))
          repeat (go_quiet (first | (go_at_call 16; (with_reducible refine (sextonref19_Last.calls kj2 _ _ l0 a1_0 t194 _ ?side1 ?side2 A13.out).mono ?_); (case side1 => repeat (first | exact (Kd.C_below HR0.out HB.out) | (with_reducible refine Kd.C_alloc ?_ _) | (with_reducible refine Kd.C_drewN ?_ _) | (with_reducible refine Kd.C_drew ?_))); (case side2 => exact HC0.out); rintro e w' ⟨rfl, ⟨nd, rfl⟩⟩; (try first | exact ⟨rfl, _, World.drewN_drewN _ _ _⟩ | exact ⟨rfl, _, Eq.trans (World.drewN_drewN _ _ _) (congrArg (World.drewN _) (Nat.add_assoc _ _ _))⟩))); try go_wp2_with (first | (go_at_call 16; (with_reducible refine (sextonref19_Last.calls kj2 _ _ l0 a1_0 t194 _ ?side1 ?side2 A13.out).mono ?_); (case side1 => repeat (first | exact (Kd.C_below HR0.out HB.out) | (with_reducible refine Kd.C_alloc ?_ _) | (with_reducible refine Kd.C_drewN ?_ _) | (with_reducible refine Kd.C_drew ?_))); (case side2 => exact HC0.out); rintro e w' ⟨rfl, ⟨nd, rfl⟩⟩; (try first | exact ⟨rfl, _, World.drewN_drewN _ _ _⟩ | exact ⟨rfl, _, Eq.trans (World.drewN_drewN _ _ _) (congrArg (World.drewN _) (Nat.add_assoc _ _ _))⟩))))
          go_ret2
          exact ⟨_, by first | rfl | (simp [errW_none, errW_some] <;> rfl) | (simp [*, errW_none, errW_some] <;> rfl), by first | exact Kd.R_nil _ _ _ _ _ | exact Kd.N_nil _ _ _ _ _ | exact Kd.V_nil _ _ _ _ _ | exact Kd.Q_nil _ _ _ _ _ | exact Kd.S_nil _ _ _ _ _, by repeat (first | (with_reducible first | exact HB.out | apply below_alloc | apply pw_below_drewN | apply below_drew1 | refine below_set ?_ GE191.out) | exact HB.out)⟩
        · rw [if_neg c14] at H
          have c14b0 : decide (a1_1 ≤ t194) = false := decide_eq_false c14
          clear c14
          have HC16 := Aside0.mk H
          clear H
          have hcz17_0 : wc.cell? ⟨gb191, 0, none⟩ = some (.int .i64 a1_0) := (blk_cell BK191.out 0).trans rfl
          have hcz17_1 : wc.cell? ⟨gb191, 1, none⟩ = some (.int .i64 a1_1) := (blk_cell BK191.out 1).trans rfl
          have hcz17_2 : wc.cell? ⟨gb191, 2, none⟩ = some (.int .i64 a1_2) := (blk_cell BK191.out 2).trans rfl
          have hcz17_3 : wc.cell? ⟨gb191, 3, none⟩ = some (.int .i64 a1_3) := (blk_cell BK191.out 3).trans rfl
          have hfz17_0 := blk_frozen BK191.out 0
          have hfz17_1 := blk_frozen BK191.out 1
          have hfz17_2 := blk_frozen BK191.out 2
          have hfz17_3 := blk_frozen BK191.out 3
          go_upto_region 5 with (first | (go_at_call 16; (with_reducible refine (sextonref19_Last.calls kj2 _ _ l0 a1_0 t194 _ ?side1 ?side2 A13.out).mono ?_); (case side1 => repeat (first | exact (Kd.C_below HR0.out HB.out) | (with_reducible refine Kd.C_alloc ?_ _) | (with_reducible refine Kd.C_drewN ?_ _) | (with_reducible refine Kd.C_drew ?_))); (case side2 => exact HC0.out); rintro e w' ⟨rfl, ⟨nd, rfl⟩⟩; (try first | exact ⟨rfl, _, World.drewN_drewN _ _ _⟩ | exact ⟨rfl, _, Eq.trans (World.drewN_drewN _ _ _) (congrArg (World.drewN _) (Nat.add_assoc _ _ _))⟩)))
          repeat (go_quiet (first | (go_at_call 16; (with_reducible refine (sextonref19_Last.calls kj2 _ _ l0 a1_0 t194 _ ?side1 ?side2 A13.out).mono ?_); (case side1 => repeat (first | exact (Kd.C_below HR0.out HB.out) | (with_reducible refine Kd.C_alloc ?_ _) | (with_reducible refine Kd.C_drewN ?_ _) | (with_reducible refine Kd.C_drew ?_))); (case side2 => exact HC0.out); rintro e w' ⟨rfl, ⟨nd, rfl⟩⟩; (try first | exact ⟨rfl, _, World.drewN_drewN _ _ _⟩ | exact ⟨rfl, _, Eq.trans (World.drewN_drewN _ _ _) (congrArg (World.drewN _) (Nat.add_assoc _ _ _))⟩))); go_upto_region 5 with (first | (go_at_call 16; (with_reducible refine (sextonref19_Last.calls kj2 _ _ l0 a1_0 t194 _ ?side1 ?side2 A13.out).mono ?_); (case side1 => repeat (first | exact (Kd.C_below HR0.out HB.out) | (with_reducible refine Kd.C_alloc ?_ _) | (with_reducible refine Kd.C_drewN ?_ _) | (with_reducible refine Kd.C_drew ?_))); (case side2 => exact HC0.out); rintro e w' ⟨rfl, ⟨nd, rfl⟩⟩; (try first | exact ⟨rfl, _, World.drewN_drewN _ _ _⟩ | exact ⟨rfl, _, Eq.trans (World.drewN_drewN _ _ _) (congrArg (World.drewN _) (Nat.add_assoc _ _ _))⟩))))
          (try simp only [Act.put, List.setIfInBounds_toArray, List.set_cons_zero, List.set_cons_succ])
          go_cut [32] (fun v32 wc => ∃ (kq : Nat) (x32_15 : Bool), v32 = .bool x32_15 ∧ Aside0 (sextonref19_Put.j1 kq l0 x32_15 a1_0 a1_1 a1_2 a1_3 = some (r1, r2)) ∧ Aside0 (kq ≤ kj2) ∧ Aside0 (wc.heap[gb191]? = some (.cells #[.int .i64 a1_0, .int .i64 a1_1, .int .i64 a1_2, .int .i64 a1_3] 27 (0, 0))) ∧ Aside0 (Below w.heap.size w wc))
          case first =>
            have H := HC16.out
            clear HC16
            replace H := Option.bind_eq_some_iff.mp H
            obtain ⟨t195, A180, H⟩ := H
            replace H : (if t195 < 0 then (sextonref19_Put.j1 kj2 l0 (decide ((l0.length : Int) ≥ 50)) a1_0 a1_1 a1_2 a1_3) else (sextonref19_Put.j1 kj2 l0 false a1_0 a1_1 a1_2 a1_3)) = some (r1, r2) := H
            have A18 := Aside0.mk A180
            clear A180
            by_cases c19 : t195 < 0
            · rw [if_pos c19] at H
              have c19b0 : decide (t195 < 0) = true := decide_eq_true c19
              clear c19
              (first | rw [c19b0] | (simp only [i64_w, i32_w]; rw [c19b0]) | skip)
              have H' := Aside0.mk H
              clear H
              have hcz20_0 : wc.cell? ⟨gb191, 0, none⟩ = some (.int .i64 a1_0) := (blk_cell BK191.out 0).trans rfl
              have hcz20_1 : wc.cell? ⟨gb191, 1, none⟩ = some (.int .i64 a1_1) := (blk_cell BK191.out 1).trans rfl
              have hcz20_2 : wc.cell? ⟨gb191, 2, none⟩ = some (.int .i64 a1_2) := (blk_cell BK191.out 2).trans rfl
              have hcz20_3 : wc.cell? ⟨gb191, 3, none⟩ = some (.int .i64 a1_3) := (blk_cell BK191.out 3).trans rfl
              have hfz20_0 := blk_frozen BK191.out 0
              have hfz20_1 := blk_frozen BK191.out 1
              have hfz20_2 := blk_frozen BK191.out 2
              have hfz20_3 := blk_frozen BK191.out 3
              go_wp2_with (first | (go_at_call 19; (with_reducible refine (sextonref19_find.calls kj2 _ _ l0 a1_0 t195 _ ?side1 ?side2 A18.out).mono ?_); (case side1 => repeat (first | exact (Kd.C_below HR0.out HB.out) | (with_reducible refine Kd.C_alloc ?_ _) | (with_reducible refine Kd.C_drewN ?_ _) | (with_reducible refine Kd.C_drew ?_))); (case side2 => exact HC0.out); rintro e w' ⟨rfl, ⟨nd, rfl⟩⟩; (try first | exact ⟨rfl, _, World.drewN_drewN _ _ _⟩ | exact ⟨rfl, _, Eq.trans (World.drewN_drewN _ _ _) (congrArg (World.drewN _) (Nat.add_assoc _ _ _))⟩)))
              repeat (go_quiet (first | (go_at_call 19; (with_reducible refine (sextonref19_find.calls kj2 _ _ l0 a1_0 t195 _ ?side1 ?side2 A18.out).mono ?_); (case side1 => repeat (first | exact (Kd.C_below HR0.out HB.out) | (with_reducible refine Kd.C_alloc ?_ _) | (with_reducible refine Kd.C_drewN ?_ _) | (with_reducible refine Kd.C_drew ?_))); (case side2 => exact HC0.out); rintro e w' ⟨rfl, ⟨nd, rfl⟩⟩; (try first | exact ⟨rfl, _, World.drewN_drewN _ _ _⟩ | exact ⟨rfl, _, Eq.trans (World.drewN_drewN _ _ _) (congrArg (World.drewN _) (Nat.add_assoc _ _ _))⟩))); try go_wp2_with (first | (go_at_call 19; (with_reducible refine (sextonref19_find.calls kj2 _ _ l0 a1_0 t195 _ ?side1 ?side2 A18.out).mono ?_); (case side1 => repeat (first | exact (Kd.C_below HR0.out HB.out) | (with_reducible refine Kd.C_alloc ?_ _) | (with_reducible refine Kd.C_drewN ?_ _) | (with_reducible refine Kd.C_drew ?_))); (case side2 => exact HC0.out); rintro e w' ⟨rfl, ⟨nd, rfl⟩⟩; (try first | exact ⟨rfl, _, World.drewN_drewN _ _ _⟩ | exact ⟨rfl, _, Eq.trans (World.drewN_drewN _ _ _) (congrArg (World.drewN _) (Nat.add_assoc _ _ _))⟩))))
              go_meet
              case rel => exact ⟨_, (decide ((l0.length : Int) ≥ 50)), (by first | rfl | (simp; done) | (simp [*]; done)), H', ⟨by have := HJ2.out; first | omega | exact Nat.le_refl _⟩, ⟨by (with_reducible repeat (first | refine blk_drewN ?_ _ | refine blk_drew ?_ | refine blk_alloc ?_ _)); exact BK191.out⟩, ⟨by repeat (first | (with_reducible first | exact HB.out | apply below_alloc | apply pw_below_drewN | apply below_drew1 | refine below_set ?_ GE191.out) | exact HB.out)⟩⟩
            · rw [if_neg c19] at H
              have c19b0 : decide (t195 < 0) = false := decide_eq_false c19
              clear c19
              (first | rw [c19b0] | (simp only [i64_w, i32_w]; rw [c19b0]) | skip)
              have H' := Aside0.mk H
              clear H
              have hcz21_0 : wc.cell? ⟨gb191, 0, none⟩ = some (.int .i64 a1_0) := (blk_cell BK191.out 0).trans rfl
              have hcz21_1 : wc.cell? ⟨gb191, 1, none⟩ = some (.int .i64 a1_1) := (blk_cell BK191.out 1).trans rfl
              have hcz21_2 : wc.cell? ⟨gb191, 2, none⟩ = some (.int .i64 a1_2) := (blk_cell BK191.out 2).trans rfl
              have hcz21_3 : wc.cell? ⟨gb191, 3, none⟩ = some (.int .i64 a1_3) := (blk_cell BK191.out 3).trans rfl
              have hfz21_0 := blk_frozen BK191.out 0
              have hfz21_1 := blk_frozen BK191.out 1
              have hfz21_2 := blk_frozen BK191.out 2
              have hfz21_3 := blk_frozen BK191.out 3
              go_wp2_with (first | (go_at_call 19; (with_reducible refine (sextonref19_find.calls kj2 _ _ l0 a1_0 t195 _ ?side1 ?side2 A18.out).mono ?_); (case side1 => repeat (first | exact (Kd.C_below HR0.out HB.out) | (with_reducible refine Kd.C_alloc ?_ _) | (with_reducible refine Kd.C_drewN ?_ _) | (with_reducible refine Kd.C_drew ?_))); (case side2 => exact HC0.out); rintro e w' ⟨rfl, ⟨nd, rfl⟩⟩; (try first | exact ⟨rfl, _, World.drewN_drewN _ _ _⟩ | exact ⟨rfl, _, Eq.trans (World.drewN_drewN _ _ _) (congrArg (World.drewN _) (Nat.add_assoc _ _ _))⟩)))
              repeat (go_quiet (first | (go_at_call 19; (with_reducible refine (sextonref19_find.calls kj2 _ _ l0 a1_0 t195 _ ?side1 ?side2 A18.out).mono ?_); (case side1 => repeat (first | exact (Kd.C_below HR0.out HB.out) | (with_reducible refine Kd.C_alloc ?_ _) | (with_reducible refine Kd.C_drewN ?_ _) | (with_reducible refine Kd.C_drew ?_))); (case side2 => exact HC0.out); rintro e w' ⟨rfl, ⟨nd, rfl⟩⟩; (try first | exact ⟨rfl, _, World.drewN_drewN _ _ _⟩ | exact ⟨rfl, _, Eq.trans (World.drewN_drewN _ _ _) (congrArg (World.drewN _) (Nat.add_assoc _ _ _))⟩))); try go_wp2_with (first | (go_at_call 19; (with_reducible refine (sextonref19_find.calls kj2 _ _ l0 a1_0 t195 _ ?side1 ?side2 A18.out).mono ?_); (case side1 => repeat (first | exact (Kd.C_below HR0.out HB.out) | (with_reducible refine Kd.C_alloc ?_ _) | (with_reducible refine Kd.C_drewN ?_ _) | (with_reducible refine Kd.C_drew ?_))); (case side2 => exact HC0.out); rintro e w' ⟨rfl, ⟨nd, rfl⟩⟩; (try first | exact ⟨rfl, _, World.drewN_drewN _ _ _⟩ | exact ⟨rfl, _, Eq.trans (World.drewN_drewN _ _ _) (congrArg (World.drewN _) (Nat.add_assoc _ _ _))⟩))))
              go_meet
              case rel => exact ⟨_, (false), (by first | rfl | (simp; done) | (simp [*]; done)), H', ⟨by have := HJ2.out; first | omega | exact Nat.le_refl _⟩, ⟨by (with_reducible repeat (first | refine blk_drewN ?_ _ | refine blk_drew ?_ | refine blk_alloc ?_ _)); exact BK191.out⟩, ⟨by repeat (first | (with_reducible first | exact HB.out | apply below_alloc | apply pw_below_drewN | apply below_drew1 | refine below_set ?_ GE191.out) | exact HB.out)⟩⟩
          case rest =>
            clear HC16
            try clear c1
            try clear p2
            try clear c6
            try clear c11
            try clear c12
            try clear c14
            try clear c14b0
            try clear c19
            try clear c19b0
            try clear hcz15_0
            try clear hcz15_1
            try clear hcz15_2
            try clear hcz15_3
            try clear hcz17_0
            try clear hcz17_1
            try clear hcz17_2
            try clear hcz17_3
            try clear hcz20_0
            try clear hcz20_1
            try clear hcz20_2
            try clear hcz20_3
            try clear hcz21_0
            try clear hcz21_1
            try clear hcz21_2
            try clear hcz21_3
            try clear hcz9_0
            try clear hcz9_1
            try clear hcz9_2
            try clear hcz9_3
            try clear hfz15_0
            try clear hfz15_1
            try clear hfz15_2
            try clear hfz15_3
            try clear hfz17_0
            try clear hfz17_1
            try clear hfz17_2
            try clear hfz17_3
            try clear hfz20_0
            try clear hfz20_1
            try clear hfz20_2
            try clear hfz20_3
            try clear hfz21_0
            try clear hfz21_1
            try clear hfz21_2
            try clear hfz21_3
            try clear hfz9_0
            try clear hfz9_1
            try clear hfz9_2
            try clear hfz9_3
            try clear p2
            obtain ⟨kq, x32_15, rfl, HA, HJ15, BK191, HB⟩ := hcut
            cases kq with
            | zero => exact absurd HA.out (by simp [sextonref19_Put.j1])
            | succ kj15 =>
              have H := HA.out
              clear HA
              simp only [sextonref19_Put.j1] at H
              by_cases c22 : x32_15 = true
              · subst c22
                have H1 : (some (([] : List (S27)), 2)) = some (r1, r2) := by rw [if_pos rfl] at H; exact H
                clear H
                have H := H1
                clear H1
                simp only [Option.some.injEq, Prod.mk.injEq] at H
                obtain ⟨rfl, rfl⟩ := H
                go_wp2
                repeat (go_quiet (fail); try go_wp2)
                go_ret2
                exact ⟨_, by first | rfl | (simp [errW_none, errW_some] <;> rfl) | (simp [*, errW_none, errW_some] <;> rfl), by first | exact Kd.R_nil _ _ _ _ _ | exact Kd.N_nil _ _ _ _ _ | exact Kd.V_nil _ _ _ _ _ | exact Kd.Q_nil _ _ _ _ _ | exact Kd.S_nil _ _ _ _ _, by repeat (first | (with_reducible first | exact HB.out | apply below_alloc | apply pw_below_drewN | apply below_drew1 | refine below_set ?_ GE191.out) | exact HB.out)⟩
              · replace c22 := Bool.eq_false_iff.mpr c22
                subst c22
                have H1 : (sextonref19_Put.l0 kj15 l0 0 a1_0 a1_1 a1_2 a1_3) = some (r1, r2) := by rw [if_neg (show ¬ (false = true) by decide)] at H; exact H
                clear H
                have H := H1
                clear H1
                have H' := Aside0.mk H
                clear H
                go_wp2
                repeat (go_quiet (fail); try go_wp2)
                go_loopg [6] kj15 (fun kq v6 w' => ∃ (x6_3 : Int), v6 = .int .i64 x6_3 ∧ Aside0 (sextonref19_Put.l0 kq l0 x6_3 a1_0 a1_1 a1_2 a1_3 = some (r1, r2)) ∧ Aside0 (kq ≤ kj15) ∧ Aside0 (w'.heap[gb191]? = some (.cells #[.int .i64 a1_0, .int .i64 a1_1, .int .i64 a1_2, .int .i64 a1_3] 27 (0, 0))) ∧ Aside0 (Below w.heap.size w w'))
                case atStart => exact ⟨(0), (by first | rfl | (simp; done) | (simp [*]; done)), H', ⟨Nat.le_refl _⟩, ⟨by (with_reducible repeat (first | refine blk_drewN ?_ _ | refine blk_drew ?_ | refine blk_alloc ?_ _)); exact BK191.out⟩, ⟨by repeat (first | (with_reducible first | exact HB.out | apply below_alloc | apply pw_below_drewN | apply below_drew1 | refine below_set ?_ GE191.out) | exact HB.out)⟩⟩
                case round =>
                  clear H'
                  try clear c1
                  try clear c2
                  try clear p2
                  try clear c6
                  try clear c11
                  try clear c12
                  try clear c14
                  try clear c14b0
                  try clear c19
                  try clear c19b0
                  try clear c22
                  try clear hcz15_0
                  try clear hcz15_1
                  try clear hcz15_2
                  try clear hcz15_3
                  try clear hcz17_0
                  try clear hcz17_1
                  try clear hcz17_2
                  try clear hcz17_3
                  try clear hcz20_0
                  try clear hcz20_1
                  try clear hcz20_2
                  try clear hcz20_3
                  try clear hcz21_0
                  try clear hcz21_1
                  try clear hcz21_2
                  try clear hcz21_3
                  try clear hcz9_0
                  try clear hcz9_1
                  try clear hcz9_2
                  try clear hcz9_3
                  try clear hfz15_0
                  try clear hfz15_1
                  try clear hfz15_2
                  try clear hfz15_3
                  try clear hfz17_0
                  try clear hfz17_1
                  try clear hfz17_2
                  try clear hfz17_3
                  try clear hfz20_0
                  try clear hfz20_1
                  try clear hfz20_2
                  try clear hfz20_3
                  try clear hfz21_0
                  try clear hfz21_1
                  try clear hfz21_2
                  try clear hfz21_3
                  try clear hfz9_0
                  try clear hfz9_1
                  try clear hfz9_2
                  try clear hfz9_3
                  try clear p2
                  obtain ⟨x6_3, rfl, HA, HK3, BK191, HB⟩ := hrel
                  cases gk with
                  | zero => exact absurd HA.out (by simp [sextonref19_Put.l0])
                  | succ k3 =>
                    have H := HA.out
                    clear HA
                    simp only [sextonref19_Put.l0] at H
                    by_cases c23 : x6_3 < (l0.length : Int)
                    · rw [if_pos c23] at H
                      have c23b0 : decide (x6_3 < (l0.length : Int)) = true := decide_eq_true c23
                      clear c23
                      by_cases c24 : 0 ≤ x6_3
                      · rw [if_pos c24] at H
                        have c24b0 : decide (0 ≤ x6_3) = true := decide_eq_true c24
                        clear c24
                        by_cases c25 : ((rd_T27 l0 x6_3).f0) < a1_0
                        · rw [if_pos c25] at H
                          have c25b0 : decide (((rd_T27 l0 x6_3).f0) < a1_0) = true := decide_eq_true c25
                          clear c25
                          have H' := Aside0.mk H
                          clear H
                          have p196 : 0 ≤ (x6_3 : Int) := of_decide_eq_true (by first | (with_reducible assumption) | assumption)
                          have q196 : x6_3 < (l0.length : Int) := of_decide_eq_true (by first | (with_reducible assumption) | assumption)
                          obtain ⟨ad196, e196, hx196_0, hx196_1, hx196_2, hx196_3⟩ := at_T27 HR0.out x6_3 p196 q196
                          cases e196
                          replace hx196_0 := (HB.out.cell (World.block_lt_of_cell? w _ hx196_0)).trans hx196_0
                          replace hx196_1 := (HB.out.cell (World.block_lt_of_cell? w _ hx196_1)).trans hx196_1
                          replace hx196_2 := (HB.out.cell (World.block_lt_of_cell? w _ hx196_2)).trans hx196_2
                          replace hx196_3 := (HB.out.cell (World.block_lt_of_cell? w _ hx196_3)).trans hx196_3
                          replace p196 := eq_true p196
                          replace q196 := eq_true q196
                          have hcz26_0 : wr.cell? ⟨gb191, 0, none⟩ = some (.int .i64 a1_0) := (blk_cell BK191.out 0).trans rfl
                          have hcz26_1 : wr.cell? ⟨gb191, 1, none⟩ = some (.int .i64 a1_1) := (blk_cell BK191.out 1).trans rfl
                          have hcz26_2 : wr.cell? ⟨gb191, 2, none⟩ = some (.int .i64 a1_2) := (blk_cell BK191.out 2).trans rfl
                          have hcz26_3 : wr.cell? ⟨gb191, 3, none⟩ = some (.int .i64 a1_3) := (blk_cell BK191.out 3).trans rfl
                          have hfz26_0 := blk_frozen BK191.out 0
                          have hfz26_1 := blk_frozen BK191.out 1
                          have hfz26_2 := blk_frozen BK191.out 2
                          have hfz26_3 := blk_frozen BK191.out 3
                          go_wp2
                          repeat (go_quiet (fail); try go_wp2)
                          go_roundg k3
                          case measure => have := HJ2.out; have := HJ15.out; have := HK3.out; omega
                          case rel => exact ⟨(wrap64 (x6_3 + 1)), (by first | rfl | (simp; done) | (simp [*]; done)), H', ⟨by have := HJ2.out; have := HJ15.out; have := HK3.out; omega⟩, ⟨by (with_reducible repeat (first | refine blk_drewN ?_ _ | refine blk_drew ?_ | refine blk_alloc ?_ _)); exact BK191.out⟩, ⟨by repeat (first | (with_reducible first | exact HB.out | apply below_alloc | apply pw_below_drewN | apply below_drew1 | refine below_set ?_ GE191.out) | exact HB.out)⟩⟩
                        · rw [if_neg c25] at H
                          have c25b0 : decide (((rd_T27 l0 x6_3).f0) < a1_0) = false := decide_eq_false c25
                          clear c25
                          have c27b0 := eq_true (of_decide_eq_true (by first | (with_reducible assumption) | assumption) : 0 ≤ x6_3)
                          by_cases c28 : x6_3 ≤ (l0.length : Int)
                          · rw [if_pos c28] at H
                            have c28b0 := eq_true c28
                            have c28b1 : decide (x6_3 ≤ (l0.length : Int)) = true := decide_eq_true c28
                            clear c28
                            obtain ⟨y197, hy197⟩ : ∃ y_ : List (S27), y_ = (l0.take (x6_3 : Int).toNat) := ⟨_, rfl⟩
                            replace H : (if ([] : List (S27)).length + y197.length < 4398046511104 then ((some (([] : List (S27)) ++ y197 : List (S27))).bind fun y201 => (if y201.length < 4398046511104 then ((some (y201 ++ [(⟨a1_0, a1_1, (⟨a1_2, a1_3⟩ : S25)⟩ : S27)] : List (S27))).bind fun y204 => (if ((rd_T27 l0 x6_3).f0) = a1_0 then (if 0 ≤ (wrap64 (x6_3 + 1)) then (if (wrap64 (x6_3 + 1)) ≤ (l0.length : Int) then ((some (l0.drop ((wrap64 (x6_3 + 1)) : Int).toNat : List (S27))).bind fun y208 => (if y204.length + y208.length < 4398046511104 then (some ((y204 ++ y208), 0)) else (none))) else (none)) else (none)) else ((some (l0.drop (x6_3 : Int).toNat : List (S27))).bind fun y215 => (if y204.length + y215.length < 4398046511104 then (some ((y204 ++ y215), 0)) else (none))))) else (none))) else (none)) = some (r1, r2) := by first | (rw [hy197]; with_reducible exact H) | (have H2_ := (Option.bind_some _ _).symm.trans H; rw [hy197]; with_reducible exact H2_) | (have H2_ := (Option.bind_some _ _).symm.trans H; with_reducible exact H2_) | with_reducible exact H | (rw [hy197]; exact H) | exact H
                            have Ny197 := Aside0.mk hy197
                            clear hy197
                            by_cases c29 : ([] : List (S27)).length + y197.length < 4398046511104
                            · rw [if_pos c29] at H
                              have LMc29 := Aside0.mk c29
                              clear c29
                              obtain ⟨y201, hy201⟩ : ∃ y_ : List (S27), y_ = (([] : List (S27)) ++ y197) := ⟨_, rfl⟩
                              replace H : (if y201.length < 4398046511104 then ((some (y201 ++ [(⟨a1_0, a1_1, (⟨a1_2, a1_3⟩ : S25)⟩ : S27)] : List (S27))).bind fun y204 => (if ((rd_T27 l0 x6_3).f0) = a1_0 then (if 0 ≤ (wrap64 (x6_3 + 1)) then (if (wrap64 (x6_3 + 1)) ≤ (l0.length : Int) then ((some (l0.drop ((wrap64 (x6_3 + 1)) : Int).toNat : List (S27))).bind fun y208 => (if y204.length + y208.length < 4398046511104 then (some ((y204 ++ y208), 0)) else (none))) else (none)) else (none)) else ((some (l0.drop (x6_3 : Int).toNat : List (S27))).bind fun y215 => (if y204.length + y215.length < 4398046511104 then (some ((y204 ++ y215), 0)) else (none))))) else (none)) = some (r1, r2) := by first | (rw [hy201]; with_reducible exact H) | (have H2_ := (Option.bind_some _ _).symm.trans H; rw [hy201]; with_reducible exact H2_) | (have H2_ := (Option.bind_some _ _).symm.trans H; with_reducible exact H2_) | with_reducible exact H | (rw [hy201]; exact H) | exact H
                              have Ny201 := Aside0.mk hy201
                              clear hy201
                              by_cases c30 : y201.length < 4398046511104
                              · rw [if_pos c30] at H
                                have LMc30 := Aside0.mk c30
                                clear c30
                                obtain ⟨y204, hy204⟩ : ∃ y_ : List (S27), y_ = (y201 ++ [(⟨a1_0, a1_1, (⟨a1_2, a1_3⟩ : S25)⟩ : S27)]) := ⟨_, rfl⟩
                                replace H : (if ((rd_T27 l0 x6_3).f0) = a1_0 then (if 0 ≤ (wrap64 (x6_3 + 1)) then (if (wrap64 (x6_3 + 1)) ≤ (l0.length : Int) then ((some (l0.drop ((wrap64 (x6_3 + 1)) : Int).toNat : List (S27))).bind fun y208 => (if y204.length + y208.length < 4398046511104 then (some ((y204 ++ y208), 0)) else (none))) else (none)) else (none)) else ((some (l0.drop (x6_3 : Int).toNat : List (S27))).bind fun y215 => (if y204.length + y215.length < 4398046511104 then (some ((y204 ++ y215), 0)) else (none)))) = some (r1, r2) := by first | (rw [hy204]; with_reducible exact H) | (have H2_ := (Option.bind_some _ _).symm.trans H; rw [hy204]; with_reducible exact H2_) | (have H2_ := (Option.bind_some _ _).symm.trans H; with_reducible exact H2_) | with_reducible exact H | (rw [hy204]; exact H) | exact H
                                have Ny204 := Aside0.mk hy204
                                clear hy204
                                by_cases c31 : ((rd_T27 l0 x6_3).f0) = a1_0
                                · rw [if_pos c31] at H
                                  have c31b0 : (((rd_T27 l0 x6_3).f0) == a1_0) = true := beq_iff_eq.mpr c31
                                  have c31b1 : (((rd_T27 l0 x6_3).f0) != a1_0) = false := bne_eq_false_iff_eq.mpr c31
                                  clear c31
                                  obtain ⟨ji32, hji32⟩ : ∃ j_ : Int, (wrap64 (x6_3 + 1)) = j_ := ⟨_, rfl⟩
                                  replace H : (if 0 ≤ (ji32) then (if (ji32) ≤ (l0.length : Int) then ((some (l0.drop ((ji32) : Int).toNat : List (S27))).bind fun y208 => (if y204.length + y208.length < 4398046511104 then (some ((y204 ++ y208), 0)) else (none))) else (none)) else (none)) = some (r1, r2) := by first | (rw [hji32] at H; exact H) | (simp only [hji32] at H ⊢; exact H)
                                  have hji32w : (IntKind.i64.wrap (x6_3 + 1)) = ji32 := (i64_w _).trans hji32
                                  by_cases c33 : 0 ≤ (ji32)
                                  · rw [if_pos c33] at H
                                    have c33b0 := eq_true c33
                                    have c33b1 : decide (0 ≤ (ji32)) = true := decide_eq_true c33
                                    clear c33
                                    by_cases c34 : (ji32) ≤ (l0.length : Int)
                                    · rw [if_pos c34] at H
                                      have c34b0 := eq_true c34
                                      have c34b1 : decide ((ji32) ≤ (l0.length : Int)) = true := decide_eq_true c34
                                      clear c34
                                      obtain ⟨y208, hy208⟩ : ∃ y_ : List (S27), y_ = (l0.drop ((ji32) : Int).toNat) := ⟨_, rfl⟩
                                      replace H : (if y204.length + y208.length < 4398046511104 then (some ((y204 ++ y208), 0)) else (none)) = some (r1, r2) := by first | (rw [hy208]; with_reducible exact H) | (have H2_ := (Option.bind_some _ _).symm.trans H; rw [hy208]; with_reducible exact H2_) | (have H2_ := (Option.bind_some _ _).symm.trans H; with_reducible exact H2_) | with_reducible exact H | (rw [hy208]; exact H) | exact H
                                      have Ny208 := Aside0.mk hy208
                                      clear hy208
                                      by_cases c35 : y204.length + y208.length < 4398046511104
                                      · rw [if_pos c35] at H
                                        have LMc35 := Aside0.mk c35
                                        clear c35
                                        obtain ⟨y212, hy212⟩ : ∃ y_ : List (S27), y_ = (y204 ++ y208) := ⟨_, rfl⟩
                                        replace H : (some (y212, 0)) = some (r1, r2) := by first | (rw [hy212]; with_reducible exact H) | (have H2_ := (Option.bind_some _ _).symm.trans H; rw [hy212]; with_reducible exact H2_) | (have H2_ := (Option.bind_some _ _).symm.trans H; with_reducible exact H2_) | with_reducible exact H | (rw [hy212]; exact H) | exact H
                                        have Ny212 := Aside0.mk hy212
                                        clear hy212
                                        simp only [Option.some.injEq, Prod.mk.injEq] at H
                                        obtain ⟨rfl, rfl⟩ := H
                                        have p196 : 0 ≤ (x6_3 : Int) := of_decide_eq_true (by first | (with_reducible assumption) | assumption)
                                        have q196 : x6_3 < (l0.length : Int) := of_decide_eq_true (by first | (with_reducible assumption) | assumption)
                                        obtain ⟨ad196, e196, hx196_0, hx196_1, hx196_2, hx196_3⟩ := at_T27 HR0.out x6_3 p196 q196
                                        cases e196
                                        replace hx196_0 := (HB.out.cell (World.block_lt_of_cell? w _ hx196_0)).trans hx196_0
                                        replace hx196_1 := (HB.out.cell (World.block_lt_of_cell? w _ hx196_1)).trans hx196_1
                                        replace hx196_2 := (HB.out.cell (World.block_lt_of_cell? w _ hx196_2)).trans hx196_2
                                        replace hx196_3 := (HB.out.cell (World.block_lt_of_cell? w _ hx196_3)).trans hx196_3
                                        replace p196 := eq_true p196
                                        replace q196 := eq_true q196
                                        have hcz36_0 : wr.cell? ⟨gb191, 0, none⟩ = some (.int .i64 a1_0) := (blk_cell BK191.out 0).trans rfl
                                        have hcz36_1 : wr.cell? ⟨gb191, 1, none⟩ = some (.int .i64 a1_1) := (blk_cell BK191.out 1).trans rfl
                                        have hcz36_2 : wr.cell? ⟨gb191, 2, none⟩ = some (.int .i64 a1_2) := (blk_cell BK191.out 2).trans rfl
                                        have hcz36_3 : wr.cell? ⟨gb191, 3, none⟩ = some (.int .i64 a1_3) := (blk_cell BK191.out 3).trans rfl
                                        have hfz36_0 := blk_frozen BK191.out 0
                                        have hfz36_1 := blk_frozen BK191.out 1
                                        have hfz36_2 := blk_frozen BK191.out 2
                                        have hfz36_3 := blk_frozen BK191.out 3
                                        have q37 : (x6_3 : Int) ≤ ((l0.length : Int) : Int) := of_decide_eq_true (by first | (with_reducible assumption) | assumption)
                                        obtain ⟨i037, hi037, _, hsz37, _⟩ := info_parts info27
                                        have hroom37 : l0.length ≤ c0 := HC0.out
                                        have hC37 : Kd.C k27 _ (some ad196) l0.length l0 := HR0.out
                                        have hcut37 := cut_to (P := Try.prog) 22 27 .i64 Try.underlying22 hi037 (some ad196) l0.length c0 x6_3 (of_decide_eq_true (by first | (with_reducible assumption) | assumption)) q37 hroom37
                                        have hr37 := Kd.C_take (m := (x6_3 : Int).toNat) hC37 (by omega)
                                        have hy37 : y197.length = (x6_3 : Int).toNat := (by rw [Ny197.out, List.length_take]; omega)
                                        rw [← Ny197.out] at hr37
                                        rw [← hy37] at hcut37
                                        have HR200 := Aside0.mk hr37
                                        have HC200 := Aside0.mk (show y197.length ≤ c0 from by omega)
                                        clear hr37 hC37 hroom37 hi037 hsz37
                                        have KY37 := Aside0.mk hy37
                                        clear hy37
                                        replace q37 := eq_true q37
                                        go_wp2_with (first | ((with_reducible refine gate_builtin (b := .append) (xs := #[.tmp 49, .tmp 52]) rfl ?_); (try (refine gate_guard (by rfl) ?_; dsimp only)); at_builtin; refine Kd.R_append_rows k27 (w0 := w) w.heap.size rfl (.tmp 49) (.tmp 52) 22 27 (.agg #[(.int .i64 0), (.int .i64 0), (.int .i64 0), (.int .i64 0)]) 32 rfl Try.underlying22 info27 rfl (by decide) (by omega) (.slice none 0 0) ([] : List (S27)) y197 _ _ _ (fun k_ => k_ ≠ gb191) (fun _ => False) rfl rfl ?aO ?aR (fun _ _ h => h) (fun _ h => h.elim) ?aF ?aB ?aS ?aL ?_; (case aR => (try change Kd.C k27 _ _ _ _); repeat (first | exact (Kd.C_below HR200.out HB.out) | (with_reducible refine Kd.C_alloc ?_ _) | (with_reducible refine Kd.C_drewN ?_ _) | (with_reducible refine Kd.C_drew ?_))); (case aB => exact (by repeat (first | (with_reducible first | exact HB.out | apply below_alloc | apply pw_below_drewN | apply below_drew1 | refine below_set ?_ GE191.out) | exact HB.out))); (case aF => exact (fun k_ hk => Kd.freshB (g := gb191) (o := .cells #[.int .i64 a1_0, .int .i64 a1_1, .int .i64 a1_2, .int .i64 a1_3] 27 (0, 0)) (by (with_reducible repeat (first | refine blk_drewN ?_ _ | refine blk_drew ?_ | refine blk_alloc ?_ _)); exact BK191.out) k_ hk)); (case aO => exact ((Kd.R_nil _ _ _ _ (fun k_ => k_ ≠ gb191)))); (case aS => exact (below_size (by repeat (first | (with_reducible first | exact HB.out | apply below_alloc | apply pw_below_drewN | apply below_drew1 | refine below_set ?_ GE191.out) | exact HB.out)))); (case aL => have := LMc29.out; omega); intro v202 w38 ho hb hg hat; rw [← Ny201.out] at ho; have n0_ := Aside0.mk (blk_grown (g := gb191) (o := .cells #[.int .i64 a1_0, .int .i64 a1_1, .int .i64 a1_2, .int .i64 a1_3] 27 (0, 0)) (by (with_reducible repeat (first | refine blk_drewN ?_ _ | refine blk_drew ?_ | refine blk_alloc ?_ _)); exact BK191.out) hg (by simp [Value.ownBlock])); have n1_ := Aside0.mk (hb); have n2_ := Aside0.mk (ho); clear BK191; clear HB; have BK191 := n0_; have HB := n1_; have HO203 := n2_; clear n0_ n1_ n2_; clear ho hb hg hat; have hcz39_0 : w38.cell? ⟨gb191, 0, none⟩ = some (.int .i64 a1_0) := (blk_cell BK191.out 0).trans rfl; have hcz39_1 : w38.cell? ⟨gb191, 1, none⟩ = some (.int .i64 a1_1) := (blk_cell BK191.out 1).trans rfl; have hcz39_2 : w38.cell? ⟨gb191, 2, none⟩ = some (.int .i64 a1_2) := (blk_cell BK191.out 2).trans rfl; have hcz39_3 : w38.cell? ⟨gb191, 3, none⟩ = some (.int .i64 a1_3) := (blk_cell BK191.out 3).trans rfl; have hfz39_0 := blk_frozen BK191.out 0; have hfz39_1 := blk_frozen BK191.out 1; have hfz39_2 := blk_frozen BK191.out 2; have hfz39_3 := blk_frozen BK191.out 3) | ((with_reducible refine gate_builtin (b := .append) (xs := #[.tmp 54, .tmp 56]) rfl ?_); (try (refine gate_guard (by rfl) ?_; dsimp only)); at_builtin; refine Kd.R_append k27 (w0 := w) w.heap.size rfl (.tmp 54) (.tmp 56) 22 27 (.agg #[(.int .i64 0), (.int .i64 0), (.int .i64 0), (.int .i64 0)]) 32 rfl Try.underlying22 info27 rfl (by decide) (by omega) v202 y201 (⟨a1_0, a1_1, (⟨a1_2, a1_3⟩ : S25)⟩ : S27) [.int .i64 a1_0, .int .i64 a1_1, .int .i64 a1_2, .int .i64 a1_3] (fun k_ => k_ ≠ gb191) (fun _ => False) rfl rfl ?aP (fun _ hk => hk.elim) ?aF ?aO ?aB ?aS ?aL ?_; (case aP => exact k27_mkM _ _ _ (⟨a1_0, a1_1, (⟨a1_2, a1_3⟩ : S25)⟩ : S27)); (case aB => exact (by repeat (first | (with_reducible first | exact HB.out | apply below_alloc | apply pw_below_drewN | apply below_drew1 | refine below_set ?_ GE191.out) | exact HB.out))); (case aF => exact (fun k_ hk => Kd.freshB (g := gb191) (o := .cells #[.int .i64 a1_0, .int .i64 a1_1, .int .i64 a1_2, .int .i64 a1_3] 27 (0, 0)) (by (with_reducible repeat (first | refine blk_drewN ?_ _ | refine blk_drew ?_ | refine blk_alloc ?_ _)); exact BK191.out) k_ hk)); (case aO => exact (by (with_reducible repeat (first | apply Kd.R_alloc | apply Kd.R_drewN | apply Kd.R_drew)); exact HO203.out)); (case aS => exact (below_size (by repeat (first | (with_reducible first | exact HB.out | apply below_alloc | apply pw_below_drewN | apply below_drew1 | refine below_set ?_ GE191.out) | exact HB.out)))); (case aL => have := LMc30.out; omega); intro v205 w40 ho hb hg hat; rw [← Ny204.out] at ho; have n0_ := Aside0.mk (blk_grown (g := gb191) (o := .cells #[.int .i64 a1_0, .int .i64 a1_1, .int .i64 a1_2, .int .i64 a1_3] 27 (0, 0)) (by (with_reducible repeat (first | refine blk_drewN ?_ _ | refine blk_drew ?_ | refine blk_alloc ?_ _)); exact BK191.out) hg (Kd.R_away HO203.out (fun _ hk => hk))); have n1_ := Aside0.mk (hb); have n2_ := Aside0.mk (ho); clear BK191; clear HB; clear HO203; have BK191 := n0_; have HB := n1_; have HO206 := n2_; clear n0_ n1_ n2_; clear ho hb hg hat; have p207 : 0 ≤ (x6_3 : Int) := of_decide_eq_true (by first | (with_reducible assumption) | assumption); have q207 : x6_3 < (l0.length : Int) := of_decide_eq_true (by first | (with_reducible assumption) | assumption); obtain ⟨ad207, e207, hx207_0, hx207_1, hx207_2, hx207_3⟩ := at_T27 HR0.out x6_3 p207 q207; obtain rfl : ad196 = ad207 := (by injection e207); replace hx207_0 := (HB.out.cell (World.block_lt_of_cell? w _ hx207_0)).trans hx207_0; replace hx207_1 := (HB.out.cell (World.block_lt_of_cell? w _ hx207_1)).trans hx207_1; replace hx207_2 := (HB.out.cell (World.block_lt_of_cell? w _ hx207_2)).trans hx207_2; replace hx207_3 := (HB.out.cell (World.block_lt_of_cell? w _ hx207_3)).trans hx207_3; replace p207 := eq_true p207; replace q207 := eq_true q207; have hcz41_0 : w40.cell? ⟨gb191, 0, none⟩ = some (.int .i64 a1_0) := (blk_cell BK191.out 0).trans rfl; have hcz41_1 : w40.cell? ⟨gb191, 1, none⟩ = some (.int .i64 a1_1) := (blk_cell BK191.out 1).trans rfl; have hcz41_2 : w40.cell? ⟨gb191, 2, none⟩ = some (.int .i64 a1_2) := (blk_cell BK191.out 2).trans rfl; have hcz41_3 : w40.cell? ⟨gb191, 3, none⟩ = some (.int .i64 a1_3) := (blk_cell BK191.out 3).trans rfl; have hfz41_0 := blk_frozen BK191.out 0; have hfz41_1 := blk_frozen BK191.out 1; have hfz41_2 := blk_frozen BK191.out 2; have hfz41_3 := blk_frozen BK191.out 3; have q42 : ((ji32) : Int) ≤ ((l0.length : Int) : Int) := of_decide_eq_true (by first | (with_reducible assumption) | assumption); obtain ⟨i042, hi042, _, hsz42, _⟩ := info_parts info27; have hroom42 : l0.length ≤ c0 := HC0.out; have hC42 : Kd.C k27 _ (some ad196) l0.length l0 := HR0.out; have q042 : (0 : Int) ≤ ((ji32) : Int) := of_decide_eq_true (by first | (with_reducible assumption) | assumption); have hcut42 := cut_from (P := Try.prog) 22 27 .i64 Try.underlying22 hi042 4 hsz42 (some ad196) l0.length c0 (ji32) q042 q42; have hr42 := Kd.C_drop (m := ((ji32) : Int).toNat) (c := c0) hC42 (by omega) hroom42; obtain ⟨A42, hA42⟩ : ∃ A1, A1 = (if c0 = ((ji32) : Int).toNat then (some ad196) else ((some ad196) : Option Addr).map (·.add (((ji32) : Int).toNat * 4))) := ⟨_, rfl⟩; obtain ⟨c42, hc42⟩ : ∃ c1, c1 = c0 - ((ji32) : Int).toNat := ⟨_, rfl⟩; have hy42 : y208.length = l0.length - ((ji32) : Int).toNat := (by rw [Ny208.out, List.length_drop] <;> omega); rw [show (l0).drop ((ji32) : Int).toNat = y208 from Ny208.out.symm] at hr42; replace hr42 : Kd.C k27 _ A42 y208.length y208 := (by rw [hA42]; exact hr42); rw [← hy42, ← hA42, ← hc42] at hcut42; have HR211 := Aside0.mk hr42; have HC211 := Aside0.mk (show y208.length ≤ c42 from by rw [hy42, hc42]; exact Nat.sub_le_sub_right hroom42 _); clear hr42 hC42 hroom42 hi042 hsz42 hc42; have KY42 := Aside0.mk hy42; have KA42 := Aside0.mk hA42; clear hy42 hA42; replace q42 := eq_true q42) | ((with_reducible refine gate_builtin (b := .append) (xs := #[.tmp 74, .tmp 77]) rfl ?_); (try (refine gate_guard (by rfl) ?_; dsimp only)); at_builtin; refine Kd.R_append_rows k27 (w0 := w) w.heap.size rfl (.tmp 74) (.tmp 77) 22 27 (.agg #[(.int .i64 0), (.int .i64 0), (.int .i64 0), (.int .i64 0)]) 32 rfl Try.underlying22 info27 rfl (by decide) (by omega) v205 y204 y208 _ _ _ (fun k_ => k_ ≠ gb191) (fun _ => False) rfl rfl ?aO ?aR (fun _ _ h => h) (fun _ h => h.elim) ?aF ?aB ?aS ?aL ?_; (case aR => (try change Kd.C k27 _ _ _ _); repeat (first | exact (Kd.C_below HR211.out HB.out) | (with_reducible refine Kd.C_alloc ?_ _) | (with_reducible refine Kd.C_drewN ?_ _) | (with_reducible refine Kd.C_drew ?_))); (case aB => exact (by repeat (first | (with_reducible first | exact HB.out | apply below_alloc | apply pw_below_drewN | apply below_drew1 | refine below_set ?_ GE191.out) | exact HB.out))); (case aF => exact (fun k_ hk => Kd.freshB (g := gb191) (o := .cells #[.int .i64 a1_0, .int .i64 a1_1, .int .i64 a1_2, .int .i64 a1_3] 27 (0, 0)) (by (with_reducible repeat (first | refine blk_drewN ?_ _ | refine blk_drew ?_ | refine blk_alloc ?_ _)); exact BK191.out) k_ hk)); (case aO => exact (by (with_reducible repeat (first | apply Kd.R_alloc | apply Kd.R_drewN | apply Kd.R_drew)); exact HO206.out)); (case aS => exact (below_size (by repeat (first | (with_reducible first | exact HB.out | apply below_alloc | apply pw_below_drewN | apply below_drew1 | refine below_set ?_ GE191.out) | exact HB.out)))); (case aL => have := LMc35.out; omega); intro v213 w43 ho hb hg hat; rw [← Ny212.out] at ho; have n0_ := Aside0.mk (blk_grown (g := gb191) (o := .cells #[.int .i64 a1_0, .int .i64 a1_1, .int .i64 a1_2, .int .i64 a1_3] 27 (0, 0)) (by (with_reducible repeat (first | refine blk_drewN ?_ _ | refine blk_drew ?_ | refine blk_alloc ?_ _)); exact BK191.out) hg (Kd.R_away HO206.out (fun _ hk => hk))); have n1_ := Aside0.mk (hb); have n2_ := Aside0.mk (ho); clear BK191; clear HB; clear HO206; have BK191 := n0_; have HB := n1_; have HO214 := n2_; clear n0_ n1_ n2_; clear ho hb hg hat))
                                        repeat (go_quiet (first | ((with_reducible refine gate_builtin (b := .append) (xs := #[.tmp 49, .tmp 52]) rfl ?_); (try (refine gate_guard (by rfl) ?_; dsimp only)); at_builtin; refine Kd.R_append_rows k27 (w0 := w) w.heap.size rfl (.tmp 49) (.tmp 52) 22 27 (.agg #[(.int .i64 0), (.int .i64 0), (.int .i64 0), (.int .i64 0)]) 32 rfl Try.underlying22 info27 rfl (by decide) (by omega) (.slice none 0 0) ([] : List (S27)) y197 _ _ _ (fun k_ => k_ ≠ gb191) (fun _ => False) rfl rfl ?aO ?aR (fun _ _ h => h) (fun _ h => h.elim) ?aF ?aB ?aS ?aL ?_; (case aR => (try change Kd.C k27 _ _ _ _); repeat (first | exact (Kd.C_below HR200.out HB.out) | (with_reducible refine Kd.C_alloc ?_ _) | (with_reducible refine Kd.C_drewN ?_ _) | (with_reducible refine Kd.C_drew ?_))); (case aB => exact (by repeat (first | (with_reducible first | exact HB.out | apply below_alloc | apply pw_below_drewN | apply below_drew1 | refine below_set ?_ GE191.out) | exact HB.out))); (case aF => exact (fun k_ hk => Kd.freshB (g := gb191) (o := .cells #[.int .i64 a1_0, .int .i64 a1_1, .int .i64 a1_2, .int .i64 a1_3] 27 (0, 0)) (by (with_reducible repeat (first | refine blk_drewN ?_ _ | refine blk_drew ?_ | refine blk_alloc ?_ _)); exact BK191.out) k_ hk)); (case aO => exact ((Kd.R_nil _ _ _ _ (fun k_ => k_ ≠ gb191)))); (case aS => exact (below_size (by repeat (first | (with_reducible first | exact HB.out | apply below_alloc | apply pw_below_drewN | apply below_drew1 | refine below_set ?_ GE191.out) | exact HB.out)))); (case aL => have := LMc29.out; omega); intro v202 w38 ho hb hg hat; rw [← Ny201.out] at ho; have n0_ := Aside0.mk (blk_grown (g := gb191) (o := .cells #[.int .i64 a1_0, .int .i64 a1_1, .int .i64 a1_2, .int .i64 a1_3] 27 (0, 0)) (by (with_reducible repeat (first | refine blk_drewN ?_ _ | refine blk_drew ?_ | refine blk_alloc ?_ _)); exact BK191.out) hg (by simp [Value.ownBlock])); have n1_ := Aside0.mk (hb); have n2_ := Aside0.mk (ho); clear BK191; clear HB; have BK191 := n0_; have HB := n1_; have HO203 := n2_; clear n0_ n1_ n2_; clear ho hb hg hat; have hcz39_0 : w38.cell? ⟨gb191, 0, none⟩ = some (.int .i64 a1_0) := (blk_cell BK191.out 0).trans rfl; have hcz39_1 : w38.cell? ⟨gb191, 1, none⟩ = some (.int .i64 a1_1) := (blk_cell BK191.out 1).trans rfl; have hcz39_2 : w38.cell? ⟨gb191, 2, none⟩ = some (.int .i64 a1_2) := (blk_cell BK191.out 2).trans rfl; have hcz39_3 : w38.cell? ⟨gb191, 3, none⟩ = some (.int .i64 a1_3) := (blk_cell BK191.out 3).trans rfl; have hfz39_0 := blk_frozen BK191.out 0; have hfz39_1 := blk_frozen BK191.out 1; have hfz39_2 := blk_frozen BK191.out 2; have hfz39_3 := blk_frozen BK191.out 3) | ((with_reducible refine gate_builtin (b := .append) (xs := #[.tmp 54, .tmp 56]) rfl ?_); (try (refine gate_guard (by rfl) ?_; dsimp only)); at_builtin; refine Kd.R_append k27 (w0 := w) w.heap.size rfl (.tmp 54) (.tmp 56) 22 27 (.agg #[(.int .i64 0), (.int .i64 0), (.int .i64 0), (.int .i64 0)]) 32 rfl Try.underlying22 info27 rfl (by decide) (by omega) v202 y201 (⟨a1_0, a1_1, (⟨a1_2, a1_3⟩ : S25)⟩ : S27) [.int .i64 a1_0, .int .i64 a1_1, .int .i64 a1_2, .int .i64 a1_3] (fun k_ => k_ ≠ gb191) (fun _ => False) rfl rfl ?aP (fun _ hk => hk.elim) ?aF ?aO ?aB ?aS ?aL ?_; (case aP => exact k27_mkM _ _ _ (⟨a1_0, a1_1, (⟨a1_2, a1_3⟩ : S25)⟩ : S27)); (case aB => exact (by repeat (first | (with_reducible first | exact HB.out | apply below_alloc | apply pw_below_drewN | apply below_drew1 | refine below_set ?_ GE191.out) | exact HB.out))); (case aF => exact (fun k_ hk => Kd.freshB (g := gb191) (o := .cells #[.int .i64 a1_0, .int .i64 a1_1, .int .i64 a1_2, .int .i64 a1_3] 27 (0, 0)) (by (with_reducible repeat (first | refine blk_drewN ?_ _ | refine blk_drew ?_ | refine blk_alloc ?_ _)); exact BK191.out) k_ hk)); (case aO => exact (by (with_reducible repeat (first | apply Kd.R_alloc | apply Kd.R_drewN | apply Kd.R_drew)); exact HO203.out)); (case aS => exact (below_size (by repeat (first | (with_reducible first | exact HB.out | apply below_alloc | apply pw_below_drewN | apply below_drew1 | refine below_set ?_ GE191.out) | exact HB.out)))); (case aL => have := LMc30.out; omega); intro v205 w40 ho hb hg hat; rw [← Ny204.out] at ho; have n0_ := Aside0.mk (blk_grown (g := gb191) (o := .cells #[.int .i64 a1_0, .int .i64 a1_1, .int .i64 a1_2, .int .i64 a1_3] 27 (0, 0)) (by (with_reducible repeat (first | refine blk_drewN ?_ _ | refine blk_drew ?_ | refine blk_alloc ?_ _)); exact BK191.out) hg (Kd.R_away HO203.out (fun _ hk => hk))); have n1_ := Aside0.mk (hb); have n2_ := Aside0.mk (ho); clear BK191; clear HB; clear HO203; have BK191 := n0_; have HB := n1_; have HO206 := n2_; clear n0_ n1_ n2_; clear ho hb hg hat; have p207 : 0 ≤ (x6_3 : Int) := of_decide_eq_true (by first | (with_reducible assumption) | assumption); have q207 : x6_3 < (l0.length : Int) := of_decide_eq_true (by first | (with_reducible assumption) | assumption); obtain ⟨ad207, e207, hx207_0, hx207_1, hx207_2, hx207_3⟩ := at_T27 HR0.out x6_3 p207 q207; obtain rfl : ad196 = ad207 := (by injection e207); replace hx207_0 := (HB.out.cell (World.block_lt_of_cell? w _ hx207_0)).trans hx207_0; replace hx207_1 := (HB.out.cell (World.block_lt_of_cell? w _ hx207_1)).trans hx207_1; replace hx207_2 := (HB.out.cell (World.block_lt_of_cell? w _ hx207_2)).trans hx207_2; replace hx207_3 := (HB.out.cell (World.block_lt_of_cell? w _ hx207_3)).trans hx207_3; replace p207 := eq_true p207; replace q207 := eq_true q207; have hcz41_0 : w40.cell? ⟨gb191, 0, none⟩ = some (.int .i64 a1_0) := (blk_cell BK191.out 0).trans rfl; have hcz41_1 : w40.cell? ⟨gb191, 1, none⟩ = some (.int .i64 a1_1) := (blk_cell BK191.out 1).trans rfl; have hcz41_2 : w40.cell? ⟨gb191, 2, none⟩ = some (.int .i64 a1_2) := (blk_cell BK191.out 2).trans rfl; have hcz41_3 : w40.cell? ⟨gb191, 3, none⟩ = some (.int .i64 a1_3) := (blk_cell BK191.out 3).trans rfl; have hfz41_0 := blk_frozen BK191.out 0; have hfz41_1 := blk_frozen BK191.out 1; have hfz41_2 := blk_frozen BK191.out 2; have hfz41_3 := blk_frozen BK191.out 3; have q42 : ((ji32) : Int) ≤ ((l0.length : Int) : Int) := of_decide_eq_true (by first | (with_reducible assumption) | assumption); obtain ⟨i042, hi042, _, hsz42, _⟩ := info_parts info27; have hroom42 : l0.length ≤ c0 := HC0.out; have hC42 : Kd.C k27 _ (some ad196) l0.length l0 := HR0.out; have q042 : (0 : Int) ≤ ((ji32) : Int) := of_decide_eq_true (by first | (with_reducible assumption) | assumption); have hcut42 := cut_from (P := Try.prog) 22 27 .i64 Try.underlying22 hi042 4 hsz42 (some ad196) l0.length c0 (ji32) q042 q42; have hr42 := Kd.C_drop (m := ((ji32) : Int).toNat) (c := c0) hC42 (by omega) hroom42; obtain ⟨A42, hA42⟩ : ∃ A1, A1 = (if c0 = ((ji32) : Int).toNat then (some ad196) else ((some ad196) : Option Addr).map (·.add (((ji32) : Int).toNat * 4))) := ⟨_, rfl⟩; obtain ⟨c42, hc42⟩ : ∃ c1, c1 = c0 - ((ji32) : Int).toNat := ⟨_, rfl⟩; have hy42 : y208.length = l0.length - ((ji32) : Int).toNat := (by rw [Ny208.out, List.length_drop] <;> omega); rw [show (l0).drop ((ji32) : Int).toNat = y208 from Ny208.out.symm] at hr42; replace hr42 : Kd.C k27 _ A42 y208.length y208 := (by rw [hA42]; exact hr42); rw [← hy42, ← hA42, ← hc42] at hcut42; have HR211 := Aside0.mk hr42; have HC211 := Aside0.mk (show y208.length ≤ c42 from by rw [hy42, hc42]; exact Nat.sub_le_sub_right hroom42 _); clear hr42 hC42 hroom42 hi042 hsz42 hc42; have KY42 := Aside0.mk hy42; have KA42 := Aside0.mk hA42; clear hy42 hA42; replace q42 := eq_true q42) | ((with_reducible refine gate_builtin (b := .append) (xs := #[.tmp 74, .tmp 77]) rfl ?_); (try (refine gate_guard (by rfl) ?_; dsimp only)); at_builtin; refine Kd.R_append_rows k27 (w0 := w) w.heap.size rfl (.tmp 74) (.tmp 77) 22 27 (.agg #[(.int .i64 0), (.int .i64 0), (.int .i64 0), (.int .i64 0)]) 32 rfl Try.underlying22 info27 rfl (by decide) (by omega) v205 y204 y208 _ _ _ (fun k_ => k_ ≠ gb191) (fun _ => False) rfl rfl ?aO ?aR (fun _ _ h => h) (fun _ h => h.elim) ?aF ?aB ?aS ?aL ?_; (case aR => (try change Kd.C k27 _ _ _ _); repeat (first | exact (Kd.C_below HR211.out HB.out) | (with_reducible refine Kd.C_alloc ?_ _) | (with_reducible refine Kd.C_drewN ?_ _) | (with_reducible refine Kd.C_drew ?_))); (case aB => exact (by repeat (first | (with_reducible first | exact HB.out | apply below_alloc | apply pw_below_drewN | apply below_drew1 | refine below_set ?_ GE191.out) | exact HB.out))); (case aF => exact (fun k_ hk => Kd.freshB (g := gb191) (o := .cells #[.int .i64 a1_0, .int .i64 a1_1, .int .i64 a1_2, .int .i64 a1_3] 27 (0, 0)) (by (with_reducible repeat (first | refine blk_drewN ?_ _ | refine blk_drew ?_ | refine blk_alloc ?_ _)); exact BK191.out) k_ hk)); (case aO => exact (by (with_reducible repeat (first | apply Kd.R_alloc | apply Kd.R_drewN | apply Kd.R_drew)); exact HO206.out)); (case aS => exact (below_size (by repeat (first | (with_reducible first | exact HB.out | apply below_alloc | apply pw_below_drewN | apply below_drew1 | refine below_set ?_ GE191.out) | exact HB.out)))); (case aL => have := LMc35.out; omega); intro v213 w43 ho hb hg hat; rw [← Ny212.out] at ho; have n0_ := Aside0.mk (blk_grown (g := gb191) (o := .cells #[.int .i64 a1_0, .int .i64 a1_1, .int .i64 a1_2, .int .i64 a1_3] 27 (0, 0)) (by (with_reducible repeat (first | refine blk_drewN ?_ _ | refine blk_drew ?_ | refine blk_alloc ?_ _)); exact BK191.out) hg (Kd.R_away HO206.out (fun _ hk => hk))); have n1_ := Aside0.mk (hb); have n2_ := Aside0.mk (ho); clear BK191; clear HB; clear HO206; have BK191 := n0_; have HB := n1_; have HO214 := n2_; clear n0_ n1_ n2_; clear ho hb hg hat)); try go_wp2_with (first | ((with_reducible refine gate_builtin (b := .append) (xs := #[.tmp 49, .tmp 52]) rfl ?_); (try (refine gate_guard (by rfl) ?_; dsimp only)); at_builtin; refine Kd.R_append_rows k27 (w0 := w) w.heap.size rfl (.tmp 49) (.tmp 52) 22 27 (.agg #[(.int .i64 0), (.int .i64 0), (.int .i64 0), (.int .i64 0)]) 32 rfl Try.underlying22 info27 rfl (by decide) (by omega) (.slice none 0 0) ([] : List (S27)) y197 _ _ _ (fun k_ => k_ ≠ gb191) (fun _ => False) rfl rfl ?aO ?aR (fun _ _ h => h) (fun _ h => h.elim) ?aF ?aB ?aS ?aL ?_; (case aR => (try change Kd.C k27 _ _ _ _); repeat (first | exact (Kd.C_below HR200.out HB.out) | (with_reducible refine Kd.C_alloc ?_ _) | (with_reducible refine Kd.C_drewN ?_ _) | (with_reducible refine Kd.C_drew ?_))); (case aB => exact (by repeat (first | (with_reducible first | exact HB.out | apply below_alloc | apply pw_below_drewN | apply below_drew1 | refine below_set ?_ GE191.out) | exact HB.out))); (case aF => exact (fun k_ hk => Kd.freshB (g := gb191) (o := .cells #[.int .i64 a1_0, .int .i64 a1_1, .int .i64 a1_2, .int .i64 a1_3] 27 (0, 0)) (by (with_reducible repeat (first | refine blk_drewN ?_ _ | refine blk_drew ?_ | refine blk_alloc ?_ _)); exact BK191.out) k_ hk)); (case aO => exact ((Kd.R_nil _ _ _ _ (fun k_ => k_ ≠ gb191)))); (case aS => exact (below_size (by repeat (first | (with_reducible first | exact HB.out | apply below_alloc | apply pw_below_drewN | apply below_drew1 | refine below_set ?_ GE191.out) | exact HB.out)))); (case aL => have := LMc29.out; omega); intro v202 w38 ho hb hg hat; rw [← Ny201.out] at ho; have n0_ := Aside0.mk (blk_grown (g := gb191) (o := .cells #[.int .i64 a1_0, .int .i64 a1_1, .int .i64 a1_2, .int .i64 a1_3] 27 (0, 0)) (by (with_reducible repeat (first | refine blk_drewN ?_ _ | refine blk_drew ?_ | refine blk_alloc ?_ _)); exact BK191.out) hg (by simp [Value.ownBlock])); have n1_ := Aside0.mk (hb); have n2_ := Aside0.mk (ho); clear BK191; clear HB; have BK191 := n0_; have HB := n1_; have HO203 := n2_; clear n0_ n1_ n2_; clear ho hb hg hat; have hcz39_0 : w38.cell? ⟨gb191, 0, none⟩ = some (.int .i64 a1_0) := (blk_cell BK191.out 0).trans rfl; have hcz39_1 : w38.cell? ⟨gb191, 1, none⟩ = some (.int .i64 a1_1) := (blk_cell BK191.out 1).trans rfl; have hcz39_2 : w38.cell? ⟨gb191, 2, none⟩ = some (.int .i64 a1_2) := (blk_cell BK191.out 2).trans rfl; have hcz39_3 : w38.cell? ⟨gb191, 3, none⟩ = some (.int .i64 a1_3) := (blk_cell BK191.out 3).trans rfl; have hfz39_0 := blk_frozen BK191.out 0; have hfz39_1 := blk_frozen BK191.out 1; have hfz39_2 := blk_frozen BK191.out 2; have hfz39_3 := blk_frozen BK191.out 3) | ((with_reducible refine gate_builtin (b := .append) (xs := #[.tmp 54, .tmp 56]) rfl ?_); (try (refine gate_guard (by rfl) ?_; dsimp only)); at_builtin; refine Kd.R_append k27 (w0 := w) w.heap.size rfl (.tmp 54) (.tmp 56) 22 27 (.agg #[(.int .i64 0), (.int .i64 0), (.int .i64 0), (.int .i64 0)]) 32 rfl Try.underlying22 info27 rfl (by decide) (by omega) v202 y201 (⟨a1_0, a1_1, (⟨a1_2, a1_3⟩ : S25)⟩ : S27) [.int .i64 a1_0, .int .i64 a1_1, .int .i64 a1_2, .int .i64 a1_3] (fun k_ => k_ ≠ gb191) (fun _ => False) rfl rfl ?aP (fun _ hk => hk.elim) ?aF ?aO ?aB ?aS ?aL ?_; (case aP => exact k27_mkM _ _ _ (⟨a1_0, a1_1, (⟨a1_2, a1_3⟩ : S25)⟩ : S27)); (case aB => exact (by repeat (first | (with_reducible first | exact HB.out | apply below_alloc | apply pw_below_drewN | apply below_drew1 | refine below_set ?_ GE191.out) | exact HB.out))); (case aF => exact (fun k_ hk => Kd.freshB (g := gb191) (o := .cells #[.int .i64 a1_0, .int .i64 a1_1, .int .i64 a1_2, .int .i64 a1_3] 27 (0, 0)) (by (with_reducible repeat (first | refine blk_drewN ?_ _ | refine blk_drew ?_ | refine blk_alloc ?_ _)); exact BK191.out) k_ hk)); (case aO => exact (by (with_reducible repeat (first | apply Kd.R_alloc | apply Kd.R_drewN | apply Kd.R_drew)); exact HO203.out)); (case aS => exact (below_size (by repeat (first | (with_reducible first | exact HB.out | apply below_alloc | apply pw_below_drewN | apply below_drew1 | refine below_set ?_ GE191.out) | exact HB.out)))); (case aL => have := LMc30.out; omega); intro v205 w40 ho hb hg hat; rw [← Ny204.out] at ho; have n0_ := Aside0.mk (blk_grown (g := gb191) (o := .cells #[.int .i64 a1_0, .int .i64 a1_1, .int .i64 a1_2, .int .i64 a1_3] 27 (0, 0)) (by (with_reducible repeat (first | refine blk_drewN ?_ _ | refine blk_drew ?_ | refine blk_alloc ?_ _)); exact BK191.out) hg (Kd.R_away HO203.out (fun _ hk => hk))); have n1_ := Aside0.mk (hb); have n2_ := Aside0.mk (ho); clear BK191; clear HB; clear HO203; have BK191 := n0_; have HB := n1_; have HO206 := n2_; clear n0_ n1_ n2_; clear ho hb hg hat; have p207 : 0 ≤ (x6_3 : Int) := of_decide_eq_true (by first | (with_reducible assumption) | assumption); have q207 : x6_3 < (l0.length : Int) := of_decide_eq_true (by first | (with_reducible assumption) | assumption); obtain ⟨ad207, e207, hx207_0, hx207_1, hx207_2, hx207_3⟩ := at_T27 HR0.out x6_3 p207 q207; obtain rfl : ad196 = ad207 := (by injection e207); replace hx207_0 := (HB.out.cell (World.block_lt_of_cell? w _ hx207_0)).trans hx207_0; replace hx207_1 := (HB.out.cell (World.block_lt_of_cell? w _ hx207_1)).trans hx207_1; replace hx207_2 := (HB.out.cell (World.block_lt_of_cell? w _ hx207_2)).trans hx207_2; replace hx207_3 := (HB.out.cell (World.block_lt_of_cell? w _ hx207_3)).trans hx207_3; replace p207 := eq_true p207; replace q207 := eq_true q207; have hcz41_0 : w40.cell? ⟨gb191, 0, none⟩ = some (.int .i64 a1_0) := (blk_cell BK191.out 0).trans rfl; have hcz41_1 : w40.cell? ⟨gb191, 1, none⟩ = some (.int .i64 a1_1) := (blk_cell BK191.out 1).trans rfl; have hcz41_2 : w40.cell? ⟨gb191, 2, none⟩ = some (.int .i64 a1_2) := (blk_cell BK191.out 2).trans rfl; have hcz41_3 : w40.cell? ⟨gb191, 3, none⟩ = some (.int .i64 a1_3) := (blk_cell BK191.out 3).trans rfl; have hfz41_0 := blk_frozen BK191.out 0; have hfz41_1 := blk_frozen BK191.out 1; have hfz41_2 := blk_frozen BK191.out 2; have hfz41_3 := blk_frozen BK191.out 3; have q42 : ((ji32) : Int) ≤ ((l0.length : Int) : Int) := of_decide_eq_true (by first | (with_reducible assumption) | assumption); obtain ⟨i042, hi042, _, hsz42, _⟩ := info_parts info27; have hroom42 : l0.length ≤ c0 := HC0.out; have hC42 : Kd.C k27 _ (some ad196) l0.length l0 := HR0.out; have q042 : (0 : Int) ≤ ((ji32) : Int) := of_decide_eq_true (by first | (with_reducible assumption) | assumption); have hcut42 := cut_from (P := Try.prog) 22 27 .i64 Try.underlying22 hi042 4 hsz42 (some ad196) l0.length c0 (ji32) q042 q42; have hr42 := Kd.C_drop (m := ((ji32) : Int).toNat) (c := c0) hC42 (by omega) hroom42; obtain ⟨A42, hA42⟩ : ∃ A1, A1 = (if c0 = ((ji32) : Int).toNat then (some ad196) else ((some ad196) : Option Addr).map (·.add (((ji32) : Int).toNat * 4))) := ⟨_, rfl⟩; obtain ⟨c42, hc42⟩ : ∃ c1, c1 = c0 - ((ji32) : Int).toNat := ⟨_, rfl⟩; have hy42 : y208.length = l0.length - ((ji32) : Int).toNat := (by rw [Ny208.out, List.length_drop] <;> omega); rw [show (l0).drop ((ji32) : Int).toNat = y208 from Ny208.out.symm] at hr42; replace hr42 : Kd.C k27 _ A42 y208.length y208 := (by rw [hA42]; exact hr42); rw [← hy42, ← hA42, ← hc42] at hcut42; have HR211 := Aside0.mk hr42; have HC211 := Aside0.mk (show y208.length ≤ c42 from by rw [hy42, hc42]; exact Nat.sub_le_sub_right hroom42 _); clear hr42 hC42 hroom42 hi042 hsz42 hc42; have KY42 := Aside0.mk hy42; have KA42 := Aside0.mk hA42; clear hy42 hA42; replace q42 := eq_true q42) | ((with_reducible refine gate_builtin (b := .append) (xs := #[.tmp 74, .tmp 77]) rfl ?_); (try (refine gate_guard (by rfl) ?_; dsimp only)); at_builtin; refine Kd.R_append_rows k27 (w0 := w) w.heap.size rfl (.tmp 74) (.tmp 77) 22 27 (.agg #[(.int .i64 0), (.int .i64 0), (.int .i64 0), (.int .i64 0)]) 32 rfl Try.underlying22 info27 rfl (by decide) (by omega) v205 y204 y208 _ _ _ (fun k_ => k_ ≠ gb191) (fun _ => False) rfl rfl ?aO ?aR (fun _ _ h => h) (fun _ h => h.elim) ?aF ?aB ?aS ?aL ?_; (case aR => (try change Kd.C k27 _ _ _ _); repeat (first | exact (Kd.C_below HR211.out HB.out) | (with_reducible refine Kd.C_alloc ?_ _) | (with_reducible refine Kd.C_drewN ?_ _) | (with_reducible refine Kd.C_drew ?_))); (case aB => exact (by repeat (first | (with_reducible first | exact HB.out | apply below_alloc | apply pw_below_drewN | apply below_drew1 | refine below_set ?_ GE191.out) | exact HB.out))); (case aF => exact (fun k_ hk => Kd.freshB (g := gb191) (o := .cells #[.int .i64 a1_0, .int .i64 a1_1, .int .i64 a1_2, .int .i64 a1_3] 27 (0, 0)) (by (with_reducible repeat (first | refine blk_drewN ?_ _ | refine blk_drew ?_ | refine blk_alloc ?_ _)); exact BK191.out) k_ hk)); (case aO => exact (by (with_reducible repeat (first | apply Kd.R_alloc | apply Kd.R_drewN | apply Kd.R_drew)); exact HO206.out)); (case aS => exact (below_size (by repeat (first | (with_reducible first | exact HB.out | apply below_alloc | apply pw_below_drewN | apply below_drew1 | refine below_set ?_ GE191.out) | exact HB.out)))); (case aL => have := LMc35.out; omega); intro v213 w43 ho hb hg hat; rw [← Ny212.out] at ho; have n0_ := Aside0.mk (blk_grown (g := gb191) (o := .cells #[.int .i64 a1_0, .int .i64 a1_1, .int .i64 a1_2, .int .i64 a1_3] 27 (0, 0)) (by (with_reducible repeat (first | refine blk_drewN ?_ _ | refine blk_drew ?_ | refine blk_alloc ?_ _)); exact BK191.out) hg (Kd.R_away HO206.out (fun _ hk => hk))); have n1_ := Aside0.mk (hb); have n2_ := Aside0.mk (ho); clear BK191; clear HB; clear HO206; have BK191 := n0_; have HB := n1_; have HO214 := n2_; clear n0_ n1_ n2_; clear ho hb hg hat)))
                                        go_ret2
                                        exact ⟨_, by first | rfl | (simp [errW_none, errW_some] <;> rfl) | (simp only [← hji32]; first | rfl | (simp [errW_none, errW_some] <;> rfl)) | (simp [*, errW_none, errW_some] <;> rfl), by (with_reducible repeat (first | apply Kd.R_alloc | apply Kd.R_drewN | apply Kd.R_drew)); exact Kd.R_mono HO214.out (fun _ hk => trivial), by repeat (first | (with_reducible first | exact HB.out | apply below_alloc | apply pw_below_drewN | apply below_drew1 | refine below_set ?_ GE191.out) | exact HB.out)⟩
                                      · rw [if_neg c35] at H
                                        exact absurd H (by simp)
                                    · rw [if_neg c34] at H
                                      exact absurd H (by simp)
                                  · rw [if_neg c33] at H
                                    exact absurd H (by simp)
                                · rw [if_neg c31] at H
                                  have c31b0 : (((rd_T27 l0 x6_3).f0) == a1_0) = false := beq_eq_false_iff_ne.mpr c31
                                  have c31b1 : (((rd_T27 l0 x6_3).f0) != a1_0) = true := bne_iff_ne.mpr c31
                                  have c44b0 := eq_true (of_decide_eq_true (by first | (with_reducible assumption) | assumption) : 0 ≤ x6_3)
                                  have c45b0 := eq_true (of_decide_eq_true (by first | (with_reducible assumption) | assumption) : x6_3 ≤ (l0.length : Int))
                                  obtain ⟨y215, hy215⟩ : ∃ y_ : List (S27), y_ = (l0.drop (x6_3 : Int).toNat) := ⟨_, rfl⟩
                                  replace H : (if y204.length + y215.length < 4398046511104 then (some ((y204 ++ y215), 0)) else (none)) = some (r1, r2) := by first | (rw [hy215]; with_reducible exact H) | (have H2_ := (Option.bind_some _ _).symm.trans H; rw [hy215]; with_reducible exact H2_) | (have H2_ := (Option.bind_some _ _).symm.trans H; with_reducible exact H2_) | with_reducible exact H | (rw [hy215]; exact H) | exact H
                                  have Ny215 := Aside0.mk hy215
                                  clear hy215
                                  by_cases c46 : y204.length + y215.length < 4398046511104
                                  · rw [if_pos c46] at H
                                    have LMc46 := Aside0.mk c46
                                    clear c46
                                    obtain ⟨y219, hy219⟩ : ∃ y_ : List (S27), y_ = (y204 ++ y215) := ⟨_, rfl⟩
                                    replace H : (some (y219, 0)) = some (r1, r2) := by first | (rw [hy219]; with_reducible exact H) | (have H2_ := (Option.bind_some _ _).symm.trans H; rw [hy219]; with_reducible exact H2_) | (have H2_ := (Option.bind_some _ _).symm.trans H; with_reducible exact H2_) | with_reducible exact H | (rw [hy219]; exact H) | exact H
                                    have Ny219 := Aside0.mk hy219
                                    clear hy219
                                    simp only [Option.some.injEq, Prod.mk.injEq] at H
                                    obtain ⟨rfl, rfl⟩ := H
                                    have p196 : 0 ≤ (x6_3 : Int) := of_decide_eq_true (by first | (with_reducible assumption) | assumption)
                                    have q196 : x6_3 < (l0.length : Int) := of_decide_eq_true (by first | (with_reducible assumption) | assumption)
                                    obtain ⟨ad196, e196, hx196_0, hx196_1, hx196_2, hx196_3⟩ := at_T27 HR0.out x6_3 p196 q196
                                    cases e196
                                    replace hx196_0 := (HB.out.cell (World.block_lt_of_cell? w _ hx196_0)).trans hx196_0
                                    replace hx196_1 := (HB.out.cell (World.block_lt_of_cell? w _ hx196_1)).trans hx196_1
                                    replace hx196_2 := (HB.out.cell (World.block_lt_of_cell? w _ hx196_2)).trans hx196_2
                                    replace hx196_3 := (HB.out.cell (World.block_lt_of_cell? w _ hx196_3)).trans hx196_3
                                    replace p196 := eq_true p196
                                    replace q196 := eq_true q196
                                    have hcz47_0 : wr.cell? ⟨gb191, 0, none⟩ = some (.int .i64 a1_0) := (blk_cell BK191.out 0).trans rfl
                                    have hcz47_1 : wr.cell? ⟨gb191, 1, none⟩ = some (.int .i64 a1_1) := (blk_cell BK191.out 1).trans rfl
                                    have hcz47_2 : wr.cell? ⟨gb191, 2, none⟩ = some (.int .i64 a1_2) := (blk_cell BK191.out 2).trans rfl
                                    have hcz47_3 : wr.cell? ⟨gb191, 3, none⟩ = some (.int .i64 a1_3) := (blk_cell BK191.out 3).trans rfl
                                    have hfz47_0 := blk_frozen BK191.out 0
                                    have hfz47_1 := blk_frozen BK191.out 1
                                    have hfz47_2 := blk_frozen BK191.out 2
                                    have hfz47_3 := blk_frozen BK191.out 3
                                    have q48 : (x6_3 : Int) ≤ ((l0.length : Int) : Int) := of_decide_eq_true (by first | (with_reducible assumption) | assumption)
                                    obtain ⟨i048, hi048, _, hsz48, _⟩ := info_parts info27
                                    have hroom48 : l0.length ≤ c0 := HC0.out
                                    have hC48 : Kd.C k27 _ (some ad196) l0.length l0 := HR0.out
                                    have hcut48 := cut_to (P := Try.prog) 22 27 .i64 Try.underlying22 hi048 (some ad196) l0.length c0 x6_3 (of_decide_eq_true (by first | (with_reducible assumption) | assumption)) q48 hroom48
                                    have hr48 := Kd.C_take (m := (x6_3 : Int).toNat) hC48 (by omega)
                                    have hy48 : y197.length = (x6_3 : Int).toNat := (by rw [Ny197.out, List.length_take]; omega)
                                    rw [← Ny197.out] at hr48
                                    rw [← hy48] at hcut48
                                    have HR200 := Aside0.mk hr48
                                    have HC200 := Aside0.mk (show y197.length ≤ c0 from by omega)
                                    clear hr48 hC48 hroom48 hi048 hsz48
                                    have KY48 := Aside0.mk hy48
                                    clear hy48
                                    replace q48 := eq_true q48
                                    go_wp2_with (first | ((with_reducible refine gate_builtin (b := .append) (xs := #[.tmp 49, .tmp 52]) rfl ?_); (try (refine gate_guard (by rfl) ?_; dsimp only)); at_builtin; refine Kd.R_append_rows k27 (w0 := w) w.heap.size rfl (.tmp 49) (.tmp 52) 22 27 (.agg #[(.int .i64 0), (.int .i64 0), (.int .i64 0), (.int .i64 0)]) 32 rfl Try.underlying22 info27 rfl (by decide) (by omega) (.slice none 0 0) ([] : List (S27)) y197 _ _ _ (fun k_ => k_ ≠ gb191) (fun _ => False) rfl rfl ?aO ?aR (fun _ _ h => h) (fun _ h => h.elim) ?aF ?aB ?aS ?aL ?_; (case aR => (try change Kd.C k27 _ _ _ _); repeat (first | exact (Kd.C_below HR200.out HB.out) | (with_reducible refine Kd.C_alloc ?_ _) | (with_reducible refine Kd.C_drewN ?_ _) | (with_reducible refine Kd.C_drew ?_))); (case aB => exact (by repeat (first | (with_reducible first | exact HB.out | apply below_alloc | apply pw_below_drewN | apply below_drew1 | refine below_set ?_ GE191.out) | exact HB.out))); (case aF => exact (fun k_ hk => Kd.freshB (g := gb191) (o := .cells #[.int .i64 a1_0, .int .i64 a1_1, .int .i64 a1_2, .int .i64 a1_3] 27 (0, 0)) (by (with_reducible repeat (first | refine blk_drewN ?_ _ | refine blk_drew ?_ | refine blk_alloc ?_ _)); exact BK191.out) k_ hk)); (case aO => exact ((Kd.R_nil _ _ _ _ (fun k_ => k_ ≠ gb191)))); (case aS => exact (below_size (by repeat (first | (with_reducible first | exact HB.out | apply below_alloc | apply pw_below_drewN | apply below_drew1 | refine below_set ?_ GE191.out) | exact HB.out)))); (case aL => have := LMc29.out; omega); intro v202 w49 ho hb hg hat; rw [← Ny201.out] at ho; have n0_ := Aside0.mk (blk_grown (g := gb191) (o := .cells #[.int .i64 a1_0, .int .i64 a1_1, .int .i64 a1_2, .int .i64 a1_3] 27 (0, 0)) (by (with_reducible repeat (first | refine blk_drewN ?_ _ | refine blk_drew ?_ | refine blk_alloc ?_ _)); exact BK191.out) hg (by simp [Value.ownBlock])); have n1_ := Aside0.mk (hb); have n2_ := Aside0.mk (ho); clear BK191; clear HB; have BK191 := n0_; have HB := n1_; have HO203 := n2_; clear n0_ n1_ n2_; clear ho hb hg hat; have hcz50_0 : w49.cell? ⟨gb191, 0, none⟩ = some (.int .i64 a1_0) := (blk_cell BK191.out 0).trans rfl; have hcz50_1 : w49.cell? ⟨gb191, 1, none⟩ = some (.int .i64 a1_1) := (blk_cell BK191.out 1).trans rfl; have hcz50_2 : w49.cell? ⟨gb191, 2, none⟩ = some (.int .i64 a1_2) := (blk_cell BK191.out 2).trans rfl; have hcz50_3 : w49.cell? ⟨gb191, 3, none⟩ = some (.int .i64 a1_3) := (blk_cell BK191.out 3).trans rfl; have hfz50_0 := blk_frozen BK191.out 0; have hfz50_1 := blk_frozen BK191.out 1; have hfz50_2 := blk_frozen BK191.out 2; have hfz50_3 := blk_frozen BK191.out 3) | ((with_reducible refine gate_builtin (b := .append) (xs := #[.tmp 54, .tmp 56]) rfl ?_); (try (refine gate_guard (by rfl) ?_; dsimp only)); at_builtin; refine Kd.R_append k27 (w0 := w) w.heap.size rfl (.tmp 54) (.tmp 56) 22 27 (.agg #[(.int .i64 0), (.int .i64 0), (.int .i64 0), (.int .i64 0)]) 32 rfl Try.underlying22 info27 rfl (by decide) (by omega) v202 y201 (⟨a1_0, a1_1, (⟨a1_2, a1_3⟩ : S25)⟩ : S27) [.int .i64 a1_0, .int .i64 a1_1, .int .i64 a1_2, .int .i64 a1_3] (fun k_ => k_ ≠ gb191) (fun _ => False) rfl rfl ?aP (fun _ hk => hk.elim) ?aF ?aO ?aB ?aS ?aL ?_; (case aP => exact k27_mkM _ _ _ (⟨a1_0, a1_1, (⟨a1_2, a1_3⟩ : S25)⟩ : S27)); (case aB => exact (by repeat (first | (with_reducible first | exact HB.out | apply below_alloc | apply pw_below_drewN | apply below_drew1 | refine below_set ?_ GE191.out) | exact HB.out))); (case aF => exact (fun k_ hk => Kd.freshB (g := gb191) (o := .cells #[.int .i64 a1_0, .int .i64 a1_1, .int .i64 a1_2, .int .i64 a1_3] 27 (0, 0)) (by (with_reducible repeat (first | refine blk_drewN ?_ _ | refine blk_drew ?_ | refine blk_alloc ?_ _)); exact BK191.out) k_ hk)); (case aO => exact (by (with_reducible repeat (first | apply Kd.R_alloc | apply Kd.R_drewN | apply Kd.R_drew)); exact HO203.out)); (case aS => exact (below_size (by repeat (first | (with_reducible first | exact HB.out | apply below_alloc | apply pw_below_drewN | apply below_drew1 | refine below_set ?_ GE191.out) | exact HB.out)))); (case aL => have := LMc30.out; omega); intro v205 w51 ho hb hg hat; rw [← Ny204.out] at ho; have n0_ := Aside0.mk (blk_grown (g := gb191) (o := .cells #[.int .i64 a1_0, .int .i64 a1_1, .int .i64 a1_2, .int .i64 a1_3] 27 (0, 0)) (by (with_reducible repeat (first | refine blk_drewN ?_ _ | refine blk_drew ?_ | refine blk_alloc ?_ _)); exact BK191.out) hg (Kd.R_away HO203.out (fun _ hk => hk))); have n1_ := Aside0.mk (hb); have n2_ := Aside0.mk (ho); clear BK191; clear HB; clear HO203; have BK191 := n0_; have HB := n1_; have HO206 := n2_; clear n0_ n1_ n2_; clear ho hb hg hat; have p207 : 0 ≤ (x6_3 : Int) := of_decide_eq_true (by first | (with_reducible assumption) | assumption); have q207 : x6_3 < (l0.length : Int) := of_decide_eq_true (by first | (with_reducible assumption) | assumption); obtain ⟨ad207, e207, hx207_0, hx207_1, hx207_2, hx207_3⟩ := at_T27 HR0.out x6_3 p207 q207; obtain rfl : ad196 = ad207 := (by injection e207); replace hx207_0 := (HB.out.cell (World.block_lt_of_cell? w _ hx207_0)).trans hx207_0; replace hx207_1 := (HB.out.cell (World.block_lt_of_cell? w _ hx207_1)).trans hx207_1; replace hx207_2 := (HB.out.cell (World.block_lt_of_cell? w _ hx207_2)).trans hx207_2; replace hx207_3 := (HB.out.cell (World.block_lt_of_cell? w _ hx207_3)).trans hx207_3; replace p207 := eq_true p207; replace q207 := eq_true q207; have hcz52_0 : w51.cell? ⟨gb191, 0, none⟩ = some (.int .i64 a1_0) := (blk_cell BK191.out 0).trans rfl; have hcz52_1 : w51.cell? ⟨gb191, 1, none⟩ = some (.int .i64 a1_1) := (blk_cell BK191.out 1).trans rfl; have hcz52_2 : w51.cell? ⟨gb191, 2, none⟩ = some (.int .i64 a1_2) := (blk_cell BK191.out 2).trans rfl; have hcz52_3 : w51.cell? ⟨gb191, 3, none⟩ = some (.int .i64 a1_3) := (blk_cell BK191.out 3).trans rfl; have hfz52_0 := blk_frozen BK191.out 0; have hfz52_1 := blk_frozen BK191.out 1; have hfz52_2 := blk_frozen BK191.out 2; have hfz52_3 := blk_frozen BK191.out 3; have q53 : (x6_3 : Int) ≤ ((l0.length : Int) : Int) := of_decide_eq_true (by first | (with_reducible assumption) | assumption); obtain ⟨i053, hi053, _, hsz53, _⟩ := info_parts info27; have hroom53 : l0.length ≤ c0 := HC0.out; have hC53 : Kd.C k27 _ (some ad196) l0.length l0 := HR0.out; have q053 : (0 : Int) ≤ (x6_3 : Int) := of_decide_eq_true (by first | (with_reducible assumption) | assumption); have hcut53 := cut_from (P := Try.prog) 22 27 .i64 Try.underlying22 hi053 4 hsz53 (some ad196) l0.length c0 x6_3 q053 q53; have hr53 := Kd.C_drop (m := (x6_3 : Int).toNat) (c := c0) hC53 (by omega) hroom53; obtain ⟨A53, hA53⟩ : ∃ A1, A1 = (if c0 = (x6_3 : Int).toNat then (some ad196) else ((some ad196) : Option Addr).map (·.add ((x6_3 : Int).toNat * 4))) := ⟨_, rfl⟩; obtain ⟨c53, hc53⟩ : ∃ c1, c1 = c0 - (x6_3 : Int).toNat := ⟨_, rfl⟩; have hy53 : y215.length = l0.length - (x6_3 : Int).toNat := (by rw [Ny215.out, List.length_drop] <;> omega); rw [show (l0).drop (x6_3 : Int).toNat = y215 from Ny215.out.symm] at hr53; replace hr53 : Kd.C k27 _ A53 y215.length y215 := (by rw [hA53]; exact hr53); rw [← hy53, ← hA53, ← hc53] at hcut53; have HR218 := Aside0.mk hr53; have HC218 := Aside0.mk (show y215.length ≤ c53 from by rw [hy53, hc53]; exact Nat.sub_le_sub_right hroom53 _); clear hr53 hC53 hroom53 hi053 hsz53 hc53; have KY53 := Aside0.mk hy53; have KA53 := Aside0.mk hA53; clear hy53 hA53; replace q53 := eq_true q53) | ((with_reducible refine gate_builtin (b := .append) (xs := #[.tmp 74, .tmp 77]) rfl ?_); (try (refine gate_guard (by rfl) ?_; dsimp only)); at_builtin; refine Kd.R_append_rows k27 (w0 := w) w.heap.size rfl (.tmp 74) (.tmp 77) 22 27 (.agg #[(.int .i64 0), (.int .i64 0), (.int .i64 0), (.int .i64 0)]) 32 rfl Try.underlying22 info27 rfl (by decide) (by omega) v205 y204 y215 _ _ _ (fun k_ => k_ ≠ gb191) (fun _ => False) rfl rfl ?aO ?aR (fun _ _ h => h) (fun _ h => h.elim) ?aF ?aB ?aS ?aL ?_; (case aR => (try change Kd.C k27 _ _ _ _); repeat (first | exact (Kd.C_below HR218.out HB.out) | (with_reducible refine Kd.C_alloc ?_ _) | (with_reducible refine Kd.C_drewN ?_ _) | (with_reducible refine Kd.C_drew ?_))); (case aB => exact (by repeat (first | (with_reducible first | exact HB.out | apply below_alloc | apply pw_below_drewN | apply below_drew1 | refine below_set ?_ GE191.out) | exact HB.out))); (case aF => exact (fun k_ hk => Kd.freshB (g := gb191) (o := .cells #[.int .i64 a1_0, .int .i64 a1_1, .int .i64 a1_2, .int .i64 a1_3] 27 (0, 0)) (by (with_reducible repeat (first | refine blk_drewN ?_ _ | refine blk_drew ?_ | refine blk_alloc ?_ _)); exact BK191.out) k_ hk)); (case aO => exact (by (with_reducible repeat (first | apply Kd.R_alloc | apply Kd.R_drewN | apply Kd.R_drew)); exact HO206.out)); (case aS => exact (below_size (by repeat (first | (with_reducible first | exact HB.out | apply below_alloc | apply pw_below_drewN | apply below_drew1 | refine below_set ?_ GE191.out) | exact HB.out)))); (case aL => have := LMc46.out; omega); intro v220 w54 ho hb hg hat; rw [← Ny219.out] at ho; have n0_ := Aside0.mk (blk_grown (g := gb191) (o := .cells #[.int .i64 a1_0, .int .i64 a1_1, .int .i64 a1_2, .int .i64 a1_3] 27 (0, 0)) (by (with_reducible repeat (first | refine blk_drewN ?_ _ | refine blk_drew ?_ | refine blk_alloc ?_ _)); exact BK191.out) hg (Kd.R_away HO206.out (fun _ hk => hk))); have n1_ := Aside0.mk (hb); have n2_ := Aside0.mk (ho); clear BK191; clear HB; clear HO206; have BK191 := n0_; have HB := n1_; have HO221 := n2_; clear n0_ n1_ n2_; clear ho hb hg hat))
                                    repeat (go_quiet (first | ((with_reducible refine gate_builtin (b := .append) (xs := #[.tmp 49, .tmp 52]) rfl ?_); (try (refine gate_guard (by rfl) ?_; dsimp only)); at_builtin; refine Kd.R_append_rows k27 (w0 := w) w.heap.size rfl (.tmp 49) (.tmp 52) 22 27 (.agg #[(.int .i64 0), (.int .i64 0), (.int .i64 0), (.int .i64 0)]) 32 rfl Try.underlying22 info27 rfl (by decide) (by omega) (.slice none 0 0) ([] : List (S27)) y197 _ _ _ (fun k_ => k_ ≠ gb191) (fun _ => False) rfl rfl ?aO ?aR (fun _ _ h => h) (fun _ h => h.elim) ?aF ?aB ?aS ?aL ?_; (case aR => (try change Kd.C k27 _ _ _ _); repeat (first | exact (Kd.C_below HR200.out HB.out) | (with_reducible refine Kd.C_alloc ?_ _) | (with_reducible refine Kd.C_drewN ?_ _) | (with_reducible refine Kd.C_drew ?_))); (case aB => exact (by repeat (first | (with_reducible first | exact HB.out | apply below_alloc | apply pw_below_drewN | apply below_drew1 | refine below_set ?_ GE191.out) | exact HB.out))); (case aF => exact (fun k_ hk => Kd.freshB (g := gb191) (o := .cells #[.int .i64 a1_0, .int .i64 a1_1, .int .i64 a1_2, .int .i64 a1_3] 27 (0, 0)) (by (with_reducible repeat (first | refine blk_drewN ?_ _ | refine blk_drew ?_ | refine blk_alloc ?_ _)); exact BK191.out) k_ hk)); (case aO => exact ((Kd.R_nil _ _ _ _ (fun k_ => k_ ≠ gb191)))); (case aS => exact (below_size (by repeat (first | (with_reducible first | exact HB.out | apply below_alloc | apply pw_below_drewN | apply below_drew1 | refine below_set ?_ GE191.out) | exact HB.out)))); (case aL => have := LMc29.out; omega); intro v202 w49 ho hb hg hat; rw [← Ny201.out] at ho; have n0_ := Aside0.mk (blk_grown (g := gb191) (o := .cells #[.int .i64 a1_0, .int .i64 a1_1, .int .i64 a1_2, .int .i64 a1_3] 27 (0, 0)) (by (with_reducible repeat (first | refine blk_drewN ?_ _ | refine blk_drew ?_ | refine blk_alloc ?_ _)); exact BK191.out) hg (by simp [Value.ownBlock])); have n1_ := Aside0.mk (hb); have n2_ := Aside0.mk (ho); clear BK191; clear HB; have BK191 := n0_; have HB := n1_; have HO203 := n2_; clear n0_ n1_ n2_; clear ho hb hg hat; have hcz50_0 : w49.cell? ⟨gb191, 0, none⟩ = some (.int .i64 a1_0) := (blk_cell BK191.out 0).trans rfl; have hcz50_1 : w49.cell? ⟨gb191, 1, none⟩ = some (.int .i64 a1_1) := (blk_cell BK191.out 1).trans rfl; have hcz50_2 : w49.cell? ⟨gb191, 2, none⟩ = some (.int .i64 a1_2) := (blk_cell BK191.out 2).trans rfl; have hcz50_3 : w49.cell? ⟨gb191, 3, none⟩ = some (.int .i64 a1_3) := (blk_cell BK191.out 3).trans rfl; have hfz50_0 := blk_frozen BK191.out 0; have hfz50_1 := blk_frozen BK191.out 1; have hfz50_2 := blk_frozen BK191.out 2; have hfz50_3 := blk_frozen BK191.out 3) | ((with_reducible refine gate_builtin (b := .append) (xs := #[.tmp 54, .tmp 56]) rfl ?_); (try (refine gate_guard (by rfl) ?_; dsimp only)); at_builtin; refine Kd.R_append k27 (w0 := w) w.heap.size rfl (.tmp 54) (.tmp 56) 22 27 (.agg #[(.int .i64 0), (.int .i64 0), (.int .i64 0), (.int .i64 0)]) 32 rfl Try.underlying22 info27 rfl (by decide) (by omega) v202 y201 (⟨a1_0, a1_1, (⟨a1_2, a1_3⟩ : S25)⟩ : S27) [.int .i64 a1_0, .int .i64 a1_1, .int .i64 a1_2, .int .i64 a1_3] (fun k_ => k_ ≠ gb191) (fun _ => False) rfl rfl ?aP (fun _ hk => hk.elim) ?aF ?aO ?aB ?aS ?aL ?_; (case aP => exact k27_mkM _ _ _ (⟨a1_0, a1_1, (⟨a1_2, a1_3⟩ : S25)⟩ : S27)); (case aB => exact (by repeat (first | (with_reducible first | exact HB.out | apply below_alloc | apply pw_below_drewN | apply below_drew1 | refine below_set ?_ GE191.out) | exact HB.out))); (case aF => exact (fun k_ hk => Kd.freshB (g := gb191) (o := .cells #[.int .i64 a1_0, .int .i64 a1_1, .int .i64 a1_2, .int .i64 a1_3] 27 (0, 0)) (by (with_reducible repeat (first | refine blk_drewN ?_ _ | refine blk_drew ?_ | refine blk_alloc ?_ _)); exact BK191.out) k_ hk)); (case aO => exact (by (with_reducible repeat (first | apply Kd.R_alloc | apply Kd.R_drewN | apply Kd.R_drew)); exact HO203.out)); (case aS => exact (below_size (by repeat (first | (with_reducible first | exact HB.out | apply below_alloc | apply pw_below_drewN | apply below_drew1 | refine below_set ?_ GE191.out) | exact HB.out)))); (case aL => have := LMc30.out; omega); intro v205 w51 ho hb hg hat; rw [← Ny204.out] at ho; have n0_ := Aside0.mk (blk_grown (g := gb191) (o := .cells #[.int .i64 a1_0, .int .i64 a1_1, .int .i64 a1_2, .int .i64 a1_3] 27 (0, 0)) (by (with_reducible repeat (first | refine blk_drewN ?_ _ | refine blk_drew ?_ | refine blk_alloc ?_ _)); exact BK191.out) hg (Kd.R_away HO203.out (fun _ hk => hk))); have n1_ := Aside0.mk (hb); have n2_ := Aside0.mk (ho); clear BK191; clear HB; clear HO203; have BK191 := n0_; have HB := n1_; have HO206 := n2_; clear n0_ n1_ n2_; clear ho hb hg hat; have p207 : 0 ≤ (x6_3 : Int) := of_decide_eq_true (by first | (with_reducible assumption) | assumption); have q207 : x6_3 < (l0.length : Int) := of_decide_eq_true (by first | (with_reducible assumption) | assumption); obtain ⟨ad207, e207, hx207_0, hx207_1, hx207_2, hx207_3⟩ := at_T27 HR0.out x6_3 p207 q207; obtain rfl : ad196 = ad207 := (by injection e207); replace hx207_0 := (HB.out.cell (World.block_lt_of_cell? w _ hx207_0)).trans hx207_0; replace hx207_1 := (HB.out.cell (World.block_lt_of_cell? w _ hx207_1)).trans hx207_1; replace hx207_2 := (HB.out.cell (World.block_lt_of_cell? w _ hx207_2)).trans hx207_2; replace hx207_3 := (HB.out.cell (World.block_lt_of_cell? w _ hx207_3)).trans hx207_3; replace p207 := eq_true p207; replace q207 := eq_true q207; have hcz52_0 : w51.cell? ⟨gb191, 0, none⟩ = some (.int .i64 a1_0) := (blk_cell BK191.out 0).trans rfl; have hcz52_1 : w51.cell? ⟨gb191, 1, none⟩ = some (.int .i64 a1_1) := (blk_cell BK191.out 1).trans rfl; have hcz52_2 : w51.cell? ⟨gb191, 2, none⟩ = some (.int .i64 a1_2) := (blk_cell BK191.out 2).trans rfl; have hcz52_3 : w51.cell? ⟨gb191, 3, none⟩ = some (.int .i64 a1_3) := (blk_cell BK191.out 3).trans rfl; have hfz52_0 := blk_frozen BK191.out 0; have hfz52_1 := blk_frozen BK191.out 1; have hfz52_2 := blk_frozen BK191.out 2; have hfz52_3 := blk_frozen BK191.out 3; have q53 : (x6_3 : Int) ≤ ((l0.length : Int) : Int) := of_decide_eq_true (by first | (with_reducible assumption) | assumption); obtain ⟨i053, hi053, _, hsz53, _⟩ := info_parts info27; have hroom53 : l0.length ≤ c0 := HC0.out; have hC53 : Kd.C k27 _ (some ad196) l0.length l0 := HR0.out; have q053 : (0 : Int) ≤ (x6_3 : Int) := of_decide_eq_true (by first | (with_reducible assumption) | assumption); have hcut53 := cut_from (P := Try.prog) 22 27 .i64 Try.underlying22 hi053 4 hsz53 (some ad196) l0.length c0 x6_3 q053 q53; have hr53 := Kd.C_drop (m := (x6_3 : Int).toNat) (c := c0) hC53 (by omega) hroom53; obtain ⟨A53, hA53⟩ : ∃ A1, A1 = (if c0 = (x6_3 : Int).toNat then (some ad196) else ((some ad196) : Option Addr).map (·.add ((x6_3 : Int).toNat * 4))) := ⟨_, rfl⟩; obtain ⟨c53, hc53⟩ : ∃ c1, c1 = c0 - (x6_3 : Int).toNat := ⟨_, rfl⟩; have hy53 : y215.length = l0.length - (x6_3 : Int).toNat := (by rw [Ny215.out, List.length_drop] <;> omega); rw [show (l0).drop (x6_3 : Int).toNat = y215 from Ny215.out.symm] at hr53; replace hr53 : Kd.C k27 _ A53 y215.length y215 := (by rw [hA53]; exact hr53); rw [← hy53, ← hA53, ← hc53] at hcut53; have HR218 := Aside0.mk hr53; have HC218 := Aside0.mk (show y215.length ≤ c53 from by rw [hy53, hc53]; exact Nat.sub_le_sub_right hroom53 _); clear hr53 hC53 hroom53 hi053 hsz53 hc53; have KY53 := Aside0.mk hy53; have KA53 := Aside0.mk hA53; clear hy53 hA53; replace q53 := eq_true q53) | ((with_reducible refine gate_builtin (b := .append) (xs := #[.tmp 74, .tmp 77]) rfl ?_); (try (refine gate_guard (by rfl) ?_; dsimp only)); at_builtin; refine Kd.R_append_rows k27 (w0 := w) w.heap.size rfl (.tmp 74) (.tmp 77) 22 27 (.agg #[(.int .i64 0), (.int .i64 0), (.int .i64 0), (.int .i64 0)]) 32 rfl Try.underlying22 info27 rfl (by decide) (by omega) v205 y204 y215 _ _ _ (fun k_ => k_ ≠ gb191) (fun _ => False) rfl rfl ?aO ?aR (fun _ _ h => h) (fun _ h => h.elim) ?aF ?aB ?aS ?aL ?_; (case aR => (try change Kd.C k27 _ _ _ _); repeat (first | exact (Kd.C_below HR218.out HB.out) | (with_reducible refine Kd.C_alloc ?_ _) | (with_reducible refine Kd.C_drewN ?_ _) | (with_reducible refine Kd.C_drew ?_))); (case aB => exact (by repeat (first | (with_reducible first | exact HB.out | apply below_alloc | apply pw_below_drewN | apply below_drew1 | refine below_set ?_ GE191.out) | exact HB.out))); (case aF => exact (fun k_ hk => Kd.freshB (g := gb191) (o := .cells #[.int .i64 a1_0, .int .i64 a1_1, .int .i64 a1_2, .int .i64 a1_3] 27 (0, 0)) (by (with_reducible repeat (first | refine blk_drewN ?_ _ | refine blk_drew ?_ | refine blk_alloc ?_ _)); exact BK191.out) k_ hk)); (case aO => exact (by (with_reducible repeat (first | apply Kd.R_alloc | apply Kd.R_drewN | apply Kd.R_drew)); exact HO206.out)); (case aS => exact (below_size (by repeat (first | (with_reducible first | exact HB.out | apply below_alloc | apply pw_below_drewN | apply below_drew1 | refine below_set ?_ GE191.out) | exact HB.out)))); (case aL => have := LMc46.out; omega); intro v220 w54 ho hb hg hat; rw [← Ny219.out] at ho; have n0_ := Aside0.mk (blk_grown (g := gb191) (o := .cells #[.int .i64 a1_0, .int .i64 a1_1, .int .i64 a1_2, .int .i64 a1_3] 27 (0, 0)) (by (with_reducible repeat (first | refine blk_drewN ?_ _ | refine blk_drew ?_ | refine blk_alloc ?_ _)); exact BK191.out) hg (Kd.R_away HO206.out (fun _ hk => hk))); have n1_ := Aside0.mk (hb); have n2_ := Aside0.mk (ho); clear BK191; clear HB; clear HO206; have BK191 := n0_; have HB := n1_; have HO221 := n2_; clear n0_ n1_ n2_; clear ho hb hg hat)); try go_wp2_with (first | ((with_reducible refine gate_builtin (b := .append) (xs := #[.tmp 49, .tmp 52]) rfl ?_); (try (refine gate_guard (by rfl) ?_; dsimp only)); at_builtin; refine Kd.R_append_rows k27 (w0 := w) w.heap.size rfl (.tmp 49) (.tmp 52) 22 27 (.agg #[(.int .i64 0), (.int .i64 0), (.int .i64 0), (.int .i64 0)]) 32 rfl Try.underlying22 info27 rfl (by decide) (by omega) (.slice none 0 0) ([] : List (S27)) y197 _ _ _ (fun k_ => k_ ≠ gb191) (fun _ => False) rfl rfl ?aO ?aR (fun _ _ h => h) (fun _ h => h.elim) ?aF ?aB ?aS ?aL ?_; (case aR => (try change Kd.C k27 _ _ _ _); repeat (first | exact (Kd.C_below HR200.out HB.out) | (with_reducible refine Kd.C_alloc ?_ _) | (with_reducible refine Kd.C_drewN ?_ _) | (with_reducible refine Kd.C_drew ?_))); (case aB => exact (by repeat (first | (with_reducible first | exact HB.out | apply below_alloc | apply pw_below_drewN | apply below_drew1 | refine below_set ?_ GE191.out) | exact HB.out))); (case aF => exact (fun k_ hk => Kd.freshB (g := gb191) (o := .cells #[.int .i64 a1_0, .int .i64 a1_1, .int .i64 a1_2, .int .i64 a1_3] 27 (0, 0)) (by (with_reducible repeat (first | refine blk_drewN ?_ _ | refine blk_drew ?_ | refine blk_alloc ?_ _)); exact BK191.out) k_ hk)); (case aO => exact ((Kd.R_nil _ _ _ _ (fun k_ => k_ ≠ gb191)))); (case aS => exact (below_size (by repeat (first | (with_reducible first | exact HB.out | apply below_alloc | apply pw_below_drewN | apply below_drew1 | refine below_set ?_ GE191.out) | exact HB.out)))); (case aL => have := LMc29.out; omega); intro v202 w49 ho hb hg hat; rw [← Ny201.out] at ho; have n0_ := Aside0.mk (blk_grown (g := gb191) (o := .cells #[.int .i64 a1_0, .int .i64 a1_1, .int .i64 a1_2, .int .i64 a1_3] 27 (0, 0)) (by (with_reducible repeat (first | refine blk_drewN ?_ _ | refine blk_drew ?_ | refine blk_alloc ?_ _)); exact BK191.out) hg (by simp [Value.ownBlock])); have n1_ := Aside0.mk (hb); have n2_ := Aside0.mk (ho); clear BK191; clear HB; have BK191 := n0_; have HB := n1_; have HO203 := n2_; clear n0_ n1_ n2_; clear ho hb hg hat; have hcz50_0 : w49.cell? ⟨gb191, 0, none⟩ = some (.int .i64 a1_0) := (blk_cell BK191.out 0).trans rfl; have hcz50_1 : w49.cell? ⟨gb191, 1, none⟩ = some (.int .i64 a1_1) := (blk_cell BK191.out 1).trans rfl; have hcz50_2 : w49.cell? ⟨gb191, 2, none⟩ = some (.int .i64 a1_2) := (blk_cell BK191.out 2).trans rfl; have hcz50_3 : w49.cell? ⟨gb191, 3, none⟩ = some (.int .i64 a1_3) := (blk_cell BK191.out 3).trans rfl; have hfz50_0 := blk_frozen BK191.out 0; have hfz50_1 := blk_frozen BK191.out 1; have hfz50_2 := blk_frozen BK191.out 2; have hfz50_3 := blk_frozen BK191.out 3) | ((with_reducible refine gate_builtin (b := .append) (xs := #[.tmp 54, .tmp 56]) rfl ?_); (try (refine gate_guard (by rfl) ?_; dsimp only)); at_builtin; refine Kd.R_append k27 (w0 := w) w.heap.size rfl (.tmp 54) (.tmp 56) 22 27 (.agg #[(.int .i64 0), (.int .i64 0), (.int .i64 0), (.int .i64 0)]) 32 rfl Try.underlying22 info27 rfl (by decide) (by omega) v202 y201 (⟨a1_0, a1_1, (⟨a1_2, a1_3⟩ : S25)⟩ : S27) [.int .i64 a1_0, .int .i64 a1_1, .int .i64 a1_2, .int .i64 a1_3] (fun k_ => k_ ≠ gb191) (fun _ => False) rfl rfl ?aP (fun _ hk => hk.elim) ?aF ?aO ?aB ?aS ?aL ?_; (case aP => exact k27_mkM _ _ _ (⟨a1_0, a1_1, (⟨a1_2, a1_3⟩ : S25)⟩ : S27)); (case aB => exact (by repeat (first | (with_reducible first | exact HB.out | apply below_alloc | apply pw_below_drewN | apply below_drew1 | refine below_set ?_ GE191.out) | exact HB.out))); (case aF => exact (fun k_ hk => Kd.freshB (g := gb191) (o := .cells #[.int .i64 a1_0, .int .i64 a1_1, .int .i64 a1_2, .int .i64 a1_3] 27 (0, 0)) (by (with_reducible repeat (first | refine blk_drewN ?_ _ | refine blk_drew ?_ | refine blk_alloc ?_ _)); exact BK191.out) k_ hk)); (case aO => exact (by (with_reducible repeat (first | apply Kd.R_alloc | apply Kd.R_drewN | apply Kd.R_drew)); exact HO203.out)); (case aS => exact (below_size (by repeat (first | (with_reducible first | exact HB.out | apply below_alloc | apply pw_below_drewN | apply below_drew1 | refine below_set ?_ GE191.out) | exact HB.out)))); (case aL => have := LMc30.out; omega); intro v205 w51 ho hb hg hat; rw [← Ny204.out] at ho; have n0_ := Aside0.mk (blk_grown (g := gb191) (o := .cells #[.int .i64 a1_0, .int .i64 a1_1, .int .i64 a1_2, .int .i64 a1_3] 27 (0, 0)) (by (with_reducible repeat (first | refine blk_drewN ?_ _ | refine blk_drew ?_ | refine blk_alloc ?_ _)); exact BK191.out) hg (Kd.R_away HO203.out (fun _ hk => hk))); have n1_ := Aside0.mk (hb); have n2_ := Aside0.mk (ho); clear BK191; clear HB; clear HO203; have BK191 := n0_; have HB := n1_; have HO206 := n2_; clear n0_ n1_ n2_; clear ho hb hg hat; have p207 : 0 ≤ (x6_3 : Int) := of_decide_eq_true (by first | (with_reducible assumption) | assumption); have q207 : x6_3 < (l0.length : Int) := of_decide_eq_true (by first | (with_reducible assumption) | assumption); obtain ⟨ad207, e207, hx207_0, hx207_1, hx207_2, hx207_3⟩ := at_T27 HR0.out x6_3 p207 q207; obtain rfl : ad196 = ad207 := (by injection e207); replace hx207_0 := (HB.out.cell (World.block_lt_of_cell? w _ hx207_0)).trans hx207_0; replace hx207_1 := (HB.out.cell (World.block_lt_of_cell? w _ hx207_1)).trans hx207_1; replace hx207_2 := (HB.out.cell (World.block_lt_of_cell? w _ hx207_2)).trans hx207_2; replace hx207_3 := (HB.out.cell (World.block_lt_of_cell? w _ hx207_3)).trans hx207_3; replace p207 := eq_true p207; replace q207 := eq_true q207; have hcz52_0 : w51.cell? ⟨gb191, 0, none⟩ = some (.int .i64 a1_0) := (blk_cell BK191.out 0).trans rfl; have hcz52_1 : w51.cell? ⟨gb191, 1, none⟩ = some (.int .i64 a1_1) := (blk_cell BK191.out 1).trans rfl; have hcz52_2 : w51.cell? ⟨gb191, 2, none⟩ = some (.int .i64 a1_2) := (blk_cell BK191.out 2).trans rfl; have hcz52_3 : w51.cell? ⟨gb191, 3, none⟩ = some (.int .i64 a1_3) := (blk_cell BK191.out 3).trans rfl; have hfz52_0 := blk_frozen BK191.out 0; have hfz52_1 := blk_frozen BK191.out 1; have hfz52_2 := blk_frozen BK191.out 2; have hfz52_3 := blk_frozen BK191.out 3; have q53 : (x6_3 : Int) ≤ ((l0.length : Int) : Int) := of_decide_eq_true (by first | (with_reducible assumption) | assumption); obtain ⟨i053, hi053, _, hsz53, _⟩ := info_parts info27; have hroom53 : l0.length ≤ c0 := HC0.out; have hC53 : Kd.C k27 _ (some ad196) l0.length l0 := HR0.out; have q053 : (0 : Int) ≤ (x6_3 : Int) := of_decide_eq_true (by first | (with_reducible assumption) | assumption); have hcut53 := cut_from (P := Try.prog) 22 27 .i64 Try.underlying22 hi053 4 hsz53 (some ad196) l0.length c0 x6_3 q053 q53; have hr53 := Kd.C_drop (m := (x6_3 : Int).toNat) (c := c0) hC53 (by omega) hroom53; obtain ⟨A53, hA53⟩ : ∃ A1, A1 = (if c0 = (x6_3 : Int).toNat then (some ad196) else ((some ad196) : Option Addr).map (·.add ((x6_3 : Int).toNat * 4))) := ⟨_, rfl⟩; obtain ⟨c53, hc53⟩ : ∃ c1, c1 = c0 - (x6_3 : Int).toNat := ⟨_, rfl⟩; have hy53 : y215.length = l0.length - (x6_3 : Int).toNat := (by rw [Ny215.out, List.length_drop] <;> omega); rw [show (l0).drop (x6_3 : Int).toNat = y215 from Ny215.out.symm] at hr53; replace hr53 : Kd.C k27 _ A53 y215.length y215 := (by rw [hA53]; exact hr53); rw [← hy53, ← hA53, ← hc53] at hcut53; have HR218 := Aside0.mk hr53; have HC218 := Aside0.mk (show y215.length ≤ c53 from by rw [hy53, hc53]; exact Nat.sub_le_sub_right hroom53 _); clear hr53 hC53 hroom53 hi053 hsz53 hc53; have KY53 := Aside0.mk hy53; have KA53 := Aside0.mk hA53; clear hy53 hA53; replace q53 := eq_true q53) | ((with_reducible refine gate_builtin (b := .append) (xs := #[.tmp 74, .tmp 77]) rfl ?_); (try (refine gate_guard (by rfl) ?_; dsimp only)); at_builtin; refine Kd.R_append_rows k27 (w0 := w) w.heap.size rfl (.tmp 74) (.tmp 77) 22 27 (.agg #[(.int .i64 0), (.int .i64 0), (.int .i64 0), (.int .i64 0)]) 32 rfl Try.underlying22 info27 rfl (by decide) (by omega) v205 y204 y215 _ _ _ (fun k_ => k_ ≠ gb191) (fun _ => False) rfl rfl ?aO ?aR (fun _ _ h => h) (fun _ h => h.elim) ?aF ?aB ?aS ?aL ?_; (case aR => (try change Kd.C k27 _ _ _ _); repeat (first | exact (Kd.C_below HR218.out HB.out) | (with_reducible refine Kd.C_alloc ?_ _) | (with_reducible refine Kd.C_drewN ?_ _) | (with_reducible refine Kd.C_drew ?_))); (case aB => exact (by repeat (first | (with_reducible first | exact HB.out | apply below_alloc | apply pw_below_drewN | apply below_drew1 | refine below_set ?_ GE191.out) | exact HB.out))); (case aF => exact (fun k_ hk => Kd.freshB (g := gb191) (o := .cells #[.int .i64 a1_0, .int .i64 a1_1, .int .i64 a1_2, .int .i64 a1_3] 27 (0, 0)) (by (with_reducible repeat (first | refine blk_drewN ?_ _ | refine blk_drew ?_ | refine blk_alloc ?_ _)); exact BK191.out) k_ hk)); (case aO => exact (by (with_reducible repeat (first | apply Kd.R_alloc | apply Kd.R_drewN | apply Kd.R_drew)); exact HO206.out)); (case aS => exact (below_size (by repeat (first | (with_reducible first | exact HB.out | apply below_alloc | apply pw_below_drewN | apply below_drew1 | refine below_set ?_ GE191.out) | exact HB.out)))); (case aL => have := LMc46.out; omega); intro v220 w54 ho hb hg hat; rw [← Ny219.out] at ho; have n0_ := Aside0.mk (blk_grown (g := gb191) (o := .cells #[.int .i64 a1_0, .int .i64 a1_1, .int .i64 a1_2, .int .i64 a1_3] 27 (0, 0)) (by (with_reducible repeat (first | refine blk_drewN ?_ _ | refine blk_drew ?_ | refine blk_alloc ?_ _)); exact BK191.out) hg (Kd.R_away HO206.out (fun _ hk => hk))); have n1_ := Aside0.mk (hb); have n2_ := Aside0.mk (ho); clear BK191; clear HB; clear HO206; have BK191 := n0_; have HB := n1_; have HO221 := n2_; clear n0_ n1_ n2_; clear ho hb hg hat)))
                                    go_ret2
                                    exact ⟨_, by first | rfl | (simp [errW_none, errW_some] <;> rfl) | (simp [*, errW_none, errW_some] <;> rfl), by (with_reducible repeat (first | apply Kd.R_alloc | apply Kd.R_drewN | apply Kd.R_drew)); exact Kd.R_mono HO221.out (fun _ hk => trivial), by repeat (first | (with_reducible first | exact HB.out | apply below_alloc | apply pw_below_drewN | apply below_drew1 | refine below_set ?_ GE191.out) | exact HB.out)⟩
                                  · rw [if_neg c46] at H
                                    exact absurd H (by simp)
                              · rw [if_neg c30] at H
                                exact absurd H (by simp)
                            · rw [if_neg c29] at H
                              exact absurd H (by simp)
                          · rw [if_neg c28] at H
                            exact absurd H (by simp)
                      · rw [if_neg c24] at H
                        exact absurd H (by simp)
                    · rw [if_neg c23] at H
                      have c23b0 : decide (x6_3 < (l0.length : Int)) = false := decide_eq_false c23
                      clear c23
                      by_cases c55 : 0 ≤ x6_3
                      · rw [if_pos c55] at H
                        have c55b0 := eq_true c55
                        have c55b1 : decide (0 ≤ x6_3) = true := decide_eq_true c55
                        clear c55
                        by_cases c56 : x6_3 ≤ (l0.length : Int)
                        · rw [if_pos c56] at H
                          have c56b0 := eq_true c56
                          have c56b1 : decide (x6_3 ≤ (l0.length : Int)) = true := decide_eq_true c56
                          clear c56
                          obtain ⟨y222, hy222⟩ : ∃ y_ : List (S27), y_ = (l0.take (x6_3 : Int).toNat) := ⟨_, rfl⟩
                          replace H : (if ([] : List (S27)).length + y222.length < 4398046511104 then ((some (([] : List (S27)) ++ y222 : List (S27))).bind fun y226 => (if y226.length < 4398046511104 then ((some (y226 ++ [(⟨a1_0, a1_1, (⟨a1_2, a1_3⟩ : S25)⟩ : S27)] : List (S27))).bind fun y229 => ((some (l0.drop (x6_3 : Int).toNat : List (S27))).bind fun y232 => (if y229.length + y232.length < 4398046511104 then (some ((y229 ++ y232), 0)) else (none)))) else (none))) else (none)) = some (r1, r2) := by first | (rw [hy222]; with_reducible exact H) | (have H2_ := (Option.bind_some _ _).symm.trans H; rw [hy222]; with_reducible exact H2_) | (have H2_ := (Option.bind_some _ _).symm.trans H; with_reducible exact H2_) | with_reducible exact H | (rw [hy222]; exact H) | exact H
                          have Ny222 := Aside0.mk hy222
                          clear hy222
                          by_cases c57 : ([] : List (S27)).length + y222.length < 4398046511104
                          · rw [if_pos c57] at H
                            have LMc57 := Aside0.mk c57
                            clear c57
                            obtain ⟨y226, hy226⟩ : ∃ y_ : List (S27), y_ = (([] : List (S27)) ++ y222) := ⟨_, rfl⟩
                            replace H : (if y226.length < 4398046511104 then ((some (y226 ++ [(⟨a1_0, a1_1, (⟨a1_2, a1_3⟩ : S25)⟩ : S27)] : List (S27))).bind fun y229 => ((some (l0.drop (x6_3 : Int).toNat : List (S27))).bind fun y232 => (if y229.length + y232.length < 4398046511104 then (some ((y229 ++ y232), 0)) else (none)))) else (none)) = some (r1, r2) := by first | (rw [hy226]; with_reducible exact H) | (have H2_ := (Option.bind_some _ _).symm.trans H; rw [hy226]; with_reducible exact H2_) | (have H2_ := (Option.bind_some _ _).symm.trans H; with_reducible exact H2_) | with_reducible exact H | (rw [hy226]; exact H) | exact H
                            have Ny226 := Aside0.mk hy226
                            clear hy226
                            by_cases c58 : y226.length < 4398046511104
                            · rw [if_pos c58] at H
                              have LMc58 := Aside0.mk c58
                              clear c58
                              obtain ⟨y229, hy229⟩ : ∃ y_ : List (S27), y_ = (y226 ++ [(⟨a1_0, a1_1, (⟨a1_2, a1_3⟩ : S25)⟩ : S27)]) := ⟨_, rfl⟩
                              replace H : ((some (l0.drop (x6_3 : Int).toNat : List (S27))).bind fun y232 => (if y229.length + y232.length < 4398046511104 then (some ((y229 ++ y232), 0)) else (none))) = some (r1, r2) := by first | (rw [hy229]; with_reducible exact H) | (have H2_ := (Option.bind_some _ _).symm.trans H; rw [hy229]; with_reducible exact H2_) | (have H2_ := (Option.bind_some _ _).symm.trans H; with_reducible exact H2_) | with_reducible exact H | (rw [hy229]; exact H) | exact H
                              have Ny229 := Aside0.mk hy229
                              clear hy229
                              have c59b0 := eq_true (of_decide_eq_true (by first | (with_reducible assumption) | assumption) : 0 ≤ x6_3)
                              have c60b0 := eq_true (of_decide_eq_true (by first | (with_reducible assumption) | assumption) : x6_3 ≤ (l0.length : Int))
                              obtain ⟨y232, hy232⟩ : ∃ y_ : List (S27), y_ = (l0.drop (x6_3 : Int).toNat) := ⟨_, rfl⟩
                              replace H : (if y229.length + y232.length < 4398046511104 then (some ((y229 ++ y232), 0)) else (none)) = some (r1, r2) := by first | (rw [hy232]; with_reducible exact H) | (have H2_ := (Option.bind_some _ _).symm.trans H; rw [hy232]; with_reducible exact H2_) | (have H2_ := (Option.bind_some _ _).symm.trans H; with_reducible exact H2_) | with_reducible exact H | (rw [hy232]; exact H) | exact H
                              have Ny232 := Aside0.mk hy232
                              clear hy232
                              by_cases c61 : y229.length + y232.length < 4398046511104
                              · rw [if_pos c61] at H
                                have LMc61 := Aside0.mk c61
                                clear c61
                                obtain ⟨y236, hy236⟩ : ∃ y_ : List (S27), y_ = (y229 ++ y232) := ⟨_, rfl⟩
                                replace H : (some (y236, 0)) = some (r1, r2) := by first | (rw [hy236]; with_reducible exact H) | (have H2_ := (Option.bind_some _ _).symm.trans H; rw [hy236]; with_reducible exact H2_) | (have H2_ := (Option.bind_some _ _).symm.trans H; with_reducible exact H2_) | with_reducible exact H | (rw [hy236]; exact H) | exact H
                                have Ny236 := Aside0.mk hy236
                                clear hy236
                                simp only [Option.some.injEq, Prod.mk.injEq] at H
                                obtain ⟨rfl, rfl⟩ := H
                                have q62 : (x6_3 : Int) ≤ ((l0.length : Int) : Int) := of_decide_eq_true (by first | (with_reducible assumption) | assumption)
                                obtain ⟨i062, hi062, _, hsz62, _⟩ := info_parts info27
                                have hroom62 : l0.length ≤ c0 := HC0.out
                                have hC62 : Kd.C k27 _ A0 l0.length l0 := HR0.out
                                have hcut62 := cut_to (P := Try.prog) 22 27 .i64 Try.underlying22 hi062 A0 l0.length c0 x6_3 (of_decide_eq_true (by first | (with_reducible assumption) | assumption)) q62 hroom62
                                have hr62 := Kd.C_take (m := (x6_3 : Int).toNat) hC62 (by omega)
                                have hy62 : y222.length = (x6_3 : Int).toNat := (by rw [Ny222.out, List.length_take]; omega)
                                rw [← Ny222.out] at hr62
                                rw [← hy62] at hcut62
                                have HR225 := Aside0.mk hr62
                                have HC225 := Aside0.mk (show y222.length ≤ c0 from by omega)
                                clear hr62 hC62 hroom62 hi062 hsz62
                                have KY62 := Aside0.mk hy62
                                clear hy62
                                replace q62 := eq_true q62
                                go_wp2_with (first | ((with_reducible refine gate_builtin (b := .append) (xs := #[.tmp 49, .tmp 52]) rfl ?_); (try (refine gate_guard (by rfl) ?_; dsimp only)); at_builtin; refine Kd.R_append_rows k27 (w0 := w) w.heap.size rfl (.tmp 49) (.tmp 52) 22 27 (.agg #[(.int .i64 0), (.int .i64 0), (.int .i64 0), (.int .i64 0)]) 32 rfl Try.underlying22 info27 rfl (by decide) (by omega) (.slice none 0 0) ([] : List (S27)) y222 _ _ _ (fun k_ => k_ ≠ gb191) (fun _ => False) rfl rfl ?aO ?aR (fun _ _ h => h) (fun _ h => h.elim) ?aF ?aB ?aS ?aL ?_; (case aR => (try change Kd.C k27 _ _ _ _); repeat (first | exact (Kd.C_below HR225.out HB.out) | (with_reducible refine Kd.C_alloc ?_ _) | (with_reducible refine Kd.C_drewN ?_ _) | (with_reducible refine Kd.C_drew ?_))); (case aB => exact (by repeat (first | (with_reducible first | exact HB.out | apply below_alloc | apply pw_below_drewN | apply below_drew1 | refine below_set ?_ GE191.out) | exact HB.out))); (case aF => exact (fun k_ hk => Kd.freshB (g := gb191) (o := .cells #[.int .i64 a1_0, .int .i64 a1_1, .int .i64 a1_2, .int .i64 a1_3] 27 (0, 0)) (by (with_reducible repeat (first | refine blk_drewN ?_ _ | refine blk_drew ?_ | refine blk_alloc ?_ _)); exact BK191.out) k_ hk)); (case aO => exact ((Kd.R_nil _ _ _ _ (fun k_ => k_ ≠ gb191)))); (case aS => exact (below_size (by repeat (first | (with_reducible first | exact HB.out | apply below_alloc | apply pw_below_drewN | apply below_drew1 | refine below_set ?_ GE191.out) | exact HB.out)))); (case aL => have := LMc57.out; omega); intro v227 w63 ho hb hg hat; rw [← Ny226.out] at ho; have n0_ := Aside0.mk (blk_grown (g := gb191) (o := .cells #[.int .i64 a1_0, .int .i64 a1_1, .int .i64 a1_2, .int .i64 a1_3] 27 (0, 0)) (by (with_reducible repeat (first | refine blk_drewN ?_ _ | refine blk_drew ?_ | refine blk_alloc ?_ _)); exact BK191.out) hg (by simp [Value.ownBlock])); have n1_ := Aside0.mk (hb); have n2_ := Aside0.mk (ho); clear BK191; clear HB; have BK191 := n0_; have HB := n1_; have HO228 := n2_; clear n0_ n1_ n2_; clear ho hb hg hat; have hcz64_0 : w63.cell? ⟨gb191, 0, none⟩ = some (.int .i64 a1_0) := (blk_cell BK191.out 0).trans rfl; have hcz64_1 : w63.cell? ⟨gb191, 1, none⟩ = some (.int .i64 a1_1) := (blk_cell BK191.out 1).trans rfl; have hcz64_2 : w63.cell? ⟨gb191, 2, none⟩ = some (.int .i64 a1_2) := (blk_cell BK191.out 2).trans rfl; have hcz64_3 : w63.cell? ⟨gb191, 3, none⟩ = some (.int .i64 a1_3) := (blk_cell BK191.out 3).trans rfl; have hfz64_0 := blk_frozen BK191.out 0; have hfz64_1 := blk_frozen BK191.out 1; have hfz64_2 := blk_frozen BK191.out 2; have hfz64_3 := blk_frozen BK191.out 3) | ((with_reducible refine gate_builtin (b := .append) (xs := #[.tmp 54, .tmp 56]) rfl ?_); (try (refine gate_guard (by rfl) ?_; dsimp only)); at_builtin; refine Kd.R_append k27 (w0 := w) w.heap.size rfl (.tmp 54) (.tmp 56) 22 27 (.agg #[(.int .i64 0), (.int .i64 0), (.int .i64 0), (.int .i64 0)]) 32 rfl Try.underlying22 info27 rfl (by decide) (by omega) v227 y226 (⟨a1_0, a1_1, (⟨a1_2, a1_3⟩ : S25)⟩ : S27) [.int .i64 a1_0, .int .i64 a1_1, .int .i64 a1_2, .int .i64 a1_3] (fun k_ => k_ ≠ gb191) (fun _ => False) rfl rfl ?aP (fun _ hk => hk.elim) ?aF ?aO ?aB ?aS ?aL ?_; (case aP => exact k27_mkM _ _ _ (⟨a1_0, a1_1, (⟨a1_2, a1_3⟩ : S25)⟩ : S27)); (case aB => exact (by repeat (first | (with_reducible first | exact HB.out | apply below_alloc | apply pw_below_drewN | apply below_drew1 | refine below_set ?_ GE191.out) | exact HB.out))); (case aF => exact (fun k_ hk => Kd.freshB (g := gb191) (o := .cells #[.int .i64 a1_0, .int .i64 a1_1, .int .i64 a1_2, .int .i64 a1_3] 27 (0, 0)) (by (with_reducible repeat (first | refine blk_drewN ?_ _ | refine blk_drew ?_ | refine blk_alloc ?_ _)); exact BK191.out) k_ hk)); (case aO => exact (by (with_reducible repeat (first | apply Kd.R_alloc | apply Kd.R_drewN | apply Kd.R_drew)); exact HO228.out)); (case aS => exact (below_size (by repeat (first | (with_reducible first | exact HB.out | apply below_alloc | apply pw_below_drewN | apply below_drew1 | refine below_set ?_ GE191.out) | exact HB.out)))); (case aL => have := LMc58.out; omega); intro v230 w65 ho hb hg hat; rw [← Ny229.out] at ho; have n0_ := Aside0.mk (blk_grown (g := gb191) (o := .cells #[.int .i64 a1_0, .int .i64 a1_1, .int .i64 a1_2, .int .i64 a1_3] 27 (0, 0)) (by (with_reducible repeat (first | refine blk_drewN ?_ _ | refine blk_drew ?_ | refine blk_alloc ?_ _)); exact BK191.out) hg (Kd.R_away HO228.out (fun _ hk => hk))); have n1_ := Aside0.mk (hb); have n2_ := Aside0.mk (ho); clear BK191; clear HB; clear HO228; have BK191 := n0_; have HB := n1_; have HO231 := n2_; clear n0_ n1_ n2_; clear ho hb hg hat; have q66 : (x6_3 : Int) ≤ ((l0.length : Int) : Int) := of_decide_eq_true (by first | (with_reducible assumption) | assumption); obtain ⟨i066, hi066, _, hsz66, _⟩ := info_parts info27; have hroom66 : l0.length ≤ c0 := HC0.out; have hC66 : Kd.C k27 _ A0 l0.length l0 := HR0.out; have q066 : (0 : Int) ≤ (x6_3 : Int) := of_decide_eq_true (by first | (with_reducible assumption) | assumption); have hcut66 := cut_from (P := Try.prog) 22 27 .i64 Try.underlying22 hi066 4 hsz66 A0 l0.length c0 x6_3 q066 q66; have hr66 := Kd.C_drop (m := (x6_3 : Int).toNat) (c := c0) hC66 (by omega) hroom66; obtain ⟨A66, hA66⟩ : ∃ A1, A1 = (if c0 = (x6_3 : Int).toNat then A0 else (A0 : Option Addr).map (·.add ((x6_3 : Int).toNat * 4))) := ⟨_, rfl⟩; obtain ⟨c66, hc66⟩ : ∃ c1, c1 = c0 - (x6_3 : Int).toNat := ⟨_, rfl⟩; have hy66 : y232.length = l0.length - (x6_3 : Int).toNat := (by rw [Ny232.out, List.length_drop] <;> omega); rw [show (l0).drop (x6_3 : Int).toNat = y232 from Ny232.out.symm] at hr66; replace hr66 : Kd.C k27 _ A66 y232.length y232 := (by rw [hA66]; exact hr66); rw [← hy66, ← hA66, ← hc66] at hcut66; have HR235 := Aside0.mk hr66; have HC235 := Aside0.mk (show y232.length ≤ c66 from by rw [hy66, hc66]; exact Nat.sub_le_sub_right hroom66 _); clear hr66 hC66 hroom66 hi066 hsz66 hc66; have KY66 := Aside0.mk hy66; have KA66 := Aside0.mk hA66; clear hy66 hA66; replace q66 := eq_true q66) | ((with_reducible refine gate_builtin (b := .append) (xs := #[.tmp 74, .tmp 77]) rfl ?_); (try (refine gate_guard (by rfl) ?_; dsimp only)); at_builtin; refine Kd.R_append_rows k27 (w0 := w) w.heap.size rfl (.tmp 74) (.tmp 77) 22 27 (.agg #[(.int .i64 0), (.int .i64 0), (.int .i64 0), (.int .i64 0)]) 32 rfl Try.underlying22 info27 rfl (by decide) (by omega) v230 y229 y232 _ _ _ (fun k_ => k_ ≠ gb191) (fun _ => False) rfl rfl ?aO ?aR (fun _ _ h => h) (fun _ h => h.elim) ?aF ?aB ?aS ?aL ?_; (case aR => (try change Kd.C k27 _ _ _ _); repeat (first | exact (Kd.C_below HR235.out HB.out) | (with_reducible refine Kd.C_alloc ?_ _) | (with_reducible refine Kd.C_drewN ?_ _) | (with_reducible refine Kd.C_drew ?_))); (case aB => exact (by repeat (first | (with_reducible first | exact HB.out | apply below_alloc | apply pw_below_drewN | apply below_drew1 | refine below_set ?_ GE191.out) | exact HB.out))); (case aF => exact (fun k_ hk => Kd.freshB (g := gb191) (o := .cells #[.int .i64 a1_0, .int .i64 a1_1, .int .i64 a1_2, .int .i64 a1_3] 27 (0, 0)) (by (with_reducible repeat (first | refine blk_drewN ?_ _ | refine blk_drew ?_ | refine blk_alloc ?_ _)); exact BK191.out) k_ hk)); (case aO => exact (by (with_reducible repeat (first | apply Kd.R_alloc | apply Kd.R_drewN | apply Kd.R_drew)); exact HO231.out)); (case aS => exact (below_size (by repeat (first | (with_reducible first | exact HB.out | apply below_alloc | apply pw_below_drewN | apply below_drew1 | refine below_set ?_ GE191.out) | exact HB.out)))); (case aL => have := LMc61.out; omega); intro v237 w67 ho hb hg hat; rw [← Ny236.out] at ho; have n0_ := Aside0.mk (blk_grown (g := gb191) (o := .cells #[.int .i64 a1_0, .int .i64 a1_1, .int .i64 a1_2, .int .i64 a1_3] 27 (0, 0)) (by (with_reducible repeat (first | refine blk_drewN ?_ _ | refine blk_drew ?_ | refine blk_alloc ?_ _)); exact BK191.out) hg (Kd.R_away HO231.out (fun _ hk => hk))); have n1_ := Aside0.mk (hb); have n2_ := Aside0.mk (ho); clear BK191; clear HB; clear HO231; have BK191 := n0_; have HB := n1_; have HO238 := n2_; clear n0_ n1_ n2_; clear ho hb hg hat))
                                repeat (go_quiet (first | ((with_reducible refine gate_builtin (b := .append) (xs := #[.tmp 49, .tmp 52]) rfl ?_); (try (refine gate_guard (by rfl) ?_; dsimp only)); at_builtin; refine Kd.R_append_rows k27 (w0 := w) w.heap.size rfl (.tmp 49) (.tmp 52) 22 27 (.agg #[(.int .i64 0), (.int .i64 0), (.int .i64 0), (.int .i64 0)]) 32 rfl Try.underlying22 info27 rfl (by decide) (by omega) (.slice none 0 0) ([] : List (S27)) y222 _ _ _ (fun k_ => k_ ≠ gb191) (fun _ => False) rfl rfl ?aO ?aR (fun _ _ h => h) (fun _ h => h.elim) ?aF ?aB ?aS ?aL ?_; (case aR => (try change Kd.C k27 _ _ _ _); repeat (first | exact (Kd.C_below HR225.out HB.out) | (with_reducible refine Kd.C_alloc ?_ _) | (with_reducible refine Kd.C_drewN ?_ _) | (with_reducible refine Kd.C_drew ?_))); (case aB => exact (by repeat (first | (with_reducible first | exact HB.out | apply below_alloc | apply pw_below_drewN | apply below_drew1 | refine below_set ?_ GE191.out) | exact HB.out))); (case aF => exact (fun k_ hk => Kd.freshB (g := gb191) (o := .cells #[.int .i64 a1_0, .int .i64 a1_1, .int .i64 a1_2, .int .i64 a1_3] 27 (0, 0)) (by (with_reducible repeat (first | refine blk_drewN ?_ _ | refine blk_drew ?_ | refine blk_alloc ?_ _)); exact BK191.out) k_ hk)); (case aO => exact ((Kd.R_nil _ _ _ _ (fun k_ => k_ ≠ gb191)))); (case aS => exact (below_size (by repeat (first | (with_reducible first | exact HB.out | apply below_alloc | apply pw_below_drewN | apply below_drew1 | refine below_set ?_ GE191.out) | exact HB.out)))); (case aL => have := LMc57.out; omega); intro v227 w63 ho hb hg hat; rw [← Ny226.out] at ho; have n0_ := Aside0.mk (blk_grown (g := gb191) (o := .cells #[.int .i64 a1_0, .int .i64 a1_1, .int .i64 a1_2, .int .i64 a1_3] 27 (0, 0)) (by (with_reducible repeat (first | refine blk_drewN ?_ _ | refine blk_drew ?_ | refine blk_alloc ?_ _)); exact BK191.out) hg (by simp [Value.ownBlock])); have n1_ := Aside0.mk (hb); have n2_ := Aside0.mk (ho); clear BK191; clear HB; have BK191 := n0_; have HB := n1_; have HO228 := n2_; clear n0_ n1_ n2_; clear ho hb hg hat; have hcz64_0 : w63.cell? ⟨gb191, 0, none⟩ = some (.int .i64 a1_0) := (blk_cell BK191.out 0).trans rfl; have hcz64_1 : w63.cell? ⟨gb191, 1, none⟩ = some (.int .i64 a1_1) := (blk_cell BK191.out 1).trans rfl; have hcz64_2 : w63.cell? ⟨gb191, 2, none⟩ = some (.int .i64 a1_2) := (blk_cell BK191.out 2).trans rfl; have hcz64_3 : w63.cell? ⟨gb191, 3, none⟩ = some (.int .i64 a1_3) := (blk_cell BK191.out 3).trans rfl; have hfz64_0 := blk_frozen BK191.out 0; have hfz64_1 := blk_frozen BK191.out 1; have hfz64_2 := blk_frozen BK191.out 2; have hfz64_3 := blk_frozen BK191.out 3) | ((with_reducible refine gate_builtin (b := .append) (xs := #[.tmp 54, .tmp 56]) rfl ?_); (try (refine gate_guard (by rfl) ?_; dsimp only)); at_builtin; refine Kd.R_append k27 (w0 := w) w.heap.size rfl (.tmp 54) (.tmp 56) 22 27 (.agg #[(.int .i64 0), (.int .i64 0), (.int .i64 0), (.int .i64 0)]) 32 rfl Try.underlying22 info27 rfl (by decide) (by omega) v227 y226 (⟨a1_0, a1_1, (⟨a1_2, a1_3⟩ : S25)⟩ : S27) [.int .i64 a1_0, .int .i64 a1_1, .int .i64 a1_2, .int .i64 a1_3] (fun k_ => k_ ≠ gb191) (fun _ => False) rfl rfl ?aP (fun _ hk => hk.elim) ?aF ?aO ?aB ?aS ?aL ?_; (case aP => exact k27_mkM _ _ _ (⟨a1_0, a1_1, (⟨a1_2, a1_3⟩ : S25)⟩ : S27)); (case aB => exact (by repeat (first | (with_reducible first | exact HB.out | apply below_alloc | apply pw_below_drewN | apply below_drew1 | refine below_set ?_ GE191.out) | exact HB.out))); (case aF => exact (fun k_ hk => Kd.freshB (g := gb191) (o := .cells #[.int .i64 a1_0, .int .i64 a1_1, .int .i64 a1_2, .int .i64 a1_3] 27 (0, 0)) (by (with_reducible repeat (first | refine blk_drewN ?_ _ | refine blk_drew ?_ | refine blk_alloc ?_ _)); exact BK191.out) k_ hk)); (case aO => exact (by (with_reducible repeat (first | apply Kd.R_alloc | apply Kd.R_drewN | apply Kd.R_drew)); exact HO228.out)); (case aS => exact (below_size (by repeat (first | (with_reducible first | exact HB.out | apply below_alloc | apply pw_below_drewN | apply below_drew1 | refine below_set ?_ GE191.out) | exact HB.out)))); (case aL => have := LMc58.out; omega); intro v230 w65 ho hb hg hat; rw [← Ny229.out] at ho; have n0_ := Aside0.mk (blk_grown (g := gb191) (o := .cells #[.int .i64 a1_0, .int .i64 a1_1, .int .i64 a1_2, .int .i64 a1_3] 27 (0, 0)) (by (with_reducible repeat (first | refine blk_drewN ?_ _ | refine blk_drew ?_ | refine blk_alloc ?_ _)); exact BK191.out) hg (Kd.R_away HO228.out (fun _ hk => hk))); have n1_ := Aside0.mk (hb); have n2_ := Aside0.mk (ho); clear BK191; clear HB; clear HO228; have BK191 := n0_; have HB := n1_; have HO231 := n2_; clear n0_ n1_ n2_; clear ho hb hg hat; have q66 : (x6_3 : Int) ≤ ((l0.length : Int) : Int) := of_decide_eq_true (by first | (with_reducible assumption) | assumption); obtain ⟨i066, hi066, _, hsz66, _⟩ := info_parts info27; have hroom66 : l0.length ≤ c0 := HC0.out; have hC66 : Kd.C k27 _ A0 l0.length l0 := HR0.out; have q066 : (0 : Int) ≤ (x6_3 : Int) := of_decide_eq_true (by first | (with_reducible assumption) | assumption); have hcut66 := cut_from (P := Try.prog) 22 27 .i64 Try.underlying22 hi066 4 hsz66 A0 l0.length c0 x6_3 q066 q66; have hr66 := Kd.C_drop (m := (x6_3 : Int).toNat) (c := c0) hC66 (by omega) hroom66; obtain ⟨A66, hA66⟩ : ∃ A1, A1 = (if c0 = (x6_3 : Int).toNat then A0 else (A0 : Option Addr).map (·.add ((x6_3 : Int).toNat * 4))) := ⟨_, rfl⟩; obtain ⟨c66, hc66⟩ : ∃ c1, c1 = c0 - (x6_3 : Int).toNat := ⟨_, rfl⟩; have hy66 : y232.length = l0.length - (x6_3 : Int).toNat := (by rw [Ny232.out, List.length_drop] <;> omega); rw [show (l0).drop (x6_3 : Int).toNat = y232 from Ny232.out.symm] at hr66; replace hr66 : Kd.C k27 _ A66 y232.length y232 := (by rw [hA66]; exact hr66); rw [← hy66, ← hA66, ← hc66] at hcut66; have HR235 := Aside0.mk hr66; have HC235 := Aside0.mk (show y232.length ≤ c66 from by rw [hy66, hc66]; exact Nat.sub_le_sub_right hroom66 _); clear hr66 hC66 hroom66 hi066 hsz66 hc66; have KY66 := Aside0.mk hy66; have KA66 := Aside0.mk hA66; clear hy66 hA66; replace q66 := eq_true q66) | ((with_reducible refine gate_builtin (b := .append) (xs := #[.tmp 74, .tmp 77]) rfl ?_); (try (refine gate_guard (by rfl) ?_; dsimp only)); at_builtin; refine Kd.R_append_rows k27 (w0 := w) w.heap.size rfl (.tmp 74) (.tmp 77) 22 27 (.agg #[(.int .i64 0), (.int .i64 0), (.int .i64 0), (.int .i64 0)]) 32 rfl Try.underlying22 info27 rfl (by decide) (by omega) v230 y229 y232 _ _ _ (fun k_ => k_ ≠ gb191) (fun _ => False) rfl rfl ?aO ?aR (fun _ _ h => h) (fun _ h => h.elim) ?aF ?aB ?aS ?aL ?_; (case aR => (try change Kd.C k27 _ _ _ _); repeat (first | exact (Kd.C_below HR235.out HB.out) | (with_reducible refine Kd.C_alloc ?_ _) | (with_reducible refine Kd.C_drewN ?_ _) | (with_reducible refine Kd.C_drew ?_))); (case aB => exact (by repeat (first | (with_reducible first | exact HB.out | apply below_alloc | apply pw_below_drewN | apply below_drew1 | refine below_set ?_ GE191.out) | exact HB.out))); (case aF => exact (fun k_ hk => Kd.freshB (g := gb191) (o := .cells #[.int .i64 a1_0, .int .i64 a1_1, .int .i64 a1_2, .int .i64 a1_3] 27 (0, 0)) (by (with_reducible repeat (first | refine blk_drewN ?_ _ | refine blk_drew ?_ | refine blk_alloc ?_ _)); exact BK191.out) k_ hk)); (case aO => exact (by (with_reducible repeat (first | apply Kd.R_alloc | apply Kd.R_drewN | apply Kd.R_drew)); exact HO231.out)); (case aS => exact (below_size (by repeat (first | (with_reducible first | exact HB.out | apply below_alloc | apply pw_below_drewN | apply below_drew1 | refine below_set ?_ GE191.out) | exact HB.out)))); (case aL => have := LMc61.out; omega); intro v237 w67 ho hb hg hat; rw [← Ny236.out] at ho; have n0_ := Aside0.mk (blk_grown (g := gb191) (o := .cells #[.int .i64 a1_0, .int .i64 a1_1, .int .i64 a1_2, .int .i64 a1_3] 27 (0, 0)) (by (with_reducible repeat (first | refine blk_drewN ?_ _ | refine blk_drew ?_ | refine blk_alloc ?_ _)); exact BK191.out) hg (Kd.R_away HO231.out (fun _ hk => hk))); have n1_ := Aside0.mk (hb); have n2_ := Aside0.mk (ho); clear BK191; clear HB; clear HO231; have BK191 := n0_; have HB := n1_; have HO238 := n2_; clear n0_ n1_ n2_; clear ho hb hg hat)); try go_wp2_with (first | ((with_reducible refine gate_builtin (b := .append) (xs := #[.tmp 49, .tmp 52]) rfl ?_); (try (refine gate_guard (by rfl) ?_; dsimp only)); at_builtin; refine Kd.R_append_rows k27 (w0 := w) w.heap.size rfl (.tmp 49) (.tmp 52) 22 27 (.agg #[(.int .i64 0), (.int .i64 0), (.int .i64 0), (.int .i64 0)]) 32 rfl Try.underlying22 info27 rfl (by decide) (by omega) (.slice none 0 0) ([] : List (S27)) y222 _ _ _ (fun k_ => k_ ≠ gb191) (fun _ => False) rfl rfl ?aO ?aR (fun _ _ h => h) (fun _ h => h.elim) ?aF ?aB ?aS ?aL ?_; (case aR => (try change Kd.C k27 _ _ _ _); repeat (first | exact (Kd.C_below HR225.out HB.out) | (with_reducible refine Kd.C_alloc ?_ _) | (with_reducible refine Kd.C_drewN ?_ _) | (with_reducible refine Kd.C_drew ?_))); (case aB => exact (by repeat (first | (with_reducible first | exact HB.out | apply below_alloc | apply pw_below_drewN | apply below_drew1 | refine below_set ?_ GE191.out) | exact HB.out))); (case aF => exact (fun k_ hk => Kd.freshB (g := gb191) (o := .cells #[.int .i64 a1_0, .int .i64 a1_1, .int .i64 a1_2, .int .i64 a1_3] 27 (0, 0)) (by (with_reducible repeat (first | refine blk_drewN ?_ _ | refine blk_drew ?_ | refine blk_alloc ?_ _)); exact BK191.out) k_ hk)); (case aO => exact ((Kd.R_nil _ _ _ _ (fun k_ => k_ ≠ gb191)))); (case aS => exact (below_size (by repeat (first | (with_reducible first | exact HB.out | apply below_alloc | apply pw_below_drewN | apply below_drew1 | refine below_set ?_ GE191.out) | exact HB.out)))); (case aL => have := LMc57.out; omega); intro v227 w63 ho hb hg hat; rw [← Ny226.out] at ho; have n0_ := Aside0.mk (blk_grown (g := gb191) (o := .cells #[.int .i64 a1_0, .int .i64 a1_1, .int .i64 a1_2, .int .i64 a1_3] 27 (0, 0)) (by (with_reducible repeat (first | refine blk_drewN ?_ _ | refine blk_drew ?_ | refine blk_alloc ?_ _)); exact BK191.out) hg (by simp [Value.ownBlock])); have n1_ := Aside0.mk (hb); have n2_ := Aside0.mk (ho); clear BK191; clear HB; have BK191 := n0_; have HB := n1_; have HO228 := n2_; clear n0_ n1_ n2_; clear ho hb hg hat; have hcz64_0 : w63.cell? ⟨gb191, 0, none⟩ = some (.int .i64 a1_0) := (blk_cell BK191.out 0).trans rfl; have hcz64_1 : w63.cell? ⟨gb191, 1, none⟩ = some (.int .i64 a1_1) := (blk_cell BK191.out 1).trans rfl; have hcz64_2 : w63.cell? ⟨gb191, 2, none⟩ = some (.int .i64 a1_2) := (blk_cell BK191.out 2).trans rfl; have hcz64_3 : w63.cell? ⟨gb191, 3, none⟩ = some (.int .i64 a1_3) := (blk_cell BK191.out 3).trans rfl; have hfz64_0 := blk_frozen BK191.out 0; have hfz64_1 := blk_frozen BK191.out 1; have hfz64_2 := blk_frozen BK191.out 2; have hfz64_3 := blk_frozen BK191.out 3) | ((with_reducible refine gate_builtin (b := .append) (xs := #[.tmp 54, .tmp 56]) rfl ?_); (try (refine gate_guard (by rfl) ?_; dsimp only)); at_builtin; refine Kd.R_append k27 (w0 := w) w.heap.size rfl (.tmp 54) (.tmp 56) 22 27 (.agg #[(.int .i64 0), (.int .i64 0), (.int .i64 0), (.int .i64 0)]) 32 rfl Try.underlying22 info27 rfl (by decide) (by omega) v227 y226 (⟨a1_0, a1_1, (⟨a1_2, a1_3⟩ : S25)⟩ : S27) [.int .i64 a1_0, .int .i64 a1_1, .int .i64 a1_2, .int .i64 a1_3] (fun k_ => k_ ≠ gb191) (fun _ => False) rfl rfl ?aP (fun _ hk => hk.elim) ?aF ?aO ?aB ?aS ?aL ?_; (case aP => exact k27_mkM _ _ _ (⟨a1_0, a1_1, (⟨a1_2, a1_3⟩ : S25)⟩ : S27)); (case aB => exact (by repeat (first | (with_reducible first | exact HB.out | apply below_alloc | apply pw_below_drewN | apply below_drew1 | refine below_set ?_ GE191.out) | exact HB.out))); (case aF => exact (fun k_ hk => Kd.freshB (g := gb191) (o := .cells #[.int .i64 a1_0, .int .i64 a1_1, .int .i64 a1_2, .int .i64 a1_3] 27 (0, 0)) (by (with_reducible repeat (first | refine blk_drewN ?_ _ | refine blk_drew ?_ | refine blk_alloc ?_ _)); exact BK191.out) k_ hk)); (case aO => exact (by (with_reducible repeat (first | apply Kd.R_alloc | apply Kd.R_drewN | apply Kd.R_drew)); exact HO228.out)); (case aS => exact (below_size (by repeat (first | (with_reducible first | exact HB.out | apply below_alloc | apply pw_below_drewN | apply below_drew1 | refine below_set ?_ GE191.out) | exact HB.out)))); (case aL => have := LMc58.out; omega); intro v230 w65 ho hb hg hat; rw [← Ny229.out] at ho; have n0_ := Aside0.mk (blk_grown (g := gb191) (o := .cells #[.int .i64 a1_0, .int .i64 a1_1, .int .i64 a1_2, .int .i64 a1_3] 27 (0, 0)) (by (with_reducible repeat (first | refine blk_drewN ?_ _ | refine blk_drew ?_ | refine blk_alloc ?_ _)); exact BK191.out) hg (Kd.R_away HO228.out (fun _ hk => hk))); have n1_ := Aside0.mk (hb); have n2_ := Aside0.mk (ho); clear BK191; clear HB; clear HO228; have BK191 := n0_; have HB := n1_; have HO231 := n2_; clear n0_ n1_ n2_; clear ho hb hg hat; have q66 : (x6_3 : Int) ≤ ((l0.length : Int) : Int) := of_decide_eq_true (by first | (with_reducible assumption) | assumption); obtain ⟨i066, hi066, _, hsz66, _⟩ := info_parts info27; have hroom66 : l0.length ≤ c0 := HC0.out; have hC66 : Kd.C k27 _ A0 l0.length l0 := HR0.out; have q066 : (0 : Int) ≤ (x6_3 : Int) := of_decide_eq_true (by first | (with_reducible assumption) | assumption); have hcut66 := cut_from (P := Try.prog) 22 27 .i64 Try.underlying22 hi066 4 hsz66 A0 l0.length c0 x6_3 q066 q66; have hr66 := Kd.C_drop (m := (x6_3 : Int).toNat) (c := c0) hC66 (by omega) hroom66; obtain ⟨A66, hA66⟩ : ∃ A1, A1 = (if c0 = (x6_3 : Int).toNat then A0 else (A0 : Option Addr).map (·.add ((x6_3 : Int).toNat * 4))) := ⟨_, rfl⟩; obtain ⟨c66, hc66⟩ : ∃ c1, c1 = c0 - (x6_3 : Int).toNat := ⟨_, rfl⟩; have hy66 : y232.length = l0.length - (x6_3 : Int).toNat := (by rw [Ny232.out, List.length_drop] <;> omega); rw [show (l0).drop (x6_3 : Int).toNat = y232 from Ny232.out.symm] at hr66; replace hr66 : Kd.C k27 _ A66 y232.length y232 := (by rw [hA66]; exact hr66); rw [← hy66, ← hA66, ← hc66] at hcut66; have HR235 := Aside0.mk hr66; have HC235 := Aside0.mk (show y232.length ≤ c66 from by rw [hy66, hc66]; exact Nat.sub_le_sub_right hroom66 _); clear hr66 hC66 hroom66 hi066 hsz66 hc66; have KY66 := Aside0.mk hy66; have KA66 := Aside0.mk hA66; clear hy66 hA66; replace q66 := eq_true q66) | ((with_reducible refine gate_builtin (b := .append) (xs := #[.tmp 74, .tmp 77]) rfl ?_); (try (refine gate_guard (by rfl) ?_; dsimp only)); at_builtin; refine Kd.R_append_rows k27 (w0 := w) w.heap.size rfl (.tmp 74) (.tmp 77) 22 27 (.agg #[(.int .i64 0), (.int .i64 0), (.int .i64 0), (.int .i64 0)]) 32 rfl Try.underlying22 info27 rfl (by decide) (by omega) v230 y229 y232 _ _ _ (fun k_ => k_ ≠ gb191) (fun _ => False) rfl rfl ?aO ?aR (fun _ _ h => h) (fun _ h => h.elim) ?aF ?aB ?aS ?aL ?_; (case aR => (try change Kd.C k27 _ _ _ _); repeat (first | exact (Kd.C_below HR235.out HB.out) | (with_reducible refine Kd.C_alloc ?_ _) | (with_reducible refine Kd.C_drewN ?_ _) | (with_reducible refine Kd.C_drew ?_))); (case aB => exact (by repeat (first | (with_reducible first | exact HB.out | apply below_alloc | apply pw_below_drewN | apply below_drew1 | refine below_set ?_ GE191.out) | exact HB.out))); (case aF => exact (fun k_ hk => Kd.freshB (g := gb191) (o := .cells #[.int .i64 a1_0, .int .i64 a1_1, .int .i64 a1_2, .int .i64 a1_3] 27 (0, 0)) (by (with_reducible repeat (first | refine blk_drewN ?_ _ | refine blk_drew ?_ | refine blk_alloc ?_ _)); exact BK191.out) k_ hk)); (case aO => exact (by (with_reducible repeat (first | apply Kd.R_alloc | apply Kd.R_drewN | apply Kd.R_drew)); exact HO231.out)); (case aS => exact (below_size (by repeat (first | (with_reducible first | exact HB.out | apply below_alloc | apply pw_below_drewN | apply below_drew1 | refine below_set ?_ GE191.out) | exact HB.out)))); (case aL => have := LMc61.out; omega); intro v237 w67 ho hb hg hat; rw [← Ny236.out] at ho; have n0_ := Aside0.mk (blk_grown (g := gb191) (o := .cells #[.int .i64 a1_0, .int .i64 a1_1, .int .i64 a1_2, .int .i64 a1_3] 27 (0, 0)) (by (with_reducible repeat (first | refine blk_drewN ?_ _ | refine blk_drew ?_ | refine blk_alloc ?_ _)); exact BK191.out) hg (Kd.R_away HO231.out (fun _ hk => hk))); have n1_ := Aside0.mk (hb); have n2_ := Aside0.mk (ho); clear BK191; clear HB; clear HO231; have BK191 := n0_; have HB := n1_; have HO238 := n2_; clear n0_ n1_ n2_; clear ho hb hg hat)))
                                go_ret2
                                exact ⟨_, by first | rfl | (simp [errW_none, errW_some] <;> rfl) | (simp [*, errW_none, errW_some] <;> rfl), by (with_reducible repeat (first | apply Kd.R_alloc | apply Kd.R_drewN | apply Kd.R_drew)); exact Kd.R_mono HO238.out (fun _ hk => trivial), by repeat (first | (with_reducible first | exact HB.out | apply below_alloc | apply pw_below_drewN | apply below_drew1 | refine below_set ?_ GE191.out) | exact HB.out)⟩
                              · rw [if_neg c61] at H
                                exact absurd H (by simp)
                            · rw [if_neg c58] at H
                              exact absurd H (by simp)
                          · rw [if_neg c57] at H
                            exact absurd H (by simp)
                        · rw [if_neg c56] at H
                          exact absurd H (by simp)
                      · rw [if_neg c55] at H
                        exact absurd H (by simp)

/-! ### sextonref19_Same: function 12 -/
def sextonref19_Same.l0 : Nat → List (S27) → List (S27) → Int → Option (Bool)
  | 0, _, _, _ => none
  | k + 1, x0, x1, x5 => if x5 < (x0.length : Int) then (if 0 ≤ x5 then (if x5 < (x1.length : Int) then (if (!(((rd_T27 x0 x5).f0) == ((rd_T27 x1 x5).f0)) || (!(((rd_T27 x0 x5).f1) == ((rd_T27 x1 x5).f1)) || ((!(((rd_T27 x0 x5).f2.f0) == ((rd_T27 x1 x5).f2.f0)) || (!(((rd_T27 x0 x5).f2.f1) == ((rd_T27 x1 x5).f2.f1))))))) = true then (some false) else (sextonref19_Same.l0 k x0 x1 (wrap64 (x5 + 1)))) else (none)) else (none)) else (some true)
def sextonref19_Same.f (k : Nat) (l0 : List (S27)) (l1 : List (S27)) : Option (Bool) := if (l0.length : Int) = (l1.length : Int) then (sextonref19_Same.l0 k l0 l1 0) else (some false)
theorem sextonref19_Same.mono_l : ∀ k, (∀ y0 y1 y2, LeO (sextonref19_Same.l0 k y0 y1 y2) (sextonref19_Same.l0 (k + 1) y0 y1 y2))
  | 0 => fun _ _ _ r h => by simp [sextonref19_Same.l0] at h
  | k + 1 => by
    have ih0 := sextonref19_Same.mono_l k
    · intro y0 y1 y2
      unfold sextonref19_Same.l0
      repeat' first
      | (with_reducible exact ih0 _ _ _)
      | (with_reducible exact LeO.refl _)
      | (with_reducible exact LeO.none _)
      | (with_reducible refine LeO.ite ?_ ?_)
      | (with_reducible refine LeO.bind ?_ (fun _ => ?_))
      | exact ih0 _ _ _
      | exact LeO.none _
      | refine LeO.ite ?_ ?_
      | refine LeO.bind ?_ (fun _ => ?_)
theorem sextonref19_Same.mono : ∀ a0 a1 k, LeO (sextonref19_Same.f k a0 a1) (sextonref19_Same.f (k + 1) a0 a1) := by
  intro a0 a1 k
  have ih0 := sextonref19_Same.mono_l k
  unfold sextonref19_Same.f
  repeat' first
      | (with_reducible exact ih0 _ _ _)
      | (with_reducible exact LeO.refl _)
      | (with_reducible exact LeO.none _)
      | (with_reducible refine LeO.ite ?_ ?_)
      | (with_reducible refine LeO.bind ?_ (fun _ => ?_))
      | exact ih0 _ _ _
      | exact LeO.none _
      | refine LeO.ite ?_ ?_
      | refine LeO.bind ?_ (fun _ => ?_)
set_option maxHeartbeats 8000000 in
set_option maxRecDepth 100000 in
theorem sextonref19_Same.calls (k : Nat) (A0 : Option Addr) (c0 : Nat) (l0 : List (S27)) (A1 : Option Addr) (c1 : Nat) (l1 : List (S27)) (r : Bool) (w : World) (hr0 : Kd.C k27 w A0 l0.length l0) (hc0 : l0.length ≤ c0) (hr1 : Kd.C k27 w A1 l1.length l1) (hc1 : l1.length ≤ c1) (h : sextonref19_Same.f k l0 l1 = some r) :
    Calls Try.prog 12 #[.slice A0 l0.length c0, .slice A1 l1.length c1] w fun e w' => e = .returned (.bool r) ∧ Drawn0 w w' := by
  have hu27 := Try.underlying27
  have HR0 := Aside0.mk hr0
  have HC0 := Aside0.mk hc0
  clear hr0 hc0
  have HR1 := Aside0.mk hr1
  have HC1 := Aside0.mk hc1
  clear hr1 hc1
  have H : (if (l0.length : Int) = (l1.length : Int) then (sextonref19_Same.l0 k l0 l1 0) else (some false)) = some r := h
  clear h
  by_cases c3 : (l0.length : Int) = (l1.length : Int)
  · rw [if_pos c3] at H
    have c3b0 : ((l0.length : Int) == (l1.length : Int)) = true := beq_iff_eq.mpr c3
    have c3b1 : ((l0.length : Int) != (l1.length : Int)) = false := bne_eq_false_iff_eq.mpr c3
    have c3b2 : (l0.length == l1.length) = true := by first | simpa using c3 | (simp at c3 ⊢; omega)
    clear c3
    have H' := Aside0.mk H
    clear H
    go_enter Try.func12, Try.ntmps12
    go_wp2
    repeat (go_quiet (fail); try go_wp2)
    go_loopg [5] k (fun kq v5 w' => ∃ (x5_1 : Int), v5 = .int .i64 x5_1 ∧ Aside0 (sextonref19_Same.l0 kq l0 l1 x5_1 = some r) ∧ Aside0 (kq ≤ k) ∧ Drawn0 w w')
    case atStart => exact ⟨(0), (by first | rfl | (simp; done) | (simp [*]; done)), H', ⟨Nat.le_refl _⟩, by repeat (first | exact Drawn0.refl _ | apply Drawn0.step)⟩
    case round =>
      clear H'
      try clear c1
      try clear p2
      try clear c3
      try clear c3b0
      try clear c3b1
      try clear c3b2
      obtain ⟨x5_1, rfl, HA, HK1, ⟨m1, rfl⟩⟩ := hrel
      cases gk with
      | zero => exact absurd HA.out (by simp [sextonref19_Same.l0])
      | succ k1 =>
        have H := HA.out
        clear HA
        simp only [sextonref19_Same.l0] at H
        by_cases c4 : x5_1 < (l0.length : Int)
        · rw [if_pos c4] at H
          have c4b0 : decide (x5_1 < (l0.length : Int)) = true := decide_eq_true c4
          clear c4
          by_cases c5 : 0 ≤ x5_1
          · rw [if_pos c5] at H
            have c5b0 : decide (0 ≤ x5_1) = true := decide_eq_true c5
            clear c5
            by_cases c6 : x5_1 < (l1.length : Int)
            · rw [if_pos c6] at H
              have c6b0 : decide (x5_1 < (l1.length : Int)) = true := decide_eq_true c6
              clear c6
              by_cases c7 : (!(((rd_T27 l0 x5_1).f0) == ((rd_T27 l1 x5_1).f0)) || (!(((rd_T27 l0 x5_1).f1) == ((rd_T27 l1 x5_1).f1)) || ((!(((rd_T27 l0 x5_1).f2.f0) == ((rd_T27 l1 x5_1).f2.f0)) || (!(((rd_T27 l0 x5_1).f2.f1) == ((rd_T27 l1 x5_1).f2.f1))))))) = true
              · rw [if_pos c7] at H
                have c7b0 : (!(((rd_T27 l0 x5_1).f0) == ((rd_T27 l1 x5_1).f0)) || (!(((rd_T27 l0 x5_1).f1) == ((rd_T27 l1 x5_1).f1)) || ((!(((rd_T27 l0 x5_1).f2.f0) == ((rd_T27 l1 x5_1).f2.f0)) || (!(((rd_T27 l0 x5_1).f2.f1) == ((rd_T27 l1 x5_1).f2.f1))))))) = true := c7
                clear c7
                obtain rfl := Option.some.inj H
                have p239 : 0 ≤ (x5_1 : Int) := of_decide_eq_true (by first | (with_reducible assumption) | assumption)
                have q239 : x5_1 < (l0.length : Int) := of_decide_eq_true (by first | (with_reducible assumption) | assumption)
                obtain ⟨ad239, e239, hx239_0, hx239_1, hx239_2, hx239_3⟩ := at_T27 HR0.out x5_1 p239 q239
                cases e239
                replace p239 := eq_true p239
                replace q239 := eq_true q239
                have p240 : 0 ≤ (x5_1 : Int) := of_decide_eq_true (by first | (with_reducible assumption) | assumption)
                have q240 : x5_1 < (l1.length : Int) := of_decide_eq_true (by first | (with_reducible assumption) | assumption)
                obtain ⟨ad240, e240, hx240_0, hx240_1, hx240_2, hx240_3⟩ := at_T27 HR1.out x5_1 p240 q240
                cases e240
                replace p240 := eq_true p240
                replace q240 := eq_true q240
                go_wp2
                repeat (go_quiet (fail); try go_wp2)
                go_ret
                exact ⟨by first | rfl | (simp; done) | (simp [*]; done), by repeat (first | exact Drawn0.refl _ | apply Drawn0.step)⟩
              · rw [if_neg c7] at H
                have c7b0 : (!(((rd_T27 l0 x5_1).f0) == ((rd_T27 l1 x5_1).f0)) || (!(((rd_T27 l0 x5_1).f1) == ((rd_T27 l1 x5_1).f1)) || ((!(((rd_T27 l0 x5_1).f2.f0) == ((rd_T27 l1 x5_1).f2.f0)) || (!(((rd_T27 l0 x5_1).f2.f1) == ((rd_T27 l1 x5_1).f2.f1))))))) = false := by simpa using c7
                clear c7
                have H' := Aside0.mk H
                clear H
                have p239 : 0 ≤ (x5_1 : Int) := of_decide_eq_true (by first | (with_reducible assumption) | assumption)
                have q239 : x5_1 < (l0.length : Int) := of_decide_eq_true (by first | (with_reducible assumption) | assumption)
                obtain ⟨ad239, e239, hx239_0, hx239_1, hx239_2, hx239_3⟩ := at_T27 HR0.out x5_1 p239 q239
                cases e239
                replace p239 := eq_true p239
                replace q239 := eq_true q239
                have p240 : 0 ≤ (x5_1 : Int) := of_decide_eq_true (by first | (with_reducible assumption) | assumption)
                have q240 : x5_1 < (l1.length : Int) := of_decide_eq_true (by first | (with_reducible assumption) | assumption)
                obtain ⟨ad240, e240, hx240_0, hx240_1, hx240_2, hx240_3⟩ := at_T27 HR1.out x5_1 p240 q240
                cases e240
                replace p240 := eq_true p240
                replace q240 := eq_true q240
                go_wp2
                repeat (go_quiet (fail); try go_wp2)
                go_roundg k1
                case measure => have := HK1.out; omega
                case rel => exact ⟨(wrap64 (x5_1 + 1)), (by first | rfl | (simp; done) | (simp [*]; done)), H', ⟨by have := HK1.out; omega⟩, by repeat (first | exact Drawn0.refl _ | apply Drawn0.step)⟩
            · rw [if_neg c6] at H
              exact absurd H (by simp)
          · rw [if_neg c5] at H
            exact absurd H (by simp)
        · rw [if_neg c4] at H
          have c4b0 : decide (x5_1 < (l0.length : Int)) = false := decide_eq_false c4
          clear c4
          obtain rfl := Option.some.inj H
          go_wp2
          repeat (go_quiet (fail); try go_wp2)
          go_ret
          exact ⟨by first | rfl | (simp; done) | (simp [*]; done), by repeat (first | exact Drawn0.refl _ | apply Drawn0.step)⟩
  · rw [if_neg c3] at H
    have c3b0 : ((l0.length : Int) == (l1.length : Int)) = false := beq_eq_false_iff_ne.mpr c3
    have c3b1 : ((l0.length : Int) != (l1.length : Int)) = true := bne_iff_ne.mpr c3
    have c3b2 : (l0.length == l1.length) = false := by first | simpa using c3 | (simp at c3 ⊢; omega)
    obtain rfl := Option.some.inj H
    go_enter Try.func12, Try.ntmps12
    go_wp2
    repeat (go_quiet (fail); try go_wp2)
    go_ret
    exact ⟨by first | rfl | (simp; done) | (simp [*]; done), by repeat (first | exact Drawn0.refl _ | apply Drawn0.step)⟩

end Go.Proofs.Ytbohgnecphhdmaa.P
