/- Part 5 of the walk. -/
import Derived.Test.YtgphefohdbgokaaCTells04
section
namespace Go.Proofs.Ytgphefohdbgokaa.P
open Go.RowKit Go.Proofs.YtgphefohdbgokaaW.PrintWords Go.Proofs.YtgphefohdbgokaaW.PrintLast Go.Proofs.YtgphefohdbgokaaW.PrintMore
attribute [local go_sem] max2_int min2_int max_two min_two max_three min_three max_four min_four   -- for this text's walks alone
set_option linter.unusedVariables false
set_option linter.unusedSimpArgs false
def sextonref22_Same.l0 : Nat → List (S29) → List (S29) → Int → Option (Bool)
  | 0, _, _, _ => none
  | k + 1, x0, x1, x5 => if x5 < (x0.length : Int) then (if 0 ≤ x5 then (if x5 < (x1.length : Int) then ((sextonref22_SameVote.f k ((rd_T29 x0 x5).f0) ((rd_T29 x0 x5).f1) ((rd_T29 x0 x5).f2) ((rd_T29 x0 x5).f3) ((rd_T29 x1 x5).f0) ((rd_T29 x1 x5).f1) ((rd_T29 x1 x5).f2) ((rd_T29 x1 x5).f3)).bind fun t238 => (if t238 = true then (sextonref22_Same.l0 k x0 x1 (wrap64 (x5 + 1))) else (some false))) else (none)) else (none)) else (some true)
def sextonref22_Same.f (k : Nat) (l0 : List (S29)) (l1 : List (S29)) : Option (Bool) := if (l0.length : Int) = (l1.length : Int) then (sextonref22_Same.l0 k l0 l1 0) else (some false)
def sextonref22_Same.T6 : Bool × List (List Nat × List Nat) := (true, [([], []), ([], []), ([0, 1], [0, 1]), ([2], [2]), ([], []), ([], []), ([4, 5], [4, 5]), ([6], [6]), ([3, 7], [3, 7]), ([8], [8])])
def sextonref22_Same.B6 : List Nat := [0, 0, 3, 7, 0, 0, 48, 112, 255, 511]
theorem sextonref22_Same.tab6 : rtab .any (opsOf Try.f23 6) = sextonref22_Same.T6 := by kernel_rfl
theorem sextonref22_Same.bits6 : waitsOk sextonref22_Same.T6.2 sextonref22_Same.B6 = true := by kernel_rfl
set_option maxHeartbeats 8000000 in
set_option maxRecDepth 100000 in
theorem sextonref22_Same.calls (k : Nat) (A0 : Option Addr) (c0 : Nat) (l0 : List (S29)) (A1 : Option Addr) (c1 : Nat) (l1 : List (S29)) (r : Bool) (w : World) (hr0 : Kd.C k29 w A0 l0.length l0) (hc0 : l0.length ≤ c0) (hr1 : Kd.C k29 w A1 l1.length l1) (hc1 : l1.length ≤ c1) (h : sextonref22_Same.f k l0 l1 = some r) :
    Calls Try.prog 23 #[.slice A0 l0.length c0, .slice A1 l1.length c1] w fun e w' => e = .returned (.bool r) ∧ Below w.heap.size w w' := by
  have hu29 := Try.underlying29
  have HR0 := Aside0.mk hr0
  have HC0 := Aside0.mk hc0
  clear hr0 hc0
  have HR1 := Aside0.mk hr1
  have HC1 := Aside0.mk hc1
  clear hr1 hc1
  have HB := Aside0.mk (Below.refl w.heap.size w)
  have H : (if (l0.length : Int) = (l1.length : Int) then (sextonref22_Same.l0 k l0 l1 0) else (some false)) = some r := h
  clear h
  by_cases c3 : (l0.length : Int) = (l1.length : Int)
  · rw [if_pos c3] at H
    have c3b0 : ((l0.length : Int) == (l1.length : Int)) = true := beq_iff_eq.mpr c3
    have c3b1 : ((l0.length : Int) != (l1.length : Int)) = false := bne_eq_false_iff_eq.mpr c3
    have c3b2 : (l0.length == l1.length) = true := by first | simpa using c3 | (simp at c3 ⊢; omega)
    clear c3
    have H' := Aside0.mk H
    clear H
    go_enter Try.func23, Try.ntmps23
    go_wp2
    go_loopg [5] k (fun kq v5 w' => ∃ (x5_1 : Int), v5 = .int .i64 x5_1 ∧ Aside0 (sextonref22_Same.l0 kq l0 l1 x5_1 = some r) ∧ Aside0 (kq ≤ k) ∧ Aside0 (Below w.heap.size w w'))
    case atStart => exact ⟨(0), (by first | rfl | (simp; done) | (simp [*]; done)), H', ⟨Nat.le_refl _⟩, ⟨by repeat (first | (with_reducible first | exact HB.out | apply below_alloc | apply pw_below_drewN | apply below_drew1) | exact HB.out)⟩⟩
    case round =>
      clear H'
      try clear c1
      try clear c2
      try clear p2
      try clear c3
      try clear c3b0
      try clear c3b1
      try clear c3b2
      obtain ⟨x5_1, rfl, HA, HK1, HB⟩ := hrel
      cases gk with
      | zero => exact absurd HA.out (by simp [sextonref22_Same.l0])
      | succ k1 =>
        have H := HA.out
        clear HA
        simp only [sextonref22_Same.l0] at H
        by_cases c4 : x5_1 < (l0.length : Int)
        · rw [if_pos c4] at H
          have c4b0 : decide (x5_1 < (l0.length : Int)) = true := decide_eq_true c4
          clear c4
          by_cases c5 : 0 ≤ x5_1
          · rw [if_pos c5] at H
            have c5b0 : decide (0 ≤ x5_1) = true := decide_eq_true c5
            clear c5
            by_cases c6 : x5_1 < (l1.length : Int)
            · rw [if_pos c6] at H
              have c6b0 : decide (x5_1 < (l1.length : Int)) = true := decide_eq_true c6
              clear c6
              replace H := Option.bind_eq_some_iff.mp H
              obtain ⟨t238, A70, H⟩ := H
              replace H : (if t238 = true then (sextonref22_Same.l0 k1 l0 l1 (wrap64 (x5_1 + 1))) else (some false)) = some r := H
              have A7 := Aside0.mk A70
              clear A70
              by_cases c8 : t238 = true
              · subst c8
                have H1 : (sextonref22_Same.l0 k1 l0 l1 (wrap64 (x5_1 + 1))) = some r := by rw [if_pos rfl] at H; exact H
                clear H
                have H := H1
                clear H1
                have H' := Aside0.mk H
                clear H
                try go_wp2
                have n0_ := Aside0.mk (below_drew1 HB.out)
                clear HB
                have HB := n0_
                clear n0_
                have p236 : 0 ≤ (x5_1 : Int) := of_decide_eq_true (by first | (with_reducible assumption) | assumption)
                have q236 : x5_1 < (l0.length : Int) := of_decide_eq_true (by first | (with_reducible assumption) | assumption)
                obtain ⟨ad236, A236_3, c236_3, e236, hx236_0, hx236_1, hx236_2, hx236_3, hl236_3, hi236_3⟩ := at_T29 HR0.out x5_1 p236 q236
                have hw236_3 := hx236_3
                have hw236_2 := hx236_2
                have hw236_1 := hx236_1
                have hw236_0 := hx236_0
                cases e236
                replace hx236_0 := (HB.out.cell (World.block_lt_of_cell? w _ hx236_0)).trans hx236_0
                replace hx236_1 := (HB.out.cell (World.block_lt_of_cell? w _ hx236_1)).trans hx236_1
                replace hx236_2 := (HB.out.cell (World.block_lt_of_cell? w _ hx236_2)).trans hx236_2
                replace hx236_3 := (HB.out.cell (World.block_lt_of_cell? w _ hx236_3)).trans hx236_3
                have HR236_3 := Aside0.mk hi236_3
                have HC236_3 := Aside0.mk hl236_3
                clear hi236_3 hl236_3
                replace p236 := eq_true p236
                replace q236 := eq_true q236
                have p237 : 0 ≤ (x5_1 : Int) := of_decide_eq_true (by first | (with_reducible assumption) | assumption)
                have q237 : x5_1 < (l1.length : Int) := of_decide_eq_true (by first | (with_reducible assumption) | assumption)
                obtain ⟨ad237, A237_3, c237_3, e237, hx237_0, hx237_1, hx237_2, hx237_3, hl237_3, hi237_3⟩ := at_T29 HR1.out x5_1 p237 q237
                have hw237_3 := hx237_3
                have hw237_2 := hx237_2
                have hw237_1 := hx237_1
                have hw237_0 := hx237_0
                cases e237
                replace hx237_0 := (HB.out.cell (World.block_lt_of_cell? w _ hx237_0)).trans hx237_0
                replace hx237_1 := (HB.out.cell (World.block_lt_of_cell? w _ hx237_1)).trans hx237_1
                replace hx237_2 := (HB.out.cell (World.block_lt_of_cell? w _ hx237_2)).trans hx237_2
                replace hx237_3 := (HB.out.cell (World.block_lt_of_cell? w _ hx237_3)).trans hx237_3
                have HR237_3 := Aside0.mk hi237_3
                have HC237_3 := Aside0.mk hl237_3
                clear hi237_3 hl237_3
                replace p237 := eq_true p237
                replace q237 := eq_true q237
                refine start_ (n := 10) (S := fun w' => w'.cell? (ad236.add ((x5_1).toNat * 4)) = some (.int .i64 ((rd_T29 l0 x5_1).f0)) ∧ w'.cell? ⟨(ad236.add ((x5_1).toNat * 4)).block, (ad236.add ((x5_1).toNat * 4)).off + 1, none⟩ = some (.int .i64 ((rd_T29 l0 x5_1).f1)) ∧ w'.cell? ⟨(ad236.add ((x5_1).toNat * 4)).block, (ad236.add ((x5_1).toNat * 4)).off + 2, none⟩ = some (.int .i64 ((rd_T29 l0 x5_1).f2)) ∧ w'.cell? ⟨(ad236.add ((x5_1).toNat * 4)).block, (ad236.add ((x5_1).toNat * 4)).off + 3, none⟩ = some (.slice A236_3 ((rd_T29 l0 x5_1).f3).length c236_3) ∧ w'.cell? (ad237.add ((x5_1).toNat * 4)) = some (.int .i64 ((rd_T29 l1 x5_1).f0)) ∧ w'.cell? ⟨(ad237.add ((x5_1).toNat * 4)).block, (ad237.add ((x5_1).toNat * 4)).off + 1, none⟩ = some (.int .i64 ((rd_T29 l1 x5_1).f1)) ∧ w'.cell? ⟨(ad237.add ((x5_1).toNat * 4)).block, (ad237.add ((x5_1).toNat * 4)).off + 2, none⟩ = some (.int .i64 ((rd_T29 l1 x5_1).f2)) ∧ w'.cell? ⟨(ad237.add ((x5_1).toNat * 4)).block, (ad237.add ((x5_1).toNat * 4)).off + 3, none⟩ = some (.slice A237_3 ((rd_T29 l1 x5_1).f3).length c237_3)) (ds := []) #[false, false, false, false, false, false, false, false, false, false] (by kernel_rfl) rfl rfl ⟨((HB.out.cell (World.block_lt_of_cell? w _ hw236_0)).trans hw236_0), ((HB.out.cell (World.block_lt_of_cell? w _ hw236_1)).trans hw236_1), ((HB.out.cell (World.block_lt_of_cell? w _ hw236_2)).trans hw236_2), ((HB.out.cell (World.block_lt_of_cell? w _ hw236_3)).trans hw236_3), ((HB.out.cell (World.block_lt_of_cell? w _ hw237_0)).trans hw237_0), ((HB.out.cell (World.block_lt_of_cell? w _ hw237_1)).trans hw237_1), ((HB.out.cell (World.block_lt_of_cell? w _ hw237_2)).trans hw237_2), ((HB.out.cell (World.block_lt_of_cell? w _ hw237_3)).trans hw237_3)⟩ (fun hHeld => ?_); refine with_tabW sextonref22_Same.tab6 sextonref22_Same.bits6 (fun HT_ HW_ => ?_)
                generalize wr.drew = w9 at HB HR236_3 HR237_3 hx236_0 hx236_1 hx236_2 hx236_3 hx237_0 hx237_1 hx237_2 hx237_3 hHeld ⊢
                refine pure_ (i := 0) (N := some 17) (v := ?_) (a' := ?_) #[true, false, false, false, false, false, false, false, false, false] rfl rfl (any_of HT_.out (by kernel_rfl)) (fun _ _ _ h => h) (Or.inl ⟨by rfl, ?_⟩) ?_ ?_
                rotate_left
                · intro w'
                  go_simp
                  with_reducible rfl
                rotate_left
                · simp only [Act.put, List.setIfInBounds_toArray, List.set_cons_zero, List.set_cons_succ, i64_w, i32_w]
                  rfl
                refine pure_ (i := 1) (N := some 18) (v := ?_) (a' := ?_) #[true, true, false, false, false, false, false, false, false, false] rfl rfl (any_of HT_.out (by kernel_rfl)) (fun _ _ _ h => h) (Or.inl ⟨by rfl, ?_⟩) ?_ ?_
                rotate_left
                · intro w'
                  go_simp
                  with_reducible rfl
                rotate_left
                · simp only [Act.put, List.setIfInBounds_toArray, List.set_cons_zero, List.set_cons_succ, i64_w, i32_w]
                  rfl
                refine pure_ (i := 2) (N := some 19) (v := ?_) (a' := ?_) #[true, true, true, false, false, false, false, false, false, false] rfl rfl (any_of HT_.out (by kernel_rfl)) (fun _ _ _ h => h) (Or.inl ⟨by rfl, ?_⟩) ?_ ?_
                rotate_left
                · intro w'
                  go_simp
                  with_reducible rfl
                rotate_left
                · simp only [Act.put, List.setIfInBounds_toArray, List.set_cons_zero, List.set_cons_succ, i64_w, i32_w]
                  rfl
                refine pure_ (i := 4) (N := some 21) (v := ?_) (a' := ?_) #[true, true, true, false, true, false, false, false, false, false] rfl rfl (any_of HT_.out (by kernel_rfl)) (fun _ _ _ h => h) (Or.inl ⟨by rfl, ?_⟩) ?_ ?_
                rotate_left
                · intro w'
                  go_simp
                  with_reducible rfl
                rotate_left
                · simp only [Act.put, List.setIfInBounds_toArray, List.set_cons_zero, List.set_cons_succ, i64_w, i32_w]
                  rfl
                refine pure_ (i := 5) (N := some 22) (v := ?_) (a' := ?_) #[true, true, true, false, true, true, false, false, false, false] rfl rfl (any_of HT_.out (by kernel_rfl)) (fun _ _ _ h => h) (Or.inl ⟨by rfl, ?_⟩) ?_ ?_
                rotate_left
                · intro w'
                  go_simp
                  with_reducible rfl
                rotate_left
                · simp only [Act.put, List.setIfInBounds_toArray, List.set_cons_zero, List.set_cons_succ, i64_w, i32_w]
                  rfl
                refine pure_ (i := 6) (N := some 23) (v := ?_) (a' := ?_) #[true, true, true, false, true, true, true, false, false, false] rfl rfl (any_of HT_.out (by kernel_rfl)) (fun _ _ _ h => h) (Or.inl ⟨by rfl, ?_⟩) ?_ ?_
                rotate_left
                · intro w'
                  go_simp
                  with_reducible rfl
                rotate_left
                · simp only [Act.put, List.setIfInBounds_toArray, List.set_cons_zero, List.set_cons_succ, i64_w, i32_w]
                  rfl
                refine take_ (i := 3) (N := some 20) (v := ?_) (a' := ?_) #[true, true, true, true, true, true, true, false, false, false] rfl rfl (take_ofW HT_.out HW_.out (by kernel_rfl)) (fun _ _ _ h => h) (Or.inl ⟨by rfl, ?_⟩) hHeld ?_ ?_
                rotate_left
                · rintro w' ⟨s0, s1, s2, s3, s4, s5, s6, s7⟩
                  go_simp
                  with_reducible rfl
                rotate_left
                · simp only [Act.put, List.setIfInBounds_toArray, List.set_cons_zero, List.set_cons_succ, i64_w, i32_w]
                  rfl
                refine take_ (i := 7) (N := some 24) (v := ?_) (a' := ?_) #[true, true, true, true, true, true, true, true, false, false] rfl rfl (take_ofW HT_.out HW_.out (by kernel_rfl)) (fun _ _ _ h => h) (Or.inl ⟨by rfl, ?_⟩) hHeld ?_ ?_
                rotate_left
                · rintro w' ⟨s0, s1, s2, s3, s4, s5, s6, s7⟩
                  go_simp
                  with_reducible rfl
                rotate_left
                · simp only [Act.put, List.setIfInBounds_toArray, List.set_cons_zero, List.set_cons_succ, i64_w, i32_w]
                  rfl
                refine one_ (i := 8) (N := some 25) #[true, true, true, true, true, true, true, true, true, false] rfl rfl (one_of HT_.out (by kernel_rfl)) (by decide) (fun K hK => ?_)
                refine goes_ Try.func13 (by kernel_rfl) rfl #[.agg #[.int .i64 ((rd_T29 l0 x5_1).f0), .int .i64 ((rd_T29 l0 x5_1).f1), .int .i64 ((rd_T29 l0 x5_1).f2), .slice A236_3 ((rd_T29 l0 x5_1).f3).length c236_3], .agg #[.int .i64 ((rd_T29 l1 x5_1).f0), .int .i64 ((rd_T29 l1 x5_1).f1), .int .i64 ((rd_T29 l1 x5_1).f2), .slice A237_3 ((rd_T29 l1 x5_1).f3).length c237_3]] (by rfl) rfl rfl (by (try simp only [List.map_toArray, List.map_cons, List.map_nil]); first | done | rfl | (simp only [List.length_drop, List.length_take]; rfl)) ?_
                with_reducible refine (sextonref22_SameVote.calls k1 ((rd_T29 l0 x5_1).f0) ((rd_T29 l0 x5_1).f1) ((rd_T29 l0 x5_1).f2) _ _ ((rd_T29 l0 x5_1).f3) ((rd_T29 l1 x5_1).f0) ((rd_T29 l1 x5_1).f1) ((rd_T29 l1 x5_1).f2) _ _ ((rd_T29 l1 x5_1).f3) true _ ?side1 ?side2 ?side3 ?side4 A7.out).mono ?_
                (case side1 => repeat (first | exact (Kd.C_below HR236_3.out HB.out) | (with_reducible refine Kd.C_alloc ?_ _) | (with_reducible refine Kd.C_drewN ?_ _) | (with_reducible refine Kd.C_drew ?_)))
                (case side2 => exact HC236_3.out)
                (case side3 => repeat (first | exact (Kd.C_below HR237_3.out HB.out) | (with_reducible refine Kd.C_alloc ?_ _) | (with_reducible refine Kd.C_drewN ?_ _) | (with_reducible refine Kd.C_drew ?_)))
                (case side4 => exact HC237_3.out)
                rintro e w10 ⟨rfl, hb⟩
                refine ⟨_, rfl, ?_⟩
                have n0_ := Aside0.mk (below_step (by repeat (first | (with_reducible first | exact HB.out | apply below_alloc | apply pw_below_drewN | apply below_drew1) | exact HB.out)) hb)
                clear HB
                have HB := n0_
                clear n0_
                (try clear hb)
                (try clear hb2)
                (try clear hk)
                (try clear hi)
                refine hK.out _ _ ⟨((HB.out.cell (World.block_lt_of_cell? w _ hw236_0)).trans hw236_0), ((HB.out.cell (World.block_lt_of_cell? w _ hw236_1)).trans hw236_1), ((HB.out.cell (World.block_lt_of_cell? w _ hw236_2)).trans hw236_2), ((HB.out.cell (World.block_lt_of_cell? w _ hw236_3)).trans hw236_3), ((HB.out.cell (World.block_lt_of_cell? w _ hw237_0)).trans hw237_0), ((HB.out.cell (World.block_lt_of_cell? w _ hw237_1)).trans hw237_1), ((HB.out.cell (World.block_lt_of_cell? w _ hw237_2)).trans hw237_2), ((HB.out.cell (World.block_lt_of_cell? w _ hw237_3)).trans hw237_3)⟩ (fun hHeld => ?_)
                clear hK K
                refine norm_ (a' := ?_) ?_ ?_
                rotate_left
                · show Act.put _ (some 25) _ = _
                  simp only [Act.put, List.setIfInBounds_toArray, List.set_cons_zero, List.set_cons_succ, i64_w, i32_w]
                  rfl
                refine pure_ (i := 9) (N := some 26) (v := ?_) (a' := ?_) #[true, true, true, true, true, true, true, true, true, true] rfl rfl (any_of HT_.out (by kernel_rfl)) (fun _ _ _ h => h) (Or.inl ⟨by rfl, ?_⟩) ?_ ?_
                rotate_left
                · intro w'
                  go_simp
                  with_reducible rfl
                rotate_left
                · simp only [Act.put, List.setIfInBounds_toArray, List.set_cons_zero, List.set_cons_succ, i64_w, i32_w]
                  rfl
                refine done_ (done_of HT_.out (by kernel_rfl)) ?_
                try go_wp2
                go_roundg k1
                case measure => have := HK1.out; omega
                case rel => exact ⟨(wrap64 (x5_1 + 1)), (by first | rfl | (simp; done) | (simp [*]; done)), H', ⟨by have := HK1.out; omega⟩, ⟨by repeat (first | (with_reducible first | exact HB.out | apply below_alloc | apply pw_below_drewN | apply below_drew1) | exact HB.out)⟩⟩
              · replace c8 := Bool.eq_false_iff.mpr c8
                subst c8
                have H1 : (some false) = some r := by rw [if_neg (show ¬ (false = true) by decide)] at H; exact H
                clear H
                have H := H1
                clear H1
                obtain rfl := Option.some.inj H
                try go_wp2
                have n0_ := Aside0.mk (below_drew1 HB.out)
                clear HB
                have HB := n0_
                clear n0_
                have p236 : 0 ≤ (x5_1 : Int) := of_decide_eq_true (by first | (with_reducible assumption) | assumption)
                have q236 : x5_1 < (l0.length : Int) := of_decide_eq_true (by first | (with_reducible assumption) | assumption)
                obtain ⟨ad236, A236_3, c236_3, e236, hx236_0, hx236_1, hx236_2, hx236_3, hl236_3, hi236_3⟩ := at_T29 HR0.out x5_1 p236 q236
                have hw236_3 := hx236_3
                have hw236_2 := hx236_2
                have hw236_1 := hx236_1
                have hw236_0 := hx236_0
                cases e236
                replace hx236_0 := (HB.out.cell (World.block_lt_of_cell? w _ hx236_0)).trans hx236_0
                replace hx236_1 := (HB.out.cell (World.block_lt_of_cell? w _ hx236_1)).trans hx236_1
                replace hx236_2 := (HB.out.cell (World.block_lt_of_cell? w _ hx236_2)).trans hx236_2
                replace hx236_3 := (HB.out.cell (World.block_lt_of_cell? w _ hx236_3)).trans hx236_3
                have HR236_3 := Aside0.mk hi236_3
                have HC236_3 := Aside0.mk hl236_3
                clear hi236_3 hl236_3
                replace p236 := eq_true p236
                replace q236 := eq_true q236
                have p237 : 0 ≤ (x5_1 : Int) := of_decide_eq_true (by first | (with_reducible assumption) | assumption)
                have q237 : x5_1 < (l1.length : Int) := of_decide_eq_true (by first | (with_reducible assumption) | assumption)
                obtain ⟨ad237, A237_3, c237_3, e237, hx237_0, hx237_1, hx237_2, hx237_3, hl237_3, hi237_3⟩ := at_T29 HR1.out x5_1 p237 q237
                have hw237_3 := hx237_3
                have hw237_2 := hx237_2
                have hw237_1 := hx237_1
                have hw237_0 := hx237_0
                cases e237
                replace hx237_0 := (HB.out.cell (World.block_lt_of_cell? w _ hx237_0)).trans hx237_0
                replace hx237_1 := (HB.out.cell (World.block_lt_of_cell? w _ hx237_1)).trans hx237_1
                replace hx237_2 := (HB.out.cell (World.block_lt_of_cell? w _ hx237_2)).trans hx237_2
                replace hx237_3 := (HB.out.cell (World.block_lt_of_cell? w _ hx237_3)).trans hx237_3
                have HR237_3 := Aside0.mk hi237_3
                have HC237_3 := Aside0.mk hl237_3
                clear hi237_3 hl237_3
                replace p237 := eq_true p237
                replace q237 := eq_true q237
                refine start_ (n := 10) (S := fun w' => w'.cell? (ad236.add ((x5_1).toNat * 4)) = some (.int .i64 ((rd_T29 l0 x5_1).f0)) ∧ w'.cell? ⟨(ad236.add ((x5_1).toNat * 4)).block, (ad236.add ((x5_1).toNat * 4)).off + 1, none⟩ = some (.int .i64 ((rd_T29 l0 x5_1).f1)) ∧ w'.cell? ⟨(ad236.add ((x5_1).toNat * 4)).block, (ad236.add ((x5_1).toNat * 4)).off + 2, none⟩ = some (.int .i64 ((rd_T29 l0 x5_1).f2)) ∧ w'.cell? ⟨(ad236.add ((x5_1).toNat * 4)).block, (ad236.add ((x5_1).toNat * 4)).off + 3, none⟩ = some (.slice A236_3 ((rd_T29 l0 x5_1).f3).length c236_3) ∧ w'.cell? (ad237.add ((x5_1).toNat * 4)) = some (.int .i64 ((rd_T29 l1 x5_1).f0)) ∧ w'.cell? ⟨(ad237.add ((x5_1).toNat * 4)).block, (ad237.add ((x5_1).toNat * 4)).off + 1, none⟩ = some (.int .i64 ((rd_T29 l1 x5_1).f1)) ∧ w'.cell? ⟨(ad237.add ((x5_1).toNat * 4)).block, (ad237.add ((x5_1).toNat * 4)).off + 2, none⟩ = some (.int .i64 ((rd_T29 l1 x5_1).f2)) ∧ w'.cell? ⟨(ad237.add ((x5_1).toNat * 4)).block, (ad237.add ((x5_1).toNat * 4)).off + 3, none⟩ = some (.slice A237_3 ((rd_T29 l1 x5_1).f3).length c237_3)) (ds := []) #[false, false, false, false, false, false, false, false, false, false] (by kernel_rfl) rfl rfl ⟨((HB.out.cell (World.block_lt_of_cell? w _ hw236_0)).trans hw236_0), ((HB.out.cell (World.block_lt_of_cell? w _ hw236_1)).trans hw236_1), ((HB.out.cell (World.block_lt_of_cell? w _ hw236_2)).trans hw236_2), ((HB.out.cell (World.block_lt_of_cell? w _ hw236_3)).trans hw236_3), ((HB.out.cell (World.block_lt_of_cell? w _ hw237_0)).trans hw237_0), ((HB.out.cell (World.block_lt_of_cell? w _ hw237_1)).trans hw237_1), ((HB.out.cell (World.block_lt_of_cell? w _ hw237_2)).trans hw237_2), ((HB.out.cell (World.block_lt_of_cell? w _ hw237_3)).trans hw237_3)⟩ (fun hHeld => ?_); refine with_tabW sextonref22_Same.tab6 sextonref22_Same.bits6 (fun HT_ HW_ => ?_)
                generalize wr.drew = w11 at HB HR236_3 HR237_3 hx236_0 hx236_1 hx236_2 hx236_3 hx237_0 hx237_1 hx237_2 hx237_3 hHeld ⊢
                refine pure_ (i := 0) (N := some 17) (v := ?_) (a' := ?_) #[true, false, false, false, false, false, false, false, false, false] rfl rfl (any_of HT_.out (by kernel_rfl)) (fun _ _ _ h => h) (Or.inl ⟨by rfl, ?_⟩) ?_ ?_
                rotate_left
                · intro w'
                  go_simp
                  with_reducible rfl
                rotate_left
                · simp only [Act.put, List.setIfInBounds_toArray, List.set_cons_zero, List.set_cons_succ, i64_w, i32_w]
                  rfl
                refine pure_ (i := 1) (N := some 18) (v := ?_) (a' := ?_) #[true, true, false, false, false, false, false, false, false, false] rfl rfl (any_of HT_.out (by kernel_rfl)) (fun _ _ _ h => h) (Or.inl ⟨by rfl, ?_⟩) ?_ ?_
                rotate_left
                · intro w'
                  go_simp
                  with_reducible rfl
                rotate_left
                · simp only [Act.put, List.setIfInBounds_toArray, List.set_cons_zero, List.set_cons_succ, i64_w, i32_w]
                  rfl
                refine pure_ (i := 2) (N := some 19) (v := ?_) (a' := ?_) #[true, true, true, false, false, false, false, false, false, false] rfl rfl (any_of HT_.out (by kernel_rfl)) (fun _ _ _ h => h) (Or.inl ⟨by rfl, ?_⟩) ?_ ?_
                rotate_left
                · intro w'
                  go_simp
                  with_reducible rfl
                rotate_left
                · simp only [Act.put, List.setIfInBounds_toArray, List.set_cons_zero, List.set_cons_succ, i64_w, i32_w]
                  rfl
                refine pure_ (i := 4) (N := some 21) (v := ?_) (a' := ?_) #[true, true, true, false, true, false, false, false, false, false] rfl rfl (any_of HT_.out (by kernel_rfl)) (fun _ _ _ h => h) (Or.inl ⟨by rfl, ?_⟩) ?_ ?_
                rotate_left
                · intro w'
                  go_simp
                  with_reducible rfl
                rotate_left
                · simp only [Act.put, List.setIfInBounds_toArray, List.set_cons_zero, List.set_cons_succ, i64_w, i32_w]
                  rfl
                refine pure_ (i := 5) (N := some 22) (v := ?_) (a' := ?_) #[true, true, true, false, true, true, false, false, false, false] rfl rfl (any_of HT_.out (by kernel_rfl)) (fun _ _ _ h => h) (Or.inl ⟨by rfl, ?_⟩) ?_ ?_
                rotate_left
                · intro w'
                  go_simp
                  with_reducible rfl
                rotate_left
                · simp only [Act.put, List.setIfInBounds_toArray, List.set_cons_zero, List.set_cons_succ, i64_w, i32_w]
                  rfl
                refine pure_ (i := 6) (N := some 23) (v := ?_) (a' := ?_) #[true, true, true, false, true, true, true, false, false, false] rfl rfl (any_of HT_.out (by kernel_rfl)) (fun _ _ _ h => h) (Or.inl ⟨by rfl, ?_⟩) ?_ ?_
                rotate_left
                · intro w'
                  go_simp
                  with_reducible rfl
                rotate_left
                · simp only [Act.put, List.setIfInBounds_toArray, List.set_cons_zero, List.set_cons_succ, i64_w, i32_w]
                  rfl
                refine take_ (i := 3) (N := some 20) (v := ?_) (a' := ?_) #[true, true, true, true, true, true, true, false, false, false] rfl rfl (take_ofW HT_.out HW_.out (by kernel_rfl)) (fun _ _ _ h => h) (Or.inl ⟨by rfl, ?_⟩) hHeld ?_ ?_
                rotate_left
                · rintro w' ⟨s0, s1, s2, s3, s4, s5, s6, s7⟩
                  go_simp
                  with_reducible rfl
                rotate_left
                · simp only [Act.put, List.setIfInBounds_toArray, List.set_cons_zero, List.set_cons_succ, i64_w, i32_w]
                  rfl
                refine take_ (i := 7) (N := some 24) (v := ?_) (a' := ?_) #[true, true, true, true, true, true, true, true, false, false] rfl rfl (take_ofW HT_.out HW_.out (by kernel_rfl)) (fun _ _ _ h => h) (Or.inl ⟨by rfl, ?_⟩) hHeld ?_ ?_
                rotate_left
                · rintro w' ⟨s0, s1, s2, s3, s4, s5, s6, s7⟩
                  go_simp
                  with_reducible rfl
                rotate_left
                · simp only [Act.put, List.setIfInBounds_toArray, List.set_cons_zero, List.set_cons_succ, i64_w, i32_w]
                  rfl
                refine one_ (i := 8) (N := some 25) #[true, true, true, true, true, true, true, true, true, false] rfl rfl (one_of HT_.out (by kernel_rfl)) (by decide) (fun K hK => ?_)
                refine goes_ Try.func13 (by kernel_rfl) rfl #[.agg #[.int .i64 ((rd_T29 l0 x5_1).f0), .int .i64 ((rd_T29 l0 x5_1).f1), .int .i64 ((rd_T29 l0 x5_1).f2), .slice A236_3 ((rd_T29 l0 x5_1).f3).length c236_3], .agg #[.int .i64 ((rd_T29 l1 x5_1).f0), .int .i64 ((rd_T29 l1 x5_1).f1), .int .i64 ((rd_T29 l1 x5_1).f2), .slice A237_3 ((rd_T29 l1 x5_1).f3).length c237_3]] (by rfl) rfl rfl (by (try simp only [List.map_toArray, List.map_cons, List.map_nil]); first | done | rfl | (simp only [List.length_drop, List.length_take]; rfl)) ?_
                with_reducible refine (sextonref22_SameVote.calls k1 ((rd_T29 l0 x5_1).f0) ((rd_T29 l0 x5_1).f1) ((rd_T29 l0 x5_1).f2) _ _ ((rd_T29 l0 x5_1).f3) ((rd_T29 l1 x5_1).f0) ((rd_T29 l1 x5_1).f1) ((rd_T29 l1 x5_1).f2) _ _ ((rd_T29 l1 x5_1).f3) false _ ?side1 ?side2 ?side3 ?side4 A7.out).mono ?_
                (case side1 => repeat (first | exact (Kd.C_below HR236_3.out HB.out) | (with_reducible refine Kd.C_alloc ?_ _) | (with_reducible refine Kd.C_drewN ?_ _) | (with_reducible refine Kd.C_drew ?_)))
                (case side2 => exact HC236_3.out)
                (case side3 => repeat (first | exact (Kd.C_below HR237_3.out HB.out) | (with_reducible refine Kd.C_alloc ?_ _) | (with_reducible refine Kd.C_drewN ?_ _) | (with_reducible refine Kd.C_drew ?_)))
                (case side4 => exact HC237_3.out)
                rintro e w12 ⟨rfl, hb⟩
                refine ⟨_, rfl, ?_⟩
                have n0_ := Aside0.mk (below_step (by repeat (first | (with_reducible first | exact HB.out | apply below_alloc | apply pw_below_drewN | apply below_drew1) | exact HB.out)) hb)
                clear HB
                have HB := n0_
                clear n0_
                (try clear hb)
                (try clear hb2)
                (try clear hk)
                (try clear hi)
                refine hK.out _ _ ⟨((HB.out.cell (World.block_lt_of_cell? w _ hw236_0)).trans hw236_0), ((HB.out.cell (World.block_lt_of_cell? w _ hw236_1)).trans hw236_1), ((HB.out.cell (World.block_lt_of_cell? w _ hw236_2)).trans hw236_2), ((HB.out.cell (World.block_lt_of_cell? w _ hw236_3)).trans hw236_3), ((HB.out.cell (World.block_lt_of_cell? w _ hw237_0)).trans hw237_0), ((HB.out.cell (World.block_lt_of_cell? w _ hw237_1)).trans hw237_1), ((HB.out.cell (World.block_lt_of_cell? w _ hw237_2)).trans hw237_2), ((HB.out.cell (World.block_lt_of_cell? w _ hw237_3)).trans hw237_3)⟩ (fun hHeld => ?_)
                clear hK K
                refine norm_ (a' := ?_) ?_ ?_
                rotate_left
                · show Act.put _ (some 25) _ = _
                  simp only [Act.put, List.setIfInBounds_toArray, List.set_cons_zero, List.set_cons_succ, i64_w, i32_w]
                  rfl
                refine pure_ (i := 9) (N := some 26) (v := ?_) (a' := ?_) #[true, true, true, true, true, true, true, true, true, true] rfl rfl (any_of HT_.out (by kernel_rfl)) (fun _ _ _ h => h) (Or.inl ⟨by rfl, ?_⟩) ?_ ?_
                rotate_left
                · intro w'
                  go_simp
                  with_reducible rfl
                rotate_left
                · simp only [Act.put, List.setIfInBounds_toArray, List.set_cons_zero, List.set_cons_succ, i64_w, i32_w]
                  rfl
                refine done_ (done_of HT_.out (by kernel_rfl)) ?_
                try go_wp2
                go_ret
                exact ⟨by first | rfl | (simp [errW_none, errW_some] <;> rfl) | (simp [*, errW_none, errW_some] <;> rfl), by repeat (first | (with_reducible first | exact HB.out | apply below_alloc | apply pw_below_drewN | apply below_drew1) | exact HB.out)⟩
            · rw [if_neg c6] at H
              exact absurd H (by simp)
          · rw [if_neg c5] at H
            exact absurd H (by simp)
        · rw [if_neg c4] at H
          have c4b0 : decide (x5_1 < (l0.length : Int)) = false := decide_eq_false c4
          clear c4
          obtain rfl := Option.some.inj H
          go_wp2
          go_ret
          exact ⟨by first | rfl | (simp [errW_none, errW_some] <;> rfl) | (simp [*, errW_none, errW_some] <;> rfl), by repeat (first | (with_reducible first | exact HB.out | apply below_alloc | apply pw_below_drewN | apply below_drew1) | exact HB.out)⟩
  · rw [if_neg c3] at H
    have c3b0 : ((l0.length : Int) == (l1.length : Int)) = false := beq_eq_false_iff_ne.mpr c3
    have c3b1 : ((l0.length : Int) != (l1.length : Int)) = true := bne_iff_ne.mpr c3
    have c3b2 : (l0.length == l1.length) = false := by first | simpa using c3 | (simp at c3 ⊢; omega)
    obtain rfl := Option.some.inj H
    go_enter Try.func23, Try.ntmps23
    go_wp2
    go_ret
    exact ⟨by first | rfl | (simp [errW_none, errW_some] <;> rfl) | (simp [*, errW_none, errW_some] <;> rfl), by repeat (first | (with_reducible first | exact HB.out | apply below_alloc | apply pw_below_drewN | apply below_drew1) | exact HB.out)⟩
def sextonref22_Majority.f (a0 : Int) : Option (Int) := if a0 < 1 then (some 0) else (some (wrap64 ((wrap64 (Int.tdiv a0 2)) + 1)))
set_option maxHeartbeats 8000000 in
set_option maxRecDepth 100000 in
theorem sextonref22_Majority.calls (a0 : Int) (r : Int) (w : World) (h : sextonref22_Majority.f a0 = some r) :
    Calls Try.prog 24 #[.int .i64 a0] w fun e w' => e = .returned (.int .i64 r) ∧ Drawn0 w w' := by
  have H : (if a0 < 1 then (some 0) else (some (wrap64 ((wrap64 (Int.tdiv a0 2)) + 1)))) = some r := h
  clear h
  by_cases c2 : a0 < 1
  · rw [if_pos c2] at H
    have c2b0 : decide (a0 < 1) = true := decide_eq_true c2
    clear c2
    obtain rfl := Option.some.inj H
    go_enter Try.func24, Try.ntmps24
    go_wp2
    go_ret
    exact ⟨by first | rfl | (simp; done) | (simp [*]; done), by repeat (first | exact Drawn0.refl _ | apply Drawn0.step)⟩
  · rw [if_neg c2] at H
    have c2b0 : decide (a0 < 1) = false := decide_eq_false c2
    clear c2
    obtain rfl := Option.some.inj H
    go_enter Try.func24, Try.ntmps24
    go_wp2
    go_ret
    exact ⟨by first | rfl | (simp; done) | (simp [*]; done), by repeat (first | exact Drawn0.refl _ | apply Drawn0.step)⟩
mutual
def sextonref22_Enough.l0 : Nat → List (S29) → Int → Int → Int → Option (Bool)
  | 0, _, _, _, _ => none
  | k + 1, x0, x1, x5, x6 => if x6 < (x0.length : Int) then (sextonref22_Enough.l1 k x0 x1 x5 x6 true 0) else ((sextonref22_Majority.f x1).bind fun t239 => (some (decide (x5 ≥ t239))))
def sextonref22_Enough.l1 : Nat → List (S29) → Int → Int → Int → Bool → Int → Option (Bool)
  | 0, _, _, _, _, _, _ => none
  | k + 1, x0, x1, x5, x6, x7, x8 => if x8 < x6 then (if x7 = true then (if 0 ≤ x8 then (if x8 < (x0.length : Int) then (if 0 ≤ x6 then (if x6 < (x0.length : Int) then (sextonref22_Enough.l1 k x0 x1 x5 x6 (((rd_T29 x0 x8).f0) != ((rd_T29 x0 x6).f0)) (wrap64 (x8 + 1))) else (none)) else (none)) else (none)) else (none)) else (sextonref22_Enough.l1 k x0 x1 x5 x6 false (wrap64 (x8 + 1)))) else (if x7 = true then (sextonref22_Enough.l0 k x0 x1 (wrap64 (x5 + 1)) (wrap64 (x6 + 1))) else (sextonref22_Enough.l0 k x0 x1 x5 (wrap64 (x6 + 1))))
end
def sextonref22_Enough.f (k : Nat) (l0 : List (S29)) (a1 : Int) : Option (Bool) := if a1 < 1 then (some false) else (sextonref22_Enough.l0 k l0 a1 0 0)
set_option maxHeartbeats 8000000 in
set_option maxRecDepth 100000 in
theorem sextonref22_Enough.calls (k : Nat) (A0 : Option Addr) (c0 : Nat) (l0 : List (S29)) (a1 : Int) (r : Bool) (w : World) (hr0 : Kd.C k29 w A0 l0.length l0) (hc0 : l0.length ≤ c0) (h : sextonref22_Enough.f k l0 a1 = some r) :
    Calls Try.prog 25 #[.slice A0 l0.length c0, .int .i64 a1] w fun e w' => e = .returned (.bool r) ∧ Drawn0 w w' := by
  have HR0 := Aside0.mk hr0
  have HC0 := Aside0.mk hc0
  clear hr0 hc0
  have H : (if a1 < 1 then (some false) else (sextonref22_Enough.l0 k l0 a1 0 0)) = some r := h
  clear h
  by_cases c3 : a1 < 1
  · rw [if_pos c3] at H
    have c3b0 : decide (a1 < 1) = true := decide_eq_true c3
    clear c3
    obtain rfl := Option.some.inj H
    go_enter Try.func25, Try.ntmps25
    go_wp2
    repeat (go_quiet (fail); try go_wp2)
    go_ret
    exact ⟨by first | rfl | (simp; done) | (simp [*]; done), by repeat (first | exact Drawn0.refl _ | apply Drawn0.step)⟩
  · rw [if_neg c3] at H
    have c3b0 : decide (a1 < 1) = false := decide_eq_false c3
    clear c3
    have H' := Aside0.mk H
    clear H
    go_enter Try.func25, Try.ntmps25
    go_wp2
    repeat (go_quiet (fail); try go_wp2)
    go_loopg [5, 6] k (fun kq v5 v6 w' => ∃ (x5_1 : Int) (x6_1 : Int), v5 = .int .i64 x5_1 ∧ v6 = .int .i64 x6_1 ∧ Aside0 (sextonref22_Enough.l0 kq l0 a1 x5_1 x6_1 = some r) ∧ Aside0 (kq ≤ k) ∧ Drawn0 w w')
    case atStart => exact ⟨(0), (0), (by first | rfl | (simp; done) | (simp [*]; done)), (by first | rfl | (simp; done) | (simp [*]; done)), H', ⟨Nat.le_refl _⟩, by repeat (first | exact Drawn0.refl _ | apply Drawn0.step)⟩
    case round =>
      clear H'
      try clear c2
      try clear p2
      try clear c3
      try clear c3b0
      obtain ⟨x5_1, x6_1, rfl, rfl, HA, HK1, ⟨m1, rfl⟩⟩ := hrel
      cases gk with
      | zero => exact absurd HA.out (by simp [sextonref22_Enough.l0])
      | succ k1 =>
        have H := HA.out
        clear HA
        simp only [sextonref22_Enough.l0] at H
        by_cases c4 : x6_1 < (l0.length : Int)
        · rw [if_pos c4] at H
          have c4b0 : decide (x6_1 < (l0.length : Int)) = true := decide_eq_true c4
          clear c4
          have H' := Aside0.mk H
          clear H
          go_wp2
          repeat (go_quiet (fail); try go_wp2)
          go_loopg [7, 8] k1 (fun kq v7 v8 w' => ∃ (x7_2 : Bool) (x8_2 : Int), v7 = .bool x7_2 ∧ v8 = .int .i64 x8_2 ∧ Aside0 (sextonref22_Enough.l1 kq l0 a1 x5_1 x6_1 x7_2 x8_2 = some r) ∧ Aside0 (kq ≤ k1) ∧ Drawn0 w w')
          case atStart => exact ⟨(true), (0), (by first | rfl | (simp; done) | (simp [*]; done)), (by first | rfl | (simp; done) | (simp [*]; done)), H', ⟨Nat.le_refl _⟩, by repeat (first | exact Drawn0.refl _ | apply Drawn0.step)⟩
          case round =>
            clear H'
            try clear c2
            try clear p2
            try clear c3
            try clear c3b0
            try clear c4
            try clear c4b0
            try clear p2
            obtain ⟨x7_2, x8_2, rfl, rfl, HA, HK2, ⟨m2, rfl⟩⟩ := hrel
            cases gk with
            | zero => exact absurd HA.out (by simp [sextonref22_Enough.l1])
            | succ k2 =>
              have H := HA.out
              clear HA
              simp only [sextonref22_Enough.l1] at H
              by_cases c5 : x8_2 < x6_1
              · rw [if_pos c5] at H
                have c5b0 : decide (x8_2 < x6_1) = true := decide_eq_true c5
                clear c5
                by_cases c6 : x7_2 = true
                · subst c6
                  have H1 : (if 0 ≤ x8_2 then (if x8_2 < (l0.length : Int) then (if 0 ≤ x6_1 then (if x6_1 < (l0.length : Int) then (sextonref22_Enough.l1 k2 l0 a1 x5_1 x6_1 (((rd_T29 l0 x8_2).f0) != ((rd_T29 l0 x6_1).f0)) (wrap64 (x8_2 + 1))) else (none)) else (none)) else (none)) else (none)) = some r := by rw [if_pos rfl] at H; exact H
                  clear H
                  have H := H1
                  clear H1
                  by_cases c7 : 0 ≤ x8_2
                  · rw [if_pos c7] at H
                    have c7b0 : decide (0 ≤ x8_2) = true := decide_eq_true c7
                    clear c7
                    by_cases c8 : x8_2 < (l0.length : Int)
                    · rw [if_pos c8] at H
                      have c8b0 : decide (x8_2 < (l0.length : Int)) = true := decide_eq_true c8
                      clear c8
                      by_cases c9 : 0 ≤ x6_1
                      · rw [if_pos c9] at H
                        have c9b0 : decide (0 ≤ x6_1) = true := decide_eq_true c9
                        clear c9
                        by_cases c10 : x6_1 < (l0.length : Int)
                        · rw [if_pos c10] at H
                          have c10b0 : decide (x6_1 < (l0.length : Int)) = true := decide_eq_true c10
                          clear c10
                          have H' := Aside0.mk H
                          clear H
                          have p240 : 0 ≤ (x8_2 : Int) := of_decide_eq_true (by first | (with_reducible assumption) | assumption)
                          have q240 : x8_2 < (l0.length : Int) := of_decide_eq_true (by first | (with_reducible assumption) | assumption)
                          obtain ⟨ad240, A240_3, c240_3, e240, hx240_0, hx240_1, hx240_2, hx240_3, hl240_3, hi240_3⟩ := at_T29 HR0.out x8_2 p240 q240
                          cases e240
                          have HR240_3 := Aside0.mk hi240_3
                          have HC240_3 := Aside0.mk hl240_3
                          clear hi240_3 hl240_3
                          replace p240 := eq_true p240
                          replace q240 := eq_true q240
                          have p241 : 0 ≤ (x6_1 : Int) := of_decide_eq_true (by first | (with_reducible assumption) | assumption)
                          have q241 : x6_1 < (l0.length : Int) := of_decide_eq_true (by first | (with_reducible assumption) | assumption)
                          obtain ⟨ad241, A241_3, c241_3, e241, hx241_0, hx241_1, hx241_2, hx241_3, hl241_3, hi241_3⟩ := at_T29 HR0.out x6_1 p241 q241
                          obtain rfl : ad240 = ad241 := (by injection e241)
                          have HR241_3 := Aside0.mk hi241_3
                          have HC241_3 := Aside0.mk hl241_3
                          clear hi241_3 hl241_3
                          replace p241 := eq_true p241
                          replace q241 := eq_true q241
                          go_wp2
                          repeat (go_quiet (fail); try go_wp2)
                          go_roundg k2
                          case measure => have := HK1.out; have := HK2.out; omega
                          case rel => exact ⟨((((rd_T29 l0 x8_2).f0) != ((rd_T29 l0 x6_1).f0))), (wrap64 (x8_2 + 1)), (by first | rfl | (simp; done) | (simp [*]; done)), (by first | rfl | (simp; done) | (simp [*]; done)), H', ⟨by have := HK1.out; have := HK2.out; omega⟩, by repeat (first | exact Drawn0.refl _ | apply Drawn0.step)⟩
                        · rw [if_neg c10] at H
                          exact absurd H (by simp)
                      · rw [if_neg c9] at H
                        exact absurd H (by simp)
                    · rw [if_neg c8] at H
                      exact absurd H (by simp)
                  · rw [if_neg c7] at H
                    exact absurd H (by simp)
                · replace c6 := Bool.eq_false_iff.mpr c6
                  subst c6
                  have H1 : (sextonref22_Enough.l1 k2 l0 a1 x5_1 x6_1 false (wrap64 (x8_2 + 1))) = some r := by rw [if_neg (show ¬ (false = true) by decide)] at H; exact H
                  clear H
                  have H := H1
                  clear H1
                  have H' := Aside0.mk H
                  clear H
                  go_wp2
                  repeat (go_quiet (fail); try go_wp2)
                  go_roundg k2
                  case measure => have := HK1.out; have := HK2.out; omega
                  case rel => exact ⟨(false), (wrap64 (x8_2 + 1)), (by first | rfl | (simp; done) | (simp [*]; done)), (by first | rfl | (simp; done) | (simp [*]; done)), H', ⟨by have := HK1.out; have := HK2.out; omega⟩, by repeat (first | exact Drawn0.refl _ | apply Drawn0.step)⟩
              · rw [if_neg c5] at H
                have c5b0 : decide (x8_2 < x6_1) = false := decide_eq_false c5
                clear c5
                by_cases c11 : x7_2 = true
                · subst c11
                  have H1 : (sextonref22_Enough.l0 k2 l0 a1 (wrap64 (x5_1 + 1)) (wrap64 (x6_1 + 1))) = some r := by rw [if_pos rfl] at H; exact H
                  clear H
                  have H := H1
                  clear H1
                  have H' := Aside0.mk H
                  clear H
                  go_wp2
                  repeat (go_quiet (fail); try go_wp2)
                  go_roundg k2
                  case measure => have := HK1.out; have := HK2.out; omega
                  case rel => exact ⟨(wrap64 (x5_1 + 1)), (wrap64 (x6_1 + 1)), (by first | rfl | (simp; done) | (simp [*]; done)), (by first | rfl | (simp; done) | (simp [*]; done)), H', ⟨by have := HK1.out; have := HK2.out; omega⟩, by repeat (first | exact Drawn0.refl _ | apply Drawn0.step)⟩
                · replace c11 := Bool.eq_false_iff.mpr c11
                  subst c11
                  have H1 : (sextonref22_Enough.l0 k2 l0 a1 x5_1 (wrap64 (x6_1 + 1))) = some r := by rw [if_neg (show ¬ (false = true) by decide)] at H; exact H
                  clear H
                  have H := H1
                  clear H1
                  have H' := Aside0.mk H
                  clear H
                  go_wp2
                  repeat (go_quiet (fail); try go_wp2)
                  go_roundg k2
                  case measure => have := HK1.out; have := HK2.out; omega
                  case rel => exact ⟨(x5_1), (wrap64 (x6_1 + 1)), (by first | rfl | (simp; done) | (simp [*]; done)), (by first | rfl | (simp; done) | (simp [*]; done)), H', ⟨by have := HK1.out; have := HK2.out; omega⟩, by repeat (first | exact Drawn0.refl _ | apply Drawn0.step)⟩
        · rw [if_neg c4] at H
          have c4b0 : decide (x6_1 < (l0.length : Int)) = false := decide_eq_false c4
          clear c4
          replace H := Option.bind_eq_some_iff.mp H
          obtain ⟨t239, A120, H⟩ := H
          replace H : (some (decide (x5_1 ≥ t239))) = some r := H
          have A12 := Aside0.mk A120
          clear A120
          obtain rfl := Option.some.inj H
          go_wp2_with (first | (go_at_call 24; (with_reducible refine (sextonref22_Majority.calls a1 t239 _ A12.out).mono ?_); rintro e w' ⟨rfl, ⟨nd, rfl⟩⟩; (try first | exact ⟨rfl, _, World.drewN_drewN _ _ _⟩ | exact ⟨rfl, _, Eq.trans (World.drewN_drewN _ _ _) (congrArg (World.drewN _) (Nat.add_assoc _ _ _))⟩)))
          repeat (go_quiet (first | (go_at_call 24; (with_reducible refine (sextonref22_Majority.calls a1 t239 _ A12.out).mono ?_); rintro e w' ⟨rfl, ⟨nd, rfl⟩⟩; (try first | exact ⟨rfl, _, World.drewN_drewN _ _ _⟩ | exact ⟨rfl, _, Eq.trans (World.drewN_drewN _ _ _) (congrArg (World.drewN _) (Nat.add_assoc _ _ _))⟩))); try go_wp2_with (first | (go_at_call 24; (with_reducible refine (sextonref22_Majority.calls a1 t239 _ A12.out).mono ?_); rintro e w' ⟨rfl, ⟨nd, rfl⟩⟩; (try first | exact ⟨rfl, _, World.drewN_drewN _ _ _⟩ | exact ⟨rfl, _, Eq.trans (World.drewN_drewN _ _ _) (congrArg (World.drewN _) (Nat.add_assoc _ _ _))⟩))))
          go_ret
          exact ⟨by first | rfl | (simp; done) | (simp [*]; done), by repeat (first | exact Drawn0.refl _ | apply Drawn0.step)⟩
end Go.Proofs.Ytgphefohdbgokaa.P
end
section
namespace Go.Proofs.Ytgphefohdbgokaa.P
open Go.RowKit Go.Proofs.YtgphefohdbgokaaW.PrintWords Go.Proofs.YtgphefohdbgokaaW.PrintLast Go.Proofs.YtgphefohdbgokaaW.PrintMore
attribute [local go_sem] max2_int min2_int max_two min_two max_three min_three max_four min_four   -- for this text's walks alone
set_option linter.unusedVariables false
set_option linter.unusedSimpArgs false
mutual
def sextonref22_Commit.l0 : Nat → List Int → Int → Int → Option (Int)
  | 0, _, _, _ => none
  | k + 1, x0, x3, x4 => if x4 < (x0.length : Int) then (sextonref22_Commit.l1 k x0 x3 x4 0 0) else (some x3)
def sextonref22_Commit.l1 : Nat → List Int → Int → Int → Int → Int → Option (Int)
  | 0, _, _, _, _, _ => none
  | k + 1, x0, x3, x4, x5, x6 => if x6 < (x0.length : Int) then (if 0 ≤ x6 then (if 0 ≤ x4 then (if x4 < (x0.length : Int) then (if (rd x0 x6) ≥ (rd x0 x4) then (sextonref22_Commit.l1 k x0 x3 x4 (wrap64 (x5 + 1)) (wrap64 (x6 + 1))) else (sextonref22_Commit.l1 k x0 x3 x4 x5 (wrap64 (x6 + 1)))) else (none)) else (none)) else (none)) else ((sextonref22_Majority.f (x0.length : Int)).bind fun t244 => (if x5 ≥ t244 then (if 0 ≤ x4 then (if x4 < (x0.length : Int) then (sextonref22_Commit.l0 k x0 (mx x3 (rd x0 x4)) (wrap64 (x4 + 1))) else (none)) else (none)) else (sextonref22_Commit.l0 k x0 x3 (wrap64 (x4 + 1)))))
end
def sextonref22_Commit.f (k : Nat) (l0 : List Int) : Option (Int) := sextonref22_Commit.l0 k l0 0 0
set_option maxHeartbeats 8000000 in
set_option maxRecDepth 100000 in
theorem sextonref22_Commit.calls (k : Nat) (A0 : Option Addr) (c0 : Nat) (l0 : List Int) (r : Int) (w : World) (hr0 : Kd.C (Kd.int .i64) w A0 l0.length l0) (hc0 : l0.length ≤ c0) (h : sextonref22_Commit.f k l0 = some r) :
    Calls Try.prog 26 #[.slice A0 l0.length c0] w fun e w' => e = .returned (.int .i64 r) ∧ Below w.heap.size w w' := by
  have HR0 := Aside0.mk hr0
  have HC0 := Aside0.mk hc0
  clear hr0 hc0
  have HB := Aside0.mk (Below.refl w.heap.size w)
  have H : (sextonref22_Commit.l0 k l0 0 0) = some r := h
  clear h
  have H' := Aside0.mk H
  clear H
  go_enter Try.func26, Try.ntmps26
  go_wp2
  repeat (go_quiet (fail); try go_wp2)
  go_loopg [3, 4] k (fun kq v3 v4 w' => ∃ (x3_1 : Int) (x4_1 : Int), v3 = .int .i64 x3_1 ∧ v4 = .int .i64 x4_1 ∧ Aside0 (sextonref22_Commit.l0 kq l0 x3_1 x4_1 = some r) ∧ Aside0 (kq ≤ k) ∧ Aside0 (Below w.heap.size w w'))
  case atStart => exact ⟨(0), (0), (by first | rfl | (simp; done) | (simp [*]; done)), (by first | rfl | (simp; done) | (simp [*]; done)), H', ⟨Nat.le_refl _⟩, ⟨by repeat (first | (with_reducible first | exact HB.out | apply below_alloc | apply pw_below_drewN | apply below_drew1) | exact HB.out)⟩⟩
  case round =>
    clear H'
    obtain ⟨x3_1, x4_1, rfl, rfl, HA, HK1, HB⟩ := hrel
    cases gk with
    | zero => exact absurd HA.out (by simp [sextonref22_Commit.l0])
    | succ k1 =>
      have H := HA.out
      clear HA
      simp only [sextonref22_Commit.l0] at H
      by_cases c2 : x4_1 < (l0.length : Int)
      · rw [if_pos c2] at H
        have c2b0 : decide (x4_1 < (l0.length : Int)) = true := decide_eq_true c2
        clear c2
        have H' := Aside0.mk H
        clear H
        go_wp2
        repeat (go_quiet (fail); try go_wp2)
        go_loopg [5, 6] k1 (fun kq v5 v6 w' => ∃ (x5_2 : Int) (x6_2 : Int), v5 = .int .i64 x5_2 ∧ v6 = .int .i64 x6_2 ∧ Aside0 (sextonref22_Commit.l1 kq l0 x3_1 x4_1 x5_2 x6_2 = some r) ∧ Aside0 (kq ≤ k1) ∧ Aside0 (Below w.heap.size w w'))
        case atStart => exact ⟨(0), (0), (by first | rfl | (simp; done) | (simp [*]; done)), (by first | rfl | (simp; done) | (simp [*]; done)), H', ⟨Nat.le_refl _⟩, ⟨by repeat (first | (with_reducible first | exact HB.out | apply below_alloc | apply pw_below_drewN | apply below_drew1) | exact HB.out)⟩⟩
        case round =>
          clear H'
          try clear c2
          try clear c2b0
          try clear p2
          obtain ⟨x5_2, x6_2, rfl, rfl, HA, HK2, HB⟩ := hrel
          cases gk with
          | zero => exact absurd HA.out (by simp [sextonref22_Commit.l1])
          | succ k2 =>
            have H := HA.out
            clear HA
            simp only [sextonref22_Commit.l1] at H
            by_cases c3 : x6_2 < (l0.length : Int)
            · rw [if_pos c3] at H
              have c3b0 : decide (x6_2 < (l0.length : Int)) = true := decide_eq_true c3
              clear c3
              by_cases c4 : 0 ≤ x6_2
              · rw [if_pos c4] at H
                have c4b0 : decide (0 ≤ x6_2) = true := decide_eq_true c4
                clear c4
                by_cases c5 : 0 ≤ x4_1
                · rw [if_pos c5] at H
                  have c5b0 : decide (0 ≤ x4_1) = true := decide_eq_true c5
                  clear c5
                  by_cases c6 : x4_1 < (l0.length : Int)
                  · rw [if_pos c6] at H
                    have c6b0 : decide (x4_1 < (l0.length : Int)) = true := decide_eq_true c6
                    clear c6
                    by_cases c7 : (rd l0 x6_2) ≥ (rd l0 x4_1)
                    · rw [if_pos c7] at H
                      have c7b0 : decide ((rd l0 x4_1) ≤ (rd l0 x6_2)) = true := decide_eq_true c7
                      clear c7
                      have H' := Aside0.mk H
                      clear H
                      have p242 : 0 ≤ (x6_2 : Int) := of_decide_eq_true (by first | (with_reducible assumption) | assumption)
                      have q242 : x6_2 < (l0.length : Int) := of_decide_eq_true (by first | (with_reducible assumption) | assumption)
                      obtain ⟨ad242, e242, hx242_0⟩ := Kd.at_int HR0.out x6_2 p242 q242
                      cases e242
                      replace hx242_0 := (HB.out.cell (World.block_lt_of_cell? w _ hx242_0)).trans hx242_0
                      replace p242 := eq_true p242
                      replace q242 := eq_true q242
                      have p243 : 0 ≤ (x4_1 : Int) := of_decide_eq_true (by first | (with_reducible assumption) | assumption)
                      have q243 : x4_1 < (l0.length : Int) := of_decide_eq_true (by first | (with_reducible assumption) | assumption)
                      obtain ⟨ad243, e243, hx243_0⟩ := Kd.at_int HR0.out x4_1 p243 q243
                      obtain rfl : ad242 = ad243 := (by injection e243)
                      replace hx243_0 := (HB.out.cell (World.block_lt_of_cell? w _ hx243_0)).trans hx243_0
                      replace p243 := eq_true p243
                      replace q243 := eq_true q243
                      go_wp2
                      repeat (go_quiet (fail); try go_wp2)
                      go_roundg k2
                      case measure => have := HK1.out; have := HK2.out; omega
                      case rel => exact ⟨(wrap64 (x5_2 + 1)), (wrap64 (x6_2 + 1)), (by first | rfl | (simp; done) | (simp [*]; done)), (by first | rfl | (simp; done) | (simp [*]; done)), H', ⟨by have := HK1.out; have := HK2.out; omega⟩, ⟨by repeat (first | (with_reducible first | exact HB.out | apply below_alloc | apply pw_below_drewN | apply below_drew1) | exact HB.out)⟩⟩
                    · rw [if_neg c7] at H
                      have c7b0 : decide ((rd l0 x4_1) ≤ (rd l0 x6_2)) = false := decide_eq_false c7
                      clear c7
                      have H' := Aside0.mk H
                      clear H
                      have p242 : 0 ≤ (x6_2 : Int) := of_decide_eq_true (by first | (with_reducible assumption) | assumption)
                      have q242 : x6_2 < (l0.length : Int) := of_decide_eq_true (by first | (with_reducible assumption) | assumption)
                      obtain ⟨ad242, e242, hx242_0⟩ := Kd.at_int HR0.out x6_2 p242 q242
                      cases e242
                      replace hx242_0 := (HB.out.cell (World.block_lt_of_cell? w _ hx242_0)).trans hx242_0
                      replace p242 := eq_true p242
                      replace q242 := eq_true q242
                      have p243 : 0 ≤ (x4_1 : Int) := of_decide_eq_true (by first | (with_reducible assumption) | assumption)
                      have q243 : x4_1 < (l0.length : Int) := of_decide_eq_true (by first | (with_reducible assumption) | assumption)
                      obtain ⟨ad243, e243, hx243_0⟩ := Kd.at_int HR0.out x4_1 p243 q243
                      obtain rfl : ad242 = ad243 := (by injection e243)
                      replace hx243_0 := (HB.out.cell (World.block_lt_of_cell? w _ hx243_0)).trans hx243_0
                      replace p243 := eq_true p243
                      replace q243 := eq_true q243
                      go_wp2
                      repeat (go_quiet (fail); try go_wp2)
                      go_roundg k2
                      case measure => have := HK1.out; have := HK2.out; omega
                      case rel => exact ⟨(x5_2), (wrap64 (x6_2 + 1)), (by first | rfl | (simp; done) | (simp [*]; done)), (by first | rfl | (simp; done) | (simp [*]; done)), H', ⟨by have := HK1.out; have := HK2.out; omega⟩, ⟨by repeat (first | (with_reducible first | exact HB.out | apply below_alloc | apply pw_below_drewN | apply below_drew1) | exact HB.out)⟩⟩
                  · rw [if_neg c6] at H
                    exact absurd H (by simp)
                · rw [if_neg c5] at H
                  exact absurd H (by simp)
              · rw [if_neg c4] at H
                exact absurd H (by simp)
            · rw [if_neg c3] at H
              have c3b0 : decide (x6_2 < (l0.length : Int)) = false := decide_eq_false c3
              clear c3
              replace H := Option.bind_eq_some_iff.mp H
              obtain ⟨t244, A80, H⟩ := H
              replace H : (if x5_2 ≥ t244 then (if 0 ≤ x4_1 then (if x4_1 < (l0.length : Int) then (sextonref22_Commit.l0 k2 l0 (mx x3_1 (rd l0 x4_1)) (wrap64 (x4_1 + 1))) else (none)) else (none)) else (sextonref22_Commit.l0 k2 l0 x3_1 (wrap64 (x4_1 + 1)))) = some r := H
              have A8 := Aside0.mk A80
              clear A80
              by_cases c9 : x5_2 ≥ t244
              · rw [if_pos c9] at H
                have c9b0 : decide (t244 ≤ x5_2) = true := decide_eq_true c9
                clear c9
                by_cases c10 : 0 ≤ x4_1
                · rw [if_pos c10] at H
                  have c10b0 : decide (0 ≤ x4_1) = true := decide_eq_true c10
                  clear c10
                  by_cases c11 : x4_1 < (l0.length : Int)
                  · rw [if_pos c11] at H
                    have c11b0 : decide (x4_1 < (l0.length : Int)) = true := decide_eq_true c11
                    clear c11
                    obtain ⟨ji12, hji12⟩ : ∃ j_ : Int, (mx x3_1 (rd l0 x4_1)) = j_ := ⟨_, rfl⟩
                    replace H : (sextonref22_Commit.l0 k2 l0 ji12 (wrap64 (x4_1 + 1))) = some r := by first | (rw [hji12] at H; exact H) | (simp only [hji12] at H ⊢; exact H)
                    (try rw [hji12] at A8)
                    have hji12_ : (if x3_1 < (rd l0 x4_1) then (rd l0 x4_1) else x3_1) = ji12 := hji12
                    have H' := Aside0.mk H
                    clear H
                    go_wp2_with (first | (go_at_call 24; (with_reducible refine (sextonref22_Majority.calls (l0.length : Int) t244 _ A8.out).mono ?_); rintro e w' ⟨rfl, ⟨nd, rfl⟩⟩; (try first | exact ⟨rfl, _, World.drewN_drewN _ _ _⟩ | exact ⟨rfl, _, Eq.trans (World.drewN_drewN _ _ _) (congrArg (World.drewN _) (Nat.add_assoc _ _ _))⟩); have p245 : 0 ≤ (x4_1 : Int) := of_decide_eq_true (by first | (with_reducible assumption) | assumption); have q245 : x4_1 < (l0.length : Int) := of_decide_eq_true (by first | (with_reducible assumption) | assumption); obtain ⟨ad245, e245, hx245_0⟩ := Kd.at_int HR0.out x4_1 p245 q245; cases e245; replace hx245_0 := (HB.out.cell (World.block_lt_of_cell? w _ hx245_0)).trans hx245_0; replace p245 := eq_true p245; replace q245 := eq_true q245))
                    repeat (go_quiet (first | (go_at_call 24; (with_reducible refine (sextonref22_Majority.calls (l0.length : Int) t244 _ A8.out).mono ?_); rintro e w' ⟨rfl, ⟨nd, rfl⟩⟩; (try first | exact ⟨rfl, _, World.drewN_drewN _ _ _⟩ | exact ⟨rfl, _, Eq.trans (World.drewN_drewN _ _ _) (congrArg (World.drewN _) (Nat.add_assoc _ _ _))⟩); have p245 : 0 ≤ (x4_1 : Int) := of_decide_eq_true (by first | (with_reducible assumption) | assumption); have q245 : x4_1 < (l0.length : Int) := of_decide_eq_true (by first | (with_reducible assumption) | assumption); obtain ⟨ad245, e245, hx245_0⟩ := Kd.at_int HR0.out x4_1 p245 q245; cases e245; replace hx245_0 := (HB.out.cell (World.block_lt_of_cell? w _ hx245_0)).trans hx245_0; replace p245 := eq_true p245; replace q245 := eq_true q245)); try go_wp2_with (first | (go_at_call 24; (with_reducible refine (sextonref22_Majority.calls (l0.length : Int) t244 _ A8.out).mono ?_); rintro e w' ⟨rfl, ⟨nd, rfl⟩⟩; (try first | exact ⟨rfl, _, World.drewN_drewN _ _ _⟩ | exact ⟨rfl, _, Eq.trans (World.drewN_drewN _ _ _) (congrArg (World.drewN _) (Nat.add_assoc _ _ _))⟩); have p245 : 0 ≤ (x4_1 : Int) := of_decide_eq_true (by first | (with_reducible assumption) | assumption); have q245 : x4_1 < (l0.length : Int) := of_decide_eq_true (by first | (with_reducible assumption) | assumption); obtain ⟨ad245, e245, hx245_0⟩ := Kd.at_int HR0.out x4_1 p245 q245; cases e245; replace hx245_0 := (HB.out.cell (World.block_lt_of_cell? w _ hx245_0)).trans hx245_0; replace p245 := eq_true p245; replace q245 := eq_true q245)))
                    go_roundg k2
                    case measure => have := HK1.out; have := HK2.out; omega
                    case rel => exact ⟨(ji12), (wrap64 (x4_1 + 1)), (by first | rfl | (simp; done) | (simp only [← hji12] <;> (first | rfl | simp)) | (simp [*]; done)), (by first | rfl | (simp; done) | (simp [*]; done)), H', ⟨by have := HK1.out; have := HK2.out; omega⟩, ⟨by repeat (first | (with_reducible first | exact HB.out | apply below_alloc | apply pw_below_drewN | apply below_drew1) | exact HB.out)⟩⟩
                  · rw [if_neg c11] at H
                    exact absurd H (by simp)
                · rw [if_neg c10] at H
                  exact absurd H (by simp)
              · rw [if_neg c9] at H
                have c9b0 : decide (t244 ≤ x5_2) = false := decide_eq_false c9
                clear c9
                have H' := Aside0.mk H
                clear H
                go_wp2_with (first | (go_at_call 24; (with_reducible refine (sextonref22_Majority.calls (l0.length : Int) t244 _ A8.out).mono ?_); rintro e w' ⟨rfl, ⟨nd, rfl⟩⟩; (try first | exact ⟨rfl, _, World.drewN_drewN _ _ _⟩ | exact ⟨rfl, _, Eq.trans (World.drewN_drewN _ _ _) (congrArg (World.drewN _) (Nat.add_assoc _ _ _))⟩)))
                repeat (go_quiet (first | (go_at_call 24; (with_reducible refine (sextonref22_Majority.calls (l0.length : Int) t244 _ A8.out).mono ?_); rintro e w' ⟨rfl, ⟨nd, rfl⟩⟩; (try first | exact ⟨rfl, _, World.drewN_drewN _ _ _⟩ | exact ⟨rfl, _, Eq.trans (World.drewN_drewN _ _ _) (congrArg (World.drewN _) (Nat.add_assoc _ _ _))⟩))); try go_wp2_with (first | (go_at_call 24; (with_reducible refine (sextonref22_Majority.calls (l0.length : Int) t244 _ A8.out).mono ?_); rintro e w' ⟨rfl, ⟨nd, rfl⟩⟩; (try first | exact ⟨rfl, _, World.drewN_drewN _ _ _⟩ | exact ⟨rfl, _, Eq.trans (World.drewN_drewN _ _ _) (congrArg (World.drewN _) (Nat.add_assoc _ _ _))⟩))))
                go_roundg k2
                case measure => have := HK1.out; have := HK2.out; omega
                case rel => exact ⟨(x3_1), (wrap64 (x4_1 + 1)), (by first | rfl | (simp; done) | (simp [*]; done)), (by first | rfl | (simp; done) | (simp [*]; done)), H', ⟨by have := HK1.out; have := HK2.out; omega⟩, ⟨by repeat (first | (with_reducible first | exact HB.out | apply below_alloc | apply pw_below_drewN | apply below_drew1) | exact HB.out)⟩⟩
      · rw [if_neg c2] at H
        have c2b0 : decide (x4_1 < (l0.length : Int)) = false := decide_eq_false c2
        clear c2
        obtain rfl := Option.some.inj H
        go_wp2
        repeat (go_quiet (fail); try go_wp2)
        go_ret
        exact ⟨by first | rfl | (simp [errW_none, errW_some] <;> rfl) | (simp [*, errW_none, errW_some] <;> rfl), by repeat (first | (with_reducible first | exact HB.out | apply below_alloc | apply pw_below_drewN | apply below_drew1) | exact HB.out)⟩
def sextonlaw22_smudge.l0 : Nat → List ByteArray → Int → Option (List ByteArray)
  | 0, _, _ => none
  | k + 1, x0, x2 => if x2 < (x0.length : Int) then (if 0 ≤ x2 then (sextonlaw22_smudge.l0 k (x0.set (x2 : Int).toNat (⟨#[115, 109, 117, 100, 103, 101]⟩ : ByteArray)) (wrap64 (x2 + 1))) else (none)) else (some x0)
def sextonlaw22_smudge.f (k : Nat) (l0 : List ByteArray) : Option (List ByteArray) := sextonlaw22_smudge.l0 k l0 0
set_option maxHeartbeats 8000000 in
set_option maxRecDepth 100000 in
theorem sextonlaw22_smudge.calls (k : Nat) (P0_ : Nat → Prop) (u9000_ : Value) (l0 : List ByteArray) (r : List ByteArray) (w0 w : World) (hB : Below w0.heap.size w0 w) (ho0 : Kd.R Kd.string 9 w w0.heap.size P0_ u9000_ l0) (h : sextonlaw22_smudge.f k l0 = some r) :
    Calls Try.prog 27 #[u9000_] w fun e w' => e = .returned (.tuple #[]) ∧ Kd.R Kd.string 9 w' w0.heap.size (fun k_ => (P0_ k_ ∨ w.heap.size ≤ k_)) u9000_ r ∧ Below w0.heap.size w0 w' ∧ Kept w w' (fun k_ => P0_ k_) := by
  have HO0 := Aside0.mk (show Kd.R Kd.string 9 w w0.heap.size (fun k_ => (P0_ k_ ∨ w.heap.size ≤ k_)) u9000_ l0 from Kd.R_mono ho0 (fun k_ hk => (.inl hk)))
  have HK := Aside0.mk (Kept.refl w (fun k_ => P0_ k_))
  have HW0 := Aside0.mk hB.size
  have HB := Aside0.mk hB
  clear hB
  have H : (sextonlaw22_smudge.l0 k l0 0) = some r := h
  clear h
  have H' := Aside0.mk H
  clear H
  go_enter Try.func27, Try.ntmps27
  go_wp2
  go_loopg [2] k (fun kq v2 w' => ∃ (x0_1 : List ByteArray) (x2_1 : Int), v2 = .int .i64 x2_1 ∧ Aside0 (sextonlaw22_smudge.l0 kq x0_1 x2_1 = some r) ∧ Aside0 (kq ≤ k) ∧ Aside0 (Kd.R Kd.string 9 w' w0.heap.size (fun k_ => (P0_ k_ ∨ w.heap.size ≤ k_)) u9000_ x0_1) ∧ Aside0 (Kept w w' (fun k_ => P0_ k_)) ∧ Aside0 (Below w0.heap.size w0 w'))
  case atStart => exact ⟨(l0), (0), (by first | rfl | (simp; done) | (simp [*]; done)), H', ⟨Nat.le_refl _⟩, ⟨by (with_reducible repeat (first | apply Kd.R_alloc | apply Kd.R_drewN | apply Kd.R_drew)); exact HO0.out⟩, ⟨by repeat (first | (with_reducible first | exact HK.out | apply Kept.alloc | apply Kept.drewN | apply Kept.drew) | exact HK.out)⟩, ⟨by repeat (first | (with_reducible first | exact HB.out | apply below_alloc | apply pw_below_drewN | apply below_drew1) | exact HB.out)⟩⟩
  case round =>
    clear H'
    obtain ⟨x0_1, x2_1, rfl, HA, HK1, HO_0, HK, HB⟩ := hrel
    cases gk with
    | zero => exact absurd HA.out (by simp [sextonlaw22_smudge.l0])
    | succ k1 =>
      have H := HA.out
      clear HA
      simp only [sextonlaw22_smudge.l0] at H
      by_cases c2 : x2_1 < (x0_1.length : Int)
      · rw [if_pos c2] at H
        have c2b0 : decide (x2_1 < (x0_1.length : Int)) = true := decide_eq_true c2
        clear c2
        by_cases c3 : 0 ≤ x2_1
        · rw [if_pos c3] at H
          have c3b0 : decide (0 ≤ x2_1) = true := decide_eq_true c3
          clear c3
          obtain ⟨y246, hy246⟩ : ∃ y_ : List ByteArray, y_ = (x0_1.set (x2_1 : Int).toNat (⟨#[115, 109, 117, 100, 103, 101]⟩ : ByteArray)) := ⟨_, rfl⟩
          replace H : (sextonlaw22_smudge.l0 k1 y246 (wrap64 (x2_1 + 1))) = some r := by first | (rw [hy246]; with_reducible exact H) | (have H2_ := (Option.bind_some _ _).symm.trans H; rw [hy246]; with_reducible exact H2_) | (have H2_ := (Option.bind_some _ _).symm.trans H; with_reducible exact H2_) | with_reducible exact H | (rw [hy246]; exact H) | exact H
          have Ny246 := Aside0.mk hy246
          clear hy246
          have H' := Aside0.mk H
          clear H
          obtain ⟨Ao5, co5, eo5⟩ := Kd.R_slice HO_0.out
          subst eo5
          have p4 : 0 ≤ (x2_1 : Int) := of_decide_eq_true (by first | (with_reducible assumption) | assumption)
          have q4 : (x2_1 : Int) < ((x0_1.length : Int) : Int) := of_decide_eq_true (by first | (with_reducible assumption) | assumption)
          obtain ⟨go4, co4, eo4, gb4, gl4, cl4, HG4⟩ := Kd.R_form HO_0.out (by omega)
          (first | cases eo4 | (injection eo4 with ea_ en_ ec_; (first | subst ea_ | (injection ea_ with ea_; subst ea_)); subst ec_; clear en_))
          have GB4 := Aside0.mk gb4
          have GG4 := Aside0.mk HG4
          clear gb4 gl4 HG4
          have HMgo4 := Aside0.mk (show (P0_ go4 ∨ w.heap.size ≤ go4) from (HO_0.out.1 _ rfl))
          obtain ⟨hx4_0, hf4_0⟩ := Kd.R_celln (⟨#[]⟩ : ByteArray) HO_0.out (x2_1 : Int) p4 q4
          replace p4 := eq_true p4
          replace q4 := eq_true q4
          have HP6 := Kd.R_putg HO_0.out (x2_1 : Int) (⟨#[115, 109, 117, 100, 103, 101]⟩ : ByteArray)
          go_wp2_with (first | ((with_reducible refine gate_store (t := 9) (p := 11) rfl ?_); refine store_event (t := 9) (p := 11) (v := ?vo_w7) (w1 := (wr.setCell ⟨go4, (x2_1 : Int).toNat, none⟩ (.string (⟨#[115, 109, 117, 100, 103, 101]⟩ : ByteArray)))) ?hg ?ho ?hn ?hr ?_; (case ho => rfl); (case hg => rfl); (case hn => rfl); (case hr => first | (go_simp; done) | (go_simp; rfl)); intro w7 hw; have hg : wr.grownBy w7 (some go4) := (by rw [hw]; exact HP6.2); have hp_ : Kd.R Kd.string 9 w7 w0.heap.size (fun k_ => (P0_ k_ ∨ w.heap.size ≤ k_)) (.slice (some ⟨go4, 0, none⟩) x0_1.length co5) y246 := (by rw [hw, Ny246.out]; exact HP6.1); clear HP6; have n0_ := Aside0.mk (hp_); have n1_ := Aside0.mk ((by rw [hw]; exact below_set (HB.out) GB4.out : Below w0.heap.size w0 w7)); have n2_ := Aside0.mk (Kept.of_grown (S := (fun k_ => P0_ k_)) hg (by repeat (first | (with_reducible first | exact HK.out | apply Kept.alloc | apply Kept.drewN | apply Kept.drew) | exact HK.out)) (fun k_ e_ => (HO_0.out.1 k_ e_))); clear HO_0; clear HB; clear HK; have HO_0 := n0_; have HB := n1_; have HK := n2_; clear n0_ n1_ n2_; clear hg hw hp_))
          go_roundg k1
          case measure => have := HK1.out; omega
          case rel => exact ⟨(y246), (wrap64 (x2_1 + 1)), (by first | rfl | (simp; done) | (simp [*]; done)), H', ⟨by have := HK1.out; omega⟩, ⟨by (with_reducible repeat (first | apply Kd.R_alloc | apply Kd.R_drewN | apply Kd.R_drew)); exact HO_0.out⟩, ⟨by repeat (first | (with_reducible first | exact HK.out | apply Kept.alloc | apply Kept.drewN | apply Kept.drew) | exact HK.out)⟩, ⟨by repeat (first | (with_reducible first | exact HB.out | apply below_alloc | apply pw_below_drewN | apply below_drew1) | exact HB.out)⟩⟩
        · rw [if_neg c3] at H
          exact absurd H (by simp)
      · rw [if_neg c2] at H
        have c2b0 : decide (x2_1 < (x0_1.length : Int)) = false := decide_eq_false c2
        clear c2
        obtain rfl := Option.some.inj H
        obtain ⟨Ao8, co8, eo8⟩ := Kd.R_slice HO_0.out
        subst eo8
        go_wp2
        first | go_end0 | ((try simp only [Exit.inBlock, Exit.then]); refine bodyPost_ret (results_none rfl _ _ _) rfl ?_)
        exact ⟨by first | rfl | (simp [errW_none, errW_some] <;> rfl) | (simp [*, errW_none, errW_some] <;> rfl), by (with_reducible repeat (first | apply Kd.R_alloc | apply Kd.R_drewN | apply Kd.R_drew)); exact HO_0.out, by repeat (first | (with_reducible first | exact HB.out | apply below_alloc | apply pw_below_drewN | apply below_drew1) | exact HB.out), by repeat (first | (with_reducible first | exact HK.out | apply Kept.alloc | apply Kept.drewN | apply Kept.drew) | exact HK.out)⟩
def sextonref01_Ints.l0 : Nat → List Int → List Int → Int → Option (Bool)
  | 0, _, _, _ => none
  | k + 1, x0, x1, x5 => if x5 < (x0.length : Int) then (if 0 ≤ x5 then (if x5 < (x1.length : Int) then (if (rd x0 x5) = (rd x1 x5) then (sextonref01_Ints.l0 k x0 x1 (wrap64 (x5 + 1))) else (some false)) else (none)) else (none)) else (some true)
def sextonref01_Ints.f (k : Nat) (l0 : List Int) (l1 : List Int) : Option (Bool) := if (l0.length : Int) = (l1.length : Int) then (sextonref01_Ints.l0 k l0 l1 0) else (some false)
set_option maxHeartbeats 8000000 in
set_option maxRecDepth 100000 in
theorem sextonref01_Ints.calls (k : Nat) (A0 : Option Addr) (c0 : Nat) (l0 : List Int) (A1 : Option Addr) (c1 : Nat) (l1 : List Int) (r : Bool) (w : World) (hr0 : Kd.C (Kd.int .i64) w A0 l0.length l0) (hc0 : l0.length ≤ c0) (hr1 : Kd.C (Kd.int .i64) w A1 l1.length l1) (hc1 : l1.length ≤ c1) (h : sextonref01_Ints.f k l0 l1 = some r) :
    Calls Try.prog 28 #[.slice A0 l0.length c0, .slice A1 l1.length c1] w fun e w' => e = .returned (.bool r) ∧ Drawn0 w w' := by
  have HR0 := Aside0.mk hr0
  have HC0 := Aside0.mk hc0
  clear hr0 hc0
  have HR1 := Aside0.mk hr1
  have HC1 := Aside0.mk hc1
  clear hr1 hc1
  have H : (if (l0.length : Int) = (l1.length : Int) then (sextonref01_Ints.l0 k l0 l1 0) else (some false)) = some r := h
  clear h
  by_cases c3 : (l0.length : Int) = (l1.length : Int)
  · rw [if_pos c3] at H
    have c3b0 : ((l0.length : Int) == (l1.length : Int)) = true := beq_iff_eq.mpr c3
    have c3b1 : ((l0.length : Int) != (l1.length : Int)) = false := bne_eq_false_iff_eq.mpr c3
    have c3b2 : (l0.length == l1.length) = true := by first | simpa using c3 | (simp at c3 ⊢; omega)
    clear c3
    have H' := Aside0.mk H
    clear H
    go_enter Try.func28, Try.ntmps28
    go_wp2
    repeat (go_quiet (fail); try go_wp2)
    go_loopg [5] k (fun kq v5 w' => ∃ (x5_1 : Int), v5 = .int .i64 x5_1 ∧ Aside0 (sextonref01_Ints.l0 kq l0 l1 x5_1 = some r) ∧ Aside0 (kq ≤ k) ∧ Drawn0 w w')
    case atStart => exact ⟨(0), (by first | rfl | (simp; done) | (simp [*]; done)), H', ⟨Nat.le_refl _⟩, by repeat (first | exact Drawn0.refl _ | apply Drawn0.step)⟩
    case round =>
      clear H'
      try clear c1
      try clear c2
      try clear p2
      try clear c3
      try clear c3b0
      try clear c3b1
      try clear c3b2
      obtain ⟨x5_1, rfl, HA, HK1, ⟨m1, rfl⟩⟩ := hrel
      cases gk with
      | zero => exact absurd HA.out (by simp [sextonref01_Ints.l0])
      | succ k1 =>
        have H := HA.out
        clear HA
        simp only [sextonref01_Ints.l0] at H
        by_cases c4 : x5_1 < (l0.length : Int)
        · rw [if_pos c4] at H
          have c4b0 : decide (x5_1 < (l0.length : Int)) = true := decide_eq_true c4
          clear c4
          by_cases c5 : 0 ≤ x5_1
          · rw [if_pos c5] at H
            have c5b0 : decide (0 ≤ x5_1) = true := decide_eq_true c5
            clear c5
            by_cases c6 : x5_1 < (l1.length : Int)
            · rw [if_pos c6] at H
              have c6b0 : decide (x5_1 < (l1.length : Int)) = true := decide_eq_true c6
              clear c6
              by_cases c7 : (rd l0 x5_1) = (rd l1 x5_1)
              · rw [if_pos c7] at H
                have c7b0 : ((rd l0 x5_1) == (rd l1 x5_1)) = true := beq_iff_eq.mpr c7
                have c7b1 : ((rd l0 x5_1) != (rd l1 x5_1)) = false := bne_eq_false_iff_eq.mpr c7
                clear c7
                have H' := Aside0.mk H
                clear H
                have p247 : 0 ≤ (x5_1 : Int) := of_decide_eq_true (by first | (with_reducible assumption) | assumption)
                have q247 : x5_1 < (l0.length : Int) := of_decide_eq_true (by first | (with_reducible assumption) | assumption)
                obtain ⟨ad247, e247, hx247_0⟩ := Kd.at_int HR0.out x5_1 p247 q247
                cases e247
                replace p247 := eq_true p247
                replace q247 := eq_true q247
                have p248 : 0 ≤ (x5_1 : Int) := of_decide_eq_true (by first | (with_reducible assumption) | assumption)
                have q248 : x5_1 < (l1.length : Int) := of_decide_eq_true (by first | (with_reducible assumption) | assumption)
                obtain ⟨ad248, e248, hx248_0⟩ := Kd.at_int HR1.out x5_1 p248 q248
                cases e248
                replace p248 := eq_true p248
                replace q248 := eq_true q248
                go_wp2
                repeat (go_quiet (fail); try go_wp2)
                go_roundg k1
                case measure => have := HK1.out; omega
                case rel => exact ⟨(wrap64 (x5_1 + 1)), (by first | rfl | (simp; done) | (simp [*]; done)), H', ⟨by have := HK1.out; omega⟩, by repeat (first | exact Drawn0.refl _ | apply Drawn0.step)⟩
              · rw [if_neg c7] at H
                have c7b0 : ((rd l0 x5_1) == (rd l1 x5_1)) = false := beq_eq_false_iff_ne.mpr c7
                have c7b1 : ((rd l0 x5_1) != (rd l1 x5_1)) = true := bne_iff_ne.mpr c7
                obtain rfl := Option.some.inj H
                have p247 : 0 ≤ (x5_1 : Int) := of_decide_eq_true (by first | (with_reducible assumption) | assumption)
                have q247 : x5_1 < (l0.length : Int) := of_decide_eq_true (by first | (with_reducible assumption) | assumption)
                obtain ⟨ad247, e247, hx247_0⟩ := Kd.at_int HR0.out x5_1 p247 q247
                cases e247
                replace p247 := eq_true p247
                replace q247 := eq_true q247
                have p248 : 0 ≤ (x5_1 : Int) := of_decide_eq_true (by first | (with_reducible assumption) | assumption)
                have q248 : x5_1 < (l1.length : Int) := of_decide_eq_true (by first | (with_reducible assumption) | assumption)
                obtain ⟨ad248, e248, hx248_0⟩ := Kd.at_int HR1.out x5_1 p248 q248
                cases e248
                replace p248 := eq_true p248
                replace q248 := eq_true q248
                go_wp2
                repeat (go_quiet (fail); try go_wp2)
                go_ret
                exact ⟨by first | rfl | (simp; done) | (simp [*]; done), by repeat (first | exact Drawn0.refl _ | apply Drawn0.step)⟩
            · rw [if_neg c6] at H
              exact absurd H (by simp)
          · rw [if_neg c5] at H
            exact absurd H (by simp)
        · rw [if_neg c4] at H
          have c4b0 : decide (x5_1 < (l0.length : Int)) = false := decide_eq_false c4
          clear c4
          obtain rfl := Option.some.inj H
          go_wp2
          repeat (go_quiet (fail); try go_wp2)
          go_ret
          exact ⟨by first | rfl | (simp; done) | (simp [*]; done), by repeat (first | exact Drawn0.refl _ | apply Drawn0.step)⟩
  · rw [if_neg c3] at H
    have c3b0 : ((l0.length : Int) == (l1.length : Int)) = false := beq_eq_false_iff_ne.mpr c3
    have c3b1 : ((l0.length : Int) != (l1.length : Int)) = true := bne_iff_ne.mpr c3
    have c3b2 : (l0.length == l1.length) = false := by first | simpa using c3 | (simp at c3 ⊢; omega)
    obtain rfl := Option.some.inj H
    go_enter Try.func28, Try.ntmps28
    go_wp2
    repeat (go_quiet (fail); try go_wp2)
    go_ret
    exact ⟨by first | rfl | (simp; done) | (simp [*]; done), by repeat (first | exact Drawn0.refl _ | apply Drawn0.step)⟩
end Go.Proofs.Ytgphefohdbgokaa.P
end
section
namespace Go.Proofs.Ytgphefohdbgokaa.P
open Go.RowKit Go.Proofs.YtgphefohdbgokaaW.PrintWords Go.Proofs.YtgphefohdbgokaaW.PrintLast Go.Proofs.YtgphefohdbgokaaW.PrintMore
set_option linter.unusedVariables false
set_option linter.unusedSimpArgs false
def Stays (W : World) (F : World → Prop) : Prop := ∀ W' : World, (∀ k, k < W.heap.size → W'.heap[k]? = W.heap[k]?) → F W'
theorem Stays.here {W : World} {F : World → Prop} (h : Stays W F) : F W := h W (fun _ _ => rfl)
theorem Stays.below {W W1 : World} {F : World → Prop} (h : Stays W F) (hb : Below W.heap.size W W1) : Stays W1 F := fun W' hm => h W' (fun k hk => (hm k (Nat.lt_of_lt_of_le hk hb.size)).trans (hb.block k hk))
theorem Stays.alloc {W : World} {F : World → Prop} (h : Stays W F) (o : Obj) : Stays (W.alloc o) F := h.below (below_alloc (Below.refl _ _) o)
theorem Stays.blk {W : World} {g : Nat} {o : Obj} (h : W.heap[g]? = some o) : Stays W (fun W' => W'.heap[g]? = some o) := fun W' hm => (hm g (blk_lt h)).trans h
theorem Stays.rows {α : Type} {d : Kd α} {e base : Nat} {ok : Nat → Prop} {W : World} {v : Value} {xs : List α} (h : Kd.S d e W base ok v xs) : Stays W (fun W' => Kd.S d e W' base ok v xs) := fun W' hm => Kd.S_step h (fun k _ hk => hm k hk)
def SmX (N : Nat) (W : World) (ad : Addr) (f : Nat → Nat) (n : Nat) : Prop := ∀ i : Nat, i < n → ∃ (A : Option Addr) (c : Nat) (r : List ByteArray), W.cell? ⟨(ad.add (i * 4)).block, (ad.add (i * 4)).off + 3, none⟩ = some (.slice A r.length c) ∧ r.length ≤ 1000 ∧ Kd.R Kd.string 9 W N (fun k => k ≠ ad.block ∧ f k = i) (.slice A r.length c) r ∧ ad.block < W.heap.size
theorem add_block (ad : Addr) (m : Nat) : (ad.add m).block = ad.block := by unfold Addr.add; split <;> rfl
theorem SmX.smudged {N : Nat} {W W1 : World} {ad : Addr} {f : Nat → Nat} {n : Nat} (h : SmX N W ad f n) {i : Nat} (hi : i < n) {A : Option Addr} {c : Nat} {r r1 : List ByteArray} (hc : W.cell? ⟨(ad.add (i * 4)).block, (ad.add (i * 4)).off + 3, none⟩ = some (.slice A r.length c)) (hl : r.length ≤ 1000) (hr : Kd.R Kd.string 9 W N (fun k => k ≠ ad.block ∧ f k = i) (.slice A r.length c) r)
    (h1 : Kd.R Kd.string 9 W1 N (fun k => (k ≠ ad.block ∧ f k = i) ∨ W.heap.size ≤ k) (.slice A r.length c) r1) (hn : r1.length = r.length) (hk : Kept W W1 (fun k => k ≠ ad.block ∧ f k = i)) : SmX N W1 ad f n := by
  intro j hj
  have hcell : ∀ o : Nat, ad.block < W.heap.size → W1.cell? ⟨ad.block, o, none⟩ = W.cell? ⟨ad.block, o, none⟩ := fun o hlt => World.cell?_of_block (a := ⟨ad.block, o, none⟩) (hk.2 _ hlt (fun hq => hq.1 rfl))
  by_cases he : j = i
  · subst he
    obtain ⟨_, _, _, _, _, _, hlt⟩ := h j hj
    refine ⟨A, c, r1, ?_, by omega, ?_, by have := hk.1; omega⟩
    · rw [add_block] at hc ⊢
      rw [hcell _ hlt, hc, hn]
    · rw [hn]
      exact Kd.R_reok rfl h1 (fun k hk' => hr.1 k hk')
  · obtain ⟨A', c', r', g1, g2, g3, g4⟩ := h j hj
    refine ⟨A', c', r', ?_, g2, Kd.R_step g3 (fun k hk1 hk2 => hk.2 k hk2 (fun hq => he (hk1.2.symm.trans hq.2))), by have := hk.1; omega⟩
    rw [add_block] at g1 ⊢
    rw [hcell _ g4, g1]
theorem SmX.of {N : Nat} {W : World} {ok : Nat → Prop} {ad : Addr} {cap : Nat} {xs : List S29} (h : Kd.S k29 29 W N ok (.slice (some ad) xs.length cap) xs) (hl : ∀ v, v ∈ xs → v.f3.length ≤ 1000) : ∃ f, SmX N W ad f xs.length := by
  obtain ⟨f, hf⟩ := h
  refine ⟨f, fun i hi => ?_⟩
  obtain ⟨g, rfl⟩ := Kd.R_head hf
  obtain ⟨c, hcl, hM, hcc⟩ := Kd.R_getA hf (z29, 0) (i : Int) (by omega) (by rw [show (xs.length : Nat) = xs.length from rfl]; omega)
  have e : xs.zipIdx.getD i (z29, 0) = (xs[i], i) := by
    rw [List.getD_eq_getElem?_getD, List.getElem?_zipIdx, List.getElem?_eq_getElem hi]
    simp
  rw [Int.toNat_natCast, e] at hM
  have hM2 : k29.M W N (fun k => (ok k ∧ some k ≠ (Value.slice (some ⟨g, 0, none⟩) xs.length cap).ownBlock) ∧ f k = i) xs[i] c := hM
  obtain ⟨v3, rfl, hR⟩ := k29_openM hM2
  obtain ⟨A, c3, rfl⟩ := Kd.R_slice hR
  refine ⟨A, c3, xs[i].f3, ?_, hl _ (List.getElem_mem hi), Kd.R_mono hR (fun k hk => ⟨fun e1 => hk.1.2 (by rw [e1]; simp [Value.ownBlock]), hk.2⟩), Kd.R_lt hf g (by simp [Value.ownBlock])⟩
  have h3 := hcc 3 _ rfl
  rw [Int.toNat_natCast] at h3
  have h4 : W.cell? ((⟨g, 0, none⟩ : Addr).add (i * 4 + 3)) = some (.slice A xs[i].f3.length c3) := h3
  rw [add_field _ _ 3 (by omega)] at h4
  exact h4
theorem SmX.ex {N : Nat} {W : World} {ok : Nat → Prop} {A : Option Addr} {cap : Nat} {xs : List S29} (h : Kd.S k29 29 W N ok (.slice A xs.length cap) xs) (hl : ∀ v, v ∈ xs → v.f3.length ≤ 1000) : ∃ ad f, (0 < xs.length → A = some ad) ∧ SmX N W ad f xs.length := by
  by_cases h0 : 0 < xs.length
  · obtain ⟨g, c, he, _⟩ := Kd.S_form h h0
    injection he with ha _ _
    subst ha
    obtain ⟨f, hf⟩ := SmX.of h hl
    exact ⟨_, f, fun _ => rfl, hf⟩
  · exact ⟨⟨0, 0, none⟩, fun _ => 0, fun hq => absurd hq h0, fun i hi => absurd hi (by omega)⟩
theorem one_C {W : World} {g : Nat} {x : S29} {A : Option Addr} {c : Nat} (h : W.heap[g]? = some (.cells #[.int .i64 x.f0, .int .i64 x.f1, .int .i64 x.f2, .slice A x.f3.length c] 29 (0, 0))) (l : x.f3.length ≤ c) (hC : Kd.C Kd.string W A x.f3.length x.f3) : Kd.C k29 W (some ⟨g, 0, none⟩) 1 [x] := by
  refine ⟨rfl, by omega, fun _ => ⟨⟨g, 0, none⟩, rfl, fun j p hj => ?_⟩⟩
  obtain ⟨rfl, rfl⟩ : j = 0 ∧ x = p := by
    cases j with
    | zero => simpa using hj
    | succ j => simp at hj
  refine ⟨_, rfl, k29_mk W x l hC, fun i u hu => ?_⟩
  have e : ∀ i, (⟨g, 0, none⟩ : Addr).add (0 * 4 + i) = ⟨g, i, none⟩ := fun i => by rw [add_at, Nat.zero_mul, Nat.zero_add, Nat.zero_add]
  have e2 : (⟨g, 0, none⟩ : Addr).add (0 * k29.sz + i) = ⟨g, i, none⟩ := e i
  rw [e2, blk_cell h i]
  rw [← hu]
  simp
end Go.Proofs.Ytgphefohdbgokaa.P
end
section
namespace Go.Proofs.Ytgphefohdbgokaa.P
open Go.RowKit Go.Proofs.YtgphefohdbgokaaW.PrintWords Go.Proofs.YtgphefohdbgokaaW.PrintLast Go.Proofs.YtgphefohdbgokaaW.PrintMore
attribute [local go_sem] max2_int min2_int max_two min_two max_three min_three max_four min_four
set_option linter.unusedVariables false
set_option linter.unusedSimpArgs false
set_option maxHeartbeats 8000000 in
set_option maxRecDepth 100000 in
theorem tells_far1 (view n : Int) (l : List S29) (v : S29) (acks : List Int) (A2 A3 A4 : Option Addr) (c2 c3 c4 : Nat) (w : World) (h2 : Kd.C k29 w A2 l.length l) (l2 : l.length ≤ c2) (K : Nat) (hb1 : sextonref22_Big.f K l = some true) :
    Calls Try.prog 7 #[.int .i64 view, .int .i64 n, .slice A2 l.length c2, .agg #[.int .i64 v.f0, .int .i64 v.f1, .int .i64 v.f2, .slice A3 v.f3.length c3], .slice A4 acks.length c4] w fun e w' => e = .returned (.bool true) ∧ Below w.heap.size w w' := by
  have hu29 := Try.underlying29
  have H := Aside0.mk (fun (W : World) (hb : Below w.heap.size w W) => sextonref22_Big.calls K A2 c2 l true W (Kd.C_below h2 hb) l2 hb1)
  clear h2 l2 hb1
  go_enter Try.func7, Try.ntmps7
  go_wp2_with (go_at_call 11; refine (H.out _ (below_alloc (Below.refl w.heap.size w) _)).mono ?_; rintro e w1 ⟨rfl, hb⟩; have HB := Aside0.mk (below_step (below_alloc (Below.refl w.heap.size w) _) hb.below); clear hb)
  go_ret
  exact ⟨rfl, HB.out⟩
set_option maxHeartbeats 8000000 in
set_option maxRecDepth 100000 in
theorem tells_far2 (view n : Int) (l : List S29) (v : S29) (acks : List Int) (A2 A3 A4 : Option Addr) (c2 c3 c4 : Nat) (w : World) (h2 : Kd.C k29 w A2 l.length l) (l2 : l.length ≤ c2) (h3 : Kd.C Kd.string w A3 v.f3.length v.f3) (l3 : v.f3.length ≤ c3) (K : Nat) (hb1 : sextonref22_Big.f K l = some false) (hb2 : sextonref22_Big.f K [v] = some true) :
    Calls Try.prog 7 #[.int .i64 view, .int .i64 n, .slice A2 l.length c2, .agg #[.int .i64 v.f0, .int .i64 v.f1, .int .i64 v.f2, .slice A3 v.f3.length c3], .slice A4 acks.length c4] w fun e w' => e = .returned (.bool true) ∧ Below w.heap.size w w' := by
  have hu26 := Try.underlying26
  have hu29 := Try.underlying29
  have hu33 := Try.underlying33
  have H := Aside0.mk (fun (W : World) (hb : Below w.heap.size w W) => sextonref22_Big.calls K A2 c2 l false W (Kd.C_below h2 hb) l2 hb1)
  have H3 := Aside0.mk h3
  have L3 := Aside0.mk l3
  have HB2 := Aside0.mk hb2
  clear h2 l2 hb1 h3 l3 hb2
  go_enter Try.func7, Try.ntmps7
  go_wp2_with (fail)
  go_at_call 11
  refine (H.out _ (below_alloc (Below.refl w.heap.size w) _)).mono ?_
  rintro e w1 ⟨rfl, hb⟩
  have HB := Aside0.mk (below_step (below_alloc (Below.refl w.heap.size w) _) hb.below)
  have HV := Aside0.mk ((hb.below.block _ (blk_lt (x_alloc_new w (.cells #[.int .i64 v.f0, .int .i64 v.f1, .int .i64 v.f2, .slice A3 v.f3.length c3] 29)))).trans (x_alloc_new w _))
  have p0 : w1.cell? ⟨w.heap.size, 0, none⟩ = some (.int .i64 v.f0) := blk_cell HV.out 0
  have p1 : w1.cell? ⟨w.heap.size, 1, none⟩ = some (.int .i64 v.f1) := blk_cell HV.out 1
  have p2 : w1.cell? ⟨w.heap.size, 2, none⟩ = some (.int .i64 v.f2) := blk_cell HV.out 2
  have p3 : w1.cell? ⟨w.heap.size, 3, none⟩ = some (.slice A3 v.f3.length c3) := blk_cell HV.out 3
  clear hb
  go_wp2_with (fail)
  go_at_call 11
  refine (sextonref22_Big.calls K (some ⟨w1.heap.size, 0, none⟩) 1 [v] true _ (one_C (x_alloc_new w1 (.cells #[.int .i64 v.f0, .int .i64 v.f1, .int .i64 v.f2, .slice A3 v.f3.length c3] 29)) L3.out (Kd.C_below H3.out (below_alloc HB.out _))) (Nat.le_refl 1) HB2.out).mono ?_
  rintro e w2 ⟨rfl, hb⟩
  clear p0 p1 p2 p3
  replace HV := Aside0.mk ((hb.below.block _ (blk_lt ((Stays.alloc (Stays.blk HV.out) (.cells #[.int .i64 v.f0, .int .i64 v.f1, .int .i64 v.f2, .slice A3 v.f3.length c3] 29)).here))).trans (Stays.alloc (Stays.blk HV.out) (.cells #[.int .i64 v.f0, .int .i64 v.f1, .int .i64 v.f2, .slice A3 v.f3.length c3] 29)).here)
  replace HB := Aside0.mk (below_step (below_alloc HB.out _) hb.below)
  clear hb
  go_wp2_with (fail)
  go_ret
  exact ⟨rfl, HB.out⟩
set_option maxHeartbeats 8000000 in
set_option maxRecDepth 100000 in
theorem tells_far3 (view n : Int) (l : List S29) (v : S29) (acks : List Int) (A2 A3 A4 : Option Addr) (c2 c3 c4 : Nat) (w : World) (h2 : Kd.C k29 w A2 l.length l) (l2 : l.length ≤ c2) (h3 : Kd.C Kd.string w A3 v.f3.length v.f3) (l3 : v.f3.length ≤ c3) (K : Nat) (hb1 : sextonref22_Big.f K l = some false) (hb2 : sextonref22_Big.f K [v] = some false) (h60 : decide ((acks.length : Int) > 60) = true) :
    Calls Try.prog 7 #[.int .i64 view, .int .i64 n, .slice A2 l.length c2, .agg #[.int .i64 v.f0, .int .i64 v.f1, .int .i64 v.f2, .slice A3 v.f3.length c3], .slice A4 acks.length c4] w fun e w' => e = .returned (.bool true) ∧ Below w.heap.size w w' := by
  have hu26 := Try.underlying26
  have hu29 := Try.underlying29
  have hu33 := Try.underlying33
  have H := Aside0.mk (fun (W : World) (hb : Below w.heap.size w W) => sextonref22_Big.calls K A2 c2 l false W (Kd.C_below h2 hb) l2 hb1)
  have H3 := Aside0.mk h3
  have L3 := Aside0.mk l3
  have HB2 := Aside0.mk hb2
  clear h2 l2 hb1 h3 l3 hb2
  go_enter Try.func7, Try.ntmps7
  go_wp2_with (fail)
  go_at_call 11
  refine (H.out _ (below_alloc (Below.refl w.heap.size w) _)).mono ?_
  rintro e w1 ⟨rfl, hb⟩
  have HB := Aside0.mk (below_step (below_alloc (Below.refl w.heap.size w) _) hb.below)
  have HV := Aside0.mk ((hb.below.block _ (blk_lt (x_alloc_new w (.cells #[.int .i64 v.f0, .int .i64 v.f1, .int .i64 v.f2, .slice A3 v.f3.length c3] 29)))).trans (x_alloc_new w _))
  have p0 : w1.cell? ⟨w.heap.size, 0, none⟩ = some (.int .i64 v.f0) := blk_cell HV.out 0
  have p1 : w1.cell? ⟨w.heap.size, 1, none⟩ = some (.int .i64 v.f1) := blk_cell HV.out 1
  have p2 : w1.cell? ⟨w.heap.size, 2, none⟩ = some (.int .i64 v.f2) := blk_cell HV.out 2
  have p3 : w1.cell? ⟨w.heap.size, 3, none⟩ = some (.slice A3 v.f3.length c3) := blk_cell HV.out 3
  clear hb
  go_wp2_with (fail)
  go_at_call 11
  refine (sextonref22_Big.calls K (some ⟨w1.heap.size, 0, none⟩) 1 [v] false _ (one_C (x_alloc_new w1 (.cells #[.int .i64 v.f0, .int .i64 v.f1, .int .i64 v.f2, .slice A3 v.f3.length c3] 29)) L3.out (Kd.C_below H3.out (below_alloc HB.out _))) (Nat.le_refl 1) HB2.out).mono ?_
  rintro e w2 ⟨rfl, hb⟩
  clear p0 p1 p2 p3
  replace HV := Aside0.mk ((hb.below.block _ (blk_lt ((Stays.alloc (Stays.blk HV.out) (.cells #[.int .i64 v.f0, .int .i64 v.f1, .int .i64 v.f2, .slice A3 v.f3.length c3] 29)).here))).trans (Stays.alloc (Stays.blk HV.out) (.cells #[.int .i64 v.f0, .int .i64 v.f1, .int .i64 v.f2, .slice A3 v.f3.length c3] 29)).here)
  replace HB := Aside0.mk (below_step (below_alloc HB.out _) hb.below)
  clear hb
  go_wp2_with (fail)
  go_ret
  exact ⟨rfl, HB.out⟩
end Go.Proofs.Ytgphefohdbgokaa.P
end
section
namespace Go.Proofs.Ytgphefohdbgokaa.P
open Go.RowKit Go.Proofs.YtgphefohdbgokaaW.PrintWords Go.Proofs.YtgphefohdbgokaaW.PrintLast Go.Proofs.YtgphefohdbgokaaW.PrintMore
attribute [local go_sem] max2_int min2_int max_two min_two max_three min_three max_four min_four
set_option linter.unusedVariables false
set_option linter.unusedSimpArgs false
set_option maxHeartbeats 8000000 in
set_option maxRecDepth 100000 in
theorem tells_main (view n : Int) (l : List S29) (v : S29) (acks : List Int) (A2 A3 A4 : Option Addr) (c2 c3 c4 : Nat) (w : World) (h2 : Kd.C k29 w A2 l.length l) (l2 : l.length ≤ c2) (h3 : Kd.C Kd.string w A3 v.f3.length v.f3) (l3 : v.f3.length ≤ c3) (h4 : Kd.C (Kd.int .i64) w A4 acks.length acks) (l4 : acks.length ≤ c4) (K : Nat) (hb1 : sextonref22_Big.f K l = some false) (hb2 : sextonref22_Big.f K [v] = some false) (h60 : decide ((acks.length : Int) > 60) = false) (h60' : acks.length ≤ 60)
    (hown : sextonref22_Own.f K l = some l) (q1 : Int) (q2 : Bool) (hp1 : quorum_Primary.f view n = some (q1, q2)) (hp2 : sextonref22_Primary.f view n = some (q1, q2))
    (r1 r2 r3 : Int) (r4 : List ByteArray) (r5 : Bool) (hs1 : quorum_Best.f l = some (r1, r2, r3, r4, r5)) (hs2 : sextonref22_Best.f K l = some (r1, r2, r3, r4, r5)) (hr4 : r4.length ≤ 1000)
    (xs : List S29) (ha1 : quorum_Add.f K l v.f0 v.f1 v.f2 v.f3 = some xs) (ha2 : sextonref22_Add.f K l v.f0 v.f1 v.f2 v.f3 = some xs) (hxl : xs.length ≤ 1000) (hx3 : ∀ y, y ∈ xs → y.f3.length ≤ 1000)
    (hv1 : sextonref22_SameVote.f K r1 r2 r3 r4 r1 r2 r3 r4 = some true) (hx1 : sextonref22_Same.f K xs xs = some true) (m : Int) (hm1 : quorum_Majority.f n = some m) (hm2 : sextonref22_Majority.f n = some m)
    (eb : Bool) (he1 : quorum_Enough.f l n = some eb) (he2 : sextonref22_Enough.f K l n = some eb) (cm : Int) (hc1 : quorum_Commit.f acks = some cm) (hc2 : sextonref22_Commit.f K acks = some cm)
    (hsm : ∀ r : List ByteArray, r.length ≤ 1000 → ∃ r', sextonlaw22_smudge.f K r = some r' ∧ r'.length = r.length) (hmost : sextonlaw22_most.f K = some true) (hint : sextonref01_Ints.f K acks acks = some true) (hll : sextonref22_Same.f K l l = some true) :
    Calls Try.prog 7 #[.int .i64 view, .int .i64 n, .slice A2 l.length c2, .agg #[.int .i64 v.f0, .int .i64 v.f1, .int .i64 v.f2, .slice A3 v.f3.length c3], .slice A4 acks.length c4] w fun e w' => e = .returned (.bool true) ∧ Below w.heap.size w w' := by
  have hu26 := Try.underlying26
  have hu29 := Try.underlying29
  have hu33 := Try.underlying33
  have H := Aside0.mk (fun (W : World) (hb : Below w.heap.size w W) => sextonref22_Big.calls K A2 c2 l false W (Kd.C_below h2 hb) l2 hb1)
  have H2 := Aside0.mk h2
  have L2 := Aside0.mk l2
  have H3 := Aside0.mk h3
  have L3 := Aside0.mk l3
  have H4 := Aside0.mk h4
  have L4 := Aside0.mk l4
  have HB2 := Aside0.mk hb2
  have H60 := Aside0.mk h60'
  have HOWN := Aside0.mk hown
  have HP1 := Aside0.mk hp1
  have HP2 := Aside0.mk hp2
  have HS1 := Aside0.mk hs1
  have HS2 := Aside0.mk hs2
  have HR4 := Aside0.mk hr4
  have HA1 := Aside0.mk ha1
  have HA2 := Aside0.mk ha2
  have HXL := Aside0.mk hxl
  have HX3 := Aside0.mk hx3
  have HV1 := Aside0.mk hv1
  have HX1 := Aside0.mk hx1
  have HM1 := Aside0.mk hm1
  have HM2 := Aside0.mk hm2
  have HE1 := Aside0.mk he1
  have HE2 := Aside0.mk he2
  have HC1 := Aside0.mk hc1
  have HC2 := Aside0.mk hc2
  have HSM := Aside0.mk hsm
  have HMOST := Aside0.mk hmost
  have HINT := Aside0.mk hint
  have HLL := Aside0.mk hll
  clear hb1 h2 l2 h3 l3 h4 l4 hb2 h60' hown hp1 hp2 hs1 hs2 hr4 ha1 ha2 hxl hx3 hv1 hx1 hm1 hm2 he1 he2 hc1 hc2 hsm hmost hint hll
  go_enter Try.func7, Try.ntmps7
  go_wp2_with (fail)
  go_at_call 11
  refine (H.out _ (below_alloc (Below.refl w.heap.size w) _)).mono ?_
  rintro e w1 ⟨rfl, hb⟩
  have HB := Aside0.mk (below_step (below_alloc (Below.refl w.heap.size w) _) hb.below)
  have HV := Aside0.mk ((hb.below.block _ (blk_lt (x_alloc_new w (.cells #[.int .i64 v.f0, .int .i64 v.f1, .int .i64 v.f2, .slice A3 v.f3.length c3] 29)))).trans (x_alloc_new w _))
  have p0 : w1.cell? ⟨w.heap.size, 0, none⟩ = some (.int .i64 v.f0) := blk_cell HV.out 0
  have p1 : w1.cell? ⟨w.heap.size, 1, none⟩ = some (.int .i64 v.f1) := blk_cell HV.out 1
  have p2 : w1.cell? ⟨w.heap.size, 2, none⟩ = some (.int .i64 v.f2) := blk_cell HV.out 2
  have p3 : w1.cell? ⟨w.heap.size, 3, none⟩ = some (.slice A3 v.f3.length c3) := blk_cell HV.out 3
  clear hb
  go_wp2_with (fail)
  go_at_call 11
  refine (sextonref22_Big.calls K (some ⟨w1.heap.size, 0, none⟩) 1 [v] false _ (one_C (x_alloc_new w1 (.cells #[.int .i64 v.f0, .int .i64 v.f1, .int .i64 v.f2, .slice A3 v.f3.length c3] 29)) L3.out (Kd.C_below H3.out (below_alloc HB.out _))) (Nat.le_refl 1) HB2.out).mono ?_
  rintro e w2 ⟨rfl, hb⟩
  clear p0 p1 p2 p3
  replace HV := Aside0.mk ((hb.below.block _ (blk_lt ((Stays.alloc (Stays.blk HV.out) (.cells #[.int .i64 v.f0, .int .i64 v.f1, .int .i64 v.f2, .slice A3 v.f3.length c3] 29)).here))).trans (Stays.alloc (Stays.blk HV.out) (.cells #[.int .i64 v.f0, .int .i64 v.f1, .int .i64 v.f2, .slice A3 v.f3.length c3] 29)).here)
  replace HB := Aside0.mk (below_step (below_alloc HB.out _) hb.below)
  clear hb
  go_wp2_with (fail)
  go_at_call 17
  refine (sextonref22_Own.calls K A2 c2 l l w2 (Kd.C_below H2.out HB.out) L2.out HOWN.out).mono ?_
  rintro e w3 ⟨vo, rfl, hS, hb⟩
  obtain ⟨Ao, co, rfl, lo, hO⟩ := Kd.S_reads hS
  have HO := Aside0.mk hO
  have LO := Aside0.mk lo
  clear hS hO lo
  replace HV := Aside0.mk ((hb.block _ (blk_lt HV.out)).trans HV.out)
  replace HB := Aside0.mk (below_step HB.out hb)
  clear hb
  go_wp2_with (first | ((with_reducible refine gate_builtin (b := .append) (xs := #[.tmp 39, .tmp 40]) rfl ?_); at_builtin; refine Kd.R_append_rows (Kd.int .i64) (w0 := w3) w3.heap.size rfl (.tmp 39) (.tmp 40) 33 3 (.int .i64 0) 8 rfl hu33 info3 rfl (by decide) (by omega) (.slice none 0 0) ([] : List Int) acks _ _ _ (fun _ => True) (fun _ => False) rfl rfl ?aO ?aR (fun _ _ h => h) (fun _ h => h.elim) ?aF ?aB ?aS ?aL ?_; (case aR => exact Kd.C_below H4.out HB.out); (case aB => exact Below.refl _ _); (case aF => exact (fun _ _ => trivial)); (case aO => exact ((Kd.R_nil _ _ _ _ (fun _ => True)))); (case aS => exact Nat.le_refl _); (case aL => have := H60.out; simp; omega); intro vk V hk hb hg hat; rw [List.nil_append] at hk; obtain ⟨Ak, ck, rfl, lk, hKC⟩ := Kd.R_reads hk; have HKC := Aside0.mk hKC; have LK := Aside0.mk lk; clear hKC lk hk hg hat; replace HO := Aside0.mk (Kd.C_below HO.out hb); replace HV := Aside0.mk ((hb.block _ (blk_lt HV.out)).trans HV.out); replace HB := Aside0.mk (below_step HB.out hb); clear hb))
  replace H2 := Aside0.mk (Kd.C_below H2.out HB.out)
  replace H3 := Aside0.mk (Kd.C_below H3.out HB.out)
  replace H4 := Aside0.mk (Kd.C_below H4.out HB.out)
  have HN := Aside0.mk (Below.refl V.heap.size V)
  go_at_call 18
  refine (quorum_Primary.calls view n q1 q2 V HP1.out).mono ?_
  rintro e w4 ⟨rfl, hb⟩
  replace HN := Aside0.mk (below_step HN.out hb.below)
  clear hb
  go_wp2_with (fail)
  go_at_call 19
  refine (sextonref22_Primary.calls view n q1 q2 w4 HP2.out).mono ?_
  rintro e w5 ⟨rfl, hb⟩
  replace HN := Aside0.mk (below_step HN.out hb.below)
  clear hb
  go_wp2_with (fail)
  go_at_call 12
  refine (quorum_Best.calls A2 c2 l r1 r2 r3 r4 r5 w5 (Kd.C_below H2.out HN.out) L2.out HS1.out).mono ?_
  rintro e w6 ⟨vc, rfl, hR, hb⟩
  obtain ⟨Ac, cc, rfl⟩ := Kd.R_slice hR
  have HRc := Aside0.mk (Kd.R_lower hR HN.out.size)
  replace HN := Aside0.mk (below_step HN.out hb)
  clear hR hb
  go_wp2_with (fail)
  replace HRc := Aside0.mk (Kd.R_below HRc.out (below_alloc (Below.refl w6.heap.size w6) (.cells #[.int .i64 r1, .int .i64 r2, .int .i64 r3, .slice Ac r4.length cc] 29)))
  replace HN := Aside0.mk (below_alloc HN.out (.cells #[.int .i64 r1, .int .i64 r2, .int .i64 r3, .slice Ac r4.length cc] 29))
  have HCb := Aside0.mk (x_alloc_new w6 (.cells #[.int .i64 r1, .int .i64 r2, .int .i64 r3, .slice Ac r4.length cc] 29))
  generalize w6.alloc (.cells #[.int .i64 r1, .int .i64 r2, .int .i64 r3, .slice Ac r4.length cc] 29) = W6 at HRc HCb HN ⊢
  generalize w6.heap.size = gc at HCb ⊢
  go_at_call 20
  refine (sextonref22_Best.calls K Ao co l r1 r2 r3 r4 r5 W6 (Kd.C_below HO.out HN.out) LO.out HS2.out).mono ?_
  rintro e w7 ⟨ve, rfl, hR, hb⟩
  obtain ⟨Ae, ce, rfl, le, hCe⟩ := Kd.R_reads hR
  replace HRc := Aside0.mk (Kd.R_below HRc.out hb)
  replace HCb := Aside0.mk ((hb.block _ (blk_lt HCb.out)).trans HCb.out)
  replace HN := Aside0.mk (below_step HN.out hb)
  have HEc := Aside0.mk hCe
  have LE := Aside0.mk le
  clear hR hCe le hb
  replace HRc := Aside0.mk (Kd.R_below HRc.out (below_alloc (Below.refl w7.heap.size w7) (.cells #[.int .i64 r1, .int .i64 r2, .int .i64 r3, .slice Ae r4.length ce] 29)))
  replace HCb := Aside0.mk (((below_alloc (Below.refl w7.heap.size w7) (.cells #[.int .i64 r1, .int .i64 r2, .int .i64 r3, .slice Ae r4.length ce] 29)).block _ (blk_lt HCb.out)).trans HCb.out)
  replace HEc := Aside0.mk (Kd.C_below HEc.out (below_alloc (Below.refl w7.heap.size w7) (.cells #[.int .i64 r1, .int .i64 r2, .int .i64 r3, .slice Ae r4.length ce] 29)))
  replace HN := Aside0.mk (below_alloc HN.out (.cells #[.int .i64 r1, .int .i64 r2, .int .i64 r3, .slice Ae r4.length ce] 29))
  have HEb := Aside0.mk (x_alloc_new w7 (.cells #[.int .i64 r1, .int .i64 r2, .int .i64 r3, .slice Ae r4.length ce] 29))
  have p0 : (w7.alloc (.cells #[.int .i64 r1, .int .i64 r2, .int .i64 r3, .slice Ae r4.length ce] 29)).cell? ⟨w.heap.size, 0, none⟩ = some (.int .i64 v.f0) := blk_cell ((HN.out.block _ (blk_lt HV.out)).trans HV.out) 0
  have p1 : (w7.alloc (.cells #[.int .i64 r1, .int .i64 r2, .int .i64 r3, .slice Ae r4.length ce] 29)).cell? ⟨w.heap.size, 1, none⟩ = some (.int .i64 v.f1) := blk_cell ((HN.out.block _ (blk_lt HV.out)).trans HV.out) 1
  have p2 : (w7.alloc (.cells #[.int .i64 r1, .int .i64 r2, .int .i64 r3, .slice Ae r4.length ce] 29)).cell? ⟨w.heap.size, 2, none⟩ = some (.int .i64 v.f2) := blk_cell ((HN.out.block _ (blk_lt HV.out)).trans HV.out) 2
  have p3 : (w7.alloc (.cells #[.int .i64 r1, .int .i64 r2, .int .i64 r3, .slice Ae r4.length ce] 29)).cell? ⟨w.heap.size, 3, none⟩ = some (.slice A3 v.f3.length c3) := blk_cell ((HN.out.block _ (blk_lt HV.out)).trans HV.out) 3
  go_wp2_with (fail)
  clear p0 p1 p2 p3
  generalize w7.alloc (.cells #[.int .i64 r1, .int .i64 r2, .int .i64 r3, .slice Ae r4.length ce] 29) = W7 at HRc HCb HEc HEb HN ⊢
  generalize w7.heap.size = ge at HEb ⊢
  go_at_call 21
  refine (quorum_Add.calls K A2 c2 l v.f0 v.f1 v.f2 A3 c3 v.f3 xs W7 (Kd.C_below H2.out HN.out) L2.out (Kd.C_below H3.out HN.out) L3.out HA1.out).mono ?_
  rintro e w8 ⟨vx, rfl, hS, hb⟩
  have HSx := Aside0.mk (Kd.S_lower (Kd.S_mono (Kd.S_bound hS) (fun k hk => hk.2.1)) HN.out.size)
  replace HRc := Aside0.mk (Kd.R_mono (Kd.R_bound HRc.out) (fun k hk => hk.2.2.1))
  have hN7 : W7.heap.size = W7.heap.size := rfl -- W7.heap.size = N7 at HSx HRc
  replace HRc := Aside0.mk (Kd.R_below HRc.out hb)
  replace HCb := Aside0.mk ((hb.block _ (blk_lt HCb.out)).trans HCb.out)
  replace HEc := Aside0.mk (Kd.C_below HEc.out hb)
  replace HEb := Aside0.mk ((hb.block _ (blk_lt HEb.out)).trans HEb.out)
  replace HN := Aside0.mk (below_step HN.out hb)
  clear hS hb
  have p0 : w8.cell? ⟨w.heap.size, 0, none⟩ = some (.int .i64 v.f0) := blk_cell ((HN.out.block _ (blk_lt HV.out)).trans HV.out) 0
  have p1 : w8.cell? ⟨w.heap.size, 1, none⟩ = some (.int .i64 v.f1) := blk_cell ((HN.out.block _ (blk_lt HV.out)).trans HV.out) 1
  have p2 : w8.cell? ⟨w.heap.size, 2, none⟩ = some (.int .i64 v.f2) := blk_cell ((HN.out.block _ (blk_lt HV.out)).trans HV.out) 2
  have p3 : w8.cell? ⟨w.heap.size, 3, none⟩ = some (.slice A3 v.f3.length c3) := blk_cell ((HN.out.block _ (blk_lt HV.out)).trans HV.out) 3
  obtain ⟨Ax, cx, rfl⟩ := Kd.S_slice HSx.out
  go_wp2_with (fail)
  go_at_call 22
  refine (sextonref22_Add.calls K Ao co l v.f0 v.f1 v.f2 A3 c3 v.f3 xs w8 (Kd.C_below HO.out HN.out) LO.out (Kd.C_below H3.out HN.out) L3.out HA2.out).mono ?_
  rintro e w9 ⟨vy, rfl, hS, hb⟩
  clear p0 p1 p2 p3
  obtain ⟨Ay, cy, rfl, ly, hCy⟩ := Kd.S_reads hS
  replace HRc := Aside0.mk (Kd.R_below HRc.out hb)
  replace HCb := Aside0.mk ((hb.block _ (blk_lt HCb.out)).trans HCb.out)
  replace HEc := Aside0.mk (Kd.C_below HEc.out hb)
  replace HEb := Aside0.mk ((hb.block _ (blk_lt HEb.out)).trans HEb.out)
  replace HSx := Aside0.mk (Kd.S_below HSx.out hb)
  replace HN := Aside0.mk (below_step HN.out hb)
  have HYc := Aside0.mk hCy
  have LY := Aside0.mk ly
  clear hS hCy ly hb
  have p0 : w9.cell? ⟨gc, 0, none⟩ = some (.int .i64 r1) := blk_cell HCb.out 0
  have p1 : w9.cell? ⟨gc, 1, none⟩ = some (.int .i64 r2) := blk_cell HCb.out 1
  have p2 : w9.cell? ⟨gc, 2, none⟩ = some (.int .i64 r3) := blk_cell HCb.out 2
  have p3 : w9.cell? ⟨gc, 3, none⟩ = some (.slice Ac r4.length cc) := blk_cell HCb.out 3
  have q0 : w9.cell? ⟨ge, 0, none⟩ = some (.int .i64 r1) := blk_cell HEb.out 0
  have q1 : w9.cell? ⟨ge, 1, none⟩ = some (.int .i64 r2) := blk_cell HEb.out 1
  have q2 : w9.cell? ⟨ge, 2, none⟩ = some (.int .i64 r3) := blk_cell HEb.out 2
  have q3 : w9.cell? ⟨ge, 3, none⟩ = some (.slice Ae r4.length ce) := blk_cell HEb.out 3
  go_wp2_with (fail)
  go_at_call 13
  refine (sextonref22_SameVote.calls K r1 r2 r3 Ac cc r4 r1 r2 r3 Ae ce r4 true w9 (Kd.R_reads' HRc.out).2.2 (Kd.R_reads' HRc.out).2.1 HEc.out LE.out HV1.out).mono ?_
  rintro e w10 ⟨rfl, hb⟩
  clear p0 p1 p2 p3 q0 q1 q2 q3 HEc HEb
  replace HRc := Aside0.mk (Kd.R_below HRc.out hb)
  replace HCb := Aside0.mk ((hb.block _ (blk_lt HCb.out)).trans HCb.out)
  replace HSx := Aside0.mk (Kd.S_below HSx.out hb)
  replace HYc := Aside0.mk (Kd.C_below HYc.out hb)
  replace HN := Aside0.mk (below_step HN.out hb)
  clear hb
  go_wp2_with (fail)
  go_at_call 23
  refine (sextonref22_Same.calls K Ax cx xs Ay cy xs true w10 (Kd.S_reads' HSx.out).2.2 (Kd.S_reads' HSx.out).2.1 HYc.out LY.out HX1.out).mono ?_
  rintro e w11 ⟨rfl, hb⟩
  replace HRc := Aside0.mk (Kd.R_below HRc.out hb)
  replace HCb := Aside0.mk ((hb.block _ (blk_lt HCb.out)).trans HCb.out)
  replace HSx := Aside0.mk (Kd.S_below HSx.out hb)
  replace HYc := Aside0.mk (Kd.C_below HYc.out hb)
  replace HN := Aside0.mk (below_step HN.out hb)
  clear hb
  go_wp2_with (fail)
  clear HYc
  go_at_call 15
  refine (quorum_Majority.calls n m w11 HM1.out).mono ?_
  rintro e w12 ⟨rfl, hb⟩
  replace hb := hb.below
  replace HRc := Aside0.mk (Kd.R_below HRc.out hb)
  replace HCb := Aside0.mk ((hb.block _ (blk_lt HCb.out)).trans HCb.out)
  replace HSx := Aside0.mk (Kd.S_below HSx.out hb)
  replace HN := Aside0.mk (below_step HN.out hb)
  clear hb
  go_wp2_with (fail)
  go_at_call 24
  refine (sextonref22_Majority.calls n m w12 HM2.out).mono ?_
  rintro e w13 ⟨rfl, hb⟩
  replace hb := hb.below
  replace HRc := Aside0.mk (Kd.R_below HRc.out hb)
  replace HCb := Aside0.mk ((hb.block _ (blk_lt HCb.out)).trans HCb.out)
  replace HSx := Aside0.mk (Kd.S_below HSx.out hb)
  replace HN := Aside0.mk (below_step HN.out hb)
  clear hb
  go_wp2_with (fail)
  go_at_call 16
  refine (quorum_Enough.calls A2 c2 l n eb w13 (Kd.C_below H2.out HN.out) L2.out HE1.out).mono ?_
  rintro e w14 ⟨rfl, hb⟩
  replace HRc := Aside0.mk (Kd.R_below HRc.out hb)
  replace HCb := Aside0.mk ((hb.block _ (blk_lt HCb.out)).trans HCb.out)
  replace HSx := Aside0.mk (Kd.S_below HSx.out hb)
  replace HN := Aside0.mk (below_step HN.out hb)
  clear hb
  go_wp2_with (fail)
  go_at_call 25
  refine (sextonref22_Enough.calls K Ao co l n eb w14 (Kd.C_below HO.out HN.out) LO.out HE2.out).mono ?_
  rintro e w15 ⟨rfl, hb⟩
  replace hb := hb.below
  replace HRc := Aside0.mk (Kd.R_below HRc.out hb)
  replace HCb := Aside0.mk ((hb.block _ (blk_lt HCb.out)).trans HCb.out)
  replace HSx := Aside0.mk (Kd.S_below HSx.out hb)
  replace HN := Aside0.mk (below_step HN.out hb)
  clear hb
  go_wp2_with (fail)
  go_at_call 14
  refine (quorum_Commit.calls A4 c4 acks cm w15 (Kd.C_below H4.out HN.out) L4.out HC1.out).mono ?_
  rintro e w16 ⟨rfl, hb⟩
  replace HRc := Aside0.mk (Kd.R_below HRc.out hb)
  replace HCb := Aside0.mk ((hb.block _ (blk_lt HCb.out)).trans HCb.out)
  replace HSx := Aside0.mk (Kd.S_below HSx.out hb)
  replace HN := Aside0.mk (below_step HN.out hb)
  clear hb
  go_wp2_with (fail)
  go_at_call 26
  refine (sextonref22_Commit.calls K A4 c4 acks cm w16 (Kd.C_below H4.out HN.out) L4.out HC2.out).mono ?_
  rintro e w17 ⟨rfl, hb⟩
  replace HRc := Aside0.mk (Kd.R_below HRc.out hb)
  replace HCb := Aside0.mk ((hb.block _ (blk_lt HCb.out)).trans HCb.out)
  replace HSx := Aside0.mk (Kd.S_below HSx.out hb)
  replace HN := Aside0.mk (below_step HN.out hb)
  clear hb
  have p3 : w17.cell? ⟨gc, 3, none⟩ = some (.slice Ac r4.length cc) := blk_cell HCb.out 3
  go_wp2_with (fail)
  obtain ⟨r4', hf4, _⟩ := HSM.out r4 HR4.out
  go_at_call 27
  refine (sextonlaw22_smudge.calls K (fun k => k < W7.heap.size) (.slice Ac r4.length cc) r4 r4' V w17 HN.out HRc.out hf4).mono ?_
  rintro e w18 ⟨rfl, _, hb, hk⟩
  clear p3 hf4 HRc HCb
  replace HSx := Aside0.mk (Kd.S_step HSx.out (fun k hk1 hk2 => hk.2 k hk2 (fun hq => Nat.lt_irrefl _ (Nat.lt_of_lt_of_le hq hk1))))
  replace HN := Aside0.mk hb
  clear hb hk
  obtain ⟨ad, f, hAx, hX⟩ := SmX.ex HSx.out HX3.out
  have HX := Aside0.mk hX
  have HAX := Aside0.mk hAx
  clear hX hAx HSx
  go_wp2_with (fail)
  go_loopg [24] (xs.length) (fun kq v24 w' => ∃ (i : Int), v24 = .int .i64 i ∧ Aside0 (0 ≤ i ∧ i ≤ xs.length ∧ (kq : Int) = xs.length - i) ∧ Aside0 (SmX V.heap.size w' ad f xs.length) ∧ Aside0 (Below V.heap.size V w'))
  case atStart => exact ⟨0, rfl, ⟨by omega, by omega, by omega⟩, HX, HN⟩
  case round =>
    clear HX HN
    obtain ⟨i, rfl, HI, HX, HN⟩ := hrel
    by_cases c2 : i < (xs.length : Int)
    · have c2b0 : decide (i < (xs.length : Int)) = true := decide_eq_true c2
      obtain rfl := HAX.out (by have := HI.out.1; omega)
      have hi0 := HI.out.1
      obtain ⟨A, c, r, hcell, hrl, hR, hlt⟩ := HX.out i.toNat (by omega)
      obtain ⟨r', hfr, hrl'⟩ := HSM.out r hrl
      have HR := Aside0.mk hR
      have HC := Aside0.mk hcell
      have HF := Aside0.mk hfr
      have HL := Aside0.mk (And.intro hrl hrl')
      have HLT := Aside0.mk c2
      clear hR hfr hrl hrl' hlt c2
      replace hi0 := eq_true hi0
      have hi1 := eq_true HLT.out
      go_wp2_with (fail)
      go_at_call 27
      refine (sextonlaw22_smudge.calls K (fun k => k ≠ ad.block ∧ f k = i.toNat) (.slice A r.length c) r r' V wr HN.out HR.out HF.out).mono ?_
      rintro e w19 ⟨rfl, h1, hb, hk⟩
      replace HX := Aside0.mk (SmX.smudged HX.out (show i.toNat < xs.length by have := HLT.out; have := HI.out.1; omega) HC.out HL.out.1 HR.out h1 HL.out.2 hk)
      replace HN := Aside0.mk hb
      clear h1 hb hk hcell
      go_wp2_with (fail)
      go_roundg (gk - 1)
      case measure => have := HI.out.2.2; have := HLT.out; omega
      case rel => exact ⟨wrap64 (i + 1), by first | rfl | (simp; done) | (simp [*]; done), ⟨by have := HI.out; have := HLT.out; have := HXL.out; unfold wrap64; omega⟩, HX, HN⟩
    · have c2b0 : decide (i < (xs.length : Int)) = false := decide_eq_false c2
      clear c2
      go_wp2_with (fail)
      go_at_call 9
      refine (sextonlaw22_most.calls K true wr HMOST.out rfl).mono ?_
      rintro e w20 ⟨rfl, hb⟩
      replace HN := Aside0.mk (below_step HN.out hb)
      clear hb
      go_wp2_with (fail)
      go_at_call 28
      refine (sextonref01_Ints.calls K A4 c4 acks Ak ck acks true w20 (Kd.C_below H4.out HN.out) L4.out (Kd.C_below HKC.out HN.out) LK.out HINT.out).mono ?_
      rintro e w21 ⟨rfl, hb⟩
      replace HN := Aside0.mk (below_step HN.out hb.below)
      clear hb
      go_wp2_with (fail)
      go_at_call 23
      refine (sextonref22_Same.calls K A2 c2 l Ao co l true w21 (Kd.C_below H2.out HN.out) L2.out (Kd.C_below HO.out HN.out) LO.out HLL.out).mono ?_
      rintro e w22 ⟨rfl, hb⟩
      replace HN := Aside0.mk (below_step HN.out hb)
      clear hb
      go_wp2_with (fail)
      go_ret
      exact ⟨rfl, below_step HB.out HN.out⟩
end Go.Proofs.Ytgphefohdbgokaa.P
end
section
set_option linter.unusedVariables false
set_option linter.unusedSimpArgs false
namespace Go.Proofs.Ytgphefohdbgokaa.SpecT
open Go.RowKit Go.Proofs.YtgphefohdbgokaaW.PrintWords Go.Proofs.YtgphefohdbgokaaW.PrintLast Go.Proofs.YtgphefohdbgokaaW.PrintMore Go.Proofs.Ytgphefohdbgokaa.P
theorem wrap_nat (i : Nat) (h : i < 9223372036854775807) : wrap64 ((i : Int) + 1) = ((i + 1 : Nat) : Int) := by unfold wrap64; omega
theorem rd29_nat (l : List S29) (i : Nat) (h : i < l.length) : rd_T29 l (i : Int) = l[i] := by
  unfold rd_T29
  simp [List.getD_eq_getElem?_getD, List.getElem?_eq_getElem h]
theorem rdS_nat (l : List ByteArray) (i : Nat) (h : i < l.length) : rdOf ByteArray.empty l (i : Int) = l[i] := by
  unfold rdOf
  simp [List.getD_eq_getElem?_getD, List.getElem?_eq_getElem h]
theorem texts_loop (a : List ByteArray) (hm : a.length ≤ 9223372036854775807) (d : Nat) : ∀ (k i : Nat), a.length - i = d → i ≤ a.length → d < k → sextonref01_Texts.l0 k a a (i : Int) = some true := by
  induction d with
  | zero =>
    intro k i hd hi hk
    obtain ⟨k, rfl⟩ : ∃ m, k = m + 1 := ⟨k - 1, by omega⟩
    simp only [sextonref01_Texts.l0]
    rw [if_neg (by omega)]
  | succ d ih =>
    intro k i hd hi hk
    obtain ⟨k, rfl⟩ : ∃ m, k = m + 1 := ⟨k - 1, by omega⟩
    simp only [sextonref01_Texts.l0]
    rw [if_pos (by omega), if_pos (by omega), if_pos (by omega), if_pos trivial, wrap_nat i (by omega), ih k (i + 1) (by omega) (by omega) (by omega)]
theorem texts_self (a : List ByteArray) (hm : a.length ≤ 9223372036854775807) (k : Nat) (hk : a.length < k) : sextonref01_Texts.f k a a = some true := by
  simp only [sextonref01_Texts.f]
  rw [if_pos trivial]
  exact texts_loop a hm a.length k 0 (by omega) (by omega) hk
theorem ints_loop (a : List Int) (hm : a.length ≤ 9223372036854775807) (d : Nat) : ∀ (k i : Nat), a.length - i = d → i ≤ a.length → d < k → sextonref01_Ints.l0 k a a (i : Int) = some true := by
  induction d with
  | zero =>
    intro k i hd hi hk
    obtain ⟨k, rfl⟩ : ∃ m, k = m + 1 := ⟨k - 1, by omega⟩
    simp only [sextonref01_Ints.l0]
    rw [if_neg (by omega)]
  | succ d ih =>
    intro k i hd hi hk
    obtain ⟨k, rfl⟩ : ∃ m, k = m + 1 := ⟨k - 1, by omega⟩
    simp only [sextonref01_Ints.l0]
    rw [if_pos (by omega), if_pos (by omega), if_pos (by omega), if_pos trivial, wrap_nat i (by omega), ih k (i + 1) (by omega) (by omega) (by omega)]
theorem ints_self (a : List Int) (hm : a.length ≤ 9223372036854775807) (k : Nat) (hk : a.length < k) : sextonref01_Ints.f k a a = some true := by
  simp only [sextonref01_Ints.f]
  rw [if_pos trivial]
  exact ints_loop a hm a.length k 0 (by omega) (by omega) hk
theorem votes_loop (a : List S29) (hm : a.length ≤ 9223372036854775807) (B : Nat) (hB : B ≤ 9223372036854775807) (hv : ∀ v, v ∈ a → v.f3.length ≤ B) (d : Nat) : ∀ (k i : Nat), a.length - i = d → i ≤ a.length → d + B + 1 < k → sextonref22_Same.l0 k a a (i : Int) = some true := by
  induction d with
  | zero =>
    intro k i hd hi hk
    obtain ⟨k, rfl⟩ : ∃ m, k = m + 1 := ⟨k - 1, by omega⟩
    simp only [sextonref22_Same.l0]
    rw [if_neg (by omega)]
  | succ d ih =>
    intro k i hd hi hk
    obtain ⟨k, rfl⟩ : ∃ m, k = m + 1 := ⟨k - 1, by omega⟩
    have hi' : i < a.length := by omega
    have hl := hv _ (List.getElem_mem hi')
    simp only [sextonref22_Same.l0]
    rw [if_pos (by omega), if_pos (by omega), if_pos (by omega), rd29_nat a i hi']
    simp only [sextonref22_SameVote.f]
    rw [if_pos trivial, if_pos trivial, if_pos trivial, texts_self _ (by omega) k (by omega)]
    simp only [Option.bind_some]
    rw [if_pos trivial, wrap_nat i (by omega), ih k (i + 1) (by omega) (by omega) (by omega)]
theorem votes_self (a : List S29) (hm : a.length ≤ 9223372036854775807) (B : Nat) (hB : B ≤ 9223372036854775807) (hv : ∀ v, v ∈ a → v.f3.length ≤ B) (k : Nat) (hk : a.length + B + 1 < k) : sextonref22_Same.f k a a = some true := by
  simp only [sextonref22_Same.f]
  rw [if_pos trivial]
  exact votes_loop a hm B hB hv a.length k 0 (by omega) (by omega) hk
theorem short_loop (a : List ByteArray) (hm : a.length ≤ 9223372036854775807) (d : Nat) : ∀ (k i : Nat), a.length - i = d → i ≤ a.length → d < k → sextonref01_Short.l0 k a (i : Int) = some ((a.drop i).all fun s => decide ((s.size : Int) ≤ 300)) := by
  induction d with
  | zero =>
    intro k i hd hi hk
    obtain ⟨k, rfl⟩ : ∃ m, k = m + 1 := ⟨k - 1, by omega⟩
    simp only [sextonref01_Short.l0]
    rw [if_neg (by omega), List.drop_eq_nil_of_le (by omega)]
    rfl
  | succ d ih =>
    intro k i hd hi hk
    obtain ⟨k, rfl⟩ : ∃ m, k = m + 1 := ⟨k - 1, by omega⟩
    have hi' : i < a.length := by omega
    simp only [sextonref01_Short.l0]
    rw [if_pos (by omega), if_pos (by omega), rdS_nat a i hi', wrap_nat i (by omega), ih k (i + 1) (by omega) (by omega) (by omega), List.drop_eq_getElem_cons hi', List.all_cons]
    by_cases h : (a[i].size : Int) > 300
    · rw [if_pos h, decide_eq_false (by omega)]; rfl
    · rw [if_neg h, decide_eq_true (by omega)]; rfl
theorem short_of (a : List ByteArray) (hm : a.length ≤ 9223372036854775807) (k : Nat) (hk : a.length < k) : sextonref01_Short.f k a = some (a.all fun s => decide ((s.size : Int) ≤ 300)) := by
  simp only [sextonref01_Short.f]
  exact short_loop a hm a.length k 0 (by omega) (by omega) hk
def bigV (v : S29) : Bool := !(v.f3.all fun s => decide ((s.size : Int) ≤ 300)) || decide ((v.f3.length : Int) > 70)
def bigVs (a : List S29) : Bool := if (a.length : Int) ≤ 30 then a.any bigV else true
theorem big22_loop (a : List S29) (hm : a.length ≤ 30) (B : Nat) (hB : B ≤ 9223372036854775807) (hv : ∀ v, v ∈ a → v.f3.length ≤ B) (d : Nat) : ∀ (k i : Nat), a.length - i = d → i ≤ a.length → 2 * d + B + 2 < k → sextonref22_Big.l0 k a (i : Int) = some ((a.drop i).any bigV) := by
  induction d with
  | zero =>
    intro k i hd hi hk
    obtain ⟨k, rfl⟩ : ∃ m, k = m + 2 := ⟨k - 2, by omega⟩
    simp only [sextonref22_Big.l0]
    rw [if_neg (by omega), List.drop_eq_nil_of_le (by omega)]
    simp only [sextonref22_Big.j1]
    rw [if_neg (by simp), decide_eq_false (by omega)]
    rfl
  | succ d ih =>
    intro k i hd hi hk
    obtain ⟨k, rfl⟩ : ∃ m, k = m + 1 := ⟨k - 1, by omega⟩
    have hi' : i < a.length := by omega
    have hl := hv _ (List.getElem_mem hi')
    simp only [sextonref22_Big.l0]
    rw [if_pos (by omega), decide_eq_true (by omega)]
    obtain ⟨k, rfl⟩ : ∃ m, k = m + 1 := ⟨k - 1, by omega⟩
    simp only [sextonref22_Big.j1]
    rw [if_pos trivial, if_pos (by omega), if_pos (by omega), rd29_nat a i hi', short_of _ (by omega) k (by omega), wrap_nat i (by omega), ih k (i + 1) (by omega) (by omega) (by omega), List.drop_eq_getElem_cons hi', List.any_cons]
    simp only [Option.bind_some]
    cases hs : a[i].f3.all (fun s => decide ((s.size : Int) ≤ 300)) with
    | false =>
      rw [if_neg (by simp)]
      simp [bigV, hs]
    | true =>
      rw [if_pos rfl]
      by_cases h : (a[i].f3.length : Int) > 70
      · rw [if_pos h]; simp only [bigV, hs, decide_eq_true h]; rfl
      · rw [if_neg h]; simp only [bigV, hs, decide_eq_false h]; rfl
theorem big22_of (a : List S29) (hm : a.length ≤ 9223372036854775807) (B : Nat) (hB : B ≤ 9223372036854775807) (hv : ∀ v, v ∈ a → v.f3.length ≤ B) (k : Nat) (hk : 64 + B < k) : sextonref22_Big.f k a = some (bigVs a) := by
  simp only [sextonref22_Big.f]
  unfold bigVs
  by_cases h : (a.length : Int) ≤ 30
  · rw [if_pos h]
    exact big22_loop a (by omega) B hB hv a.length k 0 (by omega) (by omega) (by omega)
  · rw [if_neg h]
    obtain ⟨k, rfl⟩ : ∃ m, k = m + 2 := ⟨k - 2, by omega⟩
    simp only [sextonref22_Big.l0]
    rw [if_pos (by omega), decide_eq_false (by omega)]
    simp only [sextonref22_Big.j1]
    rw [if_neg (by simp), decide_eq_true (by omega)]
theorem bigVs_not {a : List S29} (h : bigVs a = false) : a.length ≤ 30 ∧ ∀ v, v ∈ a → v.f3.length ≤ 70 := by
  unfold bigVs at h
  split at h
  · refine ⟨by omega, fun v hv => ?_⟩
    have h2 := List.any_eq_false.1 h v hv
    simp only [bigV, Bool.or_eq_true, decide_eq_true_eq, not_or] at h2
    omega
  · cases h
def atLeast (l : List Int) (a : Int) : Nat := l.countP (fun b => decide (a ≤ b))
def topOf (m : Nat) (all : List Int) (l : List Int) (b : Int) : Int := l.foldl (fun b a => if m ≤ atLeast all a then max b a else b) b
theorem topOf_ge (m : Nat) (all : List Int) : ∀ (l : List Int) (b : Int), b ≤ topOf m all l b := by
  intro l
  induction l with
  | nil => intro b; exact Int.le_refl _
  | cons a l ih =>
    intro b
    show b ≤ topOf m all l (if m ≤ atLeast all a then max b a else b)
    refine Int.le_trans ?_ (ih _)
    split <;> omega
theorem topOf_mem (m : Nat) (all : List Int) : ∀ (l : List Int) (b a : Int), a ∈ l → m ≤ atLeast all a → a ≤ topOf m all l b := by
  intro l
  induction l with
  | nil => intro b a h; cases h
  | cons c l ih =>
    intro b a h hm
    show a ≤ topOf m all l (if m ≤ atLeast all c then max b c else b)
    rcases List.mem_cons.1 h with rfl | h
    · rw [if_pos hm]
      exact Int.le_trans (by omega) (topOf_ge m all l _)
    · exact ih _ a h hm
theorem topOf_le (m : Nat) (all : List Int) (B : Int) : ∀ (l : List Int) (b : Int), b ≤ B → (∀ a, a ∈ l → m ≤ atLeast all a → a ≤ B) → topOf m all l b ≤ B := by
  intro l
  induction l with
  | nil => intro b h _; exact h
  | cons c l ih =>
    intro b h hl
    show topOf m all l (if m ≤ atLeast all c then max b c else b) ≤ B
    refine ih _ ?_ (fun a ha => hl a (List.mem_cons_of_mem _ ha))
    split
    · rename_i hm
      have := hl c List.mem_cons_self hm
      omega
    · exact h
theorem atLeast_perm {l s : List Int} (h : s.Perm l) (a : Int) : atLeast s a = atLeast l a := h.countP_eq _
theorem sorted_le {s : List Int} (hs : s.Pairwise (· ≤ ·)) {i j : Nat} (hij : i ≤ j) (hj : j < s.length) : s[i]'(by omega) ≤ s[j] := by
  rcases Nat.lt_or_ge i j with h | h
  · exact List.pairwise_iff_getElem.1 hs i j (by omega) hj h
  · have : i = j := by omega
    subst this
    exact Int.le_refl _
theorem atLeast_drop {s : List Int} (hs : s.Pairwise (· ≤ ·)) (i : Nat) (hi : i < s.length) : s.length - i ≤ atLeast s s[i] := by
  have h1 : atLeast (s.drop i) s[i] = (s.drop i).length := by
    unfold atLeast
    rw [List.countP_eq_length]
    intro a ha
    obtain ⟨k, hk, rfl⟩ := List.getElem_of_mem ha
    rw [List.length_drop] at hk
    rw [List.getElem_drop]
    exact decide_eq_true (sorted_le hs (by omega) (by omega))
  have h2 : atLeast s s[i] = atLeast (s.take i) s[i] + atLeast (s.drop i) s[i] := by
    have h := List.countP_append (p := fun b => decide (s[i] ≤ b)) (l₁ := s.take i) (l₂ := s.drop i)
    rw [List.take_append_drop] at h
    exact h
  rw [h2, h1, List.length_drop]
  omega
theorem atLeast_above {s : List Int} (hs : s.Pairwise (· ≤ ·)) (i : Nat) (hi : i < s.length) (a : Int) (ha : s[i] < a) : atLeast s a ≤ s.length - (i + 1) := by
  have h2 : atLeast s a = atLeast (s.take (i + 1)) a + atLeast (s.drop (i + 1)) a := by
    have h := List.countP_append (p := fun b => decide (a ≤ b)) (l₁ := s.take (i + 1)) (l₂ := s.drop (i + 1))
    rw [List.take_append_drop] at h
    exact h
  have h1 : atLeast (s.take (i + 1)) a = 0 := by
    unfold atLeast
    rw [List.countP_eq_zero]
    intro b hb
    obtain ⟨k, hk, rfl⟩ := List.getElem_of_mem hb
    rw [List.length_take] at hk
    rw [List.getElem_take]
    have := sorted_le hs (show k ≤ i by omega) hi
    simp
    omega
  have h3 : atLeast (s.drop (i + 1)) a ≤ (s.drop (i + 1)).length := List.countP_le_length
  rw [List.length_drop] at h3
  omega
theorem top_sorted (l s : List Int) (hp : s.Perm l) (hs : s.Pairwise (· ≤ ·)) (hne : l.length ≠ 0) : topOf (l.length / 2 + 1) l l 0 = max (s.getD (l.length - (l.length / 2 + 1)) 0) 0 := by
  have hl := hp.length_eq
  have hi : l.length - (l.length / 2 + 1) < s.length := by omega
  have hg : s.getD (l.length - (l.length / 2 + 1)) 0 = s[l.length - (l.length / 2 + 1)] := by
    rw [List.getD_eq_getElem?_getD, List.getElem?_eq_getElem hi]; rfl
  rw [hg]
  apply Int.le_antisymm
  · refine topOf_le _ _ _ _ _ (by omega) (fun a ha hm => ?_)
    by_cases hlt : s[l.length - (l.length / 2 + 1)] < a
    · have h1 := atLeast_above hs _ hi a hlt
      rw [atLeast_perm hp] at h1
      omega
    · omega
  · have h1 := atLeast_drop hs _ hi
    rw [atLeast_perm hp] at h1
    have h2 := topOf_mem (l.length / 2 + 1) l l 0 s[l.length - (l.length / 2 + 1)] (hp.mem_iff.1 (List.getElem_mem hi)) (by omega)
    have h3 := topOf_ge (l.length / 2 + 1) l l 0
    omega
def newOnes (l : List Int) (i : Nat) : Nat := ((List.range i).filter (fun j => (l.take j).all (fun a => decide (a ≠ l.getD j 0)))).length
def seenOf (l : List Int) : List Int := l.foldl (fun a v => if a.contains v then a else v :: a) []
theorem seenOf_snoc (l : List Int) (v : Int) : seenOf (l ++ [v]) = if (seenOf l).contains v then seenOf l else v :: seenOf l := by unfold seenOf; rw [List.foldl_append]; rfl
theorem seen_mem (l : List Int) (a : Int) : a ∈ seenOf l ↔ a ∈ l := by
  have h : ∀ (l acc : List Int), a ∈ l.foldl (fun a v => if a.contains v then a else v :: a) acc ↔ a ∈ acc ∨ a ∈ l := by
    intro l
    induction l with
    | nil => intro acc; simp
    | cons v l ih =>
      intro acc
      rw [List.foldl_cons, ih]
      split
      · rename_i hc
        have hc := List.contains_iff_mem.1 hc
        simp only [List.mem_cons]
        constructor
        · rintro (h | h)
          · exact .inl h
          · exact .inr (.inr h)
        · rintro (h | rfl | h)
          · exact .inl h
          · exact .inl hc
          · exact .inr h
      · simp only [List.mem_cons]
        constructor
        · rintro ((rfl | h) | h)
          · exact .inr (.inl rfl)
          · exact .inl h
          · exact .inr (.inr h)
        · rintro (h | rfl | h)
          · exact .inl (.inr h)
          · exact .inl (.inl rfl)
          · exact .inr h
  have := h l []
  simpa [seenOf] using this
theorem newOnes_succ (l : List Int) (i : Nat) (hi : i < l.length) : newOnes l (i + 1) = newOnes l i + (if (l.take i).all (fun a => decide (a ≠ l[i])) then 1 else 0) := by
  unfold newOnes
  rw [List.range_succ, List.filter_append, List.length_append]
  have hg : l.getD i 0 = l[i] := by rw [List.getD_eq_getElem?_getD, List.getElem?_eq_getElem hi]; rfl
  congr 1
  rw [List.filter_cons, hg]
  split <;> simp
theorem newOnes_seen (l : List Int) : ∀ i, i ≤ l.length → newOnes l i = (seenOf (l.take i)).length := by
  intro i
  induction i with
  | zero => intro _; rfl
  | succ i ih =>
    intro hi
    have hi' : i < l.length := by omega
    rw [newOnes_succ l i hi', ih (by omega), List.take_succ_eq_append_getElem hi', seenOf_snoc]
    by_cases hm : l[i] ∈ l.take i
    · have h1 : (seenOf (l.take i)).contains l[i] = true := List.contains_iff_mem.2 ((seen_mem _ _).2 hm)
      have h2 : ¬ (l.take i).all (fun a => decide (a ≠ l[i])) = true := by
        intro h
        have := List.all_eq_true.1 h _ hm
        simp at this
      rw [if_pos h1, if_neg h2]; rfl
    · have h1 : ¬ (seenOf (l.take i)).contains l[i] = true := fun h => hm ((seen_mem _ _).1 (List.contains_iff_mem.1 h))
      have h2 : (l.take i).all (fun a => decide (a ≠ l[i])) = true := by
        rw [List.all_eq_true]
        intro a ha
        have : a ≠ l[i] := fun e => hm (e ▸ ha)
        simpa using this
      rw [if_neg h1, if_pos h2]; rfl
theorem newOnes_all (l : List Int) : newOnes l l.length = (seenOf l).length := by
  have := newOnes_seen l l.length (Nat.le_refl _)
  rwa [List.take_length] at this
theorem ownTexts_of (l : List ByteArray) (h : l.length < 8796093022208) : sextonref01_Own.f l = some l := by
  unfold sextonref01_Own.f
  rw [if_pos (by simp; omega)]
  rfl
theorem ownVote_of (a b c : Int) (l : List ByteArray) (h : l.length < 8796093022208) : sextonref22_OwnVote.f a b c l = some (a, b, c, l) := by
  unfold sextonref22_OwnVote.f
  rw [ownTexts_of l h]
  rfl
theorem own_loop (l : List S29) (hm : l.length ≤ 1000) (hv : ∀ v, v ∈ l → v.f3.length ≤ 1000) (d : Nat) : ∀ (k i : Nat) (acc : List S29), l.length - i = d → i ≤ l.length → acc.length ≤ i → d < k → sextonref22_Own.l0 k l acc (i : Int) = some (acc ++ l.drop i) := by
  induction d with
  | zero =>
    intro k i acc hd hi ha hk
    obtain ⟨k, rfl⟩ : ∃ m, k = m + 1 := ⟨k - 1, by omega⟩
    simp only [sextonref22_Own.l0]
    rw [if_neg (by omega), List.drop_eq_nil_of_le (by omega), List.append_nil]
  | succ d ih =>
    intro k i acc hd hi ha hk
    obtain ⟨k, rfl⟩ : ∃ m, k = m + 1 := ⟨k - 1, by omega⟩
    have hi' : i < l.length := by omega
    have hl := hv _ (List.getElem_mem hi')
    simp only [sextonref22_Own.l0]
    rw [if_pos (by omega), if_pos (by omega), rd29_nat l i hi', ownVote_of _ _ _ _ (by omega)]
    rw [Option.bind_some]
    dsimp only
    rw [if_pos (by omega), wrap_nat i (by omega), ih k (i + 1) _ (by omega) (by omega) (by simp; omega) (by omega), List.drop_eq_getElem_cons hi', List.append_assoc]
    rfl
theorem own_of (l : List S29) (hm : l.length ≤ 1000) (hv : ∀ v, v ∈ l → v.f3.length ≤ 1000) (k : Nat) (hk : l.length < k) : sextonref22_Own.f k l = some l := by
  simp only [sextonref22_Own.f]
  have := own_loop l hm hv l.length k 0 [] (by omega) (by omega) (by simp) hk
  simpa using this
theorem best_loop (l : List S29) (hm : l.length ≤ 1000) (hv : ∀ v, v ∈ l → v.f3.length ≤ 1000) (d : Nat) : ∀ (k i j : Nat) (hj : j < l.length), l.length - i = d → i ≤ l.length → d < k →
    sextonref22_Best.l0 k l (j : Int) (i : Int) = some ((quorum_Best.best (l.drop i) l[j]).f0, (quorum_Best.best (l.drop i) l[j]).f1, (quorum_Best.best (l.drop i) l[j]).f2, (quorum_Best.best (l.drop i) l[j]).f3, true) := by
  induction d with
  | zero =>
    intro k i j hj hd hi hk
    obtain ⟨k, rfl⟩ : ∃ m, k = m + 1 := ⟨k - 1, by omega⟩
    have hl := hv _ (List.getElem_mem hj)
    simp only [sextonref22_Best.l0]
    rw [if_neg (by omega), if_pos (by omega), if_pos (by omega), rd29_nat l j hj, ownVote_of _ _ _ _ (by omega), List.drop_eq_nil_of_le (by omega)]
    rfl
  | succ d ih =>
    intro k i j hj hd hi hk
    obtain ⟨k, rfl⟩ : ∃ m, k = m + 1 := ⟨k - 1, by omega⟩
    have hi' : i < l.length := by omega
    simp only [sextonref22_Best.l0]
    rw [if_pos (by omega), if_pos (by omega), if_pos (by omega), if_pos (by omega), rd29_nat l i hi', rd29_nat l j hj, wrap_nat i (by omega), List.drop_eq_getElem_cons hi']
    have e : quorum_Best.best (l[i] :: l.drop (i + 1)) l[j] = quorum_Best.best (l.drop (i + 1)) (if quorum_Best.better l[i] l[j] then l[i] else l[j]) := rfl
    rw [e]
    unfold quorum_Best.better
    by_cases h1 : l[i].f1 > l[j].f1
    · rw [if_pos h1, if_pos h1, ih k (i + 1) i hi' (by omega) (by omega) (by omega)]
      rfl
    · rw [if_neg h1, if_neg h1]
      by_cases h2 : l[i].f1 = l[j].f1
      · rw [if_pos h2, if_pos h2]
        by_cases h3 : (l[i].f3.length : Int) > (l[j].f3.length : Int)
        · rw [if_pos h3, ih k (i + 1) i hi' (by omega) (by omega) (by omega), decide_eq_true h3]
          rfl
        · rw [if_neg h3, ih k (i + 1) j hj (by omega) (by omega) (by omega), decide_eq_false h3]
          rfl
      · rw [if_neg h2, if_neg h2, ih k (i + 1) j hj (by omega) (by omega) (by omega)]
        rfl
theorem best_mem (l : List S29) (v : S29) : quorum_Best.best l v ∈ v :: l := by
  induction l generalizing v with
  | nil => simp [quorum_Best.best]
  | cons u l ih =>
    have h : quorum_Best.best (u :: l) v = quorum_Best.best l (if quorum_Best.better u v then u else v) := rfl
    rw [h]
    have := ih (if quorum_Best.better u v then u else v)
    rcases List.mem_cons.1 this with e | e
    · rw [e]
      split <;> simp
    · simp [e]
theorem best_both (l : List S29) (hm : l.length ≤ 1000) (hv : ∀ v, v ∈ l → v.f3.length ≤ 1000) (k : Nat) (hk : l.length < k) : ∃ r1 r2 r3 r4 r5, quorum_Best.f l = some (r1, r2, r3, r4, r5) ∧ sextonref22_Best.f k l = some (r1, r2, r3, r4, r5) ∧ r4.length ≤ 1000 := by
  cases l with
  | nil => exact ⟨0, 0, 0, [], false, rfl, by simp [sextonref22_Best.f], by simp⟩
  | cons v l =>
    have hb := hv _ (best_mem l v)
    refine ⟨_, _, _, _, true, if_pos ⟨by simp at hm; omega, by omega⟩, ?_, hb⟩
    simp only [sextonref22_Best.f]
    rw [if_neg (by simp; omega)]
    exact best_loop (v :: l) hm hv l.length k 1 0 (by simp) (by simp) (by simp) (by simp at hk; omega)
def addTo (l : List S29) (v : S29) : List S29 := l.filter (fun y => y.f0 ≠ v.f0) ++ [v]
theorem voteOwn_of (v : S29) (h : v.f3.length ≤ 1000) : quorum_vote_own.f v.f0 v.f1 v.f2 v.f3 = some (v.f0, v.f1, v.f2, v.f3) := if_pos (by omega)
theorem addq_loop (l : List S29) (v : S29) (hl : l.length ≤ 1000) (hv : v.f3.length ≤ 1000) (hw : ∀ y, y ∈ l → y.f3.length ≤ 1000) (d : Nat) : ∀ (k i : Nat) (acc : List S29), l.length - i = d → i ≤ l.length → acc.length ≤ i → d < k →
    quorum_Add.l0 k acc l (l.length : Int) (i : Int) v.f0 v.f1 v.f2 v.f3 = some (acc ++ (l.drop i).filter (fun y => y.f0 ≠ v.f0) ++ [v]) := by
  induction d with
  | zero =>
    intro k i acc hd hi ha hk
    obtain ⟨k, rfl⟩ : ∃ m, k = m + 1 := ⟨k - 1, by omega⟩
    simp only [quorum_Add.l0]
    rw [if_neg (by omega), voteOwn_of v hv, List.drop_eq_nil_of_le (by omega), Option.bind_some]
    dsimp only
    rw [if_pos (by omega)]
    simp
  | succ d ih =>
    intro k i acc hd hi ha hk
    obtain ⟨k, rfl⟩ : ∃ m, k = m + 1 := ⟨k - 1, by omega⟩
    have hi' : i < l.length := by omega
    have hw' := hw _ (List.getElem_mem hi')
    simp only [quorum_Add.l0]
    rw [if_pos (by omega), if_pos (by omega), if_pos (by omega), rd29_nat l i hi', wrap_nat i (by omega), List.drop_eq_getElem_cons hi', List.filter_cons]
    by_cases he : l[i].f0 = v.f0
    · rw [if_pos he, if_neg (by simpa using he)]
      exact ih k (i + 1) acc (by omega) (by omega) (by omega) (by omega)
    · rw [if_neg he, if_pos (by simpa using he), voteOwn_of _ hw', Option.bind_some]
      dsimp only
      rw [if_pos (by omega)]
      have := ih k (i + 1) (acc ++ [l[i]]) (by omega) (by omega) (by simp; omega) (by omega)
      simpa [List.append_assoc] using this
theorem addr_loop (l : List S29) (v : S29) (hl : l.length ≤ 1000) (hv : v.f3.length ≤ 1000) (hw : ∀ y, y ∈ l → y.f3.length ≤ 1000) (d : Nat) : ∀ (k i : Nat) (acc : List S29), l.length - i = d → i ≤ l.length → acc.length ≤ i → d < k →
    sextonref22_Add.l0 k l acc (i : Int) v.f0 v.f1 v.f2 v.f3 = some (acc ++ (l.drop i).filter (fun y => y.f0 ≠ v.f0) ++ [v]) := by
  induction d with
  | zero =>
    intro k i acc hd hi ha hk
    obtain ⟨k, rfl⟩ : ∃ m, k = m + 1 := ⟨k - 1, by omega⟩
    simp only [sextonref22_Add.l0]
    rw [if_neg (by omega), ownVote_of _ _ _ v.f3 (by have := hv; omega), List.drop_eq_nil_of_le (by omega), Option.bind_some]
    dsimp only
    rw [if_pos (by omega)]
    simp
  | succ d ih =>
    intro k i acc hd hi ha hk
    obtain ⟨k, rfl⟩ : ∃ m, k = m + 1 := ⟨k - 1, by omega⟩
    have hi' : i < l.length := by omega
    have hw' := hw _ (List.getElem_mem hi')
    simp only [sextonref22_Add.l0]
    rw [if_pos (by omega), if_pos (by omega), rd29_nat l i hi', wrap_nat i (by omega), List.drop_eq_getElem_cons hi', List.filter_cons]
    by_cases he : l[i].f0 = v.f0
    · rw [if_pos he, if_neg (by simpa using he)]
      exact ih k (i + 1) acc (by omega) (by omega) (by omega) (by omega)
    · rw [if_neg he, if_pos (by simpa using he), ownVote_of _ _ _ _ (by omega), Option.bind_some]
      dsimp only
      rw [if_pos (by omega)]
      have := ih k (i + 1) (acc ++ [l[i]]) (by omega) (by omega) (by simp; omega) (by omega)
      simpa [List.append_assoc] using this
theorem add_both (l : List S29) (v : S29) (hl : l.length ≤ 1000) (hv : v.f3.length ≤ 1000) (hw : ∀ y, y ∈ l → y.f3.length ≤ 1000) (k : Nat) (hk : l.length < k) : quorum_Add.f k l v.f0 v.f1 v.f2 v.f3 = some (addTo l v) ∧ sextonref22_Add.f k l v.f0 v.f1 v.f2 v.f3 = some (addTo l v) := by
  simp only [quorum_Add.f, sextonref22_Add.f]
  have h1 := addq_loop l v hl hv hw l.length k 0 [] (by omega) (by omega) (by simp) hk
  have h2 := addr_loop l v hl hv hw l.length k 0 [] (by omega) (by omega) (by simp) hk
  exact ⟨by simpa [addTo] using h1, by simpa [addTo] using h2⟩
theorem smudge_loop (d : Nat) : ∀ (k i : Nat) (l : List ByteArray), l.length ≤ 1000 → l.length - i = d → i ≤ l.length → d < k → ∃ r, sextonlaw22_smudge.l0 k l (i : Int) = some r ∧ r.length = l.length := by
  induction d with
  | zero =>
    intro k i l hm hd hi hk
    obtain ⟨k, rfl⟩ : ∃ m, k = m + 1 := ⟨k - 1, by omega⟩
    simp only [sextonlaw22_smudge.l0]
    rw [if_neg (by omega)]
    exact ⟨l, rfl, rfl⟩
  | succ d ih =>
    intro k i l hm hd hi hk
    obtain ⟨k, rfl⟩ : ∃ m, k = m + 1 := ⟨k - 1, by omega⟩
    simp only [sextonlaw22_smudge.l0]
    rw [if_pos (by omega), if_pos (by omega), wrap_nat i (by omega)]
    obtain ⟨r, h1, h2⟩ := ih k (i + 1) (l.set (i : Int).toNat ⟨#[115, 109, 117, 100, 103, 101]⟩) (by rw [List.length_set]; exact hm) (by rw [List.length_set]; omega) (by rw [List.length_set]; omega) (by omega)
    exact ⟨r, h1, by rw [h2, List.length_set]⟩
theorem smudge_of (l : List ByteArray) (hm : l.length ≤ 1000) (k : Nat) (hk : l.length < k) : ∃ r, sextonlaw22_smudge.f k l = some r ∧ r.length = l.length := smudge_loop l.length k 0 l hm (by omega) (by omega) hk
end Go.Proofs.Ytgphefohdbgokaa.SpecT
end
section
set_option linter.unusedVariables false
set_option linter.unusedSimpArgs false
namespace Go.Proofs.Ytgphefohdbgokaa.SpecT
open Go.RowKit Go.Proofs.YtgphefohdbgokaaW.PrintWords Go.Proofs.YtgphefohdbgokaaW.PrintLast Go.Proofs.YtgphefohdbgokaaW.PrintMore Go.Proofs.Ytgphefohdbgokaa.P
theorem maj_of (n : Int) (h1 : 1 ≤ n) (h2 : n ≤ 9223372036854775807) : sextonref22_Majority.f n = some (n / 2 + 1) := by
  unfold sextonref22_Majority.f
  rw [if_neg (by omega)]
  congr 1
  rw [Int.tdiv_eq_ediv_of_nonneg (by omega)]
  unfold wrap64
  omega
theorem rdI_nat (l : List Int) (i : Nat) (h : i < l.length) : rd l (i : Int) = l[i] := by
  unfold rd
  simp [List.getD_eq_getElem?_getD, List.getElem?_eq_getElem h]
theorem commit_inner (l : List Int) (hm : l.length ≤ 1000) (b : Int) (i : Nat) (hi : i < l.length) (d : Nat) : ∀ (k j many : Nat), l.length - j = d → j ≤ l.length → many ≤ j →
    sextonref22_Commit.l1 (k + d + 1) l b (i : Int) (many : Int) (j : Int) = sextonref22_Commit.l0 k l (if l.length / 2 + 1 ≤ many + atLeast (l.drop j) l[i] then max b l[i] else b) ((i + 1 : Nat) : Int) := by
  induction d with
  | zero =>
    intro k j many hd hj hmj
    have hmaj : sextonref22_Majority.f (l.length : Int) = some ((l.length : Int) / 2 + 1) := maj_of _ (by omega) (by omega)
    simp only [sextonref22_Commit.l1]
    rw [if_neg (by omega), hmaj, Option.bind_some, List.drop_eq_nil_of_le (by omega)]
    have e : atLeast ([] : List Int) l[i] = 0 := rfl
    rw [e]
    by_cases h : (many : Int) ≥ (l.length : Int) / 2 + 1
    · rw [if_pos h, if_pos (by omega), if_pos (by omega), rdI_nat l i hi, wrap_nat i (by omega), if_pos (show l.length / 2 + 1 ≤ many + 0 by omega)]
      have : mx b l[i] = max b l[i] := by unfold mx; omega
      rw [this]
    · rw [if_neg h, wrap_nat i (by omega), if_neg (show ¬ l.length / 2 + 1 ≤ many + 0 by omega)]
  | succ d ih =>
    intro k j many hd hj hmj
    have hj' : j < l.length := by omega
    have hk : k + (d + 1) + 1 = (k + d + 1) + 1 := by omega
    rw [hk]
    have ih1 := ih k (j + 1) (many + 1) (by omega) (by omega) (by omega)
    have ih2 := ih k (j + 1) many (by omega) (by omega) (by omega)
    generalize k + d + 1 = F at ih1 ih2 ⊢
    simp only [sextonref22_Commit.l1]
    rw [if_pos (by omega), if_pos (by omega), if_pos (by omega), if_pos (by omega), rdI_nat l j hj', rdI_nat l i hi, wrap_nat j (by omega), wrap_nat many (by omega), List.drop_eq_getElem_cons hj']
    have e : atLeast (l[j] :: l.drop (j + 1)) l[i] = (if l[i] ≤ l[j] then 1 else 0) + atLeast (l.drop (j + 1)) l[i] := by
      unfold atLeast
      rw [List.countP_cons]
      by_cases h : l[i] ≤ l[j]
      · simp [h]; omega
      · simp [h]
    rw [e]
    by_cases h : l[j] ≥ l[i]
    · rw [if_pos h, if_pos (show l[i] ≤ l[j] from h), ih1]
      have : many + 1 + atLeast (l.drop (j + 1)) l[i] = many + (1 + atLeast (l.drop (j + 1)) l[i]) := by omega
      rw [this]
    · rw [if_neg h, if_neg (show ¬ l[i] ≤ l[j] from h), ih2, Nat.zero_add]
theorem commit_outer (l : List Int) (hm : l.length ≤ 1000) (d : Nat) : ∀ (k i : Nat) (b : Int), l.length - i = d → i ≤ l.length →
    sextonref22_Commit.l0 (k + d * (l.length + 2) + 1) l b (i : Int) = some (topOf (l.length / 2 + 1) l (l.drop i) b) := by
  induction d with
  | zero =>
    intro k i b hd hi
    simp only [sextonref22_Commit.l0]
    rw [if_neg (by omega), List.drop_eq_nil_of_le (by omega)]
    rfl
  | succ d ih =>
    intro k i b hd hi
    have hi' : i < l.length := by omega
    have hk : k + (d + 1) * (l.length + 2) + 1 = ((k + d * (l.length + 2) + 1) + l.length + 1) + 1 := by rw [Nat.add_mul]; omega
    rw [hk]
    have h := commit_inner l hm b i hi' l.length (k + d * (l.length + 2) + 1) 0 0 (by omega) (by omega) (by omega)
    have h0 : ((0 : Nat) : Int) = 0 := rfl
    rw [h0] at h
    generalize (k + d * (l.length + 2) + 1) + l.length + 1 = F at h ⊢
    simp only [sextonref22_Commit.l0]
    rw [if_pos (by omega), h, ih k (i + 1) _ (by omega) (by omega), List.drop_eq_getElem_cons hi', List.drop_zero, Nat.zero_add]
    rfl
theorem commit_both (l : List Int) (hm : l.length ≤ 1000) : ∃ r, quorum_Commit.f l = some r ∧ ∃ k0, ∀ k, k0 ≤ k → sextonref22_Commit.f k l = some r := by
  have hs : ∃ k0, ∀ k, k0 ≤ k → sextonref22_Commit.f k l = some (topOf (l.length / 2 + 1) l l 0) := by
    refine ⟨l.length * (l.length + 2) + 1, fun k hk => ?_⟩
    have h := commit_outer l hm l.length (k - (l.length * (l.length + 2) + 1)) 0 0 (by omega) (by omega)
    have e : k - (l.length * (l.length + 2) + 1) + l.length * (l.length + 2) + 1 = k := by omega
    rw [e, List.drop_zero] at h
    exact h
  refine ⟨_, ?_, hs⟩
  unfold quorum_Commit.f
  by_cases h0 : l.length = 0
  · rw [if_pos h0]
    have : l = [] := List.length_eq_zero_iff.1 h0
    subst this
    rfl
  · rw [if_neg h0, if_pos (by omega), top_sorted l (quorum_Commit.sorted l) (quorum_Commit.sorted_perm l) (quorum_Commit.sorted_sorted l) h0]
def unlike (l : List S29) (i : Nat) (hi : i < l.length) (j : Nat) : Bool := ((l.take i).drop j).all (fun v => decide (v.f0 ≠ l[i].f0))
theorem enough_inner (l : List S29) (hm : l.length ≤ 1000) (n : Int) (many : Nat) (i : Nat) (hi : i < l.length) (hmi : many ≤ i) (d : Nat) : ∀ (k j : Nat) (first : Bool), i - j = d → j ≤ i →
    sextonref22_Enough.l1 (k + d + 1) l n (many : Int) (i : Int) first (j : Int) = sextonref22_Enough.l0 k l n (((if (first && unlike l i hi j) = true then many + 1 else many) : Nat) : Int) ((i + 1 : Nat) : Int) := by
  induction d with
  | zero =>
    intro k j first hd hj
    have hji : j = i := by omega
    subst hji
    simp only [sextonref22_Enough.l1]
    have e : unlike l j hi j = true := by unfold unlike; rw [List.drop_eq_nil_of_le (by rw [List.length_take]; omega)]; rfl
    rw [if_neg (by omega), wrap_nat j (by omega), wrap_nat many (by omega), e]
    cases first <;> simp
  | succ d ih =>
    intro k j first hd hj
    have hj' : j < i := by omega
    have hjl : j < l.length := by omega
    have hk : k + (d + 1) + 1 = (k + d + 1) + 1 := by omega
    rw [hk]
    have ih1 := fun (first : Bool) => ih k (j + 1) first (by omega) (by omega)
    generalize k + d + 1 = F at ih1 ⊢
    simp only [sextonref22_Enough.l1]
    have e : unlike l i hi j = (decide (l[j].f0 ≠ l[i].f0) && unlike l i hi (j + 1)) := by
      unfold unlike
      have hjt : j < (l.take i).length := by rw [List.length_take]; omega
      rw [List.drop_eq_getElem_cons hjt, List.all_cons, List.getElem_take]
    rw [if_pos (by omega), wrap_nat j (by omega), e]
    cases first with
    | true =>
      rw [if_pos rfl, if_pos (by omega), if_pos (by omega), if_pos (by omega), if_pos (by omega), rd29_nat l j hjl, rd29_nat l i hi, ih1]
      have e2 : (l[j].f0 != l[i].f0) = decide (l[j].f0 ≠ l[i].f0) := by
        by_cases h : l[j].f0 = l[i].f0 <;> simp [h]
      rw [e2]
      rfl
    | false =>
      rw [if_neg (by simp), ih1]
      rfl
theorem map_unlike (l : List S29) (i : Nat) (hi : i < l.length) : unlike l i hi 0 = ((l.map (·.f0)).take i).all (fun a => decide (a ≠ (l.map (·.f0))[i]'(by rw [List.length_map]; exact hi))) := by
  unfold unlike
  rw [List.drop_zero, ← List.map_take, List.all_map, List.getElem_map]
  rfl
theorem enough_outer (l : List S29) (hm : l.length ≤ 1000) (n : Int) (h1 : 1 ≤ n) (h2 : n ≤ 9223372036854775807) (d : Nat) : ∀ (k i : Nat), l.length - i = d → i ≤ l.length →
    sextonref22_Enough.l0 (k + d * (l.length + 2) + 1) l n ((newOnes (l.map (·.f0)) i : Nat) : Int) (i : Int) = some (decide (n / 2 + 1 ≤ ((newOnes (l.map (·.f0)) l.length : Nat) : Int))) := by
  induction d with
  | zero =>
    intro k i hd hi
    have : i = l.length := by omega
    subst this
    simp only [sextonref22_Enough.l0]
    rw [if_neg (by omega), maj_of n h1 h2]
    rfl
  | succ d ih =>
    intro k i hd hi
    have hi' : i < l.length := by omega
    have hle : newOnes (l.map (·.f0)) i ≤ i := by
      unfold newOnes
      exact Nat.le_trans (List.length_filter_le _ _) (by simp)
    have hk : k + (d + 1) * (l.length + 2) + 1 = ((k + d * (l.length + 2) + 1 + (l.length - i)) + i + 1) + 1 := by rw [Nat.add_mul]; omega
    rw [hk]
    have h := enough_inner l hm n (newOnes (l.map (·.f0)) i) i hi' hle i (k + d * (l.length + 2) + 1 + (l.length - i)) 0 true (by omega) (by omega)
    have h0 : ((0 : Nat) : Int) = 0 := rfl
    rw [h0] at h
    generalize (k + d * (l.length + 2) + 1 + (l.length - i)) + i + 1 = F at h ⊢
    simp only [sextonref22_Enough.l0]
    rw [if_pos (by omega), h]
    have hs := newOnes_succ (l.map (·.f0)) i (by rw [List.length_map]; exact hi')
    have hc : (if (true && unlike l i hi' 0) = true then newOnes (l.map (·.f0)) i + 1 else newOnes (l.map (·.f0)) i) = newOnes (l.map (·.f0)) (i + 1) := by
      rw [hs, Bool.true_and, map_unlike]
      split <;> rfl
    rw [hc]
    have e : k + d * (l.length + 2) + 1 + (l.length - i) = (k + (l.length - i)) + d * (l.length + 2) + 1 := by omega
    rw [e]
    exact ih (k + (l.length - i)) (i + 1) (by omega) (by omega)
theorem froms_seen (l : List S29) : quorum_Enough.froms l = seenOf (l.map (·.f0)) := by
  unfold quorum_Enough.froms seenOf
  rw [List.foldl_map]
theorem enough_both (l : List S29) (hm : l.length ≤ 1000) (n : Int) (h2 : n ≤ 9223372036854775807) (hw : ∀ v, v ∈ l → (Lit.int .i64 v.f0).wf = true) : ∃ r, quorum_Enough.f l n = some r ∧ ∃ k0, ∀ k, k0 ≤ k → sextonref22_Enough.f k l n = some r := by
  by_cases h1 : n < 1
  · refine ⟨false, ?_, 0, fun k _ => ?_⟩
    · unfold quorum_Enough.f; rw [if_pos h1]
    · unfold sextonref22_Enough.f; rw [if_pos h1]
  · refine ⟨decide (n / 2 + 1 ≤ ((quorum_Enough.froms l).length : Int)), ?_, l.length * (l.length + 2) + 1, fun k hk => ?_⟩
    · unfold quorum_Enough.f
      rw [if_neg h1, if_pos ⟨List.all_eq_true.2 hw, by omega, h2⟩]
    · unfold sextonref22_Enough.f
      rw [if_neg h1]
      have h := enough_outer l hm n (by omega) h2 l.length (k - (l.length * (l.length + 2) + 1)) 0 (by omega) (by omega)
      have e : k - (l.length * (l.length + 2) + 1) + l.length * (l.length + 2) + 1 = k := by omega
      rw [e] at h
      have h3 := newOnes_all (l.map (·.f0))
      rw [List.length_map] at h3
      rw [h3, ← froms_seen] at h
      exact h
end Go.Proofs.Ytgphefohdbgokaa.SpecT
end
section
namespace Go.Proofs.Ytgphefohdbgokaa.P
open Go.RowKit Go.Proofs.YtgphefohdbgokaaW.PrintWords Go.Proofs.YtgphefohdbgokaaW.PrintLast Go.Proofs.YtgphefohdbgokaaW.PrintMore Go.Proofs.Ytgphefohdbgokaa.SpecT
set_option linter.unusedVariables false
set_option linter.unusedSimpArgs false
theorem primary_some (a b : Int) : ∃ q1 q2, quorum_Primary.f a b = some (q1, q2) ∧ sextonref22_Primary.f a b = some (q1, q2) := by
  have h : sextonref22_Primary.f a b = quorum_Primary.f a b := rfl
  rw [h]
  unfold quorum_Primary.f
  by_cases h1 : a < 0
  · rw [if_pos h1]; exact ⟨_, _, rfl, rfl⟩
  · rw [if_neg h1]
    by_cases h2 : b < 1
    · rw [if_pos h2]; exact ⟨_, _, rfl, rfl⟩
    · rw [if_neg h2, if_neg (by omega)]; exact ⟨_, _, rfl, rfl⟩
theorem majority_some (n : Int) : ∃ m, quorum_Majority.f n = some m ∧ sextonref22_Majority.f n = some m := by
  have h : sextonref22_Majority.f n = quorum_Majority.f n := rfl
  rw [h]
  unfold quorum_Majority.f
  by_cases h1 : n < 1
  · rw [if_pos h1]; exact ⟨_, rfl, rfl⟩
  · rw [if_neg h1]; exact ⟨_, rfl, rfl⟩
theorem samevote_self (r1 r2 r3 : Int) (r4 : List ByteArray) (h : r4.length ≤ 1000) (K : Nat) (hK : 1000 < K) : sextonref22_SameVote.f K r1 r2 r3 r4 r1 r2 r3 r4 = some true := by
  simp only [sextonref22_SameVote.f]
  rw [if_pos trivial, if_pos trivial, if_pos trivial, texts_self r4 (by omega) K (by omega)]
  rfl
theorem tells_law (view n : Int) (l : List S29) (v : S29) (acks : List Int) (w0 : (Lit.int .i64 view).wf = true) (w1 : (Lit.int .i64 n).wf = true) (b2 : l.length ≤ 9223372036854775807 ∧ ∀ y0 ∈ l, B29 y0) (b3 : B29 v) (b4 : acks.length ≤ 9223372036854775807 ∧ ∀ y0 ∈ acks, (Lit.int .i64 y0).wf = true)
    (A2 A3 A4 : Option Addr) (c2 c3 c4 : Nat) (w : World) (h2 : Kd.C k29 w A2 l.length l) (l2 : l.length ≤ c2) (h3 : Kd.C Kd.string w A3 v.f3.length v.f3) (l3 : v.f3.length ≤ c3) (h4 : Kd.C (Kd.int .i64) w A4 acks.length acks) (l4 : acks.length ≤ c4) :
    Calls Try.prog 7 #[.int .i64 view, .int .i64 n, .slice A2 l.length c2, .agg #[.int .i64 v.f0, .int .i64 v.f1, .int .i64 v.f2, .slice A3 v.f3.length c3], .slice A4 acks.length c4] w fun e w' => e = .returned (.bool true) ∧ Below w.heap.size w w' := by
  have hbig : ∀ K, 64 + 9223372036854775807 < K → sextonref22_Big.f K l = some (bigVs l) := fun K hK => big22_of l b2.1 9223372036854775807 (by omega) (fun y hy => (b2.2 y hy).2.2.2.1) K hK
  have hbig2 : ∀ K, 64 + 9223372036854775807 < K → sextonref22_Big.f K [v] = some (bigVs [v]) := fun K hK => big22_of [v] (by simp) 9223372036854775807 (by omega) (fun y hy => by rw [List.mem_singleton.1 hy]; exact b3.2.2.2.1) K hK
  by_cases c1 : bigVs l = true
  · exact tells_far1 view n l v acks A2 A3 A4 c2 c3 c4 w h2 l2 (65 + 9223372036854775807) (by rw [hbig _ (by omega), c1])
  have c1' : bigVs l = false := by simpa using c1
  by_cases d1 : bigVs [v] = true
  · exact tells_far2 view n l v acks A2 A3 A4 c2 c3 c4 w h2 l2 h3 l3 (65 + 9223372036854775807) (by rw [hbig _ (by omega), c1']) (by rw [hbig2 _ (by omega), d1])
  have d1' : bigVs [v] = false := by simpa using d1
  by_cases e1 : (acks.length : Int) > 60
  · exact tells_far3 view n l v acks A2 A3 A4 c2 c3 c4 w h2 l2 h3 l3 (65 + 9223372036854775807) (by rw [hbig _ (by omega), c1']) (by rw [hbig2 _ (by omega), d1']) (decide_eq_true e1)
  obtain ⟨hl30, hl70⟩ := bigVs_not c1'
  have hv70 : v.f3.length ≤ 70 := (bigVs_not d1').2 v (by simp)
  have hn : n ≤ 9223372036854775807 := by
    have h := w1
    simp [Lit.wf, IntKind.signed, IntKind.bits] at h
    omega
  obtain ⟨q1, q2, hp1, hp2⟩ := primary_some view n
  obtain ⟨m, hm1, hm2⟩ := majority_some n
  obtain ⟨eb, he1, ke, he2⟩ := enough_both l (by omega) n hn (fun y hy => (b2.2 y hy).1)
  obtain ⟨cm, hc1, kc, hc2⟩ := commit_both acks (by omega)
  obtain ⟨K, hK⟩ : ∃ K, 9223372036854775807 + 100000 + ke + kc ≤ K := ⟨_, Nat.le_refl _⟩
  have hl3 : ∀ y, y ∈ l → y.f3.length ≤ 1000 := fun y hy => by have := hl70 y hy; omega
  obtain ⟨r1, r2, r3, r4, r5, hs1, hs2, hr4⟩ := best_both l (by omega) hl3 K (by omega)
  obtain ⟨ha1, ha2⟩ := add_both l v (by omega) (by omega) hl3 K (by omega)
  have hxl : (addTo l v).length ≤ 1000 := by
    unfold addTo
    rw [List.length_append, List.length_singleton]
    have := List.length_filter_le (fun y : S29 => decide (y.f0 ≠ v.f0)) l
    omega
  have hx3 : ∀ y, y ∈ addTo l v → y.f3.length ≤ 1000 := by
    intro y hy
    rcases List.mem_append.1 hy with hy | hy
    · exact hl3 y (List.mem_filter.1 hy).1
    · rw [List.mem_singleton.1 hy]; omega
  refine tells_main view n l v acks A2 A3 A4 c2 c3 c4 w h2 l2 h3 l3 h4 l4 K (by rw [hbig _ (by omega), c1']) (by rw [hbig2 _ (by omega), d1']) (decide_eq_false e1) (by omega)
    (own_of l (by omega) hl3 K (by omega)) q1 q2 hp1 hp2 r1 r2 r3 r4 r5 hs1 hs2 hr4 (addTo l v) ha1 ha2 hxl hx3 (samevote_self r1 r2 r3 r4 hr4 K (by omega)) (votes_self _ (by omega) 1000 (by omega) hx3 K (by omega)) m hm1 hm2 eb he1 (he2 K (by omega)) cm hc1 (hc2 K (by omega))
    (fun r hr => smudge_of r hr K (by omega)) (at_rounds sextonlaw22_most.mono (by omega) sextonlaw22_most.now) (ints_self acks (by omega) K (by omega)) (votes_self l (by omega) 1000 (by omega) hl3 K (by omega))
end Go.Proofs.Ytgphefohdbgokaa.P
end
