/- Part 4 of the walk. -/
import Derived.Test.YtfpfpckocemmdaaCAgain03
section
namespace Go.Proofs.Ytfpfpckocemmdaa.P
open Go.RowKit Go.Proofs.YtfpfpckocemmdaaW.PrintWords Go.Proofs.YtfpfpckocemmdaaW.PrintLast Go.Proofs.YtfpfpckocemmdaaW.PrintMore
attribute [local go_sem] max2_int min2_int max_two min_two max_three min_three max_four min_four   -- for this text's walks alone
set_option linter.unusedVariables false
set_option linter.unusedSimpArgs false
def quorum_Enough.froms (l : List S66) : List Int := l.foldl (fun a v => if a.contains v.f0 then a else v.f0 :: a) []
theorem quorum_Enough.froms_append (l : List S66) (v : S66) : quorum_Enough.froms (l ++ [v]) = if (quorum_Enough.froms l).contains v.f0 then quorum_Enough.froms l else v.f0 :: quorum_Enough.froms l := by simp [quorum_Enough.froms]
def quorum_Enough.Inv (D : DataW Unit) (ks : List Int) : Prop := Maps.size D = ks.length ∧ ∀ c : Int, Maps.has D (.int .i64 c) = ks.contains c
theorem quorum_Enough.inv_put {w : World} {b n : Nat} {D : DataW Unit} {ks : List Int} (ho : w.ownsMap Try.prog 3 (plainElem Try.prog 4) b n D) (h : quorum_Enough.Inv D ks) (c : Int) (d : DataW Unit) : quorum_Enough.Inv (D.put (.int .i64 c) d) (if ks.contains c then ks else c :: ks) := by
  have hk : WideAt.IsKeyLit (.int .i64 c) := trivial
  refine ⟨?_, fun c' => ?_⟩
  · rw [Maps.size_put (ho.tidy (Maps.int_keyed Try.underlying3)), h.1, h.2 c]
    split <;> simp
  · by_cases he : c' = c
    · subst he
      rw [Maps.has_put_same ho.isMap hk]
      split
      · rename_i h1; exact h1.symm
      · simp
    · rw [Maps.has_put_other (by simpa using he), h.2 c']
      split
      · rfl
      · simp [he]
def quorum_Enough.f (l0 : List S66) (a1 : Int) : Option Bool := if a1 < 1 then some false else if l0.all (fun v => (Lit.int .i64 v.f0).wf) = true ∧ l0.length < 4398046511104 ∧ a1 ≤ 9223372036854775807 then some (decide (a1 / 2 + 1 ≤ ((quorum_Enough.froms l0).length : Int))) else none
theorem quorum_Enough.maj (n : Int) (h0 : 1 ≤ n) (hn : n ≤ 9223372036854775807) (w : World) :
    Calls Try.prog 58 #[.int .i64 n] w fun e w' => e = .returned (.int .i64 (n / 2 + 1)) ∧ Drawn0 w w' := by
  have c2b0 : decide (n < 1) = false := decide_eq_false (by omega)
  have hw : IntKind.i64.wrap (IntKind.i64.wrap (Int.tdiv n 2) + 1) = n / 2 + 1 := by
    rw [Int.tdiv_eq_ediv_of_nonneg (by omega), IntKind.wrap_i64, IntKind.wrap_i64]
    omega
  go_enter Try.func58, Try.ntmps58
  go_wp2
  go_ret
  refine ⟨?_, by repeat (first | exact Drawn0.refl _ | apply Drawn0.step)⟩
  simp [hw]
set_option maxHeartbeats 8000000 in
set_option maxRecDepth 100000 in
theorem quorum_Enough.calls (A0 : Option Addr) (c0 : Nat) (l0 : List S66) (a1 : Int) (r : Bool) (w : World) (hr0 : Kd.C k66 w A0 l0.length l0) (hc0 : l0.length ≤ c0) (h : quorum_Enough.f l0 a1 = some r) :
    Calls Try.prog 51 #[.slice A0 l0.length c0, .int .i64 a1] w fun e w' => e = .returned (.bool r) ∧ Below w.heap.size w w' := by
  have hu66 := Try.underlying66
  have hu69 := Try.underlying69
  have HR := Aside0.mk hr0
  have HC := Aside0.mk hc0
  clear hr0 hc0
  unfold quorum_Enough.f at h
  by_cases h0 : a1 < 1
  · rw [if_pos h0] at h
    obtain rfl := Option.some.inj h
    have hb : decide (a1 < 1) = true := decide_eq_true h0
    go_enter Try.func51, Try.ntmps51
    go_wp2
    go_ret
    exact ⟨rfl, Below.refl _ _⟩
  rw [if_neg h0] at h
  split at h
  case isFalse => cases h
  rename_i hl
  obtain ⟨hwf, hl, ha1⟩ := hl
  have hr := Option.some.inj h
  clear h
  have HR1 := Aside0.mk hr
  have HWF := Aside0.mk hwf
  have HL := Aside0.mk hl
  clear hr hwf hl
  have hb : decide (a1 < 1) = false := decide_eq_false h0
  have hmk : ∀ W : World, (Instr.makeMap 69 none).run Try.prog W = .ok (.map (some W.heap.size)) (W.alloc (.map #[] 0)) := fun _ => rfl
  have HM := Aside0.mk (quorum_Enough.maj a1 (by omega) ha1)
  have h01 := Aside0.mk h0
  have ha11 := Aside0.mk ha1
  clear h0 ha1
  go_enter Try.func51, Try.ntmps51
  go_wp2
  go_loopg [13] l0.length (fun kq v13 w' => ∃ (i : Nat) (D : DataW Unit), v13 = .int .i64 (i : Int) ∧ Aside0 (kq = l0.length - i ∧ i ≤ l0.length) ∧ Aside0 (w'.ownsMap Try.prog 3 (plainElem Try.prog 4) w.heap.size i D) ∧ Aside0 (quorum_Enough.Inv D (quorum_Enough.froms (l0.take i))) ∧ Aside0 (Below w.heap.size w w'))
  case atStart =>
    refine ⟨0, .map [], rfl, ⟨by simp, by omega⟩, ⟨World.ownsMap_made w _ _ _⟩, ⟨by rfl, fun c => by rfl⟩, ⟨below_alloc (Below.refl _ _) _⟩⟩
  case round =>
    obtain ⟨i, D, rfl, hi, HO, HI, HB⟩ := hrel
    by_cases hlt : i < l0.length
    · have hb1 : decide ((i : Int) < (l0.length : Int)) = true := decide_eq_true (by omega)
      have p1 : (0 : Int) ≤ (i : Int) := by omega
      have q1 : (i : Int) < (l0.length : Int) := by omega
      obtain ⟨ad, A3, c3, rfl, hx0, hx1, hx2, hx3, hl3, hi3⟩ := at_T66 HR.out (i : Int) p1 q1
      simp only [Int.toNat_natCast] at hx0 hx1 hx2 hx3
      replace hx0 := (HB.out.cell (World.block_lt_of_cell? w _ hx0)).trans hx0
      replace hx1 := (HB.out.cell (World.block_lt_of_cell? w _ hx1)).trans hx1
      replace hx2 := (HB.out.cell (World.block_lt_of_cell? w _ hx2)).trans hx2
      replace hx3 := (HB.out.cell (World.block_lt_of_cell? w _ hx3)).trans hx3
      have hwf : (Lit.int .i64 (rd_T66 l0 (i : Int)).f0).wf = true := by
        have h1 := List.all_eq_true.1 HWF.out l0[i] (List.getElem_mem hlt)
        simpa [rd_T66, List.getD_eq_getElem?_getD, List.getElem?_eq_getElem hlt] using h1
      have HT : l0.take (i + 1) = l0.take i ++ [rd_T66 l0 (i : Int)] := by
        rw [List.take_succ_eq_append_getElem hlt]
        simp [rd_T66, List.getD_eq_getElem?_getD, List.getElem?_eq_getElem hlt]
      have HT1 := Aside0.mk HT
      clear HT
      replace p1 := eq_true p1
      replace q1 := eq_true q1
      generalize hv : rd_T66 l0 (i : Int) = v at *
      clear hv
      have HI2 := Aside0.mk (quorum_Enough.inv_put HO.out HI.out v.f0 (.lit (.bool true)))
      have hkey : keyOf Try.prog 3 (.int .i64 v.f0) = some (.int .i64 v.f0) := Maps.keyOf_int_mk Try.underlying3 hwf
      go_wp2_with (first | (at_mapUpdate; refine wpList_mapUpdate_own (H := Unit) _ rfl _ _ _ 69 rfl 3 4 (Maps.int_keyed Try.underlying3) Try.underlying69 (plainElem Try.prog 4) w.heap.size i D rfl ?own ?room _ _ (.int .i64 v.f0) rfl rfl hkey (.lit (.bool true)) [] (plainElem_bool Try.underlying4 true) ?_; (case own => exact HO.out.alloc _); (case room => have := HL.out; simp [maxLen]; omega); intro w2 ho2 hg2; have HO2 := Aside0.mk ho2; have HG2 := Aside0.mk hg2; clear ho2 hg2))
      go_roundg (l0.length - (i + 1))
      case measure => have := hi.out.1; omega
      case rel =>
        have hw : wrap64 ((i : Int) + 1) = ((i + 1 : Nat) : Int) := by have := HL.out; unfold wrap64; omega
        refine ⟨i + 1, D.put (.int .i64 v.f0) (.lit (.bool true)), by rw [hw], ⟨by have := hi.out; omega, by omega⟩, HO2, ⟨?_⟩, ⟨?_⟩⟩
        · rw [HT1.out, quorum_Enough.froms_append]
          exact HI2.out
        · exact Below.grown (below_alloc HB.out _) HG2.out (by have := HO.out.lt; have := HB.out; simp; omega) (fun k hk => by injection hk with hk; omega)
    · have hb1 : decide ((i : Int) < (l0.length : Int)) = false := decide_eq_false (by omega)
      have hie : i = l0.length := by have := hi.out; omega
      subst hie
      have hlen := HO.out.len hu69 3
      have HI1 := HI.out
      rw [List.take_length] at HI1
      have hsz : Maps.size D = (quorum_Enough.froms l0).length := HI1.1
      rw [hsz] at hlen
      have HI3 := Aside0.mk HI1
      clear HI1 hsz HI
      go_wp2_with (first | (go_at_call 58; refine (HM.out _).mono ?_; rintro e w' ⟨rfl, ⟨nd, rfl⟩⟩))
      go_ret
      exact ⟨by rw [← HR1.out]; rfl, pw_below_drewN HB.out _⟩
def quorum_vote_over.f (a0_0 : Int) (a0_1 : Int) (a0_2 : Int) (l0_3 : List ByteArray) (a1_0 : Int) (a1_1 : Int) (a1_2 : Int) (l1_3 : List ByteArray) : Option (Bool) := if a0_1 > a1_1 then (some true) else (if a0_1 = a1_1 then (some (decide ((l0_3.length : Int) > (l1_3.length : Int)))) else (some false))
set_option maxHeartbeats 8000000 in
set_option maxRecDepth 100000 in
theorem quorum_vote_over.calls (a0_0 : Int) (a0_1 : Int) (a0_2 : Int) (A0_3 : Option Addr) (c0_3 : Nat) (l0_3 : List ByteArray) (a1_0 : Int) (a1_1 : Int) (a1_2 : Int) (A1_3 : Option Addr) (c1_3 : Nat) (l1_3 : List ByteArray) (r : Bool) (w : World) (hr0_3 : Kd.C Kd.string w A0_3 l0_3.length l0_3) (hc0_3 : l0_3.length ≤ c0_3) (hr1_3 : Kd.C Kd.string w A1_3 l1_3.length l1_3) (hc1_3 : l1_3.length ≤ c1_3) (h : quorum_vote_over.f a0_0 a0_1 a0_2 l0_3 a1_0 a1_1 a1_2 l1_3 = some r) :
    Calls Try.prog 59 #[.agg #[.int .i64 a0_0, .int .i64 a0_1, .int .i64 a0_2, .slice A0_3 l0_3.length c0_3], .agg #[.int .i64 a1_0, .int .i64 a1_1, .int .i64 a1_2, .slice A1_3 l1_3.length c1_3]] w fun e w' => e = .returned (.bool r) ∧ Below w.heap.size w w' := by
  have hu83 := Try.underlying83
  have HR0_3 := Aside0.mk hr0_3
  have HC0_3 := Aside0.mk hc0_3
  clear hr0_3 hc0_3
  have HR1_3 := Aside0.mk hr1_3
  have HC1_3 := Aside0.mk hc1_3
  clear hr1_3 hc1_3
  have HB := Aside0.mk (Below.refl w.heap.size w)
  have H : (if a0_1 > a1_1 then (some true) else (if a0_1 = a1_1 then (some (decide ((l0_3.length : Int) > (l1_3.length : Int)))) else (some false))) = some r := h
  clear h
  by_cases c3 : a0_1 > a1_1
  · rw [if_pos c3] at H
    have c3b0 : decide (a1_1 < a0_1) = true := decide_eq_true c3
    clear c3
    obtain rfl := Option.some.inj H
    go_enter Try.func59, Try.ntmps59
    go_wp2_with (first | ((with_reducible refine gate_dst (N := 2) rfl ?_); (try (refine gate_guard (by rfl) ?_; dsimp only)); refine box_event ?hg (N := 2) ?hd (cs := #[.int .i64 a0_0, .int .i64 a0_1, .int .i64 a0_2, .slice A0_3 l0_3.length c0_3]) (t := 83) ?hr ?_; (case hd => rfl); (case hg => rfl); (case hr => first | (go_simp; done) | (go_simp; rfl)); intro gb182 hg w4 hbox hb; have n0_ := Aside0.mk (below_step (by repeat (first | (with_reducible first | exact HB.out | apply below_alloc | apply pw_below_drewN | apply below_drew1) | exact HB.out)) hb); have n1_ := Aside0.mk (hbox); have n2_ := Aside0.mk ((by rw [hg]; exact (below_size (by repeat (first | (with_reducible first | exact HB.out | apply below_alloc | apply pw_below_drewN | apply below_drew1) | exact HB.out))) : w.heap.size ≤ gb182)); have n3_ := Aside0.mk ((by rw [hg]; exact (below_size (by repeat (first | (with_reducible first | exact HB.out | apply below_alloc | apply pw_below_drewN | apply below_drew1) | exact HB.out))) : w.heap.size ≤ gb182)); clear HB; have HB := n0_; have BK182 := n1_; have GW182 := n2_; have GE182 := n3_; clear n0_ n1_ n2_ n3_; clear hb hbox hg) | ((with_reducible refine gate_dst (N := 3) rfl ?_); (try (refine gate_guard (by rfl) ?_; dsimp only)); refine box_event ?hg (N := 3) ?hd (cs := #[.int .i64 a1_0, .int .i64 a1_1, .int .i64 a1_2, .slice A1_3 l1_3.length c1_3]) (t := 83) ?hr ?_; (case hd => rfl); (case hg => rfl); (case hr => first | (go_simp; done) | (go_simp; rfl)); intro gb183 hg w5 hbox hb; have n0_ := Aside0.mk (blk_below (g := gb182) (o := .cells #[.int .i64 a0_0, .int .i64 a0_1, .int .i64 a0_2, .slice A0_3 l0_3.length c0_3] 83 (0, 0)) (by (with_reducible repeat (first | refine blk_drewN ?_ _ | refine blk_drew ?_ | refine blk_alloc ?_ _)); exact BK182.out) hb); have n1_ := Aside0.mk (below_step (by repeat (first | (with_reducible first | exact HB.out | apply below_alloc | apply pw_below_drewN | apply below_drew1 | refine below_set ?_ GE182.out) | exact HB.out)) hb); have n2_ := Aside0.mk (hbox); have n3_ := Aside0.mk ((by rw [hg]; exact (below_size (by repeat (first | (with_reducible first | exact HB.out | apply below_alloc | apply pw_below_drewN | apply below_drew1 | refine below_set ?_ GE182.out) | exact HB.out))) : w.heap.size ≤ gb183)); have n4_ := Aside0.mk ((by rw [hg]; exact (below_size (by repeat (first | (with_reducible first | exact HB.out | apply below_alloc | apply pw_below_drewN | apply below_drew1 | refine below_set ?_ GE182.out) | exact HB.out))) : w.heap.size ≤ gb183)); have n5_ := Aside0.mk ((by rw [hg]; exact Nat.ne_of_lt (blk_lt (g := gb182) (o := .cells #[.int .i64 a0_0, .int .i64 a0_1, .int .i64 a0_2, .slice A0_3 l0_3.length c0_3] 83 (0, 0)) (by (with_reducible repeat (first | refine blk_drewN ?_ _ | refine blk_drew ?_ | refine blk_alloc ?_ _)); exact BK182.out)) : gb182 ≠ gb183)); have n6_ := Aside0.mk ((by rw [hg]; exact Nat.ne_of_gt (blk_lt (g := gb182) (o := .cells #[.int .i64 a0_0, .int .i64 a0_1, .int .i64 a0_2, .slice A0_3 l0_3.length c0_3] 83 (0, 0)) (by (with_reducible repeat (first | refine blk_drewN ?_ _ | refine blk_drew ?_ | refine blk_alloc ?_ _)); exact BK182.out)) : gb183 ≠ gb182)); clear BK182; clear HB; have BK182 := n0_; have HB := n1_; have BK183 := n2_; have GW183 := n3_; have GE183 := n4_; have NB182_183 := n5_; have NB183_182 := n6_; clear n0_ n1_ n2_ n3_ n4_ n5_ n6_; clear hb hbox hg; have hnb6 := NB182_183.out; have hnc6 := NB183_182.out; have hcz7_0 : w5.cell? ⟨gb182, 0, none⟩ = some (.int .i64 a0_0) := (blk_cell BK182.out 0).trans rfl; have hcz7_1 : w5.cell? ⟨gb182, 1, none⟩ = some (.int .i64 a0_1) := (blk_cell BK182.out 1).trans rfl; have hcz7_2 : w5.cell? ⟨gb182, 2, none⟩ = some (.int .i64 a0_2) := (blk_cell BK182.out 2).trans rfl; have hcz7_3 : w5.cell? ⟨gb182, 3, none⟩ = some (.slice A0_3 l0_3.length c0_3) := (blk_cell BK182.out 3).trans rfl; have hfz7_0 := blk_frozen BK182.out 0; have hfz7_1 := blk_frozen BK182.out 1; have hfz7_2 := blk_frozen BK182.out 2; have hfz7_3 := blk_frozen BK182.out 3; have hcz8_0 : w5.cell? ⟨gb183, 0, none⟩ = some (.int .i64 a1_0) := (blk_cell BK183.out 0).trans rfl; have hcz8_1 : w5.cell? ⟨gb183, 1, none⟩ = some (.int .i64 a1_1) := (blk_cell BK183.out 1).trans rfl; have hcz8_2 : w5.cell? ⟨gb183, 2, none⟩ = some (.int .i64 a1_2) := (blk_cell BK183.out 2).trans rfl; have hcz8_3 : w5.cell? ⟨gb183, 3, none⟩ = some (.slice A1_3 l1_3.length c1_3) := (blk_cell BK183.out 3).trans rfl; have hfz8_0 := blk_frozen BK183.out 0; have hfz8_1 := blk_frozen BK183.out 1; have hfz8_2 := blk_frozen BK183.out 2; have hfz8_3 := blk_frozen BK183.out 3))
    go_ret
    exact ⟨by first | rfl | (simp [errW_none, errW_some] <;> rfl) | (simp [*, errW_none, errW_some] <;> rfl), by repeat (first | (with_reducible first | exact HB.out | apply below_alloc | apply pw_below_drewN | apply below_drew1 | refine below_set ?_ GE182.out | refine below_set ?_ GE183.out) | exact HB.out)⟩
  · rw [if_neg c3] at H
    have c3b0 : decide (a1_1 < a0_1) = false := decide_eq_false c3
    clear c3
    by_cases c9 : a0_1 = a1_1
    · rw [if_pos c9] at H
      have c9b0 : (a0_1 == a1_1) = true := beq_iff_eq.mpr c9
      have c9b1 : (a0_1 != a1_1) = false := bne_eq_false_iff_eq.mpr c9
      clear c9
      obtain rfl := Option.some.inj H
      go_enter Try.func59, Try.ntmps59
      go_wp2_with (first | ((with_reducible refine gate_dst (N := 2) rfl ?_); (try (refine gate_guard (by rfl) ?_; dsimp only)); refine box_event ?hg (N := 2) ?hd (cs := #[.int .i64 a0_0, .int .i64 a0_1, .int .i64 a0_2, .slice A0_3 l0_3.length c0_3]) (t := 83) ?hr ?_; (case hd => rfl); (case hg => rfl); (case hr => first | (go_simp; done) | (go_simp; rfl)); intro gb182 hg w10 hbox hb; have n0_ := Aside0.mk (below_step (by repeat (first | (with_reducible first | exact HB.out | apply below_alloc | apply pw_below_drewN | apply below_drew1) | exact HB.out)) hb); have n1_ := Aside0.mk (hbox); have n2_ := Aside0.mk ((by rw [hg]; exact (below_size (by repeat (first | (with_reducible first | exact HB.out | apply below_alloc | apply pw_below_drewN | apply below_drew1) | exact HB.out))) : w.heap.size ≤ gb182)); have n3_ := Aside0.mk ((by rw [hg]; exact (below_size (by repeat (first | (with_reducible first | exact HB.out | apply below_alloc | apply pw_below_drewN | apply below_drew1) | exact HB.out))) : w.heap.size ≤ gb182)); clear HB; have HB := n0_; have BK182 := n1_; have GW182 := n2_; have GE182 := n3_; clear n0_ n1_ n2_ n3_; clear hb hbox hg) | ((with_reducible refine gate_dst (N := 3) rfl ?_); (try (refine gate_guard (by rfl) ?_; dsimp only)); refine box_event ?hg (N := 3) ?hd (cs := #[.int .i64 a1_0, .int .i64 a1_1, .int .i64 a1_2, .slice A1_3 l1_3.length c1_3]) (t := 83) ?hr ?_; (case hd => rfl); (case hg => rfl); (case hr => first | (go_simp; done) | (go_simp; rfl)); intro gb183 hg w11 hbox hb; have n0_ := Aside0.mk (blk_below (g := gb182) (o := .cells #[.int .i64 a0_0, .int .i64 a0_1, .int .i64 a0_2, .slice A0_3 l0_3.length c0_3] 83 (0, 0)) (by (with_reducible repeat (first | refine blk_drewN ?_ _ | refine blk_drew ?_ | refine blk_alloc ?_ _)); exact BK182.out) hb); have n1_ := Aside0.mk (below_step (by repeat (first | (with_reducible first | exact HB.out | apply below_alloc | apply pw_below_drewN | apply below_drew1 | refine below_set ?_ GE182.out) | exact HB.out)) hb); have n2_ := Aside0.mk (hbox); have n3_ := Aside0.mk ((by rw [hg]; exact (below_size (by repeat (first | (with_reducible first | exact HB.out | apply below_alloc | apply pw_below_drewN | apply below_drew1 | refine below_set ?_ GE182.out) | exact HB.out))) : w.heap.size ≤ gb183)); have n4_ := Aside0.mk ((by rw [hg]; exact (below_size (by repeat (first | (with_reducible first | exact HB.out | apply below_alloc | apply pw_below_drewN | apply below_drew1 | refine below_set ?_ GE182.out) | exact HB.out))) : w.heap.size ≤ gb183)); have n5_ := Aside0.mk ((by rw [hg]; exact Nat.ne_of_lt (blk_lt (g := gb182) (o := .cells #[.int .i64 a0_0, .int .i64 a0_1, .int .i64 a0_2, .slice A0_3 l0_3.length c0_3] 83 (0, 0)) (by (with_reducible repeat (first | refine blk_drewN ?_ _ | refine blk_drew ?_ | refine blk_alloc ?_ _)); exact BK182.out)) : gb182 ≠ gb183)); have n6_ := Aside0.mk ((by rw [hg]; exact Nat.ne_of_gt (blk_lt (g := gb182) (o := .cells #[.int .i64 a0_0, .int .i64 a0_1, .int .i64 a0_2, .slice A0_3 l0_3.length c0_3] 83 (0, 0)) (by (with_reducible repeat (first | refine blk_drewN ?_ _ | refine blk_drew ?_ | refine blk_alloc ?_ _)); exact BK182.out)) : gb183 ≠ gb182)); clear BK182; clear HB; have BK182 := n0_; have HB := n1_; have BK183 := n2_; have GW183 := n3_; have GE183 := n4_; have NB182_183 := n5_; have NB183_182 := n6_; clear n0_ n1_ n2_ n3_ n4_ n5_ n6_; clear hb hbox hg; have hnb12 := NB182_183.out; have hnc12 := NB183_182.out; have hcz13_0 : w11.cell? ⟨gb182, 0, none⟩ = some (.int .i64 a0_0) := (blk_cell BK182.out 0).trans rfl; have hcz13_1 : w11.cell? ⟨gb182, 1, none⟩ = some (.int .i64 a0_1) := (blk_cell BK182.out 1).trans rfl; have hcz13_2 : w11.cell? ⟨gb182, 2, none⟩ = some (.int .i64 a0_2) := (blk_cell BK182.out 2).trans rfl; have hcz13_3 : w11.cell? ⟨gb182, 3, none⟩ = some (.slice A0_3 l0_3.length c0_3) := (blk_cell BK182.out 3).trans rfl; have hfz13_0 := blk_frozen BK182.out 0; have hfz13_1 := blk_frozen BK182.out 1; have hfz13_2 := blk_frozen BK182.out 2; have hfz13_3 := blk_frozen BK182.out 3; have hcz14_0 : w11.cell? ⟨gb183, 0, none⟩ = some (.int .i64 a1_0) := (blk_cell BK183.out 0).trans rfl; have hcz14_1 : w11.cell? ⟨gb183, 1, none⟩ = some (.int .i64 a1_1) := (blk_cell BK183.out 1).trans rfl; have hcz14_2 : w11.cell? ⟨gb183, 2, none⟩ = some (.int .i64 a1_2) := (blk_cell BK183.out 2).trans rfl; have hcz14_3 : w11.cell? ⟨gb183, 3, none⟩ = some (.slice A1_3 l1_3.length c1_3) := (blk_cell BK183.out 3).trans rfl; have hfz14_0 := blk_frozen BK183.out 0; have hfz14_1 := blk_frozen BK183.out 1; have hfz14_2 := blk_frozen BK183.out 2; have hfz14_3 := blk_frozen BK183.out 3))
      go_ret
      exact ⟨by first | rfl | (simp [errW_none, errW_some] <;> rfl) | (simp [*, errW_none, errW_some] <;> rfl), by repeat (first | (with_reducible first | exact HB.out | apply below_alloc | apply pw_below_drewN | apply below_drew1 | refine below_set ?_ GE182.out | refine below_set ?_ GE183.out) | exact HB.out)⟩
    · rw [if_neg c9] at H
      have c9b0 : (a0_1 == a1_1) = false := beq_eq_false_iff_ne.mpr c9
      have c9b1 : (a0_1 != a1_1) = true := bne_iff_ne.mpr c9
      obtain rfl := Option.some.inj H
      go_enter Try.func59, Try.ntmps59
      go_wp2_with (first | ((with_reducible refine gate_dst (N := 2) rfl ?_); (try (refine gate_guard (by rfl) ?_; dsimp only)); refine box_event ?hg (N := 2) ?hd (cs := #[.int .i64 a0_0, .int .i64 a0_1, .int .i64 a0_2, .slice A0_3 l0_3.length c0_3]) (t := 83) ?hr ?_; (case hd => rfl); (case hg => rfl); (case hr => first | (go_simp; done) | (go_simp; rfl)); intro gb182 hg w15 hbox hb; have n0_ := Aside0.mk (below_step (by repeat (first | (with_reducible first | exact HB.out | apply below_alloc | apply pw_below_drewN | apply below_drew1) | exact HB.out)) hb); have n1_ := Aside0.mk (hbox); have n2_ := Aside0.mk ((by rw [hg]; exact (below_size (by repeat (first | (with_reducible first | exact HB.out | apply below_alloc | apply pw_below_drewN | apply below_drew1) | exact HB.out))) : w.heap.size ≤ gb182)); have n3_ := Aside0.mk ((by rw [hg]; exact (below_size (by repeat (first | (with_reducible first | exact HB.out | apply below_alloc | apply pw_below_drewN | apply below_drew1) | exact HB.out))) : w.heap.size ≤ gb182)); clear HB; have HB := n0_; have BK182 := n1_; have GW182 := n2_; have GE182 := n3_; clear n0_ n1_ n2_ n3_; clear hb hbox hg) | ((with_reducible refine gate_dst (N := 3) rfl ?_); (try (refine gate_guard (by rfl) ?_; dsimp only)); refine box_event ?hg (N := 3) ?hd (cs := #[.int .i64 a1_0, .int .i64 a1_1, .int .i64 a1_2, .slice A1_3 l1_3.length c1_3]) (t := 83) ?hr ?_; (case hd => rfl); (case hg => rfl); (case hr => first | (go_simp; done) | (go_simp; rfl)); intro gb183 hg w16 hbox hb; have n0_ := Aside0.mk (blk_below (g := gb182) (o := .cells #[.int .i64 a0_0, .int .i64 a0_1, .int .i64 a0_2, .slice A0_3 l0_3.length c0_3] 83 (0, 0)) (by (with_reducible repeat (first | refine blk_drewN ?_ _ | refine blk_drew ?_ | refine blk_alloc ?_ _)); exact BK182.out) hb); have n1_ := Aside0.mk (below_step (by repeat (first | (with_reducible first | exact HB.out | apply below_alloc | apply pw_below_drewN | apply below_drew1 | refine below_set ?_ GE182.out) | exact HB.out)) hb); have n2_ := Aside0.mk (hbox); have n3_ := Aside0.mk ((by rw [hg]; exact (below_size (by repeat (first | (with_reducible first | exact HB.out | apply below_alloc | apply pw_below_drewN | apply below_drew1 | refine below_set ?_ GE182.out) | exact HB.out))) : w.heap.size ≤ gb183)); have n4_ := Aside0.mk ((by rw [hg]; exact (below_size (by repeat (first | (with_reducible first | exact HB.out | apply below_alloc | apply pw_below_drewN | apply below_drew1 | refine below_set ?_ GE182.out) | exact HB.out))) : w.heap.size ≤ gb183)); have n5_ := Aside0.mk ((by rw [hg]; exact Nat.ne_of_lt (blk_lt (g := gb182) (o := .cells #[.int .i64 a0_0, .int .i64 a0_1, .int .i64 a0_2, .slice A0_3 l0_3.length c0_3] 83 (0, 0)) (by (with_reducible repeat (first | refine blk_drewN ?_ _ | refine blk_drew ?_ | refine blk_alloc ?_ _)); exact BK182.out)) : gb182 ≠ gb183)); have n6_ := Aside0.mk ((by rw [hg]; exact Nat.ne_of_gt (blk_lt (g := gb182) (o := .cells #[.int .i64 a0_0, .int .i64 a0_1, .int .i64 a0_2, .slice A0_3 l0_3.length c0_3] 83 (0, 0)) (by (with_reducible repeat (first | refine blk_drewN ?_ _ | refine blk_drew ?_ | refine blk_alloc ?_ _)); exact BK182.out)) : gb183 ≠ gb182)); clear BK182; clear HB; have BK182 := n0_; have HB := n1_; have BK183 := n2_; have GW183 := n3_; have GE183 := n4_; have NB182_183 := n5_; have NB183_182 := n6_; clear n0_ n1_ n2_ n3_ n4_ n5_ n6_; clear hb hbox hg; have hnb17 := NB182_183.out; have hnc17 := NB183_182.out; have hcz18_0 : w16.cell? ⟨gb182, 0, none⟩ = some (.int .i64 a0_0) := (blk_cell BK182.out 0).trans rfl; have hcz18_1 : w16.cell? ⟨gb182, 1, none⟩ = some (.int .i64 a0_1) := (blk_cell BK182.out 1).trans rfl; have hcz18_2 : w16.cell? ⟨gb182, 2, none⟩ = some (.int .i64 a0_2) := (blk_cell BK182.out 2).trans rfl; have hcz18_3 : w16.cell? ⟨gb182, 3, none⟩ = some (.slice A0_3 l0_3.length c0_3) := (blk_cell BK182.out 3).trans rfl; have hfz18_0 := blk_frozen BK182.out 0; have hfz18_1 := blk_frozen BK182.out 1; have hfz18_2 := blk_frozen BK182.out 2; have hfz18_3 := blk_frozen BK182.out 3; have hcz19_0 : w16.cell? ⟨gb183, 0, none⟩ = some (.int .i64 a1_0) := (blk_cell BK183.out 0).trans rfl; have hcz19_1 : w16.cell? ⟨gb183, 1, none⟩ = some (.int .i64 a1_1) := (blk_cell BK183.out 1).trans rfl; have hcz19_2 : w16.cell? ⟨gb183, 2, none⟩ = some (.int .i64 a1_2) := (blk_cell BK183.out 2).trans rfl; have hcz19_3 : w16.cell? ⟨gb183, 3, none⟩ = some (.slice A1_3 l1_3.length c1_3) := (blk_cell BK183.out 3).trans rfl; have hfz19_0 := blk_frozen BK183.out 0; have hfz19_1 := blk_frozen BK183.out 1; have hfz19_2 := blk_frozen BK183.out 2; have hfz19_3 := blk_frozen BK183.out 3))
      go_ret
      exact ⟨by first | rfl | (simp [errW_none, errW_some] <;> rfl) | (simp [*, errW_none, errW_some] <;> rfl), by repeat (first | (with_reducible first | exact HB.out | apply below_alloc | apply pw_below_drewN | apply below_drew1 | refine below_set ?_ GE182.out | refine below_set ?_ GE183.out) | exact HB.out)⟩
def quorum_Best.better (v o : S66) : Bool := if v.f1 > o.f1 then true else if v.f1 = o.f1 then decide ((v.f3.length : Int) > (o.f3.length : Int)) else false
theorem quorum_Best.better_of (v o : S66) : quorum_vote_over.f v.f0 v.f1 v.f2 v.f3 o.f0 o.f1 o.f2 o.f3 = some (quorum_Best.better v o) := by
  unfold quorum_vote_over.f quorum_Best.better
  split
  · rfl
  · split <;> rfl
def quorum_Best.best (l : List S66) (b : S66) : S66 := l.foldl (fun b v => if quorum_Best.better v b then v else b) b
theorem quorum_Best.best_append (l : List S66) (v b : S66) : quorum_Best.best (l ++ [v]) b = if quorum_Best.better v (quorum_Best.best l b) then v else quorum_Best.best l b := by unfold quorum_Best.best; rw [List.foldl_append]; rfl
def quorum_Best.f (l0 : List S66) : Option (Int × Int × Int × List ByteArray × Bool) := match l0 with
  | [] => some (0, 0, 0, [], false)
  | v :: l => if l.length < 4398046511104 ∧ (quorum_Best.best l v).f3.length < 4398046511104 then some ((quorum_Best.best l v).f0, (quorum_Best.best l v).f1, (quorum_Best.best l v).f2, (quorum_Best.best l v).f3, true) else none
set_option maxHeartbeats 8000000 in
set_option maxRecDepth 100000 in
theorem quorum_Best.calls (A0 : Option Addr) (c0 : Nat) (l0 : List S66) (r1 : Int) (r2 : Int) (r3 : Int) (r4 : List ByteArray) (r5 : Bool) (w : World) (hr0 : Kd.C k66 w A0 l0.length l0) (hc0 : l0.length ≤ c0) (h : quorum_Best.f l0 = some (r1, r2, r3, r4, r5)) :
    Calls Try.prog 52 #[.slice A0 l0.length c0] w fun e w' => ∃ v3_ : Value, e = .returned (.tuple #[.agg #[.int .i64 r1, .int .i64 r2, .int .i64 r3, v3_], .bool r5]) ∧ Kd.R Kd.string 9 w' w.heap.size (fun _ => True) v3_ r4 ∧ Below w.heap.size w w' := by
  have hu66 := Try.underlying66
  have hu83 := Try.underlying83
  have hu24 := Try.underlying24
  have HR := Aside0.mk hr0
  have HC := Aside0.mk hc0
  clear hr0 hc0
  have hcs : l0 = [] ∨ ∃ v0 tl, l0 = v0 :: tl := by cases l0 <;> simp
  rcases hcs with hl0 | ⟨v0, tl, hl0⟩
  · subst hl0
    have h := Option.some.inj h
    injection h with h1 h
    injection h with h2 h
    injection h with h3 h
    injection h with h4 h5
    subst h1; subst h2; subst h3; subst h4; subst h5
    go_enter Try.func52, Try.ntmps52
    go_wp2
    refine bodyPost_ret (results_ct rfl _ _ w.heap.size 66 #[.int .i64 0, .int .i64 0, .int .i64 0, .slice none 0 0] (0, 0) _ rfl ?_ Try.underlying66 rfl (by kernel_rfl)) rfl ?_
    · exact x_alloc_new _ _
    exact ⟨_, rfl, Kd.R_nil _ _ _ _ _, below_alloc (Below.refl _ _) _⟩
  · have h' : (if tl.length < 4398046511104 ∧ (quorum_Best.best tl v0).f3.length < 4398046511104 then some ((quorum_Best.best tl v0).f0, (quorum_Best.best tl v0).f1, (quorum_Best.best tl v0).f2, (quorum_Best.best tl v0).f3, true) else none) = some (r1, r2, r3, r4, r5) := by rw [hl0] at h; exact h
    clear h
    have h := h'
    clear h'
    split at h
    case isFalse => cases h
    rename_i hlim
    have h := Option.some.inj h
    injection h with h1 h
    injection h with h2 h
    injection h with h3 h
    injection h with h4 h5
    have HQ := Aside0.mk (And.intro h1 (And.intro h2 (And.intro h3 (And.intro h4 h5))))
    have HLIM := Aside0.mk hlim
    clear h1 h2 h3 h4 h5 hlim
    have HL0 := Aside0.mk hl0
    have hn0 : l0.length = tl.length + 1 := by rw [hl0]; rfl
    have hb0 : decide ((l0.length : Int) = 0) = false := decide_eq_false (by omega)
    have hb0' : ((l0.length : Int) == 0) = false := by simpa using hb0
    obtain ⟨i0, hi0, hz0, hs0, hbb0⟩ := info_parts info66
    have hcut := cut_from (P := Try.prog) 24 66 .i64 hu24 hi0 4 hs0 A0 l0.length c0 1 (by omega) (by omega)
    have HD := Aside0.mk (Kd.C_drop (c := c0) (m := 1) HR.out (by omega) HC.out)
    have htl : l0.drop 1 = tl := by rw [hl0]; rfl
    rw [htl] at HD
    have HT := @at_T66 w A0 l0.length l0 HR.out 0 (by omega) (by omega)
    have hrd0 : rd_T66 l0 0 = v0 := by rw [hl0]; rfl
    rw [hrd0] at HT
    obtain ⟨ad, Ab, cb, rfl, hx0, hx1, hx2, hx3, hl3, hi3⟩ := HT
    simp only [show (1 : Int).toNat = 1 from rfl, show (0 : Int).toNat = 0 from rfl, Nat.zero_mul, Nat.one_mul] at hcut hx0 hx1 hx2 hx3
    rw [show ad.add 0 = ad from rfl] at hx0 hx1 hx2 hx3
    replace hx0 := fun o => ((below_alloc (Below.refl w.heap.size w) o).cell (World.block_lt_of_cell? w _ hx0)).trans hx0
    replace hx1 := fun o => ((below_alloc (Below.refl w.heap.size w) o).cell (World.block_lt_of_cell? w _ hx1)).trans hx1
    replace hx2 := fun o => ((below_alloc (Below.refl w.heap.size w) o).cell (World.block_lt_of_cell? w _ hx2)).trans hx2
    replace hx3 := fun o => ((below_alloc (Below.refl w.heap.size w) o).cell (World.block_lt_of_cell? w _ hx3)).trans hx3
    have hsub : l0.length - 1 = tl.length := by omega
    rw [hsub] at hcut
    change Aside0 (Kd.C k66 w (if c0 = 1 then some ad else (some ad).map (·.add (1 * 4))) _ _) at HD
    rw [Nat.one_mul] at HD
    generalize (if c0 = 1 then some ad else (some ad).map (·.add 4)) = A1 at hcut HD
    have hc1 : tl.length ≤ c0 - 1 := by have := HC.out; omega
    generalize c0 - 1 = c1 at hcut hc1
    have HC1 := Aside0.mk hc1
    have HL3 := Aside0.mk hl3
    have HI3 := Aside0.mk hi3
    have HN := Aside0.mk hn0
    clear hl0 hc1 hl3 hi3 htl hsub hrd0 hi0 hz0 hs0 hbb0
    generalize hn : l0.length = n at *
    generalize hm : tl.length = m at *
    have hp1 : (0 < n) = True := eq_true (by omega)
    have hp2 : ((0 : Int) < (n : Int)) = True := eq_true (by omega)
    have hp3 : decide ((0 : Int) < (n : Int)) = true := decide_eq_true (by omega)
    have hp4 : (n = 0) = False := eq_false (by omega)
    clear hn0
    go_enter Try.func52, Try.ntmps52
    go_wp2
    go_loopg [19] m (fun kq v19 w' => ∃ (i : Nat) (cur : S66) (Ac : Option Addr) (cc : Nat), v19 = .int .i64 (i : Int) ∧ Aside0 (kq = m - i ∧ i ≤ m) ∧ Aside0 (cur = quorum_Best.best (tl.take i) v0) ∧ Aside0 (w'.heap[w.heap.size + 1]? = some (.cells #[.int .i64 cur.f0, .int .i64 cur.f1, .int .i64 cur.f2, .slice Ac cur.f3.length cc] 83 (0, 0))) ∧ Aside0 (cur.f3.length ≤ cc) ∧ Aside0 (Kd.string.C w Ac cur.f3.length cur.f3) ∧ Aside0 (w'.heap[w.heap.size]? = some (.cells #[.int .i64 0, .int .i64 0, .int .i64 0, .slice none 0 0] 66 (0, 0))) ∧ Aside0 (Below w.heap.size w w'))
    case atStart =>
      refine ⟨0, v0, Ab, cb, rfl, ⟨by simp⟩, ⟨rfl⟩, ⟨?_⟩, HL3, HI3, ⟨blk_alloc (x_alloc_new _ _) _⟩, ⟨below_alloc (below_alloc (Below.refl _ _) _) _⟩⟩
      have h1 := x_alloc_new (w.alloc (.cells #[.int .i64 0, .int .i64 0, .int .i64 0, .slice none 0 0] 66)) (.cells #[.int .i64 v0.f0, .int .i64 v0.f1, .int .i64 v0.f2, .slice Ab v0.f3.length cb] 83)
      simpa using h1
    case round =>
      obtain ⟨i, cur, Ac, cc, rfl, hi, HCUR, HBK, HLC, HCC, HRES, HB⟩ := hrel
      by_cases hlt : i < m
      · have hb1 : decide ((i : Int) < (m : Int)) = true := decide_eq_true (by omega)
        have p1 : (0 : Int) ≤ (i : Int) := by omega
        have q1 : (i : Int) < (m : Int) := by omega
        have HDD := HD.out
        obtain ⟨ad2, A3, c3, rfl, hy0, hy1, hy2, hy3, hly, hiy⟩ := at_T66 HDD (i : Int) p1 q1
        clear HDD
        simp only [Int.toNat_natCast] at hy0 hy1 hy2 hy3
        replace hy0 := (HB.out.cell (World.block_lt_of_cell? w _ hy0)).trans hy0
        replace hy1 := (HB.out.cell (World.block_lt_of_cell? w _ hy1)).trans hy1
        replace hy2 := (HB.out.cell (World.block_lt_of_cell? w _ hy2)).trans hy2
        replace hy3 := (HB.out.cell (World.block_lt_of_cell? w _ hy3)).trans hy3
        have HT : tl.take (i + 1) = tl.take i ++ [rd_T66 tl (i : Int)] := by
          rw [List.take_succ_eq_append_getElem (by rw [hm]; omega)]
          simp [rd_T66, List.getD_eq_getElem?_getD, List.getElem?_eq_getElem (show i < tl.length by rw [hm]; omega)]
        have HT1 := Aside0.mk HT
        clear HT
        replace p1 := eq_true p1
        replace q1 := eq_true q1
        generalize hv : rd_T66 tl (i : Int) = v at *
        clear hv
        have HLY := Aside0.mk hly
        have HIY := Aside0.mk (Kd.C_below hiy HB.out)
        have HIYW := Aside0.mk hiy
        have HCC2 := Aside0.mk (Kd.C_below HCC.out HB.out)
        clear hly hiy
        have hx0' : ∀ o, (wr.alloc o).cell? ⟨w.heap.size + 1, 0, none⟩ = some (.int .i64 cur.f0) := fun o => blk_cell (blk_alloc HBK.out o) 0
        have hx1' : ∀ o, (wr.alloc o).cell? ⟨w.heap.size + 1, 1, none⟩ = some (.int .i64 cur.f1) := fun o => blk_cell (blk_alloc HBK.out o) 1
        have hx2' : ∀ o, (wr.alloc o).cell? ⟨w.heap.size + 1, 2, none⟩ = some (.int .i64 cur.f2) := fun o => blk_cell (blk_alloc HBK.out o) 2
        have hx3' : ∀ o, (wr.alloc o).cell? ⟨w.heap.size + 1, 3, none⟩ = some (.slice Ac cur.f3.length cc) := fun o => blk_cell (blk_alloc HBK.out o) 3
        by_cases hbv : quorum_Best.better v cur = true
        · have HOV := Aside0.mk ((quorum_Best.better_of v cur).trans (by rw [hbv]))
          go_wp2_with (first | (go_at_call 59; refine (quorum_vote_over.calls v.f0 v.f1 v.f2 _ _ v.f3 cur.f0 cur.f1 cur.f2 _ _ cur.f3 true _ ?s1 ?s2 ?s3 ?s4 HOV.out).mono ?_; (case s1 => exact Kd.C_alloc HIY.out _); (case s2 => exact HLY.out); (case s3 => exact Kd.C_alloc HCC2.out _); (case s4 => exact HLC.out); rintro e w2 ⟨rfl, hb2⟩; have HB2 := Aside0.mk (below_step (below_alloc HB.out _) hb2); have BK8 := Aside0.mk ((hb2.block wr.heap.size (by simp)).trans (x_alloc_new wr (.cells #[.int .i64 v.f0, .int .i64 v.f1, .int .i64 v.f2, .slice A3 v.f3.length c3] 66))); have BK6 := Aside0.mk ((hb2.block (w.heap.size + 1) (by have := blk_lt HBK.out; simp; omega)).trans (blk_alloc HBK.out (.cells #[.int .i64 v.f0, .int .i64 v.f1, .int .i64 v.f2, .slice A3 v.f3.length c3] 66))); have BKR := Aside0.mk ((hb2.block w.heap.size (by have := blk_lt HBK.out; simp; omega)).trans (blk_alloc HRES.out (.cells #[.int .i64 v.f0, .int .i64 v.f1, .int .i64 v.f2, .slice A3 v.f3.length c3] 66))); have hz0 : w2.cell? ⟨wr.heap.size, 0, none⟩ = some (.int .i64 v.f0) := blk_cell BK8.out 0; have hz1 : w2.cell? ⟨wr.heap.size, 1, none⟩ = some (.int .i64 v.f1) := blk_cell BK8.out 1; have hz2 : w2.cell? ⟨wr.heap.size, 2, none⟩ = some (.int .i64 v.f2) := blk_cell BK8.out 2; have hz3 : w2.cell? ⟨wr.heap.size, 3, none⟩ = some (.slice A3 v.f3.length c3) := blk_cell BK8.out 3; have hc0 : w2.cell? ⟨w.heap.size + 1, 0, none⟩ = some (.int .i64 cur.f0) := blk_cell BK6.out 0; have hc1 : w2.cell? ⟨w.heap.size + 1, 1, none⟩ = some (.int .i64 cur.f1) := blk_cell BK6.out 1; have hc2 : w2.cell? ⟨w.heap.size + 1, 2, none⟩ = some (.int .i64 cur.f2) := blk_cell BK6.out 2; have hc3 : w2.cell? ⟨w.heap.size + 1, 3, none⟩ = some (.slice Ac cur.f3.length cc) := blk_cell BK6.out 3; have hf0 : w2.frozen? ⟨w.heap.size + 1, 0, none⟩ = false := blk_frozen BK6.out 0; have hf1 : w2.frozen? ⟨w.heap.size + 1, 1, none⟩ = false := blk_frozen BK6.out 1; have hf2 : w2.frozen? ⟨w.heap.size + 1, 2, none⟩ = false := blk_frozen BK6.out 2; have hf3 : w2.frozen? ⟨w.heap.size + 1, 3, none⟩ = false := blk_frozen BK6.out 3; clear hb2))
          go_roundg (m - (i + 1))
          case measure => have := hi.out.1; omega
          case rel =>
            have hw : wrap64 ((i : Int) + 1) = ((i + 1 : Nat) : Int) := by have := HLIM.out.1; unfold wrap64; omega
            refine ⟨i + 1, v, A3, c3, by rw [hw], ⟨by have := hi.out; omega, by omega⟩, ⟨?_⟩, ⟨?_⟩, HLY, HIYW, ⟨?_⟩, ⟨?_⟩⟩
            · rw [HT1.out, quorum_Best.best_append, ← HCUR.out, if_pos hbv]
            · refine blk_put (cs := #[.int .i64 v.f0, .int .i64 v.f1, .int .i64 v.f2, .slice Ac cur.f3.length cc]) ?_ 3 _ rfl
              refine blk_put (cs := #[.int .i64 v.f0, .int .i64 v.f1, .int .i64 cur.f2, .slice Ac cur.f3.length cc]) ?_ 2 _ rfl
              refine blk_put (cs := #[.int .i64 v.f0, .int .i64 cur.f1, .int .i64 cur.f2, .slice Ac cur.f3.length cc]) ?_ 1 _ rfl
              exact blk_put (cs := #[.int .i64 cur.f0, .int .i64 cur.f1, .int .i64 cur.f2, .slice Ac cur.f3.length cc]) BK6.out 0 _ rfl
            · have hne : w.heap.size ≠ w.heap.size + 1 := by omega
              exact blk_far (blk_far (blk_far (blk_far BKR.out hne _) hne _) hne _) hne _
            · have hge : w.heap.size ≤ w.heap.size + 1 := by omega
              exact below_set (below_set (below_set (below_set HB2.out hge) hge) hge) hge
        · have hbv2 : quorum_Best.better v cur = false := by simpa using hbv
          have HOV := Aside0.mk ((quorum_Best.better_of v cur).trans (by rw [hbv2]))
          go_wp2_with (first | (go_at_call 59; refine (quorum_vote_over.calls v.f0 v.f1 v.f2 _ _ v.f3 cur.f0 cur.f1 cur.f2 _ _ cur.f3 false _ ?s1 ?s2 ?s3 ?s4 HOV.out).mono ?_; (case s1 => exact Kd.C_alloc HIY.out _); (case s2 => exact HLY.out); (case s3 => exact Kd.C_alloc HCC2.out _); (case s4 => exact HLC.out); rintro e w2 ⟨rfl, hb2⟩; have HB2 := Aside0.mk (below_step (below_alloc HB.out _) hb2); have BK8 := Aside0.mk ((hb2.block wr.heap.size (by simp)).trans (x_alloc_new wr (.cells #[.int .i64 v.f0, .int .i64 v.f1, .int .i64 v.f2, .slice A3 v.f3.length c3] 66))); have BK6 := Aside0.mk ((hb2.block (w.heap.size + 1) (by have := blk_lt HBK.out; simp; omega)).trans (blk_alloc HBK.out (.cells #[.int .i64 v.f0, .int .i64 v.f1, .int .i64 v.f2, .slice A3 v.f3.length c3] 66))); have BKR := Aside0.mk ((hb2.block w.heap.size (by have := blk_lt HBK.out; simp; omega)).trans (blk_alloc HRES.out (.cells #[.int .i64 v.f0, .int .i64 v.f1, .int .i64 v.f2, .slice A3 v.f3.length c3] 66))); have hz0 : w2.cell? ⟨wr.heap.size, 0, none⟩ = some (.int .i64 v.f0) := blk_cell BK8.out 0; have hz1 : w2.cell? ⟨wr.heap.size, 1, none⟩ = some (.int .i64 v.f1) := blk_cell BK8.out 1; have hz2 : w2.cell? ⟨wr.heap.size, 2, none⟩ = some (.int .i64 v.f2) := blk_cell BK8.out 2; have hz3 : w2.cell? ⟨wr.heap.size, 3, none⟩ = some (.slice A3 v.f3.length c3) := blk_cell BK8.out 3; have hc0 : w2.cell? ⟨w.heap.size + 1, 0, none⟩ = some (.int .i64 cur.f0) := blk_cell BK6.out 0; have hc1 : w2.cell? ⟨w.heap.size + 1, 1, none⟩ = some (.int .i64 cur.f1) := blk_cell BK6.out 1; have hc2 : w2.cell? ⟨w.heap.size + 1, 2, none⟩ = some (.int .i64 cur.f2) := blk_cell BK6.out 2; have hc3 : w2.cell? ⟨w.heap.size + 1, 3, none⟩ = some (.slice Ac cur.f3.length cc) := blk_cell BK6.out 3; have hf0 : w2.frozen? ⟨w.heap.size + 1, 0, none⟩ = false := blk_frozen BK6.out 0; have hf1 : w2.frozen? ⟨w.heap.size + 1, 1, none⟩ = false := blk_frozen BK6.out 1; have hf2 : w2.frozen? ⟨w.heap.size + 1, 2, none⟩ = false := blk_frozen BK6.out 2; have hf3 : w2.frozen? ⟨w.heap.size + 1, 3, none⟩ = false := blk_frozen BK6.out 3; clear hb2))
          go_roundg (m - (i + 1))
          case measure => have := hi.out.1; omega
          case rel =>
            have hw : wrap64 ((i : Int) + 1) = ((i + 1 : Nat) : Int) := by have := HLIM.out.1; unfold wrap64; omega
            refine ⟨i + 1, cur, Ac, cc, by rw [hw], ⟨by have := hi.out; omega, by omega⟩, ⟨?_⟩, BK6, HLC, HCC, BKR, HB2⟩
            rw [HT1.out, quorum_Best.best_append, ← HCUR.out, if_neg hbv]
      · have hb1 : decide ((i : Int) < (m : Int)) = false := decide_eq_false (by omega)
        have hie : i = m := by have := hi.out; omega
        have HC1 := HCUR.out
        rw [List.take_of_length_le (by rw [hm]; omega)] at HC1
        rw [← HC1] at HQ HLIM
        have HCUR1 := Aside0.mk HC1
        clear HC1
        have hx0' : wr.cell? ⟨w.heap.size + 1, 0, none⟩ = some (.int .i64 cur.f0) := blk_cell HBK.out 0
        have hx1' : wr.cell? ⟨w.heap.size + 1, 1, none⟩ = some (.int .i64 cur.f1) := blk_cell HBK.out 1
        have hx2' : wr.cell? ⟨w.heap.size + 1, 2, none⟩ = some (.int .i64 cur.f2) := blk_cell HBK.out 2
        have hx3' : wr.cell? ⟨w.heap.size + 1, 3, none⟩ = some (.slice Ac cur.f3.length cc) := blk_cell HBK.out 3
        have HCC2 := Aside0.mk (Kd.C_below HCC.out HB.out)
        have HOWN := Aside0.mk (show quorum_vote_own.f cur.f0 cur.f1 cur.f2 cur.f3 = some (cur.f0, cur.f1, cur.f2, cur.f3) from if_pos HLIM.out.2)
        go_wp2_with (first | (go_at_call 54; refine (quorum_vote_own.calls cur.f0 cur.f1 cur.f2 _ _ cur.f3 cur.f0 cur.f1 cur.f2 cur.f3 _ ?s1 ?s2 HOWN.out).mono ?_; (case s1 => exact HCC2.out); (case s2 => exact HLC.out); rintro e w2 ⟨v3, rfl, ho, hb2⟩; have HB2 := Aside0.mk (below_step HB.out hb2); have BKR := Aside0.mk ((hb2.block w.heap.size (blk_lt HRES.out)).trans HRES.out); have hc0 : w2.cell? ⟨w.heap.size, 0, none⟩ = some (.int .i64 0) := blk_cell BKR.out 0; have hc1 : w2.cell? ⟨w.heap.size, 1, none⟩ = some (.int .i64 0) := blk_cell BKR.out 1; have hc2 : w2.cell? ⟨w.heap.size, 2, none⟩ = some (.int .i64 0) := blk_cell BKR.out 2; have hc3 : w2.cell? ⟨w.heap.size, 3, none⟩ = some (.slice none 0 0) := blk_cell BKR.out 3; have hf0 : w2.frozen? ⟨w.heap.size, 0, none⟩ = false := blk_frozen BKR.out 0; have hf1 : w2.frozen? ⟨w.heap.size, 1, none⟩ = false := blk_frozen BKR.out 1; have hf2 : w2.frozen? ⟨w.heap.size, 2, none⟩ = false := blk_frozen BKR.out 2; have hf3 : w2.frozen? ⟨w.heap.size, 3, none⟩ = false := blk_frozen BKR.out 3; obtain ⟨Ao, co, eo⟩ := Kd.R_slice ho; subst eo; have HO := Aside0.mk (Kd.R_lower ho (blk_lt HRES.out |> Nat.le_of_lt)); clear ho hb2))
        obtain ⟨rfl, rfl, rfl, rfl, rfl⟩ := HQ.out
        refine bodyPost_ret (results_ct rfl _ _ w.heap.size 66 #[.int .i64 cur.f0, .int .i64 cur.f1, .int .i64 cur.f2, .slice Ao cur.f3.length co] (0, 0) _ rfl ?_ Try.underlying66 rfl (by kernel_rfl)) rfl ?_
        · refine blk_put (cs := #[.int .i64 cur.f0, .int .i64 cur.f1, .int .i64 cur.f2, .slice none 0 0]) ?_ 3 _ rfl
          refine blk_put (cs := #[.int .i64 cur.f0, .int .i64 cur.f1, .int .i64 0, .slice none 0 0]) ?_ 2 _ rfl
          refine blk_put (cs := #[.int .i64 cur.f0, .int .i64 0, .int .i64 0, .slice none 0 0]) ?_ 1 _ rfl
          exact blk_put (cs := #[.int .i64 0, .int .i64 0, .int .i64 0, .slice none 0 0]) BKR.out 0 _ rfl
        · have hge : w.heap.size ≤ w.heap.size := Nat.le_refl _
          exact ⟨_, rfl, Kd.R_mono (Kd.R_far (p := ⟨w.heap.size, 3, none⟩) (Kd.R_far (p := ⟨w.heap.size, 2, none⟩) (Kd.R_far (p := ⟨w.heap.size, 1, none⟩) (Kd.R_far (p := ⟨w.heap.size, 0, none⟩) (Kd.R_types HO.out BKR.out (by decide)) (fun _ hk => hk.2) _) (fun _ hk => hk.2) _) (fun _ hk => hk.2) _) (fun _ hk => hk.2) _) (fun _ hk => trivial), below_set (below_set (below_set (below_set HB2.out hge) hge) hge) hge⟩
def msg_Cast.f (a0 : Int) (a1 : Int) (a2_0 : Int) (a2_1 : Int) (a2_2 : Int) (l2_3 : List ByteArray) : Option (Int × Int × Int × Int × Int × Int × Int × List ByteArray) := (slices_Clone_string_string.f l2_3).bind fun t186 => (some (3, a2_0, a0, a1, a2_1, a2_2, 0, t186))
def msg_Cast.T1 : Bool × List (List Nat × List Nat) := (true, [([], []), ([0], [0]), ([], []), ([], []), ([], []), ([4], [4]), ([], []), ([6], [6]), ([], []), ([8], [8]), ([9], [9]), ([1, 2, 3, 5, 7, 10], [1, 2, 3, 5, 7, 10]), ([11, 10, 0, 1, 2, 3, 4, 5, 6, 7, 8, 9, 10, 11], [11])])
def msg_Cast.B1 : List Nat := [0, 1, 0, 0, 0, 16, 0, 64, 0, 256, 768, 2047, 4095]
theorem msg_Cast.tab1 : rtab .any (opsOf Try.f32 1) = msg_Cast.T1 := by kernel_rfl
theorem msg_Cast.bits1 : waitsOk msg_Cast.T1.2 msg_Cast.B1 = true := by kernel_rfl
set_option maxHeartbeats 8000000 in
set_option maxRecDepth 100000 in
theorem msg_Cast.calls (a0 : Int) (a1 : Int) (a2_0 : Int) (a2_1 : Int) (a2_2 : Int) (A2_3 : Option Addr) (c2_3 : Nat) (l2_3 : List ByteArray) (r1 : Int) (r2 : Int) (r3 : Int) (r4 : Int) (r5 : Int) (r6 : Int) (r7 : Int) (r8 : List ByteArray) (w : World) (hr2_3 : Kd.C Kd.string w A2_3 l2_3.length l2_3) (hc2_3 : l2_3.length ≤ c2_3) (h : msg_Cast.f a0 a1 a2_0 a2_1 a2_2 l2_3 = some (r1, r2, r3, r4, r5, r6, r7, r8)) :
    Calls Try.prog 32 #[.int .i64 a0, .int .i64 a1, .agg #[.int .i64 a2_0, .int .i64 a2_1, .int .i64 a2_2, .slice A2_3 l2_3.length c2_3]] w fun e w' => ∃ v7_ : Value, e = .returned (.agg #[.int .i64 r1, .int .i64 r2, .int .i64 r3, .int .i64 r4, .int .i64 r5, .int .i64 r6, .int .i64 r7, v7_]) ∧ Kd.R Kd.string 9 w' w.heap.size (fun _ => True) v7_ r8 ∧ Below w.heap.size w w' := by
  have hu66 := Try.underlying66
  have hu28 := Try.underlying28
  have HR2_3 := Aside0.mk hr2_3
  have HC2_3 := Aside0.mk hc2_3
  clear hr2_3 hc2_3
  have HB := Aside0.mk (Below.refl w.heap.size w)
  have H : ((slices_Clone_string_string.f l2_3).bind fun t186 => (some (3, a2_0, a0, a1, a2_1, a2_2, 0, t186))) = some (r1, r2, r3, r4, r5, r6, r7, r8) := h
  clear h
  replace H := Option.bind_eq_some_iff.mp H
  obtain ⟨t186, A40, H⟩ := H
  replace H : (some (3, a2_0, a0, a1, a2_1, a2_2, 0, t186)) = some (r1, r2, r3, r4, r5, r6, r7, r8) := H
  have A4 := Aside0.mk A40
  clear A40
  simp only [Option.some.injEq, Prod.mk.injEq] at H
  obtain ⟨rfl, rfl, rfl, rfl, rfl, rfl, rfl, rfl⟩ := H
  go_enter Try.func32, Try.ntmps32
  try go_wp2_with (first | ((with_reducible refine gate_dst (N := 5) rfl ?_); refine box_event ?hg (N := 5) ?hd (cs := #[.int .i64 a2_0, .int .i64 a2_1, .int .i64 a2_2, .slice A2_3 l2_3.length c2_3]) (t := 66) ?hr ?_; (case hd => rfl); (case hg => rfl); (case hr => first | (go_simp; done) | (go_simp; rfl)); intro gb184 hg w5 hbox hb; have n0_ := Aside0.mk (below_step (by repeat (first | (with_reducible first | exact HB.out | apply below_alloc | apply pw_below_drewN | apply below_drew1) | exact HB.out)) hb); have n1_ := Aside0.mk (hbox); have n2_ := Aside0.mk ((by rw [hg]; exact (below_size (by repeat (first | (with_reducible first | exact HB.out | apply below_alloc | apply pw_below_drewN | apply below_drew1) | exact HB.out))) : w.heap.size ≤ gb184)); have n3_ := Aside0.mk ((by rw [hg]; exact (below_size (by repeat (first | (with_reducible first | exact HB.out | apply below_alloc | apply pw_below_drewN | apply below_drew1) | exact HB.out))) : w.heap.size ≤ gb184)); clear HB; have HB := n0_; have BK184 := n1_; have GW184 := n2_; have GE184 := n3_; clear n0_ n1_ n2_ n3_; clear hb hbox hg) | ((with_reducible refine gate_dst (N := 6) rfl ?_); refine box_event ?hg (N := 6) ?hd (cs := #[.int .i64 0, .int .i64 0, .int .i64 0, .int .i64 0, .int .i64 0, .int .i64 0, .int .i64 0, .slice none 0 0]) (t := 28) ?hr ?_; (case hd => rfl); (case hg => rfl); (case hr => first | (go_simp; done) | (go_simp; rfl)); intro gb185 hg w6 hbox hb; have n0_ := Aside0.mk (blk_below (g := gb184) (o := .cells #[.int .i64 a2_0, .int .i64 a2_1, .int .i64 a2_2, .slice A2_3 l2_3.length c2_3] 66 (0, 0)) (by (with_reducible repeat (first | refine blk_drewN ?_ _ | refine blk_drew ?_ | refine blk_alloc ?_ _)); exact BK184.out) hb); have n1_ := Aside0.mk (below_step (by repeat (first | (with_reducible first | exact HB.out | apply below_alloc | apply pw_below_drewN | apply below_drew1 | refine below_set ?_ GE184.out) | exact HB.out)) hb); have n2_ := Aside0.mk (hbox); have n3_ := Aside0.mk ((by rw [hg]; exact (below_size (by repeat (first | (with_reducible first | exact HB.out | apply below_alloc | apply pw_below_drewN | apply below_drew1 | refine below_set ?_ GE184.out) | exact HB.out))) : w.heap.size ≤ gb185)); have n4_ := Aside0.mk ((by rw [hg]; exact (below_size (by repeat (first | (with_reducible first | exact HB.out | apply below_alloc | apply pw_below_drewN | apply below_drew1 | refine below_set ?_ GE184.out) | exact HB.out))) : w.heap.size ≤ gb185)); have n5_ := Aside0.mk ((by rw [hg]; exact Nat.ne_of_lt (blk_lt (g := gb184) (o := .cells #[.int .i64 a2_0, .int .i64 a2_1, .int .i64 a2_2, .slice A2_3 l2_3.length c2_3] 66 (0, 0)) (by (with_reducible repeat (first | refine blk_drewN ?_ _ | refine blk_drew ?_ | refine blk_alloc ?_ _)); exact BK184.out)) : gb184 ≠ gb185)); have n6_ := Aside0.mk ((by rw [hg]; exact Nat.ne_of_gt (blk_lt (g := gb184) (o := .cells #[.int .i64 a2_0, .int .i64 a2_1, .int .i64 a2_2, .slice A2_3 l2_3.length c2_3] 66 (0, 0)) (by (with_reducible repeat (first | refine blk_drewN ?_ _ | refine blk_drew ?_ | refine blk_alloc ?_ _)); exact BK184.out)) : gb185 ≠ gb184)); clear BK184; clear HB; have BK184 := n0_; have HB := n1_; have BK185 := n2_; have GW185 := n3_; have GE185 := n4_; have NB184_185 := n5_; have NB185_184 := n6_; clear n0_ n1_ n2_ n3_ n4_ n5_ n6_; clear hb hbox hg))
  have n0_ := Aside0.mk (blk_drew BK184.out)
  have n1_ := Aside0.mk (blk_drew BK185.out)
  have n2_ := Aside0.mk (below_drew1 HB.out)
  clear BK184
  clear BK185
  clear HB
  have BK184 := n0_
  have BK185 := n1_
  have HB := n2_
  clear n0_ n1_ n2_
  refine start_ (n := 13) (S := fun w' => w'.cell? ⟨gb184, 0, none⟩ = some (.int .i64 a2_0) ∧ w'.cell? ⟨gb184, 1, none⟩ = some (.int .i64 a2_1) ∧ w'.cell? ⟨gb184, 2, none⟩ = some (.int .i64 a2_2) ∧ w'.cell? ⟨gb184, 3, none⟩ = some (.slice A2_3 l2_3.length c2_3)) (ds := []) #[false, false, false, false, false, false, false, false, false, false, false, false, false] (by kernel_rfl) rfl rfl ⟨(blk_cell BK184.out 0).trans rfl, (blk_cell BK184.out 1).trans rfl, (blk_cell BK184.out 2).trans rfl, (blk_cell BK184.out 3).trans rfl⟩ (fun hHeld => ?_); refine with_tabW msg_Cast.tab1 msg_Cast.bits1 (fun HT_ HW_ => ?_)
  generalize w6.drew = w7 at BK184 BK185 HB hHeld ⊢
  refine pure_ (i := 0) (N := some 7) (v := ?_) (a' := ?_) #[true, false, false, false, false, false, false, false, false, false, false, false, false] rfl rfl (any_of HT_.out (by kernel_rfl)) (fun _ _ _ h => h) (Or.inl ⟨by rfl, ?_⟩) ?_ ?_
  rotate_left
  · intro w'
    go_simp
    with_reducible rfl
  rotate_left
  · simp only [Act.put, List.setIfInBounds_toArray, List.set_cons_zero, List.set_cons_succ, i64_w, i32_w]
    rfl
  refine pure_ (i := 2) (N := some 9) (v := ?_) (a' := ?_) #[true, false, true, false, false, false, false, false, false, false, false, false, false] rfl rfl (any_of HT_.out (by kernel_rfl)) (fun _ _ _ h => h) (Or.inl ⟨by rfl, ?_⟩) ?_ ?_
  rotate_left
  · intro w'
    go_simp
    with_reducible rfl
  rotate_left
  · simp only [Act.put, List.setIfInBounds_toArray, List.set_cons_zero, List.set_cons_succ, i64_w, i32_w]
    rfl
  refine pure_ (i := 3) (N := some 10) (v := ?_) (a' := ?_) #[true, false, true, true, false, false, false, false, false, false, false, false, false] rfl rfl (any_of HT_.out (by kernel_rfl)) (fun _ _ _ h => h) (Or.inl ⟨by rfl, ?_⟩) ?_ ?_
  rotate_left
  · intro w'
    go_simp
    with_reducible rfl
  rotate_left
  · simp only [Act.put, List.setIfInBounds_toArray, List.set_cons_zero, List.set_cons_succ, i64_w, i32_w]
    rfl
  refine pure_ (i := 4) (N := some 11) (v := ?_) (a' := ?_) #[true, false, true, true, true, false, false, false, false, false, false, false, false] rfl rfl (any_of HT_.out (by kernel_rfl)) (fun _ _ _ h => h) (Or.inl ⟨by rfl, ?_⟩) ?_ ?_
  rotate_left
  · intro w'
    go_simp
    with_reducible rfl
  rotate_left
  · simp only [Act.put, List.setIfInBounds_toArray, List.set_cons_zero, List.set_cons_succ, i64_w, i32_w]
    rfl
  refine pure_ (i := 6) (N := some 13) (v := ?_) (a' := ?_) #[true, false, true, true, true, false, true, false, false, false, false, false, false] rfl rfl (any_of HT_.out (by kernel_rfl)) (fun _ _ _ h => h) (Or.inl ⟨by rfl, ?_⟩) ?_ ?_
  rotate_left
  · intro w'
    go_simp
    with_reducible rfl
  rotate_left
  · simp only [Act.put, List.setIfInBounds_toArray, List.set_cons_zero, List.set_cons_succ, i64_w, i32_w]
    rfl
  refine pure_ (i := 8) (N := some 15) (v := ?_) (a' := ?_) #[true, false, true, true, true, false, true, false, true, false, false, false, false] rfl rfl (any_of HT_.out (by kernel_rfl)) (fun _ _ _ h => h) (Or.inl ⟨by rfl, ?_⟩) ?_ ?_
  rotate_left
  · intro w'
    go_simp
    with_reducible rfl
  rotate_left
  · simp only [Act.put, List.setIfInBounds_toArray, List.set_cons_zero, List.set_cons_succ, i64_w, i32_w]
    rfl
  refine take_ (i := 1) (N := some 8) (v := ?_) (a' := ?_) #[true, true, true, true, true, false, true, false, true, false, false, false, false] rfl rfl (take_ofW HT_.out HW_.out (by kernel_rfl)) (fun _ _ _ h => h) (Or.inl ⟨by rfl, ?_⟩) hHeld ?_ ?_
  rotate_left
  · rintro w' ⟨s0, s1, s2, s3⟩
    go_simp
    with_reducible rfl
  rotate_left
  · simp only [Act.put, List.setIfInBounds_toArray, List.set_cons_zero, List.set_cons_succ, i64_w, i32_w]
    rfl
  refine take_ (i := 5) (N := some 12) (v := ?_) (a' := ?_) #[true, true, true, true, true, true, true, false, true, false, false, false, false] rfl rfl (take_ofW HT_.out HW_.out (by kernel_rfl)) (fun _ _ _ h => h) (Or.inl ⟨by rfl, ?_⟩) hHeld ?_ ?_
  rotate_left
  · rintro w' ⟨s0, s1, s2, s3⟩
    go_simp
    with_reducible rfl
  rotate_left
  · simp only [Act.put, List.setIfInBounds_toArray, List.set_cons_zero, List.set_cons_succ, i64_w, i32_w]
    rfl
  refine take_ (i := 7) (N := some 14) (v := ?_) (a' := ?_) #[true, true, true, true, true, true, true, true, true, false, false, false, false] rfl rfl (take_ofW HT_.out HW_.out (by kernel_rfl)) (fun _ _ _ h => h) (Or.inl ⟨by rfl, ?_⟩) hHeld ?_ ?_
  rotate_left
  · rintro w' ⟨s0, s1, s2, s3⟩
    go_simp
    with_reducible rfl
  rotate_left
  · simp only [Act.put, List.setIfInBounds_toArray, List.set_cons_zero, List.set_cons_succ, i64_w, i32_w]
    rfl
  refine take_ (i := 9) (N := some 16) (v := ?_) (a' := ?_) #[true, true, true, true, true, true, true, true, true, true, false, false, false] rfl rfl (take_ofW HT_.out HW_.out (by kernel_rfl)) (fun _ _ _ h => h) (Or.inl ⟨by rfl, ?_⟩) hHeld ?_ ?_
  rotate_left
  · rintro w' ⟨s0, s1, s2, s3⟩
    go_simp
    with_reducible rfl
  rotate_left
  · simp only [Act.put, List.setIfInBounds_toArray, List.set_cons_zero, List.set_cons_succ, i64_w, i32_w]
    rfl
  refine one_ (i := 10) (N := some 17) #[true, true, true, true, true, true, true, true, true, true, true, false, false] rfl rfl (one_of HT_.out (by kernel_rfl)) (by decide) (fun K hK => ?_)
  refine goes_ Try.func42 (by kernel_rfl) rfl #[.slice A2_3 l2_3.length c2_3] (by rfl) rfl rfl (by (try simp only [List.map_toArray, List.map_cons, List.map_nil]); first | done | rfl | (simp only [List.length_drop, List.length_take]; rfl)) ?_
  with_reducible refine (slices_Clone_string_string.calls _ _ l2_3 t186 _ ?side1 ?side2 A4.out).mono ?_
  (case side1 => repeat (first | exact (Kd.C_below HR2_3.out HB.out) | (with_reducible refine Kd.C_alloc ?_ _) | (with_reducible refine Kd.C_drewN ?_ _) | (with_reducible refine Kd.C_drew ?_)))
  (case side2 => exact HC2_3.out)
  rintro e w8 ⟨v187, rfl, ho0, hb⟩
  refine ⟨_, rfl, ?_⟩
  have n0_ := Aside0.mk (Kd.R_lower ho0 (below_size (by repeat (first | (with_reducible first | exact HB.out | apply below_alloc | apply pw_below_drewN | apply below_drew1 | refine below_set ?_ GE184.out | refine below_set ?_ GE185.out) | exact HB.out))))
  have n1_ := Aside0.mk (blk_below (g := gb184) (o := .cells #[.int .i64 a2_0, .int .i64 a2_1, .int .i64 a2_2, .slice A2_3 l2_3.length c2_3] 66 (0, 0)) (by (with_reducible repeat (first | refine blk_drewN ?_ _ | refine blk_drew ?_ | refine blk_alloc ?_ _)); exact BK184.out) hb)
  have n2_ := Aside0.mk (blk_below (g := gb185) (o := .cells #[.int .i64 0, .int .i64 0, .int .i64 0, .int .i64 0, .int .i64 0, .int .i64 0, .int .i64 0, .slice none 0 0] 28 (0, 0)) (by (with_reducible repeat (first | refine blk_drewN ?_ _ | refine blk_drew ?_ | refine blk_alloc ?_ _)); exact BK185.out) hb)
  have n3_ := Aside0.mk (below_step (by repeat (first | (with_reducible first | exact HB.out | apply below_alloc | apply pw_below_drewN | apply below_drew1 | refine below_set ?_ GE184.out | refine below_set ?_ GE185.out) | exact HB.out)) hb)
  clear BK184
  clear BK185
  clear HB
  have HO188 := n0_
  have BK184 := n1_
  have BK185 := n2_
  have HB := n3_
  clear n0_ n1_ n2_ n3_
  (try clear hb)
  (try clear hb2)
  (try clear hk)
  (try clear hi)
  (try clear ho0)
  obtain ⟨Ao9, co9, eo9⟩ := Kd.R_slice HO188.out
  (first | subst eo9 | (injection eo9 with f1_ f2_ f3_; have f4_ := f1_.symm; have f5_ := f3_.symm; clear f1_ f2_ f3_; subst f4_; subst f5_))
  refine hK.out _ _ ⟨(blk_cell BK184.out 0).trans rfl, (blk_cell BK184.out 1).trans rfl, (blk_cell BK184.out 2).trans rfl, (blk_cell BK184.out 3).trans rfl⟩ (fun hHeld => ?_)
  clear hK K
  refine norm_ (a' := ?_) ?_ ?_
  rotate_left
  · show Act.put _ (some 17) _ = _
    simp only [Act.put, List.setIfInBounds_toArray, List.set_cons_zero, List.set_cons_succ, i64_w, i32_w]
    rfl
  refine pure_ (i := 11) (N := some 18) (v := ?_) (a' := ?_) #[true, true, true, true, true, true, true, true, true, true, true, true, false] rfl rfl (any_of HT_.out (by kernel_rfl)) (fun _ _ _ h => h) (Or.inl ⟨by rfl, ?_⟩) ?_ ?_
  rotate_left
  · intro w'
    go_simp
    with_reducible rfl
  rotate_left
  · simp only [Act.put, List.setIfInBounds_toArray, List.set_cons_zero, List.set_cons_succ, i64_w, i32_w]
    rfl
  refine one_ (i := 12) (N := none) #[true, true, true, true, true, true, true, true, true, true, true, true, true] rfl rfl (one_of HT_.out (by kernel_rfl)) (by decide) (fun K hK => ?_)
  have hs10 : w8.cell? ⟨gb185, 0, none⟩ = some (.int .i64 0) := (blk_cell BK185.out 0).trans rfl
  have hfs10 := blk_frozen BK185.out 0
  have hns10_0 := NB184_185.out
  have hms10_0 := NB185_184.out
  have hs11 : w8.cell? ⟨gb185, 1, none⟩ = some (.int .i64 0) := (blk_cell BK185.out 1).trans rfl
  have hfs11 := blk_frozen BK185.out 1
  have hns11_0 := NB184_185.out
  have hms11_0 := NB185_184.out
  have hs12 : w8.cell? ⟨gb185, 2, none⟩ = some (.int .i64 0) := (blk_cell BK185.out 2).trans rfl
  have hfs12 := blk_frozen BK185.out 2
  have hns12_0 := NB184_185.out
  have hms12_0 := NB185_184.out
  have hs13 : w8.cell? ⟨gb185, 3, none⟩ = some (.int .i64 0) := (blk_cell BK185.out 3).trans rfl
  have hfs13 := blk_frozen BK185.out 3
  have hns13_0 := NB184_185.out
  have hms13_0 := NB185_184.out
  have hs14 : w8.cell? ⟨gb185, 4, none⟩ = some (.int .i64 0) := (blk_cell BK185.out 4).trans rfl
  have hfs14 := blk_frozen BK185.out 4
  have hns14_0 := NB184_185.out
  have hms14_0 := NB185_184.out
  have hs15 : w8.cell? ⟨gb185, 5, none⟩ = some (.int .i64 0) := (blk_cell BK185.out 5).trans rfl
  have hfs15 := blk_frozen BK185.out 5
  have hns15_0 := NB184_185.out
  have hms15_0 := NB185_184.out
  have hs16 : w8.cell? ⟨gb185, 6, none⟩ = some (.int .i64 0) := (blk_cell BK185.out 6).trans rfl
  have hfs16 := blk_frozen BK185.out 6
  have hns16_0 := NB184_185.out
  have hms16_0 := NB185_184.out
  have hs17 : w8.cell? ⟨gb185, 7, none⟩ = some (.slice none 0 0) := (blk_cell BK185.out 7).trans rfl
  have hfs17 := blk_frozen BK185.out 7
  have hns17_0 := NB184_185.out
  have hms17_0 := NB185_184.out
  refine skip_ (w1 := ?_) (by rfl) rfl ?_ ?_
  rotate_left
  · go_simp
    rfl
  refine hK.out _ _ ⟨((cell_far (p := ⟨gb185, _, none⟩) NB184_185.out _).trans (((cell_far (p := ⟨gb185, _, none⟩) NB184_185.out _).trans (((cell_far (p := ⟨gb185, _, none⟩) NB184_185.out _).trans (((cell_far (p := ⟨gb185, _, none⟩) NB184_185.out _).trans (((cell_far (p := ⟨gb185, _, none⟩) NB184_185.out _).trans (((cell_far (p := ⟨gb185, _, none⟩) NB184_185.out _).trans (((cell_far (p := ⟨gb185, _, none⟩) NB184_185.out _).trans (((cell_far (p := ⟨gb185, _, none⟩) NB184_185.out _).trans (hHeld.1)))))))))))))))), ((cell_far (p := ⟨gb185, _, none⟩) NB184_185.out _).trans (((cell_far (p := ⟨gb185, _, none⟩) NB184_185.out _).trans (((cell_far (p := ⟨gb185, _, none⟩) NB184_185.out _).trans (((cell_far (p := ⟨gb185, _, none⟩) NB184_185.out _).trans (((cell_far (p := ⟨gb185, _, none⟩) NB184_185.out _).trans (((cell_far (p := ⟨gb185, _, none⟩) NB184_185.out _).trans (((cell_far (p := ⟨gb185, _, none⟩) NB184_185.out _).trans (((cell_far (p := ⟨gb185, _, none⟩) NB184_185.out _).trans (hHeld.2.1)))))))))))))))), ((cell_far (p := ⟨gb185, _, none⟩) NB184_185.out _).trans (((cell_far (p := ⟨gb185, _, none⟩) NB184_185.out _).trans (((cell_far (p := ⟨gb185, _, none⟩) NB184_185.out _).trans (((cell_far (p := ⟨gb185, _, none⟩) NB184_185.out _).trans (((cell_far (p := ⟨gb185, _, none⟩) NB184_185.out _).trans (((cell_far (p := ⟨gb185, _, none⟩) NB184_185.out _).trans (((cell_far (p := ⟨gb185, _, none⟩) NB184_185.out _).trans (((cell_far (p := ⟨gb185, _, none⟩) NB184_185.out _).trans (hHeld.2.2.1)))))))))))))))), ((cell_far (p := ⟨gb185, _, none⟩) NB184_185.out _).trans (((cell_far (p := ⟨gb185, _, none⟩) NB184_185.out _).trans (((cell_far (p := ⟨gb185, _, none⟩) NB184_185.out _).trans (((cell_far (p := ⟨gb185, _, none⟩) NB184_185.out _).trans (((cell_far (p := ⟨gb185, _, none⟩) NB184_185.out _).trans (((cell_far (p := ⟨gb185, _, none⟩) NB184_185.out _).trans (((cell_far (p := ⟨gb185, _, none⟩) NB184_185.out _).trans (((cell_far (p := ⟨gb185, _, none⟩) NB184_185.out _).trans (hHeld.2.2.2))))))))))))))))⟩ (fun hHeld => ?_)
  clear hK K
  refine done_ (done_of HT_.out (by kernel_rfl)) ?_
  try go_wp2
  refine bodyPost_ret (results_cell_row rfl _ _ gb185 28 #[.int .i64 3, .int .i64 a2_0, .int .i64 a0, .int .i64 a1, .int .i64 a2_1, .int .i64 a2_2, .int .i64 0, .slice Ao9 t186.length co9] (0, 0) _ rfl (by (with_reducible repeat (first | refine blk_drewN ?_ _ | refine blk_drew ?_ | refine blk_alloc ?_ _)); refine blk_put (cs := #[.int .i64 3, .int .i64 a2_0, .int .i64 a0, .int .i64 a1, .int .i64 a2_1, .int .i64 a2_2, .int .i64 0, .slice none 0 0]) ?_ 7 _ rfl; (with_reducible repeat (first | refine blk_drewN ?_ _ | refine blk_drew ?_ | refine blk_alloc ?_ _)); refine blk_put (cs := #[.int .i64 3, .int .i64 a2_0, .int .i64 a0, .int .i64 a1, .int .i64 a2_1, .int .i64 a2_2, .int .i64 0, .slice none 0 0]) ?_ 6 _ rfl; (with_reducible repeat (first | refine blk_drewN ?_ _ | refine blk_drew ?_ | refine blk_alloc ?_ _)); refine blk_put (cs := #[.int .i64 3, .int .i64 a2_0, .int .i64 a0, .int .i64 a1, .int .i64 a2_1, .int .i64 0, .int .i64 0, .slice none 0 0]) ?_ 5 _ rfl; (with_reducible repeat (first | refine blk_drewN ?_ _ | refine blk_drew ?_ | refine blk_alloc ?_ _)); refine blk_put (cs := #[.int .i64 3, .int .i64 a2_0, .int .i64 a0, .int .i64 a1, .int .i64 0, .int .i64 0, .int .i64 0, .slice none 0 0]) ?_ 4 _ rfl; (with_reducible repeat (first | refine blk_drewN ?_ _ | refine blk_drew ?_ | refine blk_alloc ?_ _)); refine blk_put (cs := #[.int .i64 3, .int .i64 a2_0, .int .i64 a0, .int .i64 0, .int .i64 0, .int .i64 0, .int .i64 0, .slice none 0 0]) ?_ 3 _ rfl; (with_reducible repeat (first | refine blk_drewN ?_ _ | refine blk_drew ?_ | refine blk_alloc ?_ _)); refine blk_put (cs := #[.int .i64 3, .int .i64 a2_0, .int .i64 0, .int .i64 0, .int .i64 0, .int .i64 0, .int .i64 0, .slice none 0 0]) ?_ 2 _ rfl; (with_reducible repeat (first | refine blk_drewN ?_ _ | refine blk_drew ?_ | refine blk_alloc ?_ _)); refine blk_put (cs := #[.int .i64 3, .int .i64 0, .int .i64 0, .int .i64 0, .int .i64 0, .int .i64 0, .int .i64 0, .slice none 0 0]) ?_ 1 _ rfl; (with_reducible repeat (first | refine blk_drewN ?_ _ | refine blk_drew ?_ | refine blk_alloc ?_ _)); refine blk_put (cs := #[.int .i64 0, .int .i64 0, .int .i64 0, .int .i64 0, .int .i64 0, .int .i64 0, .int .i64 0, .slice none 0 0]) ?_ 0 _ rfl; (with_reducible repeat (first | refine blk_drewN ?_ _ | refine blk_drew ?_ | refine blk_alloc ?_ _)); exact BK185.out) Try.underlying28 rfl (by kernel_rfl)) rfl ?_
  exact ⟨_, by first | rfl | (simp [errW_none, errW_some] <;> rfl) | (simp [*, errW_none, errW_some] <;> rfl), by (with_reducible repeat (first | apply Kd.R_alloc | apply Kd.R_drewN | apply Kd.R_drew)); exact Kd.R_mono (Kd.R_far (p := ⟨gb185, 7, none⟩) (Kd.R_far (p := ⟨gb185, 6, none⟩) (Kd.R_far (p := ⟨gb185, 5, none⟩) (Kd.R_far (p := ⟨gb185, 4, none⟩) (Kd.R_far (p := ⟨gb185, 3, none⟩) (Kd.R_far (p := ⟨gb185, 2, none⟩) (Kd.R_far (p := ⟨gb185, 1, none⟩) (Kd.R_far (p := ⟨gb185, 0, none⟩) (Kd.R_types HO188.out BK185.out (by decide)) (fun _ hk => hk.2) (.int .i64 3)) (fun _ hk => hk.2) (.int .i64 a2_0)) (fun _ hk => hk.2) (.int .i64 a0)) (fun _ hk => hk.2) (.int .i64 a1)) (fun _ hk => hk.2) (.int .i64 a2_1)) (fun _ hk => hk.2) (.int .i64 a2_2)) (fun _ hk => hk.2) (.int .i64 0)) (fun _ hk => hk.2) (.slice Ao9 t186.length co9)) (fun _ hk => trivial), by repeat (first | (with_reducible first | exact HB.out | apply below_alloc | apply pw_below_drewN | apply below_drew1 | refine below_set ?_ GE184.out | refine below_set ?_ GE185.out) | exact HB.out)⟩
def sextonref01_Texts.l0 : Nat → List ByteArray → List ByteArray → Int → Option (Bool)
  | 0, _, _, _ => none
  | k + 1, x0, x1, x5 => if x5 < (x0.length : Int) then (if 0 ≤ x5 then (if x5 < (x1.length : Int) then (if (rdOf ByteArray.empty x0 x5).toList = (rdOf ByteArray.empty x1 x5).toList then (sextonref01_Texts.l0 k x0 x1 (wrap64 (x5 + 1))) else (some false)) else (none)) else (none)) else (some true)
def sextonref01_Texts.f (k : Nat) (l0 : List ByteArray) (l1 : List ByteArray) : Option (Bool) := if (l0.length : Int) = (l1.length : Int) then (sextonref01_Texts.l0 k l0 l1 0) else (some false)
set_option maxHeartbeats 8000000 in
set_option maxRecDepth 100000 in
theorem sextonref01_Texts.calls (k : Nat) (A0 : Option Addr) (c0 : Nat) (l0 : List ByteArray) (A1 : Option Addr) (c1 : Nat) (l1 : List ByteArray) (r : Bool) (w : World) (hr0 : Kd.C Kd.string w A0 l0.length l0) (hc0 : l0.length ≤ c0) (hr1 : Kd.C Kd.string w A1 l1.length l1) (hc1 : l1.length ≤ c1) (h : sextonref01_Texts.f k l0 l1 = some r) :
    Calls Try.prog 14 #[.slice A0 l0.length c0, .slice A1 l1.length c1] w fun e w' => e = .returned (.bool r) ∧ Drawn0 w w' := by
  have HR0 := Aside0.mk hr0
  have HC0 := Aside0.mk hc0
  clear hr0 hc0
  have HR1 := Aside0.mk hr1
  have HC1 := Aside0.mk hc1
  clear hr1 hc1
  have H : (if (l0.length : Int) = (l1.length : Int) then (sextonref01_Texts.l0 k l0 l1 0) else (some false)) = some r := h
  clear h
  by_cases c3 : (l0.length : Int) = (l1.length : Int)
  · rw [if_pos c3] at H
    have c3b0 : ((l0.length : Int) == (l1.length : Int)) = true := beq_iff_eq.mpr c3
    have c3b1 : ((l0.length : Int) != (l1.length : Int)) = false := bne_eq_false_iff_eq.mpr c3
    have c3b2 : (l0.length == l1.length) = true := by first | simpa using c3 | (simp at c3 ⊢; omega)
    clear c3
    have H' := Aside0.mk H
    clear H
    go_enter Try.func14, Try.ntmps14
    go_wp2
    repeat (go_quiet (fail); try go_wp2)
    go_loopg [5] k (fun kq v5 w' => ∃ (x5_1 : Int), v5 = .int .i64 x5_1 ∧ Aside0 (sextonref01_Texts.l0 kq l0 l1 x5_1 = some r) ∧ Aside0 (kq ≤ k) ∧ Drawn0 w w')
    case atStart => exact ⟨(0), (by first | rfl | (simp; done) | (simp [*]; done)), H', ⟨Nat.le_refl _⟩, by repeat (first | exact Drawn0.refl _ | apply Drawn0.step)⟩
    case round =>
      clear H'
      try clear c1
      try clear p2
      try clear c3
      try clear c3b0
      try clear c3b1
      try clear c3b2
      obtain ⟨x5_1, rfl, HA, HK1, ⟨m1, rfl⟩⟩ := hrel
      cases gk with
      | zero => exact absurd HA.out (by simp [sextonref01_Texts.l0])
      | succ k1 =>
        have H := HA.out
        clear HA
        simp only [sextonref01_Texts.l0] at H
        by_cases c4 : x5_1 < (l0.length : Int)
        · rw [if_pos c4] at H
          have c4b0 : decide (x5_1 < (l0.length : Int)) = true := decide_eq_true c4
          clear c4
          by_cases c5 : 0 ≤ x5_1
          · rw [if_pos c5] at H
            have c5b0 : decide (0 ≤ x5_1) = true := decide_eq_true c5
            clear c5
            by_cases c6 : x5_1 < (l1.length : Int)
            · rw [if_pos c6] at H
              have c6b0 : decide (x5_1 < (l1.length : Int)) = true := decide_eq_true c6
              clear c6
              by_cases c7 : (rdOf ByteArray.empty l0 x5_1).toList = (rdOf ByteArray.empty l1 x5_1).toList
              · rw [if_pos c7] at H
                have c7b0 : ((rdOf ByteArray.empty l0 x5_1).toList == (rdOf ByteArray.empty l1 x5_1).toList) = true := beq_iff_eq.mpr c7
                have c7b1 : ((rdOf ByteArray.empty l0 x5_1).toList != (rdOf ByteArray.empty l1 x5_1).toList) = false := bne_eq_false_iff_eq.mpr c7
                clear c7
                have H' := Aside0.mk H
                clear H
                have p189 : 0 ≤ (x5_1 : Int) := of_decide_eq_true (by first | (with_reducible assumption) | assumption)
                have q189 : x5_1 < (l0.length : Int) := of_decide_eq_true (by first | (with_reducible assumption) | assumption)
                obtain ⟨ad189, e189, hx189_0⟩ := Kd.at_string HR0.out x5_1 p189 q189
                cases e189
                replace p189 := eq_true p189
                replace q189 := eq_true q189
                have p190 : 0 ≤ (x5_1 : Int) := of_decide_eq_true (by first | (with_reducible assumption) | assumption)
                have q190 : x5_1 < (l1.length : Int) := of_decide_eq_true (by first | (with_reducible assumption) | assumption)
                obtain ⟨ad190, e190, hx190_0⟩ := Kd.at_string HR1.out x5_1 p190 q190
                cases e190
                replace p190 := eq_true p190
                replace q190 := eq_true q190
                go_wp2
                repeat (go_quiet (fail); try go_wp2)
                go_roundg k1
                case measure => have := HK1.out; omega
                case rel => exact ⟨(wrap64 (x5_1 + 1)), (by first | rfl | (simp; done) | (simp [*]; done)), H', ⟨by have := HK1.out; omega⟩, by repeat (first | exact Drawn0.refl _ | apply Drawn0.step)⟩
              · rw [if_neg c7] at H
                have c7b0 : ((rdOf ByteArray.empty l0 x5_1).toList == (rdOf ByteArray.empty l1 x5_1).toList) = false := beq_eq_false_iff_ne.mpr c7
                have c7b1 : ((rdOf ByteArray.empty l0 x5_1).toList != (rdOf ByteArray.empty l1 x5_1).toList) = true := bne_iff_ne.mpr c7
                obtain rfl := Option.some.inj H
                have p189 : 0 ≤ (x5_1 : Int) := of_decide_eq_true (by first | (with_reducible assumption) | assumption)
                have q189 : x5_1 < (l0.length : Int) := of_decide_eq_true (by first | (with_reducible assumption) | assumption)
                obtain ⟨ad189, e189, hx189_0⟩ := Kd.at_string HR0.out x5_1 p189 q189
                cases e189
                replace p189 := eq_true p189
                replace q189 := eq_true q189
                have p190 : 0 ≤ (x5_1 : Int) := of_decide_eq_true (by first | (with_reducible assumption) | assumption)
                have q190 : x5_1 < (l1.length : Int) := of_decide_eq_true (by first | (with_reducible assumption) | assumption)
                obtain ⟨ad190, e190, hx190_0⟩ := Kd.at_string HR1.out x5_1 p190 q190
                cases e190
                replace p190 := eq_true p190
                replace q190 := eq_true q190
                go_wp2
                repeat (go_quiet (fail); try go_wp2)
                go_ret
                exact ⟨by first | rfl | (simp; done) | (simp [*]; done), by repeat (first | exact Drawn0.refl _ | apply Drawn0.step)⟩
            · rw [if_neg c6] at H
              exact absurd H (by simp)
          · rw [if_neg c5] at H
            exact absurd H (by simp)
        · rw [if_neg c4] at H
          have c4b0 : decide (x5_1 < (l0.length : Int)) = false := decide_eq_false c4
          clear c4
          obtain rfl := Option.some.inj H
          go_wp2
          repeat (go_quiet (fail); try go_wp2)
          go_ret
          exact ⟨by first | rfl | (simp; done) | (simp [*]; done), by repeat (first | exact Drawn0.refl _ | apply Drawn0.step)⟩
  · rw [if_neg c3] at H
    have c3b0 : ((l0.length : Int) == (l1.length : Int)) = false := beq_eq_false_iff_ne.mpr c3
    have c3b1 : ((l0.length : Int) != (l1.length : Int)) = true := bne_iff_ne.mpr c3
    have c3b2 : (l0.length == l1.length) = false := by first | simpa using c3 | (simp at c3 ⊢; omega)
    obtain rfl := Option.some.inj H
    go_enter Try.func14, Try.ntmps14
    go_wp2
    repeat (go_quiet (fail); try go_wp2)
    go_ret
    exact ⟨by first | rfl | (simp; done) | (simp [*]; done), by repeat (first | exact Drawn0.refl _ | apply Drawn0.step)⟩
def sextonref01_Ints.l0 : Nat → List Int → List Int → Int → Option (Bool)
  | 0, _, _, _ => none
  | k + 1, x0, x1, x5 => if x5 < (x0.length : Int) then (if 0 ≤ x5 then (if x5 < (x1.length : Int) then (if (rd x0 x5) = (rd x1 x5) then (sextonref01_Ints.l0 k x0 x1 (wrap64 (x5 + 1))) else (some false)) else (none)) else (none)) else (some true)
def sextonref01_Ints.f (k : Nat) (l0 : List Int) (l1 : List Int) : Option (Bool) := if (l0.length : Int) = (l1.length : Int) then (sextonref01_Ints.l0 k l0 l1 0) else (some false)
set_option maxHeartbeats 8000000 in
set_option maxRecDepth 100000 in
theorem sextonref01_Ints.calls (k : Nat) (A0 : Option Addr) (c0 : Nat) (l0 : List Int) (A1 : Option Addr) (c1 : Nat) (l1 : List Int) (r : Bool) (w : World) (hr0 : Kd.C (Kd.int .i64) w A0 l0.length l0) (hc0 : l0.length ≤ c0) (hr1 : Kd.C (Kd.int .i64) w A1 l1.length l1) (hc1 : l1.length ≤ c1) (h : sextonref01_Ints.f k l0 l1 = some r) :
    Calls Try.prog 26 #[.slice A0 l0.length c0, .slice A1 l1.length c1] w fun e w' => e = .returned (.bool r) ∧ Drawn0 w w' := by
  have HR0 := Aside0.mk hr0
  have HC0 := Aside0.mk hc0
  clear hr0 hc0
  have HR1 := Aside0.mk hr1
  have HC1 := Aside0.mk hc1
  clear hr1 hc1
  have H : (if (l0.length : Int) = (l1.length : Int) then (sextonref01_Ints.l0 k l0 l1 0) else (some false)) = some r := h
  clear h
  by_cases c3 : (l0.length : Int) = (l1.length : Int)
  · rw [if_pos c3] at H
    have c3b0 : ((l0.length : Int) == (l1.length : Int)) = true := beq_iff_eq.mpr c3
    have c3b1 : ((l0.length : Int) != (l1.length : Int)) = false := bne_eq_false_iff_eq.mpr c3
    have c3b2 : (l0.length == l1.length) = true := by first | simpa using c3 | (simp at c3 ⊢; omega)
    clear c3
    have H' := Aside0.mk H
    clear H
    go_enter Try.func26, Try.ntmps26
    go_wp2
    repeat (go_quiet (fail); try go_wp2)
    go_loopg [5] k (fun kq v5 w' => ∃ (x5_1 : Int), v5 = .int .i64 x5_1 ∧ Aside0 (sextonref01_Ints.l0 kq l0 l1 x5_1 = some r) ∧ Aside0 (kq ≤ k) ∧ Drawn0 w w')
    case atStart => exact ⟨(0), (by first | rfl | (simp; done) | (simp [*]; done)), H', ⟨Nat.le_refl _⟩, by repeat (first | exact Drawn0.refl _ | apply Drawn0.step)⟩
    case round =>
      clear H'
      try clear c1
      try clear c2
      try clear p2
      try clear c3
      try clear c3b0
      try clear c3b1
      try clear c3b2
      obtain ⟨x5_1, rfl, HA, HK1, ⟨m1, rfl⟩⟩ := hrel
      cases gk with
      | zero => exact absurd HA.out (by simp [sextonref01_Ints.l0])
      | succ k1 =>
        have H := HA.out
        clear HA
        simp only [sextonref01_Ints.l0] at H
        by_cases c4 : x5_1 < (l0.length : Int)
        · rw [if_pos c4] at H
          have c4b0 : decide (x5_1 < (l0.length : Int)) = true := decide_eq_true c4
          clear c4
          by_cases c5 : 0 ≤ x5_1
          · rw [if_pos c5] at H
            have c5b0 : decide (0 ≤ x5_1) = true := decide_eq_true c5
            clear c5
            by_cases c6 : x5_1 < (l1.length : Int)
            · rw [if_pos c6] at H
              have c6b0 : decide (x5_1 < (l1.length : Int)) = true := decide_eq_true c6
              clear c6
              by_cases c7 : (rd l0 x5_1) = (rd l1 x5_1)
              · rw [if_pos c7] at H
                have c7b0 : ((rd l0 x5_1) == (rd l1 x5_1)) = true := beq_iff_eq.mpr c7
                have c7b1 : ((rd l0 x5_1) != (rd l1 x5_1)) = false := bne_eq_false_iff_eq.mpr c7
                clear c7
                have H' := Aside0.mk H
                clear H
                have p191 : 0 ≤ (x5_1 : Int) := of_decide_eq_true (by first | (with_reducible assumption) | assumption)
                have q191 : x5_1 < (l0.length : Int) := of_decide_eq_true (by first | (with_reducible assumption) | assumption)
                obtain ⟨ad191, e191, hx191_0⟩ := Kd.at_int HR0.out x5_1 p191 q191
                cases e191
                replace p191 := eq_true p191
                replace q191 := eq_true q191
                have p192 : 0 ≤ (x5_1 : Int) := of_decide_eq_true (by first | (with_reducible assumption) | assumption)
                have q192 : x5_1 < (l1.length : Int) := of_decide_eq_true (by first | (with_reducible assumption) | assumption)
                obtain ⟨ad192, e192, hx192_0⟩ := Kd.at_int HR1.out x5_1 p192 q192
                cases e192
                replace p192 := eq_true p192
                replace q192 := eq_true q192
                go_wp2
                repeat (go_quiet (fail); try go_wp2)
                go_roundg k1
                case measure => have := HK1.out; omega
                case rel => exact ⟨(wrap64 (x5_1 + 1)), (by first | rfl | (simp; done) | (simp [*]; done)), H', ⟨by have := HK1.out; omega⟩, by repeat (first | exact Drawn0.refl _ | apply Drawn0.step)⟩
              · rw [if_neg c7] at H
                have c7b0 : ((rd l0 x5_1) == (rd l1 x5_1)) = false := beq_eq_false_iff_ne.mpr c7
                have c7b1 : ((rd l0 x5_1) != (rd l1 x5_1)) = true := bne_iff_ne.mpr c7
                obtain rfl := Option.some.inj H
                have p191 : 0 ≤ (x5_1 : Int) := of_decide_eq_true (by first | (with_reducible assumption) | assumption)
                have q191 : x5_1 < (l0.length : Int) := of_decide_eq_true (by first | (with_reducible assumption) | assumption)
                obtain ⟨ad191, e191, hx191_0⟩ := Kd.at_int HR0.out x5_1 p191 q191
                cases e191
                replace p191 := eq_true p191
                replace q191 := eq_true q191
                have p192 : 0 ≤ (x5_1 : Int) := of_decide_eq_true (by first | (with_reducible assumption) | assumption)
                have q192 : x5_1 < (l1.length : Int) := of_decide_eq_true (by first | (with_reducible assumption) | assumption)
                obtain ⟨ad192, e192, hx192_0⟩ := Kd.at_int HR1.out x5_1 p192 q192
                cases e192
                replace p192 := eq_true p192
                replace q192 := eq_true q192
                go_wp2
                repeat (go_quiet (fail); try go_wp2)
                go_ret
                exact ⟨by first | rfl | (simp; done) | (simp [*]; done), by repeat (first | exact Drawn0.refl _ | apply Drawn0.step)⟩
            · rw [if_neg c6] at H
              exact absurd H (by simp)
          · rw [if_neg c5] at H
            exact absurd H (by simp)
        · rw [if_neg c4] at H
          have c4b0 : decide (x5_1 < (l0.length : Int)) = false := decide_eq_false c4
          clear c4
          obtain rfl := Option.some.inj H
          go_wp2
          repeat (go_quiet (fail); try go_wp2)
          go_ret
          exact ⟨by first | rfl | (simp; done) | (simp [*]; done), by repeat (first | exact Drawn0.refl _ | apply Drawn0.step)⟩
  · rw [if_neg c3] at H
    have c3b0 : ((l0.length : Int) == (l1.length : Int)) = false := beq_eq_false_iff_ne.mpr c3
    have c3b1 : ((l0.length : Int) != (l1.length : Int)) = true := bne_iff_ne.mpr c3
    have c3b2 : (l0.length == l1.length) = false := by first | simpa using c3 | (simp at c3 ⊢; omega)
    obtain rfl := Option.some.inj H
    go_enter Try.func26, Try.ntmps26
    go_wp2
    repeat (go_quiet (fail); try go_wp2)
    go_ret
    exact ⟨by first | rfl | (simp; done) | (simp [*]; done), by repeat (first | exact Drawn0.refl _ | apply Drawn0.step)⟩
end Go.Proofs.Ytfpfpckocemmdaa.P
end
section
namespace Go.Proofs.Ytfpfpckocemmdaa.P
open Go.RowKit Go.Proofs.YtfpfpckocemmdaaW.PrintWords Go.Proofs.YtfpfpckocemmdaaW.PrintLast Go.Proofs.YtfpfpckocemmdaaW.PrintMore
set_option linter.unusedVariables false
set_option linter.unusedSimpArgs false
def Nod.prim (x : Nod) (view : Int) : Bool := view % x.n == x.id
def Nod.leads (x : Nod) : Bool := x.works && x.prim x.view
theorem primary_of (view n : Int) (hv : 0 ≤ view) (hn : 1 ≤ n) : quorum_Primary.f view n = some (view % n, true) := by
  unfold quorum_Primary.f
  rw [if_neg (by omega), if_neg (by omega), if_neg (by omega), Int.tmod_eq_emod_of_nonneg hv]
set_option maxHeartbeats 8000000 in
set_option maxRecDepth 100000 in
theorem primary_calls (x : Nod) (view : Int) (w : World) (g : Nat) (h0 : w.cell? ⟨g, 0, none⟩ = some (.int .i64 x.id)) (h1 : w.cell? ⟨g, 1, none⟩ = some (.int .i64 x.n)) (hv : 0 ≤ view) (hn : 1 ≤ x.n) :
    Calls Try.prog 47 #[.pointer (some ⟨g, 0, none⟩), .int .i64 view] w fun e w' => e = .returned (.bool (x.prim view)) ∧ Drawn0 w w' := by
  have hu57 := Try.underlying57
  have hu26 := Try.underlying26
  have HP := Aside0.mk (primary_of view x.n hv hn)
  have HE := Aside0.mk (show x.prim view = (view % x.n == x.id) from rfl)
  clear hv hn
  generalize hp : view % x.n = p at *
  go_enter Try.func47, Try.ntmps47
  go_wp2_with (first | (go_at_call 31; refine (quorum_Primary.calls view x.n p true _ HP.out).mono ?_; rintro e w' ⟨rfl, ⟨nd, rfl⟩⟩))
  go_ret
  exact ⟨by rw [HE.out]; rfl, by repeat (first | exact Drawn0.refl _ | apply Drawn0.step)⟩
set_option maxHeartbeats 8000000 in
set_option maxRecDepth 100000 in
theorem leads_calls (x : Nod) (w : World) (g : Nat) (h0 : w.cell? ⟨g, 0, none⟩ = some (.int .i64 x.id)) (h1 : w.cell? ⟨g, 1, none⟩ = some (.int .i64 x.n)) (h2 : w.cell? ⟨g, 2, none⟩ = some (.int .i64 x.view)) (h4 : w.cell? ⟨g, 4, none⟩ = some (.bool x.works)) (hv : 0 ≤ x.view) (hn : 1 ≤ x.n) :
    Calls Try.prog 34 #[.pointer (some ⟨g, 0, none⟩)] w fun e w' => e = .returned (.bool x.leads) ∧ Drawn0 w w' := by
  have hu57 := Try.underlying57
  have hu26 := Try.underlying26
  have HP := Aside0.mk (primary_calls x x.view w g h0 h1 hv hn)
  have HE := Aside0.mk (show x.leads = (x.works && x.prim x.view) from rfl)
  clear hv hn
  generalize x.prim x.view = p at *
  cases hw : x.works with
  | false =>
    rw [hw] at h4 HE
    go_enter Try.func34, Try.ntmps34
    go_wp2
    go_ret
    exact ⟨by rw [HE.out]; rfl, by repeat (first | exact Drawn0.refl _ | apply Drawn0.step)⟩
  | true =>
    rw [hw] at h4 HE
    go_enter Try.func34, Try.ntmps34
    go_wp2_with (first | (go_at_call 47; refine HP.out.mono ?_; rintro e w' ⟨rfl, ⟨nd, rfl⟩⟩))
    go_ret
    exact ⟨by rw [HE.out]; rfl, by repeat (first | exact Drawn0.refl _ | apply Drawn0.step)⟩
theorem x_step_call {P : Program} {ops : Array Oper} {o : Oper} {a : Act} {w : World} {K : Act → World → Prop} {Q : Exit → Act → World → Prop} {E : Prop} (hg : o.guard = none) {f : FuncId} {fn : Func} {xs : Array Operand} {ts : Array TypeId}
    (hf : P.funcs[f]? = some fn) (hname : (fn.name == "runtime.NumGoroutine") = false) (hb : fn.body.isSome = true) (args : Array Value)
    (hop : o.op = .call { callee := .value (.func f), args := xs, argTypes := ts }) (hargs : xs.map a.eval = args)
    (h : Calls P f args w fun e w' => ∃ v, e = .returned v ∧ K (a.put o.dst v) w') : if Region.wanted o (yielded ops a.tmps) = true then Oper.wp P o a w K Q else E := by
  have hw : Region.wanted o (yielded ops a.tmps) = true := by simp [Region.wanted, hg]
  rw [if_pos hw]
  have he := enters_ hf hname hb args w
  have hrun : (execOp a.eval o).run P w = .ok (.enter f args) w := by
    unfold execOp
    simp [hop, resolve, Deferred.ofValue, invoke, Act.eval, hargs, he]
  unfold Oper.wp
  rw [hrun, Oper.upon_enter]
  refine h.mono fun e w'' hh => ?_
  obtain ⟨v, rfl, hk⟩ := hh
  exact hk
theorem Nd.set_commit {w : World} {base g : Nat} {ok : Nat → Prop} {x : Nod} (h : Nd w base g ok x) (v : Int) : Nd (w.setCell ⟨g, 5, none⟩ (.int .i64 v)) base g ok { x with commit := v } := by
  obtain ⟨v6, v7, v8, v9, P6, P7, P8, P9, hb, hg, hok, h6, h7, h8, h9, ho, a6, a7, a8⟩ := h
  exact ⟨v6, v7, v8, v9, P6, P7, P8, P9, blk_put (cs' := Nod.cells { x with commit := v } v6 v7 v8 v9) hb 5 _ rfl, hg, hok, Kd.R_far h6 (fun k hk => (ho k (.inl hk)).2) _, Kd.R_far h7 (fun k hk => (ho k (.inr (.inl hk))).2) _, Kd.S_far h8 (fun k hk => (ho k (.inr (.inr (.inl hk)))).2) _, Kd.S_far h9 (fun k hk => (ho k (.inr (.inr (.inr hk)))).2) _, ho, a6, a7, a8⟩
theorem Nd.set_ack {w : World} {base g : Nat} {ok : Nat → Prop} {x : Nod} (h : Nd w base g ok x) (ga n c7 : Nat) (hc : w.cell? ⟨g, 7, none⟩ = some (.slice (some ⟨ga, 0, none⟩) n c7)) (i y : Int) : Nd (w.setCell ⟨ga, i.toNat, none⟩ (.int .i64 y)) base g ok { x with acks := x.acks.set i.toNat y } := by
  obtain ⟨v6, v7, v8, v9, P6, P7, P8, P9, hb, hg, hok, h6, h7, h8, h9, ho, a6, a7, a8⟩ := h
  have e7 : v7 = .slice (some ⟨ga, 0, none⟩) n c7 := by
    have h1 : w.cell? ⟨g, 7, none⟩ = some v7 := blk_cell hb 7
    rw [h1] at hc
    exact Option.some.inj hc
  subst e7
  have hP : P7 ga := h7.1 ga rfl
  have hne : g ≠ ga := fun e => (ho ga (.inr (.inl hP))).2 e.symm
  exact ⟨v6, _, v8, v9, P6, P7, P8, P9, blk_far hb (p := ⟨ga, i.toNat, none⟩) hne _, hg, hok, Kd.R_far h6 (fun k hk e => (a6 k hk).1 (by rw [show k = ga from e]; exact hP)) _, (Kd.R_putg h7 i y).1, Kd.S_far h8 (fun k hk e => (a7 ga hP).1 (by rw [← show k = ga from e]; exact hk)) _, Kd.S_far h9 (fun k hk e => (a7 ga hP).2 (by rw [← show k = ga from e]; exact hk)) _, ho, a6, a7, a8⟩
def Nod.count (x : Nod) (c : Int) : Nod := if x.leads then { x with acks := x.acks.set x.id.toNat (x.log.length : Int), commit := max x.commit c } else x
set_option maxHeartbeats 8000000 in
set_option maxRecDepth 100000 in
theorem count_calls (x : Nod) (w : World) (base g : Nat) (ok : Nat → Prop) (c : Int) (hid : 0 ≤ x.id) (hid2 : x.id < (x.acks.length : Int)) (hv : 0 ≤ x.view) (hn : 1 ≤ x.n) (hc : quorum_Commit.f (x.acks.set x.id.toNat (x.log.length : Int)) = some c) (hbase : base ≤ w.heap.size) (h : Nd w base g ok x) :
    Calls Try.prog 35 #[.pointer (some ⟨g, 0, none⟩)] w fun e w' => e = .returned (.tuple #[]) ∧ Nd w' base g (fun k => ok k ∨ w.heap.size ≤ k) (x.count c) ∧ Kept w w' ok ∧ Below base w w' := by
  have hu57 := Try.underlying57
  have hu26 := Try.underlying26
  have HN := Aside0.mk h
  have hlt := h.lt
  have hge := h.ge
  obtain ⟨v6, v7, v8, v9, P6, P7, P8, P9, hb, -, hok, h6, h7, h8, h9, ho, a6, a7, a8⟩ := h.bound
  clear h
  have hL := Aside0.mk (leads_calls x w g (blk_cell hb 0) (blk_cell hb 1) (blk_cell hb 2) (blk_cell hb 4) hv hn)
  by_cases hle : x.leads = true
  · obtain ⟨ga, c7, rfl, gb7, gl7, cl7, hg7⟩ := Kd.R_form h7 (by omega)
    obtain ⟨A6, c6, rfl⟩ := Kd.R_slice h6
    have hc0 : w.cell? ⟨g, 0, none⟩ = some (.int .i64 x.id) := blk_cell hb 0
    have hc6 : w.cell? ⟨g, 6, none⟩ = some (.slice A6 x.log.length c6) := blk_cell hb 6
    have hc7 : w.cell? ⟨g, 7, none⟩ = some (.slice (some ⟨ga, 0, none⟩) x.acks.length c7) := blk_cell hb 7
    obtain ⟨hx, hf⟩ := Kd.R_celln (0 : Int) h7 x.id hid hid2
    have HP := Aside0.mk (Kd.R_putg h7 x.id (x.log.length : Int))
    have p1 := eq_true hid
    have q1 := eq_true hid2
    have HCT := Aside0.mk (show x.count c = { x with acks := x.acks.set x.id.toNat (x.log.length : Int), commit := max x.commit c } by unfold Nod.count; rw [if_pos hle])
    have HOK := Aside0.mk hok.1
    rw [hle] at hL
    have HO := Aside0.mk ho
    have HBK := Aside0.mk hb
    have HCC := Aside0.mk hc
    have H6 := Aside0.mk h6
    have HR7 := Aside0.mk h7
    have H8 := Aside0.mk h8
    have H9 := Aside0.mk h9
    clear hb h6 h7 h8 h9 ho a6 a7 a8 hok hc hle cl7 hg7
    go_enter Try.func35, Try.ntmps35
    go_wp2_with (first | (go_at_call 34; refine hL.out.mono ?_; rintro e w' ⟨rfl, ⟨nd, rfl⟩⟩))
    go_region
    have hga : g ≠ ga := fun e => (HO.out ga (.inr (.inl (HR7.out.1 ga rfl)))).2 e.symm
    have HBK1 := Aside0.mk (blk_far (blk_drewN HBK.out (nd + 1)) (p := ⟨ga, x.id.toNat, none⟩) hga (.int .i64 (x.log.length : Int)))
    have hd5 : ((w.drewN (nd + 1)).setCell ⟨ga, x.id.toNat, none⟩ (.int .i64 (x.log.length : Int))).cell? ⟨g, 5, none⟩ = some (.int .i64 x.commit) := blk_cell HBK1.out 5
    have hd7 : ((w.drewN (nd + 1)).setCell ⟨ga, x.id.toNat, none⟩ (.int .i64 (x.log.length : Int))).cell? ⟨g, 7, none⟩ = some (.slice (some ⟨ga, 0, none⟩) x.acks.length c7) := blk_cell HBK1.out 7
    have HN1 := Aside0.mk ((HN.out.step (w1 := w.drewN (nd + 1)) (fun _ _ _ => rfl)).set_ack ga _ c7 hc7 x.id (x.log.length : Int))
    have HOKA := Aside0.mk (show ok ga from (HO.out ga (.inr (.inl (HR7.out.1 ga rfl)))).1.1)
    have HKA : Aside0 (∀ W, W = (w.drewN (nd + 1)).setCell ⟨ga, x.id.toNat, none⟩ (.int .i64 (x.log.length : Int)) → ∀ w3, Below W.drew.heap.size W.drew w3 → Kept w w3 ok) := ⟨fun W hW w3 hb3 => by
      have hsz : W.drew.heap.size = w.heap.size := by rw [hW]; simp [World.setCell]
      refine ⟨by have := hb3.size; omega, fun i hi hno => ?_⟩
      have h1 := hb3.block i (by omega)
      rw [h1, hW]
      exact Below.heap_setCell _ _ _ i (fun e => hno (by rw [show i = ga from e]; exact HOKA.out))⟩
    have HBA : Aside0 (∀ W, W = (w.drewN (nd + 1)).setCell ⟨ga, x.id.toNat, none⟩ (.int .i64 (x.log.length : Int)) → ∀ w3, Below W.drew.heap.size W.drew w3 → Below base w w3) := ⟨fun W hW w3 hb3 => by
      have hsz : W.drew.heap.size = w.heap.size := by rw [hW]; simp [World.setCell]
      refine ⟨by rw [hb3.os, hW]; rfl, by rw [hb3.tape, hW]; rfl, by rw [hb3.output, hW]; rfl, by have := hb3.size; omega, fun i hi => ?_⟩
      have h1 := hb3.block i (by omega)
      rw [h1, hW]
      exact Below.heap_setCell _ _ _ i (fun e => by have : i = ga := e; omega)⟩
    clear hc0 hc6 hc7 hx hf p1 q1
    generalize hW1 : (w.drewN (nd + 1)).setCell ⟨ga, x.id.toNat, none⟩ (.int .i64 (x.log.length : Int)) = W1 at *
    have HR1 := Aside0.mk (show Kd.R (Kd.int .i64) 3 W1 base _ (.slice (some ⟨ga, 0, none⟩) x.acks.length c7) (x.acks.set x.id.toNat (x.log.length : Int)) from by rw [← hW1]; exact HP.out.1)
    have HCOM := Aside0.mk (show Calls Try.prog 53 #[.slice (some ⟨ga, 0, none⟩) x.acks.length c7] W1.drew fun e w' => e = .returned (.int .i64 c) ∧ Below W1.drew.heap.size W1.drew w' from by
      obtain ⟨hn7, hcap, hC⟩ := Kd.R_reads' HR1.out
      have h := quorum_Commit.calls (some ⟨ga, 0, none⟩) c7 (x.acks.set x.id.toNat (x.log.length : Int)) c W1.drew (by exact hC) (by rw [List.length_set]; exact hcap) HCC.out
      rwa [List.length_set] at h)
    go_wp2
    go_region_law (refine x_step_call rfl Try.func53 (by kernel_rfl) rfl #[.slice (some ⟨ga, 0, none⟩) x.acks.length c7] rfl (by simp [Act.eval, Act.put]) ?_; refine HCOM.out.mono ?_; rintro e w3 ⟨rfl, hb3⟩; have HB3 := Aside0.mk hb3; have HBK3 := Aside0.mk ((hb3.block g (blk_lt HBK1.out)).trans HBK1.out); have hs5 : w3.cell? ⟨g, 5, none⟩ = some (.int .i64 x.commit) := blk_cell HBK3.out 5; have ht5 : w3.frozen? ⟨g, 5, none⟩ = false := blk_frozen HBK3.out 5; clear hb3; refine ⟨_, rfl, ?_⟩)
    all_goals
      go_end0
      refine ⟨rfl, ?_, ?_, ?_⟩
      · rw [HCT.out]
        exact ((((HN1.out.step (w1 := W1.drew) (fun _ _ _ => rfl)).below HB3.out).set_commit _).mono (fun k hk => Or.inl hk))
      · exact kept_at (HKA.out W1 rfl _ HB3.out) HOK.out
      · exact below_at (HBA.out W1 rfl _ HB3.out) hge
  · have hle2 : x.leads = false := by simpa using hle
    rw [hle2] at hL
    have HC := Aside0.mk (show x.count c = x by unfold Nod.count; rw [if_neg hle])
    clear hb h6 h7 h8 h9 ho a6 a7 a8 hok hle hle2 hc
    go_enter Try.func35, Try.ntmps35
    go_wp2_with (first | (go_at_call 34; refine hL.out.mono ?_; rintro e w' ⟨rfl, ⟨nd, rfl⟩⟩))
    go_end0
    refine ⟨rfl, ?_, ⟨Nat.le_refl _, fun _ _ _ => rfl⟩, ?_⟩
    · rw [HC.out]
      exact (HN.out.step (w1 := w.drewN nd) (fun _ _ _ => rfl)).mono (fun k hk => Or.inl hk)
    · exact ⟨rfl, rfl, rfl, Nat.le_refl _, fun _ _ => rfl⟩
set_option maxHeartbeats 8000000 in
set_option maxRecDepth 100000 in
theorem own_calls (x : Nod) (w : World) (base g : Nat) (ok : Nat → Prop) (h : Nd w base g ok x) :
    Calls Try.prog 33 #[.pointer (some ⟨g, 0, none⟩)] w fun e w' => ∃ A6 c6, e = .returned (.agg #[.int .i64 x.id, .int .i64 x.last, .int .i64 x.commit, .slice A6 x.log.length c6]) ∧ x.log.length ≤ c6 ∧ Kd.C Kd.string w A6 x.log.length x.log ∧ Below w.heap.size w w' := by
  have hu57 := Try.underlying57
  have hu26 := Try.underlying26
  have hu66 := Try.underlying66
  obtain ⟨v6, v7, v8, v9, P6, P7, P8, P9, hb, -, hok, h6, h7, h8, h9, ho, a6, a7, a8⟩ := h
  obtain ⟨A6, c6, rfl, hc6, hC⟩ := Kd.R_reads h6
  have HC := Aside0.mk hC
  have HC6 := Aside0.mk hc6
  have hc0 : ∀ o, (w.alloc o).cell? ⟨g, 0, none⟩ = some (.int .i64 x.id) := fun o => blk_cell (blk_alloc hb o) 0
  have hc3 : ∀ o, (w.alloc o).cell? ⟨g, 3, none⟩ = some (.int .i64 x.last) := fun o => blk_cell (blk_alloc hb o) 3
  have hc5 : ∀ o, (w.alloc o).cell? ⟨g, 5, none⟩ = some (.int .i64 x.commit) := fun o => blk_cell (blk_alloc hb o) 5
  have hcL : ∀ o, (w.alloc o).cell? ⟨g, 6, none⟩ = some (.slice A6 x.log.length c6) := fun o => blk_cell (blk_alloc hb o) 6
  clear hb hok h6 h7 h8 h9 ho a6 a7 a8 hC hc6
  go_enter Try.func33, Try.ntmps33
  go_wp2
  go_region
  all_goals
    go_wp2
    refine bodyPost_ret (results_cell_row rfl _ _ w.heap.size 66 #[.int .i64 x.id, .int .i64 x.last, .int .i64 x.commit, .slice A6 x.log.length c6] (0, 0) _ rfl ?_ Try.underlying66 rfl (by kernel_rfl)) rfl ?_
    · exact x_alloc_new (w.drew) _
    · exact ⟨A6, c6, rfl, HC6.out, HC.out, by repeat (first | exact Below.refl _ _ | apply pw_below_drewN | apply below_drew1 | apply below_alloc)⟩
end Go.Proofs.Ytfpfpckocemmdaa.P
end
section
namespace Go.Proofs.Ytfpfpckocemmdaa.P
open Go.RowKit Go.Proofs.YtfpfpckocemmdaaW.PrintWords Go.Proofs.YtfpfpckocemmdaaW.PrintLast Go.Proofs.YtfpfpckocemmdaaW.PrintMore
set_option linter.unusedVariables false
set_option linter.unusedSimpArgs false
theorem Nd.blk {w : World} {base g : Nat} {ok : Nat → Prop} {x : Nod} (h : Nd w base g ok x) : ∃ A6 c6 A7 c7 A8 c8 A9 c9, w.heap[g]? = some (.cells (x.cells (.slice A6 x.log.length c6) (.slice A7 x.acks.length c7) (.slice A8 x.votes.length c8) (.slice A9 x.told.length c9)) 57 (0, 0)) ∧
    x.log.length ≤ c6 ∧ Kd.C Kd.string w A6 x.log.length x.log ∧ x.acks.length ≤ c7 ∧ Kd.C (Kd.int .i64) w A7 x.acks.length x.acks ∧ x.votes.length ≤ c8 ∧ Kd.C k66 w A8 x.votes.length x.votes ∧ x.told.length ≤ c9 ∧ Kd.C k28 w A9 x.told.length x.told := by
  obtain ⟨v6, v7, v8, v9, P6, P7, P8, P9, hb, hg, hok, h6, h7, h8, h9, ho, a6, a7, a8⟩ := h
  obtain ⟨A6, c6, rfl, e6, k6⟩ := Kd.R_reads h6
  obtain ⟨A7, c7, rfl, e7, k7⟩ := Kd.R_reads h7
  obtain ⟨A8, c8, rfl, e8, k8⟩ := Kd.S_reads h8
  obtain ⟨A9, c9, rfl, e9, k9⟩ := Kd.S_reads h9
  exact ⟨A6, c6, A7, c7, A8, c8, A9, c9, hb, e6, k6, e7, k7, e8, k8, e9, k9⟩
theorem Nd.old {w w1 : World} {base g : Nat} {ok : Nat → Prop} {x : Nod} (h : Nd w base g ok x) (hb : Below w.heap.size w w1) : Nd w1 base g (fun k => ok k ∧ k < w.heap.size ∧ base ≤ k) x := h.bound.below hb
theorem Nd.set_view {w : World} {base g : Nat} {ok : Nat → Prop} {x : Nod} (h : Nd w base g ok x) (v : Int) : Nd (w.setCell ⟨g, 2, none⟩ (.int .i64 v)) base g ok { x with view := v } := by
  obtain ⟨v6, v7, v8, v9, P6, P7, P8, P9, hb, hg, hok, h6, h7, h8, h9, ho, a6, a7, a8⟩ := h
  exact ⟨v6, v7, v8, v9, P6, P7, P8, P9, blk_put (cs' := Nod.cells { x with view := v } v6 v7 v8 v9) hb 2 _ rfl, hg, hok, Kd.R_far h6 (fun k hk => (ho k (.inl hk)).2) _, Kd.R_far h7 (fun k hk => (ho k (.inr (.inl hk))).2) _, Kd.S_far h8 (fun k hk => (ho k (.inr (.inr (.inl hk)))).2) _, Kd.S_far h9 (fun k hk => (ho k (.inr (.inr (.inr hk)))).2) _, ho, a6, a7, a8⟩
theorem Nd.set_last {w : World} {base g : Nat} {ok : Nat → Prop} {x : Nod} (h : Nd w base g ok x) (v : Int) : Nd (w.setCell ⟨g, 3, none⟩ (.int .i64 v)) base g ok { x with last := v } := by
  obtain ⟨v6, v7, v8, v9, P6, P7, P8, P9, hb, hg, hok, h6, h7, h8, h9, ho, a6, a7, a8⟩ := h
  exact ⟨v6, v7, v8, v9, P6, P7, P8, P9, blk_put (cs' := Nod.cells { x with last := v } v6 v7 v8 v9) hb 3 _ rfl, hg, hok, Kd.R_far h6 (fun k hk => (ho k (.inl hk)).2) _, Kd.R_far h7 (fun k hk => (ho k (.inr (.inl hk))).2) _, Kd.S_far h8 (fun k hk => (ho k (.inr (.inr (.inl hk)))).2) _, Kd.S_far h9 (fun k hk => (ho k (.inr (.inr (.inr hk)))).2) _, ho, a6, a7, a8⟩
theorem Nd.set_works {w : World} {base g : Nat} {ok : Nat → Prop} {x : Nod} (h : Nd w base g ok x) (v : Bool) : Nd (w.setCell ⟨g, 4, none⟩ (.bool v)) base g ok { x with works := v } := by
  obtain ⟨v6, v7, v8, v9, P6, P7, P8, P9, hb, hg, hok, h6, h7, h8, h9, ho, a6, a7, a8⟩ := h
  exact ⟨v6, v7, v8, v9, P6, P7, P8, P9, blk_put (cs' := Nod.cells { x with works := v } v6 v7 v8 v9) hb 4 _ rfl, hg, hok, Kd.R_far h6 (fun k hk => (ho k (.inl hk)).2) _, Kd.R_far h7 (fun k hk => (ho k (.inr (.inl hk))).2) _, Kd.S_far h8 (fun k hk => (ho k (.inr (.inr (.inl hk)))).2) _, Kd.S_far h9 (fun k hk => (ho k (.inr (.inr (.inr hk)))).2) _, ho, a6, a7, a8⟩
theorem Nd.set_log {w : World} {base g : Nat} {ok Q : Nat → Prop} {x : Nod} {v : Value} {r : List ByteArray} (h : Nd w base g ok x) (hv : Kd.R Kd.string 9 w base Q v r) (hd : ∀ k, Q k → ¬ ok k) : Nd (w.setCell ⟨g, 6, none⟩ v) base g (fun k => ok k ∨ Q k) { x with log := r } := by
  obtain ⟨v6, v7, v8, v9, P6, P7, P8, P9, hb, hg, hok, h6, h7, h8, h9, ho, a6, a7, a8⟩ := h
  refine ⟨v, v7, v8, v9, Q, P7, P8, P9, blk_put (cs' := Nod.cells { x with log := r } v v7 v8 v9) hb 6 _ rfl, hg, .inl hok, Kd.R_far hv (fun k hk e => hd k hk (by rw [show k = g from e]; exact hok)) _, Kd.R_far h7 (fun k hk => (ho k (.inr (.inl hk))).2) _, Kd.S_far h8 (fun k hk => (ho k (.inr (.inr (.inl hk)))).2) _, Kd.S_far h9 (fun k hk => (ho k (.inr (.inr (.inr hk)))).2) _, ?_, ?_, a7, a8⟩
  · rintro k (hk | hk)
    · exact ⟨.inr hk, fun e => hd k hk (by rw [e]; exact hok)⟩
    · exact ⟨.inl (ho k (.inr hk)).1, (ho k (.inr hk)).2⟩
  · exact fun k hk => ⟨fun h => hd k hk (ho k (.inr (.inl h))).1, fun h => hd k hk (ho k (.inr (.inr (.inl h)))).1, fun h => hd k hk (ho k (.inr (.inr (.inr h)))).1⟩
theorem Nd.set_votes {w : World} {base g : Nat} {ok Q : Nat → Prop} {x : Nod} {v : Value} {r : List S66} (h : Nd w base g ok x) (hv : Kd.S k66 66 w base Q v r) (hd : ∀ k, Q k → ¬ ok k) : Nd (w.setCell ⟨g, 8, none⟩ v) base g (fun k => ok k ∨ Q k) { x with votes := r } := by
  obtain ⟨v6, v7, v8, v9, P6, P7, P8, P9, hb, hg, hok, h6, h7, h8, h9, ho, a6, a7, a8⟩ := h
  refine ⟨v6, v7, v, v9, P6, P7, Q, P9, blk_put (cs' := Nod.cells { x with votes := r } v6 v7 v v9) hb 8 _ rfl, hg, .inl hok, Kd.R_far h6 (fun k hk => (ho k (.inl hk)).2) _, Kd.R_far h7 (fun k hk => (ho k (.inr (.inl hk))).2) _, Kd.S_far hv (fun k hk e => hd k hk (by rw [show k = g from e]; exact hok)) _, Kd.S_far h9 (fun k hk => (ho k (.inr (.inr (.inr hk)))).2) _, ?_, ?_, ?_, ?_⟩
  · rintro k (hk | hk | hk | hk)
    · exact ⟨.inl (ho k (.inl hk)).1, (ho k (.inl hk)).2⟩
    · exact ⟨.inl (ho k (.inr (.inl hk))).1, (ho k (.inr (.inl hk))).2⟩
    · exact ⟨.inr hk, fun e => hd k hk (by rw [e]; exact hok)⟩
    · exact ⟨.inl (ho k (.inr (.inr (.inr hk)))).1, (ho k (.inr (.inr (.inr hk)))).2⟩
  · exact fun k hk => ⟨(a6 k hk).1, fun h => hd k h (ho k (.inl hk)).1, (a6 k hk).2.2⟩
  · exact fun k hk => ⟨fun h => hd k h (ho k (.inr (.inl hk))).1, (a7 k hk).2⟩
  · exact fun k hk h => hd k hk (ho k (.inr (.inr (.inr h)))).1
end Go.Proofs.Ytfpfpckocemmdaa.P
end
section
namespace Go.Proofs.Ytfpfpckocemmdaa.P
open Go.RowKit Go.Proofs.YtfpfpckocemmdaaW.PrintWords Go.Proofs.YtfpfpckocemmdaaW.PrintLast Go.Proofs.YtfpfpckocemmdaaW.PrintMore
set_option linter.unusedVariables false
set_option linter.unusedSimpArgs false
theorem below_weak {b B : Nat} {w W : World} (h : Below B w W) (hb : b ≤ B) : Below b w W := ⟨h.os, h.tape, h.output, h.size, fun k hk => h.block k (by omega)⟩
def Did (w w' : World) (base g : Nat) (ok : Nat → Prop) (x : Nod) : Prop := Nd w' base g (fun k => ok k ∨ w.heap.size ≤ k) x ∧ Kept w w' ok ∧ Below base w w' ∧ base ≤ w.heap.size ∧ ok g
section
variable {w w1 w2 : World} {base g : Nat} {ok : Nat → Prop} {x y : Nod} {v : Value}
theorem Did.refl (h : Nd w base g ok x) : Did w w base g ok x := by
  have hlt := h.lt
  have hge := h.ge
  obtain ⟨v6, v7, v8, v9, P6, P7, P8, P9, hb, hg, hok, _⟩ := id h
  exact ⟨h.mono (fun k hk => .inl hk), Kept.refl _ _, Below.refl _ _, by omega, hok⟩
theorem Did.then_ (h : Did w w1 base g ok x) (k : Did w1 w2 base g (fun k => ok k ∨ w.heap.size ≤ k) y) : Did w w2 base g ok y :=
  ⟨k.1.mono (fun i hi => by
    have := h.2.1.1
    rcases hi with (hi | hi) | hi
    · exact .inl hi
    · exact .inr hi
    · exact .inr (by omega)), h.2.1.then_ k.2.1 (fun i hi => hi), h.2.2.1.trans k.2.2.1, h.2.2.2.1, h.2.2.2.2⟩
theorem Did.below (h : Did w w1 base g ok x) (hb : Below w1.heap.size w1 w2) : Did w w2 base g ok x :=
  ⟨h.1.below hb, h.2.1.below hb, h.2.2.1.trans (below_weak hb (by have := h.2.2.1.size; have := h.2.2.2.1; omega)), h.2.2.2⟩
theorem Did.blk (h : Did w w1 base g ok x) : ∃ A6 c6 A7 c7 A8 c8 A9 c9, w1.heap[g]? = some (.cells (x.cells (.slice A6 x.log.length c6) (.slice A7 x.acks.length c7) (.slice A8 x.votes.length c8) (.slice A9 x.told.length c9)) 57 (0, 0)) ∧
    x.log.length ≤ c6 ∧ Kd.C Kd.string w1 A6 x.log.length x.log ∧ x.acks.length ≤ c7 ∧ Kd.C (Kd.int .i64) w1 A7 x.acks.length x.acks ∧ x.votes.length ≤ c8 ∧ Kd.C k66 w1 A8 x.votes.length x.votes ∧ x.told.length ≤ c9 ∧ Kd.C k28 w1 A9 x.told.length x.told := h.1.blk
theorem Did.put (h : Did w w1 base g ok x) (j : Nat) (v : Value) (hn : Nd (w1.setCell ⟨g, j, none⟩ v) base g (fun k => ok k ∨ w.heap.size ≤ k) y) : Did w (w1.setCell ⟨g, j, none⟩ v) base g ok y :=
  ⟨hn, h.2.1.setCell (.inl h.2.2.2.2) _, below_at h.2.2.1 h.1.ge, h.2.2.2⟩
theorem Did.set_view (h : Did w w1 base g ok x) (v : Int) : Did w (w1.setCell ⟨g, 2, none⟩ (.int .i64 v)) base g ok { x with view := v } := h.put 2 _ (h.1.set_view v)
theorem Did.set_last (h : Did w w1 base g ok x) (v : Int) : Did w (w1.setCell ⟨g, 3, none⟩ (.int .i64 v)) base g ok { x with last := v } := h.put 3 _ (h.1.set_last v)
theorem Did.set_works (h : Did w w1 base g ok x) (v : Bool) : Did w (w1.setCell ⟨g, 4, none⟩ (.bool v)) base g ok { x with works := v } := h.put 4 _ (h.1.set_works v)
theorem Did.set_commit (h : Did w w1 base g ok x) (v : Int) : Did w (w1.setCell ⟨g, 5, none⟩ (.int .i64 v)) base g ok { x with commit := v } := h.put 5 _ (h.1.set_commit v)
theorem Did.set_log {r : List ByteArray} {W : World} (h : Did w w1 base g ok x) (hb : Below w1.heap.size w1 w2) (hle : w1.heap.size ≤ W.heap.size) (hv : Kd.R Kd.string 9 w2 W.heap.size (fun _ => True) v r) : Did w (w2.setCell ⟨g, 6, none⟩ v) base g ok { x with log := r } := by
  have h1 := h.2.2.1.size
  have h2 := h.2.2.2.1
  have hn := (h.1.old hb).set_log (Q := fun k => w1.heap.size ≤ k) (Kd.R_mono (Kd.R_lower (Kd.R_bound hv) (by omega : base ≤ W.heap.size)) (fun k hk => by have := hk.2.1; omega)) (fun k hk hk2 => by have := hk2.2.1; omega)
  refine (h.below hb).put 6 v (hn.mono (fun k hk => ?_))
  rcases hk with hk | hk
  · exact hk.1
  · exact .inr (by omega)
theorem Did.set_votes {r : List S66} {W : World} (h : Did w w1 base g ok x) (hb : Below w1.heap.size w1 w2) (hle : w1.heap.size ≤ W.heap.size) (hv : Kd.S k66 66 w2 W.heap.size (fun _ => True) v r) : Did w (w2.setCell ⟨g, 8, none⟩ v) base g ok { x with votes := r } := by
  have h1 := h.2.2.1.size
  have h2 := h.2.2.2.1
  have hn := (h.1.old hb).set_votes (Q := fun k => w1.heap.size ≤ k) (Kd.S_mono (Kd.S_lower (Kd.S_bound hv) (by omega : base ≤ W.heap.size)) (fun k hk => by have := hk.2.1; omega)) (fun k hk hk2 => by have := hk2.2.1; omega)
  refine (h.below hb).put 8 v (hn.mono (fun k hk => ?_))
  rcases hk with hk | hk
  · exact hk.1
  · exact .inr (by omega)
theorem Did.drewN (h : Did w w1 base g ok x) (n : Nat) : Did w (w1.drewN n) base g ok x := h.below (pw_below_drewN (Below.refl _ _) n)
theorem Did.drew (h : Did w w1 base g ok x) : Did w w1.drew base g ok x := h.below (below_drew (Below.refl _ _))
theorem Did.alloc (h : Did w w1 base g ok x) (o : Obj) : Did w (w1.alloc o) base g ok x := h.below (below_alloc (Below.refl _ _) o)
end
theorem clear_did (x : Nod) (w0 w : World) (base g : Nat) (ok : Nat → Prop) (hn0 : 0 ≤ x.n) (hn1 : x.n ≤ 1000) (h : Did w0 w base g ok x) :
    Calls Try.prog 39 #[.pointer (some ⟨g, 0, none⟩)] w fun e w' => e = .returned (.tuple #[]) ∧ Did w0 w' base g ok x.clear := by
  refine (clear_calls x w base g _ hn0 hn1 h.1).mono ?_
  rintro e w' ⟨rfl, a, b, c⟩
  exact ⟨rfl, h.then_ ⟨a, b, c, by have := h.2.2.1.size; have := h.2.2.2.1; omega, .inl h.2.2.2.2⟩⟩
theorem count_did (x : Nod) (w0 w : World) (base g : Nat) (ok : Nat → Prop) (c : Int) (hid : 0 ≤ x.id) (hid2 : x.id < (x.acks.length : Int)) (hv : 0 ≤ x.view) (hn : 1 ≤ x.n) (hc : quorum_Commit.f (x.acks.set x.id.toNat (x.log.length : Int)) = some c) (h : Did w0 w base g ok x) :
    Calls Try.prog 35 #[.pointer (some ⟨g, 0, none⟩)] w fun e w' => e = .returned (.tuple #[]) ∧ Did w0 w' base g ok (x.count c) := by
  have hbase : base ≤ w.heap.size := by have := h.2.2.1.size; have := h.2.2.2.1; omega
  refine (count_calls x w base g _ c hid hid2 hv hn hc hbase h.1).mono ?_
  rintro e w' ⟨rfl, a, b, c⟩
  exact ⟨rfl, h.then_ ⟨a, b, c, hbase, .inl h.2.2.2.2⟩⟩
def Nod.join (x : Nod) (view : Int) (r : List S66) : Nod := { ({ x with view := view, works := false } : Nod).clear with votes := r }
set_option maxHeartbeats 8000000 in
set_option maxRecDepth 100000 in
theorem join_did (k : Nat) (x : Nod) (view : Int) (r : List S66) (w0 w : World) (base g : Nat) (ok : Nat → Prop) (hn0 : 0 ≤ x.n) (hn1 : x.n ≤ 1000) (hr : quorum_Add.f k [] x.id x.last x.commit x.log = some r) (h : Did w0 w base g ok x) :
    Calls Try.prog 29 #[.pointer (some ⟨g, 0, none⟩), .int .i64 view] w fun e w' => e = .returned (.tuple #[]) ∧ Did w0 w' base g ok (x.join view r) := by
  have hu57 := Try.underlying57
  have hu26 := Try.underlying26
  have HN := Aside0.mk h
  have hN0 := Aside0.mk hn0
  have hN1 := Aside0.mk hn1
  have HR := Aside0.mk (show quorum_Add.f k [] (Nod.clear { x with view := view, works := false }).id (Nod.clear { x with view := view, works := false }).last (Nod.clear { x with view := view, works := false }).commit (Nod.clear { x with view := view, works := false }).log = some r from hr)
  obtain ⟨A6, c6, A7, c7, A8, c8, A9, c9, hb, -⟩ := h.blk
  have hc2 : w.cell? ⟨g, 2, none⟩ = some (.int .i64 x.view) := blk_cell hb 2
  have hf2 : w.frozen? ⟨g, 2, none⟩ = false := blk_frozen hb 2
  have hput : ∀ u, (w.setCell ⟨g, 2, none⟩ (.int .i64 u)).heap[g]? = some (.cells (Nod.cells { x with view := u } (.slice A6 x.log.length c6) (.slice A7 x.acks.length c7) (.slice A8 x.votes.length c8) (.slice A9 x.told.length c9)) 57 (0, 0)) := fun u => blk_put hb 2 _ rfl
  have hc4 : ∀ u, (w.setCell ⟨g, 2, none⟩ (.int .i64 u)).cell? ⟨g, 4, none⟩ = some (.bool x.works) := fun u => blk_cell (hput u) 4
  have hf4 : ∀ u, (w.setCell ⟨g, 2, none⟩ (.int .i64 u)).frozen? ⟨g, 4, none⟩ = false := fun u => blk_frozen (hput u) 4
  clear hb hput h hn0 hn1 hr
  go_enter Try.func29, Try.ntmps29
  go_wp2_with (first | (go_at_call 39; refine (clear_did { x with view := view, works := false } w0 _ base g ok hN0.out hN1.out ((HN.out.set_view view).set_works false)).mono ?_; rintro e w3 ⟨rfl, h3⟩; have HN3 := Aside0.mk h3; clear h3) | (go_at_call 33; refine (own_calls _ w3 base g _ HN3.out.1).mono ?_; rintro e w4 ⟨B6, b6, rfl, hc6, hC, hb4⟩; have HC6 := Aside0.mk hc6; have HC := Aside0.mk hC; have HB4 := Aside0.mk hb4; clear hc6 hC hb4) | (go_at_call 40; refine (quorum_Add.calls k none 0 [] _ _ _ B6 b6 _ r w4 (Kd.C_nil _ _) (Nat.le_refl 0) (Kd.C_below HC.out HB4.out) HC6.out HR.out).mono ?_; rintro e w5 ⟨v0, rfl, hS, hb5⟩; obtain ⟨S8, s8, rfl⟩ := Kd.S_slice hS; have HS := Aside0.mk hS; have HB5 := Aside0.mk hb5; obtain ⟨D6, d6, D7, d7, D8, d8, D9, d9, hb, -⟩ := ((HN3.out.below HB4.out).below HB5.out).blk; have hs8 : w5.cell? ⟨g, 8, none⟩ = some _ := blk_cell hb 8; have ht8 : w5.frozen? ⟨g, 8, none⟩ = false := blk_frozen hb 8; clear hS hb5 hb))
  all_goals
    go_end0
    exact ⟨rfl, (HN3.out.below HB4.out).set_votes HB5.out (Nat.le_refl _) HS.out⟩
end Go.Proofs.Ytfpfpckocemmdaa.P
end
section
namespace Go.Proofs.Ytfpfpckocemmdaa.P
open Go.RowKit Go.Proofs.YtfpfpckocemmdaaW.PrintWords Go.Proofs.YtfpfpckocemmdaaW.PrintLast Go.Proofs.YtfpfpckocemmdaaW.PrintMore
set_option linter.unusedVariables false
set_option linter.unusedSimpArgs false
theorem info28 : (Try.prog.info? 28).map (fun i => (i.zero, i.size, i.bytes)) = some (some (.agg #[.int .i64 0, .int .i64 0, .int .i64 0, .int .i64 0, .int .i64 0, .int .i64 0, .int .i64 0, .slice none 0 0]), 8, 80) := by kernel_rfl
def Nod.say (x : Nod) (m : S28) : Nod := { x with told := x.told ++ [m] }
theorem Did.say_core {w0 w W : World} {base g : Nat} {ok : Nat → Prop} {x : Nod} {v0 : Value} (h : Did w0 w base g ok x) (hb : Below w.heap.size w W) (hc : w.cell? ⟨g, 9, none⟩ = some v0) :
    ∃ P : Nat → Prop, Kd.S k28 28 W base (fun k => P k ∧ ¬ w.heap.size ≤ k) v0 x.told ∧ (∀ k, w.heap.size ≤ k → P k ∧ some k ≠ v0.ownBlock) ∧ base ≤ w.heap.size ∧
      ∀ m v1 w1, Kd.S k28 28 w1 base P v1 (x.told ++ [m]) → W.grownBy w1 v0.ownBlock → Did w0 (w1.setCell ⟨g, 9, none⟩ v1) base g ok (x.say m) ∧ w1.heap[g]? = w.heap[g]? := by
  have hlt := h.1.lt
  have hge := h.1.ge
  have hbase : base ≤ w.heap.size := by have := h.2.2.1.size; have := h.2.2.2.1; omega
  have hN := h.1
  obtain ⟨v6, v7, v8, v9, P6, P7, P8, P9, hb9, hg, ⟨hok, hok2⟩, h6, h7, h8, h9, ho, a6, a7, a8⟩ := h.1.bound
  have e9 : v9 = v0 := by
    have h1 : w.cell? ⟨g, 9, none⟩ = some v9 := blk_cell hb9 9
    rw [h1] at hc
    exact Option.some.inj hc
  subst e9
  have hown : ∀ k, v9.ownBlock = some k → P9 k := fun k hk => (Kd.S_R h9).1 k hk
  have hP9 : ∀ k, P9 k → k < w.heap.size ∧ k ≠ g := fun k hk => ⟨(ho k (.inr (.inr (.inr hk)))).1.2.1, (ho k (.inr (.inr (.inr hk)))).2⟩
  refine ⟨fun k => P9 k ∨ w.heap.size ≤ k, Kd.S_mono (Kd.S_below h9 hb) (fun k hk => ⟨.inl hk, by have := (hP9 k hk).1; omega⟩), fun k hk => ⟨.inr hk, fun e => by have := (hP9 k (hown k e.symm)).1; omega⟩, hbase, ?_⟩
  intro m v1 w1 hs hgr
  have hstay : ∀ k, k < w.heap.size → ¬ P9 k → w1.heap[k]? = w.heap[k]? := fun k hk hn => (hgr.block k (by have := hb.size; omega) (fun e => hn (hown k e.symm))).trans (hb.block k hk)
  have hg1 : w1.heap[g]? = w.heap[g]? := hstay g hlt (fun hp => (hP9 g hp).2 rfl)
  have hsz : w.heap.size ≤ w1.heap.size := by have := hb.size; have := hgr.size; omega
  have hb1 : w1.heap[g]? = some (.cells (x.cells v6 v7 v8 v9) 57 (0, 0)) := hg1.trans hb9
  have hko : ∀ k, k < w.heap.size → (ok k ∨ w0.heap.size ≤ k) ∨ w.heap.size ≤ k → ok k ∨ w0.heap.size ≤ k := fun k hk h => h.elim id (fun h => by omega)
  have hnd : Nd (w1.setCell ⟨g, 9, none⟩ v1) base g (fun k => ok k ∨ w0.heap.size ≤ k) (x.say m) := by
    have hs0 : w0.heap.size ≤ w.heap.size := h.2.2.1.size
    refine ⟨v6, v7, v8, v1, P6, P7, P8, fun k => P9 k ∨ w.heap.size ≤ k, blk_put (cs' := (x.say m).cells v6 v7 v8 v1) hb1 9 _ rfl, hg, hok, ?_, ?_, ?_, ?_, ?_, ?_, ?_, ?_⟩
    · exact Kd.R_far (Kd.R_step h6 (fun k hp hl => hstay k hl (a6 k hp).2.2)) (fun k hp => (ho k (.inl hp)).2) _
    · exact Kd.R_far (Kd.R_step h7 (fun k hp hl => hstay k hl (a7 k hp).2)) (fun k hp => (ho k (.inr (.inl hp))).2) _
    · exact Kd.S_far (Kd.S_step h8 (fun k hp hl => hstay k hl (a8 k hp))) (fun k hp => (ho k (.inr (.inr (.inl hp)))).2) _
    · exact Kd.S_far hs (fun k hp e => by rcases hp with hp | hp; exact (hP9 k hp).2 e; have : k = g := e; omega) _
    · rintro k (hk | hk | hk | hk | hk)
      · exact ⟨(ho k (.inl hk)).1.1, (ho k (.inl hk)).2⟩
      · exact ⟨(ho k (.inr (.inl hk))).1.1, (ho k (.inr (.inl hk))).2⟩
      · exact ⟨(ho k (.inr (.inr (.inl hk)))).1.1, (ho k (.inr (.inr (.inl hk)))).2⟩
      · exact ⟨(ho k (.inr (.inr (.inr hk)))).1.1, (hP9 k hk).2⟩
      · exact ⟨.inr (by omega), by omega⟩
    · exact fun k hk => ⟨(a6 k hk).1, (a6 k hk).2.1, fun h => h.elim (a6 k hk).2.2 (fun h => by have := (ho k (.inl hk)).1.2.1; omega)⟩
    · exact fun k hk => ⟨(a7 k hk).1, fun h => h.elim (a7 k hk).2 (fun h => by have := (ho k (.inr (.inl hk))).1.2.1; omega)⟩
    · exact fun k hk h => h.elim (a8 k hk) (fun h => by have := (ho k (.inr (.inr (.inl hk)))).1.2.1; omega)
  have hown9 : ∀ k, P9 k → (ok k ∨ w0.heap.size ≤ k) ∧ base ≤ k := fun k hk => ⟨(ho k (.inr (.inr (.inr hk)))).1.1, (ho k (.inr (.inr (.inr hk)))).1.2.2⟩
  have hkept : Kept w0 w1 ok := h.2.1.then_ (S2 := fun k => P9 k) ⟨hsz, fun k hk hn => hstay k hk hn⟩ (fun k hk => (hown9 k hk).1)
  have hbel : Below base w0 w1 := h.2.2.1.trans ⟨by rw [hgr.os, hb.os], by rw [hgr.tape, hb.tape], by rw [hgr.output, hb.output], hsz, fun k hk => hstay k (by omega) (fun hp => by have := (hown9 k hp).2; omega)⟩
  exact ⟨⟨hnd, hkept.setCell (.inl h.2.2.2.2) _, below_at hbel hge, h.2.2.2⟩, hg1⟩
theorem say_M {w W : World} {base : Nat} {m : S28} {A : Option Addr} {c : Nat} (hbase : base ≤ w.heap.size) (hR : Kd.R Kd.string 9 W w.heap.size (fun _ => True) (.slice A m.f7.length c) m.f7) :
    k28.M W base (fun k => w.heap.size ≤ k) m [.int .i64 m.f0, .int .i64 m.f1, .int .i64 m.f2, .int .i64 m.f3, .int .i64 m.f4, .int .i64 m.f5, .int .i64 m.f6, .slice A m.f7.length c] :=
  k28_mkM W base _ m (Kd.R_mono (Kd.R_lower (Kd.R_bound hR) hbase) (fun k hk => hk.2.1))
theorem say_step {w0 w W : World} {base g : Nat} {ok : Nat → Prop} {x : Nod} {ops : Array Oper} {o : Oper} {a : Act} {Kc : Act → World → Prop} {Q : Exit → Act → World → Prop} (m : S28) (A9 : Option Addr) (c9 : Nat) (A : Option Addr) (c : Nat) (h : Did w0 w base g ok x) (hb : Below w.heap.size w W) (hc : w.cell? ⟨g, 9, none⟩ = some (.slice A9 x.told.length c9)) (hR : Kd.R Kd.string 9 W w.heap.size (fun _ => True) (.slice A m.f7.length c) m.f7) (hl : x.told.length ≤ 100000)
    (hg : o.guard = none) (s y : Operand) (ho : o.op = .call { callee := .builtin .append, args := #[s, y], argTypes := #[30, 30] }) (hs : a.eval s = .slice A9 x.told.length c9) (hy : a.eval y = .slice (some ⟨W.heap.size, 0, none⟩) 1 1)
    (hk : ∀ v1 w1, Did w0 (w1.setCell ⟨g, 9, none⟩ v1) base g ok (x.say m) → w1.heap[g]? = w.heap[g]? → (∃ A1 c1, v1 = .slice A1 (x.say m).told.length c1) → Kc (a.put o.dst v1) w1) :
    if Region.wanted o (yielded ops a.tmps) = true then Oper.wp Try.prog o a (W.alloc (.cells #[.int .i64 m.f0, .int .i64 m.f1, .int .i64 m.f2, .int .i64 m.f3, .int .i64 m.f4, .int .i64 m.f5, .int .i64 m.f6, .slice A m.f7.length c] 28)) Kc Q else Kc (a.put o.dst undef) (W.alloc (.cells #[.int .i64 m.f0, .int .i64 m.f1, .int .i64 m.f2, .int .i64 m.f3, .int .i64 m.f4, .int .i64 m.f5, .int .i64 m.f6, .slice A m.f7.length c] 28)) := by
  obtain ⟨P, hS, hP, hbase, hend⟩ := h.say_core hb hc
  refine Kd.S_append_step k28 (w0 := W) base (by simp [Region.wanted, hg]) s y 30 28 (.agg #[.int .i64 0, .int .i64 0, .int .i64 0, .int .i64 0, .int .i64 0, .int .i64 0, .int .i64 0, .slice none 0 0]) 80 ho Try.underlying30 info28 rfl (by decide) (by omega) _ x.told m [.int .i64 m.f0, .int .i64 m.f1, .int .i64 m.f2, .int .i64 m.f3, .int .i64 m.f4, .int .i64 m.f5, .int .i64 m.f6, .slice A m.f7.length c] P (fun k => w.heap.size ≤ k) hs hy (say_M hbase hR) hP (fun k hk => (hP k (by have := hb.size; omega)).1) hS (Below.refl _ _) (by have := hb.size; omega) (by have := hl; omega) ?_
  intro v1 w1 hs1 hb1 hg1 _
  obtain ⟨hd, he⟩ := hend m v1 w1 hs1 hg1
  obtain ⟨A1, c1, rfl⟩ := Kd.S_slice hs1
  exact hk _ w1 hd he ⟨A1, c1, rfl⟩
end Go.Proofs.Ytfpfpckocemmdaa.P
end
section
namespace Go.Proofs.Ytfpfpckocemmdaa.P
open Go.RowKit Go.Proofs.YtfpfpckocemmdaaW.PrintWords Go.Proofs.YtfpfpckocemmdaaW.PrintLast Go.Proofs.YtfpfpckocemmdaaW.PrintMore
set_option linter.unusedVariables false
set_option linter.unusedSimpArgs false
@[reducible] def ldTold (n : Nat) : Op := Op.load 30 (Operand.tmp n)
theorem ldTold_eq (n : Nat) : Op.load 30 (Operand.tmp n) = ldTold n := rfl
def Nod.prep (x : Nod) (j : Int) : S28 := ⟨1, x.id, j, x.view, 0, x.commit, 0, x.log⟩
def Nod.upto (x : Nod) (i : Nat) : List S28 := ((List.range i).filter (fun j : Nat => (j : Int) ≠ x.id)).map (fun j : Nat => x.prep (j : Int))
def Nod.tells (x : Nod) (i : Nat) : Nod := { x with told := x.told ++ x.upto i }
def Nod.tell (x : Nod) : Nod := x.tells x.n.toNat
theorem Nod.upto_le (x : Nod) (i : Nat) : (x.upto i).length ≤ i := by
  unfold Nod.upto
  rw [List.length_map]
  exact Nat.le_trans (List.length_filter_le _ _) (by simp)
theorem Nod.tells_self (x : Nod) (i : Nat) (h : (i : Int) = x.id) : x.tells (i + 1) = x.tells i := by
  unfold Nod.tells Nod.upto
  rw [List.range_succ, List.filter_append]
  simp [h]
theorem Nod.tells_other (x : Nod) (i : Nat) (h : (i : Int) ≠ x.id) : x.tells (i + 1) = (x.tells i).say (x.prep (i : Int)) := by
  unfold Nod.tells Nod.upto Nod.say
  rw [List.range_succ, List.filter_append]
  simp [h]
theorem prepare_of (a b c d : Int) (l : List ByteArray) (hl : l.length < 4398046511104) : msg_Prepare.f a b c d l = some (1, a, b, c, 0, d, 0, l) := by
  unfold msg_Prepare.f slices_Clone_string_string.f
  rw [if_pos hl]; rfl
set_option maxHeartbeats 8000000 in
set_option maxRecDepth 100000 in
theorem tell_did (x : Nod) (w0 w : World) (base g : Nat) (ok : Nat → Prop) (hn0 : 0 ≤ x.n) (hn1 : x.n ≤ 1000) (ht : x.told.length ≤ 1000) (hlog : x.log.length < 4398046511104) (h : Did w0 w base g ok x) :
    Calls Try.prog 36 #[.pointer (some ⟨g, 0, none⟩)] w fun e w' => e = .returned (.tuple #[]) ∧ Did w0 w' base g ok x.tell := by
  have hu57 := Try.underlying57
  have hu26 := Try.underlying26
  have hu28 := Try.underlying28
  have HN := Aside0.mk h
  have HT := Aside0.mk ht
  have HLOG := Aside0.mk hlog
  obtain ⟨n, hn⟩ := Int.eq_ofNat_of_zero_le hn0
  have HN1 := Aside0.mk (show n ≤ 1000 by omega)
  have HE := Aside0.mk (show x.tell = x.tells n by unfold Nod.tell; rw [hn]; rfl)
  obtain ⟨A6, c6, A7, c7, A8, c8, A9, c9, hb, -⟩ := h.blk
  have hc1 : w.cell? ⟨g, 1, none⟩ = some (.int .i64 x.n) := blk_cell hb 1
  rw [hn] at hc1
  clear hb h ht hlog hn0 hn1
  have HNE := Aside0.mk hn
  clear hn
  go_enter Try.func36, Try.ntmps36
  go_wp2
  go_loopg [2, 8] n (fun kq v2 v8 w' => ∃ (i : Nat), v8 = .int .i64 (i : Int) ∧ Aside0 (kq = n - i ∧ i ≤ n) ∧ Aside0 (Did w0 w' base g ok (x.tells i)))
  case atStart =>
    refine ⟨0, rfl, ⟨by simp⟩, ⟨?_⟩⟩
    have h0 : x.tells 0 = x := by simp [Nod.tells, Nod.upto]
    rw [h0]; exact HN.out
  case round =>
    obtain ⟨i, rfl, hi, HD⟩ := hrel
    have hwr : wrap64 ((i : Int) + 1) = ((i + 1 : Nat) : Int) := by have := HN1.out; have := hi.out; unfold wrap64; omega
    have HW := Aside0.mk hwr
    clear hwr
    by_cases hlt : i < n
    · have hb1 : decide ((i : Int) < (n : Int)) = true := decide_eq_true (by omega)
      obtain ⟨A6, c6, A7, c7, A8, c8, A9, c9, hb, hc6, hC, -⟩ := HD.out.blk
      have HBK := Aside0.mk hb
      have HC6 := Aside0.mk hc6
      have HC := Aside0.mk hC
      have hx0 : wr.cell? ⟨g, 0, none⟩ = some (.int .i64 x.id) := blk_cell hb 0
      have hx2 : wr.cell? ⟨g, 2, none⟩ = some (.int .i64 x.view) := blk_cell hb 2
      have hx5 : wr.cell? ⟨g, 5, none⟩ = some (.int .i64 x.commit) := blk_cell hb 5
      have hx6 : wr.cell? ⟨g, 6, none⟩ = some (.slice A6 x.log.length c6) := blk_cell hb 6
      have hx9 : wr.cell? ⟨g, 9, none⟩ = some (.slice A9 (x.tells i).told.length c9) := blk_cell hb 9
      clear hb hc6 hC
      by_cases he : (i : Int) = x.id
      · have e1 : ((i : Int) == x.id) = true := beq_iff_eq.mpr he
        have e2 : ((i : Int) != x.id) = false := bne_eq_false_iff_eq.mpr he
        have HE1 := Aside0.mk he
        clear he
        go_wp2
        go_roundg (n - (i + 1))
        case measure => have := hi.out.1; omega
        case rel =>
          refine ⟨i + 1, by rw [HW.out], ⟨by have := hi.out; omega, by omega⟩, ⟨?_⟩⟩
          rw [x.tells_self i HE1.out]; exact HD.out
      · have e1 : ((i : Int) == x.id) = false := beq_eq_false_iff_ne.mpr he
        have e2 : ((i : Int) != x.id) = true := bne_iff_ne.mpr he
        have HE1 := Aside0.mk he
        have HP := Aside0.mk (prepare_of x.id (i : Int) x.view x.commit x.log HLOG.out)
        have HBKD := Aside0.mk (show wr.drew.heap[g]? = some _ from HBK.out)
        have HC9 := Aside0.mk (show wr.drew.cell? ⟨g, 9, none⟩ = _ from hx9)
        have HTI := Aside0.mk (show (x.tells i).told.length ≤ 100000 by unfold Nod.tells; rw [List.length_append]; have := x.upto_le i; have := HT.out; have := HN1.out; omega)
        clear he
        go_wp2
        rw [ldTold_eq 21]
        go_region_held3 (fun W => W.cell? ⟨g, 0, none⟩ = some (.int .i64 x.id) ∧ W.cell? ⟨g, 2, none⟩ = some (.int .i64 x.view) ∧ W.cell? ⟨g, 5, none⟩ = some (.int .i64 x.commit) ∧ W.cell? ⟨g, 6, none⟩ = some (.slice A6 x.log.length c6))
          (first
            | exact ⟨hx0, hx2, hx5, hx6⟩
            | exact ⟨blk_cell HBK3.out 0, blk_cell HBK3.out 2, blk_cell HBK3.out 5, blk_cell HBK3.out 6⟩
            | exact ⟨blk_cell (blk_alloc HBK3.out _) 0, blk_cell (blk_alloc HBK3.out _) 2, blk_cell (blk_alloc HBK3.out _) 5, blk_cell (blk_alloc HBK3.out _) 6⟩
            | exact ⟨blk_cell HBK4.out 0, blk_cell HBK4.out 2, blk_cell HBK4.out 5, blk_cell HBK4.out 6⟩
            | exact ⟨blk_cell HBK5.out 0, blk_cell HBK5.out 2, blk_cell HBK5.out 5, blk_cell HBK5.out 6⟩
            | go_keep)
          (first
            | (refine x_step_call rfl Try.func48 (by kernel_rfl) rfl #[.int .i64 x.id, .int .i64 (i : Int), .int .i64 x.view, .int .i64 x.commit, .slice A6 x.log.length c6] rfl (by simp [Act.eval, Act.put]) ?_; refine (msg_Prepare.calls x.id (i : Int) x.view x.commit A6 c6 x.log 1 x.id (i : Int) x.view 0 x.commit 0 x.log wr.drew (Kd.C_drew HC.out) HC6.out HP.out).mono ?_; rintro e w3 ⟨v7, rfl, hR, hb3⟩; have HB3 := Aside0.mk hb3; obtain ⟨AR, cR, eR⟩ := Kd.R_slice hR; subst eR; have HR := Aside0.mk hR; have HBK3 := Aside0.mk ((hb3.block g (show g < wr.drew.heap.size from blk_lt HBK.out)).trans HBK.out); have hs9 : ∀ o, (w3.alloc o).cell? ⟨g, 9, none⟩ = some (.slice A9 (x.tells i).told.length c9) := fun o => blk_cell (blk_alloc HBK3.out o) 9; have hs9' : w3.cell? ⟨g, 9, none⟩ = some (.slice A9 (x.tells i).told.length c9) := blk_cell HBK3.out 9; clear hb3 hR; refine ⟨_, rfl, ?_⟩)
            | (refine say_step (x.prep (i : Int)) A9 c9 AR cR (HD.out.drew) HB3.out (HC9.out) HR.out HTI.out rfl (.tmp 22) (.tmp 45) rfl rfl rfl ?_; intro v1 w4 hd4 hg4 hv4; obtain ⟨A1, c1, rfl⟩ := hv4; have HD4 := Aside0.mk hd4; have HBK4 := Aside0.mk (hg4.trans HBKD.out); have HBK5 := Aside0.mk (blk_put (cs' := (x.tells i).cells (.slice A6 (x.tells i).log.length c6) (.slice A7 (x.tells i).acks.length c7) (.slice A8 (x.tells i).votes.length c8) (.slice A1 ((x.tells i).say (x.prep (i : Int))).told.length c1)) HBK4.out 9 (.slice A1 ((x.tells i).say (x.prep (i : Int))).told.length c1) rfl); have hr9 : w4.cell? ⟨g, 9, none⟩ = some (.slice A9 (x.tells i).told.length c9) := blk_cell HBK4.out 9; have hf9 : w4.frozen? ⟨g, 9, none⟩ = false := blk_frozen HBK4.out 9; clear hd4 hg4))
        all_goals
          go_wp2
          go_roundg (n - (i + 1))
          case measure => have := hi.out.1; omega
          case rel =>
            refine ⟨i + 1, by rw [HW.out], ⟨by have := hi.out; omega, by omega⟩, ⟨?_⟩⟩
            rw [x.tells_other i HE1.out]; exact HD4.out
    · have hb1 : decide ((i : Int) < (n : Int)) = false := decide_eq_false (by omega)
      have hie : i = n := by have := hi.out; omega
      subst hie
      go_wp2
      go_end0
      exact ⟨rfl, by rw [HE.out]; exact HD.out⟩
end Go.Proofs.Ytfpfpckocemmdaa.P
end
section
namespace Go.Proofs.Ytfpfpckocemmdaa.P
open Go.RowKit Go.Proofs.YtfpfpckocemmdaaW.PrintWords Go.Proofs.YtfpfpckocemmdaaW.PrintLast Go.Proofs.YtfpfpckocemmdaaW.PrintMore
set_option linter.unusedVariables false
set_option linter.unusedSimpArgs false
set_option maxHeartbeats 8000000 in
set_option maxRecDepth 100000 in
theorem ack_calls (a b c n : Int) (w : World) :
    Calls Try.prog 46 #[.int .i64 a, .int .i64 b, .int .i64 c, .int .i64 n] w fun e w' => e = .returned (.agg #[.int .i64 2, .int .i64 a, .int .i64 b, .int .i64 c, .int .i64 0, .int .i64 0, .int .i64 n, .slice none 0 0]) ∧ Below w.heap.size w w' := by
  have hu28 := Try.underlying28
  go_enter Try.func46, Try.ntmps46
  go_wp2
  refine bodyPost_ret (results_cell_row rfl _ _ w.heap.size 28 #[.int .i64 2, .int .i64 a, .int .i64 b, .int .i64 c, .int .i64 0, .int .i64 0, .int .i64 n, .slice none 0 0] (0, 0) _ rfl ?_ Try.underlying28 rfl (by kernel_rfl)) rfl ?_
  · exact x_alloc_new _ _
  · exact ⟨rfl, below_alloc (Below.refl _ _) _⟩
theorem alloc2_new (w : World) (a b : Obj) : ((w.alloc a).alloc b).heap[w.heap.size + 1]? = some b := by
  have h := x_alloc_new (w.alloc a) b
  simpa using h
theorem alloc2_size (w : World) (a b : Obj) : ((w.alloc a).alloc b).drew.heap.size = w.heap.size + 2 := by show ((w.alloc a).alloc b).heap.size = _; simp
set_option maxHeartbeats 8000000 in
set_option maxRecDepth 100000 in
theorem vote_calls (m : S28) (A : Option Addr) (c : Nat) (w : World) (hk : m.f0 = 3) (hc : m.f7.length ≤ c) (hC : Kd.C Kd.string w A m.f7.length m.f7) (hl : m.f7.length < 4398046511104) :
    Calls Try.prog 49 #[.agg #[.int .i64 m.f0, .int .i64 m.f1, .int .i64 m.f2, .int .i64 m.f3, .int .i64 m.f4, .int .i64 m.f5, .int .i64 m.f6, .slice A m.f7.length c]] w fun e w' => ∃ v, e = .returned (.tuple #[.agg #[.int .i64 m.f1, .int .i64 m.f4, .int .i64 m.f5, v], .bool true]) ∧ Kd.R Kd.string 9 w' w.heap.size (fun _ => True) v m.f7 ∧ Below w.heap.size w w' := by
  have hu28 := Try.underlying28
  have hu66 := Try.underlying66
  have HC := Aside0.mk hC
  have HCC := Aside0.mk hc
  have HL := Aside0.mk (show slices_Clone_string_string.f m.f7 = some m.f7 from if_pos hl)
  have e1 : (m.f0 == (3 : Int)) = true := beq_iff_eq.mpr hk
  have e2 : (m.f0 != (3 : Int)) = false := bne_eq_false_iff_eq.mpr hk
  clear hC hc hl
  have HK := Aside0.mk hk
  clear hk
  go_enter Try.func49, Try.ntmps49
  go_wp2
  have HBM := Aside0.mk (show ((w.alloc (.cells #[.int .i64 m.f0, .int .i64 m.f1, .int .i64 m.f2, .int .i64 m.f3, .int .i64 m.f4, .int .i64 m.f5, .int .i64 m.f6, .slice A m.f7.length c] 28)).alloc (.cells #[.int .i64 0, .int .i64 0, .int .i64 0, .slice none 0 0] 66)).drew.heap[w.heap.size]? = some (.cells #[.int .i64 m.f0, .int .i64 m.f1, .int .i64 m.f2, .int .i64 m.f3, .int .i64 m.f4, .int .i64 m.f5, .int .i64 m.f6, .slice A m.f7.length c] 28 (0, 0)) from blk_alloc (x_alloc_new _ _) _)
  have HBZ := Aside0.mk (show ((w.alloc (.cells #[.int .i64 m.f0, .int .i64 m.f1, .int .i64 m.f2, .int .i64 m.f3, .int .i64 m.f4, .int .i64 m.f5, .int .i64 m.f6, .slice A m.f7.length c] 28)).alloc (.cells #[.int .i64 0, .int .i64 0, .int .i64 0, .slice none 0 0] 66)).drew.heap[w.heap.size + 1]? = some (.cells #[.int .i64 0, .int .i64 0, .int .i64 0, .slice none 0 0] 66 (0, 0)) from alloc2_new w _ _)
  go_region_held3 (fun W => W.cell? ⟨w.heap.size, 1, none⟩ = some (.int .i64 m.f1) ∧ W.cell? ⟨w.heap.size, 4, none⟩ = some (.int .i64 m.f4) ∧ W.cell? ⟨w.heap.size, 5, none⟩ = some (.int .i64 m.f5) ∧ W.cell? ⟨w.heap.size, 7, none⟩ = some (.slice A m.f7.length c))
    (first
      | exact ⟨blk_cell HBM.out 1, blk_cell HBM.out 4, blk_cell HBM.out 5, blk_cell HBM.out 7⟩
      | exact ⟨blk_cell HBM3.out 1, blk_cell HBM3.out 4, blk_cell HBM3.out 5, blk_cell HBM3.out 7⟩
      | exact ⟨blk_cell (HF.out _ _ _ _) 1, blk_cell (HF.out _ _ _ _) 4, blk_cell (HF.out _ _ _ _) 5, blk_cell (HF.out _ _ _ _) 7⟩
      | go_keep)
    (first
      | (refine x_step_call rfl Try.func42 (by kernel_rfl) rfl #[.slice A m.f7.length c] rfl (by simp [Act.eval, Act.put]) ?_; refine (slices_Clone_string_string.calls A c m.f7 m.f7 ((w.alloc (.cells #[.int .i64 m.f0, .int .i64 m.f1, .int .i64 m.f2, .int .i64 m.f3, .int .i64 m.f4, .int .i64 m.f5, .int .i64 m.f6, .slice A m.f7.length c] 28)).alloc (.cells #[.int .i64 0, .int .i64 0, .int .i64 0, .slice none 0 0] 66)).drew (Kd.C_drew (Kd.C_alloc (Kd.C_alloc HC.out _) _)) HCC.out HL.out).mono ?_; rintro e w3 ⟨v7, rfl, hR, hb3⟩; obtain ⟨AR, cR, eR⟩ := Kd.R_slice hR; subst eR; have HB3 := Aside0.mk hb3; have HR := Aside0.mk hR; have HBM3 := Aside0.mk ((hb3.block w.heap.size (by rw [alloc2_size]; omega)).trans HBM.out); have HBZ3 := Aside0.mk ((hb3.block (w.heap.size + 1) (by rw [alloc2_size]; omega)).trans HBZ.out); have HF := Aside0.mk (fun u0 u1 u2 u3 : Value => blk_far (p := ⟨w.heap.size + 1, 3, none⟩) (blk_far (p := ⟨w.heap.size + 1, 2, none⟩) (blk_far (p := ⟨w.heap.size + 1, 1, none⟩) (blk_far (p := ⟨w.heap.size + 1, 0, none⟩) HBM3.out (by simp) u0) (by simp) u1) (by simp) u2) (by simp) u3); have hz0 : w3.cell? ⟨w.heap.size + 1, 0, none⟩ = some (.int .i64 0) := blk_cell HBZ3.out 0; have hz1 : w3.cell? ⟨w.heap.size + 1, 1, none⟩ = some (.int .i64 0) := blk_cell HBZ3.out 1; have hz2 : w3.cell? ⟨w.heap.size + 1, 2, none⟩ = some (.int .i64 0) := blk_cell HBZ3.out 2; have hz3 : w3.cell? ⟨w.heap.size + 1, 3, none⟩ = some (.slice none 0 0) := blk_cell HBZ3.out 3; have hf0 : w3.frozen? ⟨w.heap.size + 1, 0, none⟩ = false := blk_frozen HBZ3.out 0; have hf1 : w3.frozen? ⟨w.heap.size + 1, 1, none⟩ = false := blk_frozen HBZ3.out 1; have hf2 : w3.frozen? ⟨w.heap.size + 1, 2, none⟩ = false := blk_frozen HBZ3.out 2; have hf3 : w3.frozen? ⟨w.heap.size + 1, 3, none⟩ = false := blk_frozen HBZ3.out 3; clear hb3 hR; refine ⟨_, rfl, ?_⟩))
  all_goals
    go_wp2
    refine bodyPost_ret (results_ct rfl _ _ (w.heap.size + 1) 66 #[.int .i64 m.f1, .int .i64 m.f4, .int .i64 m.f5, .slice AR m.f7.length cR] (0, 0) _ rfl ?_ Try.underlying66 rfl (by kernel_rfl)) rfl ?_
    · refine blk_put (cs := #[.int .i64 m.f1, .int .i64 m.f4, .int .i64 m.f5, .slice none 0 0]) ?_ 3 _ rfl
      refine blk_put (cs := #[.int .i64 m.f1, .int .i64 m.f4, .int .i64 0, .slice none 0 0]) ?_ 2 _ rfl
      refine blk_put (cs := #[.int .i64 m.f1, .int .i64 0, .int .i64 0, .slice none 0 0]) ?_ 1 _ rfl
      exact blk_put (cs := #[.int .i64 0, .int .i64 0, .int .i64 0, .slice none 0 0]) HBZ3.out 0 _ rfl
    · have hge : w.heap.size ≤ w.heap.size + 1 := by omega
      have hb4 : Below w.heap.size w w3 := (below_drew (below_alloc (below_alloc (Below.refl _ _) _) _)).trans (below_weak HB3.out (by rw [alloc2_size]; omega))
      exact ⟨_, rfl, Kd.R_mono (Kd.R_far (p := ⟨w.heap.size + 1, 3, none⟩) (Kd.R_far (p := ⟨w.heap.size + 1, 2, none⟩) (Kd.R_far (p := ⟨w.heap.size + 1, 1, none⟩) (Kd.R_far (p := ⟨w.heap.size + 1, 0, none⟩) (Kd.R_types (Kd.R_lower HR.out (by rw [alloc2_size]; omega)) HBZ3.out (by decide)) (fun _ hk => hk.2) _) (fun _ hk => hk.2) _) (fun _ hk => hk.2) _) (fun _ hk => hk.2) _) (fun _ hk => trivial), below_set (below_set (below_set (below_set hb4 hge) hge) hge) hge⟩
end Go.Proofs.Ytfpfpckocemmdaa.P
end
section
namespace Go.Proofs.Ytfpfpckocemmdaa.P
open Go.RowKit Go.Proofs.YtfpfpckocemmdaaW.PrintWords Go.Proofs.YtfpfpckocemmdaaW.PrintLast Go.Proofs.YtfpfpckocemmdaaW.PrintMore
set_option linter.unusedVariables false
set_option linter.unusedSimpArgs false
def commitOf (l : List Int) : Int := if l.length = 0 then 0 else max ((quorum_Commit.sorted l).getD (l.length - (l.length / 2 + 1)) 0) 0
theorem commit_of (l : List Int) (h : l.length ≤ 1000) : quorum_Commit.f l = some (commitOf l) := by
  unfold quorum_Commit.f commitOf
  rw [if_pos (show l.length < 4398046511104 by omega)]
  split <;> rfl
def enoughOf (l : List S66) (n : Int) : Bool := decide (n / 2 + 1 ≤ ((quorum_Enough.froms l).length : Int))
theorem enough_of (l : List S66) (n : Int) (hn : 1 ≤ n) (hn2 : n ≤ 1000) (h : l.length ≤ 1000) (hw : ∀ v, v ∈ l → 0 ≤ v.f0 ∧ v.f0 ≤ 1000) : quorum_Enough.f l n = some (enoughOf l n) := by
  unfold quorum_Enough.f enoughOf
  have hwf : l.all (fun v => (Lit.int .i64 v.f0).wf) = true := by
    rw [List.all_eq_true]
    intro v hv
    have := hw v hv
    exact WalkArith.wf_i64 (by omega)
  rw [if_neg (show ¬ n < 1 by omega), if_pos ⟨hwf, by omega, by omega⟩]
def bestOf (l : List S66) : S66 := match l with
  | [] => z66
  | v :: l => quorum_Best.best l v
theorem best_mem (l : List S66) (v : S66) : quorum_Best.best l v ∈ v :: l := by
  induction l generalizing v with
  | nil => simp [quorum_Best.best]
  | cons u l ih =>
    have h : quorum_Best.best (u :: l) v = quorum_Best.best l (if quorum_Best.better u v then u else v) := rfl
    rw [h]
    have := ih (if quorum_Best.better u v then u else v)
    rcases List.mem_cons.1 this with e | e
    · rw [e]
      split <;> simp
    · simp [e]
theorem bestOf_mem (l : List S66) (h : l ≠ []) : bestOf l ∈ l := by
  cases l with
  | nil => exact absurd rfl h
  | cons v l => exact best_mem l v
theorem best_of (l : List S66) (hne : l ≠ []) (h : l.length ≤ 1000) (hw : ∀ v, v ∈ l → v.f3.length ≤ 1000) : quorum_Best.f l = some ((bestOf l).f0, (bestOf l).f1, (bestOf l).f2, (bestOf l).f3, true) := by
  have hm := hw _ (bestOf_mem l hne)
  cases l with
  | nil => exact absurd rfl hne
  | cons v l =>
    have h1 : l.length < 4398046511104 := by simp at h; omega
    have h2 : (quorum_Best.best l v).f3.length < 4398046511104 := by have : (quorum_Best.best l v).f3.length ≤ 1000 := hm; omega
    exact if_pos ⟨h1, h2⟩
def addTo (l : List S66) (v : S66) : List S66 := l.filter (fun y => y.f0 ≠ v.f0) ++ [v]
theorem own_of (v : S66) (h : v.f3.length ≤ 1000) : quorum_vote_own.f v.f0 v.f1 v.f2 v.f3 = some (v.f0, v.f1, v.f2, v.f3) := if_pos (by omega)
theorem add_go (l : List S66) (v : S66) (hl : l.length ≤ 1000) (hv : v.f3.length ≤ 1000) (hw : ∀ y, y ∈ l → y.f3.length ≤ 1000) : ∀ (j i k : Nat) (acc : List S66), i + j = l.length → j < k → acc.length ≤ i →
    quorum_Add.l0 k acc l (l.length : Int) (i : Int) v.f0 v.f1 v.f2 v.f3 = some (acc ++ (l.drop i).filter (fun y => y.f0 ≠ v.f0) ++ [v]) := by
  intro j
  induction j with
  | zero =>
    intro i k acc hi hk ha
    obtain ⟨k, rfl⟩ : ∃ k', k = k' + 1 := ⟨k - 1, by omega⟩
    unfold quorum_Add.l0
    rw [if_neg (by omega), own_of v hv]
    simp only [Option.bind_some]
    rw [if_pos (by omega), List.drop_eq_nil_of_le (by omega)]
    simp
  | succ j ih =>
    intro i k acc hi hk ha
    obtain ⟨k, rfl⟩ : ∃ k', k = k' + 1 := ⟨k - 1, by omega⟩
    have hlt : i < l.length := by omega
    have hrd : rd_T66 l (i : Int) = l[i] := by simp [rd_T66, List.getD_eq_getElem?_getD, List.getElem?_eq_getElem hlt]
    have hwr : wrap64 ((i : Int) + 1) = ((i + 1 : Nat) : Int) := by unfold wrap64; omega
    have hd : l.drop i = l[i] :: l.drop (i + 1) := List.drop_eq_getElem_cons hlt
    unfold quorum_Add.l0
    rw [if_pos (by omega), if_pos (by omega), if_pos (by omega), hrd, hwr]
    split
    · rename_i he
      rw [ih (i + 1) k acc (by omega) (by omega) (by omega), hd, List.filter_cons_of_neg (by simp [he])]
    · rename_i he
      rw [own_of l[i] (hw _ (List.getElem_mem hlt))]
      simp only [Option.bind_some]
      rw [if_pos (by omega), ih (i + 1) k _ (by omega) (by omega) (by simp; omega), hd, List.filter_cons_of_pos (by simp [he])]
      simp
theorem add_of (l : List S66) (v : S66) (hl : l.length ≤ 1000) (hv : v.f3.length ≤ 1000) (hw : ∀ y, y ∈ l → y.f3.length ≤ 1000) : quorum_Add.f (l.length + 1) l v.f0 v.f1 v.f2 v.f3 = some (addTo l v) := by
  have h := add_go l v hl hv hw l.length 0 (l.length + 1) [] (by omega) (by omega) (by simp)
  exact h
end Go.Proofs.Ytfpfpckocemmdaa.P
end
section
namespace Go.Proofs.Ytfpfpckocemmdaa.P
open Go.RowKit Go.Proofs.YtfpfpckocemmdaaW.PrintWords Go.Proofs.YtfpfpckocemmdaaW.PrintLast Go.Proofs.YtfpfpckocemmdaaW.PrintMore
set_option linter.unusedVariables false
set_option linter.unusedSimpArgs false
section
variable {w0 w W : World} {base g : Nat} {ok : Nat → Prop} {x y : Nod} {o : Obj}
def Okb (w0 w : World) (ok : Nat → Prop) : Nat → Prop := fun k => (ok k ∨ w0.heap.size ≤ k) ∧ k < w.heap.size
theorem Did.boxed (h : Did w0 w base g ok x) (o : Obj) : Did (w.alloc o) (w.alloc o) base g (Okb w0 w ok) x := by
  refine Did.refl ((h.1.bound.below (below_alloc (Below.refl _ _) o)).mono (fun k hk => ⟨hk.1, hk.2.1⟩))
theorem Did.unbox (h : Did w0 w base g ok x) (k : Did (w.alloc o) W base g (Okb w0 w ok) y) : Did w0 W base g ok y := by
  have hs := h.2.2.1.size
  have hb := h.2.2.2.1
  have h1 : Did w W base g (fun k => ok k ∨ w0.heap.size ≤ k) y := by
    refine ⟨k.1.mono (fun i hi => ?_), ?_, ?_, by omega, .inl h.2.2.2.2⟩
    · rcases hi with hi | hi
      · exact .inl hi.1
      · exact .inr (by have : (w.alloc o).heap.size = w.heap.size + 1 := by simp
                       omega)
    · exact (kept_alloc_ (Kept.refl w _) o).then_ k.2.1 (fun i hi => .inl hi.1)
    · exact (below_new (Below.refl base w) (by omega) o).trans k.2.2.1
  exact h.then_ h1
theorem Did.box (k : Did (w.alloc o) W base g (Okb w0 w ok) y) : W.heap[w.heap.size]? = some o := by
  have h := k.2.1.2 w.heap.size (by simp) (fun hk => by have := hk.2; omega)
  exact h.trans (x_alloc_new w o)
theorem Did.reads (h : Did w0 w base g ok x) {A : Option Addr} {l : List ByteArray} (hM : ∀ W, Below base w0 W → Kd.C Kd.string W A l.length l) (k : Did (w.alloc o) W base g (Okb w0 w ok) y) : Kd.C Kd.string W A l.length l :=
  hM W (h.unbox k).2.2.1
end
theorem blk_far_inv {w : World} {b : Nat} {r : Option Obj} {p : Addr} {v : Value} (h : (w.setCell p v).heap[b]? = r) (hne : b ≠ p.block) : w.heap[b]? = r := (Below.heap_setCell w p v b hne).symm.trans h
def Nod.ackOf (x : Nod) (m : S28) : S28 := ⟨2, x.id, m.f1, x.view, 0, 0, (x.log.length : Int), []⟩
def Nod.takes (x : Nod) (m : S28) : Nod := if m.f3 > x.view ∨ x.works = false then Nod.clear { x with view := m.f3, works := true, last := m.f3, log := m.f7 } else if m.f7.length > x.log.length then { x with log := m.f7 } else x
def Nod.settle (x : Nod) (m : S28) : Nod := { x with commit := min (max x.commit m.f5) (x.log.length : Int) }
def Nod.prepare (x : Nod) (m : S28) : Nod := if m.f3 % x.n = m.f1 then let z := (x.takes m).settle m; z.say (z.ackOf m) else x
end Go.Proofs.Ytfpfpckocemmdaa.P
end
section
namespace Go.Proofs.Ytfpfpckocemmdaa.P
open Go.RowKit Go.Proofs.YtfpfpckocemmdaaW.PrintWords Go.Proofs.YtfpfpckocemmdaaW.PrintLast Go.Proofs.YtfpfpckocemmdaaW.PrintMore
set_option linter.unusedVariables false
set_option linter.unusedSimpArgs false
structure Good (x : Nod) : Prop where
  n1 : 1 ≤ x.n
  n2 : x.n ≤ 1000
  id0 : 0 ≤ x.id
  id1 : x.id < x.n
  view : 0 ≤ x.view
  log : x.log.length ≤ 1000
  acks : x.acks.length = x.n.toNat
  votes : x.votes.length ≤ 1000
  each : ∀ v, v ∈ x.votes → 0 ≤ v.f0 ∧ v.f0 ≤ 1000 ∧ v.f3.length ≤ 1000
  told : x.told.length ≤ 1000
def mostOf (l : List S66) : Int := l.foldl (fun a v => max a v.f2) 0
theorem mostOf_append (l : List S66) (v : S66) : mostOf (l ++ [v]) = max (mostOf l) v.f2 := by unfold mostOf; rw [List.foldl_append]; rfl
def Nod.counts (y : Nod) : Nod := y.count (commitOf (y.acks.set y.id.toNat (y.log.length : Int)))
def Nod.rise (x : Nod) : Nod := { x with log := (bestOf x.votes).f3, commit := min (mostOf x.votes) ((bestOf x.votes).f3.length : Int), works := true, last := x.view }
def Nod.may (x : Nod) : Bool := !x.works && x.prim x.view && enoughOf x.votes x.n
def Nod.begin_ (x : Nod) : Nod := if x.may then x.rise.clear.counts.tell else x
theorem enough_ne (l : List S66) (n : Int) (hn : 1 ≤ n) (h : enoughOf l n = true) : l ≠ [] := by
  rintro rfl
  have h1 := of_decide_eq_true h
  have h2 : ((quorum_Enough.froms ([] : List S66)).length : Int) = 0 := rfl
  rw [h2] at h1
  omega
theorem quiet_primary (x : Nod) (view : Int) (w : World) (g : Nat) (h0 : w.cell? ⟨g, 0, none⟩ = some (.int .i64 x.id)) (h1 : w.cell? ⟨g, 1, none⟩ = some (.int .i64 x.n)) (hv : 0 ≤ view) (hn : 1 ≤ x.n) (k : Nat) :
    Calls Try.prog 47 #[.pointer (some ⟨g, 0, none⟩), .int .i64 view] (w.drewN k) fun e w' => e = .returned (.bool (x.prim view)) ∧ ∃ m, w' = (w.drewN k).drewN m :=
  (primary_calls x view (w.drewN k) g h0 h1 hv hn).mono (fun _ _ ⟨a, b⟩ => ⟨a, b.out⟩)
theorem x_step_callw {P : Program} {ops : Array Oper} {o : Oper} {a : Act} {w : World} {K : Act → World → Prop} {Q : Exit → Act → World → Prop} {E : Prop} (hw : Region.wanted o (yielded ops a.tmps) = true) {f : FuncId} {fn : Func} {xs : Array Operand} {ts : Array TypeId}
    (hf : P.funcs[f]? = some fn) (hname : (fn.name == "runtime.NumGoroutine") = false) (hb : fn.body.isSome = true) (args : Array Value)
    (hop : o.op = .call { callee := .value (.func f), args := xs, argTypes := ts }) (hargs : xs.map a.eval = args)
    (h : Calls P f args w fun e w' => ∃ v, e = .returned v ∧ K (a.put o.dst v) w') : if Region.wanted o (yielded ops a.tmps) = true then Oper.wp P o a w K Q else E := by
  rw [if_pos hw]
  have he := enters_ hf hname hb args w
  have hrun : (execOp a.eval o).run P w = .ok (.enter f args) w := by
    unfold execOp
    simp [hop, resolve, Deferred.ofValue, invoke, Act.eval, hargs, he]
  unfold Oper.wp
  rw [hrun, Oper.upon_enter]
  refine h.mono fun e w'' hh => ?_
  obtain ⟨v, rfl, hk⟩ := hh
  exact hk
set_option maxHeartbeats 8000000 in
set_option maxRecDepth 100000 in
theorem begin_works (x : Nod) (w0 w : World) (base g : Nat) (ok : Nat → Prop) (hw : x.works = true) (h : Did w0 w base g ok x) :
    Calls Try.prog 30 #[.pointer (some ⟨g, 0, none⟩)] w fun e w' => e = .returned (.tuple #[]) ∧ Did w0 w' base g ok x := by
  have hu57 := Try.underlying57
  have hu26 := Try.underlying26
  have HN := Aside0.mk h
  obtain ⟨A6, c6, A7, c7, A8, c8, A9, c9, hb, -⟩ := h.blk
  have hc4 : w.cell? ⟨g, 4, none⟩ = some (.bool x.works) := blk_cell hb 4
  rw [hw] at hc4
  clear hb h hw
  go_enter Try.func30, Try.ntmps30
  go_wp2
  go_region
  go_wp2
  refine bodyPost_ret (results_none rfl _ _ _) rfl ?_
  exact ⟨rfl, HN.out.drewN _⟩
set_option maxHeartbeats 8000000 in
set_option maxRecDepth 100000 in
theorem begin_other (x : Nod) (w0 w : World) (base g : Nat) (ok : Nat → Prop) (hw : x.works = false) (hn0 : 1 ≤ x.n) (hv : 0 ≤ x.view) (hp : x.prim x.view = false) (h : Did w0 w base g ok x) :
    Calls Try.prog 30 #[.pointer (some ⟨g, 0, none⟩)] w fun e w' => e = .returned (.tuple #[]) ∧ Did w0 w' base g ok x := by
  have hu57 := Try.underlying57
  have hu26 := Try.underlying26
  have HN := Aside0.mk h
  obtain ⟨A6, c6, A7, c7, A8, c8, A9, c9, hb, -⟩ := h.blk
  have hc0 : w.cell? ⟨g, 0, none⟩ = some (.int .i64 x.id) := blk_cell hb 0
  have hc1 : w.cell? ⟨g, 1, none⟩ = some (.int .i64 x.n) := blk_cell hb 1
  have hc2 : w.cell? ⟨g, 2, none⟩ = some (.int .i64 x.view) := blk_cell hb 2
  have hc4 : w.cell? ⟨g, 4, none⟩ = some (.bool x.works) := blk_cell hb 4
  rw [hw] at hc4
  have HP := Aside0.mk (fun k => quiet_primary x x.view w g hc0 hc1 hv hn0 k)
  rw [hp] at HP
  clear hb h hw hv hn0 hp
  go_enter Try.func30, Try.ntmps30
  go_wp2
  go_quiet ((go_at_call 47; exact Calls.quiet_of (HP.out _)))
  all_goals
    go_wp2
    refine bodyPost_ret (results_none rfl _ _ _) rfl ?_
    exact ⟨rfl, HN.out.drewN _⟩
end Go.Proofs.Ytfpfpckocemmdaa.P
end
section
namespace Go.Proofs.Ytfpfpckocemmdaa.P
open Go.RowKit Go.Proofs.YtfpfpckocemmdaaW.PrintWords Go.Proofs.YtfpfpckocemmdaaW.PrintLast Go.Proofs.YtfpfpckocemmdaaW.PrintMore
set_option linter.unusedVariables false
set_option linter.unusedSimpArgs false
theorem clear_good {x : Nod} (h : Good x) : Good x.clear := ⟨h.n1, h.n2, h.id0, h.id1, h.view, h.log, by simp [Nod.clear], by simp [Nod.clear], by simp [Nod.clear], h.told⟩
theorem rise_good {x : Nod} (h : Good x) (hne : x.votes ≠ []) : Good x.rise := ⟨h.n1, h.n2, h.id0, h.id1, h.view, (h.each _ (bestOf_mem _ hne)).2.2, h.acks, h.votes, h.each, h.told⟩
theorem counts_good {x : Nod} (h : Good x) : Good x.counts := by
  unfold Nod.counts Nod.count
  split
  · exact ⟨h.n1, h.n2, h.id0, h.id1, h.view, h.log, by rw [← h.acks]; simp, h.votes, h.each, h.told⟩
  · exact h
theorem counts_did (x : Nod) (w0 w : World) (base g : Nat) (ok : Nat → Prop) (hg : Good x) (h : Did w0 w base g ok x) :
    Calls Try.prog 35 #[.pointer (some ⟨g, 0, none⟩)] w fun e w' => e = .returned (.tuple #[]) ∧ Did w0 w' base g ok x.counts :=
  count_did x w0 w base g ok _ hg.id0 (by rw [hg.acks]; have := hg.id1; have := hg.n1; omega) hg.view hg.n1 (commit_of _ (by rw [List.length_set, hg.acks]; have := hg.n2; omega)) h
set_option maxHeartbeats 8000000 in
set_option maxRecDepth 100000 in
theorem begin_few (x : Nod) (w0 w : World) (base g : Nat) (ok : Nat → Prop) (hg : Good x) (hw : x.works = false) (hp : x.prim x.view = true) (hen : enoughOf x.votes x.n = false) (h : Did w0 w base g ok x) :
    Calls Try.prog 30 #[.pointer (some ⟨g, 0, none⟩)] w fun e w' => e = .returned (.tuple #[]) ∧ Did w0 w' base g ok x := by
  have hu57 := Try.underlying57
  have hu26 := Try.underlying26
  have hu66 := Try.underlying66
  have HN := Aside0.mk h
  have HG := Aside0.mk hg
  obtain ⟨A6, c6, A7, c7, A8, c8, A9, c9, hb, _, _, _, _, hc8, hC8, -⟩ := h.blk
  have HBK := Aside0.mk hb
  have HC8 := Aside0.mk hC8
  have HCC8 := Aside0.mk hc8
  have hc0 : w.cell? ⟨g, 0, none⟩ = some (.int .i64 x.id) := blk_cell hb 0
  have hc1 : w.cell? ⟨g, 1, none⟩ = some (.int .i64 x.n) := blk_cell hb 1
  have hc2 : w.cell? ⟨g, 2, none⟩ = some (.int .i64 x.view) := blk_cell hb 2
  have hc4 : w.cell? ⟨g, 4, none⟩ = some (.bool x.works) := blk_cell hb 4
  have hcv : w.cell? ⟨g, 8, none⟩ = some (.slice A8 x.votes.length c8) := blk_cell hb 8
  rw [hw] at hc4
  have HP := Aside0.mk (primary_calls x x.view w.drew g hc0 hc1 hg.view hg.n1)
  rw [hp] at HP
  have HE := Aside0.mk (enough_of x.votes x.n hg.n1 hg.n2 hg.votes (fun v hv => ⟨(hg.each v hv).1, (hg.each v hv).2.1⟩))
  rw [hen] at HE
  have HEN := Aside0.mk hen
  have HWW := Aside0.mk hw
  clear hb h hw hp hC8 hc8 hg hen
  go_enter Try.func30, Try.ntmps30
  go_wp2
  go_region_held3 (fun W => W.cell? ⟨g, 4, none⟩ = some (.bool false) ∧ W.cell? ⟨g, 2, none⟩ = some (.int .i64 x.view) ∧ W.cell? ⟨g, 8, none⟩ = some (.slice A8 x.votes.length c8) ∧ W.cell? ⟨g, 1, none⟩ = some (.int .i64 x.n))
    (first | exact ⟨hc4, hc2, hcv, hc1⟩ | exact ⟨(blk_cell HBK5.out 4).trans (by show some (Value.bool x.works) = _; rw [HWW.out]), blk_cell HBK5.out 2, blk_cell HBK5.out 8, blk_cell HBK5.out 1⟩)
    (first
      | (refine x_step_callw (by rfl) Try.func47 (by kernel_rfl) rfl #[.pointer (some ⟨g, 0, none⟩), .int .i64 x.view] rfl (by simp [Act.eval, Act.put]) ?_; refine HP.out.mono ?_; rintro e w' ⟨rfl, ⟨nd, rfl⟩⟩; refine ⟨_, rfl, ?_⟩)
      | (refine x_step_callw (by rfl) Try.func51 (by kernel_rfl) rfl #[.slice A8 x.votes.length c8, .int .i64 x.n] rfl (by simp [Act.eval, Act.put]) ?_; refine (quorum_Enough.calls A8 c8 x.votes x.n false (w.drew.drewN nd) (Kd.C_drewN (Kd.C_drew HC8.out) _) HCC8.out HE.out).mono ?_; rintro e w5 ⟨rfl, hb5⟩; have HD5 := Aside0.mk ((HN.out.drew.drewN nd).below hb5); have HBK5 := Aside0.mk ((hb5.block g (show g < (w.drew.drewN nd).heap.size from blk_lt HBK.out)).trans HBK.out); have HC85 := Aside0.mk (Kd.C_below (Kd.C_drewN (Kd.C_drew HC8.out) nd) hb5); clear hb5; refine ⟨_, rfl, ?_⟩))
  rename_i hh
  clear hh
  go_wp2
  refine bodyPost_ret (results_none rfl _ _ _) rfl ?_
  exact ⟨rfl, HD5.out⟩
set_option maxHeartbeats 8000000 in
set_option maxRecDepth 100000 in
theorem begin_may (x : Nod) (w0 w : World) (base g : Nat) (ok : Nat → Prop) (hg : Good x) (hw : x.works = false) (hp : x.prim x.view = true) (hen : enoughOf x.votes x.n = true) (h : Did w0 w base g ok x) :
    Calls Try.prog 30 #[.pointer (some ⟨g, 0, none⟩)] w fun e w' => e = .returned (.tuple #[]) ∧ Did w0 w' base g ok x.rise.clear.counts.tell := by
  have hu57 := Try.underlying57
  have hu26 := Try.underlying26
  have hu66 := Try.underlying66
  have HN := Aside0.mk h
  have HG := Aside0.mk hg
  obtain ⟨A6, c6, A7, c7, A8, c8, A9, c9, hb, _, _, _, _, hc8, hC8, -⟩ := h.blk
  have HBK := Aside0.mk hb
  have HC8 := Aside0.mk hC8
  have HCC8 := Aside0.mk hc8
  have hc0 : w.cell? ⟨g, 0, none⟩ = some (.int .i64 x.id) := blk_cell hb 0
  have hc1 : w.cell? ⟨g, 1, none⟩ = some (.int .i64 x.n) := blk_cell hb 1
  have hc2 : w.cell? ⟨g, 2, none⟩ = some (.int .i64 x.view) := blk_cell hb 2
  have hc4 : w.cell? ⟨g, 4, none⟩ = some (.bool x.works) := blk_cell hb 4
  have hcv : w.cell? ⟨g, 8, none⟩ = some (.slice A8 x.votes.length c8) := blk_cell hb 8
  rw [hw] at hc4
  have HP := Aside0.mk (primary_calls x x.view w.drew g hc0 hc1 hg.view hg.n1)
  rw [hp] at HP
  have HE := Aside0.mk (enough_of x.votes x.n hg.n1 hg.n2 hg.votes (fun v hv => ⟨(hg.each v hv).1, (hg.each v hv).2.1⟩))
  rw [hen] at HE
  have HEN := Aside0.mk hen
  have HWW := Aside0.mk hw
  clear hb h hw hp hC8 hc8 hg hen
  go_enter Try.func30, Try.ntmps30
  go_wp2
  go_region_held3 (fun W => W.cell? ⟨g, 4, none⟩ = some (.bool false) ∧ W.cell? ⟨g, 2, none⟩ = some (.int .i64 x.view) ∧ W.cell? ⟨g, 8, none⟩ = some (.slice A8 x.votes.length c8) ∧ W.cell? ⟨g, 1, none⟩ = some (.int .i64 x.n))
    (first | exact ⟨hc4, hc2, hcv, hc1⟩ | exact ⟨(blk_cell HBK5.out 4).trans (by show some (Value.bool x.works) = _; rw [HWW.out]), blk_cell HBK5.out 2, blk_cell HBK5.out 8, blk_cell HBK5.out 1⟩)
    (first
      | (refine x_step_callw (by rfl) Try.func47 (by kernel_rfl) rfl #[.pointer (some ⟨g, 0, none⟩), .int .i64 x.view] rfl (by simp [Act.eval, Act.put]) ?_; refine HP.out.mono ?_; rintro e w' ⟨rfl, ⟨nd, rfl⟩⟩; refine ⟨_, rfl, ?_⟩)
      | (refine x_step_callw (by rfl) Try.func51 (by kernel_rfl) rfl #[.slice A8 x.votes.length c8, .int .i64 x.n] rfl (by simp [Act.eval, Act.put]) ?_; refine (quorum_Enough.calls A8 c8 x.votes x.n true (w.drew.drewN nd) (Kd.C_drewN (Kd.C_drew HC8.out) _) HCC8.out HE.out).mono ?_; rintro e w5 ⟨rfl, hb5⟩; have HD5 := Aside0.mk ((HN.out.drew.drewN nd).below hb5); have HBK5 := Aside0.mk ((hb5.block g (show g < (w.drew.drewN nd).heap.size from blk_lt HBK.out)).trans HBK.out); have HC85 := Aside0.mk (Kd.C_below (Kd.C_drewN (Kd.C_drew HC8.out) nd) hb5); clear hb5; refine ⟨_, rfl, ?_⟩))
  rename_i hh
  clear hh
  have HNE := Aside0.mk (enough_ne x.votes x.n HG.out.n1 HEN.out)
  have HBEST := Aside0.mk (best_of x.votes HNE.out HG.out.votes (fun v hv => (HG.out.each v hv).2.2))
  have hcv5 : w5.cell? ⟨g, 8, none⟩ = some (.slice A8 x.votes.length c8) := blk_cell HBK5.out 8
  clear hc0 hc1 hc2 hc4 hcv
  generalize hbe : bestOf x.votes = be at *
  have HBE := Aside0.mk hbe
  clear hbe
  go_wp2_with (first | (go_at_call 52; refine (quorum_Best.calls A8 c8 x.votes be.f0 be.f1 be.f2 be.f3 true _ HC85.out HCC8.out HBEST.out).mono ?_; rintro e w6 ⟨v6, rfl, hR6, hb6⟩; obtain ⟨AB, cB, rfl⟩ := Kd.R_slice hR6; have HR6 := Aside0.mk hR6; have HB6 := Aside0.mk hb6; have HBK6 := Aside0.mk ((hb6.block g (blk_lt HBK5.out)).trans HBK5.out); have hcv6 : ∀ o, (w6.alloc o).cell? ⟨g, 8, none⟩ = some (.slice A8 x.votes.length c8) := fun o => blk_cell (blk_alloc HBK6.out o) 8; clear hb6 hR6))
  have HC7 := Aside0.mk (Kd.C_alloc (Kd.C_below HC85.out HB6.out) (.cells #[.int .i64 be.f0, .int .i64 be.f1, .int .i64 be.f2, .slice AB be.f3.length cB] 66))
  have HBB7 := Aside0.mk (x_alloc_new w6 (.cells #[.int .i64 be.f0, .int .i64 be.f1, .int .i64 be.f2, .slice AB be.f3.length cB] 66))
  have HBK7 := Aside0.mk (blk_alloc HBK6.out (.cells #[.int .i64 be.f0, .int .i64 be.f1, .int .i64 be.f2, .slice AB be.f3.length cB] 66))
  have HB57 := Aside0.mk (below_alloc HB6.out (.cells #[.int .i64 be.f0, .int .i64 be.f1, .int .i64 be.f2, .slice AB be.f3.length cB] 66))
  have HR7 := Aside0.mk (Kd.R_alloc HR6.out (.cells #[.int .i64 be.f0, .int .i64 be.f1, .int .i64 be.f2, .slice AB be.f3.length cB] 66))
  have hgb1 : g ≠ w6.heap.size := by have := blk_lt HBK6.out; omega
  have hgb2 : w6.heap.size ≠ g := hgb1.symm
  clear hcv6 hcv5
  generalize hW7 : w6.alloc (.cells #[.int .i64 be.f0, .int .i64 be.f1, .int .i64 be.f2, .slice AB be.f3.length cB] 66) = w7 at *
  generalize hb6 : w6.heap.size = gb at *
  clear hW7 hb6
  generalize hn : x.votes.length = n at *
  have HLEN := Aside0.mk hn
  have HNN := Aside0.mk (show n ≤ 1000 by rw [← hn]; exact HG.out.votes)
  clear hn
  go_loopg [4, 51] n (fun kq v4 v51 w' => ∃ (i : Nat), v51 = .int .i64 (i : Int) ∧ v4 = .int .i64 (mostOf (x.votes.take i)) ∧ Aside0 (kq = n - i ∧ i ≤ n) ∧ Aside0 (Below w7.heap.size w7 w'))
  case atStart => exact ⟨0, rfl, rfl, ⟨by simp⟩, ⟨Below.refl _ _⟩⟩
  case round =>
    obtain ⟨i, rfl, rfl, hi, HB⟩ := hrel
    by_cases hlt : i < n
    · have hb1 : decide ((i : Int) < (n : Int)) = true := decide_eq_true (by omega)
      have p1 : (0 : Int) ≤ (i : Int) := by omega
      have q1 : (i : Int) < (n : Int) := by omega
      have HC := Aside0.mk (Kd.C_below HC7.out HB.out)
      obtain ⟨ad2, A3, c3, rfl, hy0, hy1, hy2, hy3, hly, hiy⟩ := at_T66 HC.out (i : Int) p1 q1
      simp only [Int.toNat_natCast] at hy0 hy1 hy2 hy3
      have HT1 := Aside0.mk (show x.votes.take (i + 1) = x.votes.take i ++ [rd_T66 x.votes (i : Int)] by
        have hlt2 : i < x.votes.length := by rw [HLEN.out]; exact hlt
        rw [List.take_succ_eq_append_getElem hlt2]
        simp [rd_T66, List.getD_eq_getElem?_getD, List.getElem?_eq_getElem hlt2])
      replace p1 := eq_true p1
      replace q1 := eq_true q1
      generalize hv : rd_T66 x.votes (i : Int) = v at *
      clear hv hly hiy
      go_wp2
      go_roundg (n - (i + 1))
      case measure => have := hi.out.1; omega
      case rel =>
        have hw : wrap64 ((i : Int) + 1) = ((i + 1 : Nat) : Int) := by have := HNN.out; have := hi.out; unfold wrap64; omega
        refine ⟨i + 1, by rw [hw], by rw [HT1.out, mostOf_append], ⟨by have := hi.out; omega, by omega⟩, ⟨below_alloc HB.out _⟩⟩
    · have hb1 : decide ((i : Int) < (n : Int)) = false := decide_eq_false (by omega)
      have hie : i = n := by have := hi.out; omega
      subst hie
      have hmo : mostOf (x.votes.take i) = mostOf x.votes := by rw [← HLEN.out, List.take_length]
      have HBBr := Aside0.mk ((HB.out.block gb (blk_lt HBB7.out)).trans HBB7.out)
      have HBKr := Aside0.mk ((HB.out.block g (blk_lt HBK7.out)).trans HBK7.out)
      have hz3 : wr.cell? ⟨gb, 3, none⟩ = some (.slice AB be.f3.length cB) := blk_cell HBBr.out 3
      have hz5 : wr.cell? ⟨g, 5, none⟩ = some (.int .i64 x.commit) := blk_cell HBKr.out 5
      have hz6 : wr.cell? ⟨g, 6, none⟩ = some (.slice A6 x.log.length c6) := blk_cell HBKr.out 6
      have hf5 : wr.frozen? ⟨g, 5, none⟩ = false := blk_frozen HBKr.out 5
      have hf6 : wr.frozen? ⟨g, 6, none⟩ = false := blk_frozen HBKr.out 6
      have HDr := Aside0.mk (HD5.out.set_log (HB57.out.trans (below_weak HB.out HB57.out.size)) (Nat.le_refl _) (Kd.R_step HR7.out (fun k _ hk => HB.out.block k hk)))
      rw [hmo]
      clear hmo
      have hq2 : wr.cell? ⟨g, 2, none⟩ = some (.int .i64 x.view) := blk_cell HBKr.out 2
      have hq3 : wr.cell? ⟨g, 3, none⟩ = some (.int .i64 x.last) := blk_cell HBKr.out 3
      have hq4 : wr.cell? ⟨g, 4, none⟩ = some (.bool x.works) := blk_cell HBKr.out 4
      have hf3 : wr.frozen? ⟨g, 3, none⟩ = false := blk_frozen HBKr.out 3
      have hf4 : wr.frozen? ⟨g, 4, none⟩ = false := blk_frozen HBKr.out 4
      have HRISE := Aside0.mk (show x.rise = { x with log := be.f3, commit := (min (mostOf x.votes) (be.f3.length : Int)), works := true, last := x.view } by unfold Nod.rise; rw [HBE.out])
      have HG1 := Aside0.mk (clear_good (rise_good HG.out HNE.out))
      have HG2 := Aside0.mk (counts_good HG1.out)
      have HD9 := Aside0.mk ((((HDr.out.set_commit (min (mostOf x.votes) (be.f3.length : Int))).drew).set_works true).set_last x.view)
      rw [← HRISE.out] at HD9
      go_wp2
      go_region
      go_wp2_with (first
        | (go_at_call 39; refine (clear_did x.rise w0 _ base g ok (by have := HG.out.n1; show 0 ≤ x.n; omega) HG.out.n2 HD9.out).mono ?_; rintro e w10 ⟨rfl, h10⟩; have HD10 := Aside0.mk h10; clear h10)
        | (go_at_call 35; refine (counts_did x.rise.clear w0 _ base g ok HG1.out HD10.out).mono ?_; rintro e w11 ⟨rfl, h11⟩; have HD11 := Aside0.mk h11; clear h11)
        | (go_at_call 36; refine (tell_did x.rise.clear.counts w0 _ base g ok (by have := HG2.out.n1; omega) HG2.out.n2 HG2.out.told (by have := HG2.out.log; omega) HD11.out).mono ?_; rintro e w12 ⟨rfl, h12⟩; have HD12 := Aside0.mk h12; clear h12))
      all_goals
        go_end0
        exact ⟨rfl, HD12.out⟩
end Go.Proofs.Ytfpfpckocemmdaa.P
end
section
namespace Go.Proofs.Ytfpfpckocemmdaa.P
open Go.RowKit Go.Proofs.YtfpfpckocemmdaaW.PrintWords Go.Proofs.YtfpfpckocemmdaaW.PrintLast Go.Proofs.YtfpfpckocemmdaaW.PrintMore
set_option linter.unusedVariables false
set_option linter.unusedSimpArgs false
theorem begin_did2 (x : Nod) (w0 w : World) (base g : Nat) (ok : Nat → Prop) (hg : Good x) (h : Did w0 w base g ok x) :
    Calls Try.prog 30 #[.pointer (some ⟨g, 0, none⟩)] w fun e w' => e = .returned (.tuple #[]) ∧ Did w0 w' base g ok x.begin_ := by
  cases hw : x.works with
  | true =>
    have he : x.begin_ = x := by unfold Nod.begin_ Nod.may; rw [hw]; rfl
    rw [he]; exact begin_works x w0 w base g ok hw h
  | false =>
    cases hp : x.prim x.view with
    | false =>
      have he : x.begin_ = x := by unfold Nod.begin_ Nod.may; rw [hw, hp]; rfl
      rw [he]; exact begin_other x w0 w base g ok hw hg.n1 hg.view hp h
    | true =>
      cases hen : enoughOf x.votes x.n with
      | false =>
        have he : x.begin_ = x := by unfold Nod.begin_ Nod.may; rw [hw, hp, hen]; rfl
        rw [he]; exact begin_few x w0 w base g ok hg hw hp hen h
      | true =>
        have he : x.begin_ = x.rise.clear.counts.tell := by unfold Nod.begin_ Nod.may; rw [hw, hp, hen]; rfl
        rw [he]; exact begin_may x w0 w base g ok hg hw hp hen h
@[reducible] def ldVotes (n : Nat) : Op := Op.load 24 (Operand.tmp n)
theorem ldVotes_eq (n : Nat) : Op.load 24 (Operand.tmp n) = ldVotes n := rfl
def voteOf (m : S28) : S66 := ⟨m.f1, m.f4, m.f5, m.f7⟩
def Nod.ownVote (x : Nod) : S66 := ⟨x.id, x.last, x.commit, x.log⟩
def Nod.joins (x : Nod) (view : Int) : Nod := x.join view [x.ownVote]
def Nod.votedFor (y : Nod) (m : S28) : Nod := Nod.begin_ { y with votes := addTo y.votes (voteOf m) }
def Nod.vote (x : Nod) (m : S28) : Nod := if x.prim m.f3 = true then (if m.f3 > x.view then (x.joins m.f3).votedFor m else if x.works = true then x.say (x.prep m.f1) else x.votedFor m) else x
theorem joins_good {x : Nod} (h : Good x) (view : Int) (hv : 0 ≤ view) : Good (x.joins view) := ⟨h.n1, h.n2, h.id0, h.id1, hv, h.log, by simp [Nod.joins, Nod.join, Nod.clear], by simp [Nod.joins, Nod.join], by
  intro v hv
  have : v = x.ownVote := by simpa [Nod.joins, Nod.join] using hv
  subst this
  have := h.id0; have := h.id1; have := h.n2; have := h.log
  exact ⟨by show 0 ≤ x.id; omega, by show x.id ≤ 1000; omega, by show x.log.length ≤ 1000; omega⟩, h.told⟩
theorem addTo_length (l : List S66) (v : S66) : (addTo l v).length ≤ l.length + 1 := by
  unfold addTo
  rw [List.length_append]
  have := List.length_filter_le (fun y : S66 => decide (y.f0 ≠ v.f0)) l
  simp only [List.length_singleton]
  omega
theorem add_good {y : Nod} (h : Good y) (v : S66) (hl : y.votes.length ≤ 900) (hv : 0 ≤ v.f0 ∧ v.f0 ≤ 1000 ∧ v.f3.length ≤ 1000) : Good { y with votes := addTo y.votes v } := ⟨h.n1, h.n2, h.id0, h.id1, h.view, h.log, h.acks, by have := addTo_length y.votes v; show (addTo y.votes v).length ≤ 1000; omega, by
  intro u hu
  have hu2 : u ∈ addTo y.votes v := hu
  unfold addTo at hu2
  rw [List.mem_append] at hu2
  rcases hu2 with hu2 | hu2
  · exact h.each u (List.mem_filter.1 hu2).1
  · rw [List.mem_singleton.1 hu2]; exact hv, h.told⟩
theorem joins_did (x : Nod) (view : Int) (w0 w : World) (base g : Nat) (ok : Nat → Prop) (hg : Good x) (h : Did w0 w base g ok x) :
    Calls Try.prog 29 #[.pointer (some ⟨g, 0, none⟩), .int .i64 view] w fun e w' => e = .returned (.tuple #[]) ∧ Did w0 w' base g ok (x.joins view) :=
  join_did 1 x view _ w0 w base g ok (by have := hg.n1; omega) hg.n2 (add_of [] x.ownVote (by simp) hg.log (by simp)) h
set_option maxHeartbeats 8000000 in
set_option maxRecDepth 100000 in
theorem vote_not (x : Nod) (m : S28) (A : Option Addr) (c : Nat) (w0 w : World) (base g : Nat) (ok : Nat → Prop) (hg : Good x) (hk : m.f0 = 3) (hf : 0 ≤ m.f1) (hf2 : m.f1 < x.n) (hmv : 0 ≤ m.f3) (hvl : x.votes.length ≤ 900) (hc : m.f7.length ≤ c) (hl : m.f7.length ≤ 1000) (hM : ∀ W, Below base w0 W → Kd.C Kd.string W A m.f7.length m.f7) (hp : x.prim m.f3 = false) (h : Did w0 w base g ok x) :
    Calls Try.prog 25 #[.pointer (some ⟨g, 0, none⟩), .agg #[.int .i64 m.f0, .int .i64 m.f1, .int .i64 m.f2, .int .i64 m.f3, .int .i64 m.f4, .int .i64 m.f5, .int .i64 m.f6, .slice A m.f7.length c]] w fun e w' => e = .returned (.tuple #[]) ∧ Did w0 w' base g ok x := by
  have hu57 := Try.underlying57
  have hu26 := Try.underlying26
  have hu28 := Try.underlying28
  have hu66 := Try.underlying66
  have HN := Aside0.mk h
  have HG := Aside0.mk hg
  have HD := Aside0.mk (h.boxed (.cells #[.int .i64 m.f0, .int .i64 m.f1, .int .i64 m.f2, .int .i64 m.f3, .int .i64 m.f4, .int .i64 m.f5, .int .i64 m.f6, .slice A m.f7.length c] 28))
  have HM := Aside0.mk hM
  have HCC := Aside0.mk hc
  have HL := Aside0.mk hl
  have HK := Aside0.mk hk
  have HF := Aside0.mk (And.intro hf hf2)
  have HMV := Aside0.mk hmv
  have HVL := Aside0.mk hvl
  have hlt := h.1.lt
  obtain ⟨A6, c6, A7, c7, A8, c8, A9, c9, hb, -⟩ := HD.out.blk
  have HB := Aside0.mk hb
  have hc2 : (w.alloc (.cells #[.int .i64 m.f0, .int .i64 m.f1, .int .i64 m.f2, .int .i64 m.f3, .int .i64 m.f4, .int .i64 m.f5, .int .i64 m.f6, .slice A m.f7.length c] 28)).cell? ⟨g, 2, none⟩ = some (.int .i64 x.view) := blk_cell hb 2
  have hc4 : (w.alloc (.cells #[.int .i64 m.f0, .int .i64 m.f1, .int .i64 m.f2, .int .i64 m.f3, .int .i64 m.f4, .int .i64 m.f5, .int .i64 m.f6, .slice A m.f7.length c] 28)).cell? ⟨g, 4, none⟩ = some (.bool x.works) := blk_cell hb 4
  have hb3 : (w.alloc (.cells #[.int .i64 m.f0, .int .i64 m.f1, .int .i64 m.f2, .int .i64 m.f3, .int .i64 m.f4, .int .i64 m.f5, .int .i64 m.f6, .slice A m.f7.length c] 28)).cell? ⟨w.heap.size, 3, none⟩ = some (.int .i64 m.f3) := blk_cell (x_alloc_new w _) 3
  have hne1 : g ≠ w.heap.size := by have : g < w.heap.size := hlt; omega
  have hne2 : w.heap.size ≠ g := hne1.symm
  have HP := Aside0.mk (primary_calls x m.f3 (w.alloc (.cells #[.int .i64 m.f0, .int .i64 m.f1, .int .i64 m.f2, .int .i64 m.f3, .int .i64 m.f4, .int .i64 m.f5, .int .i64 m.f6, .slice A m.f7.length c] 28)) g (blk_cell hb 0) (blk_cell hb 1) hmv hg.n1)
  rw [hp] at HP
  clear hp
  clear hb h hlt hg hk hf hf2 hmv hvl hc hl hM
  go_enter Try.func25, Try.ntmps25
  go_wp2_with (first | (go_at_call 47; refine HP.out.mono ?_; rintro e w' ⟨rfl, ⟨nd, rfl⟩⟩))
  refine bodyPost_ret (results_none rfl _ _ _) rfl ?_
  exact ⟨rfl, HN.out.unbox (HD.out.drewN _)⟩
end Go.Proofs.Ytfpfpckocemmdaa.P
end
section
namespace Go.Proofs.Ytfpfpckocemmdaa.P
open Go.RowKit Go.Proofs.YtfpfpckocemmdaaW.PrintWords Go.Proofs.YtfpfpckocemmdaaW.PrintLast Go.Proofs.YtfpfpckocemmdaaW.PrintMore
set_option linter.unusedVariables false
set_option linter.unusedSimpArgs false
def withinB (a m : Int) : Bool := decide (0 ≤ a) && decide (a ≤ m)
theorem within_of (a m : Int) : replica_within.f a m = some (withinB a m) := by
  unfold replica_within.f withinB
  split
  · rename_i h; rw [decide_eq_true (show 0 ≤ a from h)]; rfl
  · rename_i h; rw [decide_eq_false (show ¬ 0 ≤ a from h)]; rfl
theorem mwithin_of (a m : Int) : msg_within.f a m = some (withinB a m) := by
  unfold msg_within.f withinB
  split
  · rename_i h; rw [decide_eq_true (show 0 ≤ a from h)]; rfl
  · rename_i h; rw [decide_eq_false (show ¬ 0 ≤ a from h)]; rfl
def longB (s : ByteArray) : Bool := decide ((s.size : Int) > 300)
theorem index_go (l : List ByteArray) (hl : l.length ≤ 1000) : ∀ (j i k : Nat), i + j = l.length → j < k →
    ∃ r, slices_IndexFunc_string_string_msg_logged_1.l0 k l (l.length : Int) (i : Int) = some r ∧ decide (r ≥ 0) = (l.drop i).any longB := by
  intro j
  induction j with
  | zero =>
    intro i k hi hk
    obtain ⟨k, rfl⟩ : ∃ k', k = k' + 1 := ⟨k - 1, by omega⟩
    refine ⟨-1, ?_, ?_⟩
    · unfold slices_IndexFunc_string_string_msg_logged_1.l0
      rw [if_neg (by omega)]
    · rw [List.drop_eq_nil_of_le (by omega)]; rfl
  | succ j ih =>
    intro i k hi hk
    obtain ⟨k, rfl⟩ : ∃ k', k = k' + 1 := ⟨k - 1, by omega⟩
    have hlt : i < l.length := by omega
    have hrd : rdOf ByteArray.empty l (i : Int) = l[i] := by simp [rdOf, List.getD_eq_getElem?_getD, List.getElem?_eq_getElem hlt]
    have hwr : wrap64 ((i : Int) + 1) = ((i + 1 : Nat) : Int) := by unfold wrap64; omega
    have hd : l.drop i = l[i] :: l.drop (i + 1) := List.drop_eq_getElem_cons hlt
    have hm : msg_logged_1.f l[i] = some (longB l[i]) := rfl
    have hu : slices_IndexFunc_string_string_msg_logged_1.l0 (k + 1) l (l.length : Int) (i : Int) = if longB l[i] = true then some (i : Int) else slices_IndexFunc_string_string_msg_logged_1.l0 k l (l.length : Int) ((i + 1 : Nat) : Int) := by
      rw [slices_IndexFunc_string_string_msg_logged_1.l0, if_pos (by omega), if_pos (by omega), if_pos (by omega), hrd, hm, hwr]
      rfl
    rw [hu, hd, List.any_cons]
    cases hb : longB l[i] with
    | true => exact ⟨(i : Int), by simp, by simp⟩
    | false =>
      obtain ⟨r, h1, h2⟩ := ih (i + 1) k (by omega) (by omega)
      exact ⟨r, by simpa using h1, by simpa using h2⟩
def loggedB (l : List ByteArray) (c : Int) : Bool := decide ((l.length : Int) ≤ 60) && (withinB c (l.length : Int) && !l.any longB)
theorem mlogged_of (k : Nat) (hk : 100 ≤ k) (l : List ByteArray) (c : Int) : msg_logged.f k l c = some (loggedB l c) := by
  unfold msg_logged.f loggedB
  split
  · rename_i h
    rw [decide_eq_true h, mwithin_of]
    simp only [Option.bind_some, Bool.true_and]
    cases hw : withinB c (l.length : Int) with
    | false => rfl
    | true =>
      obtain ⟨r, h1, h2⟩ := index_go l (by omega) l.length 0 k (by omega) (by omega)
      have h3 : slices_IndexFunc_string_string_msg_logged_1.f k l = some r := h1
      unfold slices_ContainsFunc_string_string_msg_logged_1.f
      rw [h3]
      have h4 : decide (r ≥ 0) = l.any longB := by simpa using h2
      simp only [Option.bind_some, if_true, Bool.true_and, h4]
  · rename_i h
    rw [decide_eq_false h]; rfl
def msgB (m : S28) : Bool :=
  if withinB m.f1 6 && withinB m.f2 6 && withinB m.f3 1000000 then
    (if m.f0 = 1 then loggedB m.f7 m.f5 && decide (m.f4 = 0) && decide (m.f6 = 0)
    else if m.f0 = 2 then decide (m.f7.length = 0) && decide (m.f5 = 0) && decide (m.f4 = 0) && withinB m.f6 60
    else if m.f0 = 3 then loggedB m.f7 m.f5 && withinB m.f4 m.f3 && decide (m.f6 = 0)
    else false)
  else false
theorem beq0 (a : Int) : (a == 0) = decide (a = 0) := by
  by_cases h : a = 0 <;> simp [h]
theorem msg_of (k : Nat) (hk : 101 ≤ k) (m : S28) : msg_Is.f k m.f0 m.f1 m.f2 m.f3 m.f4 m.f5 m.f6 m.f7 = some (msgB m) := by
  obtain ⟨k, rfl⟩ : ∃ k', k = k' + 1 := ⟨k - 1, by omega⟩
  have hj0 : ∀ b, msg_Is.j0 (k + 1) b m.f0 m.f1 m.f2 m.f3 m.f4 m.f5 m.f6 m.f7 = some (if b = true then false else
    (if m.f0 = 1 then loggedB m.f7 m.f5 && decide (m.f4 = 0) && decide (m.f6 = 0)
    else if m.f0 = 2 then decide (m.f7.length = 0) && decide (m.f5 = 0) && decide (m.f4 = 0) && withinB m.f6 60
    else if m.f0 = 3 then loggedB m.f7 m.f5 && withinB m.f4 m.f3 && decide (m.f6 = 0)
    else false)) := by
    intro b
    simp only [msg_Is.j0, mlogged_of k (by omega), mwithin_of, Option.bind_some, beq0]
    cases b with
    | true => rfl
    | false =>
      simp only [Bool.false_eq_true, if_false]
      by_cases h1 : m.f0 = 1
      · simp only [if_pos h1]
        cases loggedB m.f7 m.f5 with
        | false => simp
        | true => by_cases h4 : m.f4 = 0 <;> simp [h4]
      · simp only [if_neg h1]
        by_cases h2 : m.f0 = 2
        · simp only [if_pos h2]
          by_cases h7 : m.f7.length = 0
          · by_cases h5 : m.f5 = 0
            · by_cases h4 : m.f4 = 0 <;> simp [h7, h5, h4]
            · simp [h7, h5]
          · simp [h7]
        · simp only [if_neg h2]
          by_cases h3 : m.f0 = 3
          · simp only [if_pos h3]
            cases loggedB m.f7 m.f5 with
            | false => simp
            | true => cases withinB m.f4 m.f3 <;> simp
          · simp only [if_neg h3]
  unfold msg_Is.f msgB
  rw [mwithin_of, mwithin_of, mwithin_of]
  simp only [Option.bind_some, hj0]
  cases withinB m.f1 6 with
  | false => simp
  | true =>
    cases withinB m.f2 6 with
    | false => simp
    | true => cases withinB m.f3 1000000 <;> simp
theorem logged_of (k : Nat) (hk : 101 ≤ k) (l : List ByteArray) (c : Int) (hl : l.length < 4398046511104) : replica_logged.f k l c = some (loggedB l c) := by
  unfold replica_logged.f
  rw [prepare_of 0 0 0 c l hl]
  have h := msg_of k hk ⟨1, 0, 0, 0, 0, c, 0, l⟩
  have e : msgB ⟨1, 0, 0, 0, 0, c, 0, l⟩ = loggedB l c := by
    unfold msgB
    have h6 : (withinB 0 6 && withinB 0 6 && withinB 0 1000000) = true := by decide
    rw [if_pos h6, if_pos rfl]
    simp
  rw [e] at h
  simp only [Option.bind_some]
  exact congrArg (fun o => o.bind fun t146 => some t146) h
def sizeB (n : Int) : Bool := decide (n = 1) || decide (n = 3) || decide (n = 5) || decide (n = 7)
theorem size_of (n : Int) : replica_size.f n = some (sizeB n) := by
  unfold replica_size.f sizeB
  split
  · rename_i h; subst h; rfl
  · split
    · rename_i h; subst h; rfl
    · split
      · rename_i h; subst h; rfl
      · rename_i h1 h3 h5
        have h7 : (n == 7) = decide (n = 7) := by by_cases h : n = 7 <;> simp [h]
        simp [h1, h3, h5, h7]
def viewsB (x : Nod) : Bool := withinB x.view 1000000 && withinB x.last x.view && (!x.works || decide (x.last = x.view))
def votesB (n view : Int) : List S66 → List Int → Bool
  | [], _ => true
  | v :: l, seen => if seen.contains v.f0 || !withinB v.f0 (n - 1) || !withinB v.f1 view || !loggedB v.f3 v.f2 then false else votesB n view l (v.f0 :: seen)
def frontB (x : Nod) : Bool := sizeB x.n && withinB x.id (x.n - 1) && viewsB x && loggedB x.log x.commit && decide ((x.acks.length : Int) = x.n) && decide ((x.votes.length : Int) ≤ x.n)
def isB (x : Nod) : Bool := frontB x && x.acks.all (fun a => withinB a (x.log.length : Int)) && votesB x.n x.view x.votes []
end Go.Proofs.Ytfpfpckocemmdaa.P
end
