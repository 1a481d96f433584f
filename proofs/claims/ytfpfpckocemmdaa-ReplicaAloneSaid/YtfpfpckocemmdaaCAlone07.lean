/- Part 7 of the walk. -/
import Derived.Test.YtfpfpckocemmdaaCAlone06
section
namespace Go.Proofs.Ytfpfpckocemmdaa.P
open Go.RowKit Go.Proofs.YtfpfpckocemmdaaW.PrintWords Go.Proofs.YtfpfpckocemmdaaW.PrintLast Go.Proofs.YtfpfpckocemmdaaW.PrintMore
attribute [local go_sem] max2_int min2_int max_two min_two max_three min_three max_four min_four   -- for this text's walks alone
set_option linter.unusedVariables false
set_option linter.unusedSimpArgs false
mutual
def sextonlaw24_ReplicaAlone.j0 : Nat → List ByteArray → Int → Bool → Int → Int → Int → Int → Bool → Int → List ByteArray → List Int → List (S66) → Option (Bool)
  | 0, _, _, _, _, _, _, _, _, _, _, _, _ => none
  | k + 1, x0, x1, x32, x247000, x247001, x247002, x247003, x247004, x247005, x247006, x247007, x247008 => if x32 = true then ((sextonlaw24_worked.f).bind fun t247 => (some t247)) else (sextonlaw24_ReplicaAlone.l0 k x0 x1 0 x247000 x247001 x247002 x247003 x247004 x247005 x247006 x247007 x247008)
def sextonlaw24_ReplicaAlone.l0 : Nat → List ByteArray → Int → Int → Int → Int → Int → Int → Bool → Int → List ByteArray → List Int → List (S66) → Option (Bool)
  | 0, _, _, _, _, _, _, _, _, _, _, _, _ => none
  | k + 1, x0, x1, x7, x247000, x247001, x247002, x247003, x247004, x247005, x247006, x247007, x247008 => if x7 < (x0.length : Int) then (sextonlaw24_ReplicaAlone.j2 k x0 x1 x7 true x247000 x247001 x247002 x247003 x247004 x247005 x247006 x247007 x247008) else (sextonlaw24_ReplicaAlone.j2 k x0 x1 x7 (decide (x7 < x1)) x247000 x247001 x247002 x247003 x247004 x247005 x247006 x247007 x247008)
def sextonlaw24_ReplicaAlone.j2 : Nat → List ByteArray → Int → Int → Bool → Int → Int → Int → Int → Bool → Int → List ByteArray → List Int → List (S66) → Option (Bool)
  | 0, _, _, _, _, _, _, _, _, _, _, _, _, _ => none
  | k + 1, x0, x1, x7, x42, x247000, x247001, x247002, x247003, x247004, x247005, x247006, x247007, x247008 => if x42 = true then (if x7 < x1 then ((replica_Timeout.f x247000 x247001 x247002 x247003 x247004 x247005 x247006 x247007 x247008).bind fun bt250 => (if bt250.2.2.2.2.2.2.2.2.2.2 = 0 then (if (bt250.2.2.2.2.2.2.2.2.2.1.length : Int) > 0 then (some false) else (if bt250.2.2.2.2.1 = true then (if bt250.2.2.1 = (wrap64 (x247002 + 1)) then (if bt250.2.2.2.2.2.1 = x247005 then (sextonlaw24_ReplicaAlone.j3 k x0 x1 x7 bt250.1 bt250.2.1 bt250.2.2.1 bt250.2.2.2.1 bt250.2.2.2.2.1 bt250.2.2.2.2.2.1 bt250.2.2.2.2.2.2.1 bt250.2.2.2.2.2.2.2.1 bt250.2.2.2.2.2.2.2.2.1) else (some false)) else (some false)) else (some false))) else (some false))) else (sextonlaw24_ReplicaAlone.j3 k x0 x1 x7 x247000 x247001 x247002 x247003 x247004 x247005 x247006 x247007 x247008)) else ((sextonlaw24_worked.f).bind fun t248 => (if t248 = true then (if x247002 = x1 then ((sextonref01_Texts.f k x247006 x0).bind fun t249 => (some t249)) else (some false)) else (some false)))
def sextonlaw24_ReplicaAlone.j3 : Nat → List ByteArray → Int → Int → Int → Int → Int → Int → Bool → Int → List ByteArray → List Int → List (S66) → Option (Bool)
  | 0, _, _, _, _, _, _, _, _, _, _, _, _ => none
  | k + 1, x0, x1, x7, x247000, x247001, x247002, x247003, x247004, x247005, x247006, x247007, x247008 => if x7 < (x0.length : Int) then (if 0 ≤ x7 then (if ((rdOf ByteArray.empty x0 x7).size : Int) > 300 then ((sextonlaw24_worked.f).bind fun t271 => (some t271)) else ((replica_Ask.f x247000 x247001 x247002 x247003 x247004 x247005 x247006 x247007 x247008 (rdOf ByteArray.empty x0 x7)).bind fun bt273 => (if bt273.2.2.2.2.2.2.2.2.2.2 = 0 then (if (bt273.2.2.2.2.2.2.2.2.2.1.length : Int) > 0 then (some false) else (if bt273.2.2.2.2.2.1 = (wrap64 (x7 + 1)) then (if (bt273.2.2.2.2.2.2.1.length : Int) = (wrap64 (x7 + 1)) then (if x7 < (bt273.2.2.2.2.2.2.1.length : Int) then (if (rdOf ByteArray.empty bt273.2.2.2.2.2.2.1 x7).toList = (rdOf ByteArray.empty x0 x7).toList then (sextonlaw24_ReplicaAlone.l0 k x0 x1 (wrap64 (x7 + 1)) bt273.1 bt273.2.1 bt273.2.2.1 bt273.2.2.2.1 bt273.2.2.2.2.1 bt273.2.2.2.2.2.1 bt273.2.2.2.2.2.2.1 bt273.2.2.2.2.2.2.2.1 bt273.2.2.2.2.2.2.2.2.1) else (some false)) else (none)) else (some false)) else (some false))) else (some false)))) else (none)) else (sextonlaw24_ReplicaAlone.l0 k x0 x1 (wrap64 (x7 + 1)) x247000 x247001 x247002 x247003 x247004 x247005 x247006 x247007 x247008)
end
def sextonlaw24_ReplicaAlone.f (k : Nat) (l0 : List ByteArray) (a1 : Int) : Option (Bool) := (replica_New.f 0 1).bind fun bt230 => (if bt230.2.2.2.2.2.2.2.2.2 = 0 then (if (l0.length : Int) > 60 then (sextonlaw24_ReplicaAlone.j0 k l0 a1 true bt230.1 bt230.2.1 bt230.2.2.1 bt230.2.2.2.1 bt230.2.2.2.2.1 bt230.2.2.2.2.2.1 bt230.2.2.2.2.2.2.1 bt230.2.2.2.2.2.2.2.1 bt230.2.2.2.2.2.2.2.2.1) else (if a1 < 0 then (sextonlaw24_ReplicaAlone.j0 k l0 a1 true bt230.1 bt230.2.1 bt230.2.2.1 bt230.2.2.2.1 bt230.2.2.2.2.1 bt230.2.2.2.2.2.1 bt230.2.2.2.2.2.2.1 bt230.2.2.2.2.2.2.2.1 bt230.2.2.2.2.2.2.2.2.1) else (sextonlaw24_ReplicaAlone.j0 k l0 a1 (decide (a1 > 60)) bt230.1 bt230.2.1 bt230.2.2.1 bt230.2.2.2.1 bt230.2.2.2.2.1 bt230.2.2.2.2.2.1 bt230.2.2.2.2.2.2.1 bt230.2.2.2.2.2.2.2.1 bt230.2.2.2.2.2.2.2.2.1))) else (sextonlaw24_ReplicaAlone.j0 k l0 a1 true bt230.1 bt230.2.1 bt230.2.2.1 bt230.2.2.2.1 bt230.2.2.2.2.1 bt230.2.2.2.2.2.1 bt230.2.2.2.2.2.2.1 bt230.2.2.2.2.2.2.2.1 bt230.2.2.2.2.2.2.2.2.1))
def sextonlaw24_ReplicaAlone.T15 : Bool × List (List Nat × List Nat) := (true, [([], []), ([], []), ([], []), ([1, 2], [1, 2]), ([3], [3]), ([0, 4], [0, 4]), ([5], [5]), ([6], [6]), ([6], [6]), ([6], [6]), ([], []), ([10, 7, 5, 0, 1, 2, 3, 4, 5, 6, 7, 10], [7, 10]), ([8, 11, 0, 1, 2, 3, 4, 5, 6, 7, 8, 10, 11], [8]), ([9, 12, 0, 1, 2, 3, 4, 5, 6, 7, 8, 9, 10, 11, 12], [9])])
def sextonlaw24_ReplicaAlone.B15 : List Nat := [0, 0, 0, 6, 14, 31, 63, 127, 127, 127, 0, 1279, 3583, 8191]
theorem sextonlaw24_ReplicaAlone.tab15 : rtab .any (opsOf Try.f4 15) = sextonlaw24_ReplicaAlone.T15 := by kernel_rfl
theorem sextonlaw24_ReplicaAlone.bits15 : waitsOk sextonlaw24_ReplicaAlone.T15.2 sextonlaw24_ReplicaAlone.B15 = true := by kernel_rfl
def sextonlaw24_ReplicaAlone.T16 : Bool × List (List Nat × List Nat) := (true, [([], []), ([0], [0]), ([1], [1]), ([2], [2]), ([3, 2], [2, 3]), ([4, 2], [2, 4]), ([2, 5], [2, 5]), ([6, 2], [6]), ([7], [7]), ([8, 7], [7, 8]), ([7], [7]), ([10, 7], [7, 10]), ([9, 11, 7], [7, 9, 11]), ([7, 12], [7, 12]), ([13, 7], [13]), ([14], [14]), ([15, 14], [14, 15]), ([16, 14], [14, 16]), ([14], [14]), ([18, 14], [14, 18]), ([17, 19, 14], [14, 17, 19]), ([14, 20], [14, 20]), ([21, 14], [21]), ([22], [22]), ([23, 22], [22, 23]), ([22], [22]), ([24, 25, 22], [22, 24, 25]), ([26, 22], [22, 26]), ([22], [22]), ([22], [22]), ([28, 29, 22], [22, 28, 29]), ([30, 22], [22, 30]), ([27, 31, 22], [22, 27, 31]), ([22, 32], [22, 32])])
def sextonlaw24_ReplicaAlone.B16 : List Nat := [0, 1, 3, 7, 15, 31, 63, 127, 255, 511, 255, 1279, 4095, 8191, 16383, 32767, 65535, 131071, 32767, 294911, 1048575, 2097151, 4194303, 8388607, 16777215, 8388607, 67108863, 134217727, 8388607, 8388607, 813694975, 1887436799, 4294967295, 8589934591]
theorem sextonlaw24_ReplicaAlone.tab16 : rtab .any (opsOf Try.f4 16) = sextonlaw24_ReplicaAlone.T16 := by kernel_rfl
theorem sextonlaw24_ReplicaAlone.bits16 : waitsOk sextonlaw24_ReplicaAlone.T16.2 sextonlaw24_ReplicaAlone.B16 = true := by kernel_rfl
set_option maxHeartbeats 8000000 in
set_option maxRecDepth 100000 in
theorem sextonlaw24_ReplicaAlone.calls (k : Nat) (A0 : Option Addr) (c0 : Nat) (l0 : List ByteArray) (a1 : Int) (r : Bool) (w : World) (hr0 : Kd.C Kd.string w A0 l0.length l0) (hc0 : l0.length ≤ c0) (h : sextonlaw24_ReplicaAlone.f k l0 a1 = some r) (ht : r = true) :
    Calls Try.prog 4 #[.slice A0 l0.length c0, .int .i64 a1] w fun e w' => e = .returned (.bool r) ∧ Below w.heap.size w w' := by
  have hu26 := Try.underlying26
  have HT := Aside0.mk ht
  clear ht
  have HR0 := Aside0.mk hr0
  have HC0 := Aside0.mk hc0
  clear hr0 hc0
  have HB := Aside0.mk (Below.refl w.heap.size w)
  have H : ((replica_New.f 0 1).bind fun bt230 => (if bt230.2.2.2.2.2.2.2.2.2 = 0 then (if (l0.length : Int) > 60 then (sextonlaw24_ReplicaAlone.j0 k l0 a1 true bt230.1 bt230.2.1 bt230.2.2.1 bt230.2.2.2.1 bt230.2.2.2.2.1 bt230.2.2.2.2.2.1 bt230.2.2.2.2.2.2.1 bt230.2.2.2.2.2.2.2.1 bt230.2.2.2.2.2.2.2.2.1) else (if a1 < 0 then (sextonlaw24_ReplicaAlone.j0 k l0 a1 true bt230.1 bt230.2.1 bt230.2.2.1 bt230.2.2.2.1 bt230.2.2.2.2.1 bt230.2.2.2.2.2.1 bt230.2.2.2.2.2.2.1 bt230.2.2.2.2.2.2.2.1 bt230.2.2.2.2.2.2.2.2.1) else (sextonlaw24_ReplicaAlone.j0 k l0 a1 (decide (a1 > 60)) bt230.1 bt230.2.1 bt230.2.2.1 bt230.2.2.2.1 bt230.2.2.2.2.1 bt230.2.2.2.2.2.1 bt230.2.2.2.2.2.2.1 bt230.2.2.2.2.2.2.2.1 bt230.2.2.2.2.2.2.2.2.1))) else (sextonlaw24_ReplicaAlone.j0 k l0 a1 true bt230.1 bt230.2.1 bt230.2.2.1 bt230.2.2.2.1 bt230.2.2.2.2.1 bt230.2.2.2.2.2.1 bt230.2.2.2.2.2.2.1 bt230.2.2.2.2.2.2.2.1 bt230.2.2.2.2.2.2.2.2.1))) = some r := h
  clear h
  replace H := Option.bind_eq_some_iff.mp H
  obtain ⟨⟨t230, t231, t232, t233, t234, t235, t236, t239, t242, t245⟩, A30, H⟩ := H
  replace H : (if t245 = 0 then (if (l0.length : Int) > 60 then (sextonlaw24_ReplicaAlone.j0 k l0 a1 true t230 t231 t232 t233 t234 t235 t236 t239 t242) else (if a1 < 0 then (sextonlaw24_ReplicaAlone.j0 k l0 a1 true t230 t231 t232 t233 t234 t235 t236 t239 t242) else (sextonlaw24_ReplicaAlone.j0 k l0 a1 (decide (a1 > 60)) t230 t231 t232 t233 t234 t235 t236 t239 t242))) else (sextonlaw24_ReplicaAlone.j0 k l0 a1 true t230 t231 t232 t233 t234 t235 t236 t239 t242)) = some r := H
  have A3 := Aside0.mk A30
  clear A30
  have HC4 := Aside0.mk H
  clear H
  go_enter Try.func4, Try.ntmps4
  go_upto_region 2 with (first | ((with_reducible refine gate_callee (f := 11) rfl ?_); refine goesL_ (some 15) rfl rfl Try.func11 (by kernel_rfl) rfl #[.int .i64 0, .int .i64 1] rfl (by (try simp only [List.map_toArray, List.map_cons, List.map_nil]); first | done | rfl | (simp only [List.length_drop, List.length_take]; rfl)) ?_; (with_reducible refine (replica_New.calls 0 1 t230 t231 t232 t233 t234 t235 t236 t239 t242 t245 _ A3.out).mono ?_); rintro e w5 ⟨v237, v240, v243, rfl, ho0, ho1, ho2, hb⟩; refine ⟨_, rfl, ?_⟩; have n0_ := Aside0.mk (Kd.R_lower ho0 (below_size (by repeat (first | (with_reducible first | exact HB.out | apply below_alloc | apply pw_below_drewN | apply below_drew1) | exact HB.out)))); have n1_ := Aside0.mk (Kd.R_lower ho1 (below_size (by repeat (first | (with_reducible first | exact HB.out | apply below_alloc | apply pw_below_drewN | apply below_drew1) | exact HB.out)))); have n2_ := Aside0.mk (Kd.S_lower ho2 (below_size (by repeat (first | (with_reducible first | exact HB.out | apply below_alloc | apply pw_below_drewN | apply below_drew1) | exact HB.out)))); have n3_ := Aside0.mk (below_step (by repeat (first | (with_reducible first | exact HB.out | apply below_alloc | apply pw_below_drewN | apply below_drew1) | exact HB.out)) hb); clear HB; have HO238 := n0_; have HO241 := n1_; have HO244 := n2_; have HB := n3_; clear n0_ n1_ n2_ n3_; (try clear hb); (try clear hb2); (try clear hk); (try clear hi); (try clear ho0); (try clear ho1); (try clear ho2)) | ((with_reducible refine gate_dst (N := 5) rfl ?_); (try (refine gate_guard (by rfl) ?_; dsimp only)); refine box_event ?hg (N := 5) ?hd (cs := #[.int .i64 0, .int .i64 0, .int .i64 0, .int .i64 0, .bool false, .int .i64 0, .slice none 0 0, .slice none 0 0, .slice none 0 0]) (t := 26) ?hr ?_; (case hd => rfl); (case hg => rfl); (case hr => first | (go_simp; done) | (go_simp; rfl)); intro gb246 hg w6 hbox hb; have n0_ := Aside0.mk (Kd.R_below (by (with_reducible repeat (first | apply Kd.R_alloc | apply Kd.R_drewN | apply Kd.R_drew)); exact HO238.out) hb); have n1_ := Aside0.mk (Kd.R_below (by (with_reducible repeat (first | apply Kd.R_alloc | apply Kd.R_drewN | apply Kd.R_drew)); exact HO241.out) hb); have n2_ := Aside0.mk (Kd.S_below (by (with_reducible repeat (first | apply Kd.S_alloc | apply Kd.S_drewN | apply Kd.S_drew)); exact HO244.out) hb); have n3_ := Aside0.mk (below_step (by repeat (first | (with_reducible first | exact HB.out | apply below_alloc | apply pw_below_drewN | apply below_drew1) | exact HB.out)) hb); have n4_ := Aside0.mk (hbox); have n5_ := Aside0.mk ((by rw [hg]; exact (below_size (by repeat (first | (with_reducible first | exact HB.out | apply below_alloc | apply pw_below_drewN | apply below_drew1) | exact HB.out))) : w.heap.size ≤ gb246)); have n6_ := Aside0.mk ((by rw [hg]; exact (below_size (by repeat (first | (with_reducible first | exact HB.out | apply below_alloc | apply pw_below_drewN | apply below_drew1) | exact HB.out))) : w.heap.size ≤ gb246)); clear HO238; clear HO241; clear HO244; clear HB; have HO238 := n0_; have HO241 := n1_; have HO244 := n2_; have HB := n3_; have BK246 := n4_; have GW246 := n5_; have GE246 := n6_; clear n0_ n1_ n2_ n3_ n4_ n5_ n6_; clear hb hbox hg; have hcz7_0 : w6.cell? ⟨gb246, 0, none⟩ = some (.int .i64 0) := (blk_cell BK246.out 0).trans rfl; have hcz7_1 : w6.cell? ⟨gb246, 1, none⟩ = some (.int .i64 0) := (blk_cell BK246.out 1).trans rfl; have hcz7_2 : w6.cell? ⟨gb246, 2, none⟩ = some (.int .i64 0) := (blk_cell BK246.out 2).trans rfl; have hcz7_3 : w6.cell? ⟨gb246, 3, none⟩ = some (.int .i64 0) := (blk_cell BK246.out 3).trans rfl; have hcz7_4 : w6.cell? ⟨gb246, 4, none⟩ = some (.bool false) := (blk_cell BK246.out 4).trans rfl; have hcz7_5 : w6.cell? ⟨gb246, 5, none⟩ = some (.int .i64 0) := (blk_cell BK246.out 5).trans rfl; have hcz7_6 : w6.cell? ⟨gb246, 6, none⟩ = some (.slice none 0 0) := (blk_cell BK246.out 6).trans rfl; have hcz7_7 : w6.cell? ⟨gb246, 7, none⟩ = some (.slice none 0 0) := (blk_cell BK246.out 7).trans rfl; have hcz7_8 : w6.cell? ⟨gb246, 8, none⟩ = some (.slice none 0 0) := (blk_cell BK246.out 8).trans rfl; have hfz7_0 := blk_frozen BK246.out 0; have hfz7_1 := blk_frozen BK246.out 1; have hfz7_2 := blk_frozen BK246.out 2; have hfz7_3 := blk_frozen BK246.out 3; have hfz7_4 := blk_frozen BK246.out 4; have hfz7_5 := blk_frozen BK246.out 5; have hfz7_6 := blk_frozen BK246.out 6; have hfz7_7 := blk_frozen BK246.out 7; have hfz7_8 := blk_frozen BK246.out 8; obtain ⟨Ao8, co8, eo8⟩ := Kd.R_slice HO238.out; subst eo8; obtain ⟨Ao9, co9, eo9⟩ := Kd.R_slice HO241.out; subst eo9; obtain ⟨Ao10, co10, eo10⟩ := Kd.S_slice HO244.out; subst eo10))
  (try simp only [Act.put, List.setIfInBounds_toArray, List.set_cons_zero, List.set_cons_succ])
  go_cut [32] (fun v32 wc => ∃ (kq : Nat) (x32_3 : Bool), v32 = .bool x32_3 ∧ Aside0 (sextonlaw24_ReplicaAlone.j0 kq l0 a1 x32_3 t230 t231 t232 t233 t234 t235 t236 t239 t242 = some r) ∧ Aside0 (kq ≤ k) ∧ Aside0 (Kd.R Kd.string 9 wc w.heap.size (fun _ => True) (.slice Ao8 t236.length co8) t236) ∧ Aside0 (Kd.R (Kd.int .i64) 3 wc w.heap.size (fun _ => True) (.slice Ao9 t239.length co9) t239) ∧ Aside0 (Kd.S k66 66 wc w.heap.size (fun k_ => some k_ ≠ ((.slice Ao8 t236.length co8) : Value).ownBlock) (.slice Ao10 t242.length co10) t242) ∧ Aside0 (wc.heap[gb246]? = some (.cells #[.int .i64 t230, .int .i64 t231, .int .i64 t232, .int .i64 t233, .bool t234, .int .i64 t235, (.slice Ao8 t236.length co8), (.slice Ao9 t239.length co9), (.slice Ao10 t242.length co10)] 26 (0, 0))) ∧ Aside0 (Below w.heap.size w wc))
  case first =>
    have H := HC4.out
    clear HC4
    by_cases c11 : t245 = 0
    · rw [if_pos c11] at H
      have c11b0 : (t245 == 0) = true := beq_iff_eq.mpr c11
      have c11b1 : (t245 != 0) = false := bne_eq_false_iff_eq.mpr c11
      clear c11
      (first | rw [c11b0] | (simp only [i64_w, i32_w]; rw [c11b0]) | skip)
      by_cases c12 : (l0.length : Int) > 60
      · rw [if_pos c12] at H
        have c12b0 : decide (60 < (l0.length : Int)) = true := decide_eq_true c12
        have c12b1 : decide (60 < l0.length) = true := decide_eq_true (by omega)
        clear c12
        have H' := Aside0.mk H
        clear H
        go_wp2
        go_meet
        case rel => exact ⟨_, (true), (by first | rfl | (simp; done) | (simp [*]; done)), H', ⟨by first | omega | exact Nat.le_refl _⟩, ⟨by (with_reducible repeat (first | apply Kd.R_alloc | apply Kd.R_drewN | apply Kd.R_drew)); exact Kd.R_mono (Kd.R_far (p := ⟨gb246, 8, none⟩) (Kd.R_far (p := ⟨gb246, 7, none⟩) (Kd.R_far (p := ⟨gb246, 6, none⟩) (Kd.R_far (p := ⟨gb246, 5, none⟩) (Kd.R_far (p := ⟨gb246, 4, none⟩) (Kd.R_far (p := ⟨gb246, 3, none⟩) (Kd.R_far (p := ⟨gb246, 2, none⟩) (Kd.R_far (p := ⟨gb246, 1, none⟩) (Kd.R_far (p := ⟨gb246, 0, none⟩) (Kd.R_types HO238.out BK246.out (by decide)) (fun _ hk => hk.2) (.int .i64 t230)) (fun _ hk => hk.2) (.int .i64 t231)) (fun _ hk => hk.2) (.int .i64 t232)) (fun _ hk => hk.2) (.int .i64 t233)) (fun _ hk => hk.2) (.bool t234)) (fun _ hk => hk.2) (.int .i64 t235)) (fun _ hk => hk.2) (.slice Ao8 t236.length co8)) (fun _ hk => hk.2) (.slice Ao9 t239.length co9)) (fun _ hk => hk.2) (.slice Ao10 t242.length co10)) (fun _ hk => trivial)⟩, ⟨by (with_reducible repeat (first | apply Kd.R_alloc | apply Kd.R_drewN | apply Kd.R_drew)); exact Kd.R_mono (Kd.R_far (p := ⟨gb246, 8, none⟩) (Kd.R_far (p := ⟨gb246, 7, none⟩) (Kd.R_far (p := ⟨gb246, 6, none⟩) (Kd.R_far (p := ⟨gb246, 5, none⟩) (Kd.R_far (p := ⟨gb246, 4, none⟩) (Kd.R_far (p := ⟨gb246, 3, none⟩) (Kd.R_far (p := ⟨gb246, 2, none⟩) (Kd.R_far (p := ⟨gb246, 1, none⟩) (Kd.R_far (p := ⟨gb246, 0, none⟩) (Kd.R_types HO241.out BK246.out (by decide)) (fun _ hk => hk.2) (.int .i64 t230)) (fun _ hk => hk.2) (.int .i64 t231)) (fun _ hk => hk.2) (.int .i64 t232)) (fun _ hk => hk.2) (.int .i64 t233)) (fun _ hk => hk.2) (.bool t234)) (fun _ hk => hk.2) (.int .i64 t235)) (fun _ hk => hk.2) (.slice Ao8 t236.length co8)) (fun _ hk => hk.2) (.slice Ao9 t239.length co9)) (fun _ hk => hk.2) (.slice Ao10 t242.length co10)) (fun _ hk => trivial)⟩, ⟨by (with_reducible repeat (first | apply Kd.S_alloc | apply Kd.S_drewN | apply Kd.S_drew)); exact Kd.S_mono (Kd.S_far (p := ⟨gb246, 8, none⟩) (Kd.S_far (p := ⟨gb246, 7, none⟩) (Kd.S_far (p := ⟨gb246, 6, none⟩) (Kd.S_far (p := ⟨gb246, 5, none⟩) (Kd.S_far (p := ⟨gb246, 4, none⟩) (Kd.S_far (p := ⟨gb246, 3, none⟩) (Kd.S_far (p := ⟨gb246, 2, none⟩) (Kd.S_far (p := ⟨gb246, 1, none⟩) (Kd.S_far (p := ⟨gb246, 0, none⟩) (Kd.S_types HO244.out BK246.out (by decide)) (fun _ hk => hk.2) (.int .i64 t230)) (fun _ hk => hk.2) (.int .i64 t231)) (fun _ hk => hk.2) (.int .i64 t232)) (fun _ hk => hk.2) (.int .i64 t233)) (fun _ hk => hk.2) (.bool t234)) (fun _ hk => hk.2) (.int .i64 t235)) (fun _ hk => hk.2) (.slice Ao8 t236.length co8)) (fun _ hk => hk.2) (.slice Ao9 t239.length co9)) (fun _ hk => hk.2) (.slice Ao10 t242.length co10)) (fun _ hk => hk.1)⟩, ⟨by (with_reducible repeat (first | refine blk_drewN ?_ _ | refine blk_drew ?_ | refine blk_alloc ?_ _)); refine blk_put (cs := #[.int .i64 t230, .int .i64 t231, .int .i64 t232, .int .i64 t233, .bool t234, .int .i64 t235, .slice Ao8 t236.length co8, .slice Ao9 t239.length co9, .slice none 0 0]) ?_ 8 _ rfl; (with_reducible repeat (first | refine blk_drewN ?_ _ | refine blk_drew ?_ | refine blk_alloc ?_ _)); refine blk_put (cs := #[.int .i64 t230, .int .i64 t231, .int .i64 t232, .int .i64 t233, .bool t234, .int .i64 t235, .slice Ao8 t236.length co8, .slice none 0 0, .slice none 0 0]) ?_ 7 _ rfl; (with_reducible repeat (first | refine blk_drewN ?_ _ | refine blk_drew ?_ | refine blk_alloc ?_ _)); refine blk_put (cs := #[.int .i64 t230, .int .i64 t231, .int .i64 t232, .int .i64 t233, .bool t234, .int .i64 t235, .slice none 0 0, .slice none 0 0, .slice none 0 0]) ?_ 6 _ rfl; (with_reducible repeat (first | refine blk_drewN ?_ _ | refine blk_drew ?_ | refine blk_alloc ?_ _)); refine blk_put (cs := #[.int .i64 t230, .int .i64 t231, .int .i64 t232, .int .i64 t233, .bool t234, .int .i64 0, .slice none 0 0, .slice none 0 0, .slice none 0 0]) ?_ 5 _ rfl; (with_reducible repeat (first | refine blk_drewN ?_ _ | refine blk_drew ?_ | refine blk_alloc ?_ _)); refine blk_put (cs := #[.int .i64 t230, .int .i64 t231, .int .i64 t232, .int .i64 t233, .bool false, .int .i64 0, .slice none 0 0, .slice none 0 0, .slice none 0 0]) ?_ 4 _ rfl; (with_reducible repeat (first | refine blk_drewN ?_ _ | refine blk_drew ?_ | refine blk_alloc ?_ _)); refine blk_put (cs := #[.int .i64 t230, .int .i64 t231, .int .i64 t232, .int .i64 0, .bool false, .int .i64 0, .slice none 0 0, .slice none 0 0, .slice none 0 0]) ?_ 3 _ rfl; (with_reducible repeat (first | refine blk_drewN ?_ _ | refine blk_drew ?_ | refine blk_alloc ?_ _)); refine blk_put (cs := #[.int .i64 t230, .int .i64 t231, .int .i64 0, .int .i64 0, .bool false, .int .i64 0, .slice none 0 0, .slice none 0 0, .slice none 0 0]) ?_ 2 _ rfl; (with_reducible repeat (first | refine blk_drewN ?_ _ | refine blk_drew ?_ | refine blk_alloc ?_ _)); refine blk_put (cs := #[.int .i64 t230, .int .i64 0, .int .i64 0, .int .i64 0, .bool false, .int .i64 0, .slice none 0 0, .slice none 0 0, .slice none 0 0]) ?_ 1 _ rfl; (with_reducible repeat (first | refine blk_drewN ?_ _ | refine blk_drew ?_ | refine blk_alloc ?_ _)); refine blk_put (cs := #[.int .i64 0, .int .i64 0, .int .i64 0, .int .i64 0, .bool false, .int .i64 0, .slice none 0 0, .slice none 0 0, .slice none 0 0]) ?_ 0 _ rfl; (with_reducible repeat (first | refine blk_drewN ?_ _ | refine blk_drew ?_ | refine blk_alloc ?_ _)); exact BK246.out⟩, ⟨by repeat (first | (with_reducible first | exact HB.out | apply below_alloc | apply pw_below_drewN | apply below_drew1 | refine below_set ?_ GE246.out) | exact HB.out)⟩⟩
      · rw [if_neg c12] at H
        have c12b0 : decide (60 < (l0.length : Int)) = false := decide_eq_false c12
        have c12b1 : decide (60 < l0.length) = false := decide_eq_false (by omega)
        clear c12
        by_cases c13 : a1 < 0
        · rw [if_pos c13] at H
          have c13b0 : decide (a1 < 0) = true := decide_eq_true c13
          clear c13
          have H' := Aside0.mk H
          clear H
          go_wp2
          go_meet
          case rel => exact ⟨_, (true), (by first | rfl | (simp; done) | (simp [*]; done)), H', ⟨by first | omega | exact Nat.le_refl _⟩, ⟨by (with_reducible repeat (first | apply Kd.R_alloc | apply Kd.R_drewN | apply Kd.R_drew)); exact Kd.R_mono (Kd.R_far (p := ⟨gb246, 8, none⟩) (Kd.R_far (p := ⟨gb246, 7, none⟩) (Kd.R_far (p := ⟨gb246, 6, none⟩) (Kd.R_far (p := ⟨gb246, 5, none⟩) (Kd.R_far (p := ⟨gb246, 4, none⟩) (Kd.R_far (p := ⟨gb246, 3, none⟩) (Kd.R_far (p := ⟨gb246, 2, none⟩) (Kd.R_far (p := ⟨gb246, 1, none⟩) (Kd.R_far (p := ⟨gb246, 0, none⟩) (Kd.R_types HO238.out BK246.out (by decide)) (fun _ hk => hk.2) (.int .i64 t230)) (fun _ hk => hk.2) (.int .i64 t231)) (fun _ hk => hk.2) (.int .i64 t232)) (fun _ hk => hk.2) (.int .i64 t233)) (fun _ hk => hk.2) (.bool t234)) (fun _ hk => hk.2) (.int .i64 t235)) (fun _ hk => hk.2) (.slice Ao8 t236.length co8)) (fun _ hk => hk.2) (.slice Ao9 t239.length co9)) (fun _ hk => hk.2) (.slice Ao10 t242.length co10)) (fun _ hk => trivial)⟩, ⟨by (with_reducible repeat (first | apply Kd.R_alloc | apply Kd.R_drewN | apply Kd.R_drew)); exact Kd.R_mono (Kd.R_far (p := ⟨gb246, 8, none⟩) (Kd.R_far (p := ⟨gb246, 7, none⟩) (Kd.R_far (p := ⟨gb246, 6, none⟩) (Kd.R_far (p := ⟨gb246, 5, none⟩) (Kd.R_far (p := ⟨gb246, 4, none⟩) (Kd.R_far (p := ⟨gb246, 3, none⟩) (Kd.R_far (p := ⟨gb246, 2, none⟩) (Kd.R_far (p := ⟨gb246, 1, none⟩) (Kd.R_far (p := ⟨gb246, 0, none⟩) (Kd.R_types HO241.out BK246.out (by decide)) (fun _ hk => hk.2) (.int .i64 t230)) (fun _ hk => hk.2) (.int .i64 t231)) (fun _ hk => hk.2) (.int .i64 t232)) (fun _ hk => hk.2) (.int .i64 t233)) (fun _ hk => hk.2) (.bool t234)) (fun _ hk => hk.2) (.int .i64 t235)) (fun _ hk => hk.2) (.slice Ao8 t236.length co8)) (fun _ hk => hk.2) (.slice Ao9 t239.length co9)) (fun _ hk => hk.2) (.slice Ao10 t242.length co10)) (fun _ hk => trivial)⟩, ⟨by (with_reducible repeat (first | apply Kd.S_alloc | apply Kd.S_drewN | apply Kd.S_drew)); exact Kd.S_mono (Kd.S_far (p := ⟨gb246, 8, none⟩) (Kd.S_far (p := ⟨gb246, 7, none⟩) (Kd.S_far (p := ⟨gb246, 6, none⟩) (Kd.S_far (p := ⟨gb246, 5, none⟩) (Kd.S_far (p := ⟨gb246, 4, none⟩) (Kd.S_far (p := ⟨gb246, 3, none⟩) (Kd.S_far (p := ⟨gb246, 2, none⟩) (Kd.S_far (p := ⟨gb246, 1, none⟩) (Kd.S_far (p := ⟨gb246, 0, none⟩) (Kd.S_types HO244.out BK246.out (by decide)) (fun _ hk => hk.2) (.int .i64 t230)) (fun _ hk => hk.2) (.int .i64 t231)) (fun _ hk => hk.2) (.int .i64 t232)) (fun _ hk => hk.2) (.int .i64 t233)) (fun _ hk => hk.2) (.bool t234)) (fun _ hk => hk.2) (.int .i64 t235)) (fun _ hk => hk.2) (.slice Ao8 t236.length co8)) (fun _ hk => hk.2) (.slice Ao9 t239.length co9)) (fun _ hk => hk.2) (.slice Ao10 t242.length co10)) (fun _ hk => hk.1)⟩, ⟨by (with_reducible repeat (first | refine blk_drewN ?_ _ | refine blk_drew ?_ | refine blk_alloc ?_ _)); refine blk_put (cs := #[.int .i64 t230, .int .i64 t231, .int .i64 t232, .int .i64 t233, .bool t234, .int .i64 t235, .slice Ao8 t236.length co8, .slice Ao9 t239.length co9, .slice none 0 0]) ?_ 8 _ rfl; (with_reducible repeat (first | refine blk_drewN ?_ _ | refine blk_drew ?_ | refine blk_alloc ?_ _)); refine blk_put (cs := #[.int .i64 t230, .int .i64 t231, .int .i64 t232, .int .i64 t233, .bool t234, .int .i64 t235, .slice Ao8 t236.length co8, .slice none 0 0, .slice none 0 0]) ?_ 7 _ rfl; (with_reducible repeat (first | refine blk_drewN ?_ _ | refine blk_drew ?_ | refine blk_alloc ?_ _)); refine blk_put (cs := #[.int .i64 t230, .int .i64 t231, .int .i64 t232, .int .i64 t233, .bool t234, .int .i64 t235, .slice none 0 0, .slice none 0 0, .slice none 0 0]) ?_ 6 _ rfl; (with_reducible repeat (first | refine blk_drewN ?_ _ | refine blk_drew ?_ | refine blk_alloc ?_ _)); refine blk_put (cs := #[.int .i64 t230, .int .i64 t231, .int .i64 t232, .int .i64 t233, .bool t234, .int .i64 0, .slice none 0 0, .slice none 0 0, .slice none 0 0]) ?_ 5 _ rfl; (with_reducible repeat (first | refine blk_drewN ?_ _ | refine blk_drew ?_ | refine blk_alloc ?_ _)); refine blk_put (cs := #[.int .i64 t230, .int .i64 t231, .int .i64 t232, .int .i64 t233, .bool false, .int .i64 0, .slice none 0 0, .slice none 0 0, .slice none 0 0]) ?_ 4 _ rfl; (with_reducible repeat (first | refine blk_drewN ?_ _ | refine blk_drew ?_ | refine blk_alloc ?_ _)); refine blk_put (cs := #[.int .i64 t230, .int .i64 t231, .int .i64 t232, .int .i64 0, .bool false, .int .i64 0, .slice none 0 0, .slice none 0 0, .slice none 0 0]) ?_ 3 _ rfl; (with_reducible repeat (first | refine blk_drewN ?_ _ | refine blk_drew ?_ | refine blk_alloc ?_ _)); refine blk_put (cs := #[.int .i64 t230, .int .i64 t231, .int .i64 0, .int .i64 0, .bool false, .int .i64 0, .slice none 0 0, .slice none 0 0, .slice none 0 0]) ?_ 2 _ rfl; (with_reducible repeat (first | refine blk_drewN ?_ _ | refine blk_drew ?_ | refine blk_alloc ?_ _)); refine blk_put (cs := #[.int .i64 t230, .int .i64 0, .int .i64 0, .int .i64 0, .bool false, .int .i64 0, .slice none 0 0, .slice none 0 0, .slice none 0 0]) ?_ 1 _ rfl; (with_reducible repeat (first | refine blk_drewN ?_ _ | refine blk_drew ?_ | refine blk_alloc ?_ _)); refine blk_put (cs := #[.int .i64 0, .int .i64 0, .int .i64 0, .int .i64 0, .bool false, .int .i64 0, .slice none 0 0, .slice none 0 0, .slice none 0 0]) ?_ 0 _ rfl; (with_reducible repeat (first | refine blk_drewN ?_ _ | refine blk_drew ?_ | refine blk_alloc ?_ _)); exact BK246.out⟩, ⟨by repeat (first | (with_reducible first | exact HB.out | apply below_alloc | apply pw_below_drewN | apply below_drew1 | refine below_set ?_ GE246.out) | exact HB.out)⟩⟩
        · rw [if_neg c13] at H
          have c13b0 : decide (a1 < 0) = false := decide_eq_false c13
          clear c13
          have H' := Aside0.mk H
          clear H
          go_wp2
          go_meet
          case rel => exact ⟨_, (decide (a1 > 60)), (by first | rfl | (simp; done) | (simp [*]; done)), H', ⟨by first | omega | exact Nat.le_refl _⟩, ⟨by (with_reducible repeat (first | apply Kd.R_alloc | apply Kd.R_drewN | apply Kd.R_drew)); exact Kd.R_mono (Kd.R_far (p := ⟨gb246, 8, none⟩) (Kd.R_far (p := ⟨gb246, 7, none⟩) (Kd.R_far (p := ⟨gb246, 6, none⟩) (Kd.R_far (p := ⟨gb246, 5, none⟩) (Kd.R_far (p := ⟨gb246, 4, none⟩) (Kd.R_far (p := ⟨gb246, 3, none⟩) (Kd.R_far (p := ⟨gb246, 2, none⟩) (Kd.R_far (p := ⟨gb246, 1, none⟩) (Kd.R_far (p := ⟨gb246, 0, none⟩) (Kd.R_types HO238.out BK246.out (by decide)) (fun _ hk => hk.2) (.int .i64 t230)) (fun _ hk => hk.2) (.int .i64 t231)) (fun _ hk => hk.2) (.int .i64 t232)) (fun _ hk => hk.2) (.int .i64 t233)) (fun _ hk => hk.2) (.bool t234)) (fun _ hk => hk.2) (.int .i64 t235)) (fun _ hk => hk.2) (.slice Ao8 t236.length co8)) (fun _ hk => hk.2) (.slice Ao9 t239.length co9)) (fun _ hk => hk.2) (.slice Ao10 t242.length co10)) (fun _ hk => trivial)⟩, ⟨by (with_reducible repeat (first | apply Kd.R_alloc | apply Kd.R_drewN | apply Kd.R_drew)); exact Kd.R_mono (Kd.R_far (p := ⟨gb246, 8, none⟩) (Kd.R_far (p := ⟨gb246, 7, none⟩) (Kd.R_far (p := ⟨gb246, 6, none⟩) (Kd.R_far (p := ⟨gb246, 5, none⟩) (Kd.R_far (p := ⟨gb246, 4, none⟩) (Kd.R_far (p := ⟨gb246, 3, none⟩) (Kd.R_far (p := ⟨gb246, 2, none⟩) (Kd.R_far (p := ⟨gb246, 1, none⟩) (Kd.R_far (p := ⟨gb246, 0, none⟩) (Kd.R_types HO241.out BK246.out (by decide)) (fun _ hk => hk.2) (.int .i64 t230)) (fun _ hk => hk.2) (.int .i64 t231)) (fun _ hk => hk.2) (.int .i64 t232)) (fun _ hk => hk.2) (.int .i64 t233)) (fun _ hk => hk.2) (.bool t234)) (fun _ hk => hk.2) (.int .i64 t235)) (fun _ hk => hk.2) (.slice Ao8 t236.length co8)) (fun _ hk => hk.2) (.slice Ao9 t239.length co9)) (fun _ hk => hk.2) (.slice Ao10 t242.length co10)) (fun _ hk => trivial)⟩, ⟨by (with_reducible repeat (first | apply Kd.S_alloc | apply Kd.S_drewN | apply Kd.S_drew)); exact Kd.S_mono (Kd.S_far (p := ⟨gb246, 8, none⟩) (Kd.S_far (p := ⟨gb246, 7, none⟩) (Kd.S_far (p := ⟨gb246, 6, none⟩) (Kd.S_far (p := ⟨gb246, 5, none⟩) (Kd.S_far (p := ⟨gb246, 4, none⟩) (Kd.S_far (p := ⟨gb246, 3, none⟩) (Kd.S_far (p := ⟨gb246, 2, none⟩) (Kd.S_far (p := ⟨gb246, 1, none⟩) (Kd.S_far (p := ⟨gb246, 0, none⟩) (Kd.S_types HO244.out BK246.out (by decide)) (fun _ hk => hk.2) (.int .i64 t230)) (fun _ hk => hk.2) (.int .i64 t231)) (fun _ hk => hk.2) (.int .i64 t232)) (fun _ hk => hk.2) (.int .i64 t233)) (fun _ hk => hk.2) (.bool t234)) (fun _ hk => hk.2) (.int .i64 t235)) (fun _ hk => hk.2) (.slice Ao8 t236.length co8)) (fun _ hk => hk.2) (.slice Ao9 t239.length co9)) (fun _ hk => hk.2) (.slice Ao10 t242.length co10)) (fun _ hk => hk.1)⟩, ⟨by (with_reducible repeat (first | refine blk_drewN ?_ _ | refine blk_drew ?_ | refine blk_alloc ?_ _)); refine blk_put (cs := #[.int .i64 t230, .int .i64 t231, .int .i64 t232, .int .i64 t233, .bool t234, .int .i64 t235, .slice Ao8 t236.length co8, .slice Ao9 t239.length co9, .slice none 0 0]) ?_ 8 _ rfl; (with_reducible repeat (first | refine blk_drewN ?_ _ | refine blk_drew ?_ | refine blk_alloc ?_ _)); refine blk_put (cs := #[.int .i64 t230, .int .i64 t231, .int .i64 t232, .int .i64 t233, .bool t234, .int .i64 t235, .slice Ao8 t236.length co8, .slice none 0 0, .slice none 0 0]) ?_ 7 _ rfl; (with_reducible repeat (first | refine blk_drewN ?_ _ | refine blk_drew ?_ | refine blk_alloc ?_ _)); refine blk_put (cs := #[.int .i64 t230, .int .i64 t231, .int .i64 t232, .int .i64 t233, .bool t234, .int .i64 t235, .slice none 0 0, .slice none 0 0, .slice none 0 0]) ?_ 6 _ rfl; (with_reducible repeat (first | refine blk_drewN ?_ _ | refine blk_drew ?_ | refine blk_alloc ?_ _)); refine blk_put (cs := #[.int .i64 t230, .int .i64 t231, .int .i64 t232, .int .i64 t233, .bool t234, .int .i64 0, .slice none 0 0, .slice none 0 0, .slice none 0 0]) ?_ 5 _ rfl; (with_reducible repeat (first | refine blk_drewN ?_ _ | refine blk_drew ?_ | refine blk_alloc ?_ _)); refine blk_put (cs := #[.int .i64 t230, .int .i64 t231, .int .i64 t232, .int .i64 t233, .bool false, .int .i64 0, .slice none 0 0, .slice none 0 0, .slice none 0 0]) ?_ 4 _ rfl; (with_reducible repeat (first | refine blk_drewN ?_ _ | refine blk_drew ?_ | refine blk_alloc ?_ _)); refine blk_put (cs := #[.int .i64 t230, .int .i64 t231, .int .i64 t232, .int .i64 0, .bool false, .int .i64 0, .slice none 0 0, .slice none 0 0, .slice none 0 0]) ?_ 3 _ rfl; (with_reducible repeat (first | refine blk_drewN ?_ _ | refine blk_drew ?_ | refine blk_alloc ?_ _)); refine blk_put (cs := #[.int .i64 t230, .int .i64 t231, .int .i64 0, .int .i64 0, .bool false, .int .i64 0, .slice none 0 0, .slice none 0 0, .slice none 0 0]) ?_ 2 _ rfl; (with_reducible repeat (first | refine blk_drewN ?_ _ | refine blk_drew ?_ | refine blk_alloc ?_ _)); refine blk_put (cs := #[.int .i64 t230, .int .i64 0, .int .i64 0, .int .i64 0, .bool false, .int .i64 0, .slice none 0 0, .slice none 0 0, .slice none 0 0]) ?_ 1 _ rfl; (with_reducible repeat (first | refine blk_drewN ?_ _ | refine blk_drew ?_ | refine blk_alloc ?_ _)); refine blk_put (cs := #[.int .i64 0, .int .i64 0, .int .i64 0, .int .i64 0, .bool false, .int .i64 0, .slice none 0 0, .slice none 0 0, .slice none 0 0]) ?_ 0 _ rfl; (with_reducible repeat (first | refine blk_drewN ?_ _ | refine blk_drew ?_ | refine blk_alloc ?_ _)); exact BK246.out⟩, ⟨by repeat (first | (with_reducible first | exact HB.out | apply below_alloc | apply pw_below_drewN | apply below_drew1 | refine below_set ?_ GE246.out) | exact HB.out)⟩⟩
    · rw [if_neg c11] at H
      have c11b0 : (t245 == 0) = false := beq_eq_false_iff_ne.mpr c11
      have c11b1 : (t245 != 0) = true := bne_iff_ne.mpr c11
      (first | rw [c11b0] | (simp only [i64_w, i32_w]; rw [c11b0]) | skip)
      have H' := Aside0.mk H
      clear H
      go_wp2
      go_meet
      case rel => exact ⟨_, (true), (by first | rfl | (simp; done) | (simp [*]; done)), H', ⟨by first | omega | exact Nat.le_refl _⟩, ⟨by (with_reducible repeat (first | apply Kd.R_alloc | apply Kd.R_drewN | apply Kd.R_drew)); exact Kd.R_mono (Kd.R_far (p := ⟨gb246, 8, none⟩) (Kd.R_far (p := ⟨gb246, 7, none⟩) (Kd.R_far (p := ⟨gb246, 6, none⟩) (Kd.R_far (p := ⟨gb246, 5, none⟩) (Kd.R_far (p := ⟨gb246, 4, none⟩) (Kd.R_far (p := ⟨gb246, 3, none⟩) (Kd.R_far (p := ⟨gb246, 2, none⟩) (Kd.R_far (p := ⟨gb246, 1, none⟩) (Kd.R_far (p := ⟨gb246, 0, none⟩) (Kd.R_types HO238.out BK246.out (by decide)) (fun _ hk => hk.2) (.int .i64 t230)) (fun _ hk => hk.2) (.int .i64 t231)) (fun _ hk => hk.2) (.int .i64 t232)) (fun _ hk => hk.2) (.int .i64 t233)) (fun _ hk => hk.2) (.bool t234)) (fun _ hk => hk.2) (.int .i64 t235)) (fun _ hk => hk.2) (.slice Ao8 t236.length co8)) (fun _ hk => hk.2) (.slice Ao9 t239.length co9)) (fun _ hk => hk.2) (.slice Ao10 t242.length co10)) (fun _ hk => trivial)⟩, ⟨by (with_reducible repeat (first | apply Kd.R_alloc | apply Kd.R_drewN | apply Kd.R_drew)); exact Kd.R_mono (Kd.R_far (p := ⟨gb246, 8, none⟩) (Kd.R_far (p := ⟨gb246, 7, none⟩) (Kd.R_far (p := ⟨gb246, 6, none⟩) (Kd.R_far (p := ⟨gb246, 5, none⟩) (Kd.R_far (p := ⟨gb246, 4, none⟩) (Kd.R_far (p := ⟨gb246, 3, none⟩) (Kd.R_far (p := ⟨gb246, 2, none⟩) (Kd.R_far (p := ⟨gb246, 1, none⟩) (Kd.R_far (p := ⟨gb246, 0, none⟩) (Kd.R_types HO241.out BK246.out (by decide)) (fun _ hk => hk.2) (.int .i64 t230)) (fun _ hk => hk.2) (.int .i64 t231)) (fun _ hk => hk.2) (.int .i64 t232)) (fun _ hk => hk.2) (.int .i64 t233)) (fun _ hk => hk.2) (.bool t234)) (fun _ hk => hk.2) (.int .i64 t235)) (fun _ hk => hk.2) (.slice Ao8 t236.length co8)) (fun _ hk => hk.2) (.slice Ao9 t239.length co9)) (fun _ hk => hk.2) (.slice Ao10 t242.length co10)) (fun _ hk => trivial)⟩, ⟨by (with_reducible repeat (first | apply Kd.S_alloc | apply Kd.S_drewN | apply Kd.S_drew)); exact Kd.S_mono (Kd.S_far (p := ⟨gb246, 8, none⟩) (Kd.S_far (p := ⟨gb246, 7, none⟩) (Kd.S_far (p := ⟨gb246, 6, none⟩) (Kd.S_far (p := ⟨gb246, 5, none⟩) (Kd.S_far (p := ⟨gb246, 4, none⟩) (Kd.S_far (p := ⟨gb246, 3, none⟩) (Kd.S_far (p := ⟨gb246, 2, none⟩) (Kd.S_far (p := ⟨gb246, 1, none⟩) (Kd.S_far (p := ⟨gb246, 0, none⟩) (Kd.S_types HO244.out BK246.out (by decide)) (fun _ hk => hk.2) (.int .i64 t230)) (fun _ hk => hk.2) (.int .i64 t231)) (fun _ hk => hk.2) (.int .i64 t232)) (fun _ hk => hk.2) (.int .i64 t233)) (fun _ hk => hk.2) (.bool t234)) (fun _ hk => hk.2) (.int .i64 t235)) (fun _ hk => hk.2) (.slice Ao8 t236.length co8)) (fun _ hk => hk.2) (.slice Ao9 t239.length co9)) (fun _ hk => hk.2) (.slice Ao10 t242.length co10)) (fun _ hk => hk.1)⟩, ⟨by (with_reducible repeat (first | refine blk_drewN ?_ _ | refine blk_drew ?_ | refine blk_alloc ?_ _)); refine blk_put (cs := #[.int .i64 t230, .int .i64 t231, .int .i64 t232, .int .i64 t233, .bool t234, .int .i64 t235, .slice Ao8 t236.length co8, .slice Ao9 t239.length co9, .slice none 0 0]) ?_ 8 _ rfl; (with_reducible repeat (first | refine blk_drewN ?_ _ | refine blk_drew ?_ | refine blk_alloc ?_ _)); refine blk_put (cs := #[.int .i64 t230, .int .i64 t231, .int .i64 t232, .int .i64 t233, .bool t234, .int .i64 t235, .slice Ao8 t236.length co8, .slice none 0 0, .slice none 0 0]) ?_ 7 _ rfl; (with_reducible repeat (first | refine blk_drewN ?_ _ | refine blk_drew ?_ | refine blk_alloc ?_ _)); refine blk_put (cs := #[.int .i64 t230, .int .i64 t231, .int .i64 t232, .int .i64 t233, .bool t234, .int .i64 t235, .slice none 0 0, .slice none 0 0, .slice none 0 0]) ?_ 6 _ rfl; (with_reducible repeat (first | refine blk_drewN ?_ _ | refine blk_drew ?_ | refine blk_alloc ?_ _)); refine blk_put (cs := #[.int .i64 t230, .int .i64 t231, .int .i64 t232, .int .i64 t233, .bool t234, .int .i64 0, .slice none 0 0, .slice none 0 0, .slice none 0 0]) ?_ 5 _ rfl; (with_reducible repeat (first | refine blk_drewN ?_ _ | refine blk_drew ?_ | refine blk_alloc ?_ _)); refine blk_put (cs := #[.int .i64 t230, .int .i64 t231, .int .i64 t232, .int .i64 t233, .bool false, .int .i64 0, .slice none 0 0, .slice none 0 0, .slice none 0 0]) ?_ 4 _ rfl; (with_reducible repeat (first | refine blk_drewN ?_ _ | refine blk_drew ?_ | refine blk_alloc ?_ _)); refine blk_put (cs := #[.int .i64 t230, .int .i64 t231, .int .i64 t232, .int .i64 0, .bool false, .int .i64 0, .slice none 0 0, .slice none 0 0, .slice none 0 0]) ?_ 3 _ rfl; (with_reducible repeat (first | refine blk_drewN ?_ _ | refine blk_drew ?_ | refine blk_alloc ?_ _)); refine blk_put (cs := #[.int .i64 t230, .int .i64 t231, .int .i64 0, .int .i64 0, .bool false, .int .i64 0, .slice none 0 0, .slice none 0 0, .slice none 0 0]) ?_ 2 _ rfl; (with_reducible repeat (first | refine blk_drewN ?_ _ | refine blk_drew ?_ | refine blk_alloc ?_ _)); refine blk_put (cs := #[.int .i64 t230, .int .i64 0, .int .i64 0, .int .i64 0, .bool false, .int .i64 0, .slice none 0 0, .slice none 0 0, .slice none 0 0]) ?_ 1 _ rfl; (with_reducible repeat (first | refine blk_drewN ?_ _ | refine blk_drew ?_ | refine blk_alloc ?_ _)); refine blk_put (cs := #[.int .i64 0, .int .i64 0, .int .i64 0, .int .i64 0, .bool false, .int .i64 0, .slice none 0 0, .slice none 0 0, .slice none 0 0]) ?_ 0 _ rfl; (with_reducible repeat (first | refine blk_drewN ?_ _ | refine blk_drew ?_ | refine blk_alloc ?_ _)); exact BK246.out⟩, ⟨by repeat (first | (with_reducible first | exact HB.out | apply below_alloc | apply pw_below_drewN | apply below_drew1 | refine below_set ?_ GE246.out) | exact HB.out)⟩⟩
  case rest =>
    clear HC4
    try clear c1
    try clear p2
    try clear c4
    try clear c11
    try clear c11b0
    try clear c11b1
    try clear c12
    try clear c12b0
    try clear c12b1
    try clear c13
    try clear c13b0
    try clear hcz7_0
    try clear hcz7_1
    try clear hcz7_2
    try clear hcz7_3
    try clear hcz7_4
    try clear hcz7_5
    try clear hcz7_6
    try clear hcz7_7
    try clear hcz7_8
    try clear hfz7_0
    try clear hfz7_1
    try clear hfz7_2
    try clear hfz7_3
    try clear hfz7_4
    try clear hfz7_5
    try clear hfz7_6
    try clear hfz7_7
    try clear hfz7_8
    obtain ⟨kq, x32_3, rfl, HA, HJ3, HO_247006, HO_247007, HO_247008, BK246, HB⟩ := hcut
    cases kq with
    | zero => exact absurd HA.out (by simp [sextonlaw24_ReplicaAlone.j0])
    | succ kj3 =>
      have H := HA.out
      clear HA
      simp only [sextonlaw24_ReplicaAlone.j0] at H
      by_cases c14 : x32_3 = true
      · subst c14
        have H1 : ((sextonlaw24_worked.f).bind fun t247 => (some t247)) = some r := by rw [if_pos rfl] at H; exact H
        clear H
        have H := H1
        clear H1
        replace H := Option.bind_eq_some_iff.mp H
        obtain ⟨t247, A150, H⟩ := H
        replace H : (some t247) = some r := H
        have A15 := Aside0.mk A150
        clear A150
        obtain rfl := Option.some.inj H
        go_wp2_with (first | ((with_reducible refine gate_callee (f := 9) rfl ?_); refine goesL_ (some 33) rfl rfl Try.func9 (by kernel_rfl) rfl #[] rfl (by (try simp only [List.map_toArray, List.map_cons, List.map_nil]); first | done | rfl | (simp only [List.length_drop, List.length_take]; rfl)) ?_; (with_reducible refine (sextonlaw24_worked.calls  t247 _ A15.out).mono ?_); rintro e w16 ⟨rfl, hb⟩; refine ⟨_, rfl, ?_⟩; have n0_ := Aside0.mk (Kd.R_below (by (with_reducible repeat (first | apply Kd.R_alloc | apply Kd.R_drewN | apply Kd.R_drew)); exact HO_247006.out) hb); have n1_ := Aside0.mk (Kd.R_below (by (with_reducible repeat (first | apply Kd.R_alloc | apply Kd.R_drewN | apply Kd.R_drew)); exact HO_247007.out) hb); have n2_ := Aside0.mk (Kd.S_below (by (with_reducible repeat (first | apply Kd.S_alloc | apply Kd.S_drewN | apply Kd.S_drew)); exact HO_247008.out) hb); have n3_ := Aside0.mk (blk_below (g := gb246) (o := .cells #[.int .i64 t230, .int .i64 t231, .int .i64 t232, .int .i64 t233, .bool t234, .int .i64 t235, .slice Ao8 t236.length co8, .slice Ao9 t239.length co9, .slice Ao10 t242.length co10] 26 (0, 0)) (by (with_reducible repeat (first | refine blk_drewN ?_ _ | refine blk_drew ?_ | refine blk_alloc ?_ _)); exact BK246.out) hb); have n4_ := Aside0.mk (below_step (by repeat (first | (with_reducible first | exact HB.out | apply below_alloc | apply pw_below_drewN | apply below_drew1 | refine below_set ?_ GE246.out) | exact HB.out)) hb); clear HO_247006; clear HO_247007; clear HO_247008; clear BK246; clear HB; have HO_247006 := n0_; have HO_247007 := n1_; have HO_247008 := n2_; have BK246 := n3_; have HB := n4_; clear n0_ n1_ n2_ n3_ n4_; (try clear hb); (try clear hb2); (try clear hk); (try clear hi)))
        go_ret
        exact ⟨by first | rfl | (simp [errW_none, errW_some] <;> rfl) | (simp [*, errW_none, errW_some] <;> rfl), by repeat (first | (with_reducible first | exact HB.out | apply below_alloc | apply pw_below_drewN | apply below_drew1 | refine below_set ?_ GE246.out) | exact HB.out)⟩
      · replace c14 := Bool.eq_false_iff.mpr c14
        subst c14
        have H1 : (sextonlaw24_ReplicaAlone.l0 kj3 l0 a1 0 t230 t231 t232 t233 t234 t235 t236 t239 t242) = some r := by rw [if_neg (show ¬ (false = true) by decide)] at H; exact H
        clear H
        have H := H1
        clear H1
        have H' := Aside0.mk H
        clear H
        go_wp2
        go_loopg [7] kj3 (fun kq v7 w' => ∃ (x7_2 : Int) (x247000_2 : Int) (x247001_2 : Int) (x247002_2 : Int) (x247003_2 : Int) (x247004_2 : Bool) (x247005_2 : Int) (x247006_2 : List ByteArray) (x247007_2 : List Int) (x247008_2 : List (S66)) (u247006 : Value) (u247007 : Value) (u247008 : Value), v7 = .int .i64 x7_2 ∧ Aside0 (sextonlaw24_ReplicaAlone.l0 kq l0 a1 x7_2 x247000_2 x247001_2 x247002_2 x247003_2 x247004_2 x247005_2 x247006_2 x247007_2 x247008_2 = some r) ∧ Aside0 (kq ≤ kj3) ∧ Aside0 (Kd.R Kd.string 9 w' w.heap.size (fun _ => True) u247006 x247006_2) ∧ Aside0 (Kd.R (Kd.int .i64) 3 w' w.heap.size (fun _ => True) u247007 x247007_2) ∧ Aside0 (Kd.S k66 66 w' w.heap.size (fun k_ => some k_ ≠ (u247006 : Value).ownBlock) u247008 x247008_2) ∧ Aside0 (w'.heap[gb246]? = some (.cells #[.int .i64 x247000_2, .int .i64 x247001_2, .int .i64 x247002_2, .int .i64 x247003_2, .bool x247004_2, .int .i64 x247005_2, u247006, u247007, u247008] 26 (0, 0))) ∧ Aside0 (Below w.heap.size w w'))
        case atStart => exact ⟨(0), (t230), (t231), (t232), (t233), (t234), (t235), (t236), (t239), (t242), (.slice Ao8 t236.length co8), (.slice Ao9 t239.length co9), (.slice Ao10 t242.length co10), (by first | rfl | (simp; done) | (simp [*]; done)), H', ⟨Nat.le_refl _⟩, ⟨by (with_reducible repeat (first | apply Kd.R_alloc | apply Kd.R_drewN | apply Kd.R_drew)); exact HO_247006.out⟩, ⟨by (with_reducible repeat (first | apply Kd.R_alloc | apply Kd.R_drewN | apply Kd.R_drew)); exact HO_247007.out⟩, ⟨by (with_reducible repeat (first | apply Kd.S_alloc | apply Kd.S_drewN | apply Kd.S_drew)); exact HO_247008.out⟩, ⟨by (with_reducible repeat (first | refine blk_drewN ?_ _ | refine blk_drew ?_ | refine blk_alloc ?_ _)); exact BK246.out⟩, ⟨by repeat (first | (with_reducible first | exact HB.out | apply below_alloc | apply pw_below_drewN | apply below_drew1 | refine below_set ?_ GE246.out) | exact HB.out)⟩⟩
        case round =>
          clear H'
          try clear c1
          try clear p2
          try clear c4
          try clear c9
          try clear c11
          try clear c11b0
          try clear c11b1
          try clear c12
          try clear c12b0
          try clear c12b1
          try clear c13
          try clear c13b0
          try clear c14
          try clear hcz7_0
          try clear hcz7_1
          try clear hcz7_2
          try clear hcz7_3
          try clear hcz7_4
          try clear hcz7_5
          try clear hcz7_6
          try clear hcz7_7
          try clear hcz7_8
          try clear hfz7_0
          try clear hfz7_1
          try clear hfz7_2
          try clear hfz7_3
          try clear hfz7_4
          try clear hfz7_5
          try clear hfz7_6
          try clear hfz7_7
          try clear hfz7_8
          try clear p2
          obtain ⟨x7_2, x247000_2, x247001_2, x247002_2, x247003_2, x247004_2, x247005_2, x247006_2, x247007_2, x247008_2, u247006, u247007, u247008, rfl, HA, HK2, HO_247006, HO_247007, HO_247008, BK246, HB⟩ := hrel
          cases gk with
          | zero => exact absurd HA.out (by simp [sextonlaw24_ReplicaAlone.l0])
          | succ k2 =>
            have H := HA.out
            clear HA
            simp only [sextonlaw24_ReplicaAlone.l0] at H
            have HC17 := Aside0.mk H
            clear H
            go_upto_region 5 with (fail)
            go_cut [42] (fun v42 wc => ∃ (kq : Nat) (x42_16 : Bool), v42 = .bool x42_16 ∧ Aside0 (sextonlaw24_ReplicaAlone.j2 kq l0 a1 x7_2 x42_16 x247000_2 x247001_2 x247002_2 x247003_2 x247004_2 x247005_2 x247006_2 x247007_2 x247008_2 = some r) ∧ Aside0 (kq ≤ k2) ∧ Aside0 (Kd.R Kd.string 9 wc w.heap.size (fun _ => True) u247006 x247006_2) ∧ Aside0 (Kd.R (Kd.int .i64) 3 wc w.heap.size (fun _ => True) u247007 x247007_2) ∧ Aside0 (Kd.S k66 66 wc w.heap.size (fun k_ => some k_ ≠ (u247006 : Value).ownBlock) u247008 x247008_2) ∧ Aside0 (wc.heap[gb246]? = some (.cells #[.int .i64 x247000_2, .int .i64 x247001_2, .int .i64 x247002_2, .int .i64 x247003_2, .bool x247004_2, .int .i64 x247005_2, u247006, u247007, u247008] 26 (0, 0))) ∧ Aside0 (Below w.heap.size w wc))
            case first =>
              have H := HC17.out
              clear HC17
              by_cases c18 : x7_2 < (l0.length : Int)
              · rw [if_pos c18] at H
                have c18b0 : decide (x7_2 < (l0.length : Int)) = true := decide_eq_true c18
                clear c18
                (first | rw [c18b0] | (simp only [i64_w, i32_w]; rw [c18b0]) | skip)
                have H' := Aside0.mk H
                clear H
                go_wp2
                go_meet
                case rel => exact ⟨_, (true), (by first | rfl | (simp; done) | (simp [*]; done)), H', ⟨by have := HJ3.out; have := HK2.out; first | omega | exact Nat.le_refl _⟩, ⟨by (with_reducible repeat (first | apply Kd.R_alloc | apply Kd.R_drewN | apply Kd.R_drew)); exact HO_247006.out⟩, ⟨by (with_reducible repeat (first | apply Kd.R_alloc | apply Kd.R_drewN | apply Kd.R_drew)); exact HO_247007.out⟩, ⟨by (with_reducible repeat (first | apply Kd.S_alloc | apply Kd.S_drewN | apply Kd.S_drew)); exact HO_247008.out⟩, ⟨by (with_reducible repeat (first | refine blk_drewN ?_ _ | refine blk_drew ?_ | refine blk_alloc ?_ _)); exact BK246.out⟩, ⟨by repeat (first | (with_reducible first | exact HB.out | apply below_alloc | apply pw_below_drewN | apply below_drew1 | refine below_set ?_ GE246.out) | exact HB.out)⟩⟩
              · rw [if_neg c18] at H
                have c18b0 : decide (x7_2 < (l0.length : Int)) = false := decide_eq_false c18
                clear c18
                (first | rw [c18b0] | (simp only [i64_w, i32_w]; rw [c18b0]) | skip)
                have H' := Aside0.mk H
                clear H
                go_wp2
                go_meet
                case rel => exact ⟨_, (decide (x7_2 < a1)), (by first | rfl | (simp; done) | (simp [*]; done)), H', ⟨by have := HJ3.out; have := HK2.out; first | omega | exact Nat.le_refl _⟩, ⟨by (with_reducible repeat (first | apply Kd.R_alloc | apply Kd.R_drewN | apply Kd.R_drew)); exact HO_247006.out⟩, ⟨by (with_reducible repeat (first | apply Kd.R_alloc | apply Kd.R_drewN | apply Kd.R_drew)); exact HO_247007.out⟩, ⟨by (with_reducible repeat (first | apply Kd.S_alloc | apply Kd.S_drewN | apply Kd.S_drew)); exact HO_247008.out⟩, ⟨by (with_reducible repeat (first | refine blk_drewN ?_ _ | refine blk_drew ?_ | refine blk_alloc ?_ _)); exact BK246.out⟩, ⟨by repeat (first | (with_reducible first | exact HB.out | apply below_alloc | apply pw_below_drewN | apply below_drew1 | refine below_set ?_ GE246.out) | exact HB.out)⟩⟩
            case rest =>
              clear HC17
              try clear c1
              try clear p2
              try clear c4
              try clear c9
              try clear c11
              try clear c11b0
              try clear c11b1
              try clear c12
              try clear c12b0
              try clear c12b1
              try clear c13
              try clear c13b0
              try clear c14
              try clear c18
              try clear c18b0
              try clear hcz7_0
              try clear hcz7_1
              try clear hcz7_2
              try clear hcz7_3
              try clear hcz7_4
              try clear hcz7_5
              try clear hcz7_6
              try clear hcz7_7
              try clear hcz7_8
              try clear hfz7_0
              try clear hfz7_1
              try clear hfz7_2
              try clear hfz7_3
              try clear hfz7_4
              try clear hfz7_5
              try clear hfz7_6
              try clear hfz7_7
              try clear hfz7_8
              try clear p2
              obtain ⟨kq, x42_16, rfl, HA, HJ16, HO_247006, HO_247007, HO_247008, BK246, HB⟩ := hcut
              cases kq with
              | zero => exact absurd HA.out (by simp [sextonlaw24_ReplicaAlone.j2])
              | succ kj16 =>
                have H := HA.out
                clear HA
                simp only [sextonlaw24_ReplicaAlone.j2] at H
                by_cases c19 : x42_16 = true
                · subst c19
                  have H1 : (if x7_2 < a1 then ((replica_Timeout.f x247000_2 x247001_2 x247002_2 x247003_2 x247004_2 x247005_2 x247006_2 x247007_2 x247008_2).bind fun bt250 => (if bt250.2.2.2.2.2.2.2.2.2.2 = 0 then (if (bt250.2.2.2.2.2.2.2.2.2.1.length : Int) > 0 then (some false) else (if bt250.2.2.2.2.1 = true then (if bt250.2.2.1 = (wrap64 (x247002_2 + 1)) then (if bt250.2.2.2.2.2.1 = x247005_2 then (sextonlaw24_ReplicaAlone.j3 kj16 l0 a1 x7_2 bt250.1 bt250.2.1 bt250.2.2.1 bt250.2.2.2.1 bt250.2.2.2.2.1 bt250.2.2.2.2.2.1 bt250.2.2.2.2.2.2.1 bt250.2.2.2.2.2.2.2.1 bt250.2.2.2.2.2.2.2.2.1) else (some false)) else (some false)) else (some false))) else (some false))) else (sextonlaw24_ReplicaAlone.j3 kj16 l0 a1 x7_2 x247000_2 x247001_2 x247002_2 x247003_2 x247004_2 x247005_2 x247006_2 x247007_2 x247008_2)) = some r := by rw [if_pos rfl] at H; exact H
                  clear H
                  have H := H1
                  clear H1
                  have HC20 := Aside0.mk H
                  clear H
                  go_upto_if 47 with (fail)
                  go_cut [] (fun wc => ∃ (kq : Nat) (x247000_19 : Int) (x247001_19 : Int) (x247002_19 : Int) (x247003_19 : Int) (x247004_19 : Bool) (x247005_19 : Int) (x247006_19 : List ByteArray) (x247007_19 : List Int) (x247008_19 : List (S66)) (u247006 : Value) (u247007 : Value) (u247008 : Value), Aside0 (sextonlaw24_ReplicaAlone.j3 kq l0 a1 x7_2 x247000_19 x247001_19 x247002_19 x247003_19 x247004_19 x247005_19 x247006_19 x247007_19 x247008_19 = some r) ∧ Aside0 (kq ≤ kj16) ∧ Aside0 (Kd.R Kd.string 9 wc w.heap.size (fun _ => True) u247006 x247006_19) ∧ Aside0 (Kd.R (Kd.int .i64) 3 wc w.heap.size (fun _ => True) u247007 x247007_19) ∧ Aside0 (Kd.S k66 66 wc w.heap.size (fun k_ => some k_ ≠ (u247006 : Value).ownBlock) u247008 x247008_19) ∧ Aside0 (wc.heap[gb246]? = some (.cells #[.int .i64 x247000_19, .int .i64 x247001_19, .int .i64 x247002_19, .int .i64 x247003_19, .bool x247004_19, .int .i64 x247005_19, u247006, u247007, u247008] 26 (0, 0))) ∧ Aside0 (Below w.heap.size w wc))
                  case first =>
                    have H := HC20.out
                    clear HC20
                    by_cases c21 : x7_2 < a1
                    · rw [if_pos c21] at H
                      have c21b0 : decide (x7_2 < a1) = true := decide_eq_true c21
                      clear c21
                      (first | rw [c21b0] | (simp only [i64_w, i32_w]; rw [c21b0]) | skip)
                      replace H := Option.bind_eq_some_iff.mp H
                      obtain ⟨⟨t250, t251, t252, t253, t254, t255, t256, t259, t262, t265, t268⟩, A220, H⟩ := H
                      replace H : (if t268 = 0 then (if (t265.length : Int) > 0 then (some false) else (if t254 = true then (if t252 = (wrap64 (x247002_2 + 1)) then (if t255 = x247005_2 then (sextonlaw24_ReplicaAlone.j3 kj16 l0 a1 x7_2 t250 t251 t252 t253 t254 t255 t256 t259 t262) else (some false)) else (some false)) else (some false))) else (some false)) = some r := H
                      have A22 := Aside0.mk A220
                      clear A220
                      by_cases c23 : t268 = 0
                      · rw [if_pos c23] at H
                        have c23b0 : (t268 == 0) = true := beq_iff_eq.mpr c23
                        have c23b1 : (t268 != 0) = false := bne_eq_false_iff_eq.mpr c23
                        clear c23
                        by_cases c24 : (t265.length : Int) > 0
                        · rw [if_pos c24] at H
                          have c24b0 : decide (0 < (t265.length : Int)) = true := decide_eq_true c24
                          have c24b1 : decide (0 < t265.length) = true := decide_eq_true (by omega)
                          clear c24
                          exact absurd (H.trans (congrArg some HT.out)) (by simp)
                        · rw [if_neg c24] at H
                          have c24b0 : decide (0 < (t265.length : Int)) = false := decide_eq_false c24
                          have c24b1 : decide (0 < t265.length) = false := decide_eq_false (by omega)
                          clear c24
                          by_cases c25 : t254 = true
                          · subst c25
                            have H1 : (if t252 = (wrap64 (x247002_2 + 1)) then (if t255 = x247005_2 then (sextonlaw24_ReplicaAlone.j3 kj16 l0 a1 x7_2 t250 t251 t252 t253 true t255 t256 t259 t262) else (some false)) else (some false)) = some r := by rw [if_pos rfl] at H; exact H
                            clear H
                            have H := H1
                            clear H1
                            by_cases c26 : t252 = (wrap64 (x247002_2 + 1))
                            · rw [if_pos c26] at H
                              have c26b0 : (t252 == (wrap64 (x247002_2 + 1))) = true := beq_iff_eq.mpr c26
                              have c26b1 : (t252 != (wrap64 (x247002_2 + 1))) = false := bne_eq_false_iff_eq.mpr c26
                              clear c26
                              by_cases c27 : t255 = x247005_2
                              · rw [if_pos c27] at H
                                have c27b0 : (t255 == x247005_2) = true := beq_iff_eq.mpr c27
                                have c27b1 : (t255 != x247005_2) = false := bne_eq_false_iff_eq.mpr c27
                                clear c27
                                have H' := Aside0.mk H
                                clear H
                                have hcz28_0 : wc.cell? ⟨gb246, 0, none⟩ = some (.int .i64 x247000_2) := (blk_cell BK246.out 0).trans rfl
                                have hcz28_1 : wc.cell? ⟨gb246, 1, none⟩ = some (.int .i64 x247001_2) := (blk_cell BK246.out 1).trans rfl
                                have hcz28_2 : wc.cell? ⟨gb246, 2, none⟩ = some (.int .i64 x247002_2) := (blk_cell BK246.out 2).trans rfl
                                have hcz28_3 : wc.cell? ⟨gb246, 3, none⟩ = some (.int .i64 x247003_2) := (blk_cell BK246.out 3).trans rfl
                                have hcz28_4 : wc.cell? ⟨gb246, 4, none⟩ = some (.bool x247004_2) := (blk_cell BK246.out 4).trans rfl
                                have hcz28_5 : wc.cell? ⟨gb246, 5, none⟩ = some (.int .i64 x247005_2) := (blk_cell BK246.out 5).trans rfl
                                have hcz28_6 : wc.cell? ⟨gb246, 6, none⟩ = some (u247006) := (blk_cell BK246.out 6).trans rfl
                                have hcz28_7 : wc.cell? ⟨gb246, 7, none⟩ = some (u247007) := (blk_cell BK246.out 7).trans rfl
                                have hcz28_8 : wc.cell? ⟨gb246, 8, none⟩ = some (u247008) := (blk_cell BK246.out 8).trans rfl
                                have hfz28_0 := blk_frozen BK246.out 0
                                have hfz28_1 := blk_frozen BK246.out 1
                                have hfz28_2 := blk_frozen BK246.out 2
                                have hfz28_3 := blk_frozen BK246.out 3
                                have hfz28_4 := blk_frozen BK246.out 4
                                have hfz28_5 := blk_frozen BK246.out 5
                                have hfz28_6 := blk_frozen BK246.out 6
                                have hfz28_7 := blk_frozen BK246.out 7
                                have hfz28_8 := blk_frozen BK246.out 8
                                obtain ⟨Ao29, co29, eo29⟩ := Kd.R_slice HO_247006.out
                                subst eo29
                                obtain ⟨Ao30, co30, eo30⟩ := Kd.R_slice HO_247007.out
                                subst eo30
                                obtain ⟨Ao31, co31, eo31⟩ := Kd.S_slice HO_247008.out
                                subst eo31
                                go_wp2_with (first | ((with_reducible refine gate_callee (f := 12) rfl ?_); refine goesL_ (some 50) rfl rfl Try.func12 (by kernel_rfl) rfl #[.agg #[.int .i64 x247000_2, .int .i64 x247001_2, .int .i64 x247002_2, .int .i64 x247003_2, .bool x247004_2, .int .i64 x247005_2, .slice Ao29 x247006_2.length co29, .slice Ao30 x247007_2.length co30, .slice Ao31 x247008_2.length co31]] rfl (by (try simp only [List.map_toArray, List.map_cons, List.map_nil]); first | done | rfl | (simp only [List.length_drop, List.length_take]; rfl)) ?_; (with_reducible refine (replica_Timeout.calls x247000_2 x247001_2 x247002_2 x247003_2 x247004_2 x247005_2 _ _ x247006_2 _ _ x247007_2 _ _ x247008_2 t250 t251 t252 t253 true t255 t256 t259 t262 t265 t268 _ ?side1 ?side2 ?side3 ?side4 ?side5 ?side6 A22.out).mono ?_); (case side1 => repeat (first | exact (Kd.R_reads' HO_247006.out).2.2 | (with_reducible refine Kd.C_alloc ?_ _) | (with_reducible refine Kd.C_drewN ?_ _) | (with_reducible refine Kd.C_drew ?_))); (case side2 => exact (Kd.R_reads' HO_247006.out).2.1); (case side3 => repeat (first | exact (Kd.R_reads' HO_247007.out).2.2 | (with_reducible refine Kd.C_alloc ?_ _) | (with_reducible refine Kd.C_drewN ?_ _) | (with_reducible refine Kd.C_drew ?_))); (case side4 => exact (Kd.R_reads' HO_247007.out).2.1); (case side5 => repeat (first | exact (Kd.S_reads' HO_247008.out).2.2 | (with_reducible refine Kd.C_alloc ?_ _) | (with_reducible refine Kd.C_drewN ?_ _) | (with_reducible refine Kd.C_drew ?_))); (case side6 => exact (Kd.S_reads' HO_247008.out).2.1); rintro e w32 ⟨v257, v260, v263, v266, rfl, ho0, ho1, ho2, ho3, hb⟩; refine ⟨_, rfl, ?_⟩; have n0_ := Aside0.mk (Kd.R_elder' (by (with_reducible repeat (first | apply Kd.R_alloc | apply Kd.R_drewN | apply Kd.R_drew)); exact HO_247006.out) (Kd.R_base ho0) hb); have n1_ := Aside0.mk (Kd.R_elder' (by (with_reducible repeat (first | apply Kd.R_alloc | apply Kd.R_drewN | apply Kd.R_drew)); exact HO_247007.out) (Kd.R_base ho1) hb); have n2_ := Aside0.mk (Kd.S_mono (Kd.S_told (Kd.S_told (Kd.S_old (by (with_reducible repeat (first | apply Kd.S_alloc | apply Kd.S_drewN | apply Kd.S_drew)); exact HO_247008.out) hb) (Kd.R_base ho0)) (Kd.S_base ho2)) (fun _ h_ => h_.1)); have n3_ := Aside0.mk (Kd.R_lower (Kd.R_new' ho0 (Kd.R_lt (by (with_reducible repeat (first | apply Kd.R_alloc | apply Kd.R_drewN | apply Kd.R_drew)); exact HO_247006.out))) (below_size (by repeat (first | (with_reducible first | exact HB.out | apply below_alloc | apply pw_below_drewN | apply below_drew1 | refine below_set ?_ GE246.out) | exact HB.out)))); have n4_ := Aside0.mk (Kd.R_lower (Kd.R_new' ho1 (Kd.R_lt (by (with_reducible repeat (first | apply Kd.R_alloc | apply Kd.R_drewN | apply Kd.R_drew)); exact HO_247007.out))) (below_size (by repeat (first | (with_reducible first | exact HB.out | apply below_alloc | apply pw_below_drewN | apply below_drew1 | refine below_set ?_ GE246.out) | exact HB.out)))); have n5_ := Aside0.mk (Kd.S_lower (Kd.S_new' (Kd.S_new' ho2 (Kd.R_lt (by (with_reducible repeat (first | apply Kd.R_alloc | apply Kd.R_drewN | apply Kd.R_drew)); exact HO_247006.out))) (Kd.S_lt (by (with_reducible repeat (first | apply Kd.S_alloc | apply Kd.S_drewN | apply Kd.S_drew)); exact HO_247008.out))) (below_size (by repeat (first | (with_reducible first | exact HB.out | apply below_alloc | apply pw_below_drewN | apply below_drew1 | refine below_set ?_ GE246.out) | exact HB.out)))); have n6_ := Aside0.mk (Kd.S_lower (Kd.S_new' ho3 (Kd.R_lt (by (with_reducible repeat (first | apply Kd.R_alloc | apply Kd.R_drewN | apply Kd.R_drew)); exact HO_247006.out))) (below_size (by repeat (first | (with_reducible first | exact HB.out | apply below_alloc | apply pw_below_drewN | apply below_drew1 | refine below_set ?_ GE246.out) | exact HB.out)))); have n7_ := Aside0.mk (blk_below (g := gb246) (o := .cells #[.int .i64 x247000_2, .int .i64 x247001_2, .int .i64 x247002_2, .int .i64 x247003_2, .bool x247004_2, .int .i64 x247005_2, .slice Ao29 x247006_2.length co29, .slice Ao30 x247007_2.length co30, .slice Ao31 x247008_2.length co31] 26 (0, 0)) (by (with_reducible repeat (first | refine blk_drewN ?_ _ | refine blk_drew ?_ | refine blk_alloc ?_ _)); exact BK246.out) hb); have n8_ := Aside0.mk (below_step (by repeat (first | (with_reducible first | exact HB.out | apply below_alloc | apply pw_below_drewN | apply below_drew1 | refine below_set ?_ GE246.out) | exact HB.out)) hb); clear HO_247006; clear HO_247007; clear HO_247008; clear BK246; clear HB; have HO_247006 := n0_; have HO_247007 := n1_; have HO_247008 := n2_; have HO258 := n3_; have HO261 := n4_; have HO264 := n5_; have HO267 := n6_; have BK246 := n7_; have HB := n8_; clear n0_ n1_ n2_ n3_ n4_ n5_ n6_ n7_ n8_; (try clear hb); (try clear hb2); (try clear hk); (try clear hi); (try clear ho0); (try clear ho1); (try clear ho2); (try clear ho3)) | ((with_reducible refine gate_dst (N := 8) rfl ?_); (try (refine gate_guard (by rfl) ?_; dsimp only)); refine box_event ?hg (N := 8) ?hd (cs := #[.int .i64 0, .int .i64 0, .int .i64 0, .int .i64 0, .bool false, .int .i64 0, .slice none 0 0, .slice none 0 0, .slice none 0 0]) (t := 26) ?hr ?_; (case hd => rfl); (case hg => rfl); (case hr => first | (go_simp; done) | (go_simp; rfl)); intro gb269 hg w33 hbox hb; have n0_ := Aside0.mk (Kd.R_below (by (with_reducible repeat (first | apply Kd.R_alloc | apply Kd.R_drewN | apply Kd.R_drew)); exact HO_247006.out) hb); have n1_ := Aside0.mk (Kd.R_below (by (with_reducible repeat (first | apply Kd.R_alloc | apply Kd.R_drewN | apply Kd.R_drew)); exact HO_247007.out) hb); have n2_ := Aside0.mk (Kd.S_below (by (with_reducible repeat (first | apply Kd.S_alloc | apply Kd.S_drewN | apply Kd.S_drew)); exact HO_247008.out) hb); have n3_ := Aside0.mk (Kd.R_below (by (with_reducible repeat (first | apply Kd.R_alloc | apply Kd.R_drewN | apply Kd.R_drew)); exact HO258.out) hb); have n4_ := Aside0.mk (Kd.R_below (by (with_reducible repeat (first | apply Kd.R_alloc | apply Kd.R_drewN | apply Kd.R_drew)); exact HO261.out) hb); have n5_ := Aside0.mk (Kd.S_below (by (with_reducible repeat (first | apply Kd.S_alloc | apply Kd.S_drewN | apply Kd.S_drew)); exact HO264.out) hb); have n6_ := Aside0.mk (Kd.S_below (by (with_reducible repeat (first | apply Kd.S_alloc | apply Kd.S_drewN | apply Kd.S_drew)); exact HO267.out) hb); have n7_ := Aside0.mk (blk_below (g := gb246) (o := .cells #[.int .i64 x247000_2, .int .i64 x247001_2, .int .i64 x247002_2, .int .i64 x247003_2, .bool x247004_2, .int .i64 x247005_2, .slice Ao29 x247006_2.length co29, .slice Ao30 x247007_2.length co30, .slice Ao31 x247008_2.length co31] 26 (0, 0)) (by (with_reducible repeat (first | refine blk_drewN ?_ _ | refine blk_drew ?_ | refine blk_alloc ?_ _)); exact BK246.out) hb); have n8_ := Aside0.mk (below_step (by repeat (first | (with_reducible first | exact HB.out | apply below_alloc | apply pw_below_drewN | apply below_drew1 | refine below_set ?_ GE246.out) | exact HB.out)) hb); have n9_ := Aside0.mk (hbox); have n10_ := Aside0.mk ((by rw [hg]; exact (below_size (by repeat (first | (with_reducible first | exact HB.out | apply below_alloc | apply pw_below_drewN | apply below_drew1 | refine below_set ?_ GE246.out) | exact HB.out))) : w.heap.size ≤ gb269)); have n11_ := Aside0.mk ((by rw [hg]; exact (below_size (by repeat (first | (with_reducible first | exact HB.out | apply below_alloc | apply pw_below_drewN | apply below_drew1 | refine below_set ?_ GE246.out) | exact HB.out))) : w.heap.size ≤ gb269)); have n12_ := Aside0.mk ((by rw [hg]; exact Nat.ne_of_lt (blk_lt (g := gb246) (o := .cells #[.int .i64 x247000_2, .int .i64 x247001_2, .int .i64 x247002_2, .int .i64 x247003_2, .bool x247004_2, .int .i64 x247005_2, .slice Ao29 x247006_2.length co29, .slice Ao30 x247007_2.length co30, .slice Ao31 x247008_2.length co31] 26 (0, 0)) (by (with_reducible repeat (first | refine blk_drewN ?_ _ | refine blk_drew ?_ | refine blk_alloc ?_ _)); exact BK246.out)) : gb246 ≠ gb269)); have n13_ := Aside0.mk ((by rw [hg]; exact Nat.ne_of_gt (blk_lt (g := gb246) (o := .cells #[.int .i64 x247000_2, .int .i64 x247001_2, .int .i64 x247002_2, .int .i64 x247003_2, .bool x247004_2, .int .i64 x247005_2, .slice Ao29 x247006_2.length co29, .slice Ao30 x247007_2.length co30, .slice Ao31 x247008_2.length co31] 26 (0, 0)) (by (with_reducible repeat (first | refine blk_drewN ?_ _ | refine blk_drew ?_ | refine blk_alloc ?_ _)); exact BK246.out)) : gb269 ≠ gb246)); clear HO_247006; clear HO_247007; clear HO_247008; clear HO258; clear HO261; clear HO264; clear HO267; clear BK246; clear HB; have HO_247006 := n0_; have HO_247007 := n1_; have HO_247008 := n2_; have HO258 := n3_; have HO261 := n4_; have HO264 := n5_; have HO267 := n6_; have BK246 := n7_; have HB := n8_; have BK269 := n9_; have GW269 := n10_; have GE269 := n11_; have NB246_269 := n12_; have NB269_246 := n13_; clear n0_ n1_ n2_ n3_ n4_ n5_ n6_ n7_ n8_ n9_ n10_ n11_ n12_ n13_; clear hb hbox hg; have hnb34 := NB269_246.out; have hnc34 := NB246_269.out; have hcz35_0 : w33.cell? ⟨gb269, 0, none⟩ = some (.int .i64 0) := (blk_cell BK269.out 0).trans rfl; have hcz35_1 : w33.cell? ⟨gb269, 1, none⟩ = some (.int .i64 0) := (blk_cell BK269.out 1).trans rfl; have hcz35_2 : w33.cell? ⟨gb269, 2, none⟩ = some (.int .i64 0) := (blk_cell BK269.out 2).trans rfl; have hcz35_3 : w33.cell? ⟨gb269, 3, none⟩ = some (.int .i64 0) := (blk_cell BK269.out 3).trans rfl; have hcz35_4 : w33.cell? ⟨gb269, 4, none⟩ = some (.bool false) := (blk_cell BK269.out 4).trans rfl; have hcz35_5 : w33.cell? ⟨gb269, 5, none⟩ = some (.int .i64 0) := (blk_cell BK269.out 5).trans rfl; have hcz35_6 : w33.cell? ⟨gb269, 6, none⟩ = some (.slice none 0 0) := (blk_cell BK269.out 6).trans rfl; have hcz35_7 : w33.cell? ⟨gb269, 7, none⟩ = some (.slice none 0 0) := (blk_cell BK269.out 7).trans rfl; have hcz35_8 : w33.cell? ⟨gb269, 8, none⟩ = some (.slice none 0 0) := (blk_cell BK269.out 8).trans rfl; have hfz35_0 := blk_frozen BK269.out 0; have hfz35_1 := blk_frozen BK269.out 1; have hfz35_2 := blk_frozen BK269.out 2; have hfz35_3 := blk_frozen BK269.out 3; have hfz35_4 := blk_frozen BK269.out 4; have hfz35_5 := blk_frozen BK269.out 5; have hfz35_6 := blk_frozen BK269.out 6; have hfz35_7 := blk_frozen BK269.out 7; have hfz35_8 := blk_frozen BK269.out 8; obtain ⟨Ao36, co36, eo36⟩ := Kd.R_slice HO258.out; subst eo36; obtain ⟨Ao37, co37, eo37⟩ := Kd.R_slice HO261.out; subst eo37; obtain ⟨Ao38, co38, eo38⟩ := Kd.S_slice HO264.out; subst eo38; obtain ⟨Ao39, co39, eo39⟩ := Kd.S_slice HO267.out; subst eo39; have hcz40_0 : w33.cell? ⟨gb246, 0, none⟩ = some (.int .i64 x247000_2) := (blk_cell BK246.out 0).trans rfl; have hcz40_1 : w33.cell? ⟨gb246, 1, none⟩ = some (.int .i64 x247001_2) := (blk_cell BK246.out 1).trans rfl; have hcz40_2 : w33.cell? ⟨gb246, 2, none⟩ = some (.int .i64 x247002_2) := (blk_cell BK246.out 2).trans rfl; have hcz40_3 : w33.cell? ⟨gb246, 3, none⟩ = some (.int .i64 x247003_2) := (blk_cell BK246.out 3).trans rfl; have hcz40_4 : w33.cell? ⟨gb246, 4, none⟩ = some (.bool x247004_2) := (blk_cell BK246.out 4).trans rfl; have hcz40_5 : w33.cell? ⟨gb246, 5, none⟩ = some (.int .i64 x247005_2) := (blk_cell BK246.out 5).trans rfl; have hcz40_6 : w33.cell? ⟨gb246, 6, none⟩ = some (.slice Ao29 x247006_2.length co29) := (blk_cell BK246.out 6).trans rfl; have hcz40_7 : w33.cell? ⟨gb246, 7, none⟩ = some (.slice Ao30 x247007_2.length co30) := (blk_cell BK246.out 7).trans rfl; have hcz40_8 : w33.cell? ⟨gb246, 8, none⟩ = some (.slice Ao31 x247008_2.length co31) := (blk_cell BK246.out 8).trans rfl; have hfz40_0 := blk_frozen BK246.out 0; have hfz40_1 := blk_frozen BK246.out 1; have hfz40_2 := blk_frozen BK246.out 2; have hfz40_3 := blk_frozen BK246.out 3; have hfz40_4 := blk_frozen BK246.out 4; have hfz40_5 := blk_frozen BK246.out 5; have hfz40_6 := blk_frozen BK246.out 6; have hfz40_7 := blk_frozen BK246.out 7; have hfz40_8 := blk_frozen BK246.out 8))
                                go_meet
                                case rel => exact ⟨_, (t250), (t251), (t252), (t253), (true), (t255), (t256), (t259), (t262), (.slice Ao36 t256.length co36), (.slice Ao37 t259.length co37), (.slice Ao38 t262.length co38), H', ⟨by have := HJ3.out; have := HK2.out; have := HJ16.out; first | omega | exact Nat.le_refl _⟩, ⟨by (with_reducible repeat (first | apply Kd.R_alloc | apply Kd.R_drewN | apply Kd.R_drew)); exact Kd.R_mono (Kd.R_far (p := ⟨gb246, 8, none⟩) (Kd.R_far (p := ⟨gb246, 7, none⟩) (Kd.R_far (p := ⟨gb246, 6, none⟩) (Kd.R_far (p := ⟨gb246, 5, none⟩) (Kd.R_far (p := ⟨gb246, 4, none⟩) (Kd.R_far (p := ⟨gb246, 3, none⟩) (Kd.R_far (p := ⟨gb246, 2, none⟩) (Kd.R_far (p := ⟨gb246, 1, none⟩) (Kd.R_far (p := ⟨gb246, 0, none⟩) (Kd.R_far (p := ⟨gb269, 8, none⟩) (Kd.R_far (p := ⟨gb269, 7, none⟩) (Kd.R_far (p := ⟨gb269, 6, none⟩) (Kd.R_far (p := ⟨gb269, 5, none⟩) (Kd.R_far (p := ⟨gb269, 4, none⟩) (Kd.R_far (p := ⟨gb269, 3, none⟩) (Kd.R_far (p := ⟨gb269, 2, none⟩) (Kd.R_far (p := ⟨gb269, 1, none⟩) (Kd.R_far (p := ⟨gb269, 0, none⟩) (Kd.R_types (Kd.R_types HO258.out BK269.out (by decide)) BK246.out (by decide)) (fun _ hk => hk.1.2) (.int .i64 t250)) (fun _ hk => hk.1.2) (.int .i64 t251)) (fun _ hk => hk.1.2) (.int .i64 t252)) (fun _ hk => hk.1.2) (.int .i64 t253)) (fun _ hk => hk.1.2) (.bool true)) (fun _ hk => hk.1.2) (.int .i64 t255)) (fun _ hk => hk.1.2) (.slice Ao36 t256.length co36)) (fun _ hk => hk.1.2) (.slice Ao37 t259.length co37)) (fun _ hk => hk.1.2) (.slice Ao38 t262.length co38)) (fun _ hk => hk.2) (.int .i64 t250)) (fun _ hk => hk.2) (.int .i64 t251)) (fun _ hk => hk.2) (.int .i64 t252)) (fun _ hk => hk.2) (.int .i64 t253)) (fun _ hk => hk.2) (.bool true)) (fun _ hk => hk.2) (.int .i64 t255)) (fun _ hk => hk.2) (.slice Ao36 t256.length co36)) (fun _ hk => hk.2) (.slice Ao37 t259.length co37)) (fun _ hk => hk.2) (.slice Ao38 t262.length co38)) (fun _ hk => trivial)⟩, ⟨by (with_reducible repeat (first | apply Kd.R_alloc | apply Kd.R_drewN | apply Kd.R_drew)); exact Kd.R_mono (Kd.R_far (p := ⟨gb246, 8, none⟩) (Kd.R_far (p := ⟨gb246, 7, none⟩) (Kd.R_far (p := ⟨gb246, 6, none⟩) (Kd.R_far (p := ⟨gb246, 5, none⟩) (Kd.R_far (p := ⟨gb246, 4, none⟩) (Kd.R_far (p := ⟨gb246, 3, none⟩) (Kd.R_far (p := ⟨gb246, 2, none⟩) (Kd.R_far (p := ⟨gb246, 1, none⟩) (Kd.R_far (p := ⟨gb246, 0, none⟩) (Kd.R_far (p := ⟨gb269, 8, none⟩) (Kd.R_far (p := ⟨gb269, 7, none⟩) (Kd.R_far (p := ⟨gb269, 6, none⟩) (Kd.R_far (p := ⟨gb269, 5, none⟩) (Kd.R_far (p := ⟨gb269, 4, none⟩) (Kd.R_far (p := ⟨gb269, 3, none⟩) (Kd.R_far (p := ⟨gb269, 2, none⟩) (Kd.R_far (p := ⟨gb269, 1, none⟩) (Kd.R_far (p := ⟨gb269, 0, none⟩) (Kd.R_types (Kd.R_types HO261.out BK269.out (by decide)) BK246.out (by decide)) (fun _ hk => hk.1.2) (.int .i64 t250)) (fun _ hk => hk.1.2) (.int .i64 t251)) (fun _ hk => hk.1.2) (.int .i64 t252)) (fun _ hk => hk.1.2) (.int .i64 t253)) (fun _ hk => hk.1.2) (.bool true)) (fun _ hk => hk.1.2) (.int .i64 t255)) (fun _ hk => hk.1.2) (.slice Ao36 t256.length co36)) (fun _ hk => hk.1.2) (.slice Ao37 t259.length co37)) (fun _ hk => hk.1.2) (.slice Ao38 t262.length co38)) (fun _ hk => hk.2) (.int .i64 t250)) (fun _ hk => hk.2) (.int .i64 t251)) (fun _ hk => hk.2) (.int .i64 t252)) (fun _ hk => hk.2) (.int .i64 t253)) (fun _ hk => hk.2) (.bool true)) (fun _ hk => hk.2) (.int .i64 t255)) (fun _ hk => hk.2) (.slice Ao36 t256.length co36)) (fun _ hk => hk.2) (.slice Ao37 t259.length co37)) (fun _ hk => hk.2) (.slice Ao38 t262.length co38)) (fun _ hk => trivial)⟩, ⟨by (with_reducible repeat (first | apply Kd.S_alloc | apply Kd.S_drewN | apply Kd.S_drew)); exact Kd.S_mono (Kd.S_far (p := ⟨gb246, 8, none⟩) (Kd.S_far (p := ⟨gb246, 7, none⟩) (Kd.S_far (p := ⟨gb246, 6, none⟩) (Kd.S_far (p := ⟨gb246, 5, none⟩) (Kd.S_far (p := ⟨gb246, 4, none⟩) (Kd.S_far (p := ⟨gb246, 3, none⟩) (Kd.S_far (p := ⟨gb246, 2, none⟩) (Kd.S_far (p := ⟨gb246, 1, none⟩) (Kd.S_far (p := ⟨gb246, 0, none⟩) (Kd.S_far (p := ⟨gb269, 8, none⟩) (Kd.S_far (p := ⟨gb269, 7, none⟩) (Kd.S_far (p := ⟨gb269, 6, none⟩) (Kd.S_far (p := ⟨gb269, 5, none⟩) (Kd.S_far (p := ⟨gb269, 4, none⟩) (Kd.S_far (p := ⟨gb269, 3, none⟩) (Kd.S_far (p := ⟨gb269, 2, none⟩) (Kd.S_far (p := ⟨gb269, 1, none⟩) (Kd.S_far (p := ⟨gb269, 0, none⟩) (Kd.S_types (Kd.S_types HO264.out BK269.out (by decide)) BK246.out (by decide)) (fun _ hk => hk.1.2) (.int .i64 t250)) (fun _ hk => hk.1.2) (.int .i64 t251)) (fun _ hk => hk.1.2) (.int .i64 t252)) (fun _ hk => hk.1.2) (.int .i64 t253)) (fun _ hk => hk.1.2) (.bool true)) (fun _ hk => hk.1.2) (.int .i64 t255)) (fun _ hk => hk.1.2) (.slice Ao36 t256.length co36)) (fun _ hk => hk.1.2) (.slice Ao37 t259.length co37)) (fun _ hk => hk.1.2) (.slice Ao38 t262.length co38)) (fun _ hk => hk.2) (.int .i64 t250)) (fun _ hk => hk.2) (.int .i64 t251)) (fun _ hk => hk.2) (.int .i64 t252)) (fun _ hk => hk.2) (.int .i64 t253)) (fun _ hk => hk.2) (.bool true)) (fun _ hk => hk.2) (.int .i64 t255)) (fun _ hk => hk.2) (.slice Ao36 t256.length co36)) (fun _ hk => hk.2) (.slice Ao37 t259.length co37)) (fun _ hk => hk.2) (.slice Ao38 t262.length co38)) (fun _ hk => hk.1.1.1.1)⟩, ⟨by (with_reducible repeat (first | refine blk_drewN ?_ _ | refine blk_drew ?_ | refine blk_alloc ?_ _)); refine blk_put (cs := #[.int .i64 t250, .int .i64 t251, .int .i64 t252, .int .i64 t253, .bool true, .int .i64 t255, .slice Ao36 t256.length co36, .slice Ao37 t259.length co37, .slice Ao31 x247008_2.length co31]) ?_ 8 _ rfl; (with_reducible repeat (first | refine blk_drewN ?_ _ | refine blk_drew ?_ | refine blk_alloc ?_ _)); refine blk_put (cs := #[.int .i64 t250, .int .i64 t251, .int .i64 t252, .int .i64 t253, .bool true, .int .i64 t255, .slice Ao36 t256.length co36, .slice Ao30 x247007_2.length co30, .slice Ao31 x247008_2.length co31]) ?_ 7 _ rfl; (with_reducible repeat (first | refine blk_drewN ?_ _ | refine blk_drew ?_ | refine blk_alloc ?_ _)); refine blk_put (cs := #[.int .i64 t250, .int .i64 t251, .int .i64 t252, .int .i64 t253, .bool true, .int .i64 t255, .slice Ao29 x247006_2.length co29, .slice Ao30 x247007_2.length co30, .slice Ao31 x247008_2.length co31]) ?_ 6 _ rfl; (with_reducible repeat (first | refine blk_drewN ?_ _ | refine blk_drew ?_ | refine blk_alloc ?_ _)); refine blk_put (cs := #[.int .i64 t250, .int .i64 t251, .int .i64 t252, .int .i64 t253, .bool true, .int .i64 x247005_2, .slice Ao29 x247006_2.length co29, .slice Ao30 x247007_2.length co30, .slice Ao31 x247008_2.length co31]) ?_ 5 _ rfl; (with_reducible repeat (first | refine blk_drewN ?_ _ | refine blk_drew ?_ | refine blk_alloc ?_ _)); refine blk_put (cs := #[.int .i64 t250, .int .i64 t251, .int .i64 t252, .int .i64 t253, .bool x247004_2, .int .i64 x247005_2, .slice Ao29 x247006_2.length co29, .slice Ao30 x247007_2.length co30, .slice Ao31 x247008_2.length co31]) ?_ 4 _ rfl; (with_reducible repeat (first | refine blk_drewN ?_ _ | refine blk_drew ?_ | refine blk_alloc ?_ _)); refine blk_put (cs := #[.int .i64 t250, .int .i64 t251, .int .i64 t252, .int .i64 x247003_2, .bool x247004_2, .int .i64 x247005_2, .slice Ao29 x247006_2.length co29, .slice Ao30 x247007_2.length co30, .slice Ao31 x247008_2.length co31]) ?_ 3 _ rfl; (with_reducible repeat (first | refine blk_drewN ?_ _ | refine blk_drew ?_ | refine blk_alloc ?_ _)); refine blk_put (cs := #[.int .i64 t250, .int .i64 t251, .int .i64 x247002_2, .int .i64 x247003_2, .bool x247004_2, .int .i64 x247005_2, .slice Ao29 x247006_2.length co29, .slice Ao30 x247007_2.length co30, .slice Ao31 x247008_2.length co31]) ?_ 2 _ rfl; (with_reducible repeat (first | refine blk_drewN ?_ _ | refine blk_drew ?_ | refine blk_alloc ?_ _)); refine blk_put (cs := #[.int .i64 t250, .int .i64 x247001_2, .int .i64 x247002_2, .int .i64 x247003_2, .bool x247004_2, .int .i64 x247005_2, .slice Ao29 x247006_2.length co29, .slice Ao30 x247007_2.length co30, .slice Ao31 x247008_2.length co31]) ?_ 1 _ rfl; (with_reducible repeat (first | refine blk_drewN ?_ _ | refine blk_drew ?_ | refine blk_alloc ?_ _)); refine blk_put (cs := #[.int .i64 x247000_2, .int .i64 x247001_2, .int .i64 x247002_2, .int .i64 x247003_2, .bool x247004_2, .int .i64 x247005_2, .slice Ao29 x247006_2.length co29, .slice Ao30 x247007_2.length co30, .slice Ao31 x247008_2.length co31]) ?_ 0 _ rfl; (with_reducible repeat (first | refine blk_drewN ?_ _ | refine blk_drew ?_ | refine blk_alloc ?_ _)); refine blk_far ?_ NB246_269.out _; (with_reducible repeat (first | refine blk_drewN ?_ _ | refine blk_drew ?_ | refine blk_alloc ?_ _)); refine blk_far ?_ NB246_269.out _; (with_reducible repeat (first | refine blk_drewN ?_ _ | refine blk_drew ?_ | refine blk_alloc ?_ _)); refine blk_far ?_ NB246_269.out _; (with_reducible repeat (first | refine blk_drewN ?_ _ | refine blk_drew ?_ | refine blk_alloc ?_ _)); refine blk_far ?_ NB246_269.out _; (with_reducible repeat (first | refine blk_drewN ?_ _ | refine blk_drew ?_ | refine blk_alloc ?_ _)); refine blk_far ?_ NB246_269.out _; (with_reducible repeat (first | refine blk_drewN ?_ _ | refine blk_drew ?_ | refine blk_alloc ?_ _)); refine blk_far ?_ NB246_269.out _; (with_reducible repeat (first | refine blk_drewN ?_ _ | refine blk_drew ?_ | refine blk_alloc ?_ _)); refine blk_far ?_ NB246_269.out _; (with_reducible repeat (first | refine blk_drewN ?_ _ | refine blk_drew ?_ | refine blk_alloc ?_ _)); refine blk_far ?_ NB246_269.out _; (with_reducible repeat (first | refine blk_drewN ?_ _ | refine blk_drew ?_ | refine blk_alloc ?_ _)); refine blk_far ?_ NB246_269.out _; (with_reducible repeat (first | refine blk_drewN ?_ _ | refine blk_drew ?_ | refine blk_alloc ?_ _)); exact BK246.out⟩, ⟨by repeat (first | (with_reducible first | exact HB.out | apply below_alloc | apply pw_below_drewN | apply below_drew1 | refine below_set ?_ GE246.out | refine below_set ?_ GE269.out) | exact HB.out)⟩⟩
                              · rw [if_neg c27] at H
                                have c27b0 : (t255 == x247005_2) = false := beq_eq_false_iff_ne.mpr c27
                                have c27b1 : (t255 != x247005_2) = true := bne_iff_ne.mpr c27
                                exact absurd (H.trans (congrArg some HT.out)) (by simp)
                            · rw [if_neg c26] at H
                              have c26b0 : (t252 == (wrap64 (x247002_2 + 1))) = false := beq_eq_false_iff_ne.mpr c26
                              have c26b1 : (t252 != (wrap64 (x247002_2 + 1))) = true := bne_iff_ne.mpr c26
                              exact absurd (H.trans (congrArg some HT.out)) (by simp)
                          · replace c25 := Bool.eq_false_iff.mpr c25
                            subst c25
                            have H1 : (some false) = some r := by rw [if_neg (show ¬ (false = true) by decide)] at H; exact H
                            clear H
                            have H := H1
                            clear H1
                            exact absurd (H.trans (congrArg some HT.out)) (by simp)
                      · rw [if_neg c23] at H
                        have c23b0 : (t268 == 0) = false := beq_eq_false_iff_ne.mpr c23
                        have c23b1 : (t268 != 0) = true := bne_iff_ne.mpr c23
                        exact absurd (H.trans (congrArg some HT.out)) (by simp)
                    · rw [if_neg c21] at H
                      have c21b0 : decide (x7_2 < a1) = false := decide_eq_false c21
                      clear c21
                      (first | rw [c21b0] | (simp only [i64_w, i32_w]; rw [c21b0]) | skip)
                      have H' := Aside0.mk H
                      clear H
                      go_wp2
                      go_meet
                      case rel => exact ⟨_, (x247000_2), (x247001_2), (x247002_2), (x247003_2), (x247004_2), (x247005_2), (x247006_2), (x247007_2), (x247008_2), (u247006), (u247007), (u247008), H', ⟨by have := HJ3.out; have := HK2.out; have := HJ16.out; first | omega | exact Nat.le_refl _⟩, ⟨by (with_reducible repeat (first | apply Kd.R_alloc | apply Kd.R_drewN | apply Kd.R_drew)); exact HO_247006.out⟩, ⟨by (with_reducible repeat (first | apply Kd.R_alloc | apply Kd.R_drewN | apply Kd.R_drew)); exact HO_247007.out⟩, ⟨by (with_reducible repeat (first | apply Kd.S_alloc | apply Kd.S_drewN | apply Kd.S_drew)); exact HO_247008.out⟩, ⟨by (with_reducible repeat (first | refine blk_drewN ?_ _ | refine blk_drew ?_ | refine blk_alloc ?_ _)); exact BK246.out⟩, ⟨by repeat (first | (with_reducible first | exact HB.out | apply below_alloc | apply pw_below_drewN | apply below_drew1 | refine below_set ?_ GE246.out) | exact HB.out)⟩⟩
                  case rest =>
                    clear HC20
                    try clear c1
                    try clear c2
                    try clear p2
                    try clear c3
                    try clear c4
                    try clear p6
                    try clear c9
                    try clear c11
                    try clear c11b0
                    try clear c11b1
                    try clear c12
                    try clear c12b0
                    try clear c12b1
                    try clear c13
                    try clear c13b0
                    try clear c14
                    try clear c18
                    try clear c18b0
                    try clear c19
                    try clear c21
                    try clear c21b0
                    try clear c23
                    try clear c23b0
                    try clear c23b1
                    try clear c24
                    try clear c24b0
                    try clear c24b1
                    try clear c25
                    try clear c26
                    try clear c26b0
                    try clear c26b1
                    try clear c27
                    try clear c27b0
                    try clear c27b1
                    try clear c34
                    try clear hcz28_0
                    try clear hcz28_1
                    try clear hcz28_2
                    try clear hcz28_3
                    try clear hcz28_4
                    try clear hcz28_5
                    try clear hcz28_6
                    try clear hcz28_7
                    try clear hcz28_8
                    try clear hcz35_0
                    try clear hcz35_1
                    try clear hcz35_2
                    try clear hcz35_3
                    try clear hcz35_4
                    try clear hcz35_5
                    try clear hcz35_6
                    try clear hcz35_7
                    try clear hcz35_8
                    try clear hcz40_0
                    try clear hcz40_1
                    try clear hcz40_2
                    try clear hcz40_3
                    try clear hcz40_4
                    try clear hcz40_5
                    try clear hcz40_6
                    try clear hcz40_7
                    try clear hcz40_8
                    try clear hcz7_0
                    try clear hcz7_1
                    try clear hcz7_2
                    try clear hcz7_3
                    try clear hcz7_4
                    try clear hcz7_5
                    try clear hcz7_6
                    try clear hcz7_7
                    try clear hcz7_8
                    try clear hfz28_0
                    try clear hfz28_1
                    try clear hfz28_2
                    try clear hfz28_3
                    try clear hfz28_4
                    try clear hfz28_5
                    try clear hfz28_6
                    try clear hfz28_7
                    try clear hfz28_8
                    try clear hfz35_0
                    try clear hfz35_1
                    try clear hfz35_2
                    try clear hfz35_3
                    try clear hfz35_4
                    try clear hfz35_5
                    try clear hfz35_6
                    try clear hfz35_7
                    try clear hfz35_8
                    try clear hfz40_0
                    try clear hfz40_1
                    try clear hfz40_2
                    try clear hfz40_3
                    try clear hfz40_4
                    try clear hfz40_5
                    try clear hfz40_6
                    try clear hfz40_7
                    try clear hfz40_8
                    try clear hfz7_0
                    try clear hfz7_1
                    try clear hfz7_2
                    try clear hfz7_3
                    try clear hfz7_4
                    try clear hfz7_5
                    try clear hfz7_6
                    try clear hfz7_7
                    try clear hfz7_8
                    try clear p2
                    obtain ⟨kq, x247000_19, x247001_19, x247002_19, x247003_19, x247004_19, x247005_19, x247006_19, x247007_19, x247008_19, u247006, u247007, u247008, HA, HJ19, HO_247006, HO_247007, HO_247008, BK246, HB⟩ := hcut
                    cases kq with
                    | zero => exact absurd HA.out (by simp [sextonlaw24_ReplicaAlone.j3])
                    | succ kj19 =>
                      have H := HA.out
                      clear HA
                      simp only [sextonlaw24_ReplicaAlone.j3] at H
                      by_cases c41 : x7_2 < (l0.length : Int)
                      · rw [if_pos c41] at H
                        have c41b0 : decide (x7_2 < (l0.length : Int)) = true := decide_eq_true c41
                        clear c41
                        by_cases c42 : 0 ≤ x7_2
                        · rw [if_pos c42] at H
                          have c42b0 : decide (0 ≤ x7_2) = true := decide_eq_true c42
                          clear c42
                          by_cases c43 : ((rdOf ByteArray.empty l0 x7_2).size : Int) > 300
                          · rw [if_pos c43] at H
                            have c43b0 : decide (300 < ((rdOf ByteArray.empty l0 x7_2).size : Int)) = true := decide_eq_true c43
                            have c43b1 : decide (300 < (rdOf ByteArray.empty l0 x7_2).size) = true := decide_eq_true (by omega)
                            clear c43
                            replace H := Option.bind_eq_some_iff.mp H
                            obtain ⟨t271, A440, H⟩ := H
                            replace H : (some t271) = some r := H
                            have A44 := Aside0.mk A440
                            clear A440
                            obtain rfl := Option.some.inj H
                            have p270 : 0 ≤ (x7_2 : Int) := of_decide_eq_true (by first | (with_reducible assumption) | assumption)
                            have q270 : x7_2 < (l0.length : Int) := of_decide_eq_true (by first | (with_reducible assumption) | assumption)
                            obtain ⟨ad270, e270, hx270_0⟩ := Kd.at_string HR0.out x7_2 p270 q270
                            cases e270
                            replace hx270_0 := (HB.out.cell (World.block_lt_of_cell? w _ hx270_0)).trans hx270_0
                            replace p270 := eq_true p270
                            replace q270 := eq_true q270
                            go_wp2_with (first | ((with_reducible refine gate_callee (f := 9) rfl ?_); refine goesL_ (some 92) rfl rfl Try.func9 (by kernel_rfl) rfl #[] rfl (by (try simp only [List.map_toArray, List.map_cons, List.map_nil]); first | done | rfl | (simp only [List.length_drop, List.length_take]; rfl)) ?_; (with_reducible refine (sextonlaw24_worked.calls  t271 _ A44.out).mono ?_); rintro e w45 ⟨rfl, hb⟩; refine ⟨_, rfl, ?_⟩; have n0_ := Aside0.mk (Kd.R_below (by (with_reducible repeat (first | apply Kd.R_alloc | apply Kd.R_drewN | apply Kd.R_drew)); exact HO_247006.out) hb); have n1_ := Aside0.mk (Kd.R_below (by (with_reducible repeat (first | apply Kd.R_alloc | apply Kd.R_drewN | apply Kd.R_drew)); exact HO_247007.out) hb); have n2_ := Aside0.mk (Kd.S_below (by (with_reducible repeat (first | apply Kd.S_alloc | apply Kd.S_drewN | apply Kd.S_drew)); exact HO_247008.out) hb); have n3_ := Aside0.mk (blk_below (g := gb246) (o := .cells #[.int .i64 x247000_19, .int .i64 x247001_19, .int .i64 x247002_19, .int .i64 x247003_19, .bool x247004_19, .int .i64 x247005_19, u247006, u247007, u247008] 26 (0, 0)) (by (with_reducible repeat (first | refine blk_drewN ?_ _ | refine blk_drew ?_ | refine blk_alloc ?_ _)); exact BK246.out) hb); have n4_ := Aside0.mk (below_step (by repeat (first | (with_reducible first | exact HB.out | apply below_alloc | apply pw_below_drewN | apply below_drew1 | refine below_set ?_ GE246.out) | exact HB.out)) hb); clear HO_247006; clear HO_247007; clear HO_247008; clear BK246; clear HB; have HO_247006 := n0_; have HO_247007 := n1_; have HO_247008 := n2_; have BK246 := n3_; have HB := n4_; clear n0_ n1_ n2_ n3_ n4_; (try clear hb); (try clear hb2); (try clear hk); (try clear hi)))
                            go_ret
                            exact ⟨by first | rfl | (simp [errW_none, errW_some] <;> rfl) | (simp [*, errW_none, errW_some] <;> rfl), by repeat (first | (with_reducible first | exact HB.out | apply below_alloc | apply pw_below_drewN | apply below_drew1 | refine below_set ?_ GE246.out) | exact HB.out)⟩
                          · rw [if_neg c43] at H
                            have c43b0 : decide (300 < ((rdOf ByteArray.empty l0 x7_2).size : Int)) = false := decide_eq_false c43
                            have c43b1 : decide (300 < (rdOf ByteArray.empty l0 x7_2).size) = false := decide_eq_false (by omega)
                            clear c43
                            replace H := Option.bind_eq_some_iff.mp H
                            obtain ⟨⟨t273, t274, t275, t276, t277, t278, t279, t282, t285, t288, t291⟩, A460, H⟩ := H
                            replace H : (if t291 = 0 then (if (t288.length : Int) > 0 then (some false) else (if t278 = (wrap64 (x7_2 + 1)) then (if (t279.length : Int) = (wrap64 (x7_2 + 1)) then (if x7_2 < (t279.length : Int) then (if (rdOf ByteArray.empty t279 x7_2).toList = (rdOf ByteArray.empty l0 x7_2).toList then (sextonlaw24_ReplicaAlone.l0 kj19 l0 a1 (wrap64 (x7_2 + 1)) t273 t274 t275 t276 t277 t278 t279 t282 t285) else (some false)) else (none)) else (some false)) else (some false))) else (some false)) = some r := H
                            have A46 := Aside0.mk A460
                            clear A460
                            by_cases c47 : t291 = 0
                            · rw [if_pos c47] at H
                              have c47b0 : (t291 == 0) = true := beq_iff_eq.mpr c47
                              have c47b1 : (t291 != 0) = false := bne_eq_false_iff_eq.mpr c47
                              clear c47
                              by_cases c48 : (t288.length : Int) > 0
                              · rw [if_pos c48] at H
                                have c48b0 : decide (0 < (t288.length : Int)) = true := decide_eq_true c48
                                have c48b1 : decide (0 < t288.length) = true := decide_eq_true (by omega)
                                clear c48
                                exact absurd (H.trans (congrArg some HT.out)) (by simp)
                              · rw [if_neg c48] at H
                                have c48b0 : decide (0 < (t288.length : Int)) = false := decide_eq_false c48
                                have c48b1 : decide (0 < t288.length) = false := decide_eq_false (by omega)
                                clear c48
                                by_cases c49 : t278 = (wrap64 (x7_2 + 1))
                                · rw [if_pos c49] at H
                                  have c49b0 : (t278 == (wrap64 (x7_2 + 1))) = true := beq_iff_eq.mpr c49
                                  have c49b1 : (t278 != (wrap64 (x7_2 + 1))) = false := bne_eq_false_iff_eq.mpr c49
                                  clear c49
                                  by_cases c50 : (t279.length : Int) = (wrap64 (x7_2 + 1))
                                  · rw [if_pos c50] at H
                                    have c50b0 : ((t279.length : Int) == (wrap64 (x7_2 + 1))) = true := beq_iff_eq.mpr c50
                                    have c50b1 : ((t279.length : Int) != (wrap64 (x7_2 + 1))) = false := bne_eq_false_iff_eq.mpr c50
                                    clear c50
                                    by_cases c51 : x7_2 < (t279.length : Int)
                                    · rw [if_pos c51] at H
                                      have c51b0 : decide (x7_2 < (t279.length : Int)) = true := decide_eq_true c51
                                      clear c51
                                      by_cases c52 : (rdOf ByteArray.empty t279 x7_2).toList = (rdOf ByteArray.empty l0 x7_2).toList
                                      · rw [if_pos c52] at H
                                        have c52b0 : ((rdOf ByteArray.empty t279 x7_2).toList == (rdOf ByteArray.empty l0 x7_2).toList) = true := beq_iff_eq.mpr c52
                                        have c52b1 : ((rdOf ByteArray.empty t279 x7_2).toList != (rdOf ByteArray.empty l0 x7_2).toList) = false := bne_eq_false_iff_eq.mpr c52
                                        clear c52
                                        have H' := Aside0.mk H
                                        clear H
                                        have p270 : 0 ≤ (x7_2 : Int) := of_decide_eq_true (by first | (with_reducible assumption) | assumption)
                                        have q270 : x7_2 < (l0.length : Int) := of_decide_eq_true (by first | (with_reducible assumption) | assumption)
                                        obtain ⟨ad270, e270, hx270_0⟩ := Kd.at_string HR0.out x7_2 p270 q270
                                        cases e270
                                        replace hx270_0 := (HB.out.cell (World.block_lt_of_cell? w _ hx270_0)).trans hx270_0
                                        replace p270 := eq_true p270
                                        replace q270 := eq_true q270
                                        obtain ⟨Ao53, co53, eo53⟩ := Kd.R_slice HO_247006.out
                                        subst eo53
                                        obtain ⟨Ao54, co54, eo54⟩ := Kd.R_slice HO_247007.out
                                        subst eo54
                                        obtain ⟨Ao55, co55, eo55⟩ := Kd.S_slice HO_247008.out
                                        subst eo55
                                        try go_wp2
                                        have n0_ := Aside0.mk (Kd.R_drew HO_247006.out)
                                        have n1_ := Aside0.mk (Kd.R_drew HO_247007.out)
                                        have n2_ := Aside0.mk (Kd.S_drew HO_247008.out)
                                        have n3_ := Aside0.mk (blk_drew BK246.out)
                                        have n4_ := Aside0.mk (below_drew1 HB.out)
                                        clear HO_247006
                                        clear HO_247007
                                        clear HO_247008
                                        clear BK246
                                        clear HB
                                        have HO_247006 := n0_
                                        have HO_247007 := n1_
                                        have HO_247008 := n2_
                                        have BK246 := n3_
                                        have HB := n4_
                                        clear n0_ n1_ n2_ n3_ n4_
                                        have p272 : 0 ≤ (x7_2 : Int) := of_decide_eq_true (by first | (with_reducible assumption) | assumption)
                                        have q272 : x7_2 < (l0.length : Int) := of_decide_eq_true (by first | (with_reducible assumption) | assumption)
                                        obtain ⟨ad272, e272, hx272_0⟩ := Kd.at_string HR0.out x7_2 p272 q272
                                        have hw272_0 := hx272_0
                                        obtain rfl : ad270 = ad272 := (by injection e272)
                                        replace hx272_0 := (HB.out.cell (World.block_lt_of_cell? w _ hx272_0)).trans hx272_0
                                        replace p272 := eq_true p272
                                        replace q272 := eq_true q272
                                        refine start_ (n := 14) (S := fun w' => w'.cell? ⟨gb246, 0, none⟩ = some (.int .i64 x247000_19) ∧ w'.cell? ⟨gb246, 1, none⟩ = some (.int .i64 x247001_19) ∧ w'.cell? ⟨gb246, 2, none⟩ = some (.int .i64 x247002_19) ∧ w'.cell? ⟨gb246, 3, none⟩ = some (.int .i64 x247003_19) ∧ w'.cell? ⟨gb246, 4, none⟩ = some (.bool x247004_19) ∧ w'.cell? ⟨gb246, 5, none⟩ = some (.int .i64 x247005_19) ∧ w'.cell? ⟨gb246, 6, none⟩ = some (.slice Ao53 x247006_19.length co53) ∧ w'.cell? ⟨gb246, 7, none⟩ = some (.slice Ao54 x247007_19.length co54) ∧ w'.cell? ⟨gb246, 8, none⟩ = some (.slice Ao55 x247008_19.length co55) ∧ w'.cell? (ad270.add (x7_2).toNat) = some (.string (rdOf ByteArray.empty l0 x7_2))) (ds := []) #[false, false, false, false, false, false, false, false, false, false, false, false, false, false] (by kernel_rfl) rfl rfl ⟨(blk_cell BK246.out 0).trans rfl, (blk_cell BK246.out 1).trans rfl, (blk_cell BK246.out 2).trans rfl, (blk_cell BK246.out 3).trans rfl, (blk_cell BK246.out 4).trans rfl, (blk_cell BK246.out 5).trans rfl, (blk_cell BK246.out 6).trans rfl, (blk_cell BK246.out 7).trans rfl, (blk_cell BK246.out 8).trans rfl, ((HB.out.cell (World.block_lt_of_cell? w _ hw272_0)).trans hw272_0)⟩ (fun hHeld => ?_); refine with_tabW sextonlaw24_ReplicaAlone.tab15 sextonlaw24_ReplicaAlone.bits15 (fun HT_ HW_ => ?_)
                                        generalize wc.drew = w56 at HO_247006 HO_247007 HO_247008 BK246 HB hx272_0 hHeld ⊢
                                        refine pure_ (i := 1) (N := some 95) (v := ?_) (a' := ?_) #[false, true, false, false, false, false, false, false, false, false, false, false, false, false] rfl rfl (any_of HT_.out (by kernel_rfl)) (fun _ _ _ h => h) (Or.inl ⟨by rfl, ?_⟩) ?_ ?_
                                        rotate_left
                                        · intro w'
                                          go_simp
                                          with_reducible rfl
                                        rotate_left
                                        · simp only [Act.put, List.setIfInBounds_toArray, List.set_cons_zero, List.set_cons_succ, i64_w, i32_w]
                                          rfl
                                        refine pure_ (i := 2) (N := some 96) (v := ?_) (a' := ?_) #[false, true, true, false, false, false, false, false, false, false, false, false, false, false] rfl rfl (any_of HT_.out (by kernel_rfl)) (fun _ _ _ h => h) (Or.inl ⟨by rfl, ?_⟩) ?_ ?_
                                        rotate_left
                                        · intro w'
                                          go_simp
                                          with_reducible rfl
                                        rotate_left
                                        · simp only [Act.put, List.setIfInBounds_toArray, List.set_cons_zero, List.set_cons_succ, i64_w, i32_w]
                                          rfl
                                        refine pure_ (i := 3) (N := some 97) (v := ?_) (a' := ?_) #[false, true, true, true, false, false, false, false, false, false, false, false, false, false] rfl rfl (any_of HT_.out (by kernel_rfl)) (fun _ _ _ h => h) (Or.inl ⟨by rfl, ?_⟩) ?_ ?_
                                        rotate_left
                                        · intro w'
                                          go_simp
                                          with_reducible rfl
                                        rotate_left
                                        · simp only [Act.put, List.setIfInBounds_toArray, List.set_cons_zero, List.set_cons_succ, i64_w, i32_w]
                                          rfl
                                        refine take_ (i := 0) (N := some 94) (v := ?_) (a' := ?_) #[true, true, true, true, false, false, false, false, false, false, false, false, false, false] rfl rfl (take_ofW HT_.out HW_.out (by kernel_rfl)) (fun _ _ _ h => h) (Or.inl ⟨by rfl, ?_⟩) hHeld ?_ ?_
                                        rotate_left
                                        · rintro w' ⟨s0, s1, s2, s3, s4, s5, s6, s7, s8, s9⟩
                                          go_simp
                                          with_reducible rfl
                                        rotate_left
                                        · simp only [Act.put, List.setIfInBounds_toArray, List.set_cons_zero, List.set_cons_succ, i64_w, i32_w]
                                          rfl
                                        refine take_ (i := 4) (N := some 98) (v := ?_) (a' := ?_) #[true, true, true, true, true, false, false, false, false, false, false, false, false, false] rfl rfl (take_ofW HT_.out HW_.out (by kernel_rfl)) (fun _ _ _ h => h) (Or.inl ⟨by rfl, ?_⟩) hHeld ?_ ?_
                                        rotate_left
                                        · rintro w' ⟨s0, s1, s2, s3, s4, s5, s6, s7, s8, s9⟩
                                          go_simp
                                          with_reducible rfl
                                        rotate_left
                                        · simp only [Act.put, List.setIfInBounds_toArray, List.set_cons_zero, List.set_cons_succ, i64_w, i32_w]
                                          rfl
                                        refine join_ (σ := Value × Value × Value × Value × Nat) 3 #[true, true, true, true, true, true, true, true, true, true, true, false, false, false] (fun s_ => [(99, .tuple #[.agg #[.int .i64 t273, .int .i64 t274, .int .i64 t275, .int .i64 t276, .bool t277, .int .i64 t278, s_.1, s_.2.1, s_.2.2.1], s_.2.2.2.1, .int .i64 t291]), (11, .pointer (some ⟨s_.2.2.2.2, 0, none⟩)), (93, .tuple #[.agg #[.int .i64 t273, .int .i64 t274, .int .i64 t275, .int .i64 t276, .bool t277, .int .i64 t278, s_.1, s_.2.1, s_.2.2.1], s_.2.2.2.1, .int .i64 t291]), (100, .agg #[.int .i64 t273, .int .i64 t274, .int .i64 t275, .int .i64 t276, .bool t277, .int .i64 t278, s_.1, s_.2.1, s_.2.2.1]), (101, s_.2.2.2.1), (102, .int .i64 t291)]) (fun s_ w' => (w'.cell? ⟨gb246, 0, none⟩ = some (.int .i64 x247000_19) ∧ w'.cell? ⟨gb246, 1, none⟩ = some (.int .i64 x247001_19) ∧ w'.cell? ⟨gb246, 2, none⟩ = some (.int .i64 x247002_19) ∧ w'.cell? ⟨gb246, 3, none⟩ = some (.int .i64 x247003_19) ∧ w'.cell? ⟨gb246, 4, none⟩ = some (.bool x247004_19) ∧ w'.cell? ⟨gb246, 5, none⟩ = some (.int .i64 x247005_19) ∧ w'.cell? ⟨gb246, 6, none⟩ = some (.slice Ao53 x247006_19.length co53) ∧ w'.cell? ⟨gb246, 7, none⟩ = some (.slice Ao54 x247007_19.length co54) ∧ w'.cell? ⟨gb246, 8, none⟩ = some (.slice Ao55 x247008_19.length co55) ∧ w'.cell? (ad270.add (x7_2).toNat) = some (.string (rdOf ByteArray.empty l0 x7_2))) ∧ (Kd.R Kd.string 9 w' w.heap.size (fun k_ => some k_ ≠ (.slice Ao53 x247006_19.length co53 : Value).ownBlock) s_.1 t279) ∧ (Kd.R (Kd.int .i64) 3 w' w.heap.size (fun k_ => some k_ ≠ (.slice Ao54 x247007_19.length co54 : Value).ownBlock) s_.2.1 t282) ∧ (Kd.S k66 66 w' w.heap.size (fun k_ => some k_ ≠ (s_.1 : Value).ownBlock ∧ some k_ ≠ (.slice Ao53 x247006_19.length co53 : Value).ownBlock ∧ some k_ ≠ (.slice Ao55 x247008_19.length co55 : Value).ownBlock) s_.2.2.1 t285) ∧ (Kd.S k28 28 w' w.heap.size (fun k_ => some k_ ≠ (s_.1 : Value).ownBlock ∧ some k_ ≠ (.slice Ao53 x247006_19.length co53 : Value).ownBlock) s_.2.2.2.1 t288) ∧ (Kd.R Kd.string 9 w' w.heap.size (fun k_ => some k_ ≠ (s_.1 : Value).ownBlock) (.slice Ao53 x247006_19.length co53) x247006_19) ∧ (Kd.R (Kd.int .i64) 3 w' w.heap.size (fun k_ => some k_ ≠ (s_.2.1 : Value).ownBlock) (.slice Ao54 x247007_19.length co54) x247007_19) ∧ (Kd.S k66 66 w' w.heap.size (fun k_ => some k_ ≠ (s_.1 : Value).ownBlock ∧ some k_ ≠ (s_.2.2.1 : Value).ownBlock ∧ some k_ ≠ (.slice Ao53 x247006_19.length co53 : Value).ownBlock) (.slice Ao55 x247008_19.length co55) x247008_19) ∧ (w'.heap[gb246]? = some (.cells #[.int .i64 x247000_19, .int .i64 x247001_19, .int .i64 x247002_19, .int .i64 x247003_19, .bool x247004_19, .int .i64 x247005_19, .slice Ao53 x247006_19.length co53, .slice Ao54 x247007_19.length co54, .slice Ao55 x247008_19.length co55] 26 (0, 0))) ∧ (w'.heap[s_.2.2.2.2]? = some (.cells #[.int .i64 0, .int .i64 0, .int .i64 0, .int .i64 0, .bool false, .int .i64 0, .slice none 0 0, .slice none 0 0, .slice none 0 0] 26 (0, 0))) ∧ (w.heap.size ≤ s_.2.2.2.2) ∧ (w.heap.size ≤ s_.2.2.2.2) ∧ (gb246 ≠ s_.2.2.2.2) ∧ (s_.2.2.2.2 ≠ gb246) ∧ (Below w.heap.size w w')) ?_ ?_
                                        rotate_left
                                        · intro hCont
                                          refine two_ (i := 5) (j := 10) (Ni := some 99) (Nj := some 11) #[true, true, true, true, true, true, false, false, false, false, false, false, false, false] #[true, true, true, true, true, false, false, false, false, false, true, false, false, false] rfl rfl rfl rfl (two_of HT_.out (by kernel_rfl)) (by decide) (by decide) (fun K hK => ?_) (fun K hK => ?_)
                                          · skip
                                            refine goes_ Try.func13 (by kernel_rfl) rfl #[.agg #[.int .i64 x247000_19, .int .i64 x247001_19, .int .i64 x247002_19, .int .i64 x247003_19, .bool x247004_19, .int .i64 x247005_19, .slice Ao53 x247006_19.length co53, .slice Ao54 x247007_19.length co54, .slice Ao55 x247008_19.length co55], .string (rdOf ByteArray.empty l0 x7_2)] (by rfl) rfl rfl (by (try simp only [List.map_toArray, List.map_cons, List.map_nil]); first | done | rfl | (simp only [List.length_drop, List.length_take]; rfl)) ?_
                                            with_reducible refine (replica_Ask.calls x247000_19 x247001_19 x247002_19 x247003_19 x247004_19 x247005_19 _ _ x247006_19 _ _ x247007_19 _ _ x247008_19 (rdOf ByteArray.empty l0 x7_2) t273 t274 t275 t276 t277 t278 t279 t282 t285 t288 t291 _ ?side1 ?side2 ?side3 ?side4 ?side5 ?side6 A46.out).mono ?_
                                            (case side1 => repeat (first | exact (Kd.R_reads' HO_247006.out).2.2 | (with_reducible refine Kd.C_alloc ?_ _) | (with_reducible refine Kd.C_drewN ?_ _) | (with_reducible refine Kd.C_drew ?_)))
                                            (case side2 => exact (Kd.R_reads' HO_247006.out).2.1)
                                            (case side3 => repeat (first | exact (Kd.R_reads' HO_247007.out).2.2 | (with_reducible refine Kd.C_alloc ?_ _) | (with_reducible refine Kd.C_drewN ?_ _) | (with_reducible refine Kd.C_drew ?_)))
                                            (case side4 => exact (Kd.R_reads' HO_247007.out).2.1)
                                            (case side5 => repeat (first | exact (Kd.S_reads' HO_247008.out).2.2 | (with_reducible refine Kd.C_alloc ?_ _) | (with_reducible refine Kd.C_drewN ?_ _) | (with_reducible refine Kd.C_drew ?_)))
                                            (case side6 => exact (Kd.S_reads' HO_247008.out).2.1)
                                            rintro e w57 ⟨v280, v283, v286, v289, rfl, ho0, ho1, ho2, ho3, hb⟩
                                            refine ⟨_, rfl, ?_⟩
                                            have n0_ := Aside0.mk (Kd.R_elder' (by (with_reducible repeat (first | apply Kd.R_alloc | apply Kd.R_drewN | apply Kd.R_drew)); exact HO_247006.out) (Kd.R_base ho0) hb)
                                            have n1_ := Aside0.mk (Kd.R_elder' (by (with_reducible repeat (first | apply Kd.R_alloc | apply Kd.R_drewN | apply Kd.R_drew)); exact HO_247007.out) (Kd.R_base ho1) hb)
                                            have n2_ := Aside0.mk (Kd.S_mono (Kd.S_told (Kd.S_told (Kd.S_old (by (with_reducible repeat (first | apply Kd.S_alloc | apply Kd.S_drewN | apply Kd.S_drew)); exact HO_247008.out) hb) (Kd.R_base ho0)) (Kd.S_base ho2)) (fun _ h_ => h_.1))
                                            have n3_ := Aside0.mk (Kd.R_lower (Kd.R_new' ho0 (Kd.R_lt (by (with_reducible repeat (first | apply Kd.R_alloc | apply Kd.R_drewN | apply Kd.R_drew)); exact HO_247006.out))) (below_size (by repeat (first | (with_reducible first | exact HB.out | apply below_alloc | apply pw_below_drewN | apply below_drew1 | refine below_set ?_ GE246.out) | exact HB.out))))
                                            have n4_ := Aside0.mk (Kd.R_lower (Kd.R_new' ho1 (Kd.R_lt (by (with_reducible repeat (first | apply Kd.R_alloc | apply Kd.R_drewN | apply Kd.R_drew)); exact HO_247007.out))) (below_size (by repeat (first | (with_reducible first | exact HB.out | apply below_alloc | apply pw_below_drewN | apply below_drew1 | refine below_set ?_ GE246.out) | exact HB.out))))
                                            have n5_ := Aside0.mk (Kd.S_lower (Kd.S_new' (Kd.S_new' ho2 (Kd.R_lt (by (with_reducible repeat (first | apply Kd.R_alloc | apply Kd.R_drewN | apply Kd.R_drew)); exact HO_247006.out))) (Kd.S_lt (by (with_reducible repeat (first | apply Kd.S_alloc | apply Kd.S_drewN | apply Kd.S_drew)); exact HO_247008.out))) (below_size (by repeat (first | (with_reducible first | exact HB.out | apply below_alloc | apply pw_below_drewN | apply below_drew1 | refine below_set ?_ GE246.out) | exact HB.out))))
                                            have n6_ := Aside0.mk (Kd.S_lower (Kd.S_new' ho3 (Kd.R_lt (by (with_reducible repeat (first | apply Kd.R_alloc | apply Kd.R_drewN | apply Kd.R_drew)); exact HO_247006.out))) (below_size (by repeat (first | (with_reducible first | exact HB.out | apply below_alloc | apply pw_below_drewN | apply below_drew1 | refine below_set ?_ GE246.out) | exact HB.out))))
                                            have n7_ := Aside0.mk (blk_below (g := gb246) (o := .cells #[.int .i64 x247000_19, .int .i64 x247001_19, .int .i64 x247002_19, .int .i64 x247003_19, .bool x247004_19, .int .i64 x247005_19, .slice Ao53 x247006_19.length co53, .slice Ao54 x247007_19.length co54, .slice Ao55 x247008_19.length co55] 26 (0, 0)) (by (with_reducible repeat (first | refine blk_drewN ?_ _ | refine blk_drew ?_ | refine blk_alloc ?_ _)); exact BK246.out) hb)
                                            have n8_ := Aside0.mk (below_step (by repeat (first | (with_reducible first | exact HB.out | apply below_alloc | apply pw_below_drewN | apply below_drew1 | refine below_set ?_ GE246.out) | exact HB.out)) hb)
                                            clear HO_247006
                                            clear HO_247007
                                            clear HO_247008
                                            clear BK246
                                            clear HB
                                            have HO_247006 := n0_
                                            have HO_247007 := n1_
                                            have HO_247008 := n2_
                                            have HO281 := n3_
                                            have HO284 := n4_
                                            have HO287 := n5_
                                            have HO290 := n6_
                                            have BK246 := n7_
                                            have HB := n8_
                                            clear n0_ n1_ n2_ n3_ n4_ n5_ n6_ n7_ n8_
                                            (try clear hb)
                                            (try clear hb2)
                                            (try clear hk)
                                            (try clear hi)
                                            (try clear ho0)
                                            (try clear ho1)
                                            (try clear ho2)
                                            (try clear ho3)
                                            refine hK.out _ _ ⟨(blk_cell BK246.out 0).trans rfl, (blk_cell BK246.out 1).trans rfl, (blk_cell BK246.out 2).trans rfl, (blk_cell BK246.out 3).trans rfl, (blk_cell BK246.out 4).trans rfl, (blk_cell BK246.out 5).trans rfl, (blk_cell BK246.out 6).trans rfl, (blk_cell BK246.out 7).trans rfl, (blk_cell BK246.out 8).trans rfl, ((HB.out.cell (World.block_lt_of_cell? w _ hw272_0)).trans hw272_0)⟩ (fun hHeld => ?_)
                                            clear hK K
                                            refine norm_ (a' := ?_) ?_ ?_
                                            rotate_left
                                            · show Act.put _ (some 99) _ = _
                                              simp only [Act.put, List.setIfInBounds_toArray, List.set_cons_zero, List.set_cons_succ, i64_w, i32_w]
                                              rfl
                                            refine pure_ (i := 6) (N := some 93) (v := ?_) (a' := ?_) #[true, true, true, true, true, true, true, false, false, false, false, false, false, false] rfl rfl (any_of HT_.out (by kernel_rfl)) (fun _ _ _ h => h) (Or.inl ⟨by rfl, ?_⟩) ?_ ?_
                                            rotate_left
                                            · intro w'
                                              go_simp
                                              with_reducible rfl
                                            rotate_left
                                            · simp only [Act.put, List.setIfInBounds_toArray, List.set_cons_zero, List.set_cons_succ, i64_w, i32_w]
                                              rfl
                                            refine pure_ (i := 7) (N := some 100) (v := ?_) (a' := ?_) #[true, true, true, true, true, true, true, true, false, false, false, false, false, false] rfl rfl (any_of HT_.out (by kernel_rfl)) (fun _ _ _ h => h) (Or.inl ⟨by rfl, ?_⟩) ?_ ?_
                                            rotate_left
                                            · intro w'
                                              go_simp
                                              with_reducible rfl
                                            rotate_left
                                            · simp only [Act.put, List.setIfInBounds_toArray, List.set_cons_zero, List.set_cons_succ, i64_w, i32_w]
                                              rfl
                                            refine pure_ (i := 8) (N := some 101) (v := ?_) (a' := ?_) #[true, true, true, true, true, true, true, true, true, false, false, false, false, false] rfl rfl (any_of HT_.out (by kernel_rfl)) (fun _ _ _ h => h) (Or.inl ⟨by rfl, ?_⟩) ?_ ?_
                                            rotate_left
                                            · intro w'
                                              go_simp
                                              with_reducible rfl
                                            rotate_left
                                            · simp only [Act.put, List.setIfInBounds_toArray, List.set_cons_zero, List.set_cons_succ, i64_w, i32_w]
                                              rfl
                                            refine pure_ (i := 9) (N := some 102) (v := ?_) (a' := ?_) #[true, true, true, true, true, true, true, true, true, true, false, false, false, false] rfl rfl (any_of HT_.out (by kernel_rfl)) (fun _ _ _ h => h) (Or.inl ⟨by rfl, ?_⟩) ?_ ?_
                                            rotate_left
                                            · intro w'
                                              go_simp
                                              with_reducible rfl
                                            rotate_left
                                            · simp only [Act.put, List.setIfInBounds_toArray, List.set_cons_zero, List.set_cons_succ, i64_w, i32_w]
                                              rfl
                                            refine one_ (i := 10) (N := some 11) #[true, true, true, true, true, true, true, true, true, true, true, false, false, false] rfl rfl (one_of HT_.out (by kernel_rfl)) (by decide) (fun K hK => ?_)
                                            refine box_step ?hg (N := 11) ?hd (cs := #[.int .i64 0, .int .i64 0, .int .i64 0, .int .i64 0, .bool false, .int .i64 0, .slice none 0 0, .slice none 0 0, .slice none 0 0]) (t := 26) ?hr ?_; (case hd => rfl); (case hg => rfl); (case hr => first | (go_simp; done) | (go_simp; rfl))
                                            intro gb292 hg w58 hbox hb
                                            have n0_ := Aside0.mk (Kd.R_below (by (with_reducible repeat (first | apply Kd.R_alloc | apply Kd.R_drewN | apply Kd.R_drew)); exact HO_247006.out) hb)
                                            have n1_ := Aside0.mk (Kd.R_below (by (with_reducible repeat (first | apply Kd.R_alloc | apply Kd.R_drewN | apply Kd.R_drew)); exact HO_247007.out) hb)
                                            have n2_ := Aside0.mk (Kd.S_below (by (with_reducible repeat (first | apply Kd.S_alloc | apply Kd.S_drewN | apply Kd.S_drew)); exact HO_247008.out) hb)
                                            have n3_ := Aside0.mk (Kd.R_below (by (with_reducible repeat (first | apply Kd.R_alloc | apply Kd.R_drewN | apply Kd.R_drew)); exact HO281.out) hb)
                                            have n4_ := Aside0.mk (Kd.R_below (by (with_reducible repeat (first | apply Kd.R_alloc | apply Kd.R_drewN | apply Kd.R_drew)); exact HO284.out) hb)
                                            have n5_ := Aside0.mk (Kd.S_below (by (with_reducible repeat (first | apply Kd.S_alloc | apply Kd.S_drewN | apply Kd.S_drew)); exact HO287.out) hb)
                                            have n6_ := Aside0.mk (Kd.S_below (by (with_reducible repeat (first | apply Kd.S_alloc | apply Kd.S_drewN | apply Kd.S_drew)); exact HO290.out) hb)
                                            have n7_ := Aside0.mk (blk_below (g := gb246) (o := .cells #[.int .i64 x247000_19, .int .i64 x247001_19, .int .i64 x247002_19, .int .i64 x247003_19, .bool x247004_19, .int .i64 x247005_19, .slice Ao53 x247006_19.length co53, .slice Ao54 x247007_19.length co54, .slice Ao55 x247008_19.length co55] 26 (0, 0)) (by (with_reducible repeat (first | refine blk_drewN ?_ _ | refine blk_drew ?_ | refine blk_alloc ?_ _)); exact BK246.out) hb)
                                            have n8_ := Aside0.mk (below_step (by repeat (first | (with_reducible first | exact HB.out | apply below_alloc | apply pw_below_drewN | apply below_drew1 | refine below_set ?_ GE246.out) | exact HB.out)) hb)
                                            have n9_ := Aside0.mk (hbox)
                                            have n10_ := Aside0.mk ((by rw [hg]; exact (below_size (by repeat (first | (with_reducible first | exact HB.out | apply below_alloc | apply pw_below_drewN | apply below_drew1 | refine below_set ?_ GE246.out) | exact HB.out))) : w.heap.size ≤ gb292))
                                            have n11_ := Aside0.mk ((by rw [hg]; exact (below_size (by repeat (first | (with_reducible first | exact HB.out | apply below_alloc | apply pw_below_drewN | apply below_drew1 | refine below_set ?_ GE246.out) | exact HB.out))) : w.heap.size ≤ gb292))
                                            have n12_ := Aside0.mk ((by rw [hg]; exact Nat.ne_of_lt (blk_lt (g := gb246) (o := .cells #[.int .i64 x247000_19, .int .i64 x247001_19, .int .i64 x247002_19, .int .i64 x247003_19, .bool x247004_19, .int .i64 x247005_19, .slice Ao53 x247006_19.length co53, .slice Ao54 x247007_19.length co54, .slice Ao55 x247008_19.length co55] 26 (0, 0)) (by (with_reducible repeat (first | refine blk_drewN ?_ _ | refine blk_drew ?_ | refine blk_alloc ?_ _)); exact BK246.out)) : gb246 ≠ gb292))
                                            have n13_ := Aside0.mk ((by rw [hg]; exact Nat.ne_of_gt (blk_lt (g := gb246) (o := .cells #[.int .i64 x247000_19, .int .i64 x247001_19, .int .i64 x247002_19, .int .i64 x247003_19, .bool x247004_19, .int .i64 x247005_19, .slice Ao53 x247006_19.length co53, .slice Ao54 x247007_19.length co54, .slice Ao55 x247008_19.length co55] 26 (0, 0)) (by (with_reducible repeat (first | refine blk_drewN ?_ _ | refine blk_drew ?_ | refine blk_alloc ?_ _)); exact BK246.out)) : gb292 ≠ gb246))
                                            clear HO_247006
                                            clear HO_247007
                                            clear HO_247008
                                            clear HO281
                                            clear HO284
                                            clear HO287
                                            clear HO290
                                            clear BK246
                                            clear HB
                                            have HO_247006 := n0_
                                            have HO_247007 := n1_
                                            have HO_247008 := n2_
                                            have HO281 := n3_
                                            have HO284 := n4_
                                            have HO287 := n5_
                                            have HO290 := n6_
                                            have BK246 := n7_
                                            have HB := n8_
                                            have BK292 := n9_
                                            have GW292 := n10_
                                            have GE292 := n11_
                                            have NB246_292 := n12_
                                            have NB292_246 := n13_
                                            clear n0_ n1_ n2_ n3_ n4_ n5_ n6_ n7_ n8_ n9_ n10_ n11_ n12_ n13_
                                            clear hb hbox hg
                                            refine hK.out _ _ ⟨(blk_cell BK246.out 0).trans rfl, (blk_cell BK246.out 1).trans rfl, (blk_cell BK246.out 2).trans rfl, (blk_cell BK246.out 3).trans rfl, (blk_cell BK246.out 4).trans rfl, (blk_cell BK246.out 5).trans rfl, (blk_cell BK246.out 6).trans rfl, (blk_cell BK246.out 7).trans rfl, (blk_cell BK246.out 8).trans rfl, ((HB.out.cell (World.block_lt_of_cell? w _ hw272_0)).trans hw272_0)⟩ (fun hHeld => ?_)
                                            clear hK K
                                            refine norm_ (a' := ?_) ?_ ?_
                                            rotate_left
                                            · show Act.put _ (some 11) _ = _
                                              simp only [Act.put, List.setIfInBounds_toArray, List.set_cons_zero, List.set_cons_succ, i64_w, i32_w]
                                              rfl
                                            exact norm_ (by simp only [putAll, Act.put, List.setIfInBounds_toArray, List.set_cons_zero, List.set_cons_succ]) (hCont (v280, v283, v286, v289, gb292) _ ⟨hHeld, (by (with_reducible repeat (first | apply Kd.R_alloc | apply Kd.R_drewN | apply Kd.R_drew)); exact Kd.R_mono HO281.out (fun _ hk => hk.2)), (by (with_reducible repeat (first | apply Kd.R_alloc | apply Kd.R_drewN | apply Kd.R_drew)); exact Kd.R_mono HO284.out (fun _ hk => hk.2)), (by (with_reducible repeat (first | apply Kd.S_alloc | apply Kd.S_drewN | apply Kd.S_drew)); exact Kd.S_mono HO287.out (fun _ hk => ⟨hk.1.1, ⟨hk.1.2, hk.2⟩⟩)), (by (with_reducible repeat (first | apply Kd.S_alloc | apply Kd.S_drewN | apply Kd.S_drew)); exact HO290.out), (by (with_reducible repeat (first | apply Kd.R_alloc | apply Kd.R_drewN | apply Kd.R_drew)); exact Kd.R_mono HO_247006.out (fun _ hk => hk.2)), (by (with_reducible repeat (first | apply Kd.R_alloc | apply Kd.R_drewN | apply Kd.R_drew)); exact Kd.R_mono HO_247007.out (fun _ hk => hk.2)), (by (with_reducible repeat (first | apply Kd.S_alloc | apply Kd.S_drewN | apply Kd.S_drew)); exact Kd.S_mono HO_247008.out (fun _ hk => ⟨hk.1.2, ⟨hk.2, hk.1.1⟩⟩)), (by (with_reducible repeat (first | refine blk_drewN ?_ _ | refine blk_drew ?_ | refine blk_alloc ?_ _)); exact BK246.out), (by (with_reducible repeat (first | refine blk_drewN ?_ _ | refine blk_drew ?_ | refine blk_alloc ?_ _)); exact BK292.out), GW292.out, GE292.out, NB246_292.out, NB292_246.out, (by repeat (first | (with_reducible first | exact HB.out | apply below_alloc | apply pw_below_drewN | apply below_drew1 | refine below_set ?_ GE246.out | refine below_set ?_ GE292.out) | exact HB.out))⟩)
                                          · skip
                                            refine box_step ?hg (N := 11) ?hd (cs := #[.int .i64 0, .int .i64 0, .int .i64 0, .int .i64 0, .bool false, .int .i64 0, .slice none 0 0, .slice none 0 0, .slice none 0 0]) (t := 26) ?hr ?_; (case hd => rfl); (case hg => rfl); (case hr => first | (go_simp; done) | (go_simp; rfl))
                                            intro gb292 hg w57 hbox hb
                                            have n0_ := Aside0.mk (Kd.R_below (by (with_reducible repeat (first | apply Kd.R_alloc | apply Kd.R_drewN | apply Kd.R_drew)); exact HO_247006.out) hb)
                                            have n1_ := Aside0.mk (Kd.R_below (by (with_reducible repeat (first | apply Kd.R_alloc | apply Kd.R_drewN | apply Kd.R_drew)); exact HO_247007.out) hb)
                                            have n2_ := Aside0.mk (Kd.S_below (by (with_reducible repeat (first | apply Kd.S_alloc | apply Kd.S_drewN | apply Kd.S_drew)); exact HO_247008.out) hb)
                                            have n3_ := Aside0.mk (blk_below (g := gb246) (o := .cells #[.int .i64 x247000_19, .int .i64 x247001_19, .int .i64 x247002_19, .int .i64 x247003_19, .bool x247004_19, .int .i64 x247005_19, .slice Ao53 x247006_19.length co53, .slice Ao54 x247007_19.length co54, .slice Ao55 x247008_19.length co55] 26 (0, 0)) (by (with_reducible repeat (first | refine blk_drewN ?_ _ | refine blk_drew ?_ | refine blk_alloc ?_ _)); exact BK246.out) hb)
                                            have n4_ := Aside0.mk (below_step (by repeat (first | (with_reducible first | exact HB.out | apply below_alloc | apply pw_below_drewN | apply below_drew1 | refine below_set ?_ GE246.out) | exact HB.out)) hb)
                                            have n5_ := Aside0.mk (hbox)
                                            have n6_ := Aside0.mk ((by rw [hg]; exact (below_size (by repeat (first | (with_reducible first | exact HB.out | apply below_alloc | apply pw_below_drewN | apply below_drew1 | refine below_set ?_ GE246.out) | exact HB.out))) : w.heap.size ≤ gb292))
                                            have n7_ := Aside0.mk ((by rw [hg]; exact (below_size (by repeat (first | (with_reducible first | exact HB.out | apply below_alloc | apply pw_below_drewN | apply below_drew1 | refine below_set ?_ GE246.out) | exact HB.out))) : w.heap.size ≤ gb292))
                                            have n8_ := Aside0.mk ((by rw [hg]; exact Nat.ne_of_lt (blk_lt (g := gb246) (o := .cells #[.int .i64 x247000_19, .int .i64 x247001_19, .int .i64 x247002_19, .int .i64 x247003_19, .bool x247004_19, .int .i64 x247005_19, .slice Ao53 x247006_19.length co53, .slice Ao54 x247007_19.length co54, .slice Ao55 x247008_19.length co55] 26 (0, 0)) (by (with_reducible repeat (first | refine blk_drewN ?_ _ | refine blk_drew ?_ | refine blk_alloc ?_ _)); exact BK246.out)) : gb246 ≠ gb292))
                                            have n9_ := Aside0.mk ((by rw [hg]; exact Nat.ne_of_gt (blk_lt (g := gb246) (o := .cells #[.int .i64 x247000_19, .int .i64 x247001_19, .int .i64 x247002_19, .int .i64 x247003_19, .bool x247004_19, .int .i64 x247005_19, .slice Ao53 x247006_19.length co53, .slice Ao54 x247007_19.length co54, .slice Ao55 x247008_19.length co55] 26 (0, 0)) (by (with_reducible repeat (first | refine blk_drewN ?_ _ | refine blk_drew ?_ | refine blk_alloc ?_ _)); exact BK246.out)) : gb292 ≠ gb246))
                                            clear HO_247006
                                            clear HO_247007
                                            clear HO_247008
                                            clear BK246
                                            clear HB
                                            have HO_247006 := n0_
                                            have HO_247007 := n1_
                                            have HO_247008 := n2_
                                            have BK246 := n3_
                                            have HB := n4_
                                            have BK292 := n5_
                                            have GW292 := n6_
                                            have GE292 := n7_
                                            have NB246_292 := n8_
                                            have NB292_246 := n9_
                                            clear n0_ n1_ n2_ n3_ n4_ n5_ n6_ n7_ n8_ n9_
                                            clear hb hbox hg
                                            refine hK.out _ _ ⟨(blk_cell BK246.out 0).trans rfl, (blk_cell BK246.out 1).trans rfl, (blk_cell BK246.out 2).trans rfl, (blk_cell BK246.out 3).trans rfl, (blk_cell BK246.out 4).trans rfl, (blk_cell BK246.out 5).trans rfl, (blk_cell BK246.out 6).trans rfl, (blk_cell BK246.out 7).trans rfl, (blk_cell BK246.out 8).trans rfl, ((HB.out.cell (World.block_lt_of_cell? w _ hw272_0)).trans hw272_0)⟩ (fun hHeld => ?_)
                                            clear hK K
                                            refine norm_ (a' := ?_) ?_ ?_
                                            rotate_left
                                            · show Act.put _ (some 11) _ = _
                                              simp only [Act.put, List.setIfInBounds_toArray, List.set_cons_zero, List.set_cons_succ, i64_w, i32_w]
                                              rfl
                                            refine one_ (i := 5) (N := some 99) #[true, true, true, true, true, true, false, false, false, false, true, false, false, false] rfl rfl (one_of HT_.out (by kernel_rfl)) (by decide) (fun K hK => ?_)
                                            refine goes_ Try.func13 (by kernel_rfl) rfl #[.agg #[.int .i64 x247000_19, .int .i64 x247001_19, .int .i64 x247002_19, .int .i64 x247003_19, .bool x247004_19, .int .i64 x247005_19, .slice Ao53 x247006_19.length co53, .slice Ao54 x247007_19.length co54, .slice Ao55 x247008_19.length co55], .string (rdOf ByteArray.empty l0 x7_2)] (by rfl) rfl rfl (by (try simp only [List.map_toArray, List.map_cons, List.map_nil]); first | done | rfl | (simp only [List.length_drop, List.length_take]; rfl)) ?_
                                            with_reducible refine (replica_Ask.calls x247000_19 x247001_19 x247002_19 x247003_19 x247004_19 x247005_19 _ _ x247006_19 _ _ x247007_19 _ _ x247008_19 (rdOf ByteArray.empty l0 x7_2) t273 t274 t275 t276 t277 t278 t279 t282 t285 t288 t291 _ ?side1 ?side2 ?side3 ?side4 ?side5 ?side6 A46.out).mono ?_
                                            (case side1 => repeat (first | exact (Kd.R_reads' HO_247006.out).2.2 | (with_reducible refine Kd.C_alloc ?_ _) | (with_reducible refine Kd.C_drewN ?_ _) | (with_reducible refine Kd.C_drew ?_)))
                                            (case side2 => exact (Kd.R_reads' HO_247006.out).2.1)
                                            (case side3 => repeat (first | exact (Kd.R_reads' HO_247007.out).2.2 | (with_reducible refine Kd.C_alloc ?_ _) | (with_reducible refine Kd.C_drewN ?_ _) | (with_reducible refine Kd.C_drew ?_)))
                                            (case side4 => exact (Kd.R_reads' HO_247007.out).2.1)
                                            (case side5 => repeat (first | exact (Kd.S_reads' HO_247008.out).2.2 | (with_reducible refine Kd.C_alloc ?_ _) | (with_reducible refine Kd.C_drewN ?_ _) | (with_reducible refine Kd.C_drew ?_)))
                                            (case side6 => exact (Kd.S_reads' HO_247008.out).2.1)
                                            rintro e w58 ⟨v280, v283, v286, v289, rfl, ho0, ho1, ho2, ho3, hb⟩
                                            refine ⟨_, rfl, ?_⟩
                                            have n0_ := Aside0.mk (Kd.R_elder' (by (with_reducible repeat (first | apply Kd.R_alloc | apply Kd.R_drewN | apply Kd.R_drew)); exact HO_247006.out) (Kd.R_base ho0) hb)
                                            have n1_ := Aside0.mk (Kd.R_elder' (by (with_reducible repeat (first | apply Kd.R_alloc | apply Kd.R_drewN | apply Kd.R_drew)); exact HO_247007.out) (Kd.R_base ho1) hb)
                                            have n2_ := Aside0.mk (Kd.S_mono (Kd.S_told (Kd.S_told (Kd.S_old (by (with_reducible repeat (first | apply Kd.S_alloc | apply Kd.S_drewN | apply Kd.S_drew)); exact HO_247008.out) hb) (Kd.R_base ho0)) (Kd.S_base ho2)) (fun _ h_ => h_.1))
                                            have n3_ := Aside0.mk (Kd.R_lower (Kd.R_new' ho0 (Kd.R_lt (by (with_reducible repeat (first | apply Kd.R_alloc | apply Kd.R_drewN | apply Kd.R_drew)); exact HO_247006.out))) (below_size (by repeat (first | (with_reducible first | exact HB.out | apply below_alloc | apply pw_below_drewN | apply below_drew1 | refine below_set ?_ GE246.out | refine below_set ?_ GE292.out) | exact HB.out))))
                                            have n4_ := Aside0.mk (Kd.R_lower (Kd.R_new' ho1 (Kd.R_lt (by (with_reducible repeat (first | apply Kd.R_alloc | apply Kd.R_drewN | apply Kd.R_drew)); exact HO_247007.out))) (below_size (by repeat (first | (with_reducible first | exact HB.out | apply below_alloc | apply pw_below_drewN | apply below_drew1 | refine below_set ?_ GE246.out | refine below_set ?_ GE292.out) | exact HB.out))))
                                            have n5_ := Aside0.mk (Kd.S_lower (Kd.S_new' (Kd.S_new' ho2 (Kd.R_lt (by (with_reducible repeat (first | apply Kd.R_alloc | apply Kd.R_drewN | apply Kd.R_drew)); exact HO_247006.out))) (Kd.S_lt (by (with_reducible repeat (first | apply Kd.S_alloc | apply Kd.S_drewN | apply Kd.S_drew)); exact HO_247008.out))) (below_size (by repeat (first | (with_reducible first | exact HB.out | apply below_alloc | apply pw_below_drewN | apply below_drew1 | refine below_set ?_ GE246.out | refine below_set ?_ GE292.out) | exact HB.out))))
                                            have n6_ := Aside0.mk (Kd.S_lower (Kd.S_new' ho3 (Kd.R_lt (by (with_reducible repeat (first | apply Kd.R_alloc | apply Kd.R_drewN | apply Kd.R_drew)); exact HO_247006.out))) (below_size (by repeat (first | (with_reducible first | exact HB.out | apply below_alloc | apply pw_below_drewN | apply below_drew1 | refine below_set ?_ GE246.out | refine below_set ?_ GE292.out) | exact HB.out))))
                                            have n7_ := Aside0.mk (blk_below (g := gb246) (o := .cells #[.int .i64 x247000_19, .int .i64 x247001_19, .int .i64 x247002_19, .int .i64 x247003_19, .bool x247004_19, .int .i64 x247005_19, .slice Ao53 x247006_19.length co53, .slice Ao54 x247007_19.length co54, .slice Ao55 x247008_19.length co55] 26 (0, 0)) (by (with_reducible repeat (first | refine blk_drewN ?_ _ | refine blk_drew ?_ | refine blk_alloc ?_ _)); exact BK246.out) hb)
                                            have n8_ := Aside0.mk (blk_below (g := gb292) (o := .cells #[.int .i64 0, .int .i64 0, .int .i64 0, .int .i64 0, .bool false, .int .i64 0, .slice none 0 0, .slice none 0 0, .slice none 0 0] 26 (0, 0)) (by (with_reducible repeat (first | refine blk_drewN ?_ _ | refine blk_drew ?_ | refine blk_alloc ?_ _)); exact BK292.out) hb)
                                            have n9_ := Aside0.mk (below_step (by repeat (first | (with_reducible first | exact HB.out | apply below_alloc | apply pw_below_drewN | apply below_drew1 | refine below_set ?_ GE246.out | refine below_set ?_ GE292.out) | exact HB.out)) hb)
                                            clear HO_247006
                                            clear HO_247007
                                            clear HO_247008
                                            clear BK246
                                            clear BK292
                                            clear HB
                                            have HO_247006 := n0_
                                            have HO_247007 := n1_
                                            have HO_247008 := n2_
                                            have HO281 := n3_
                                            have HO284 := n4_
                                            have HO287 := n5_
                                            have HO290 := n6_
                                            have BK246 := n7_
                                            have BK292 := n8_
                                            have HB := n9_
                                            clear n0_ n1_ n2_ n3_ n4_ n5_ n6_ n7_ n8_ n9_
                                            (try clear hb)
                                            (try clear hb2)
                                            (try clear hk)
                                            (try clear hi)
                                            (try clear ho0)
                                            (try clear ho1)
                                            (try clear ho2)
                                            (try clear ho3)
                                            refine hK.out _ _ ⟨(blk_cell BK246.out 0).trans rfl, (blk_cell BK246.out 1).trans rfl, (blk_cell BK246.out 2).trans rfl, (blk_cell BK246.out 3).trans rfl, (blk_cell BK246.out 4).trans rfl, (blk_cell BK246.out 5).trans rfl, (blk_cell BK246.out 6).trans rfl, (blk_cell BK246.out 7).trans rfl, (blk_cell BK246.out 8).trans rfl, ((HB.out.cell (World.block_lt_of_cell? w _ hw272_0)).trans hw272_0)⟩ (fun hHeld => ?_)
                                            clear hK K
                                            refine norm_ (a' := ?_) ?_ ?_
                                            rotate_left
                                            · show Act.put _ (some 99) _ = _
                                              simp only [Act.put, List.setIfInBounds_toArray, List.set_cons_zero, List.set_cons_succ, i64_w, i32_w]
                                              rfl
                                            refine pure_ (i := 6) (N := some 93) (v := ?_) (a' := ?_) #[true, true, true, true, true, true, true, false, false, false, true, false, false, false] rfl rfl (any_of HT_.out (by kernel_rfl)) (fun _ _ _ h => h) (Or.inl ⟨by rfl, ?_⟩) ?_ ?_
                                            rotate_left
                                            · intro w'
                                              go_simp
                                              with_reducible rfl
                                            rotate_left
                                            · simp only [Act.put, List.setIfInBounds_toArray, List.set_cons_zero, List.set_cons_succ, i64_w, i32_w]
                                              rfl
                                            refine pure_ (i := 7) (N := some 100) (v := ?_) (a' := ?_) #[true, true, true, true, true, true, true, true, false, false, true, false, false, false] rfl rfl (any_of HT_.out (by kernel_rfl)) (fun _ _ _ h => h) (Or.inl ⟨by rfl, ?_⟩) ?_ ?_
                                            rotate_left
                                            · intro w'
                                              go_simp
                                              with_reducible rfl
                                            rotate_left
                                            · simp only [Act.put, List.setIfInBounds_toArray, List.set_cons_zero, List.set_cons_succ, i64_w, i32_w]
                                              rfl
                                            refine pure_ (i := 8) (N := some 101) (v := ?_) (a' := ?_) #[true, true, true, true, true, true, true, true, true, false, true, false, false, false] rfl rfl (any_of HT_.out (by kernel_rfl)) (fun _ _ _ h => h) (Or.inl ⟨by rfl, ?_⟩) ?_ ?_
                                            rotate_left
                                            · intro w'
                                              go_simp
                                              with_reducible rfl
                                            rotate_left
                                            · simp only [Act.put, List.setIfInBounds_toArray, List.set_cons_zero, List.set_cons_succ, i64_w, i32_w]
                                              rfl
                                            refine pure_ (i := 9) (N := some 102) (v := ?_) (a' := ?_) #[true, true, true, true, true, true, true, true, true, true, true, false, false, false] rfl rfl (any_of HT_.out (by kernel_rfl)) (fun _ _ _ h => h) (Or.inl ⟨by rfl, ?_⟩) ?_ ?_
                                            rotate_left
                                            · intro w'
                                              go_simp
                                              with_reducible rfl
                                            rotate_left
                                            · simp only [Act.put, List.setIfInBounds_toArray, List.set_cons_zero, List.set_cons_succ, i64_w, i32_w]
                                              rfl
                                            exact norm_ (by simp only [putAll, Act.put, List.setIfInBounds_toArray, List.set_cons_zero, List.set_cons_succ]) (hCont (v280, v283, v286, v289, gb292) _ ⟨hHeld, (by (with_reducible repeat (first | apply Kd.R_alloc | apply Kd.R_drewN | apply Kd.R_drew)); exact Kd.R_mono HO281.out (fun _ hk => hk.2)), (by (with_reducible repeat (first | apply Kd.R_alloc | apply Kd.R_drewN | apply Kd.R_drew)); exact Kd.R_mono HO284.out (fun _ hk => hk.2)), (by (with_reducible repeat (first | apply Kd.S_alloc | apply Kd.S_drewN | apply Kd.S_drew)); exact Kd.S_mono HO287.out (fun _ hk => ⟨hk.1.1, ⟨hk.1.2, hk.2⟩⟩)), (by (with_reducible repeat (first | apply Kd.S_alloc | apply Kd.S_drewN | apply Kd.S_drew)); exact HO290.out), (by (with_reducible repeat (first | apply Kd.R_alloc | apply Kd.R_drewN | apply Kd.R_drew)); exact Kd.R_mono HO_247006.out (fun _ hk => hk.2)), (by (with_reducible repeat (first | apply Kd.R_alloc | apply Kd.R_drewN | apply Kd.R_drew)); exact Kd.R_mono HO_247007.out (fun _ hk => hk.2)), (by (with_reducible repeat (first | apply Kd.S_alloc | apply Kd.S_drewN | apply Kd.S_drew)); exact Kd.S_mono HO_247008.out (fun _ hk => ⟨hk.1.2, ⟨hk.2, hk.1.1⟩⟩)), (by (with_reducible repeat (first | refine blk_drewN ?_ _ | refine blk_drew ?_ | refine blk_alloc ?_ _)); exact BK246.out), (by (with_reducible repeat (first | refine blk_drewN ?_ _ | refine blk_drew ?_ | refine blk_alloc ?_ _)); exact BK292.out), GW292.out, GE292.out, NB246_292.out, NB292_246.out, (by repeat (first | (with_reducible first | exact HB.out | apply below_alloc | apply pw_below_drewN | apply below_drew1 | refine below_set ?_ GE246.out | refine below_set ?_ GE292.out) | exact HB.out))⟩)
                                        rintro ⟨v280, v283, v286, v289, gb292⟩ w59 ⟨hS_, h0_, h1_, h2_, h3_, h4_, h5_, h6_, h7_, h8_, h9_, h10_, h11_, h12_, h13_⟩
                                        have n0_ : Aside0 (Kd.R Kd.string 9 w59 w.heap.size (fun k_ => some k_ ≠ (.slice Ao53 x247006_19.length co53 : Value).ownBlock) v280 t279) := ⟨h0_⟩
                                        have n1_ : Aside0 (Kd.R (Kd.int .i64) 3 w59 w.heap.size (fun k_ => some k_ ≠ (.slice Ao54 x247007_19.length co54 : Value).ownBlock) v283 t282) := ⟨h1_⟩
                                        have n2_ : Aside0 (Kd.S k66 66 w59 w.heap.size (fun k_ => some k_ ≠ (v280 : Value).ownBlock ∧ some k_ ≠ (.slice Ao53 x247006_19.length co53 : Value).ownBlock ∧ some k_ ≠ (.slice Ao55 x247008_19.length co55 : Value).ownBlock) v286 t285) := ⟨h2_⟩
                                        have n3_ : Aside0 (Kd.S k28 28 w59 w.heap.size (fun k_ => some k_ ≠ (v280 : Value).ownBlock ∧ some k_ ≠ (.slice Ao53 x247006_19.length co53 : Value).ownBlock) v289 t288) := ⟨h3_⟩
                                        have n4_ : Aside0 (Kd.R Kd.string 9 w59 w.heap.size (fun k_ => some k_ ≠ (v280 : Value).ownBlock) (.slice Ao53 x247006_19.length co53) x247006_19) := ⟨h4_⟩
                                        have n5_ : Aside0 (Kd.R (Kd.int .i64) 3 w59 w.heap.size (fun k_ => some k_ ≠ (v283 : Value).ownBlock) (.slice Ao54 x247007_19.length co54) x247007_19) := ⟨h5_⟩
                                        have n6_ : Aside0 (Kd.S k66 66 w59 w.heap.size (fun k_ => some k_ ≠ (v280 : Value).ownBlock ∧ some k_ ≠ (v286 : Value).ownBlock ∧ some k_ ≠ (.slice Ao53 x247006_19.length co53 : Value).ownBlock) (.slice Ao55 x247008_19.length co55) x247008_19) := ⟨h6_⟩
                                        have n7_ : Aside0 (w59.heap[gb246]? = some (.cells #[.int .i64 x247000_19, .int .i64 x247001_19, .int .i64 x247002_19, .int .i64 x247003_19, .bool x247004_19, .int .i64 x247005_19, .slice Ao53 x247006_19.length co53, .slice Ao54 x247007_19.length co54, .slice Ao55 x247008_19.length co55] 26 (0, 0))) := ⟨h7_⟩
                                        have n8_ : Aside0 (w59.heap[gb292]? = some (.cells #[.int .i64 0, .int .i64 0, .int .i64 0, .int .i64 0, .bool false, .int .i64 0, .slice none 0 0, .slice none 0 0, .slice none 0 0] 26 (0, 0))) := ⟨h8_⟩
                                        have n9_ : Aside0 (w.heap.size ≤ gb292) := ⟨h9_⟩
                                        have n10_ : Aside0 (w.heap.size ≤ gb292) := ⟨h10_⟩
                                        have n11_ : Aside0 (gb246 ≠ gb292) := ⟨h11_⟩
                                        have n12_ : Aside0 (gb292 ≠ gb246) := ⟨h12_⟩
                                        have n13_ : Aside0 (Below w.heap.size w w59) := ⟨h13_⟩
                                        clear HO_247006
                                        clear HO_247007
                                        clear HO_247008
                                        clear BK246
                                        clear HB
                                        clear h0_ h1_ h2_ h3_ h4_ h5_ h6_ h7_ h8_ h9_ h10_ h11_ h12_ h13_
                                        have HO281 := n0_
                                        have HO284 := n1_
                                        have HO287 := n2_
                                        have HO290 := n3_
                                        have HO_247006 := n4_
                                        have HO_247007 := n5_
                                        have HO_247008 := n6_
                                        have BK246 := n7_
                                        have BK292 := n8_
                                        have GW292 := n9_
                                        have GE292 := n10_
                                        have NB246_292 := n11_
                                        have NB292_246 := n12_
                                        have HB := n13_
                                        clear n0_ n1_ n2_ n3_ n4_ n5_ n6_ n7_ n8_ n9_ n10_ n11_ n12_ n13_
                                        have hHeld : w59.cell? ⟨gb246, 0, none⟩ = some (.int .i64 x247000_19) ∧ w59.cell? ⟨gb246, 1, none⟩ = some (.int .i64 x247001_19) ∧ w59.cell? ⟨gb246, 2, none⟩ = some (.int .i64 x247002_19) ∧ w59.cell? ⟨gb246, 3, none⟩ = some (.int .i64 x247003_19) ∧ w59.cell? ⟨gb246, 4, none⟩ = some (.bool x247004_19) ∧ w59.cell? ⟨gb246, 5, none⟩ = some (.int .i64 x247005_19) ∧ w59.cell? ⟨gb246, 6, none⟩ = some (.slice Ao53 x247006_19.length co53) ∧ w59.cell? ⟨gb246, 7, none⟩ = some (.slice Ao54 x247007_19.length co54) ∧ w59.cell? ⟨gb246, 8, none⟩ = some (.slice Ao55 x247008_19.length co55) ∧ w59.cell? (ad270.add (x7_2).toNat) = some (.string (rdOf ByteArray.empty l0 x7_2)) := hS_
                                        obtain ⟨Ao66, co66, eo66⟩ := Kd.R_slice HO281.out
                                        (first | subst eo66 | (injection eo66 with f1_ f2_ f3_; have f4_ := f1_.symm; have f5_ := f3_.symm; clear f1_ f2_ f3_; subst f4_; subst f5_))
                                        obtain ⟨Ao68, co68, eo68⟩ := Kd.R_slice HO284.out
                                        (first | subst eo68 | (injection eo68 with f1_ f2_ f3_; have f4_ := f1_.symm; have f5_ := f3_.symm; clear f1_ f2_ f3_; subst f4_; subst f5_))
                                        obtain ⟨Ao70, co70, eo70⟩ := Kd.S_slice HO287.out
                                        (first | subst eo70 | (injection eo70 with f1_ f2_ f3_; have f4_ := f1_.symm; have f5_ := f3_.symm; clear f1_ f2_ f3_; subst f4_; subst f5_))
                                        refine norm_ (a' := ?_) ?_ ?_
                                        rotate_left
                                        · simp only [putAll, Act.put, List.setIfInBounds_toArray, List.set_cons_zero, List.set_cons_succ]
                                          rfl
                                        refine one_ (i := 11) (N := none) #[true, true, true, true, true, true, true, true, true, true, true, true, false, false] rfl rfl (one_of HT_.out (by kernel_rfl)) (by decide) (fun K hK => ?_)
                                        have hs60 : w59.cell? ⟨gb292, 0, none⟩ = some (.int .i64 0) := (blk_cell BK292.out 0).trans rfl
                                        have hfs60 := blk_frozen BK292.out 0
                                        have hns60_0 := NB246_292.out
                                        have hms60_0 := NB292_246.out
                                        have hs61 : w59.cell? ⟨gb292, 1, none⟩ = some (.int .i64 0) := (blk_cell BK292.out 1).trans rfl
                                        have hfs61 := blk_frozen BK292.out 1
                                        have hns61_0 := NB246_292.out
                                        have hms61_0 := NB292_246.out
                                        have hs62 : w59.cell? ⟨gb292, 2, none⟩ = some (.int .i64 0) := (blk_cell BK292.out 2).trans rfl
                                        have hfs62 := blk_frozen BK292.out 2
                                        have hns62_0 := NB246_292.out
                                        have hms62_0 := NB292_246.out
                                        have hs63 : w59.cell? ⟨gb292, 3, none⟩ = some (.int .i64 0) := (blk_cell BK292.out 3).trans rfl
                                        have hfs63 := blk_frozen BK292.out 3
                                        have hns63_0 := NB246_292.out
                                        have hms63_0 := NB292_246.out
                                        have hs64 : w59.cell? ⟨gb292, 4, none⟩ = some (.bool false) := (blk_cell BK292.out 4).trans rfl
                                        have hfs64 := blk_frozen BK292.out 4
                                        have hns64_0 := NB246_292.out
                                        have hms64_0 := NB292_246.out
                                        have hs65 : w59.cell? ⟨gb292, 5, none⟩ = some (.int .i64 0) := (blk_cell BK292.out 5).trans rfl
                                        have hfs65 := blk_frozen BK292.out 5
                                        have hns65_0 := NB246_292.out
                                        have hms65_0 := NB292_246.out
                                        have hs67 : w59.cell? ⟨gb292, 6, none⟩ = some (.slice none 0 0) := (blk_cell BK292.out 6).trans rfl
                                        have hfs67 := blk_frozen BK292.out 6
                                        have hns67_0 := NB246_292.out
                                        have hms67_0 := NB292_246.out
                                        have hs69 : w59.cell? ⟨gb292, 7, none⟩ = some (.slice none 0 0) := (blk_cell BK292.out 7).trans rfl
                                        have hfs69 := blk_frozen BK292.out 7
                                        have hns69_0 := NB246_292.out
                                        have hms69_0 := NB292_246.out
                                        have hs71 : w59.cell? ⟨gb292, 8, none⟩ = some (.slice none 0 0) := (blk_cell BK292.out 8).trans rfl
                                        have hfs71 := blk_frozen BK292.out 8
                                        have hns71_0 := NB246_292.out
                                        have hms71_0 := NB292_246.out
                                        refine skip_ (w1 := ?_) (by rfl) rfl ?_ ?_
                                        rotate_left
                                        · go_simp
                                          rfl
                                        refine hK.out _ _ ⟨((cell_far (p := ⟨gb292, _, none⟩) NB246_292.out _).trans (((cell_far (p := ⟨gb292, _, none⟩) NB246_292.out _).trans (((cell_far (p := ⟨gb292, _, none⟩) NB246_292.out _).trans (((cell_far (p := ⟨gb292, _, none⟩) NB246_292.out _).trans (((cell_far (p := ⟨gb292, _, none⟩) NB246_292.out _).trans (((cell_far (p := ⟨gb292, _, none⟩) NB246_292.out _).trans (((cell_far (p := ⟨gb292, _, none⟩) NB246_292.out _).trans (((cell_far (p := ⟨gb292, _, none⟩) NB246_292.out _).trans (((cell_far (p := ⟨gb292, _, none⟩) NB246_292.out _).trans (hHeld.1)))))))))))))))))), ((cell_far (p := ⟨gb292, _, none⟩) NB246_292.out _).trans (((cell_far (p := ⟨gb292, _, none⟩) NB246_292.out _).trans (((cell_far (p := ⟨gb292, _, none⟩) NB246_292.out _).trans (((cell_far (p := ⟨gb292, _, none⟩) NB246_292.out _).trans (((cell_far (p := ⟨gb292, _, none⟩) NB246_292.out _).trans (((cell_far (p := ⟨gb292, _, none⟩) NB246_292.out _).trans (((cell_far (p := ⟨gb292, _, none⟩) NB246_292.out _).trans (((cell_far (p := ⟨gb292, _, none⟩) NB246_292.out _).trans (((cell_far (p := ⟨gb292, _, none⟩) NB246_292.out _).trans (hHeld.2.1)))))))))))))))))), ((cell_far (p := ⟨gb292, _, none⟩) NB246_292.out _).trans (((cell_far (p := ⟨gb292, _, none⟩) NB246_292.out _).trans (((cell_far (p := ⟨gb292, _, none⟩) NB246_292.out _).trans (((cell_far (p := ⟨gb292, _, none⟩) NB246_292.out _).trans (((cell_far (p := ⟨gb292, _, none⟩) NB246_292.out _).trans (((cell_far (p := ⟨gb292, _, none⟩) NB246_292.out _).trans (((cell_far (p := ⟨gb292, _, none⟩) NB246_292.out _).trans (((cell_far (p := ⟨gb292, _, none⟩) NB246_292.out _).trans (((cell_far (p := ⟨gb292, _, none⟩) NB246_292.out _).trans (hHeld.2.2.1)))))))))))))))))), ((cell_far (p := ⟨gb292, _, none⟩) NB246_292.out _).trans (((cell_far (p := ⟨gb292, _, none⟩) NB246_292.out _).trans (((cell_far (p := ⟨gb292, _, none⟩) NB246_292.out _).trans (((cell_far (p := ⟨gb292, _, none⟩) NB246_292.out _).trans (((cell_far (p := ⟨gb292, _, none⟩) NB246_292.out _).trans (((cell_far (p := ⟨gb292, _, none⟩) NB246_292.out _).trans (((cell_far (p := ⟨gb292, _, none⟩) NB246_292.out _).trans (((cell_far (p := ⟨gb292, _, none⟩) NB246_292.out _).trans (((cell_far (p := ⟨gb292, _, none⟩) NB246_292.out _).trans (hHeld.2.2.2.1)))))))))))))))))), ((cell_far (p := ⟨gb292, _, none⟩) NB246_292.out _).trans (((cell_far (p := ⟨gb292, _, none⟩) NB246_292.out _).trans (((cell_far (p := ⟨gb292, _, none⟩) NB246_292.out _).trans (((cell_far (p := ⟨gb292, _, none⟩) NB246_292.out _).trans (((cell_far (p := ⟨gb292, _, none⟩) NB246_292.out _).trans (((cell_far (p := ⟨gb292, _, none⟩) NB246_292.out _).trans (((cell_far (p := ⟨gb292, _, none⟩) NB246_292.out _).trans (((cell_far (p := ⟨gb292, _, none⟩) NB246_292.out _).trans (((cell_far (p := ⟨gb292, _, none⟩) NB246_292.out _).trans (hHeld.2.2.2.2.1)))))))))))))))))), ((cell_far (p := ⟨gb292, _, none⟩) NB246_292.out _).trans (((cell_far (p := ⟨gb292, _, none⟩) NB246_292.out _).trans (((cell_far (p := ⟨gb292, _, none⟩) NB246_292.out _).trans (((cell_far (p := ⟨gb292, _, none⟩) NB246_292.out _).trans (((cell_far (p := ⟨gb292, _, none⟩) NB246_292.out _).trans (((cell_far (p := ⟨gb292, _, none⟩) NB246_292.out _).trans (((cell_far (p := ⟨gb292, _, none⟩) NB246_292.out _).trans (((cell_far (p := ⟨gb292, _, none⟩) NB246_292.out _).trans (((cell_far (p := ⟨gb292, _, none⟩) NB246_292.out _).trans (hHeld.2.2.2.2.2.1)))))))))))))))))), ((cell_far (p := ⟨gb292, _, none⟩) NB246_292.out _).trans (((cell_far (p := ⟨gb292, _, none⟩) NB246_292.out _).trans (((cell_far (p := ⟨gb292, _, none⟩) NB246_292.out _).trans (((cell_far (p := ⟨gb292, _, none⟩) NB246_292.out _).trans (((cell_far (p := ⟨gb292, _, none⟩) NB246_292.out _).trans (((cell_far (p := ⟨gb292, _, none⟩) NB246_292.out _).trans (((cell_far (p := ⟨gb292, _, none⟩) NB246_292.out _).trans (((cell_far (p := ⟨gb292, _, none⟩) NB246_292.out _).trans (((cell_far (p := ⟨gb292, _, none⟩) NB246_292.out _).trans (hHeld.2.2.2.2.2.2.1)))))))))))))))))), ((cell_far (p := ⟨gb292, _, none⟩) NB246_292.out _).trans (((cell_far (p := ⟨gb292, _, none⟩) NB246_292.out _).trans (((cell_far (p := ⟨gb292, _, none⟩) NB246_292.out _).trans (((cell_far (p := ⟨gb292, _, none⟩) NB246_292.out _).trans (((cell_far (p := ⟨gb292, _, none⟩) NB246_292.out _).trans (((cell_far (p := ⟨gb292, _, none⟩) NB246_292.out _).trans (((cell_far (p := ⟨gb292, _, none⟩) NB246_292.out _).trans (((cell_far (p := ⟨gb292, _, none⟩) NB246_292.out _).trans (((cell_far (p := ⟨gb292, _, none⟩) NB246_292.out _).trans (hHeld.2.2.2.2.2.2.2.1)))))))))))))))))), ((cell_far (p := ⟨gb292, _, none⟩) NB246_292.out _).trans (((cell_far (p := ⟨gb292, _, none⟩) NB246_292.out _).trans (((cell_far (p := ⟨gb292, _, none⟩) NB246_292.out _).trans (((cell_far (p := ⟨gb292, _, none⟩) NB246_292.out _).trans (((cell_far (p := ⟨gb292, _, none⟩) NB246_292.out _).trans (((cell_far (p := ⟨gb292, _, none⟩) NB246_292.out _).trans (((cell_far (p := ⟨gb292, _, none⟩) NB246_292.out _).trans (((cell_far (p := ⟨gb292, _, none⟩) NB246_292.out _).trans (((cell_far (p := ⟨gb292, _, none⟩) NB246_292.out _).trans (hHeld.2.2.2.2.2.2.2.2.1)))))))))))))))))), ((cell_far (p := ⟨gb292, _, none⟩) (by first | exact Nat.ne_of_lt (Nat.lt_of_lt_of_le (by have := World.block_lt_of_cell? _ _ hw272_0; first | rwa [add_block] at this | exact this) GW292.out) | (rw [add_block]; exact Nat.ne_of_lt (Nat.lt_of_lt_of_le (by have := World.block_lt_of_cell? _ _ hw272_0; first | rwa [add_block] at this | exact this) GW292.out)) | (show (Addr.add _ _).block ≠ _; rw [add_block]; exact Nat.ne_of_lt (Nat.lt_of_lt_of_le (by have := World.block_lt_of_cell? _ _ hw272_0; first | rwa [add_block] at this | exact this) GW292.out)) | (dsimp only; exact Nat.ne_of_lt (Nat.lt_of_lt_of_le (by have := World.block_lt_of_cell? _ _ hw272_0; first | rwa [add_block] at this | exact this) GW292.out))) _).trans (((cell_far (p := ⟨gb292, _, none⟩) (by first | exact Nat.ne_of_lt (Nat.lt_of_lt_of_le (by have := World.block_lt_of_cell? _ _ hw272_0; first | rwa [add_block] at this | exact this) GW292.out) | (rw [add_block]; exact Nat.ne_of_lt (Nat.lt_of_lt_of_le (by have := World.block_lt_of_cell? _ _ hw272_0; first | rwa [add_block] at this | exact this) GW292.out)) | (show (Addr.add _ _).block ≠ _; rw [add_block]; exact Nat.ne_of_lt (Nat.lt_of_lt_of_le (by have := World.block_lt_of_cell? _ _ hw272_0; first | rwa [add_block] at this | exact this) GW292.out)) | (dsimp only; exact Nat.ne_of_lt (Nat.lt_of_lt_of_le (by have := World.block_lt_of_cell? _ _ hw272_0; first | rwa [add_block] at this | exact this) GW292.out))) _).trans (((cell_far (p := ⟨gb292, _, none⟩) (by first | exact Nat.ne_of_lt (Nat.lt_of_lt_of_le (by have := World.block_lt_of_cell? _ _ hw272_0; first | rwa [add_block] at this | exact this) GW292.out) | (rw [add_block]; exact Nat.ne_of_lt (Nat.lt_of_lt_of_le (by have := World.block_lt_of_cell? _ _ hw272_0; first | rwa [add_block] at this | exact this) GW292.out)) | (show (Addr.add _ _).block ≠ _; rw [add_block]; exact Nat.ne_of_lt (Nat.lt_of_lt_of_le (by have := World.block_lt_of_cell? _ _ hw272_0; first | rwa [add_block] at this | exact this) GW292.out)) | (dsimp only; exact Nat.ne_of_lt (Nat.lt_of_lt_of_le (by have := World.block_lt_of_cell? _ _ hw272_0; first | rwa [add_block] at this | exact this) GW292.out))) _).trans (((cell_far (p := ⟨gb292, _, none⟩) (by first | exact Nat.ne_of_lt (Nat.lt_of_lt_of_le (by have := World.block_lt_of_cell? _ _ hw272_0; first | rwa [add_block] at this | exact this) GW292.out) | (rw [add_block]; exact Nat.ne_of_lt (Nat.lt_of_lt_of_le (by have := World.block_lt_of_cell? _ _ hw272_0; first | rwa [add_block] at this | exact this) GW292.out)) | (show (Addr.add _ _).block ≠ _; rw [add_block]; exact Nat.ne_of_lt (Nat.lt_of_lt_of_le (by have := World.block_lt_of_cell? _ _ hw272_0; first | rwa [add_block] at this | exact this) GW292.out)) | (dsimp only; exact Nat.ne_of_lt (Nat.lt_of_lt_of_le (by have := World.block_lt_of_cell? _ _ hw272_0; first | rwa [add_block] at this | exact this) GW292.out))) _).trans (((cell_far (p := ⟨gb292, _, none⟩) (by first | exact Nat.ne_of_lt (Nat.lt_of_lt_of_le (by have := World.block_lt_of_cell? _ _ hw272_0; first | rwa [add_block] at this | exact this) GW292.out) | (rw [add_block]; exact Nat.ne_of_lt (Nat.lt_of_lt_of_le (by have := World.block_lt_of_cell? _ _ hw272_0; first | rwa [add_block] at this | exact this) GW292.out)) | (show (Addr.add _ _).block ≠ _; rw [add_block]; exact Nat.ne_of_lt (Nat.lt_of_lt_of_le (by have := World.block_lt_of_cell? _ _ hw272_0; first | rwa [add_block] at this | exact this) GW292.out)) | (dsimp only; exact Nat.ne_of_lt (Nat.lt_of_lt_of_le (by have := World.block_lt_of_cell? _ _ hw272_0; first | rwa [add_block] at this | exact this) GW292.out))) _).trans (((cell_far (p := ⟨gb292, _, none⟩) (by first | exact Nat.ne_of_lt (Nat.lt_of_lt_of_le (by have := World.block_lt_of_cell? _ _ hw272_0; first | rwa [add_block] at this | exact this) GW292.out) | (rw [add_block]; exact Nat.ne_of_lt (Nat.lt_of_lt_of_le (by have := World.block_lt_of_cell? _ _ hw272_0; first | rwa [add_block] at this | exact this) GW292.out)) | (show (Addr.add _ _).block ≠ _; rw [add_block]; exact Nat.ne_of_lt (Nat.lt_of_lt_of_le (by have := World.block_lt_of_cell? _ _ hw272_0; first | rwa [add_block] at this | exact this) GW292.out)) | (dsimp only; exact Nat.ne_of_lt (Nat.lt_of_lt_of_le (by have := World.block_lt_of_cell? _ _ hw272_0; first | rwa [add_block] at this | exact this) GW292.out))) _).trans (((cell_far (p := ⟨gb292, _, none⟩) (by first | exact Nat.ne_of_lt (Nat.lt_of_lt_of_le (by have := World.block_lt_of_cell? _ _ hw272_0; first | rwa [add_block] at this | exact this) GW292.out) | (rw [add_block]; exact Nat.ne_of_lt (Nat.lt_of_lt_of_le (by have := World.block_lt_of_cell? _ _ hw272_0; first | rwa [add_block] at this | exact this) GW292.out)) | (show (Addr.add _ _).block ≠ _; rw [add_block]; exact Nat.ne_of_lt (Nat.lt_of_lt_of_le (by have := World.block_lt_of_cell? _ _ hw272_0; first | rwa [add_block] at this | exact this) GW292.out)) | (dsimp only; exact Nat.ne_of_lt (Nat.lt_of_lt_of_le (by have := World.block_lt_of_cell? _ _ hw272_0; first | rwa [add_block] at this | exact this) GW292.out))) _).trans (((cell_far (p := ⟨gb292, _, none⟩) (by first | exact Nat.ne_of_lt (Nat.lt_of_lt_of_le (by have := World.block_lt_of_cell? _ _ hw272_0; first | rwa [add_block] at this | exact this) GW292.out) | (rw [add_block]; exact Nat.ne_of_lt (Nat.lt_of_lt_of_le (by have := World.block_lt_of_cell? _ _ hw272_0; first | rwa [add_block] at this | exact this) GW292.out)) | (show (Addr.add _ _).block ≠ _; rw [add_block]; exact Nat.ne_of_lt (Nat.lt_of_lt_of_le (by have := World.block_lt_of_cell? _ _ hw272_0; first | rwa [add_block] at this | exact this) GW292.out)) | (dsimp only; exact Nat.ne_of_lt (Nat.lt_of_lt_of_le (by have := World.block_lt_of_cell? _ _ hw272_0; first | rwa [add_block] at this | exact this) GW292.out))) _).trans (((cell_far (p := ⟨gb292, _, none⟩) (by first | exact Nat.ne_of_lt (Nat.lt_of_lt_of_le (by have := World.block_lt_of_cell? _ _ hw272_0; first | rwa [add_block] at this | exact this) GW292.out) | (rw [add_block]; exact Nat.ne_of_lt (Nat.lt_of_lt_of_le (by have := World.block_lt_of_cell? _ _ hw272_0; first | rwa [add_block] at this | exact this) GW292.out)) | (show (Addr.add _ _).block ≠ _; rw [add_block]; exact Nat.ne_of_lt (Nat.lt_of_lt_of_le (by have := World.block_lt_of_cell? _ _ hw272_0; first | rwa [add_block] at this | exact this) GW292.out)) | (dsimp only; exact Nat.ne_of_lt (Nat.lt_of_lt_of_le (by have := World.block_lt_of_cell? _ _ hw272_0; first | rwa [add_block] at this | exact this) GW292.out))) _).trans (hHeld.2.2.2.2.2.2.2.2.2))))))))))))))))))⟩ (fun hHeld => ?_)
                                        clear hK K
                                        refine pure_ (i := 12) (N := some 12) (v := ?_) (a' := ?_) #[true, true, true, true, true, true, true, true, true, true, true, true, true, false] rfl rfl (any_of HT_.out (by kernel_rfl)) (fun _ _ _ h => h) (Or.inl ⟨by rfl, ?_⟩) ?_ ?_
                                        rotate_left
                                        · intro w'
                                          go_simp
                                          with_reducible rfl
                                        rotate_left
                                        · simp only [Act.put, List.setIfInBounds_toArray, List.set_cons_zero, List.set_cons_succ, i64_w, i32_w]
                                          rfl
                                        refine pure_ (i := 13) (N := some 13) (v := ?_) (a' := ?_) #[true, true, true, true, true, true, true, true, true, true, true, true, true, true] rfl rfl (any_of HT_.out (by kernel_rfl)) (fun _ _ _ h => h) (Or.inl ⟨by rfl, ?_⟩) ?_ ?_
                                        rotate_left
                                        · intro w'
                                          go_simp
                                          with_reducible rfl
                                        rotate_left
                                        · simp only [Act.put, List.setIfInBounds_toArray, List.set_cons_zero, List.set_cons_succ, i64_w, i32_w]
                                          rfl
                                        refine done_ (done_of HT_.out (by kernel_rfl)) ?_
                                        try go_wp2
                                        have n0_ : Aside0 (Kd.R Kd.string 9 (((((((((w59.setCell ⟨gb292, 0, none⟩ (.int .i64 t273)).setCell ⟨gb292, 1, none⟩ (.int .i64 t274)).setCell ⟨gb292, 2, none⟩ (.int .i64 t275)).setCell ⟨gb292, 3, none⟩ (.int .i64 t276)).setCell ⟨gb292, 4, none⟩ (.bool t277)).setCell ⟨gb292, 5, none⟩ (.int .i64 t278)).setCell ⟨gb292, 6, none⟩ (.slice Ao66 t279.length co66)).setCell ⟨gb292, 7, none⟩ (.slice Ao68 t282.length co68)).setCell ⟨gb292, 8, none⟩ (.slice Ao70 t285.length co70)) w.heap.size (fun k_ => some k_ ≠ (.slice Ao66 t279.length co66 : Value).ownBlock) (.slice Ao53 x247006_19.length co53) x247006_19) := ⟨by (with_reducible repeat (first | apply Kd.R_alloc | apply Kd.R_drewN | apply Kd.R_drew)); exact Kd.R_mono (Kd.R_far (p := ⟨gb292, 8, none⟩) (Kd.R_far (p := ⟨gb292, 7, none⟩) (Kd.R_far (p := ⟨gb292, 6, none⟩) (Kd.R_far (p := ⟨gb292, 5, none⟩) (Kd.R_far (p := ⟨gb292, 4, none⟩) (Kd.R_far (p := ⟨gb292, 3, none⟩) (Kd.R_far (p := ⟨gb292, 2, none⟩) (Kd.R_far (p := ⟨gb292, 1, none⟩) (Kd.R_far (p := ⟨gb292, 0, none⟩) (Kd.R_types HO_247006.out BK292.out (by decide)) (fun _ hk => hk.2) (.int .i64 t273)) (fun _ hk => hk.2) (.int .i64 t274)) (fun _ hk => hk.2) (.int .i64 t275)) (fun _ hk => hk.2) (.int .i64 t276)) (fun _ hk => hk.2) (.bool t277)) (fun _ hk => hk.2) (.int .i64 t278)) (fun _ hk => hk.2) (.slice Ao66 t279.length co66)) (fun _ hk => hk.2) (.slice Ao68 t282.length co68)) (fun _ hk => hk.2) (.slice Ao70 t285.length co70)) (fun _ hk => hk.1)⟩
                                        have n1_ : Aside0 (Kd.R (Kd.int .i64) 3 (((((((((w59.setCell ⟨gb292, 0, none⟩ (.int .i64 t273)).setCell ⟨gb292, 1, none⟩ (.int .i64 t274)).setCell ⟨gb292, 2, none⟩ (.int .i64 t275)).setCell ⟨gb292, 3, none⟩ (.int .i64 t276)).setCell ⟨gb292, 4, none⟩ (.bool t277)).setCell ⟨gb292, 5, none⟩ (.int .i64 t278)).setCell ⟨gb292, 6, none⟩ (.slice Ao66 t279.length co66)).setCell ⟨gb292, 7, none⟩ (.slice Ao68 t282.length co68)).setCell ⟨gb292, 8, none⟩ (.slice Ao70 t285.length co70)) w.heap.size (fun k_ => some k_ ≠ (.slice Ao68 t282.length co68 : Value).ownBlock) (.slice Ao54 x247007_19.length co54) x247007_19) := ⟨by (with_reducible repeat (first | apply Kd.R_alloc | apply Kd.R_drewN | apply Kd.R_drew)); exact Kd.R_mono (Kd.R_far (p := ⟨gb292, 8, none⟩) (Kd.R_far (p := ⟨gb292, 7, none⟩) (Kd.R_far (p := ⟨gb292, 6, none⟩) (Kd.R_far (p := ⟨gb292, 5, none⟩) (Kd.R_far (p := ⟨gb292, 4, none⟩) (Kd.R_far (p := ⟨gb292, 3, none⟩) (Kd.R_far (p := ⟨gb292, 2, none⟩) (Kd.R_far (p := ⟨gb292, 1, none⟩) (Kd.R_far (p := ⟨gb292, 0, none⟩) (Kd.R_types HO_247007.out BK292.out (by decide)) (fun _ hk => hk.2) (.int .i64 t273)) (fun _ hk => hk.2) (.int .i64 t274)) (fun _ hk => hk.2) (.int .i64 t275)) (fun _ hk => hk.2) (.int .i64 t276)) (fun _ hk => hk.2) (.bool t277)) (fun _ hk => hk.2) (.int .i64 t278)) (fun _ hk => hk.2) (.slice Ao66 t279.length co66)) (fun _ hk => hk.2) (.slice Ao68 t282.length co68)) (fun _ hk => hk.2) (.slice Ao70 t285.length co70)) (fun _ hk => hk.1)⟩
                                        have n2_ : Aside0 (Kd.S k66 66 (((((((((w59.setCell ⟨gb292, 0, none⟩ (.int .i64 t273)).setCell ⟨gb292, 1, none⟩ (.int .i64 t274)).setCell ⟨gb292, 2, none⟩ (.int .i64 t275)).setCell ⟨gb292, 3, none⟩ (.int .i64 t276)).setCell ⟨gb292, 4, none⟩ (.bool t277)).setCell ⟨gb292, 5, none⟩ (.int .i64 t278)).setCell ⟨gb292, 6, none⟩ (.slice Ao66 t279.length co66)).setCell ⟨gb292, 7, none⟩ (.slice Ao68 t282.length co68)).setCell ⟨gb292, 8, none⟩ (.slice Ao70 t285.length co70)) w.heap.size (fun k_ => some k_ ≠ (.slice Ao53 x247006_19.length co53 : Value).ownBlock ∧ some k_ ≠ (.slice Ao66 t279.length co66 : Value).ownBlock ∧ some k_ ≠ (.slice Ao70 t285.length co70 : Value).ownBlock) (.slice Ao55 x247008_19.length co55) x247008_19) := ⟨by (with_reducible repeat (first | apply Kd.S_alloc | apply Kd.S_drewN | apply Kd.S_drew)); exact Kd.S_mono (Kd.S_far (p := ⟨gb292, 8, none⟩) (Kd.S_far (p := ⟨gb292, 7, none⟩) (Kd.S_far (p := ⟨gb292, 6, none⟩) (Kd.S_far (p := ⟨gb292, 5, none⟩) (Kd.S_far (p := ⟨gb292, 4, none⟩) (Kd.S_far (p := ⟨gb292, 3, none⟩) (Kd.S_far (p := ⟨gb292, 2, none⟩) (Kd.S_far (p := ⟨gb292, 1, none⟩) (Kd.S_far (p := ⟨gb292, 0, none⟩) (Kd.S_types HO_247008.out BK292.out (by decide)) (fun _ hk => hk.2) (.int .i64 t273)) (fun _ hk => hk.2) (.int .i64 t274)) (fun _ hk => hk.2) (.int .i64 t275)) (fun _ hk => hk.2) (.int .i64 t276)) (fun _ hk => hk.2) (.bool t277)) (fun _ hk => hk.2) (.int .i64 t278)) (fun _ hk => hk.2) (.slice Ao66 t279.length co66)) (fun _ hk => hk.2) (.slice Ao68 t282.length co68)) (fun _ hk => hk.2) (.slice Ao70 t285.length co70)) (fun _ hk => ⟨hk.1.2.2, ⟨hk.1.1, hk.1.2.1⟩⟩)⟩
                                        have n3_ : Aside0 (Kd.R Kd.string 9 (((((((((w59.setCell ⟨gb292, 0, none⟩ (.int .i64 t273)).setCell ⟨gb292, 1, none⟩ (.int .i64 t274)).setCell ⟨gb292, 2, none⟩ (.int .i64 t275)).setCell ⟨gb292, 3, none⟩ (.int .i64 t276)).setCell ⟨gb292, 4, none⟩ (.bool t277)).setCell ⟨gb292, 5, none⟩ (.int .i64 t278)).setCell ⟨gb292, 6, none⟩ (.slice Ao66 t279.length co66)).setCell ⟨gb292, 7, none⟩ (.slice Ao68 t282.length co68)).setCell ⟨gb292, 8, none⟩ (.slice Ao70 t285.length co70)) w.heap.size (fun k_ => some k_ ≠ (.slice Ao53 x247006_19.length co53 : Value).ownBlock) (.slice Ao66 t279.length co66) t279) := ⟨by (with_reducible repeat (first | apply Kd.R_alloc | apply Kd.R_drewN | apply Kd.R_drew)); exact Kd.R_mono (Kd.R_far (p := ⟨gb292, 8, none⟩) (Kd.R_far (p := ⟨gb292, 7, none⟩) (Kd.R_far (p := ⟨gb292, 6, none⟩) (Kd.R_far (p := ⟨gb292, 5, none⟩) (Kd.R_far (p := ⟨gb292, 4, none⟩) (Kd.R_far (p := ⟨gb292, 3, none⟩) (Kd.R_far (p := ⟨gb292, 2, none⟩) (Kd.R_far (p := ⟨gb292, 1, none⟩) (Kd.R_far (p := ⟨gb292, 0, none⟩) (Kd.R_types HO281.out BK292.out (by decide)) (fun _ hk => hk.2) (.int .i64 t273)) (fun _ hk => hk.2) (.int .i64 t274)) (fun _ hk => hk.2) (.int .i64 t275)) (fun _ hk => hk.2) (.int .i64 t276)) (fun _ hk => hk.2) (.bool t277)) (fun _ hk => hk.2) (.int .i64 t278)) (fun _ hk => hk.2) (.slice Ao66 t279.length co66)) (fun _ hk => hk.2) (.slice Ao68 t282.length co68)) (fun _ hk => hk.2) (.slice Ao70 t285.length co70)) (fun _ hk => hk.1)⟩
                                        have n4_ : Aside0 (Kd.R (Kd.int .i64) 3 (((((((((w59.setCell ⟨gb292, 0, none⟩ (.int .i64 t273)).setCell ⟨gb292, 1, none⟩ (.int .i64 t274)).setCell ⟨gb292, 2, none⟩ (.int .i64 t275)).setCell ⟨gb292, 3, none⟩ (.int .i64 t276)).setCell ⟨gb292, 4, none⟩ (.bool t277)).setCell ⟨gb292, 5, none⟩ (.int .i64 t278)).setCell ⟨gb292, 6, none⟩ (.slice Ao66 t279.length co66)).setCell ⟨gb292, 7, none⟩ (.slice Ao68 t282.length co68)).setCell ⟨gb292, 8, none⟩ (.slice Ao70 t285.length co70)) w.heap.size (fun k_ => some k_ ≠ (.slice Ao54 x247007_19.length co54 : Value).ownBlock) (.slice Ao68 t282.length co68) t282) := ⟨by (with_reducible repeat (first | apply Kd.R_alloc | apply Kd.R_drewN | apply Kd.R_drew)); exact Kd.R_mono (Kd.R_far (p := ⟨gb292, 8, none⟩) (Kd.R_far (p := ⟨gb292, 7, none⟩) (Kd.R_far (p := ⟨gb292, 6, none⟩) (Kd.R_far (p := ⟨gb292, 5, none⟩) (Kd.R_far (p := ⟨gb292, 4, none⟩) (Kd.R_far (p := ⟨gb292, 3, none⟩) (Kd.R_far (p := ⟨gb292, 2, none⟩) (Kd.R_far (p := ⟨gb292, 1, none⟩) (Kd.R_far (p := ⟨gb292, 0, none⟩) (Kd.R_types HO284.out BK292.out (by decide)) (fun _ hk => hk.2) (.int .i64 t273)) (fun _ hk => hk.2) (.int .i64 t274)) (fun _ hk => hk.2) (.int .i64 t275)) (fun _ hk => hk.2) (.int .i64 t276)) (fun _ hk => hk.2) (.bool t277)) (fun _ hk => hk.2) (.int .i64 t278)) (fun _ hk => hk.2) (.slice Ao66 t279.length co66)) (fun _ hk => hk.2) (.slice Ao68 t282.length co68)) (fun _ hk => hk.2) (.slice Ao70 t285.length co70)) (fun _ hk => hk.1)⟩
                                        have n5_ : Aside0 (Kd.S k66 66 (((((((((w59.setCell ⟨gb292, 0, none⟩ (.int .i64 t273)).setCell ⟨gb292, 1, none⟩ (.int .i64 t274)).setCell ⟨gb292, 2, none⟩ (.int .i64 t275)).setCell ⟨gb292, 3, none⟩ (.int .i64 t276)).setCell ⟨gb292, 4, none⟩ (.bool t277)).setCell ⟨gb292, 5, none⟩ (.int .i64 t278)).setCell ⟨gb292, 6, none⟩ (.slice Ao66 t279.length co66)).setCell ⟨gb292, 7, none⟩ (.slice Ao68 t282.length co68)).setCell ⟨gb292, 8, none⟩ (.slice Ao70 t285.length co70)) w.heap.size (fun k_ => some k_ ≠ (.slice Ao53 x247006_19.length co53 : Value).ownBlock ∧ some k_ ≠ (.slice Ao55 x247008_19.length co55 : Value).ownBlock ∧ some k_ ≠ (.slice Ao66 t279.length co66 : Value).ownBlock) (.slice Ao70 t285.length co70) t285) := ⟨by (with_reducible repeat (first | apply Kd.S_alloc | apply Kd.S_drewN | apply Kd.S_drew)); exact Kd.S_mono (Kd.S_far (p := ⟨gb292, 8, none⟩) (Kd.S_far (p := ⟨gb292, 7, none⟩) (Kd.S_far (p := ⟨gb292, 6, none⟩) (Kd.S_far (p := ⟨gb292, 5, none⟩) (Kd.S_far (p := ⟨gb292, 4, none⟩) (Kd.S_far (p := ⟨gb292, 3, none⟩) (Kd.S_far (p := ⟨gb292, 2, none⟩) (Kd.S_far (p := ⟨gb292, 1, none⟩) (Kd.S_far (p := ⟨gb292, 0, none⟩) (Kd.S_types HO287.out BK292.out (by decide)) (fun _ hk => hk.2) (.int .i64 t273)) (fun _ hk => hk.2) (.int .i64 t274)) (fun _ hk => hk.2) (.int .i64 t275)) (fun _ hk => hk.2) (.int .i64 t276)) (fun _ hk => hk.2) (.bool t277)) (fun _ hk => hk.2) (.int .i64 t278)) (fun _ hk => hk.2) (.slice Ao66 t279.length co66)) (fun _ hk => hk.2) (.slice Ao68 t282.length co68)) (fun _ hk => hk.2) (.slice Ao70 t285.length co70)) (fun _ hk => ⟨hk.1.2.1, ⟨hk.1.2.2, hk.1.1⟩⟩)⟩
                                        have n6_ : Aside0 (Kd.S k28 28 (((((((((w59.setCell ⟨gb292, 0, none⟩ (.int .i64 t273)).setCell ⟨gb292, 1, none⟩ (.int .i64 t274)).setCell ⟨gb292, 2, none⟩ (.int .i64 t275)).setCell ⟨gb292, 3, none⟩ (.int .i64 t276)).setCell ⟨gb292, 4, none⟩ (.bool t277)).setCell ⟨gb292, 5, none⟩ (.int .i64 t278)).setCell ⟨gb292, 6, none⟩ (.slice Ao66 t279.length co66)).setCell ⟨gb292, 7, none⟩ (.slice Ao68 t282.length co68)).setCell ⟨gb292, 8, none⟩ (.slice Ao70 t285.length co70)) w.heap.size (fun k_ => some k_ ≠ (.slice Ao53 x247006_19.length co53 : Value).ownBlock ∧ some k_ ≠ (.slice Ao66 t279.length co66 : Value).ownBlock) v289 t288) := ⟨by (with_reducible repeat (first | apply Kd.S_alloc | apply Kd.S_drewN | apply Kd.S_drew)); exact Kd.S_mono (Kd.S_far (p := ⟨gb292, 8, none⟩) (Kd.S_far (p := ⟨gb292, 7, none⟩) (Kd.S_far (p := ⟨gb292, 6, none⟩) (Kd.S_far (p := ⟨gb292, 5, none⟩) (Kd.S_far (p := ⟨gb292, 4, none⟩) (Kd.S_far (p := ⟨gb292, 3, none⟩) (Kd.S_far (p := ⟨gb292, 2, none⟩) (Kd.S_far (p := ⟨gb292, 1, none⟩) (Kd.S_far (p := ⟨gb292, 0, none⟩) (Kd.S_types HO290.out BK292.out (by decide)) (fun _ hk => hk.2) (.int .i64 t273)) (fun _ hk => hk.2) (.int .i64 t274)) (fun _ hk => hk.2) (.int .i64 t275)) (fun _ hk => hk.2) (.int .i64 t276)) (fun _ hk => hk.2) (.bool t277)) (fun _ hk => hk.2) (.int .i64 t278)) (fun _ hk => hk.2) (.slice Ao66 t279.length co66)) (fun _ hk => hk.2) (.slice Ao68 t282.length co68)) (fun _ hk => hk.2) (.slice Ao70 t285.length co70)) (fun _ hk => ⟨hk.1.2, hk.1.1⟩)⟩
                                        have n7_ : Aside0 ((((((((((w59.setCell ⟨gb292, 0, none⟩ (.int .i64 t273)).setCell ⟨gb292, 1, none⟩ (.int .i64 t274)).setCell ⟨gb292, 2, none⟩ (.int .i64 t275)).setCell ⟨gb292, 3, none⟩ (.int .i64 t276)).setCell ⟨gb292, 4, none⟩ (.bool t277)).setCell ⟨gb292, 5, none⟩ (.int .i64 t278)).setCell ⟨gb292, 6, none⟩ (.slice Ao66 t279.length co66)).setCell ⟨gb292, 7, none⟩ (.slice Ao68 t282.length co68)).setCell ⟨gb292, 8, none⟩ (.slice Ao70 t285.length co70)).heap[gb246]? = some (.cells #[.int .i64 x247000_19, .int .i64 x247001_19, .int .i64 x247002_19, .int .i64 x247003_19, .bool x247004_19, .int .i64 x247005_19, .slice Ao53 x247006_19.length co53, .slice Ao54 x247007_19.length co54, .slice Ao55 x247008_19.length co55] 26 (0, 0))) := ⟨by (with_reducible repeat (first | refine blk_drewN ?_ _ | refine blk_drew ?_ | refine blk_alloc ?_ _)); refine blk_far ?_ NB246_292.out _; (with_reducible repeat (first | refine blk_drewN ?_ _ | refine blk_drew ?_ | refine blk_alloc ?_ _)); refine blk_far ?_ NB246_292.out _; (with_reducible repeat (first | refine blk_drewN ?_ _ | refine blk_drew ?_ | refine blk_alloc ?_ _)); refine blk_far ?_ NB246_292.out _; (with_reducible repeat (first | refine blk_drewN ?_ _ | refine blk_drew ?_ | refine blk_alloc ?_ _)); refine blk_far ?_ NB246_292.out _; (with_reducible repeat (first | refine blk_drewN ?_ _ | refine blk_drew ?_ | refine blk_alloc ?_ _)); refine blk_far ?_ NB246_292.out _; (with_reducible repeat (first | refine blk_drewN ?_ _ | refine blk_drew ?_ | refine blk_alloc ?_ _)); refine blk_far ?_ NB246_292.out _; (with_reducible repeat (first | refine blk_drewN ?_ _ | refine blk_drew ?_ | refine blk_alloc ?_ _)); refine blk_far ?_ NB246_292.out _; (with_reducible repeat (first | refine blk_drewN ?_ _ | refine blk_drew ?_ | refine blk_alloc ?_ _)); refine blk_far ?_ NB246_292.out _; (with_reducible repeat (first | refine blk_drewN ?_ _ | refine blk_drew ?_ | refine blk_alloc ?_ _)); refine blk_far ?_ NB246_292.out _; (with_reducible repeat (first | refine blk_drewN ?_ _ | refine blk_drew ?_ | refine blk_alloc ?_ _)); exact BK246.out⟩
                                        have n8_ : Aside0 ((((((((((w59.setCell ⟨gb292, 0, none⟩ (.int .i64 t273)).setCell ⟨gb292, 1, none⟩ (.int .i64 t274)).setCell ⟨gb292, 2, none⟩ (.int .i64 t275)).setCell ⟨gb292, 3, none⟩ (.int .i64 t276)).setCell ⟨gb292, 4, none⟩ (.bool t277)).setCell ⟨gb292, 5, none⟩ (.int .i64 t278)).setCell ⟨gb292, 6, none⟩ (.slice Ao66 t279.length co66)).setCell ⟨gb292, 7, none⟩ (.slice Ao68 t282.length co68)).setCell ⟨gb292, 8, none⟩ (.slice Ao70 t285.length co70)).heap[gb292]? = some (.cells #[.int .i64 t273, .int .i64 t274, .int .i64 t275, .int .i64 t276, .bool t277, .int .i64 t278, .slice Ao66 t279.length co66, .slice Ao68 t282.length co68, .slice Ao70 t285.length co70] 26 (0, 0))) := ⟨by (with_reducible repeat (first | refine blk_drewN ?_ _ | refine blk_drew ?_ | refine blk_alloc ?_ _)); refine blk_put (cs := #[.int .i64 t273, .int .i64 t274, .int .i64 t275, .int .i64 t276, .bool t277, .int .i64 t278, .slice Ao66 t279.length co66, .slice Ao68 t282.length co68, .slice none 0 0]) ?_ 8 _ rfl; (with_reducible repeat (first | refine blk_drewN ?_ _ | refine blk_drew ?_ | refine blk_alloc ?_ _)); refine blk_put (cs := #[.int .i64 t273, .int .i64 t274, .int .i64 t275, .int .i64 t276, .bool t277, .int .i64 t278, .slice Ao66 t279.length co66, .slice none 0 0, .slice none 0 0]) ?_ 7 _ rfl; (with_reducible repeat (first | refine blk_drewN ?_ _ | refine blk_drew ?_ | refine blk_alloc ?_ _)); refine blk_put (cs := #[.int .i64 t273, .int .i64 t274, .int .i64 t275, .int .i64 t276, .bool t277, .int .i64 t278, .slice none 0 0, .slice none 0 0, .slice none 0 0]) ?_ 6 _ rfl; (with_reducible repeat (first | refine blk_drewN ?_ _ | refine blk_drew ?_ | refine blk_alloc ?_ _)); refine blk_put (cs := #[.int .i64 t273, .int .i64 t274, .int .i64 t275, .int .i64 t276, .bool t277, .int .i64 0, .slice none 0 0, .slice none 0 0, .slice none 0 0]) ?_ 5 _ rfl; (with_reducible repeat (first | refine blk_drewN ?_ _ | refine blk_drew ?_ | refine blk_alloc ?_ _)); refine blk_put (cs := #[.int .i64 t273, .int .i64 t274, .int .i64 t275, .int .i64 t276, .bool false, .int .i64 0, .slice none 0 0, .slice none 0 0, .slice none 0 0]) ?_ 4 _ rfl; (with_reducible repeat (first | refine blk_drewN ?_ _ | refine blk_drew ?_ | refine blk_alloc ?_ _)); refine blk_put (cs := #[.int .i64 t273, .int .i64 t274, .int .i64 t275, .int .i64 0, .bool false, .int .i64 0, .slice none 0 0, .slice none 0 0, .slice none 0 0]) ?_ 3 _ rfl; (with_reducible repeat (first | refine blk_drewN ?_ _ | refine blk_drew ?_ | refine blk_alloc ?_ _)); refine blk_put (cs := #[.int .i64 t273, .int .i64 t274, .int .i64 0, .int .i64 0, .bool false, .int .i64 0, .slice none 0 0, .slice none 0 0, .slice none 0 0]) ?_ 2 _ rfl; (with_reducible repeat (first | refine blk_drewN ?_ _ | refine blk_drew ?_ | refine blk_alloc ?_ _)); refine blk_put (cs := #[.int .i64 t273, .int .i64 0, .int .i64 0, .int .i64 0, .bool false, .int .i64 0, .slice none 0 0, .slice none 0 0, .slice none 0 0]) ?_ 1 _ rfl; (with_reducible repeat (first | refine blk_drewN ?_ _ | refine blk_drew ?_ | refine blk_alloc ?_ _)); refine blk_put (cs := #[.int .i64 0, .int .i64 0, .int .i64 0, .int .i64 0, .bool false, .int .i64 0, .slice none 0 0, .slice none 0 0, .slice none 0 0]) ?_ 0 _ rfl; (with_reducible repeat (first | refine blk_drewN ?_ _ | refine blk_drew ?_ | refine blk_alloc ?_ _)); exact BK292.out⟩
                                        have n9_ : Aside0 (Below w.heap.size w (((((((((w59.setCell ⟨gb292, 0, none⟩ (.int .i64 t273)).setCell ⟨gb292, 1, none⟩ (.int .i64 t274)).setCell ⟨gb292, 2, none⟩ (.int .i64 t275)).setCell ⟨gb292, 3, none⟩ (.int .i64 t276)).setCell ⟨gb292, 4, none⟩ (.bool t277)).setCell ⟨gb292, 5, none⟩ (.int .i64 t278)).setCell ⟨gb292, 6, none⟩ (.slice Ao66 t279.length co66)).setCell ⟨gb292, 7, none⟩ (.slice Ao68 t282.length co68)).setCell ⟨gb292, 8, none⟩ (.slice Ao70 t285.length co70))) := ⟨by repeat (first | (with_reducible first | exact HB.out | apply below_alloc | apply pw_below_drewN | apply below_drew1 | refine below_set ?_ GE246.out | refine below_set ?_ GE292.out) | exact HB.out)⟩
                                        (try clear HO_247006)
                                        (try clear HO_247007)
                                        (try clear HO_247008)
                                        (try clear HO281)
                                        (try clear HO284)
                                        (try clear HO287)
                                        (try clear HO290)
                                        (try clear BK246)
                                        (try clear BK292)
                                        (try clear HB)
                                        generalize (((((((((w59.setCell ⟨gb292, 0, none⟩ (.int .i64 t273)).setCell ⟨gb292, 1, none⟩ (.int .i64 t274)).setCell ⟨gb292, 2, none⟩ (.int .i64 t275)).setCell ⟨gb292, 3, none⟩ (.int .i64 t276)).setCell ⟨gb292, 4, none⟩ (.bool t277)).setCell ⟨gb292, 5, none⟩ (.int .i64 t278)).setCell ⟨gb292, 6, none⟩ (.slice Ao66 t279.length co66)).setCell ⟨gb292, 7, none⟩ (.slice Ao68 t282.length co68)).setCell ⟨gb292, 8, none⟩ (.slice Ao70 t285.length co70)) = w72 at n0_ n1_ n2_ n3_ n4_ n5_ n6_ n7_ n8_ n9_ ⊢
                                        have HO_247006 := n0_
                                        have HO_247007 := n1_
                                        have HO_247008 := n2_
                                        have HO281 := n3_
                                        have HO284 := n4_
                                        have HO287 := n5_
                                        have HO290 := n6_
                                        have BK246 := n7_
                                        have BK292 := n8_
                                        have HB := n9_
                                        clear n0_ n1_ n2_ n3_ n4_ n5_ n6_ n7_ n8_ n9_
                                        have n0_ := Aside0.mk (Kd.R_drew HO_247006.out)
                                        have n1_ := Aside0.mk (Kd.R_drew HO_247007.out)
                                        have n2_ := Aside0.mk (Kd.S_drew HO_247008.out)
                                        have n3_ := Aside0.mk (Kd.R_drew HO281.out)
                                        have n4_ := Aside0.mk (Kd.R_drew HO284.out)
                                        have n5_ := Aside0.mk (Kd.S_drew HO287.out)
                                        have n6_ := Aside0.mk (Kd.S_drew HO290.out)
                                        have n7_ := Aside0.mk (blk_drew BK246.out)
                                        have n8_ := Aside0.mk (blk_drew BK292.out)
                                        have n9_ := Aside0.mk (below_drew1 HB.out)
                                        clear HO_247006
                                        clear HO_247007
                                        clear HO_247008
                                        clear HO281
                                        clear HO284
                                        clear HO287
                                        clear HO290
                                        clear BK246
                                        clear BK292
                                        clear HB
                                        have HO_247006 := n0_
                                        have HO_247007 := n1_
                                        have HO_247008 := n2_
                                        have HO281 := n3_
                                        have HO284 := n4_
                                        have HO287 := n5_
                                        have HO290 := n6_
                                        have BK246 := n7_
                                        have BK292 := n8_
                                        have HB := n9_
                                        clear n0_ n1_ n2_ n3_ n4_ n5_ n6_ n7_ n8_ n9_
                                        obtain ⟨Ao74, co74, eo74⟩ := Kd.S_slice HO290.out
                                        (first | subst eo74 | (injection eo74 with f1_ f2_ f3_; have f4_ := f1_.symm; have f5_ := f3_.symm; clear f1_ f2_ f3_; subst f4_; subst f5_))
                                        have p293 : 0 ≤ (x7_2 : Int) := of_decide_eq_true (by first | (with_reducible assumption) | assumption)
                                        have q293 : x7_2 < (t279.length : Int) := of_decide_eq_true (by first | (with_reducible assumption) | assumption)
                                        obtain ⟨ad293, e293, hx293_0⟩ := Kd.at_string (Kd.R_reads' HO281.out).2.2 x7_2 p293 q293
                                        cases e293
                                        replace p293 := eq_true p293
                                        replace q293 := eq_true q293
                                        have p294 : 0 ≤ (x7_2 : Int) := of_decide_eq_true (by first | (with_reducible assumption) | assumption)
                                        have q294 : x7_2 < (l0.length : Int) := of_decide_eq_true (by first | (with_reducible assumption) | assumption)
                                        obtain ⟨ad294, e294, hx294_0⟩ := Kd.at_string HR0.out x7_2 p294 q294
                                        have hw294_0 := hx294_0
                                        obtain rfl : ad270 = ad294 := (by injection e294)
                                        replace hx294_0 := (HB.out.cell (World.block_lt_of_cell? w _ hx294_0)).trans hx294_0
                                        replace p294 := eq_true p294
                                        replace q294 := eq_true q294
                                        refine start_ (n := 34) (S := fun w' => w'.cell? ⟨gb292, 0, none⟩ = some (.int .i64 t273) ∧ w'.cell? ⟨gb292, 1, none⟩ = some (.int .i64 t274) ∧ w'.cell? ⟨gb292, 2, none⟩ = some (.int .i64 t275) ∧ w'.cell? ⟨gb292, 3, none⟩ = some (.int .i64 t276) ∧ w'.cell? ⟨gb292, 4, none⟩ = some (.bool t277) ∧ w'.cell? ⟨gb292, 5, none⟩ = some (.int .i64 t278) ∧ w'.cell? ⟨gb292, 6, none⟩ = some (.slice (some ad293) t279.length co66) ∧ w'.cell? ⟨gb292, 7, none⟩ = some (.slice Ao68 t282.length co68) ∧ w'.cell? ⟨gb292, 8, none⟩ = some (.slice Ao70 t285.length co70) ∧ w'.cell? (ad293.add (x7_2).toNat) = some (.string (rdOf ByteArray.empty t279 x7_2)) ∧ w'.cell? (ad270.add (x7_2).toNat) = some (.string (rdOf ByteArray.empty l0 x7_2))) (ds := []) #[false, false, false, false, false, false, false, false, false, false, false, false, false, false, false, false, false, false, false, false, false, false, false, false, false, false, false, false, false, false, false, false, false, false] (by kernel_rfl) rfl rfl ⟨(blk_cell BK292.out 0).trans rfl, (blk_cell BK292.out 1).trans rfl, (blk_cell BK292.out 2).trans rfl, (blk_cell BK292.out 3).trans rfl, (blk_cell BK292.out 4).trans rfl, (blk_cell BK292.out 5).trans rfl, (blk_cell BK292.out 6).trans rfl, (blk_cell BK292.out 7).trans rfl, (blk_cell BK292.out 8).trans rfl, hx293_0, ((HB.out.cell (World.block_lt_of_cell? w _ hw294_0)).trans hw294_0)⟩ (fun hHeld => ?_); refine with_tabW sextonlaw24_ReplicaAlone.tab16 sextonlaw24_ReplicaAlone.bits16 (fun HT_ HW_ => ?_)
                                        generalize w72.drew = w73 at HO_247006 HO_247007 HO_247008 HO281 HO284 HO287 HO290 BK246 BK292 HB hx293_0 hx294_0 hHeld ⊢
                                        refine pure_ (i := 0) (N := some 103) (v := ?_) (a' := ?_) #[true, false, false, false, false, false, false, false, false, false, false, false, false, false, false, false, false, false, false, false, false, false, false, false, false, false, false, false, false, false, false, false, false, false] rfl rfl (any_of HT_.out (by kernel_rfl)) (fun _ _ _ h => h) (Or.inl ⟨by rfl, ?_⟩) ?_ ?_
                                        rotate_left
                                        · intro w'
                                          go_simp
                                          with_reducible rfl
                                        rotate_left
                                        · simp only [Act.put, List.setIfInBounds_toArray, List.set_cons_zero, List.set_cons_succ, i64_w, i32_w]
                                          rfl
                                        refine pure_ (i := 1) (N := some 104) (v := ?_) (a' := ?_) #[true, true, false, false, false, false, false, false, false, false, false, false, false, false, false, false, false, false, false, false, false, false, false, false, false, false, false, false, false, false, false, false, false, false] rfl rfl (any_of HT_.out (by kernel_rfl)) (fun _ _ _ h => h) (Or.inl ⟨by rfl, ?_⟩) ?_ ?_
                                        rotate_left
                                        · intro w'
                                          go_simp
                                          with_reducible rfl
                                        rotate_left
                                        · simp only [Act.put, List.setIfInBounds_toArray, List.set_cons_zero, List.set_cons_succ, i64_w, i32_w]
                                          rfl
                                        refine pure_ (i := 2) (N := some 105) (v := ?_) (a' := ?_) #[true, true, true, false, false, false, false, false, false, false, false, false, false, false, false, false, false, false, false, false, false, false, false, false, false, false, false, false, false, false, false, false, false, false] rfl rfl (any_of HT_.out (by kernel_rfl)) (fun _ _ _ h => h) (Or.inl ⟨by rfl, ?_⟩) ?_ ?_
                                        rotate_left
                                        · intro w'
                                          go_simp
                                          with_reducible rfl
                                        rotate_left
                                        · simp only [Act.put, List.setIfInBounds_toArray, List.set_cons_zero, List.set_cons_succ, i64_w, i32_w]
                                          rfl
                                        refine pure_ (i := 3) (N := some 106) (v := ?_) (a' := ?_) #[true, true, true, true, false, false, false, false, false, false, false, false, false, false, false, false, false, false, false, false, false, false, false, false, false, false, false, false, false, false, false, false, false, false] rfl rfl (any_of HT_.out (by kernel_rfl)) (fun _ _ _ h => h) (Or.inl ⟨by rfl, ?_⟩) ?_ ?_
                                        rotate_left
                                        · intro w'
                                          go_simp
                                          with_reducible rfl
                                        rotate_left
                                        · simp only [Act.put, List.setIfInBounds_toArray, List.set_cons_zero, List.set_cons_succ, i64_w, i32_w]
                                          rfl
                                        refine pure_ (i := 4) (N := some 107) (v := ?_) (a' := ?_) #[true, true, true, true, true, false, false, false, false, false, false, false, false, false, false, false, false, false, false, false, false, false, false, false, false, false, false, false, false, false, false, false, false, false] rfl rfl (any_of HT_.out (by kernel_rfl)) (fun _ _ _ h => h) (Or.inl ⟨by rfl, ?_⟩) ?_ ?_
                                        rotate_left
                                        · intro w'
                                          go_simp
                                          with_reducible rfl
                                        rotate_left
                                        · simp only [Act.put, List.setIfInBounds_toArray, List.set_cons_zero, List.set_cons_succ, i64_w, i32_w]
                                          rfl
                                        refine pure_ (i := 5) (N := some 108) (v := ?_) (a' := ?_) #[true, true, true, true, true, true, false, false, false, false, false, false, false, false, false, false, false, false, false, false, false, false, false, false, false, false, false, false, false, false, false, false, false, false] rfl rfl (any_of HT_.out (by kernel_rfl)) (fun _ _ _ h => h) (Or.inl ⟨by rfl, ?_⟩) ?_ ?_
                                        rotate_left
                                        · intro w'
                                          go_simp
                                          with_reducible rfl
                                        rotate_left
                                        · simp only [Act.put, List.setIfInBounds_toArray, List.set_cons_zero, List.set_cons_succ, i64_w, i32_w]
                                          rfl
                                        refine pure_ (i := 6) (N := some 109) (v := ?_) (a' := ?_) #[true, true, true, true, true, true, true, false, false, false, false, false, false, false, false, false, false, false, false, false, false, false, false, false, false, false, false, false, false, false, false, false, false, false] rfl rfl (any_of HT_.out (by kernel_rfl)) (fun _ _ _ h => h) (Or.inl ⟨by rfl, ?_⟩) ?_ ?_
                                        rotate_left
                                        · intro w'
                                          go_simp
                                          with_reducible rfl
                                        rotate_left
                                        · simp only [Act.put, List.setIfInBounds_toArray, List.set_cons_zero, List.set_cons_succ, i64_w, i32_w]
                                          rfl
                                        refine pure_ (i := 7) (N := some 110) (v := ?_) (a' := ?_) #[true, true, true, true, true, true, true, true, false, false, false, false, false, false, false, false, false, false, false, false, false, false, false, false, false, false, false, false, false, false, false, false, false, false] rfl rfl (any_of HT_.out (by kernel_rfl)) (fun _ _ _ h => h) (Or.inl ⟨by rfl, ?_⟩) ?_ ?_
                                        rotate_left
                                        · intro w'
                                          go_simp
                                          with_reducible rfl
                                        rotate_left
                                        · simp only [Act.put, List.setIfInBounds_toArray, List.set_cons_zero, List.set_cons_succ, i64_w, i32_w]
                                          rfl
                                        refine pure_ (i := 8) (N := some 111) (v := ?_) (a' := ?_) #[true, true, true, true, true, true, true, true, true, false, false, false, false, false, false, false, false, false, false, false, false, false, false, false, false, false, false, false, false, false, false, false, false, false] rfl rfl (any_of HT_.out (by kernel_rfl)) (fun _ _ _ h => h) (Or.inl ⟨by rfl, ?_⟩) ?_ ?_
                                        rotate_left
                                        · intro w'
                                          go_simp
                                          with_reducible rfl
                                        rotate_left
                                        · simp only [Act.put, List.setIfInBounds_toArray, List.set_cons_zero, List.set_cons_succ, i64_w, i32_w]
                                          rfl
                                        refine pure_ (i := 10) (N := some 113) (v := ?_) (a' := ?_) #[true, true, true, true, true, true, true, true, true, false, true, false, false, false, false, false, false, false, false, false, false, false, false, false, false, false, false, false, false, false, false, false, false, false] rfl rfl (any_of HT_.out (by kernel_rfl)) (fun _ _ _ h => h) (Or.inl ⟨by rfl, ?_⟩) ?_ ?_
                                        rotate_left
                                        · intro w'
                                          go_simp
                                          with_reducible rfl
                                        rotate_left
                                        · simp only [Act.put, List.setIfInBounds_toArray, List.set_cons_zero, List.set_cons_succ, i64_w, i32_w]
                                          rfl
                                        refine pure_ (i := 11) (N := some 114) (v := ?_) (a' := ?_) #[true, true, true, true, true, true, true, true, true, false, true, true, false, false, false, false, false, false, false, false, false, false, false, false, false, false, false, false, false, false, false, false, false, false] rfl rfl (any_of HT_.out (by kernel_rfl)) (fun _ _ _ h => h) (Or.inl ⟨by rfl, ?_⟩) ?_ ?_
                                        rotate_left
                                        · intro w'
                                          go_simp
                                          with_reducible rfl
                                        rotate_left
                                        · simp only [Act.put, List.setIfInBounds_toArray, List.set_cons_zero, List.set_cons_succ, i64_w, i32_w]
                                          rfl
                                        refine take_ (i := 9) (N := some 112) (v := ?_) (a' := ?_) #[true, true, true, true, true, true, true, true, true, true, true, true, false, false, false, false, false, false, false, false, false, false, false, false, false, false, false, false, false, false, false, false, false, false] rfl rfl (take_ofW HT_.out HW_.out (by kernel_rfl)) (fun _ _ _ h => h) (Or.inl ⟨by rfl, ?_⟩) hHeld ?_ ?_
                                        rotate_left
                                        · rintro w' ⟨s0, s1, s2, s3, s4, s5, s6, s7, s8, s9, s10⟩
                                          go_simp
                                          with_reducible rfl
                                        rotate_left
                                        · simp only [Act.put, List.setIfInBounds_toArray, List.set_cons_zero, List.set_cons_succ, i64_w, i32_w]
                                          rfl
                                        refine pure_ (i := 12) (N := some 115) (v := ?_) (a' := ?_) #[true, true, true, true, true, true, true, true, true, true, true, true, true, false, false, false, false, false, false, false, false, false, false, false, false, false, false, false, false, false, false, false, false, false] rfl rfl (any_of HT_.out (by kernel_rfl)) (fun _ _ _ h => h) (Or.inl ⟨by rfl, ?_⟩) ?_ ?_
                                        rotate_left
                                        · intro w'
                                          go_simp
                                          with_reducible rfl
                                        rotate_left
                                        · simp only [Act.put, List.setIfInBounds_toArray, List.set_cons_zero, List.set_cons_succ, i64_w, i32_w]
                                          rfl
                                        refine pure_ (i := 13) (N := some 116) (v := ?_) (a' := ?_) #[true, true, true, true, true, true, true, true, true, true, true, true, true, true, false, false, false, false, false, false, false, false, false, false, false, false, false, false, false, false, false, false, false, false] rfl rfl (any_of HT_.out (by kernel_rfl)) (fun _ _ _ h => h) (Or.inl ⟨by rfl, ?_⟩) ?_ ?_
                                        rotate_left
                                        · intro w'
                                          go_simp
                                          with_reducible rfl
                                        rotate_left
                                        · simp only [Act.put, List.setIfInBounds_toArray, List.set_cons_zero, List.set_cons_succ, i64_w, i32_w]
                                          rfl
                                        refine pure_ (i := 14) (N := some 117) (v := ?_) (a' := ?_) #[true, true, true, true, true, true, true, true, true, true, true, true, true, true, true, false, false, false, false, false, false, false, false, false, false, false, false, false, false, false, false, false, false, false] rfl rfl (any_of HT_.out (by kernel_rfl)) (fun _ _ _ h => h) (Or.inl ⟨by rfl, ?_⟩) ?_ ?_
                                        rotate_left
                                        · intro w'
                                          go_simp
                                          with_reducible rfl
                                        rotate_left
                                        · simp only [Act.put, List.setIfInBounds_toArray, List.set_cons_zero, List.set_cons_succ, i64_w, i32_w]
                                          rfl
                                        refine pure_ (i := 15) (N := some 118) (v := ?_) (a' := ?_) #[true, true, true, true, true, true, true, true, true, true, true, true, true, true, true, true, false, false, false, false, false, false, false, false, false, false, false, false, false, false, false, false, false, false] rfl rfl (any_of HT_.out (by kernel_rfl)) (fun _ _ _ h => h) (Or.inl ⟨by rfl, ?_⟩) ?_ ?_
                                        rotate_left
                                        · intro w'
                                          go_simp
                                          with_reducible rfl
                                        rotate_left
                                        · simp only [Act.put, List.setIfInBounds_toArray, List.set_cons_zero, List.set_cons_succ, i64_w, i32_w]
                                          rfl
                                        refine pure_ (i := 18) (N := some 121) (v := ?_) (a' := ?_) #[true, true, true, true, true, true, true, true, true, true, true, true, true, true, true, true, false, false, true, false, false, false, false, false, false, false, false, false, false, false, false, false, false, false] rfl rfl (any_of HT_.out (by kernel_rfl)) (fun _ _ _ h => h) (Or.inl ⟨by rfl, ?_⟩) ?_ ?_
                                        rotate_left
                                        · intro w'
                                          go_simp
                                          with_reducible rfl
                                        rotate_left
                                        · simp only [Act.put, List.setIfInBounds_toArray, List.set_cons_zero, List.set_cons_succ, i64_w, i32_w]
                                          rfl
                                        refine pure_ (i := 19) (N := some 122) (v := ?_) (a' := ?_) #[true, true, true, true, true, true, true, true, true, true, true, true, true, true, true, true, false, false, true, true, false, false, false, false, false, false, false, false, false, false, false, false, false, false] rfl rfl (any_of HT_.out (by kernel_rfl)) (fun _ _ _ h => h) (Or.inl ⟨by rfl, ?_⟩) ?_ ?_
                                        rotate_left
                                        · intro w'
                                          go_simp
                                          with_reducible rfl
                                        rotate_left
                                        · simp only [Act.put, List.setIfInBounds_toArray, List.set_cons_zero, List.set_cons_succ, i64_w, i32_w]
                                          rfl
                                        refine take_ (i := 16) (N := some 119) (v := ?_) (a' := ?_) #[true, true, true, true, true, true, true, true, true, true, true, true, true, true, true, true, true, false, true, true, false, false, false, false, false, false, false, false, false, false, false, false, false, false] rfl rfl (take_ofW HT_.out HW_.out (by kernel_rfl)) (fun _ _ _ h => h) (Or.inl ⟨by rfl, ?_⟩) hHeld ?_ ?_
                                        rotate_left
                                        · rintro w' ⟨s0, s1, s2, s3, s4, s5, s6, s7, s8, s9, s10⟩
                                          go_simp
                                          with_reducible rfl
                                        rotate_left
                                        · simp only [Act.put, List.setIfInBounds_toArray, List.set_cons_zero, List.set_cons_succ, i64_w, i32_w]
                                          rfl
                                        refine pure_ (i := 17) (N := some 120) (v := ?_) (a' := ?_) #[true, true, true, true, true, true, true, true, true, true, true, true, true, true, true, true, true, true, true, true, false, false, false, false, false, false, false, false, false, false, false, false, false, false] rfl rfl (any_of HT_.out (by kernel_rfl)) (fun _ _ _ h => h) (Or.inl ⟨by rfl, ?_⟩) ?_ ?_
                                        rotate_left
                                        · intro w'
                                          go_simp
                                          with_reducible rfl
                                        rotate_left
                                        · simp only [Act.put, List.setIfInBounds_toArray, List.set_cons_zero, List.set_cons_succ, i64_w, i32_w]
                                          rfl
                                        refine pure_ (i := 20) (N := some 123) (v := ?_) (a' := ?_) #[true, true, true, true, true, true, true, true, true, true, true, true, true, true, true, true, true, true, true, true, true, false, false, false, false, false, false, false, false, false, false, false, false, false] rfl rfl (any_of HT_.out (by kernel_rfl)) (fun _ _ _ h => h) (Or.inl ⟨by rfl, ?_⟩) ?_ ?_
                                        rotate_left
                                        · intro w'
                                          go_simp
                                          with_reducible rfl
                                        rotate_left
                                        · simp only [Act.put, List.setIfInBounds_toArray, List.set_cons_zero, List.set_cons_succ, i64_w, i32_w]
                                          rfl
                                        refine pure_ (i := 21) (N := some 124) (v := ?_) (a' := ?_) #[true, true, true, true, true, true, true, true, true, true, true, true, true, true, true, true, true, true, true, true, true, true, false, false, false, false, false, false, false, false, false, false, false, false] rfl rfl (any_of HT_.out (by kernel_rfl)) (fun _ _ _ h => h) (Or.inl ⟨by rfl, ?_⟩) ?_ ?_
                                        rotate_left
                                        · intro w'
                                          go_simp
                                          with_reducible rfl
                                        rotate_left
                                        · simp only [Act.put, List.setIfInBounds_toArray, List.set_cons_zero, List.set_cons_succ, i64_w, i32_w]
                                          rfl
                                        refine pure_ (i := 22) (N := some 125) (v := ?_) (a' := ?_) #[true, true, true, true, true, true, true, true, true, true, true, true, true, true, true, true, true, true, true, true, true, true, true, false, false, false, false, false, false, false, false, false, false, false] rfl rfl (any_of HT_.out (by kernel_rfl)) (fun _ _ _ h => h) (Or.inl ⟨by rfl, ?_⟩) ?_ ?_
                                        rotate_left
                                        · intro w'
                                          go_simp
                                          with_reducible rfl
                                        rotate_left
                                        · simp only [Act.put, List.setIfInBounds_toArray, List.set_cons_zero, List.set_cons_succ, i64_w, i32_w]
                                          rfl
                                        refine pure_ (i := 23) (N := some 126) (v := ?_) (a' := ?_) #[true, true, true, true, true, true, true, true, true, true, true, true, true, true, true, true, true, true, true, true, true, true, true, true, false, false, false, false, false, false, false, false, false, false] rfl rfl (any_of HT_.out (by kernel_rfl)) (fun _ _ _ h => h) (Or.inl ⟨by rfl, ?_⟩) ?_ ?_
                                        rotate_left
                                        · intro w'
                                          go_simp
                                          with_reducible rfl
                                        rotate_left
                                        · simp only [Act.put, List.setIfInBounds_toArray, List.set_cons_zero, List.set_cons_succ, i64_w, i32_w]
                                          rfl
                                        refine pure_ (i := 25) (N := some 128) (v := ?_) (a' := ?_) #[true, true, true, true, true, true, true, true, true, true, true, true, true, true, true, true, true, true, true, true, true, true, true, true, false, true, false, false, false, false, false, false, false, false] rfl rfl (any_of HT_.out (by kernel_rfl)) (fun _ _ _ h => h) (Or.inl ⟨by rfl, ?_⟩) ?_ ?_
                                        rotate_left
                                        · intro w'
                                          go_simp
                                          with_reducible rfl
                                        rotate_left
                                        · simp only [Act.put, List.setIfInBounds_toArray, List.set_cons_zero, List.set_cons_succ, i64_w, i32_w]
                                          rfl
                                        refine pure_ (i := 28) (N := some 131) (v := ?_) (a' := ?_) #[true, true, true, true, true, true, true, true, true, true, true, true, true, true, true, true, true, true, true, true, true, true, true, true, false, true, false, false, true, false, false, false, false, false] rfl rfl (any_of HT_.out (by kernel_rfl)) (fun _ _ _ h => h) (Or.inl ⟨by rfl, ?_⟩) ?_ ?_
                                        rotate_left
                                        · intro w'
                                          go_simp
                                          with_reducible rfl
                                        rotate_left
                                        · simp only [Act.put, List.setIfInBounds_toArray, List.set_cons_zero, List.set_cons_succ, i64_w, i32_w]
                                          rfl
                                        refine pure_ (i := 29) (N := some 132) (v := ?_) (a' := ?_) #[true, true, true, true, true, true, true, true, true, true, true, true, true, true, true, true, true, true, true, true, true, true, true, true, false, true, false, false, true, true, false, false, false, false] rfl rfl (any_of HT_.out (by kernel_rfl)) (fun _ _ _ h => h) (Or.inl ⟨by rfl, ?_⟩) ?_ ?_
                                        rotate_left
                                        · intro w'
                                          go_simp
                                          with_reducible rfl
                                        rotate_left
                                        · simp only [Act.put, List.setIfInBounds_toArray, List.set_cons_zero, List.set_cons_succ, i64_w, i32_w]
                                          rfl
                                        refine pure_ (i := 30) (N := some 133) (v := ?_) (a' := ?_) #[true, true, true, true, true, true, true, true, true, true, true, true, true, true, true, true, true, true, true, true, true, true, true, true, false, true, false, false, true, true, true, false, false, false] rfl rfl (any_of HT_.out (by kernel_rfl)) (fun _ _ _ h => h) (Or.inl ⟨by rfl, ?_⟩) ?_ ?_
                                        rotate_left
                                        · intro w'
                                          go_simp
                                          with_reducible rfl
                                        rotate_left
                                        · simp only [Act.put, List.setIfInBounds_toArray, List.set_cons_zero, List.set_cons_succ, i64_w, i32_w]
                                          rfl
                                        refine take_ (i := 24) (N := some 127) (v := ?_) (a' := ?_) #[true, true, true, true, true, true, true, true, true, true, true, true, true, true, true, true, true, true, true, true, true, true, true, true, true, true, false, false, true, true, true, false, false, false] rfl rfl (take_ofW HT_.out HW_.out (by kernel_rfl)) (fun _ _ _ h => h) (Or.inl ⟨by rfl, ?_⟩) hHeld ?_ ?_
                                        rotate_left
                                        · rintro w' ⟨s0, s1, s2, s3, s4, s5, s6, s7, s8, s9, s10⟩
                                          go_simp
                                          with_reducible rfl
                                        rotate_left
                                        · simp only [Act.put, List.setIfInBounds_toArray, List.set_cons_zero, List.set_cons_succ, i64_w, i32_w]
                                          rfl
                                        refine pure_ (i := 26) (N := some 129) (v := ?_) (a' := ?_) #[true, true, true, true, true, true, true, true, true, true, true, true, true, true, true, true, true, true, true, true, true, true, true, true, true, true, true, false, true, true, true, false, false, false] rfl rfl (any_of HT_.out (by kernel_rfl)) (fun _ _ _ h => h) (Or.inl ⟨by rfl, ?_⟩) ?_ ?_
                                        rotate_left
                                        · intro w'
                                          go_simp
                                          with_reducible rfl
                                        rotate_left
                                        · simp only [Act.put, List.setIfInBounds_toArray, List.set_cons_zero, List.set_cons_succ, i64_w, i32_w]
                                          rfl
                                        refine take_ (i := 27) (N := some 130) (v := ?_) (a' := ?_) #[true, true, true, true, true, true, true, true, true, true, true, true, true, true, true, true, true, true, true, true, true, true, true, true, true, true, true, true, true, true, true, false, false, false] rfl rfl (take_ofW HT_.out HW_.out (by kernel_rfl)) (fun _ _ _ h => h) (Or.inl ⟨by rfl, ?_⟩) hHeld ?_ ?_
                                        rotate_left
                                        · rintro w' ⟨s0, s1, s2, s3, s4, s5, s6, s7, s8, s9, s10⟩
                                          go_simp
                                          with_reducible rfl
                                        rotate_left
                                        · simp only [Act.put, List.setIfInBounds_toArray, List.set_cons_zero, List.set_cons_succ, i64_w, i32_w]
                                          rfl
                                        refine take_ (i := 31) (N := some 134) (v := ?_) (a' := ?_) #[true, true, true, true, true, true, true, true, true, true, true, true, true, true, true, true, true, true, true, true, true, true, true, true, true, true, true, true, true, true, true, true, false, false] rfl rfl (take_ofW HT_.out HW_.out (by kernel_rfl)) (fun _ _ _ h => h) (Or.inl ⟨by rfl, ?_⟩) hHeld ?_ ?_
                                        rotate_left
                                        · rintro w' ⟨s0, s1, s2, s3, s4, s5, s6, s7, s8, s9, s10⟩
                                          go_simp
                                          with_reducible rfl
                                        rotate_left
                                        · simp only [Act.put, List.setIfInBounds_toArray, List.set_cons_zero, List.set_cons_succ, i64_w, i32_w]
                                          rfl
                                        refine pure_ (i := 32) (N := some 135) (v := ?_) (a' := ?_) #[true, true, true, true, true, true, true, true, true, true, true, true, true, true, true, true, true, true, true, true, true, true, true, true, true, true, true, true, true, true, true, true, true, false] rfl rfl (any_of HT_.out (by kernel_rfl)) (fun _ _ _ h => h) (Or.inl ⟨by rfl, ?_⟩) ?_ ?_
                                        rotate_left
                                        · intro w'
                                          go_simp
                                          with_reducible rfl
                                        rotate_left
                                        · simp only [Act.put, List.setIfInBounds_toArray, List.set_cons_zero, List.set_cons_succ, i64_w, i32_w]
                                          rfl
                                        refine pure_ (i := 33) (N := some 136) (v := ?_) (a' := ?_) #[true, true, true, true, true, true, true, true, true, true, true, true, true, true, true, true, true, true, true, true, true, true, true, true, true, true, true, true, true, true, true, true, true, true] rfl rfl (any_of HT_.out (by kernel_rfl)) (fun _ _ _ h => h) (Or.inl ⟨by rfl, ?_⟩) ?_ ?_
                                        rotate_left
                                        · intro w'
                                          go_simp
                                          with_reducible rfl
                                        rotate_left
                                        · simp only [Act.put, List.setIfInBounds_toArray, List.set_cons_zero, List.set_cons_succ, i64_w, i32_w]
                                          rfl
                                        refine done_ (done_of HT_.out (by kernel_rfl)) ?_
                                        have hnb75 := NB292_246.out
                                        have hnc75 := NB246_292.out
                                        have hcz76_0 : w73.cell? ⟨gb292, 0, none⟩ = some (.int .i64 t273) := (blk_cell BK292.out 0).trans rfl
                                        have hcz76_1 : w73.cell? ⟨gb292, 1, none⟩ = some (.int .i64 t274) := (blk_cell BK292.out 1).trans rfl
                                        have hcz76_2 : w73.cell? ⟨gb292, 2, none⟩ = some (.int .i64 t275) := (blk_cell BK292.out 2).trans rfl
                                        have hcz76_3 : w73.cell? ⟨gb292, 3, none⟩ = some (.int .i64 t276) := (blk_cell BK292.out 3).trans rfl
                                        have hcz76_4 : w73.cell? ⟨gb292, 4, none⟩ = some (.bool t277) := (blk_cell BK292.out 4).trans rfl
                                        have hcz76_5 : w73.cell? ⟨gb292, 5, none⟩ = some (.int .i64 t278) := (blk_cell BK292.out 5).trans rfl
                                        have hcz76_6 : w73.cell? ⟨gb292, 6, none⟩ = some (.slice (some ad293) t279.length co66) := (blk_cell BK292.out 6).trans rfl
                                        have hcz76_7 : w73.cell? ⟨gb292, 7, none⟩ = some (.slice Ao68 t282.length co68) := (blk_cell BK292.out 7).trans rfl
                                        have hcz76_8 : w73.cell? ⟨gb292, 8, none⟩ = some (.slice Ao70 t285.length co70) := (blk_cell BK292.out 8).trans rfl
                                        have hfz76_0 := blk_frozen BK292.out 0
                                        have hfz76_1 := blk_frozen BK292.out 1
                                        have hfz76_2 := blk_frozen BK292.out 2
                                        have hfz76_3 := blk_frozen BK292.out 3
                                        have hfz76_4 := blk_frozen BK292.out 4
                                        have hfz76_5 := blk_frozen BK292.out 5
                                        have hfz76_6 := blk_frozen BK292.out 6
                                        have hfz76_7 := blk_frozen BK292.out 7
                                        have hfz76_8 := blk_frozen BK292.out 8
                                        have hcz77_0 : w73.cell? ⟨gb246, 0, none⟩ = some (.int .i64 x247000_19) := (blk_cell BK246.out 0).trans rfl
                                        have hcz77_1 : w73.cell? ⟨gb246, 1, none⟩ = some (.int .i64 x247001_19) := (blk_cell BK246.out 1).trans rfl
                                        have hcz77_2 : w73.cell? ⟨gb246, 2, none⟩ = some (.int .i64 x247002_19) := (blk_cell BK246.out 2).trans rfl
                                        have hcz77_3 : w73.cell? ⟨gb246, 3, none⟩ = some (.int .i64 x247003_19) := (blk_cell BK246.out 3).trans rfl
                                        have hcz77_4 : w73.cell? ⟨gb246, 4, none⟩ = some (.bool x247004_19) := (blk_cell BK246.out 4).trans rfl
                                        have hcz77_5 : w73.cell? ⟨gb246, 5, none⟩ = some (.int .i64 x247005_19) := (blk_cell BK246.out 5).trans rfl
                                        have hcz77_6 : w73.cell? ⟨gb246, 6, none⟩ = some (.slice Ao53 x247006_19.length co53) := (blk_cell BK246.out 6).trans rfl
                                        have hcz77_7 : w73.cell? ⟨gb246, 7, none⟩ = some (.slice Ao54 x247007_19.length co54) := (blk_cell BK246.out 7).trans rfl
                                        have hcz77_8 : w73.cell? ⟨gb246, 8, none⟩ = some (.slice Ao55 x247008_19.length co55) := (blk_cell BK246.out 8).trans rfl
                                        have hfz77_0 := blk_frozen BK246.out 0
                                        have hfz77_1 := blk_frozen BK246.out 1
                                        have hfz77_2 := blk_frozen BK246.out 2
                                        have hfz77_3 := blk_frozen BK246.out 3
                                        have hfz77_4 := blk_frozen BK246.out 4
                                        have hfz77_5 := blk_frozen BK246.out 5
                                        have hfz77_6 := blk_frozen BK246.out 6
                                        have hfz77_7 := blk_frozen BK246.out 7
                                        have hfz77_8 := blk_frozen BK246.out 8
                                        try go_wp2
                                        go_roundg kj19
                                        case measure => have := HJ3.out; have := HK2.out; have := HJ16.out; have := HJ19.out; omega
                                        case rel => exact ⟨(wrap64 (x7_2 + 1)), (t273), (t274), (t275), (t276), (t277), (t278), (t279), (t282), (t285), (.slice (some ad293) t279.length co66), (.slice Ao68 t282.length co68), (.slice Ao70 t285.length co70), (by first | rfl | (simp; done) | (simp [*]; done)), H', ⟨by have := HJ3.out; have := HK2.out; have := HJ16.out; have := HJ19.out; omega⟩, ⟨by (with_reducible repeat (first | apply Kd.R_alloc | apply Kd.R_drewN | apply Kd.R_drew)); exact Kd.R_mono (Kd.R_far (p := ⟨gb246, 8, none⟩) (Kd.R_far (p := ⟨gb246, 7, none⟩) (Kd.R_far (p := ⟨gb246, 6, none⟩) (Kd.R_far (p := ⟨gb246, 5, none⟩) (Kd.R_far (p := ⟨gb246, 4, none⟩) (Kd.R_far (p := ⟨gb246, 3, none⟩) (Kd.R_far (p := ⟨gb246, 2, none⟩) (Kd.R_far (p := ⟨gb246, 1, none⟩) (Kd.R_far (p := ⟨gb246, 0, none⟩) (Kd.R_types HO281.out BK246.out (by decide)) (fun _ hk => hk.2) (.int .i64 t273)) (fun _ hk => hk.2) (.int .i64 t274)) (fun _ hk => hk.2) (.int .i64 t275)) (fun _ hk => hk.2) (.int .i64 t276)) (fun _ hk => hk.2) (.bool t277)) (fun _ hk => hk.2) (.int .i64 t278)) (fun _ hk => hk.2) (.slice (some ad293) t279.length co66)) (fun _ hk => hk.2) (.slice Ao68 t282.length co68)) (fun _ hk => hk.2) (.slice Ao70 t285.length co70)) (fun _ hk => trivial)⟩, ⟨by (with_reducible repeat (first | apply Kd.R_alloc | apply Kd.R_drewN | apply Kd.R_drew)); exact Kd.R_mono (Kd.R_far (p := ⟨gb246, 8, none⟩) (Kd.R_far (p := ⟨gb246, 7, none⟩) (Kd.R_far (p := ⟨gb246, 6, none⟩) (Kd.R_far (p := ⟨gb246, 5, none⟩) (Kd.R_far (p := ⟨gb246, 4, none⟩) (Kd.R_far (p := ⟨gb246, 3, none⟩) (Kd.R_far (p := ⟨gb246, 2, none⟩) (Kd.R_far (p := ⟨gb246, 1, none⟩) (Kd.R_far (p := ⟨gb246, 0, none⟩) (Kd.R_types HO284.out BK246.out (by decide)) (fun _ hk => hk.2) (.int .i64 t273)) (fun _ hk => hk.2) (.int .i64 t274)) (fun _ hk => hk.2) (.int .i64 t275)) (fun _ hk => hk.2) (.int .i64 t276)) (fun _ hk => hk.2) (.bool t277)) (fun _ hk => hk.2) (.int .i64 t278)) (fun _ hk => hk.2) (.slice (some ad293) t279.length co66)) (fun _ hk => hk.2) (.slice Ao68 t282.length co68)) (fun _ hk => hk.2) (.slice Ao70 t285.length co70)) (fun _ hk => trivial)⟩, ⟨by (with_reducible repeat (first | apply Kd.S_alloc | apply Kd.S_drewN | apply Kd.S_drew)); exact Kd.S_mono (Kd.S_far (p := ⟨gb246, 8, none⟩) (Kd.S_far (p := ⟨gb246, 7, none⟩) (Kd.S_far (p := ⟨gb246, 6, none⟩) (Kd.S_far (p := ⟨gb246, 5, none⟩) (Kd.S_far (p := ⟨gb246, 4, none⟩) (Kd.S_far (p := ⟨gb246, 3, none⟩) (Kd.S_far (p := ⟨gb246, 2, none⟩) (Kd.S_far (p := ⟨gb246, 1, none⟩) (Kd.S_far (p := ⟨gb246, 0, none⟩) (Kd.S_types HO287.out BK246.out (by decide)) (fun _ hk => hk.2) (.int .i64 t273)) (fun _ hk => hk.2) (.int .i64 t274)) (fun _ hk => hk.2) (.int .i64 t275)) (fun _ hk => hk.2) (.int .i64 t276)) (fun _ hk => hk.2) (.bool t277)) (fun _ hk => hk.2) (.int .i64 t278)) (fun _ hk => hk.2) (.slice (some ad293) t279.length co66)) (fun _ hk => hk.2) (.slice Ao68 t282.length co68)) (fun _ hk => hk.2) (.slice Ao70 t285.length co70)) (fun _ hk => hk.1.2.2)⟩, ⟨by (with_reducible repeat (first | refine blk_drewN ?_ _ | refine blk_drew ?_ | refine blk_alloc ?_ _)); refine blk_put (cs := #[.int .i64 t273, .int .i64 t274, .int .i64 t275, .int .i64 t276, .bool t277, .int .i64 t278, .slice (some ad293) t279.length co66, .slice Ao68 t282.length co68, .slice Ao55 x247008_19.length co55]) ?_ 8 _ rfl; (with_reducible repeat (first | refine blk_drewN ?_ _ | refine blk_drew ?_ | refine blk_alloc ?_ _)); refine blk_put (cs := #[.int .i64 t273, .int .i64 t274, .int .i64 t275, .int .i64 t276, .bool t277, .int .i64 t278, .slice (some ad293) t279.length co66, .slice Ao54 x247007_19.length co54, .slice Ao55 x247008_19.length co55]) ?_ 7 _ rfl; (with_reducible repeat (first | refine blk_drewN ?_ _ | refine blk_drew ?_ | refine blk_alloc ?_ _)); refine blk_put (cs := #[.int .i64 t273, .int .i64 t274, .int .i64 t275, .int .i64 t276, .bool t277, .int .i64 t278, .slice Ao53 x247006_19.length co53, .slice Ao54 x247007_19.length co54, .slice Ao55 x247008_19.length co55]) ?_ 6 _ rfl; (with_reducible repeat (first | refine blk_drewN ?_ _ | refine blk_drew ?_ | refine blk_alloc ?_ _)); refine blk_put (cs := #[.int .i64 t273, .int .i64 t274, .int .i64 t275, .int .i64 t276, .bool t277, .int .i64 x247005_19, .slice Ao53 x247006_19.length co53, .slice Ao54 x247007_19.length co54, .slice Ao55 x247008_19.length co55]) ?_ 5 _ rfl; (with_reducible repeat (first | refine blk_drewN ?_ _ | refine blk_drew ?_ | refine blk_alloc ?_ _)); refine blk_put (cs := #[.int .i64 t273, .int .i64 t274, .int .i64 t275, .int .i64 t276, .bool x247004_19, .int .i64 x247005_19, .slice Ao53 x247006_19.length co53, .slice Ao54 x247007_19.length co54, .slice Ao55 x247008_19.length co55]) ?_ 4 _ rfl; (with_reducible repeat (first | refine blk_drewN ?_ _ | refine blk_drew ?_ | refine blk_alloc ?_ _)); refine blk_put (cs := #[.int .i64 t273, .int .i64 t274, .int .i64 t275, .int .i64 x247003_19, .bool x247004_19, .int .i64 x247005_19, .slice Ao53 x247006_19.length co53, .slice Ao54 x247007_19.length co54, .slice Ao55 x247008_19.length co55]) ?_ 3 _ rfl; (with_reducible repeat (first | refine blk_drewN ?_ _ | refine blk_drew ?_ | refine blk_alloc ?_ _)); refine blk_put (cs := #[.int .i64 t273, .int .i64 t274, .int .i64 x247002_19, .int .i64 x247003_19, .bool x247004_19, .int .i64 x247005_19, .slice Ao53 x247006_19.length co53, .slice Ao54 x247007_19.length co54, .slice Ao55 x247008_19.length co55]) ?_ 2 _ rfl; (with_reducible repeat (first | refine blk_drewN ?_ _ | refine blk_drew ?_ | refine blk_alloc ?_ _)); refine blk_put (cs := #[.int .i64 t273, .int .i64 x247001_19, .int .i64 x247002_19, .int .i64 x247003_19, .bool x247004_19, .int .i64 x247005_19, .slice Ao53 x247006_19.length co53, .slice Ao54 x247007_19.length co54, .slice Ao55 x247008_19.length co55]) ?_ 1 _ rfl; (with_reducible repeat (first | refine blk_drewN ?_ _ | refine blk_drew ?_ | refine blk_alloc ?_ _)); refine blk_put (cs := #[.int .i64 x247000_19, .int .i64 x247001_19, .int .i64 x247002_19, .int .i64 x247003_19, .bool x247004_19, .int .i64 x247005_19, .slice Ao53 x247006_19.length co53, .slice Ao54 x247007_19.length co54, .slice Ao55 x247008_19.length co55]) ?_ 0 _ rfl; (with_reducible repeat (first | refine blk_drewN ?_ _ | refine blk_drew ?_ | refine blk_alloc ?_ _)); exact BK246.out⟩, ⟨by repeat (first | (with_reducible first | exact HB.out | apply below_alloc | apply pw_below_drewN | apply below_drew1 | refine below_set ?_ GE246.out | refine below_set ?_ GE292.out) | exact HB.out)⟩⟩
                                      · rw [if_neg c52] at H
                                        have c52b0 : ((rdOf ByteArray.empty t279 x7_2).toList == (rdOf ByteArray.empty l0 x7_2).toList) = false := beq_eq_false_iff_ne.mpr c52
                                        have c52b1 : ((rdOf ByteArray.empty t279 x7_2).toList != (rdOf ByteArray.empty l0 x7_2).toList) = true := bne_iff_ne.mpr c52
                                        exact absurd (H.trans (congrArg some HT.out)) (by simp)
                                    · rw [if_neg c51] at H
                                      exact absurd H (by simp)
                                  · rw [if_neg c50] at H
                                    have c50b0 : ((t279.length : Int) == (wrap64 (x7_2 + 1))) = false := beq_eq_false_iff_ne.mpr c50
                                    have c50b1 : ((t279.length : Int) != (wrap64 (x7_2 + 1))) = true := bne_iff_ne.mpr c50
                                    exact absurd (H.trans (congrArg some HT.out)) (by simp)
                                · rw [if_neg c49] at H
                                  have c49b0 : (t278 == (wrap64 (x7_2 + 1))) = false := beq_eq_false_iff_ne.mpr c49
                                  have c49b1 : (t278 != (wrap64 (x7_2 + 1))) = true := bne_iff_ne.mpr c49
                                  exact absurd (H.trans (congrArg some HT.out)) (by simp)
                            · rw [if_neg c47] at H
                              have c47b0 : (t291 == 0) = false := beq_eq_false_iff_ne.mpr c47
                              have c47b1 : (t291 != 0) = true := bne_iff_ne.mpr c47
                              exact absurd (H.trans (congrArg some HT.out)) (by simp)
                        · rw [if_neg c42] at H
                          exact absurd H (by simp)
                      · rw [if_neg c41] at H
                        have c41b0 : decide (x7_2 < (l0.length : Int)) = false := decide_eq_false c41
                        clear c41
                        have H' := Aside0.mk H
                        clear H
                        go_wp2
                        go_roundg kj19
                        case measure => have := HJ3.out; have := HK2.out; have := HJ16.out; have := HJ19.out; omega
                        case rel => exact ⟨(wrap64 (x7_2 + 1)), (x247000_19), (x247001_19), (x247002_19), (x247003_19), (x247004_19), (x247005_19), (x247006_19), (x247007_19), (x247008_19), (u247006), (u247007), (u247008), (by first | rfl | (simp; done) | (simp [*]; done)), H', ⟨by have := HJ3.out; have := HK2.out; have := HJ16.out; have := HJ19.out; omega⟩, ⟨by (with_reducible repeat (first | apply Kd.R_alloc | apply Kd.R_drewN | apply Kd.R_drew)); exact HO_247006.out⟩, ⟨by (with_reducible repeat (first | apply Kd.R_alloc | apply Kd.R_drewN | apply Kd.R_drew)); exact HO_247007.out⟩, ⟨by (with_reducible repeat (first | apply Kd.S_alloc | apply Kd.S_drewN | apply Kd.S_drew)); exact HO_247008.out⟩, ⟨by (with_reducible repeat (first | refine blk_drewN ?_ _ | refine blk_drew ?_ | refine blk_alloc ?_ _)); exact BK246.out⟩, ⟨by repeat (first | (with_reducible first | exact HB.out | apply below_alloc | apply pw_below_drewN | apply below_drew1 | refine below_set ?_ GE246.out) | exact HB.out)⟩⟩
                · replace c19 := Bool.eq_false_iff.mpr c19
                  subst c19
                  have H1 : ((sextonlaw24_worked.f).bind fun t248 => (if t248 = true then (if x247002_2 = a1 then ((sextonref01_Texts.f kj16 x247006_2 l0).bind fun t249 => (some t249)) else (some false)) else (some false))) = some r := by rw [if_neg (show ¬ (false = true) by decide)] at H; exact H
                  clear H
                  have H := H1
                  clear H1
                  replace H := Option.bind_eq_some_iff.mp H
                  obtain ⟨t248, A780, H⟩ := H
                  replace H : (if t248 = true then (if x247002_2 = a1 then ((sextonref01_Texts.f kj16 x247006_2 l0).bind fun t249 => (some t249)) else (some false)) else (some false)) = some r := H
                  have A78 := Aside0.mk A780
                  clear A780
                  by_cases c79 : t248 = true
                  · subst c79
                    have H1 : (if x247002_2 = a1 then ((sextonref01_Texts.f kj16 x247006_2 l0).bind fun t249 => (some t249)) else (some false)) = some r := by rw [if_pos rfl] at H; exact H
                    clear H
                    have H := H1
                    clear H1
                    by_cases c80 : x247002_2 = a1
                    · rw [if_pos c80] at H
                      have c80b0 : (x247002_2 == a1) = true := beq_iff_eq.mpr c80
                      have c80b1 : (x247002_2 != a1) = false := bne_eq_false_iff_eq.mpr c80
                      clear c80
                      replace H := Option.bind_eq_some_iff.mp H
                      obtain ⟨t249, A810, H⟩ := H
                      replace H : (some t249) = some r := H
                      have A81 := Aside0.mk A810
                      clear A810
                      obtain rfl := Option.some.inj H
                      go_wp2_with (first | ((with_reducible refine gate_callee (f := 9) rfl ?_); refine goesL_ (some 138) rfl rfl Try.func9 (by kernel_rfl) rfl #[] rfl (by (try simp only [List.map_toArray, List.map_cons, List.map_nil]); first | done | rfl | (simp only [List.length_drop, List.length_take]; rfl)) ?_; (with_reducible refine (sextonlaw24_worked.calls  true _ A78.out).mono ?_); rintro e w82 ⟨rfl, hb⟩; refine ⟨_, rfl, ?_⟩; have n0_ := Aside0.mk (Kd.R_below (by (with_reducible repeat (first | apply Kd.R_alloc | apply Kd.R_drewN | apply Kd.R_drew)); exact HO_247006.out) hb); have n1_ := Aside0.mk (Kd.R_below (by (with_reducible repeat (first | apply Kd.R_alloc | apply Kd.R_drewN | apply Kd.R_drew)); exact HO_247007.out) hb); have n2_ := Aside0.mk (Kd.S_below (by (with_reducible repeat (first | apply Kd.S_alloc | apply Kd.S_drewN | apply Kd.S_drew)); exact HO_247008.out) hb); have n3_ := Aside0.mk (blk_below (g := gb246) (o := .cells #[.int .i64 x247000_2, .int .i64 x247001_2, .int .i64 x247002_2, .int .i64 x247003_2, .bool x247004_2, .int .i64 x247005_2, u247006, u247007, u247008] 26 (0, 0)) (by (with_reducible repeat (first | refine blk_drewN ?_ _ | refine blk_drew ?_ | refine blk_alloc ?_ _)); exact BK246.out) hb); have n4_ := Aside0.mk (below_step (by repeat (first | (with_reducible first | exact HB.out | apply below_alloc | apply pw_below_drewN | apply below_drew1 | refine below_set ?_ GE246.out) | exact HB.out)) hb); clear HO_247006; clear HO_247007; clear HO_247008; clear BK246; clear HB; have HO_247006 := n0_; have HO_247007 := n1_; have HO_247008 := n2_; have BK246 := n3_; have HB := n4_; clear n0_ n1_ n2_ n3_ n4_; (try clear hb); (try clear hb2); (try clear hk); (try clear hi); have hcz83_0 : w82.cell? ⟨gb246, 0, none⟩ = some (.int .i64 x247000_2) := (blk_cell BK246.out 0).trans rfl; have hcz83_1 : w82.cell? ⟨gb246, 1, none⟩ = some (.int .i64 x247001_2) := (blk_cell BK246.out 1).trans rfl; have hcz83_2 : w82.cell? ⟨gb246, 2, none⟩ = some (.int .i64 x247002_2) := (blk_cell BK246.out 2).trans rfl; have hcz83_3 : w82.cell? ⟨gb246, 3, none⟩ = some (.int .i64 x247003_2) := (blk_cell BK246.out 3).trans rfl; have hcz83_4 : w82.cell? ⟨gb246, 4, none⟩ = some (.bool x247004_2) := (blk_cell BK246.out 4).trans rfl; have hcz83_5 : w82.cell? ⟨gb246, 5, none⟩ = some (.int .i64 x247005_2) := (blk_cell BK246.out 5).trans rfl; have hcz83_6 : w82.cell? ⟨gb246, 6, none⟩ = some (u247006) := (blk_cell BK246.out 6).trans rfl; have hcz83_7 : w82.cell? ⟨gb246, 7, none⟩ = some (u247007) := (blk_cell BK246.out 7).trans rfl; have hcz83_8 : w82.cell? ⟨gb246, 8, none⟩ = some (u247008) := (blk_cell BK246.out 8).trans rfl; have hfz83_0 := blk_frozen BK246.out 0; have hfz83_1 := blk_frozen BK246.out 1; have hfz83_2 := blk_frozen BK246.out 2; have hfz83_3 := blk_frozen BK246.out 3; have hfz83_4 := blk_frozen BK246.out 4; have hfz83_5 := blk_frozen BK246.out 5; have hfz83_6 := blk_frozen BK246.out 6; have hfz83_7 := blk_frozen BK246.out 7; have hfz83_8 := blk_frozen BK246.out 8; obtain ⟨Ao84, co84, eo84⟩ := Kd.R_slice HO_247006.out; subst eo84) | (go_at_call 14; (with_reducible refine (sextonref01_Texts.calls kj16 _ _ x247006_2 _ _ l0 t249 _ ?side1 ?side2 ?side3 ?side4 A81.out).mono ?_); (case side1 => repeat (first | exact (Kd.R_reads' HO_247006.out).2.2 | (with_reducible refine Kd.C_alloc ?_ _) | (with_reducible refine Kd.C_drewN ?_ _) | (with_reducible refine Kd.C_drew ?_))); (case side2 => exact (Kd.R_reads' HO_247006.out).2.1); (case side3 => repeat (first | exact (Kd.C_below HR0.out HB.out) | (with_reducible refine Kd.C_alloc ?_ _) | (with_reducible refine Kd.C_drewN ?_ _) | (with_reducible refine Kd.C_drew ?_))); (case side4 => exact HC0.out); rintro e w' ⟨rfl, ⟨nd, rfl⟩⟩))
                      go_ret
                      exact ⟨by first | rfl | (simp [errW_none, errW_some] <;> rfl) | (simp [*, errW_none, errW_some] <;> rfl), by repeat (first | (with_reducible first | exact HB.out | apply below_alloc | apply pw_below_drewN | apply below_drew1 | refine below_set ?_ GE246.out) | exact HB.out)⟩
                    · rw [if_neg c80] at H
                      have c80b0 : (x247002_2 == a1) = false := beq_eq_false_iff_ne.mpr c80
                      have c80b1 : (x247002_2 != a1) = true := bne_iff_ne.mpr c80
                      exact absurd (H.trans (congrArg some HT.out)) (by simp)
                  · replace c79 := Bool.eq_false_iff.mpr c79
                    subst c79
                    have H1 : (some false) = some r := by rw [if_neg (show ¬ (false = true) by decide)] at H; exact H
                    clear H
                    have H := H1
                    clear H1
                    exact absurd (H.trans (congrArg some HT.out)) (by simp)
end Go.Proofs.Ytfpfpckocemmdaa.P
end
