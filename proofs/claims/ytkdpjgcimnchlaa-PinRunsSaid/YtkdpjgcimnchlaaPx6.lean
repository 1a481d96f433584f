-- printed by a program of this session (wip/tools/xprint.py) over the translation; not trusted: Lean checks it
import Derived.Test.YtkdpjgcimnchlaaPx0
import Derived.Test.YtkdpjgcimnchlaaPx3
import Derived.Test.YtkdpjgcimnchlaaPx4
import Derived.Test.YtkdpjgcimnchlaaPx5
namespace Go.Proofs.Ytkdpjgcimnchlaa.P
open Go.RowKit Go.Proofs.YtkdpjgcimnchlaaW.PrintWords Go.Proofs.YtkdpjgcimnchlaaW.PrintLast Go.Proofs.YtkdpjgcimnchlaaW.PrintMore
attribute [local go_sem] max2_int min2_int max_two min_two max_three min_three max_four min_four   -- for this text's walks alone
set_option linter.unusedVariables false
set_option linter.unusedSimpArgs false

/-! ### api_Pin_29: function 29 (given) -/
-- given making: yes
-- given own: 0.0
-- given info: 24
/-- append, its run known, as one step of a region that draws. -/
theorem api_Pin_29.step_append {P : Program} {ops : Array Oper} {o : Oper} {a : Act} {w : World} {K : Act → World → Prop} {Q : Exit → Act → World → Prop} {E : Prop}
    (hg : o.guard = none) (d x : Operand) (dT sT : TypeId) (hop : o.op = Op.call { callee := Callee.builtin Builtin.append, args := #[d, x], argTypes := #[dT, sT] })
    (v u : Value) (hd : a.eval d = v) (hx : a.eval x = u) {v' : Value} {w' : World} (hr : (Builtin.append_ #[dT, sT] o.type #[v, u]).run P w = .ok v' w') (hK : K (a.put o.dst v') w') :
    if Region.wanted o (yielded ops a.tmps) = true then Oper.wp P o a w K Q else E := by
  have hw : Region.wanted o (yielded ops a.tmps) = true := by simp [Region.wanted, hg]
  rw [if_pos hw]
  unfold Oper.wp
  simp [execOp, hop, resolve, invoke, builtin, hd, hx, hr, Result.andThen]
  exact hK
/-- clear, its run known. -/
theorem api_Pin_29.wp_clear {P : Program} (w : World) {ops : Array Oper} {rest : List Oper} {o : Oper} {a : Act} {Q : Exit → Act → World → Prop} (hgd : o.guard = none) (d : Operand) (t : TypeId)
    (ho : o.op = .call { callee := .builtin .clear, args := #[d], argTypes := #[t] }) (v : Value) (hd : a.eval d = v) {v' : Value} {w' : World}
    (hr : (Builtin.clear_ #[t] o.type #[v]).run P w = .ok v' w') (h : wpList P ops Q rest (a.put o.dst v') w') : wpList P ops Q (o :: rest) a w := by
  refine wpList_plain hgd fun K hK => ?_
  unfold Oper.wp execOp
  simp only [ho, resolve, invoke, builtin, Sem.run_bind, Sem.run_pure, Result.andThen_ok, List.map_toArray, List.map_cons, List.map_nil, hd, hr]
  exact hK _ _ h
theorem api_Pin_29.run_clear (w : World) (g o c : Nat) (cur : Array Value) (hg : w.heap[g]? = some (.cells cur 24 (0, 0))) (hfit : o + 2 ≤ cur.size) (ty : TypeId) :
    (Builtin.clear_ #[22] ty #[.slice (some ⟨g, o, none⟩) 1 c]).run Try.prog w = .ok (.tuple #[]) (w.setRow g (cur.toList.take o ++ [Value.int .i64 0, Value.int .i64 0] ++ cur.toList.drop (o + 2)).toArray) := by
  have hst := run_storeCells_at Try.prog g o 24 [.int .i64 0, .int .i64 0] 0 cur w hg (by simpa using hfit) (by intro v hv; simp at hv; rw [hv]; rfl)
  have hz : (zeroValue 24).run Try.prog w = .ok (.agg #[.int .i64 0, .int .i64 0]) w := Try.zeroValue24 w
  have hzc : (Builtin.zeroCells (Value.agg #[.int .i64 0, .int .i64 0]).cells 1).toList = [.int .i64 0, .int .i64 0] := by
    show (Array.map _ (Array.range 2)).toList = _
    simp [Array.toList_range, List.range_succ, Value.cells]
  simp only [Nat.add_zero] at hst
  simp [Builtin.clear_, run_underlying Try.underlying22, hz, hzc, hst]
set_option maxHeartbeats 8000000 in
set_option maxRecDepth 100000 in
theorem api_Pin_29.cut (w : World) (g n c i : Nat) (cur : Array Value) (hi : i < n) (hnc : n ≤ c) (hc63 : c ≤ 9223372036854775807)
    (hg : w.heap[g]? = some (.cells cur 24 (0, 0))) (hs : cur.size = c * 2) (h1 : ∀ v ∈ cur.toList.take (n * 2), v.oneCell' = true) :
    Calls Try.prog 29 #[.slice (some ⟨g, 0, none⟩) n c, .int .i64 i, .int .i64 ((i : Int) + 1)] w fun e w' =>
      e = .returned (.slice (some ⟨g, 0, none⟩) (n - 1) c) ∧ ∃ cur' : Array Value, w'.heap[g]? = some (.cells cur' 24 (0, 0)) ∧ cur'.size = c * 2 ∧ cur'.toList.take ((n - 1) * 2) = cur.toList.take (i * 2) ++ (cur.toList.take (n * 2)).drop ((i + 1) * 2) ∧ w.grownBy w' (some g) := by
  obtain ⟨i24, hi24, hz24, hs24, hb24⟩ := info_parts info24
  have hin : i ≤ n := by omega
  have hic : i ≤ c := by omega
  have hz2 : ¬ ((i : Int) = (i : Int) + 1) := by omega
  have hb1 : (0 : Int) ≤ (i : Int) + 1 := by omega
  have hb2 : ((i : Int) + 1 ≤ (n : Int)) = True := eq_true (by omega)
  have hb3 : (i + 1 ≤ n) = True := eq_true (by omega)
  have htn : ((i : Int) + 1).toNat = i + 1 := by omega
  obtain ⟨C1, hC1⟩ : ∃ C1, C1 = (cur.toList.take (n * 2)).drop ((i + 1) * 2) := ⟨_, rfl⟩
  have hl1 : C1.length = (n - (i + 1)) * 2 := by rw [hC1]; simp; omega
  obtain ⟨R1, hR1⟩ : ∃ R1 : Array Value, R1 = (cur.toList.take (i * 2) ++ C1 ++ cur.toList.drop (i * 2 + C1.length)).toArray := ⟨_, rfl⟩
  have hs1 : R1.size = c * 2 := by rw [hR1]; simp [hl1]; omega
  have happ : ∀ ty, (Builtin.append_ #[22, 22] ty #[.slice (some ⟨g, 0, none⟩) i c, .slice (if c = i + 1 then some ⟨g, 0, none⟩ else some ⟨g, (i + 1) * 2, none⟩) (n - (i + 1)) (c - (i + 1))]).run Try.prog w.drew = .ok (.slice (some ⟨g, 0, none⟩) (n - 1) c) (w.drew.setRow g R1) := fun ty => by
    have key : ∀ A : Addr, (0 < C1.length → A = ⟨g, (i + 1) * 2, none⟩) → (Builtin.append_ #[22, 22] ty #[.slice (some ⟨g, 0, none⟩) i c, .slice (some A) (n - (i + 1)) (c - (i + 1))]).run Try.prog w.drew = .ok (.slice (some ⟨g, 0, none⟩) (n - 1) c) (w.drew.setRow g R1) := fun A hA => by
      have h := run_append_room (P := Try.prog) w.drew 22 ty 24 i24 Try.underlying22 hi24 g i c cur hg A (n - (i + 1)) (c - (i + 1)) C1 (by rw [hs24]; exact hl1) (fun j u hj => by
        have hj2 := (List.getElem?_eq_some_iff.1 hj).1
        obtain rfl := hA (by omega)
        rw [Addr.add_lit, blk_cell (w := w.drew) hg]
        rw [hC1, List.getElem?_drop, List.getElem?_take] at hj
        split at hj
        · simpa using hj
        · cases hj) (fun u hu => h1 u (by rw [hC1] at hu; exact List.mem_of_mem_drop hu)) (by omega) (by rw [hs24, hl1]; omega)
      rw [hs24, ← hR1] at h
      rw [h, show i + (n - (i + 1)) = n - 1 by omega]
    by_cases hce : c = i + 1
    · rw [if_pos hce]
      exact key _ (fun h => by omega)
    · rw [if_neg hce]
      exact key _ (fun _ => rfl)
  obtain ⟨W1, hW1⟩ : ∃ W1, W1 = w.drew.setRow g R1 := ⟨_, rfl⟩
  have hg1 : W1.heap[g]? = some (.cells R1 24 (0, 0)) := by rw [hW1]; exact x_setRow_heap w.drew g cur R1 24 _ hg
  obtain ⟨R2, hR2⟩ : ∃ R2 : Array Value, R2 = (R1.toList.take ((n - 1) * 2) ++ [Value.int .i64 0, Value.int .i64 0] ++ R1.toList.drop ((n - 1) * 2 + 2)).toArray := ⟨_, rfl⟩
  have hcl : ∀ ty c', (Builtin.clear_ #[22] ty #[.slice (some ⟨g, (n - 1) * 2, none⟩) 1 c']).run Try.prog W1 = .ok (.tuple #[]) (W1.setRow g R2) := fun ty c' => by
    rw [hR2]
    exact api_Pin_29.run_clear W1 g ((n - 1) * 2) c' R1 hg1 (by omega) ty
  have hfin : (W1.setRow g R2).heap[g]? = some (.cells R2 24 (0, 0)) ∧ R2.size = c * 2 ∧ R2.toList.take ((n - 1) * 2) = cur.toList.take (i * 2) ++ C1 ∧ w.grownBy (W1.setRow g R2) (some g) := by
    refine ⟨x_setRow_heap W1 g R1 R2 24 _ hg1, by rw [hR2]; simp; omega, ?_, ?_⟩
    · have e1 : R1.toList.take ((n - 1) * 2) = cur.toList.take (i * 2) ++ C1 := by
        rw [hR1]
        simp only []
        rw [List.take_append_of_le_length (by simp [hl1]; omega)]
        exact List.take_of_length_le (by simp [hl1]; omega)
      rw [hR2]
      simp only [List.append_assoc]
      rw [List.take_append_of_le_length (by simp; omega), List.take_take, Nat.min_self, e1]
    · exact ⟨by rw [hW1]; rfl, by rw [hW1]; rfl, by rw [hW1]; rfl, by rw [hW1]; simp [World.setRow], fun k hk hne' => by
        rw [hW1, setRow_other _ g k _ (fun e => hne' (by rw [e])), setRow_other _ g k _ (fun e => hne' (by rw [e]))]; rfl⟩
  have HF := Aside0.mk hfin
  rw [← hC1]
  rw [← hW1] at happ
  clear hfin hR2 hR1 hC1 hg1 hW1 hg h1 hl1 hs1 hs hi24 hz24 hs24 hb24
  have hn1 : n - 1 ≤ c := by omega
  have hn2 : n - 1 ≤ n := by omega
  have hn3 : ¬ c = n - 1 := by omega
  have hn4 : n - (n - 1) = 1 := by omega
  have hn5 : ((n : Int) - 1).toNat = n - 1 := by omega
  by_cases hce : c = i + 1
  · obtain rfl : n = i + 1 := by omega
    subst hce
    rw [if_pos rfl] at happ
    simp only [Nat.sub_self, Nat.add_sub_cancel] at happ hcl HF
    have hb5 : ((i : Int) ≤ (i : Int) + 1) = True := eq_true (by omega)
    have hb8 : ((0 : Int) ≤ (i : Int) + 1) = True := eq_true (by omega)
    clear hz2 hb1 hb2 hb3 hn1 hn2 hn3 hn4 hn5 hin hic hi hnc
    go_enter Try.func29, Try.ntmps29
    go_wp2
    go_region_law (refine api_Pin_29.step_append rfl _ _ 22 22 rfl _ _ (by simp [Act.eval, Act.put]) (by simp [Act.eval, Act.put]) (happ _) ?_)
    go_wp2_with (at_builtin; refine api_Pin_29.wp_clear _ rfl _ 22 rfl _ rfl (hcl _ _) ?_)
    go_ret
    exact ⟨rfl, R2, HF.out⟩
  · rw [if_neg hce] at happ
    have hce2 : (c = i + 1) = False := eq_false hce
    have hb5 : ((i : Int) ≤ (c : Int)) = True := eq_true (by omega)
    have hb6 : ((n : Int) ≤ (c : Int)) = True := eq_true (by omega)
    have hb7 : (((n - 1 : Nat) : Int) ≤ (n : Int)) = True := eq_true (by omega)
    clear hce
    go_enter Try.func29, Try.ntmps29
    go_wp2
    go_region_law (refine api_Pin_29.step_append rfl _ _ 22 22 rfl _ _ (by simp [Act.eval, Act.put]) (by simp [Act.eval, Act.put]) (happ _) ?_)
    go_wp2_with (at_builtin; refine api_Pin_29.wp_clear _ rfl _ 22 rfl _ rfl (hcl _ _) ?_)
    go_ret
    exact ⟨rfl, R2, HF.out⟩
def api_Pin_29.f (l0 : List S24) (a1 a2 : Int) : Option (List S24) := if 0 ≤ a1 ∧ a1 < (l0.length : Int) ∧ a2 = a1 + 1 then some (l0.take a1.toNat ++ l0.drop (a1.toNat + 1)) else none
set_option maxHeartbeats 8000000 in
set_option maxRecDepth 100000 in
theorem api_Pin_29.calls (P0_ : Nat → Prop) (u9000_ : Value) (l0 : List S24) (a1 a2 : Int) (r : List S24) (w0 w : World) (hB : Below w0.heap.size w0 w) (ho0 : Kd.R k24 24 w w0.heap.size P0_ u9000_ l0) (h : api_Pin_29.f l0 a1 a2 = some r) :
    Calls Try.prog 29 #[u9000_, .int .i64 a1, .int .i64 a2] w fun e w' => ∃ v0_ : Value, e = .returned (v0_) ∧ Kd.R k24 24 w' w0.heap.size (fun k_ => (P0_ k_ ∨ w.heap.size ≤ k_)) v0_ r ∧ Below w0.heap.size w0 w' ∧ Kept w w' (fun k_ => P0_ k_) := by
  unfold api_Pin_29.f at h
  split at h
  case isFalse => cases h
  rename_i ha
  obtain rfl := Option.some.inj h
  clear h
  obtain ⟨h0, h1, rfl⟩ := ha
  obtain ⟨i, rfl⟩ := Int.eq_ofNat_of_zero_le h0
  have hi : i < l0.length := by omega
  simp only [Int.toNat_natCast]
  obtain ⟨hok0, inner0, own0, reps0⟩ := id ho0
  obtain ⟨g, c, cur, rfl, hb, hh, hnc, hcm, hs, ht⟩ := x_own_some own0 (by omega)
  have hone0 : ∀ v ∈ inner0, v.oneCell' = true := Kd.reps_one reps0 (by decide) (fun _ _ h => k24.K_one (k24.K_of_M h))
  have hP0 : P0_ g := hok0 g (by simp [Value.ownBlock])
  have hsz : k24.sz = 2 := rfl
  rw [hsz] at hs ht
  have hlen : (l0.take i ++ l0.drop (i + 1)).length = l0.length - 1 := by simp; omega
  have hreps : ∀ (W : World) (ok : Nat → Prop), Reps (k24.M W w0.heap.size ok) 2 (l0.take i ++ l0.drop (i + 1)) (inner0.take (i * 2) ++ inner0.drop ((i + 1) * 2)) := fun W ok =>
    Kd.reps_append (Kd.reps_take (reps0.imp_ (fun _ _ h => h)) (by omega)) (Kd.reps_drop (reps0.imp_ (fun _ _ h => h)))
  refine (api_Pin_29.cut w g l0.length c i cur hi hnc (by simpa [maxLen] using hcm) hh hs (by rw [ht]; exact hone0)).mono ?_
  rintro e w' ⟨rfl, cur', hh', hs', ht', hgr⟩
  refine ⟨_, rfl, ?_, hB.grown hgr (by have := hB.size; omega) (fun k hk => by injection hk with hk; omega), Kept.of_grown hgr (Kept.refl _ _) (fun k hk => by injection hk with hk; subst hk; exact .inl hP0)⟩
  have h := x_row_of_cells k24 24 w' w0.heap.size (fun k_ => (P0_ k_ ∨ w.heap.size ≤ k_)) g c cur' (l0.take i ++ l0.drop (i + 1)) (inner0.take (i * 2) ++ inner0.drop ((i + 1) * 2)) hb hh' (by rw [hlen]; omega) hcm hs' (by
    rw [hlen, hsz, ht', ht, ← ht]
    simp only [List.take_take]
    rw [Nat.min_eq_left (show i * 2 ≤ l0.length * 2 by omega)]) (hreps w' _) (.inl hP0)
  rwa [hlen] at h

/-! ### pin_Drop: function 11 -/
def pin_Drop.f (k : Nat) (l0 : List (S24)) (a1 : Int) : Option ((List (S24)) × Int) := (pin_Is.f k l0).bind fun t184 => (if t184 = true then ((pin_place.f l0 a1).bind fun t185 => (if t185 < 0 then (some (([] : List (S24)), 80)) else ((api_Pin_25.f l0).bind fun t186 => ((api_Pin_29.f t186 t185 (wrap64 (t185 + 1))).bind fun t189 => (some (t189, 0)))))) else (some (([] : List (S24)), 1)))
theorem pin_Drop.mono : ∀ a0 a1 k, LeO (pin_Drop.f k a0 a1) (pin_Drop.f (k + 1) a0 a1) := by
  intro a0 a1 k
  unfold pin_Drop.f
  repeat' first
      | (with_reducible exact pin_Is.mono _ _)
      | (with_reducible exact LeO.refl _)
      | (with_reducible exact LeO.none _)
      | (with_reducible refine LeO.ite ?_ ?_)
      | (with_reducible refine LeO.bind ?_ (fun _ => ?_))
      | exact pin_Is.mono _ _
      | exact LeO.none _
      | refine LeO.ite ?_ ?_
      | refine LeO.bind ?_ (fun _ => ?_)
set_option maxHeartbeats 8000000 in
set_option maxRecDepth 100000 in
theorem pin_Drop.calls (k : Nat) (A0 : Option Addr) (c0 : Nat) (l0 : List (S24)) (a1 : Int) (r1 : List (S24)) (r2 : Int) (w : World) (hr0 : Kd.C k24 w A0 l0.length l0) (hc0 : l0.length ≤ c0) (h : pin_Drop.f k l0 a1 = some (r1, r2)) :
    Calls Try.prog 11 #[.slice A0 l0.length c0, .int .i64 a1] w fun e w' => ∃ v0_ : Value, e = .returned (.tuple #[v0_, .int .i64 r2]) ∧ Kd.R k24 24 w' w.heap.size (fun _ => True) v0_ r1 ∧ Below w.heap.size w w' := by
  have HR0 := Aside0.mk hr0
  have HC0 := Aside0.mk hc0
  clear hr0 hc0
  have HB := Aside0.mk (Below.refl w.heap.size w)
  have H : ((pin_Is.f k l0).bind fun t184 => (if t184 = true then ((pin_place.f l0 a1).bind fun t185 => (if t185 < 0 then (some (([] : List (S24)), 80)) else ((api_Pin_25.f l0).bind fun t186 => ((api_Pin_29.f t186 t185 (wrap64 (t185 + 1))).bind fun t189 => (some (t189, 0)))))) else (some (([] : List (S24)), 1)))) = some (r1, r2) := h
  clear h
  replace H := Option.bind_eq_some_iff.mp H
  obtain ⟨t184, A30, H⟩ := H
  replace H : (if t184 = true then ((pin_place.f l0 a1).bind fun t185 => (if t185 < 0 then (some (([] : List (S24)), 80)) else ((api_Pin_25.f l0).bind fun t186 => ((api_Pin_29.f t186 t185 (wrap64 (t185 + 1))).bind fun t189 => (some (t189, 0)))))) else (some (([] : List (S24)), 1))) = some (r1, r2) := H
  have A3 := Aside0.mk A30
  clear A30
  by_cases c4 : t184 = true
  · subst c4
    have H1 : ((pin_place.f l0 a1).bind fun t185 => (if t185 < 0 then (some (([] : List (S24)), 80)) else ((api_Pin_25.f l0).bind fun t186 => ((api_Pin_29.f t186 t185 (wrap64 (t185 + 1))).bind fun t189 => (some (t189, 0)))))) = some (r1, r2) := by rw [if_pos rfl] at H; exact H
    clear H
    have H := H1
    clear H1
    replace H := Option.bind_eq_some_iff.mp H
    obtain ⟨t185, A50, H⟩ := H
    replace H : (if t185 < 0 then (some (([] : List (S24)), 80)) else ((api_Pin_25.f l0).bind fun t186 => ((api_Pin_29.f t186 t185 (wrap64 (t185 + 1))).bind fun t189 => (some (t189, 0))))) = some (r1, r2) := H
    have A5 := Aside0.mk A50
    clear A50
    by_cases c6 : t185 < 0
    · rw [if_pos c6] at H
      have c6b0 : decide (t185 < 0) = true := decide_eq_true c6
      clear c6
      simp only [Option.some.injEq, Prod.mk.injEq] at H
      obtain ⟨rfl, rfl⟩ := H
      go_enter Try.func11, Try.ntmps11
      go_wp2_with (first | ((with_reducible refine gate_callee (f := 21) rfl ?_); refine goesL_ (some 8) rfl rfl Try.func21 (by kernel_rfl) rfl #[.slice A0 l0.length c0] rfl (by (try simp only [List.map_toArray, List.map_cons, List.map_nil]); first | done | rfl | (simp only [List.length_drop, List.length_take]; rfl)) ?_; (with_reducible refine (pin_Is.calls k _ _ l0 true _ ?side1 ?side2 A3.out).mono ?_); (case side1 => repeat (first | exact HR0.out | (with_reducible refine Kd.C_alloc ?_ _) | (with_reducible refine Kd.C_drewN ?_ _) | (with_reducible refine Kd.C_drew ?_))); (case side2 => exact HC0.out); rintro e w7 ⟨rfl, hb⟩; refine ⟨_, rfl, ?_⟩; have n0_ := Aside0.mk (below_step (by repeat (first | (with_reducible first | exact HB.out | apply below_alloc | apply pw_below_drewN | apply below_drew1) | exact HB.out)) hb); clear HB; have HB := n0_; clear n0_; (try clear hb); (try clear hb2); (try clear hk); (try clear hi)) | ((with_reducible refine gate_callee (f := 24) rfl ?_); refine goesL_ (some 12) rfl rfl Try.func24 (by kernel_rfl) rfl #[.slice A0 l0.length c0, .int .i64 a1] rfl (by (try simp only [List.map_toArray, List.map_cons, List.map_nil]); first | done | rfl | (simp only [List.length_drop, List.length_take]; rfl)) ?_; (with_reducible refine (pin_place.calls _ _ l0 a1 t185 _ ?side1 ?side2 A5.out).mono ?_); (case side1 => repeat (first | exact (Kd.C_below HR0.out HB.out) | (with_reducible refine Kd.C_alloc ?_ _) | (with_reducible refine Kd.C_drewN ?_ _) | (with_reducible refine Kd.C_drew ?_))); (case side2 => exact HC0.out); rintro e w8 ⟨rfl, hb⟩; refine ⟨_, rfl, ?_⟩; have n0_ := Aside0.mk (below_step (by repeat (first | (with_reducible first | exact HB.out | apply below_alloc | apply pw_below_drewN | apply below_drew1) | exact HB.out)) hb); clear HB; have HB := n0_; clear n0_; (try clear hb); (try clear hb2); (try clear hk); (try clear hi)))
      go_ret2
      exact ⟨_, by first | rfl | (simp [errW_none, errW_some] <;> rfl) | (simp [*, errW_none, errW_some] <;> rfl), by first | exact Kd.R_nil _ _ _ _ _ | exact Kd.N_nil _ _ _ _ _ | exact Kd.V_nil _ _ _ _ _ | exact Kd.Q_nil _ _ _ _ _ | exact Kd.S_nil _ _ _ _ _, by repeat (first | (with_reducible first | exact HB.out | apply below_alloc | apply pw_below_drewN | apply below_drew1) | exact HB.out)⟩
    · rw [if_neg c6] at H
      have c6b0 : decide (t185 < 0) = false := decide_eq_false c6
      clear c6
      replace H := Option.bind_eq_some_iff.mp H
      obtain ⟨t186, A90, H⟩ := H
      replace H : ((api_Pin_29.f t186 t185 (wrap64 (t185 + 1))).bind fun t189 => (some (t189, 0))) = some (r1, r2) := H
      have A9 := Aside0.mk A90
      clear A90
      replace H := Option.bind_eq_some_iff.mp H
      obtain ⟨t189, A100, H⟩ := H
      replace H : (some (t189, 0)) = some (r1, r2) := H
      have A10 := Aside0.mk A100
      clear A100
      simp only [Option.some.injEq, Prod.mk.injEq] at H
      obtain ⟨rfl, rfl⟩ := H
      go_enter Try.func11, Try.ntmps11
      go_wp2_with (first | ((with_reducible refine gate_callee (f := 21) rfl ?_); refine goesL_ (some 8) rfl rfl Try.func21 (by kernel_rfl) rfl #[.slice A0 l0.length c0] rfl (by (try simp only [List.map_toArray, List.map_cons, List.map_nil]); first | done | rfl | (simp only [List.length_drop, List.length_take]; rfl)) ?_; (with_reducible refine (pin_Is.calls k _ _ l0 true _ ?side1 ?side2 A3.out).mono ?_); (case side1 => repeat (first | exact HR0.out | (with_reducible refine Kd.C_alloc ?_ _) | (with_reducible refine Kd.C_drewN ?_ _) | (with_reducible refine Kd.C_drew ?_))); (case side2 => exact HC0.out); rintro e w11 ⟨rfl, hb⟩; refine ⟨_, rfl, ?_⟩; have n0_ := Aside0.mk (below_step (by repeat (first | (with_reducible first | exact HB.out | apply below_alloc | apply pw_below_drewN | apply below_drew1) | exact HB.out)) hb); clear HB; have HB := n0_; clear n0_; (try clear hb); (try clear hb2); (try clear hk); (try clear hi)) | ((with_reducible refine gate_callee (f := 24) rfl ?_); refine goesL_ (some 12) rfl rfl Try.func24 (by kernel_rfl) rfl #[.slice A0 l0.length c0, .int .i64 a1] rfl (by (try simp only [List.map_toArray, List.map_cons, List.map_nil]); first | done | rfl | (simp only [List.length_drop, List.length_take]; rfl)) ?_; (with_reducible refine (pin_place.calls _ _ l0 a1 t185 _ ?side1 ?side2 A5.out).mono ?_); (case side1 => repeat (first | exact (Kd.C_below HR0.out HB.out) | (with_reducible refine Kd.C_alloc ?_ _) | (with_reducible refine Kd.C_drewN ?_ _) | (with_reducible refine Kd.C_drew ?_))); (case side2 => exact HC0.out); rintro e w12 ⟨rfl, hb⟩; refine ⟨_, rfl, ?_⟩; have n0_ := Aside0.mk (below_step (by repeat (first | (with_reducible first | exact HB.out | apply below_alloc | apply pw_below_drewN | apply below_drew1) | exact HB.out)) hb); clear HB; have HB := n0_; clear n0_; (try clear hb); (try clear hb2); (try clear hk); (try clear hi)) | ((with_reducible refine gate_callee (f := 25) rfl ?_); refine goesL_ (some 16) rfl rfl Try.func25 (by kernel_rfl) rfl #[.slice A0 l0.length c0] rfl (by (try simp only [List.map_toArray, List.map_cons, List.map_nil]); first | done | rfl | (simp only [List.length_drop, List.length_take]; rfl)) ?_; (with_reducible refine (api_Pin_25.calls _ _ l0 t186 _ ?side1 ?side2 A9.out).mono ?_); (case side1 => repeat (first | exact (Kd.C_below HR0.out HB.out) | (with_reducible refine Kd.C_alloc ?_ _) | (with_reducible refine Kd.C_drewN ?_ _) | (with_reducible refine Kd.C_drew ?_))); (case side2 => exact HC0.out); rintro e w13 ⟨v187, rfl, ho0, hb⟩; refine ⟨_, rfl, ?_⟩; have n0_ := Aside0.mk (Kd.R_lower ho0 (below_size (by repeat (first | (with_reducible first | exact HB.out | apply below_alloc | apply pw_below_drewN | apply below_drew1) | exact HB.out)))); have n1_ := Aside0.mk (below_step (by repeat (first | (with_reducible first | exact HB.out | apply below_alloc | apply pw_below_drewN | apply below_drew1) | exact HB.out)) hb); clear HB; have HO188 := n0_; have HB := n1_; clear n0_ n1_; (try clear hb); (try clear hb2); (try clear hk); (try clear hi); (try clear ho0); obtain ⟨Ao14, co14, eo14⟩ := Kd.R_slice HO188.out; subst eo14) | ((with_reducible refine gate_callee (f := 29) rfl ?_); refine goesL_ (some 20) rfl rfl Try.func29 (by kernel_rfl) rfl #[.slice Ao14 t186.length co14, .int .i64 t185, .int .i64 (wrap64 (t185 + 1))] rfl (by (try simp only [List.map_toArray, List.map_cons, List.map_nil]); first | done | rfl | (simp only [List.length_drop, List.length_take]; rfl)) ?_; (with_reducible refine (api_Pin_29.calls (fun k_ => some k_ = (.slice Ao14 t186.length co14 : Value).ownBlock) (.slice Ao14 t186.length co14) t186 t185 (wrap64 (t185 + 1)) t189 w _ ?side1 ?side2 A10.out).mono ?_); (case side1 => repeat (first | (with_reducible first | exact HB.out | apply below_alloc | apply pw_below_drewN | apply below_drew1) | exact HB.out)); (case side2 => exact Kd.R_tight rfl HO188.out); rintro e w15 ⟨v190, rfl, ho0, hb, hkp⟩; refine ⟨_, rfl, ?_⟩; have n0_ := Aside0.mk (Kd.R_mono (ok' := fun k_ => True) ho0 (fun k_ hk_ => trivial)); have n1_ := Aside0.mk (hb); clear HB; clear HO188; have HO191 := n0_; have HB := n1_; clear n0_ n1_; (try clear hb); (try clear hkp); (try clear ho0)))
      go_ret2
      exact ⟨_, by first | rfl | (simp [errW_none, errW_some] <;> rfl) | (simp [*, errW_none, errW_some] <;> rfl), by (with_reducible repeat (first | apply Kd.R_alloc | apply Kd.R_drewN | apply Kd.R_drew)); exact HO191.out, by repeat (first | (with_reducible first | exact HB.out | apply below_alloc | apply pw_below_drewN | apply below_drew1) | exact HB.out)⟩
  · replace c4 := Bool.eq_false_iff.mpr c4
    subst c4
    have H1 : (some (([] : List (S24)), 1)) = some (r1, r2) := by rw [if_neg (show ¬ (false = true) by decide)] at H; exact H
    clear H
    have H := H1
    clear H1
    simp only [Option.some.injEq, Prod.mk.injEq] at H
    obtain ⟨rfl, rfl⟩ := H
    go_enter Try.func11, Try.ntmps11
    go_wp2_with (first | ((with_reducible refine gate_callee (f := 21) rfl ?_); refine goesL_ (some 8) rfl rfl Try.func21 (by kernel_rfl) rfl #[.slice A0 l0.length c0] rfl (by (try simp only [List.map_toArray, List.map_cons, List.map_nil]); first | done | rfl | (simp only [List.length_drop, List.length_take]; rfl)) ?_; (with_reducible refine (pin_Is.calls k _ _ l0 false _ ?side1 ?side2 A3.out).mono ?_); (case side1 => repeat (first | exact HR0.out | (with_reducible refine Kd.C_alloc ?_ _) | (with_reducible refine Kd.C_drewN ?_ _) | (with_reducible refine Kd.C_drew ?_))); (case side2 => exact HC0.out); rintro e w16 ⟨rfl, hb⟩; refine ⟨_, rfl, ?_⟩; have n0_ := Aside0.mk (below_step (by repeat (first | (with_reducible first | exact HB.out | apply below_alloc | apply pw_below_drewN | apply below_drew1) | exact HB.out)) hb); clear HB; have HB := n0_; clear n0_; (try clear hb); (try clear hb2); (try clear hk); (try clear hi)))
    go_ret2
    exact ⟨_, by first | rfl | (simp [errW_none, errW_some] <;> rfl) | (simp [*, errW_none, errW_some] <;> rfl), by first | exact Kd.R_nil _ _ _ _ _ | exact Kd.N_nil _ _ _ _ _ | exact Kd.V_nil _ _ _ _ _ | exact Kd.Q_nil _ _ _ _ _ | exact Kd.S_nil _ _ _ _ _, by repeat (first | (with_reducible first | exact HB.out | apply below_alloc | apply pw_below_drewN | apply below_drew1) | exact HB.out)⟩

/-! ### sextonref17_Drop: function 12 -/
def sextonref17_Drop.l0 : Nat → List (S24) → Int → List (S24) → Int → Option ((List (S24)) × Int)
  | 0, _, _, _, _ => none
  | k + 1, x0, x1, x6, x7 => if x7 < (x0.length : Int) then (if 0 ≤ x7 then (if ((rd_T24 x0 x7).f0) = x1 then (sextonref17_Drop.l0 k x0 x1 x6 (wrap64 (x7 + 1))) else (if x6.length < 8796093022208 then (sextonref17_Drop.l0 k x0 x1 (x6 ++ [(⟨(rd_T24 x0 x7).f0, (rd_T24 x0 x7).f1⟩ : S24)]) (wrap64 (x7 + 1))) else (none))) else (none)) else (if (x6.length : Int) = (x0.length : Int) then (some (([] : List (S24)), 80)) else (some (x6, 0)))
def sextonref17_Drop.f (k : Nat) (l0 : List (S24)) (a1 : Int) : Option ((List (S24)) × Int) := (sextonref17_Is.f k l0).bind fun t192 => (if t192 = true then (sextonref17_Drop.l0 k l0 a1 ([] : List (S24)) 0) else (some (([] : List (S24)), 1)))
theorem sextonref17_Drop.mono_l : ∀ k, (∀ y0 y1 y2 y3, LeO (sextonref17_Drop.l0 k y0 y1 y2 y3) (sextonref17_Drop.l0 (k + 1) y0 y1 y2 y3))
  | 0 => fun _ _ _ _ r h => by simp [sextonref17_Drop.l0] at h
  | k + 1 => by
    have ih0 := sextonref17_Drop.mono_l k
    · intro y0 y1 y2 y3
      unfold sextonref17_Drop.l0
      repeat' first
      | (with_reducible exact ih0 _ _ _ _)
      | (with_reducible exact sextonref17_Is.mono _ _)
      | (with_reducible exact LeO.refl _)
      | (with_reducible exact LeO.none _)
      | (with_reducible refine LeO.ite ?_ ?_)
      | (with_reducible refine LeO.bind ?_ (fun _ => ?_))
      | exact ih0 _ _ _ _
      | exact sextonref17_Is.mono _ _
      | exact LeO.none _
      | refine LeO.ite ?_ ?_
      | refine LeO.bind ?_ (fun _ => ?_)
theorem sextonref17_Drop.mono : ∀ a0 a1 k, LeO (sextonref17_Drop.f k a0 a1) (sextonref17_Drop.f (k + 1) a0 a1) := by
  intro a0 a1 k
  have ih0 := sextonref17_Drop.mono_l k
  unfold sextonref17_Drop.f
  repeat' first
      | (with_reducible exact ih0 _ _ _ _)
      | (with_reducible exact sextonref17_Is.mono _ _)
      | (with_reducible exact LeO.refl _)
      | (with_reducible exact LeO.none _)
      | (with_reducible refine LeO.ite ?_ ?_)
      | (with_reducible refine LeO.bind ?_ (fun _ => ?_))
      | exact ih0 _ _ _ _
      | exact sextonref17_Is.mono _ _
      | exact LeO.none _
      | refine LeO.ite ?_ ?_
      | refine LeO.bind ?_ (fun _ => ?_)
set_option maxHeartbeats 8000000 in
set_option maxRecDepth 100000 in
theorem sextonref17_Drop.calls (k : Nat) (A0 : Option Addr) (c0 : Nat) (l0 : List (S24)) (a1 : Int) (r1 : List (S24)) (r2 : Int) (w : World) (hr0 : Kd.C k24 w A0 l0.length l0) (hc0 : l0.length ≤ c0) (h : sextonref17_Drop.f k l0 a1 = some (r1, r2)) :
    Calls Try.prog 12 #[.slice A0 l0.length c0, .int .i64 a1] w fun e w' => ∃ v0_ : Value, e = .returned (.tuple #[v0_, .int .i64 r2]) ∧ Kd.R k24 24 w' w.heap.size (fun _ => True) v0_ r1 ∧ Below w.heap.size w w' := by
  have hu24 := Try.underlying24
  have HR0 := Aside0.mk hr0
  have HC0 := Aside0.mk hc0
  clear hr0 hc0
  have HB := Aside0.mk (Below.refl w.heap.size w)
  have H : ((sextonref17_Is.f k l0).bind fun t192 => (if t192 = true then (sextonref17_Drop.l0 k l0 a1 ([] : List (S24)) 0) else (some (([] : List (S24)), 1)))) = some (r1, r2) := h
  clear h
  replace H := Option.bind_eq_some_iff.mp H
  obtain ⟨t192, A30, H⟩ := H
  replace H : (if t192 = true then (sextonref17_Drop.l0 k l0 a1 ([] : List (S24)) 0) else (some (([] : List (S24)), 1))) = some (r1, r2) := H
  have A3 := Aside0.mk A30
  clear A30
  by_cases c4 : t192 = true
  · subst c4
    have H1 : (sextonref17_Drop.l0 k l0 a1 ([] : List (S24)) 0) = some (r1, r2) := by rw [if_pos rfl] at H; exact H
    clear H
    have H := H1
    clear H1
    have H' := Aside0.mk H
    clear H
    go_enter Try.func12, Try.ntmps12
    go_wp2_with (first | ((with_reducible refine gate_callee (f := 22) rfl ?_); refine goesL_ (some 9) rfl rfl Try.func22 (by kernel_rfl) rfl #[.slice A0 l0.length c0] rfl (by (try simp only [List.map_toArray, List.map_cons, List.map_nil]); first | done | rfl | (simp only [List.length_drop, List.length_take]; rfl)) ?_; (with_reducible refine (sextonref17_Is.calls k _ _ l0 true _ ?side1 ?side2 A3.out).mono ?_); (case side1 => repeat (first | exact HR0.out | (with_reducible refine Kd.C_alloc ?_ _) | (with_reducible refine Kd.C_drewN ?_ _) | (with_reducible refine Kd.C_drew ?_))); (case side2 => exact HC0.out); rintro e w' ⟨rfl, ⟨nd, rfl⟩⟩; refine ⟨_, rfl, ?_⟩))
    go_loopg [6, 7] k (fun kq v6 v7 w' => ∃ (x6_1 : List (S24)) (x7_1 : Int), v7 = .int .i64 x7_1 ∧ Aside0 (sextonref17_Drop.l0 kq l0 a1 x6_1 x7_1 = some (r1, r2)) ∧ Aside0 (kq ≤ k) ∧ Aside0 (Kd.R k24 24 w' w.heap.size (fun _ => True) v6 x6_1) ∧ Aside0 (Below w.heap.size w w'))
    case atStart => exact ⟨(([] : List (S24))), (0), (by first | rfl | (simp; done) | (simp [*]; done)), H', ⟨Nat.le_refl _⟩, ⟨by first | exact Kd.R_nil _ _ _ _ _ | exact Kd.N_nil _ _ _ _ _ | exact Kd.V_nil _ _ _ _ _ | exact Kd.Q_nil _ _ _ _ _ | exact Kd.S_nil _ _ _ _ _⟩, ⟨by repeat (first | (with_reducible first | exact HB.out | apply below_alloc | apply pw_below_drewN | apply below_drew1) | exact HB.out)⟩⟩
    case round =>
      clear H'
      try clear c1
      try clear c2
      try clear p2
      try clear c4
      obtain ⟨x6_1, x7_1, rfl, HA, HK1, HO_6, HB⟩ := hrel
      cases gk with
      | zero => exact absurd HA.out (by simp [sextonref17_Drop.l0])
      | succ k1 =>
        have H := HA.out
        clear HA
        simp only [sextonref17_Drop.l0] at H
        by_cases c5 : x7_1 < (l0.length : Int)
        · rw [if_pos c5] at H
          have c5b0 : decide (x7_1 < (l0.length : Int)) = true := decide_eq_true c5
          clear c5
          by_cases c6 : 0 ≤ x7_1
          · rw [if_pos c6] at H
            have c6b0 : decide (0 ≤ x7_1) = true := decide_eq_true c6
            clear c6
            by_cases c7 : ((rd_T24 l0 x7_1).f0) = a1
            · rw [if_pos c7] at H
              have c7b0 : (((rd_T24 l0 x7_1).f0) == a1) = true := beq_iff_eq.mpr c7
              have c7b1 : (((rd_T24 l0 x7_1).f0) != a1) = false := bne_eq_false_iff_eq.mpr c7
              clear c7
              have H' := Aside0.mk H
              clear H
              have p193 : 0 ≤ (x7_1 : Int) := of_decide_eq_true (by first | (with_reducible assumption) | assumption)
              have q193 : x7_1 < (l0.length : Int) := of_decide_eq_true (by first | (with_reducible assumption) | assumption)
              obtain ⟨ad193, e193, hx193_0, hx193_1⟩ := at_T24 HR0.out x7_1 p193 q193
              cases e193
              replace hx193_0 := (HB.out.cell (World.block_lt_of_cell? w _ hx193_0)).trans hx193_0
              replace hx193_1 := (HB.out.cell (World.block_lt_of_cell? w _ hx193_1)).trans hx193_1
              replace p193 := eq_true p193
              replace q193 := eq_true q193
              go_wp2
              go_roundg k1
              case measure => have := HK1.out; omega
              case rel => exact ⟨(x6_1), (wrap64 (x7_1 + 1)), (by first | rfl | (simp; done) | (simp [*]; done)), H', ⟨by have := HK1.out; omega⟩, ⟨by (with_reducible repeat (first | apply Kd.R_alloc | apply Kd.R_drewN | apply Kd.R_drew)); exact HO_6.out⟩, ⟨by repeat (first | (with_reducible first | exact HB.out | apply below_alloc | apply pw_below_drewN | apply below_drew1) | exact HB.out)⟩⟩
            · rw [if_neg c7] at H
              have c7b0 : (((rd_T24 l0 x7_1).f0) == a1) = false := beq_eq_false_iff_ne.mpr c7
              have c7b1 : (((rd_T24 l0 x7_1).f0) != a1) = true := bne_iff_ne.mpr c7
              by_cases c8 : x6_1.length < 8796093022208
              · rw [if_pos c8] at H
                have LMc8 := Aside0.mk c8
                clear c8
                obtain ⟨y195, hy195⟩ : ∃ y_ : List (S24), y_ = (x6_1 ++ [(⟨(rd_T24 l0 x7_1).f0, (rd_T24 l0 x7_1).f1⟩ : S24)]) := ⟨_, rfl⟩
                replace H : (sextonref17_Drop.l0 k1 l0 a1 y195 (wrap64 (x7_1 + 1))) = some (r1, r2) := by first | (rw [hy195]; with_reducible exact H) | (have H2_ := (Option.bind_some _ _).symm.trans H; rw [hy195]; with_reducible exact H2_) | (have H2_ := (Option.bind_some _ _).symm.trans H; with_reducible exact H2_) | with_reducible exact H | (rw [hy195]; exact H) | exact H
                have Ny195 := Aside0.mk hy195
                clear hy195
                have H' := Aside0.mk H
                clear H
                have p193 : 0 ≤ (x7_1 : Int) := of_decide_eq_true (by first | (with_reducible assumption) | assumption)
                have q193 : x7_1 < (l0.length : Int) := of_decide_eq_true (by first | (with_reducible assumption) | assumption)
                obtain ⟨ad193, e193, hx193_0, hx193_1⟩ := at_T24 HR0.out x7_1 p193 q193
                cases e193
                replace hx193_0 := (HB.out.cell (World.block_lt_of_cell? w _ hx193_0)).trans hx193_0
                replace hx193_1 := (HB.out.cell (World.block_lt_of_cell? w _ hx193_1)).trans hx193_1
                replace p193 := eq_true p193
                replace q193 := eq_true q193
                have p194 : 0 ≤ (x7_1 : Int) := of_decide_eq_true (by first | (with_reducible assumption) | assumption)
                have q194 : x7_1 < (l0.length : Int) := of_decide_eq_true (by first | (with_reducible assumption) | assumption)
                obtain ⟨ad194, e194, hx194_0, hx194_1⟩ := at_T24 HR0.out x7_1 p194 q194
                obtain rfl : ad193 = ad194 := (by injection e194)
                replace hx194_0 := (HB.out.cell (World.block_lt_of_cell? w _ hx194_0)).trans hx194_0
                replace hx194_1 := (HB.out.cell (World.block_lt_of_cell? w _ hx194_1)).trans hx194_1
                replace p194 := eq_true p194
                replace q194 := eq_true q194
                go_wp2_with (first | ((with_reducible refine gate_builtin (b := .append) (xs := #[.tmp 24, .tmp 29]) rfl ?_); at_builtin; refine Kd.R_append k24 (w0 := w) w.heap.size rfl (.tmp 24) (.tmp 29) 22 24 (.agg #[(.int .i64 0), (.int .i64 0)]) 16 rfl Try.underlying22 info24 rfl (by decide) (by omega) u6 x6_1 (⟨(rd_T24 l0 x7_1).f0, (rd_T24 l0 x7_1).f1⟩ : S24) [.int .i64 ((rd_T24 l0 x7_1).f0), .int .i64 ((rd_T24 l0 x7_1).f1)] (fun _ => True) (fun _ => False) rfl rfl ?aP (fun _ hk => hk.elim) ?aF ?aO ?aB ?aS ?aL ?_; (case aP => exact k24_mkM _ _ _ (⟨(rd_T24 l0 x7_1).f0, (rd_T24 l0 x7_1).f1⟩ : S24)); (case aB => exact (by repeat (first | (with_reducible first | exact HB.out | apply below_alloc | apply pw_below_drewN | apply below_drew1) | exact HB.out))); (case aF => exact (fun _ _ => trivial)); (case aO => exact (by (with_reducible repeat (first | apply Kd.R_alloc | apply Kd.R_drewN | apply Kd.R_drew)); exact HO_6.out)); (case aS => exact (below_size (by repeat (first | (with_reducible first | exact HB.out | apply below_alloc | apply pw_below_drewN | apply below_drew1) | exact HB.out)))); (case aL => have := LMc8.out; omega); intro v196 w9 ho hb hg hat; rw [← Ny195.out] at ho; have n0_ := Aside0.mk (hb); have n1_ := Aside0.mk (ho); clear HB; clear HO_6; have HB := n0_; have HO197 := n1_; clear n0_ n1_; clear ho hb hg hat))
                go_roundg k1
                case measure => have := HK1.out; omega
                case rel => exact ⟨(y195), (wrap64 (x7_1 + 1)), (by first | rfl | (simp; done) | (simp [*]; done)), H', ⟨by have := HK1.out; omega⟩, ⟨by (with_reducible repeat (first | apply Kd.R_alloc | apply Kd.R_drewN | apply Kd.R_drew)); exact HO197.out⟩, ⟨by repeat (first | (with_reducible first | exact HB.out | apply below_alloc | apply pw_below_drewN | apply below_drew1) | exact HB.out)⟩⟩
              · rw [if_neg c8] at H
                exact absurd H (by simp)
          · rw [if_neg c6] at H
            exact absurd H (by simp)
        · rw [if_neg c5] at H
          have c5b0 : decide (x7_1 < (l0.length : Int)) = false := decide_eq_false c5
          clear c5
          by_cases c10 : (x6_1.length : Int) = (l0.length : Int)
          · rw [if_pos c10] at H
            have c10b0 : ((x6_1.length : Int) == (l0.length : Int)) = true := beq_iff_eq.mpr c10
            have c10b1 : ((x6_1.length : Int) != (l0.length : Int)) = false := bne_eq_false_iff_eq.mpr c10
            have c10b2 : (x6_1.length == l0.length) = true := by first | simpa using c10 | (simp at c10 ⊢; omega)
            clear c10
            simp only [Option.some.injEq, Prod.mk.injEq] at H
            obtain ⟨rfl, rfl⟩ := H
            obtain ⟨Ao11, co11, eo11⟩ := Kd.R_slice HO_6.out
            subst eo11
            go_wp2
            go_ret2
            exact ⟨_, by first | rfl | (simp [errW_none, errW_some] <;> rfl) | (simp [*, errW_none, errW_some] <;> rfl), by first | exact Kd.R_nil _ _ _ _ _ | exact Kd.N_nil _ _ _ _ _ | exact Kd.V_nil _ _ _ _ _ | exact Kd.Q_nil _ _ _ _ _ | exact Kd.S_nil _ _ _ _ _, by repeat (first | (with_reducible first | exact HB.out | apply below_alloc | apply pw_below_drewN | apply below_drew1) | exact HB.out)⟩
          · rw [if_neg c10] at H
            have c10b0 : ((x6_1.length : Int) == (l0.length : Int)) = false := beq_eq_false_iff_ne.mpr c10
            have c10b1 : ((x6_1.length : Int) != (l0.length : Int)) = true := bne_iff_ne.mpr c10
            have c10b2 : (x6_1.length == l0.length) = false := by first | simpa using c10 | (simp at c10 ⊢; omega)
            simp only [Option.some.injEq, Prod.mk.injEq] at H
            obtain ⟨rfl, rfl⟩ := H
            obtain ⟨Ao12, co12, eo12⟩ := Kd.R_slice HO_6.out
            subst eo12
            go_wp2
            go_ret2
            exact ⟨_, by first | rfl | (simp [errW_none, errW_some] <;> rfl) | (simp [*, errW_none, errW_some] <;> rfl), by (with_reducible repeat (first | apply Kd.R_alloc | apply Kd.R_drewN | apply Kd.R_drew)); exact HO_6.out, by repeat (first | (with_reducible first | exact HB.out | apply below_alloc | apply pw_below_drewN | apply below_drew1) | exact HB.out)⟩
  · replace c4 := Bool.eq_false_iff.mpr c4
    subst c4
    have H1 : (some (([] : List (S24)), 1)) = some (r1, r2) := by rw [if_neg (show ¬ (false = true) by decide)] at H; exact H
    clear H
    have H := H1
    clear H1
    simp only [Option.some.injEq, Prod.mk.injEq] at H
    obtain ⟨rfl, rfl⟩ := H
    go_enter Try.func12, Try.ntmps12
    go_wp2_with (first | ((with_reducible refine gate_callee (f := 22) rfl ?_); refine goesL_ (some 9) rfl rfl Try.func22 (by kernel_rfl) rfl #[.slice A0 l0.length c0] rfl (by (try simp only [List.map_toArray, List.map_cons, List.map_nil]); first | done | rfl | (simp only [List.length_drop, List.length_take]; rfl)) ?_; (with_reducible refine (sextonref17_Is.calls k _ _ l0 false _ ?side1 ?side2 A3.out).mono ?_); (case side1 => repeat (first | exact HR0.out | (with_reducible refine Kd.C_alloc ?_ _) | (with_reducible refine Kd.C_drewN ?_ _) | (with_reducible refine Kd.C_drew ?_))); (case side2 => exact HC0.out); rintro e w' ⟨rfl, ⟨nd, rfl⟩⟩; refine ⟨_, rfl, ?_⟩))
    go_ret2
    exact ⟨_, by first | rfl | (simp [errW_none, errW_some] <;> rfl) | (simp [*, errW_none, errW_some] <;> rfl), by first | exact Kd.R_nil _ _ _ _ _ | exact Kd.N_nil _ _ _ _ _ | exact Kd.V_nil _ _ _ _ _ | exact Kd.Q_nil _ _ _ _ _ | exact Kd.S_nil _ _ _ _ _, by repeat (first | (with_reducible first | exact HB.out | apply below_alloc | apply pw_below_drewN | apply below_drew1) | exact HB.out)⟩

/-! ### pin_Of: function 13 -/
def pin_Of.f (l0 : List (S24)) (a1 : Int) : Option (Int × Bool) := (pin_place.f l0 a1).bind fun t198 => (if t198 < 0 then (some (0, false)) else (if 0 ≤ t198 then (if t198 < (l0.length : Int) then (some ((rd_T24 l0 t198).f1, true)) else (none)) else (none)))
set_option maxHeartbeats 8000000 in
set_option maxRecDepth 100000 in
theorem pin_Of.calls (A0 : Option Addr) (c0 : Nat) (l0 : List (S24)) (a1 : Int) (r1 : Int) (r2 : Bool) (w : World) (hr0 : Kd.C k24 w A0 l0.length l0) (hc0 : l0.length ≤ c0) (h : pin_Of.f l0 a1 = some (r1, r2)) :
    Calls Try.prog 13 #[.slice A0 l0.length c0, .int .i64 a1] w fun e w' => e = .returned (.tuple #[.int .i64 r1, .bool r2]) ∧ Below w.heap.size w w' := by
  have HR0 := Aside0.mk hr0
  have HC0 := Aside0.mk hc0
  clear hr0 hc0
  have HB := Aside0.mk (Below.refl w.heap.size w)
  have H : ((pin_place.f l0 a1).bind fun t198 => (if t198 < 0 then (some (0, false)) else (if 0 ≤ t198 then (if t198 < (l0.length : Int) then (some ((rd_T24 l0 t198).f1, true)) else (none)) else (none)))) = some (r1, r2) := h
  clear h
  replace H := Option.bind_eq_some_iff.mp H
  obtain ⟨t198, A30, H⟩ := H
  replace H : (if t198 < 0 then (some (0, false)) else (if 0 ≤ t198 then (if t198 < (l0.length : Int) then (some ((rd_T24 l0 t198).f1, true)) else (none)) else (none))) = some (r1, r2) := H
  have A3 := Aside0.mk A30
  clear A30
  by_cases c4 : t198 < 0
  · rw [if_pos c4] at H
    have c4b0 : decide (t198 < 0) = true := decide_eq_true c4
    clear c4
    simp only [Option.some.injEq, Prod.mk.injEq] at H
    obtain ⟨rfl, rfl⟩ := H
    go_enter Try.func13, Try.ntmps13
    go_wp2_with (first | ((with_reducible refine gate_callee (f := 24) rfl ?_); refine goesL_ (some 9) rfl rfl Try.func24 (by kernel_rfl) rfl #[.slice A0 l0.length c0, .int .i64 a1] rfl (by (try simp only [List.map_toArray, List.map_cons, List.map_nil]); first | done | rfl | (simp only [List.length_drop, List.length_take]; rfl)) ?_; (with_reducible refine (pin_place.calls _ _ l0 a1 t198 _ ?side1 ?side2 A3.out).mono ?_); (case side1 => repeat (first | exact HR0.out | (with_reducible refine Kd.C_alloc ?_ _) | (with_reducible refine Kd.C_drewN ?_ _) | (with_reducible refine Kd.C_drew ?_))); (case side2 => exact HC0.out); rintro e w5 ⟨rfl, hb⟩; refine ⟨_, rfl, ?_⟩; have n0_ := Aside0.mk (below_step (by repeat (first | (with_reducible first | exact HB.out | apply below_alloc | apply pw_below_drewN | apply below_drew1) | exact HB.out)) hb); clear HB; have HB := n0_; clear n0_; (try clear hb); (try clear hb2); (try clear hk); (try clear hi)))
    go_ret2
    exact ⟨by first | rfl | (simp [errW_none, errW_some] <;> rfl) | (simp [*, errW_none, errW_some] <;> rfl), by repeat (first | (with_reducible first | exact HB.out | apply below_alloc | apply pw_below_drewN | apply below_drew1) | exact HB.out)⟩
  · rw [if_neg c4] at H
    have c4b0 : decide (t198 < 0) = false := decide_eq_false c4
    clear c4
    by_cases c6 : 0 ≤ t198
    · rw [if_pos c6] at H
      have c6b0 : decide (0 ≤ t198) = true := decide_eq_true c6
      clear c6
      by_cases c7 : t198 < (l0.length : Int)
      · rw [if_pos c7] at H
        have c7b0 : decide (t198 < (l0.length : Int)) = true := decide_eq_true c7
        clear c7
        simp only [Option.some.injEq, Prod.mk.injEq] at H
        obtain ⟨rfl, rfl⟩ := H
        go_enter Try.func13, Try.ntmps13
        go_wp2_with (first | ((with_reducible refine gate_callee (f := 24) rfl ?_); refine goesL_ (some 9) rfl rfl Try.func24 (by kernel_rfl) rfl #[.slice A0 l0.length c0, .int .i64 a1] rfl (by (try simp only [List.map_toArray, List.map_cons, List.map_nil]); first | done | rfl | (simp only [List.length_drop, List.length_take]; rfl)) ?_; (with_reducible refine (pin_place.calls _ _ l0 a1 t198 _ ?side1 ?side2 A3.out).mono ?_); (case side1 => repeat (first | exact HR0.out | (with_reducible refine Kd.C_alloc ?_ _) | (with_reducible refine Kd.C_drewN ?_ _) | (with_reducible refine Kd.C_drew ?_))); (case side2 => exact HC0.out); rintro e w8 ⟨rfl, hb⟩; refine ⟨_, rfl, ?_⟩; have n0_ := Aside0.mk (below_step (by repeat (first | (with_reducible first | exact HB.out | apply below_alloc | apply pw_below_drewN | apply below_drew1) | exact HB.out)) hb); clear HB; have HB := n0_; clear n0_; (try clear hb); (try clear hb2); (try clear hk); (try clear hi); have p199 : 0 ≤ (t198 : Int) := of_decide_eq_true (by first | (with_reducible assumption) | assumption); have q199 : t198 < (l0.length : Int) := of_decide_eq_true (by first | (with_reducible assumption) | assumption); obtain ⟨ad199, e199, hx199_0, hx199_1⟩ := at_T24 HR0.out t198 p199 q199; cases e199; replace hx199_0 := (HB.out.cell (World.block_lt_of_cell? w _ hx199_0)).trans hx199_0; replace hx199_1 := (HB.out.cell (World.block_lt_of_cell? w _ hx199_1)).trans hx199_1; replace p199 := eq_true p199; replace q199 := eq_true q199))
        go_ret2
        exact ⟨by first | rfl | (simp [errW_none, errW_some] <;> rfl) | (simp [*, errW_none, errW_some] <;> rfl), by repeat (first | (with_reducible first | exact HB.out | apply below_alloc | apply pw_below_drewN | apply below_drew1) | exact HB.out)⟩
      · rw [if_neg c7] at H
        exact absurd H (by simp)
    · rw [if_neg c6] at H
      exact absurd H (by simp)

/-! ### pin_least: function 30 -/
def pin_least.l0 : Nat → Int → List Int → Int → Int → Option (Int)
  | 0, _, _, _, _ => none
  | k + 1, x0, x7, x8, x9 => if x9 < x8 then (if 0 ≤ x9 then (if x9 < (x7.length : Int) then (pin_least.l0 k (mn x0 (rd x7 x9)) x7 x8 (wrap64 (x9 + 1))) else (none)) else (none)) else (some x0)
def pin_least.f (k : Nat) (a0 : Int) (l1 : List Int) : Option (Int) := pin_least.l0 k a0 l1 (l1.length : Int) 0
theorem pin_least.mono_l : ∀ k, (∀ y0 y1 y2 y3, LeO (pin_least.l0 k y0 y1 y2 y3) (pin_least.l0 (k + 1) y0 y1 y2 y3))
  | 0 => fun _ _ _ _ r h => by simp [pin_least.l0] at h
  | k + 1 => by
    have ih0 := pin_least.mono_l k
    · intro y0 y1 y2 y3
      unfold pin_least.l0
      repeat' first
      | (with_reducible exact ih0 _ _ _ _)
      | (with_reducible exact LeO.refl _)
      | (with_reducible exact LeO.none _)
      | (with_reducible refine LeO.ite ?_ ?_)
      | (with_reducible refine LeO.bind ?_ (fun _ => ?_))
      | exact ih0 _ _ _ _
      | exact LeO.none _
      | refine LeO.ite ?_ ?_
      | refine LeO.bind ?_ (fun _ => ?_)
theorem pin_least.mono : ∀ a0 a1 k, LeO (pin_least.f k a0 a1) (pin_least.f (k + 1) a0 a1) := by
  intro a0 a1 k
  have ih0 := pin_least.mono_l k
  unfold pin_least.f
  repeat' first
      | (with_reducible exact ih0 _ _ _ _)
      | (with_reducible exact LeO.refl _)
      | (with_reducible exact LeO.none _)
      | (with_reducible refine LeO.ite ?_ ?_)
      | (with_reducible refine LeO.bind ?_ (fun _ => ?_))
      | exact ih0 _ _ _ _
      | exact LeO.none _
      | refine LeO.ite ?_ ?_
      | refine LeO.bind ?_ (fun _ => ?_)
set_option maxHeartbeats 8000000 in
set_option maxRecDepth 100000 in
theorem pin_least.calls (k : Nat) (a0 : Int) (A1 : Option Addr) (c1 : Nat) (l1 : List Int) (r : Int) (w : World) (hr1 : Kd.C (Kd.int .i64) w A1 l1.length l1) (hc1 : l1.length ≤ c1) (h : pin_least.f k a0 l1 = some r) :
    Calls Try.prog 30 #[.int .i64 a0, .slice A1 l1.length c1] w fun e w' => e = .returned (.int .i64 r) ∧ Below w.heap.size w w' := by
  have HR1 := Aside0.mk hr1
  have HC1 := Aside0.mk hc1
  clear hr1 hc1
  have HB := Aside0.mk (Below.refl w.heap.size w)
  have H : (pin_least.l0 k a0 l1 (l1.length : Int) 0) = some r := h
  clear h
  have H' := Aside0.mk H
  clear H
  go_enter Try.func30, Try.ntmps30
  go_wp2
  go_loopg [0, 9] k (fun kq v0 v9 w' => ∃ (x0_1 : Int) (x9_1 : Int), v0 = .int .i64 x0_1 ∧ v9 = .int .i64 x9_1 ∧ Aside0 (pin_least.l0 kq x0_1 l1 (l1.length : Int) x9_1 = some r) ∧ Aside0 (kq ≤ k) ∧ Aside0 (Below w.heap.size w w'))
  case atStart => exact ⟨(a0), (0), (by first | rfl | (simp; done) | (simp [*]; done)), (by first | rfl | (simp; done) | (simp [*]; done)), H', ⟨Nat.le_refl _⟩, ⟨by repeat (first | (with_reducible first | exact HB.out | apply below_alloc | apply pw_below_drewN | apply below_drew1) | exact HB.out)⟩⟩
  case round =>
    clear H'
    try clear c1
    try clear p2
    obtain ⟨x0_1, x9_1, rfl, rfl, HA, HK1, HB⟩ := hrel
    cases gk with
    | zero => exact absurd HA.out (by simp [pin_least.l0])
    | succ k1 =>
      have H := HA.out
      clear HA
      simp only [pin_least.l0] at H
      by_cases c3 : x9_1 < (l1.length : Int)
      · rw [if_pos c3] at H
        have c3b0 : decide (x9_1 < (l1.length : Int)) = true := decide_eq_true c3
        clear c3
        by_cases c4 : 0 ≤ x9_1
        · rw [if_pos c4] at H
          have c4b0 : decide (0 ≤ x9_1) = true := decide_eq_true c4
          clear c4
          by_cases c5 : x9_1 < (l1.length : Int)
          · rw [if_pos c5] at H
            have c5b0 : decide (x9_1 < (l1.length : Int)) = true := decide_eq_true c5
            clear c5
            obtain ⟨ji6, hji6⟩ : ∃ j_ : Int, (mn x0_1 (rd l1 x9_1)) = j_ := ⟨_, rfl⟩
            replace H : (pin_least.l0 k1 ji6 l1 (l1.length : Int) (wrap64 (x9_1 + 1))) = some r := by first | (rw [hji6] at H; exact H) | (simp only [hji6] at H ⊢; exact H)
            have hji6_ : (if (rd l1 x9_1) < x0_1 then (rd l1 x9_1) else x0_1) = ji6 := hji6
            have H' := Aside0.mk H
            clear H
            have p200 : 0 ≤ (x9_1 : Int) := of_decide_eq_true (by first | (with_reducible assumption) | assumption)
            have q200 : x9_1 < (l1.length : Int) := of_decide_eq_true (by first | (with_reducible assumption) | assumption)
            obtain ⟨ad200, e200, hx200_0⟩ := Kd.at_int HR1.out x9_1 p200 q200
            cases e200
            replace hx200_0 := (HB.out.cell (World.block_lt_of_cell? w _ hx200_0)).trans hx200_0
            replace p200 := eq_true p200
            replace q200 := eq_true q200
            go_wp2
            go_roundg k1
            case measure => have := HK1.out; omega
            case rel => exact ⟨(ji6), (wrap64 (x9_1 + 1)), (by first | rfl | (simp; done) | (simp only [← hji6] <;> (first | rfl | simp)) | (simp [*]; done)), (by first | rfl | (simp; done) | (simp [*]; done)), H', ⟨by have := HK1.out; omega⟩, ⟨by repeat (first | (with_reducible first | exact HB.out | apply below_alloc | apply pw_below_drewN | apply below_drew1) | exact HB.out)⟩⟩
          · rw [if_neg c5] at H
            exact absurd H (by simp)
        · rw [if_neg c4] at H
          exact absurd H (by simp)
      · rw [if_neg c3] at H
        have c3b0 : decide (x9_1 < (l1.length : Int)) = false := decide_eq_false c3
        clear c3
        obtain rfl := Option.some.inj H
        go_wp2
        go_ret
        exact ⟨by first | rfl | (simp [errW_none, errW_some] <;> rfl) | (simp [*, errW_none, errW_some] <;> rfl), by repeat (first | (with_reducible first | exact HB.out | apply below_alloc | apply pw_below_drewN | apply below_drew1) | exact HB.out)⟩

/-! ### pin_times: function 31 -/
def pin_times.l0 : Nat → List Int → List (S24) → Int → Int → Option (List Int)
  | 0, _, _, _, _ => none
  | k + 1, x3, x6, x7, x8 => if x8 < x7 then (if 0 ≤ x8 then (if x8 < (x6.length : Int) then (if x3.length < 17592186044416 then (pin_times.l0 k (x3 ++ [(rd_T24 x6 x8).f1]) x6 x7 (wrap64 (x8 + 1))) else (none)) else (none)) else (none)) else (some x3)
def pin_times.f (k : Nat) (l0 : List (S24)) : Option (List Int) := pin_times.l0 k ([] : List Int) l0 (l0.length : Int) 0
theorem pin_times.mono_l : ∀ k, (∀ y0 y1 y2 y3, LeO (pin_times.l0 k y0 y1 y2 y3) (pin_times.l0 (k + 1) y0 y1 y2 y3))
  | 0 => fun _ _ _ _ r h => by simp [pin_times.l0] at h
  | k + 1 => by
    have ih0 := pin_times.mono_l k
    · intro y0 y1 y2 y3
      unfold pin_times.l0
      repeat' first
      | (with_reducible exact ih0 _ _ _ _)
      | (with_reducible exact LeO.refl _)
      | (with_reducible exact LeO.none _)
      | (with_reducible refine LeO.ite ?_ ?_)
      | (with_reducible refine LeO.bind ?_ (fun _ => ?_))
      | exact ih0 _ _ _ _
      | exact LeO.none _
      | refine LeO.ite ?_ ?_
      | refine LeO.bind ?_ (fun _ => ?_)
theorem pin_times.mono : ∀ a0 k, LeO (pin_times.f k a0) (pin_times.f (k + 1) a0) := by
  intro a0 k
  have ih0 := pin_times.mono_l k
  unfold pin_times.f
  repeat' first
      | (with_reducible exact ih0 _ _ _ _)
      | (with_reducible exact LeO.refl _)
      | (with_reducible exact LeO.none _)
      | (with_reducible refine LeO.ite ?_ ?_)
      | (with_reducible refine LeO.bind ?_ (fun _ => ?_))
      | exact ih0 _ _ _ _
      | exact LeO.none _
      | refine LeO.ite ?_ ?_
      | refine LeO.bind ?_ (fun _ => ?_)
set_option maxHeartbeats 8000000 in
set_option maxRecDepth 100000 in
theorem pin_times.calls (k : Nat) (A0 : Option Addr) (c0 : Nat) (l0 : List (S24)) (r : List Int) (w : World) (hr0 : Kd.C k24 w A0 l0.length l0) (hc0 : l0.length ≤ c0) (h : pin_times.f k l0 = some r) :
    Calls Try.prog 31 #[.slice A0 l0.length c0] w fun e w' => ∃ v0_ : Value, e = .returned (v0_) ∧ Kd.R (Kd.int .i64) 3 w' w.heap.size (fun _ => True) v0_ r ∧ Below w.heap.size w w' := by
  have hu24 := Try.underlying24
  have HR0 := Aside0.mk hr0
  have HC0 := Aside0.mk hc0
  clear hr0 hc0
  have HB := Aside0.mk (Below.refl w.heap.size w)
  have H : (pin_times.l0 k ([] : List Int) l0 (l0.length : Int) 0) = some r := h
  clear h
  have H' := Aside0.mk H
  clear H
  go_enter Try.func31, Try.ntmps31
  go_wp2
  go_loopg [3, 8] k (fun kq v3 v8 w' => ∃ (x3_1 : List Int) (x8_1 : Int), v8 = .int .i64 x8_1 ∧ Aside0 (pin_times.l0 kq x3_1 l0 (l0.length : Int) x8_1 = some r) ∧ Aside0 (kq ≤ k) ∧ Aside0 (Kd.R (Kd.int .i64) 3 w' w.heap.size (fun _ => True) v3 x3_1) ∧ Aside0 (Below w.heap.size w w'))
  case atStart => exact ⟨(([] : List Int)), (0), (by first | rfl | (simp; done) | (simp [*]; done)), H', ⟨Nat.le_refl _⟩, ⟨by first | exact Kd.R_nil _ _ _ _ _ | exact Kd.N_nil _ _ _ _ _ | exact Kd.V_nil _ _ _ _ _ | exact Kd.Q_nil _ _ _ _ _ | exact Kd.S_nil _ _ _ _ _⟩, ⟨by repeat (first | (with_reducible first | exact HB.out | apply below_alloc | apply pw_below_drewN | apply below_drew1) | exact HB.out)⟩⟩
  case round =>
    clear H'
    obtain ⟨x3_1, x8_1, rfl, HA, HK1, HO_3, HB⟩ := hrel
    cases gk with
    | zero => exact absurd HA.out (by simp [pin_times.l0])
    | succ k1 =>
      have H := HA.out
      clear HA
      simp only [pin_times.l0] at H
      by_cases c2 : x8_1 < (l0.length : Int)
      · rw [if_pos c2] at H
        have c2b0 : decide (x8_1 < (l0.length : Int)) = true := decide_eq_true c2
        clear c2
        by_cases c3 : 0 ≤ x8_1
        · rw [if_pos c3] at H
          have c3b0 : decide (0 ≤ x8_1) = true := decide_eq_true c3
          clear c3
          by_cases c4 : x8_1 < (l0.length : Int)
          · rw [if_pos c4] at H
            have c4b0 : decide (x8_1 < (l0.length : Int)) = true := decide_eq_true c4
            clear c4
            by_cases c5 : x3_1.length < 17592186044416
            · rw [if_pos c5] at H
              have LMc5 := Aside0.mk c5
              clear c5
              obtain ⟨y203, hy203⟩ : ∃ y_ : List Int, y_ = (x3_1 ++ [(rd_T24 l0 x8_1).f1]) := ⟨_, rfl⟩
              replace H : (pin_times.l0 k1 y203 l0 (l0.length : Int) (wrap64 (x8_1 + 1))) = some r := by first | (rw [hy203]; with_reducible exact H) | (have H2_ := (Option.bind_some _ _).symm.trans H; rw [hy203]; with_reducible exact H2_) | (have H2_ := (Option.bind_some _ _).symm.trans H; with_reducible exact H2_) | with_reducible exact H | (rw [hy203]; exact H) | exact H
              have Ny203 := Aside0.mk hy203
              clear hy203
              have H' := Aside0.mk H
              clear H
              have p201 : 0 ≤ (x8_1 : Int) := of_decide_eq_true (by first | (with_reducible assumption) | assumption)
              have q201 : x8_1 < (l0.length : Int) := of_decide_eq_true (by first | (with_reducible assumption) | assumption)
              obtain ⟨ad201, e201, hx201_0, hx201_1⟩ := at_T24 HR0.out x8_1 p201 q201
              cases e201
              replace hx201_0 := (HB.out.cell (World.block_lt_of_cell? w _ hx201_0)).trans hx201_0
              replace hx201_1 := (HB.out.cell (World.block_lt_of_cell? w _ hx201_1)).trans hx201_1
              replace p201 := eq_true p201
              replace q201 := eq_true q201
              go_wp2_with (first | ((with_reducible refine gate_dst (N := 5) rfl ?_); refine box_event ?hg (N := 5) ?hd (cs := #[.int .i64 0, .int .i64 0]) (t := 24) ?hr ?_; (case hd => rfl); (case hg => rfl); (case hr => first | (go_simp; done) | (go_simp; rfl)); intro gb202 hg w6 hbox hb; have n0_ := Aside0.mk (Kd.R_below (by (with_reducible repeat (first | apply Kd.R_alloc | apply Kd.R_drewN | apply Kd.R_drew)); exact HO_3.out) hb); have n1_ := Aside0.mk (below_step (by repeat (first | (with_reducible first | exact HB.out | apply below_alloc | apply pw_below_drewN | apply below_drew1) | exact HB.out)) hb); have n2_ := Aside0.mk (hbox); have n3_ := Aside0.mk ((by rw [hg]; exact (below_size (by repeat (first | (with_reducible first | exact HB.out | apply below_alloc | apply pw_below_drewN | apply below_drew1) | exact HB.out))) : w.heap.size ≤ gb202)); have n4_ := Aside0.mk ((by rw [hg]; exact (below_size (by repeat (first | (with_reducible first | exact HB.out | apply below_alloc | apply pw_below_drewN | apply below_drew1) | exact HB.out))) : w.heap.size ≤ gb202)); clear HO_3; clear HB; have HO_3 := n0_; have HB := n1_; have BK202 := n2_; have GW202 := n3_; have GE202 := n4_; clear n0_ n1_ n2_ n3_ n4_; clear hb hbox hg; have hcz7_0 : w6.cell? ⟨gb202, 0, none⟩ = some (.int .i64 0) := (blk_cell BK202.out 0).trans rfl; have hcz7_1 : w6.cell? ⟨gb202, 1, none⟩ = some (.int .i64 0) := (blk_cell BK202.out 1).trans rfl; have hfz7_0 := blk_frozen BK202.out 0; have hfz7_1 := blk_frozen BK202.out 1) | ((with_reducible refine gate_builtin (b := .append) (xs := #[.tmp 12, .tmp 15]) rfl ?_); at_builtin; refine Kd.R_append (Kd.int .i64) (w0 := w) w.heap.size rfl (.tmp 12) (.tmp 15) 51 3 (.int .i64 0) 8 rfl Try.underlying51 info3 rfl (by decide) (by omega) u3 x3_1 ((rd_T24 l0 x8_1).f1) [.int .i64 ((rd_T24 l0 x8_1).f1)] (fun _ => True) (fun _ => False) rfl (by first | (go_simp; done) | (go_simp; rfl)) ?aP (fun _ hk => hk.elim) ?aF ?aO ?aB ?aS ?aL ?_; (case aP => exact rfl); (case aB => exact (by repeat (first | (with_reducible first | exact HB.out | apply below_alloc | apply pw_below_drewN | apply below_drew1 | refine below_set ?_ GE202.out) | exact HB.out))); (case aF => exact (fun _ _ => trivial)); (case aO => exact (by (with_reducible repeat (first | apply Kd.R_alloc | apply Kd.R_drewN | apply Kd.R_drew)); exact Kd.R_mono (Kd.R_far (p := ⟨gb202, 1, none⟩) (Kd.R_far (p := ⟨gb202, 0, none⟩) (Kd.R_types HO_3.out BK202.out (by decide)) (fun _ hk => hk.2) (.int .i64 ((rd_T24 l0 x8_1).f0))) (fun _ hk => hk.2) (.int .i64 ((rd_T24 l0 x8_1).f1))) (fun _ hk => trivial))); (case aS => exact (below_size (by repeat (first | (with_reducible first | exact HB.out | apply below_alloc | apply pw_below_drewN | apply below_drew1 | refine below_set ?_ GE202.out) | exact HB.out)))); (case aL => have := LMc5.out; omega); intro v204 w8 ho hb hg hat; rw [← Ny203.out] at ho; have n0_ := Aside0.mk (blk_grown (g := gb202) (o := .cells #[.int .i64 ((rd_T24 l0 x8_1).f0), .int .i64 ((rd_T24 l0 x8_1).f1)] 24 (0, 0)) (by (with_reducible repeat (first | refine blk_drewN ?_ _ | refine blk_drew ?_ | refine blk_alloc ?_ _)); refine blk_put (cs := #[.int .i64 ((rd_T24 l0 x8_1).f0), .int .i64 0]) ?_ 1 _ rfl; (with_reducible repeat (first | refine blk_drewN ?_ _ | refine blk_drew ?_ | refine blk_alloc ?_ _)); refine blk_put (cs := #[.int .i64 0, .int .i64 0]) ?_ 0 _ rfl; (with_reducible repeat (first | refine blk_drewN ?_ _ | refine blk_drew ?_ | refine blk_alloc ?_ _)); exact BK202.out) hg (Kd.R_ne HO_3.out BK202.out (by decide))); have n1_ := Aside0.mk (hb); have n2_ := Aside0.mk (ho); clear BK202; clear HB; clear HO_3; have BK202 := n0_; have HB := n1_; have HO205 := n2_; clear n0_ n1_ n2_; clear ho hb hg hat))
              go_roundg k1
              case measure => have := HK1.out; omega
              case rel => exact ⟨(y203), (wrap64 (x8_1 + 1)), (by first | rfl | (simp; done) | (simp [*]; done)), H', ⟨by have := HK1.out; omega⟩, ⟨by (with_reducible repeat (first | apply Kd.R_alloc | apply Kd.R_drewN | apply Kd.R_drew)); exact HO205.out⟩, ⟨by repeat (first | (with_reducible first | exact HB.out | apply below_alloc | apply pw_below_drewN | apply below_drew1 | refine below_set ?_ GE202.out) | exact HB.out)⟩⟩
            · rw [if_neg c5] at H
              exact absurd H (by simp)
          · rw [if_neg c4] at H
            exact absurd H (by simp)
        · rw [if_neg c3] at H
          exact absurd H (by simp)
      · rw [if_neg c2] at H
        have c2b0 : decide (x8_1 < (l0.length : Int)) = false := decide_eq_false c2
        clear c2
        obtain rfl := Option.some.inj H
        go_wp2
        go_ret
        exact ⟨_, by first | rfl | (simp [errW_none, errW_some] <;> rfl) | (simp [*, errW_none, errW_some] <;> rfl), by (with_reducible repeat (first | apply Kd.R_alloc | apply Kd.R_drewN | apply Kd.R_drew)); exact HO_3.out, by repeat (first | (with_reducible first | exact HB.out | apply below_alloc | apply pw_below_drewN | apply below_drew1) | exact HB.out)⟩

/-! ### pin_Least: function 15 -/
def pin_Least.f (k : Nat) (l0 : List (S24)) : Option (Int × Bool) := if (l0.length : Int) = 0 then (some (0, false)) else (if 0 < (l0.length : Int) then ((pin_times.f k l0).bind fun t207 => ((pin_least.f k ((rd_T24 l0 0).f1) t207).bind fun t210 => (some (t210, true)))) else (none))
theorem pin_Least.mono : ∀ a0 k, LeO (pin_Least.f k a0) (pin_Least.f (k + 1) a0) := by
  intro a0 k
  unfold pin_Least.f
  repeat' first
      | (with_reducible exact pin_least.mono _ _ _)
      | (with_reducible exact pin_times.mono _ _)
      | (with_reducible exact LeO.refl _)
      | (with_reducible exact LeO.none _)
      | (with_reducible refine LeO.ite ?_ ?_)
      | (with_reducible refine LeO.bind ?_ (fun _ => ?_))
      | exact pin_least.mono _ _ _
      | exact pin_times.mono _ _
      | exact LeO.none _
      | refine LeO.ite ?_ ?_
      | refine LeO.bind ?_ (fun _ => ?_)
def pin_Least.T3 : Bool × List (List Nat × List Nat) := (true, [([], []), ([0], [0]), ([1], [1]), ([2], [2]), ([], []), ([4], [4]), ([3, 5, 5], [3, 5]), ([6, 6, 0, 1, 2, 3, 4, 5, 6], [6]), ([7, 0, 1, 2, 3, 4, 5, 6, 7], [])])
def pin_Least.B3 : List Nat := [0, 1, 3, 7, 0, 16, 63, 127, 255]
theorem pin_Least.tab3 : rtab .any (opsOf Try.f15 3) = pin_Least.T3 := by kernel_rfl
theorem pin_Least.bits3 : waitsOk pin_Least.T3.2 pin_Least.B3 = true := by kernel_rfl
set_option maxHeartbeats 8000000 in
set_option maxRecDepth 100000 in
theorem pin_Least.calls (k : Nat) (A0 : Option Addr) (c0 : Nat) (l0 : List (S24)) (r1 : Int) (r2 : Bool) (w : World) (hr0 : Kd.C k24 w A0 l0.length l0) (hc0 : l0.length ≤ c0) (h : pin_Least.f k l0 = some (r1, r2)) :
    Calls Try.prog 15 #[.slice A0 l0.length c0] w fun e w' => e = .returned (.tuple #[.int .i64 r1, .bool r2]) ∧ Below w.heap.size w w' := by
  have HR0 := Aside0.mk hr0
  have HC0 := Aside0.mk hc0
  clear hr0 hc0
  have HB := Aside0.mk (Below.refl w.heap.size w)
  have H : (if (l0.length : Int) = 0 then (some (0, false)) else (if 0 < (l0.length : Int) then ((pin_times.f k l0).bind fun t207 => ((pin_least.f k ((rd_T24 l0 0).f1) t207).bind fun t210 => (some (t210, true)))) else (none))) = some (r1, r2) := h
  clear h
  by_cases c2 : (l0.length : Int) = 0
  · rw [if_pos c2] at H
    have c2b0 : ((l0.length : Int) == 0) = true := beq_iff_eq.mpr c2
    have c2b1 : ((l0.length : Int) != 0) = false := bne_eq_false_iff_eq.mpr c2
    clear c2
    simp only [Option.some.injEq, Prod.mk.injEq] at H
    obtain ⟨rfl, rfl⟩ := H
    go_enter Try.func15, Try.ntmps15
    go_wp2
    go_ret2
    exact ⟨by first | rfl | (simp [errW_none, errW_some] <;> rfl) | (simp [*, errW_none, errW_some] <;> rfl), by repeat (first | (with_reducible first | exact HB.out | apply below_alloc | apply pw_below_drewN | apply below_drew1) | exact HB.out)⟩
  · rw [if_neg c2] at H
    have c2b0 : ((l0.length : Int) == 0) = false := beq_eq_false_iff_ne.mpr c2
    have c2b1 : ((l0.length : Int) != 0) = true := bne_iff_ne.mpr c2
    have c2b2 : ¬ (l0 = []) := fun h_ => c2 (by rw [h_]; rfl)
    by_cases c3 : 0 < (l0.length : Int)
    · rw [if_pos c3] at H
      have c3b0 : decide (0 < (l0.length : Int)) = true := decide_eq_true c3
      have c3b1 : decide (0 < l0.length) = true := decide_eq_true (by omega)
      clear c3
      replace H := Option.bind_eq_some_iff.mp H
      obtain ⟨t207, A40, H⟩ := H
      replace H : ((pin_least.f k ((rd_T24 l0 0).f1) t207).bind fun t210 => (some (t210, true))) = some (r1, r2) := H
      have A4 := Aside0.mk A40
      clear A40
      replace H := Option.bind_eq_some_iff.mp H
      obtain ⟨t210, A50, H⟩ := H
      replace H : (some (t210, true)) = some (r1, r2) := H
      have A5 := Aside0.mk A50
      clear A50
      simp only [Option.some.injEq, Prod.mk.injEq] at H
      obtain ⟨rfl, rfl⟩ := H
      go_enter Try.func15, Try.ntmps15
      try go_wp2
      have n0_ := Aside0.mk (below_drew1 HB.out)
      clear HB
      have HB := n0_
      clear n0_
      have p206 : 0 ≤ (0 : Int) := (by omega)
      have q206 : 0 < (l0.length : Int) := of_decide_eq_true (by first | (with_reducible assumption) | assumption)
      obtain ⟨ad206, e206, hx206_0, hx206_1⟩ := at_T24 HR0.out 0 p206 q206
      have hw206_1 := hx206_1
      (try rw [show ((0 : Int)).toNat = 0 from rfl] at hw206_1)
      (try rw [show 0 * 2 = 0 from rfl] at hw206_1)
      (try rw [Addr.add_zero'] at hw206_1)
      have hw206_0 := hx206_0
      (try rw [show ((0 : Int)).toNat = 0 from rfl] at hw206_0)
      (try rw [show 0 * 2 = 0 from rfl] at hw206_0)
      (try rw [Addr.add_zero'] at hw206_0)
      cases e206
      have qi206 : (0 < l0.length) = True := eq_true (by omega)
      (try rw [show ((0 : Int)).toNat = 0 from rfl] at hx206_0)
      (try rw [show 0 * 2 = 0 from rfl] at hx206_0)
      (try rw [Addr.add_zero'] at hx206_0)
      (try rw [show ((0 : Int)).toNat = 0 from rfl] at hx206_1)
      (try rw [show 0 * 2 = 0 from rfl] at hx206_1)
      (try rw [Addr.add_zero'] at hx206_1)
      replace hx206_0 := (HB.out.cell (World.block_lt_of_cell? w _ hx206_0)).trans hx206_0
      replace hx206_1 := (HB.out.cell (World.block_lt_of_cell? w _ hx206_1)).trans hx206_1
      replace p206 := eq_true p206
      replace q206 := eq_true q206
      refine start_ (n := 9) (S := fun w' => w'.cell? ad206 = some (.int .i64 ((rd_T24 l0 0).f0)) ∧ w'.cell? ⟨ad206.block, ad206.off + 1, none⟩ = some (.int .i64 ((rd_T24 l0 0).f1))) (ds := []) #[false, false, false, false, false, false, false, false, false] (by kernel_rfl) rfl rfl ⟨((HB.out.cell (World.block_lt_of_cell? w _ hw206_0)).trans hw206_0), ((HB.out.cell (World.block_lt_of_cell? w _ hw206_1)).trans hw206_1)⟩ (fun hHeld => ?_); refine with_tabW pin_Least.tab3 pin_Least.bits3 (fun HT_ HW_ => ?_)
      generalize w.drew = w6 at HB hx206_0 hx206_1 hHeld ⊢
      refine pure_ (i := 0) (N := some 7) (v := ?_) (a' := ?_) #[true, false, false, false, false, false, false, false, false] rfl rfl (any_of HT_.out (by kernel_rfl)) (fun _ _ _ h => h) (Or.inl ⟨by rfl, ?_⟩) ?_ ?_
      rotate_left
      · intro w'
        go_simp
        with_reducible rfl
      rotate_left
      · simp only [Act.put, List.setIfInBounds_toArray, List.set_cons_zero, List.set_cons_succ, i64_w, i32_w]
        rfl
      refine pure_ (i := 1) (N := some 8) (v := ?_) (a' := ?_) #[true, true, false, false, false, false, false, false, false] rfl rfl (any_of HT_.out (by kernel_rfl)) (fun _ _ _ h => h) (Or.inl ⟨by rfl, ?_⟩) ?_ ?_
      rotate_left
      · intro w'
        go_simp
        with_reducible rfl
      rotate_left
      · simp only [Act.put, List.setIfInBounds_toArray, List.set_cons_zero, List.set_cons_succ, i64_w, i32_w]
        rfl
      refine pure_ (i := 2) (N := some 9) (v := ?_) (a' := ?_) #[true, true, true, false, false, false, false, false, false] rfl rfl (any_of HT_.out (by kernel_rfl)) (fun _ _ _ h => h) (Or.inl ⟨by rfl, ?_⟩) ?_ ?_
      rotate_left
      · intro w'
        go_simp
        with_reducible rfl
      rotate_left
      · simp only [Act.put, List.setIfInBounds_toArray, List.set_cons_zero, List.set_cons_succ, i64_w, i32_w]
        rfl
      refine pure_ (i := 4) (N := some 11) (v := ?_) (a' := ?_) #[true, true, true, false, true, false, false, false, false] rfl rfl (any_of HT_.out (by kernel_rfl)) (fun _ _ _ h => h) (Or.inl ⟨by rfl, ?_⟩) ?_ ?_
      rotate_left
      · intro w'
        go_simp
        with_reducible rfl
      rotate_left
      · simp only [Act.put, List.setIfInBounds_toArray, List.set_cons_zero, List.set_cons_succ, i64_w, i32_w]
        rfl
      refine take_ (i := 3) (N := some 10) (v := ?_) (a' := ?_) #[true, true, true, true, true, false, false, false, false] rfl rfl (take_ofW HT_.out HW_.out (by kernel_rfl)) (fun _ _ _ h => h) (Or.inl ⟨by rfl, ?_⟩) hHeld ?_ ?_
      rotate_left
      · rintro w' ⟨s0, s1⟩
        go_simp
        with_reducible rfl
      rotate_left
      · simp only [Act.put, List.setIfInBounds_toArray, List.set_cons_zero, List.set_cons_succ, i64_w, i32_w]
        rfl
      refine one_ (i := 5) (N := some 12) #[true, true, true, true, true, true, false, false, false] rfl rfl (one_of HT_.out (by kernel_rfl)) (by decide) (fun K hK => ?_)
      refine goes_ Try.func31 (by kernel_rfl) rfl #[.slice (some ad206) l0.length c0] (by rfl) rfl rfl (by (try simp only [List.map_toArray, List.map_cons, List.map_nil]); first | done | rfl | (simp only [List.length_drop, List.length_take]; rfl)) ?_
      with_reducible refine (pin_times.calls k _ _ l0 t207 _ ?side1 ?side2 A4.out).mono ?_
      (case side1 => repeat (first | exact (Kd.C_below HR0.out HB.out) | (with_reducible refine Kd.C_alloc ?_ _) | (with_reducible refine Kd.C_drewN ?_ _) | (with_reducible refine Kd.C_drew ?_)))
      (case side2 => exact HC0.out)
      rintro e w7 ⟨v208, rfl, ho0, hb⟩
      refine ⟨_, rfl, ?_⟩
      have n0_ := Aside0.mk (Kd.R_lower ho0 (below_size (by repeat (first | (with_reducible first | exact HB.out | apply below_alloc | apply pw_below_drewN | apply below_drew1) | exact HB.out))))
      have n1_ := Aside0.mk (below_step (by repeat (first | (with_reducible first | exact HB.out | apply below_alloc | apply pw_below_drewN | apply below_drew1) | exact HB.out)) hb)
      clear HB
      have HO209 := n0_
      have HB := n1_
      clear n0_ n1_
      (try clear hb)
      (try clear hb2)
      (try clear hk)
      (try clear hi)
      (try clear ho0)
      obtain ⟨Ao8, co8, eo8⟩ := Kd.R_slice HO209.out
      (first | subst eo8 | (injection eo8 with f1_ f2_ f3_; have f4_ := f1_.symm; have f5_ := f3_.symm; clear f1_ f2_ f3_; subst f4_; subst f5_))
      refine hK.out _ _ ⟨((HB.out.cell (World.block_lt_of_cell? w _ hw206_0)).trans hw206_0), ((HB.out.cell (World.block_lt_of_cell? w _ hw206_1)).trans hw206_1)⟩ (fun hHeld => ?_)
      clear hK K
      refine norm_ (a' := ?_) ?_ ?_
      rotate_left
      · show Act.put _ (some 12) _ = _
        simp only [Act.put, List.setIfInBounds_toArray, List.set_cons_zero, List.set_cons_succ, i64_w, i32_w]
        rfl
      refine one_ (i := 6) (N := some 13) #[true, true, true, true, true, true, true, false, false] rfl rfl (one_of HT_.out (by kernel_rfl)) (by decide) (fun K hK => ?_)
      refine goes_ Try.func30 (by kernel_rfl) rfl #[.int .i64 ((rd_T24 l0 0).f1), .slice Ao8 t207.length co8] (by rfl) rfl rfl (by (try simp only [List.map_toArray, List.map_cons, List.map_nil]); first | done | rfl | (simp only [List.length_drop, List.length_take]; rfl)) ?_
      with_reducible refine (pin_least.calls k ((rd_T24 l0 0).f1) _ _ t207 t210 _ ?side1 ?side2 A5.out).mono ?_
      (case side1 => repeat (first | exact (Kd.R_reads' HO209.out).2.2 | (with_reducible refine Kd.C_alloc ?_ _) | (with_reducible refine Kd.C_drewN ?_ _) | (with_reducible refine Kd.C_drew ?_)))
      (case side2 => exact (Kd.R_reads' HO209.out).2.1)
      rintro e w9 ⟨rfl, hb⟩
      refine ⟨_, rfl, ?_⟩
      have n0_ := Aside0.mk (Kd.R_below (by (with_reducible repeat (first | apply Kd.R_alloc | apply Kd.R_drewN | apply Kd.R_drew)); exact HO209.out) hb)
      have n1_ := Aside0.mk (below_step (by repeat (first | (with_reducible first | exact HB.out | apply below_alloc | apply pw_below_drewN | apply below_drew1) | exact HB.out)) hb)
      clear HO209
      clear HB
      have HO209 := n0_
      have HB := n1_
      clear n0_ n1_
      (try clear hb)
      (try clear hb2)
      (try clear hk)
      (try clear hi)
      refine hK.out _ _ ⟨((HB.out.cell (World.block_lt_of_cell? w _ hw206_0)).trans hw206_0), ((HB.out.cell (World.block_lt_of_cell? w _ hw206_1)).trans hw206_1)⟩ (fun hHeld => ?_)
      clear hK K
      refine norm_ (a' := ?_) ?_ ?_
      rotate_left
      · show Act.put _ (some 13) _ = _
        simp only [Act.put, List.setIfInBounds_toArray, List.set_cons_zero, List.set_cons_succ, i64_w, i32_w]
        rfl
      refine pure_ (i := 7) (N := some 2) (v := ?_) (a' := ?_) #[true, true, true, true, true, true, true, true, false] rfl rfl (any_of HT_.out (by kernel_rfl)) (fun _ _ _ h => h) (Or.inl ⟨by rfl, ?_⟩) ?_ ?_
      rotate_left
      · intro w'
        go_simp
        with_reducible rfl
      rotate_left
      · simp only [Act.put, List.setIfInBounds_toArray, List.set_cons_zero, List.set_cons_succ, i64_w, i32_w]
        rfl
      refine pure_ (i := 8) (N := some 3) (v := ?_) (a' := ?_) #[true, true, true, true, true, true, true, true, true] rfl rfl (any_of HT_.out (by kernel_rfl)) (fun _ _ _ h => h) (Or.inl ⟨by rfl, ?_⟩) ?_ ?_
      rotate_left
      · intro w'
        go_simp
        with_reducible rfl
      rotate_left
      · simp only [Act.put, List.setIfInBounds_toArray, List.set_cons_zero, List.set_cons_succ, i64_w, i32_w]
        rfl
      refine done_ (done_of HT_.out (by kernel_rfl)) ?_
      try go_wp2
      go_ret2
      exact ⟨by first | rfl | (simp [errW_none, errW_some] <;> rfl) | (simp [*, errW_none, errW_some] <;> rfl), by repeat (first | (with_reducible first | exact HB.out | apply below_alloc | apply pw_below_drewN | apply below_drew1) | exact HB.out)⟩
    · rw [if_neg c3] at H
      exact absurd H (by simp)

end Go.Proofs.Ytkdpjgcimnchlaa.P
