-- printed by a program of this session (wip/tools/xprint.py) over the translation; not trusted: Lean checks it
import Derived.Test.YtbohgnecphhdmaaPx0
namespace Go.Proofs.Ytbohgnecphhdmaa.P
open Go.RowKit Go.Proofs.YtbohgnecphhdmaaW.PrintWords Go.Proofs.YtbohgnecphhdmaaW.PrintLast Go.Proofs.YtbohgnecphhdmaaW.PrintMore
attribute [local go_sem] max2_int min2_int max_two min_two max_three min_three max_four min_four   -- for this text's walks alone
set_option linter.unusedVariables false
set_option linter.unusedSimpArgs false

/-! ### api_Seen_21: function 21 (given) -/
-- given making: yes
-- given info: 27
def api_Seen_21.f (l0 : List S27) : Option (List S27) := if l0.length < 4398046511104 then some l0 else none
set_option maxHeartbeats 8000000 in
set_option maxRecDepth 100000 in
theorem api_Seen_21.calls (A0 : Option Addr) (c0 : Nat) (l0 : List S27) (r : List S27) (w : World) (hr0 : Kd.C k27 w A0 l0.length l0) (hc0 : l0.length ≤ c0) (h : api_Seen_21.f l0 = some r) :
    Calls Try.prog 21 #[.slice A0 l0.length c0] w fun e w' => ∃ v0_ : Value, e = .returned (v0_) ∧ Kd.R k27 27 w' w.heap.size (fun _ => True) v0_ r ∧ Below w.heap.size w w' := by
  unfold api_Seen_21.f at h
  split at h
  case isFalse => cases h
  rename_i hl
  obtain rfl := Option.some.inj h
  have HR := Aside0.mk hr0
  have HL := Aside0.mk hl
  have he := x_eql_nil (P := Try.prog) 22 27 Try.underlying22
  rcases A0 with _ | ad
  · have h0 : l0 = [] := List.eq_nil_of_length_eq_zero (by
      rcases Nat.eq_zero_or_pos l0.length with h | h
      · exact h
      · obtain ⟨ad, h, _⟩ := hr0.2.2 h
        cases h)
    subst h0
    clear hr0 h hl HR
    go_enter Try.func21, Try.ntmps21
    go_wp2
    go_ret
    exact ⟨_, rfl, Kd.R_nil _ _ _ _ _, Below.refl _ _⟩
  · clear hr0 h hl
    go_enter Try.func21, Try.ntmps21
    go_wp2_with (first | ((with_reducible refine gate_builtin (b := .append) (xs := #[.tmp 5, .tmp 6]) rfl ?_); at_builtin; refine Kd.R_append_rows k27 (w0 := w) w.heap.size rfl (.tmp 5) (.tmp 6) 22 27 (.agg #[(.int .i64 0), (.int .i64 0), (.int .i64 0), (.int .i64 0)]) 32 rfl Try.underlying22 info27 rfl (by decide) (by omega) (.slice (some ⟨w.heap.size, 0, none⟩) 0 0) ([] : List S27) l0 _ _ _ (fun _ => True) (fun _ => False) rfl rfl ?aO ?aR (fun _ _ h => h) (fun _ h => h.elim) ?aF ?aB ?aS ?aL ?_; (case aR => exact Kd.C_alloc HR.out _); (case aB => exact below_alloc (Below.refl _ _) _); (case aF => exact (fun _ _ => trivial)); (case aO => exact Kd.R_empty _ _ _ _ _ (Nat.le_refl _) trivial); (case aS => exact (by simp)); (case aL => have := HL.out; simp; omega); intro v1 w1 ho hb hg hat; have HO := Aside0.mk ho; have HB := Aside0.mk hb; clear ho hb hg hat))
    go_ret
    exact ⟨_, rfl, HO.out, HB.out⟩

/-! ### api_Seen_26: function 26 (given) -/
-- given making: yes
-- given own: 0.0 2.0
-- given info: 27
theorem api_Seen_26.size27 : (Try.prog.info? 27).map (·.size) = some 4 := by kernel_rfl
theorem api_Seen_26.sizeOf27 : ∀ w, (Go.sizeOf 27).run Try.prog w = .ok 4 w := fun _ => by kernel_rfl
theorem api_Seen_26.ov (w : World) (g2 c2 g o lb cb : Nat) (hne : g2 ≠ g) (cur2 cur : Array Value) (h2 : w.heap[g2]? = some (.cells cur2 27 (0, 0))) (hg : w.heap[g]? = some (.cells cur 27 (0, 0))) (hs : cur.size ≠ 0) :
    (callFunc 29 #[.slice (some ⟨g2, 0, none⟩) 1 c2, .slice (some ⟨g, o, none⟩) lb cb]).run Try.prog w = .ok (.value (.bool false)) w := by
  rw [run_callFunc_extern Try.func29 (by kernel_rfl) (by kernel_rfl) (by kernel_rfl) (e := Extern.SlicesOverlaps.overlaps #[22, 22] #[4]) (by kernel_rfl),
    Lib.run_overlaps_apart w 22 4 27 Try.underlying22 4 api_Seen_26.sizeOf27 ⟨g2, 0, none⟩ ⟨g, o, none⟩ 1 c2 lb cb hne 27 27 cur2.size cur.size (by simp [World.shape?, h2]) (by simp [World.shape?, hg]) hs (by simp [World.frozen?, h2]) (by simp [World.frozen?, h2])]
  rfl
set_option maxHeartbeats 4000000 in
set_option maxRecDepth 100000 in
theorem api_Seen_26.shift (w : World) (g n c i g2 c2 : Nat) (cur cur2 : Array Value) (hi : i < n) (hroom : n + 1 ≤ c) (hc63 : c ≤ 9223372036854775807) (hne : g2 ≠ g)
    (hg : w.heap[g]? = some (.cells cur 27 (0, 0))) (hs : cur.size = c * 4) (h2 : w.heap[g2]? = some (.cells cur2 27 (0, 0))) (hs2 : 4 ≤ cur2.size) (h1 : ∀ v ∈ cur.toList.take (n * 4), v.oneCell' = true) (h12 : ∀ v ∈ cur2.toList.take 4, v.oneCell' = true) :
    Calls Try.prog 26 #[.slice (some ⟨g, 0, none⟩) n c, .int .i64 i, .slice (some ⟨g2, 0, none⟩) 1 c2] w fun e w' =>
      e = .returned (.slice (some ⟨g, 0, none⟩) (n + 1) c) ∧ ∃ cur' : Array Value, w'.heap[g]? = some (.cells cur' 27 (0, 0)) ∧ cur'.size = c * 4 ∧ cur'.toList.take ((n + 1) * 4) = cur.toList.take (i * 4) ++ cur2.toList.take 4 ++ (cur.toList.take (n * 4)).drop (i * 4) ∧ w.grownBy w' (some g) := by
  have hov : ∀ o lb cb, (callFunc 29 #[.slice (some ⟨g2, 0, none⟩) 1 c2, .slice (some ⟨g, o, none⟩) lb cb]).run Try.prog w = .ok (.value (.bool false)) w := fun o lb cb => api_Seen_26.ov w g2 c2 g o lb cb hne cur2 cur h2 hg (by omega)
  have hz2 : ¬ ((i : Int) = (n : Int)) := by omega
  have hin : i ≤ n := by omega
  have hw1 : IntKind.i64.wrap ((i : Int) + 1) = (i : Int) + 1 := by rw [IntKind.wrap_i64]; omega
  have htn : ((i : Int) + 1).toNat = i + 1 := by omega
  have hb1 : (0 : Int) ≤ (i : Int) + 1 := by omega
  have hb3 : (i : Int) ≤ (n : Int) + 1 := by omega
  have hb2 : ¬ (c = i + 1) := by omega
  have hb4 : ¬ (c = i) := by omega
  have hwt : w.drew.heap = w.heap := rfl
  obtain ⟨C1, hC1⟩ : ∃ C1, C1 = (cur.toList.take (n * 4)).drop (i * 4) := ⟨_, rfl⟩
  have hl1 : C1.length = (n - i) * 4 := by rw [hC1]; simp; omega
  obtain ⟨R1, hR1⟩ : ∃ R1 : Array Value, R1 = (cur.toList.take ((i + 1) * 4) ++ C1 ++ cur.toList.drop ((i + 1) * 4 + C1.length)).toArray := ⟨_, rfl⟩
  have hs1 : R1.size = c * 4 := by rw [hR1]; simp [hl1]; omega
  have hcp1 : ∀ ty, (Builtin.copy_ #[22, 22] ty #[.slice (some ⟨g, (i + 1) * 4, none⟩) (n - i) (c - (i + 1)), .slice (some ⟨g, i * 4, none⟩) (n + 1 - i) (c - i)]).run Try.prog w.drew = .ok (goInt (n - i)) (w.drew.setRow g R1) := fun ty => by
    have h := run_copy_k (P := Try.prog) w.drew 22 22 ty 27 4 g ((i + 1) * 4) (n - i) (c - (i + 1)) ⟨g, i * 4, none⟩ (n + 1 - i) (c - i) cur 27 C1 Try.underlying22 api_Seen_26.size27 hg (by rw [hl1]; simp only [Nat.min_def]; split <;> omega)
      (fun j v hj => by
        rw [Addr.add_lit, blk_cell (w := w.drew) hg]
        rw [hC1, List.getElem?_drop, List.getElem?_take] at hj
        split at hj
        · simpa using hj
        · cases hj) (by rw [hl1]; omega) (fun v hv => h1 v (by rw [hC1] at hv; exact List.mem_of_mem_drop hv))
    rw [← hR1] at h
    rw [h]
    congr 2
    simp only [Nat.min_def]; split <;> omega
  obtain ⟨W1, hW1⟩ : ∃ W1, W1 = w.drew.setRow g R1 := ⟨_, rfl⟩
  have hg1 : W1.heap[g]? = some (.cells R1 27 (0, 0)) := by rw [hW1]; exact x_setRow_heap w.drew g cur R1 27 _ hg
  have h21 : W1.heap[g2]? = some (.cells cur2 27 (0, 0)) := by rw [hW1]; exact (setRow_other w.drew g g2 R1 hne).trans h2
  obtain ⟨C2, hC2⟩ : ∃ C2, C2 = cur2.toList.take 4 := ⟨_, rfl⟩
  have hl2 : C2.length = 4 := by rw [hC2]; simp; omega
  obtain ⟨R2, hR2⟩ : ∃ R2 : Array Value, R2 = (R1.toList.take (i * 4) ++ C2 ++ R1.toList.drop (i * 4 + C2.length)).toArray := ⟨_, rfl⟩
  have hcp2 : ∀ ty, (Builtin.copy_ #[22, 22] ty #[.slice (some ⟨g, i * 4, none⟩) (n + 1 - i) (c - i), .slice (some ⟨g2, 0, none⟩) 1 c2]).run Try.prog W1 = .ok (goInt 1) (W1.setRow g R2) := fun ty => by
    have h := run_copy_k (P := Try.prog) W1 22 22 ty 27 4 g (i * 4) (n + 1 - i) (c - i) ⟨g2, 0, none⟩ 1 c2 R1 27 C2 Try.underlying22 api_Seen_26.size27 hg1 (by rw [hl2]; simp only [Nat.min_def]; split <;> omega)
      (fun j v hj => by
        rw [Addr.add_lit, blk_cell h21]
        rw [hC2, List.getElem?_take] at hj
        split at hj
        · simpa using hj
        · cases hj) (by rw [hl2]; omega) (fun v hv => h12 v (by rw [← hC2]; exact hv))
    rw [← hR2] at h
    rw [h]
    congr 2
    simp only [Nat.min_def]; split <;> omega
  have hfin : (W1.setRow g R2).heap[g]? = some (.cells R2 27 (0, 0)) ∧ R2.size = c * 4 ∧ R2.toList.take ((n + 1) * 4) = cur.toList.take (i * 4) ++ C2 ++ C1 ∧ w.grownBy (W1.setRow g R2) (some g) := by
    refine ⟨x_setRow_heap W1 g R1 R2 27 _ hg1, by rw [hR2]; simp [hl2]; omega, ?_, ?_⟩
    · have e1 : R1.toList.take (i * 4) = cur.toList.take (i * 4) := by
        rw [hR1]
        simp only [List.append_assoc]
        rw [List.take_append_of_le_length (by simp; omega), List.take_take]
        congr 1; omega
      have e2 : (R1.toList.drop (i * 4 + C2.length)).take (C1.length) = C1 := by
        rw [hR1, hl2]
        simp only [List.append_assoc]
        rw [show i * 4 + 4 = (cur.toList.take ((i + 1) * 4)).length by simp; omega, List.drop_left, List.take_left]
      rw [hR2, e1]
      simp only [List.append_assoc]
      rw [show (n + 1) * 4 = (cur.toList.take (i * 4)).length + (C2.length + C1.length) by simp [hl1, hl2]; omega, List.take_length_add_append, List.take_length_add_append, e2]
    · exact ⟨by rw [hW1]; rfl, by rw [hW1]; rfl, by rw [hW1]; rfl, by rw [hW1]; simp [World.setRow], fun k hk hne' => by
        rw [hW1, setRow_other _ g k _ (fun e => hne' (by rw [e])), setRow_other _ g k _ (fun e => hne' (by rw [e]))]; rfl⟩
  have HF := Aside0.mk hfin
  rw [← hC1, ← hC2]
  rw [← hW1] at hcp1
  clear hfin hR2 hR1 hC2 hC1 hg1 h21 hW1 hg h2 h1 h12 hl1 hl2 hs1 hs2 hwt hne hs
  go_enter Try.func26, Try.ntmps26
  go_wp2_with (simp only [hov])
  go_region_law (refine step_copy_run rfl _ _ 22 22 rfl _ _ (by simp [Act.eval, Act.put]) (by simp [Act.eval, Act.put]) (hcp1 _) ?_)
  go_wp2_with (at_builtin; refine wpList_copy_run _ rfl _ _ 22 22 rfl _ _ rfl rfl (hcp2 _) ?_)
  go_ret
  exact ⟨rfl, R2, HF.out⟩
set_option maxHeartbeats 4000000 in
set_option maxRecDepth 100000 in
theorem api_Seen_26.grow (w : World) (g n c i g2 c2 : Nat) (cur cur2 : Array Value) (hi : i < n) (hnc : n ≤ c) (hroom : c < n + 1) (hbig : (n + 1) * 32 ≤ 140737488355328)
    (hg : w.heap[g]? = some (.cells cur 27 (0, 0))) (hs : cur.size = c * 4) (h2 : w.heap[g2]? = some (.cells cur2 27 (0, 0))) (hs2 : 4 ≤ cur2.size) (h1 : ∀ v ∈ cur.toList.take (n * 4), v.oneCell' = true) (h12 : ∀ v ∈ cur2.toList.take 4, v.oneCell' = true) :
    Calls Try.prog 26 #[.slice (some ⟨g, 0, none⟩) n c, .int .i64 i, .slice (some ⟨g2, 0, none⟩) 1 c2] w fun e w' =>
      ∃ c', e = .returned (.slice (some ⟨w.heap.size, 0, none⟩) (n + 1) c') ∧ n + 1 ≤ c' ∧ c' ≤ maxLen ∧ ∃ cur' : Array Value, w'.heap[w.heap.size]? = some (.cells cur' 27 (0, 0)) ∧ cur'.size = c' * 4 ∧ cur'.toList.take ((n + 1) * 4) = cur.toList.take (i * 4) ++ cur2.toList.take 4 ++ (cur.toList.take (n * 4)).drop (i * 4) ∧ Below w.heap.size w w' := by
  obtain ⟨i0, hi0, hz0, hzs, hzb⟩ := info_parts info27
  have hz2 : ¬ ((i : Int) = (n : Int)) := by omega
  have hz3 : (c : Int) < (n : Int) + 1 := by omega
  have hgw : g < w.heap.size := blk_lt hg
  have hvw : g2 < w.heap.size := blk_lt h2
  have hkk : (n : Int) + 1 - (i : Int) = ((n + 1 - i : Nat) : Int) := by omega
  have hik : i + (n + 1 - i) = n + 1 := by omega
  obtain ⟨C0, hC0⟩ : ∃ C0, C0 = cur.toList.take (i * 4) := ⟨_, rfl⟩
  have hl0 : C0.length = i * 4 := by rw [hC0]; simp; omega
  have hold : (Builtin.firstCells i0.size i (.slice (some ⟨g, 0, none⟩) i c)).run Try.prog w.drew = .ok C0.toArray w.drew := by
    rw [hzs]
    exact run_firstCells_some w.drew 4 i ⟨g, 0, none⟩ i c C0 (by rw [hl0]) (fun j v hj => by
      rw [Addr.add_lit, blk_cell (w := w.drew) hg]
      rw [hC0, List.getElem?_take] at hj
      split at hj
      · simpa using hj
      · cases hj)
  have hrz : ∀ ty, (Builtin.append_ #[22, 3] ty #[.slice (some ⟨g, 0, none⟩) i c, .int .i64 ((n : Int) + 1 - (i : Int))]).run Try.prog w =
      .ok (.slice (some ⟨w.heap.size, 0, none⟩) (n + 1) (grownCap w (n + 1) c 27)) (w.drew.alloc (.cells (C0.toArray ++ Builtin.zeroCells (Value.agg #[(.int .i64 0), (.int .i64 0), (.int .i64 0), (.int .i64 0)]).cells (n + 1 - i) ++ Builtin.zeroCells (Value.agg #[(.int .i64 0), (.int .i64 0), (.int .i64 0), (.int .i64 0)]).cells (grownCap w (n + 1) c 27 - (n + 1))) 27)) := fun ty => by
    have h := Lib.run_append_grow_zeros w 22 3 ty 27 i0 _ .i64 .i64 Try.underlying22 Try.underlying3 hi0 hz0 (some ⟨g, 0, none⟩) i c C0 hold (n + 1 - i) (by omega) (by omega) (by omega) (by omega) (by rw [hzb]; omega) (by rw [hzb, hik]; exact growslice_fits hroom hbig)
    rw [hik] at h
    rw [hkk]
    exact h
  obtain ⟨G, hG⟩ : ∃ G, G = grownCap w (n + 1) c 27 := ⟨_, rfl⟩
  have hGn : n + 1 ≤ G := by rw [hG]; exact grownCap_ge w _ _ _
  have hGm : G ≤ maxLen := by
    have := grownCap_le_maxLen w (n + 1) c 27 (by unfold maxLen; omega)
    rwa [← hG] at this
  rw [← hG] at hrz
  obtain ⟨ROW, hROW⟩ : ∃ ROW : Array Value, ROW = C0.toArray ++ Builtin.zeroCells (Value.agg #[(.int .i64 0), (.int .i64 0), (.int .i64 0), (.int .i64 0)]).cells (n + 1 - i) ++ Builtin.zeroCells (Value.agg #[(.int .i64 0), (.int .i64 0), (.int .i64 0), (.int .i64 0)]).cells (G - (n + 1)) := ⟨_, rfl⟩
  rw [← hROW] at hrz
  have hRs : ROW.size = G * 4 := by
    rw [hROW]
    simp [Builtin.zeroCells, Value.cells, hl0]
    omega
  have hR0 : ROW.toList.take (i * 4) = C0 := by
    rw [hROW, ← hl0]
    simp only [Array.toList_append, List.append_assoc]
    exact List.take_left
  obtain ⟨N, hN⟩ : ∃ N, N = w.heap.size := ⟨_, rfl⟩
  obtain ⟨C2, hC2⟩ : ∃ C2, C2 = cur2.toList.take 4 := ⟨_, rfl⟩
  have hl2 : C2.length = 4 := by rw [hC2]; simp; omega
  obtain ⟨RA, hRA⟩ : ∃ RA : Array Value, RA = (ROW.toList.take (i * 4) ++ C2 ++ ROW.toList.drop (i * 4 + C2.length)).toArray := ⟨_, rfl⟩
  have hsA : RA.size = G * 4 := by rw [hRA]; simp [hl2, hRs]; omega
  have hcpA : ∀ (W : World), W.heap[N]? = some (.cells ROW 27 (0, 0)) → W.heap[g2]? = some (.cells cur2 27 (0, 0)) → ∀ ty dc, (Builtin.copy_ #[22, 22] ty #[.slice (some ⟨N, i * 4, none⟩) (n + 1 - i) dc, .slice (some ⟨g2, 0, none⟩) 1 c2]).run Try.prog W = .ok (goInt 1) (W.setRow N RA) := fun W hW hW2 ty dc => by
    have h := run_copy_k (P := Try.prog) W 22 22 ty 27 4 N (i * 4) (n + 1 - i) dc ⟨g2, 0, none⟩ 1 c2 ROW 27 C2 Try.underlying22 api_Seen_26.size27 hW (by rw [hl2]; simp only [Nat.min_def]; split <;> omega)
      (fun j v hj => by
        rw [Addr.add_lit, blk_cell hW2]
        rw [hC2, List.getElem?_take] at hj
        split at hj
        · simpa using hj
        · cases hj) (by rw [hl2]; omega) (fun v hv => h12 v (by rw [← hC2]; exact hv))
    rw [← hRA] at h
    rw [h]
    congr 2
    simp only [Nat.min_def]; split <;> omega
  obtain ⟨C1, hC1⟩ : ∃ C1, C1 = (cur.toList.take (n * 4)).drop (i * 4) := ⟨_, rfl⟩
  have hl1 : C1.length = (n - i) * 4 := by rw [hC1]; simp; omega
  obtain ⟨RB, hRB⟩ : ∃ RB : Array Value, RB = (RA.toList.take ((i + 1) * 4) ++ C1 ++ RA.toList.drop ((i + 1) * 4 + C1.length)).toArray := ⟨_, rfl⟩
  have hcpB : ∀ (W : World), W.heap[N]? = some (.cells RA 27 (0, 0)) → W.heap[g]? = some (.cells cur 27 (0, 0)) → ∀ ty dc sc, (Builtin.copy_ #[22, 22] ty #[.slice (some ⟨N, (i + 1) * 4, none⟩) (n - i) dc, .slice (some ⟨g, i * 4, none⟩) (n - i) sc]).run Try.prog W = .ok (goInt (n - i)) (W.setRow N RB) := fun W hW hWg ty dc sc => by
    have h := run_copy_k (P := Try.prog) W 22 22 ty 27 4 N ((i + 1) * 4) (n - i) dc ⟨g, i * 4, none⟩ (n - i) sc RA 27 C1 Try.underlying22 api_Seen_26.size27 hW (by rw [hl1]; simp only [Nat.min_def]; split <;> omega)
      (fun j v hj => by
        rw [Addr.add_lit, blk_cell hWg]
        rw [hC1, List.getElem?_drop, List.getElem?_take] at hj
        split at hj
        · simpa using hj
        · cases hj) (by rw [hl1]; omega) (fun v hv => h1 v (by rw [hC1] at hv; exact List.mem_of_mem_drop hv))
    rw [← hRB] at h
    rw [h]
    congr 2
    simp only [Nat.min_def]; split <;> omega
  have hsB : RB.size = G * 4 := by rw [hRB]; simp [hl1, hsA]; omega
  have hRBt : RB.toList.take ((n + 1) * 4) = C0 ++ C2 ++ C1 := by
    have e1 : RA.toList.take ((i + 1) * 4) = C0 ++ C2 := by
      rw [hRA, hR0]
      rw [show (i + 1) * 4 = (C0 ++ C2).length by simp [hl0, hl2]; omega]
      exact List.take_left
    rw [hRB, e1]
    rw [show (n + 1) * 4 = (C0 ++ C2 ++ C1).length by simp [hl0, hl1, hl2]; omega]
    exact List.take_left
  have HB := Aside0.mk hRBt
  have hGi : ¬ (G = i) := by omega
  have hGim : ¬ (G = i + 1) := by omega
  have hci : ¬ (c = i) := by omega
  have hgN : g ≠ N := by omega
  have hg2N : g2 ≠ N := by omega
  have hw1 : IntKind.i64.wrap ((i : Int) + 1) = (i : Int) + 1 := by rw [IntKind.wrap_i64]; omega
  have hb1 : (0 : Int) ≤ (i : Int) + 1 := by omega
  have hin : i ≤ n := by omega
  have htn : ((i : Int) + 1).toNat = i + 1 := by omega
  have hb3 : (i : Int) ≤ (n : Int) := by omega
  rw [← hC1, ← hC2, ← hC0]
  rw [← hN] at hrz ⊢
  clear hkk hik hold hROW hG hRs hR0 hRA hsA hRB hC1 hl1 hC2 hl2 hC0 hl0 hRBt h1 h12 hs hs2 hz0 hi0 hzs hzb
  have hW1 : ((w.alloc (.cells ROW 27)).drew).heap[N]? = some (.cells ROW 27 (0, 0)) := by rw [hN]; exact heap_alloc_new w _
  have hW2 : ((w.alloc (.cells ROW 27)).drew).heap[g2]? = some (.cells cur2 27 (0, 0)) := ((below_alloc (Below.refl w.heap.size w) (.cells ROW 27)).block g2 hvw).trans h2
  have hWg : ((w.alloc (.cells ROW 27)).drew).heap[g]? = some (.cells cur 27 (0, 0)) := ((below_alloc (Below.refl w.heap.size w) (.cells ROW 27)).block g hgw).trans hg
  have hBw : Below w.heap.size w ((w.alloc (.cells ROW 27)).drew) := below_drew (below_alloc (Below.refl w.heap.size w) _)
  obtain ⟨V1, hV⟩ : ∃ V1, V1 = ((w.alloc (.cells ROW 27)).drew).setRow N RA := ⟨_, rfl⟩
  have hV1 : V1.heap[N]? = some (.cells RA 27 (0, 0)) := by rw [hV]; exact x_setRow_heap _ N ROW RA 27 _ hW1
  have hVg : V1.heap[g]? = some (.cells cur 27 (0, 0)) := by rw [hV]; exact (setRow_other _ N g RA hgN).trans hWg
  have hVB : Below N w V1 := by rw [hV, hN]; exact below_setRow hBw (Nat.le_refl _) _
  obtain ⟨V2, hV2⟩ : ∃ V2, V2 = V1.drew.setRow N RB := ⟨_, rfl⟩
  have hF1 : V2.heap[N]? = some (.cells RB 27 (0, 0)) := by rw [hV2]; exact x_setRow_heap _ N RA RB 27 _ hV1
  have hF2 : Below N w V2 := by rw [hV2]; exact below_setRow (below_drew hVB) (Nat.le_refl _) _
  have HF := Aside0.mk (And.intro hF1 hF2)
  have A1 := hcpA _ hW1 hW2
  have A2 := hcpB V1.drew hV1 hVg
  rw [← hV] at A1
  rw [← hV2] at A2
  clear hV hV2 hN hW1 hW2 hWg hBw hV1 hVg hF1 hF2 hcpA hcpB hgw hvw hgN hg2N hg h2 hVB
  go_enter Try.func26, Try.ntmps26
  go_wp2_with (first
    | (at_builtin; refine Lib.wpList_append_run _ rfl _ _ _ _ rfl _ _ rfl rfl _ _ (hrz _) ?_))
  go_region_law (refine step_copy_run rfl _ _ 22 22 rfl _ _ (by simp [Act.eval, Act.put]) (by simp [Act.eval, Act.put]) (A2 _ _ _) ?_)
  go_wp2
  go_ret
  exact ⟨G, rfl, hGn, hGm, RB, HF.out.1, hsB, HB.out, HF.out.2⟩
def api_Seen_26.f (l0 : List S27) (a1 : Int) (l2 : List S27) : Option (List S27) := if 0 ≤ a1 then if a1 ≤ (l0.length : Int) then if l2.length = 1 then if l0.length < 1000000 then some (l0.take a1.toNat ++ l2 ++ l0.drop a1.toNat) else none else none else none else none
set_option maxHeartbeats 8000000 in
set_option maxRecDepth 100000 in
theorem api_Seen_26.calls (P0_ : Nat → Prop) (u9000_ : Value) (l0 : List S27) (a1 : Int) (P2_ : Nat → Prop) (u9001_ : Value) (l2 : List S27) (r : List S27) (w0 w : World) (hB : Below w0.heap.size w0 w) (ho0 : Kd.R k27 27 w w0.heap.size P0_ u9000_ l0) (hp0_2 : ∀ k_, P0_ k_ → ¬ P2_ k_) (ho2 : Kd.R k27 27 w w0.heap.size P2_ u9001_ l2) (hp2_0 : ∀ k_, P2_ k_ → ¬ P0_ k_) (h : api_Seen_26.f l0 a1 l2 = some r) :
    Calls Try.prog 26 #[u9000_, .int .i64 a1, u9001_] w fun e w' => ∃ v0_ : Value, e = .returned (v0_) ∧ Kd.R k27 27 w' w0.heap.size (fun k_ => ((P0_ k_ ∨ P2_ k_) ∨ w.heap.size ≤ k_)) v0_ r ∧ Below w0.heap.size w0 w' ∧ Kept w w' (fun k_ => P0_ k_ ∨ P2_ k_) := by
  unfold api_Seen_26.f at h
  split at h
  case isFalse => cases h
  split at h
  case isFalse => cases h
  split at h
  case isFalse => cases h
  split at h
  case isFalse => cases h
  rename_i ha0 ha1 hl2 hbig
  obtain rfl := Option.some.inj h
  clear h
  obtain ⟨i, rfl⟩ := Int.eq_ofNat_of_zero_le ha0
  have hi : i ≤ l0.length := by omega
  simp only [Int.toNat_natCast]
  obtain ⟨x, rfl⟩ := List.length_eq_one_iff.1 hl2
  obtain ⟨hok2, inner2, own2, reps2⟩ := id ho2
  obtain ⟨g2, c2, cur2, rfl, hb2, hh2, hnc2, hcm2, hs2, ht2⟩ := x_own_some own2 (by simp)
  have hone2 : ∀ v ∈ inner2, v.oneCell' = true := Kd.reps_one reps2 (by decide) (fun _ _ h => k27.K_one (k27.K_of_M h))
  rcases Nat.lt_or_ge i l0.length with hlt | hge
  · obtain ⟨hok0, inner0, own0, reps0⟩ := id ho0
    obtain ⟨g, c, cur, rfl, hb, hh, hnc, hcm, hs, ht⟩ := x_own_some own0 (by omega)
    have hone0 : ∀ v ∈ inner0, v.oneCell' = true := Kd.reps_one reps0 (by decide) (fun _ _ h => k27.K_one (k27.K_of_M h))
    have hP0 : P0_ g := hok0 g (by simp [Value.ownBlock])
    have hP2 : P2_ g2 := hok2 g2 (by simp [Value.ownBlock])
    have hne : g2 ≠ g := fun e => hp0_2 g hP0 (e ▸ hP2)
    have hsz : k27.sz = 4 := rfl
    rw [hsz] at hs ht hs2 ht2
    have ht2' : cur2.toList.take 4 = inner2 := ht2
    have hlen : (l0.take i ++ [x] ++ l0.drop i).length = l0.length + 1 := by simp; omega
    have hreps : ∀ (W : World) (ok : Nat → Prop), Reps (k27.M W w0.heap.size ok) 4 (l0.take i ++ [x] ++ l0.drop i) (inner0.take (i * 4) ++ inner2 ++ inner0.drop (i * 4)) := fun W ok =>
      Kd.reps_append (Kd.reps_append (Kd.reps_take (reps0.imp_ (fun _ _ h => h)) hi) (reps2.imp_ (fun _ _ h => h))) (Kd.reps_drop (reps0.imp_ (fun _ _ h => h)))
    rcases Nat.lt_or_ge c (l0.length + 1) with hroom | hroom
    · refine (api_Seen_26.grow w g l0.length c i g2 c2 cur cur2 hlt hnc hroom (by omega) hh hs hh2 (by omega) (by rw [ht]; exact hone0) (by rw [ht2']; exact hone2)).mono ?_
      rintro e w' ⟨c', rfl, hc1, hc2', cur', hh', hs', ht', hbel⟩
      refine ⟨_, rfl, ?_, hB.trans ⟨hbel.os, hbel.tape, hbel.output, hbel.size, fun k hk => hbel.block k (by have := hB.size; omega)⟩, Kept.of_below hbel _⟩
      have h := x_row_of_cells k27 27 w' w0.heap.size (fun k_ => ((P0_ k_ ∨ P2_ k_) ∨ w.heap.size ≤ k_)) w.heap.size c' cur' (l0.take i ++ [x] ++ l0.drop i) (inner0.take (i * 4) ++ inner2 ++ inner0.drop (i * 4)) hB.size hh' (by rw [hlen]; exact hc1) hc2' hs' (by
        rw [hlen, hsz, ht', ht, ht2', ← ht]
        simp only [List.take_take]
        rw [Nat.min_eq_left (show i * 4 ≤ l0.length * 4 by omega)]) (hreps w' _) (.inr (Nat.le_refl _))
      rwa [hlen] at h
    · refine (api_Seen_26.shift w g l0.length c i g2 c2 cur cur2 hlt hroom (by simpa [maxLen] using hcm) hne hh hs hh2 (by omega) (by rw [ht]; exact hone0) (by rw [ht2']; exact hone2)).mono ?_
      rintro e w' ⟨rfl, cur', hh', hs', ht', hgr⟩
      refine ⟨_, rfl, ?_, hB.grown hgr (by have := hB.size; omega) (fun k hk => by injection hk with hk; omega), Kept.of_grown hgr (Kept.refl _ _) (fun k hk => by injection hk with hk; subst hk; exact .inl (.inl hP0))⟩
      have h := x_row_of_cells k27 27 w' w0.heap.size (fun k_ => ((P0_ k_ ∨ P2_ k_) ∨ w.heap.size ≤ k_)) g c cur' (l0.take i ++ [x] ++ l0.drop i) (inner0.take (i * 4) ++ inner2 ++ inner0.drop (i * 4)) hb hh' (by rw [hlen]; exact hroom) hcm hs' (by
        rw [hlen, hsz, ht', ht, ht2', ← ht]
        simp only [List.take_take]
        rw [Nat.min_eq_left (show i * 4 ≤ l0.length * 4 by omega)]) (hreps w' _) (.inl (.inl hP0))
      rwa [hlen] at h
  · have he : i = l0.length := by omega
    subst he
    rw [List.take_length, List.drop_length, List.append_nil]
    obtain ⟨A2, c2', he2, hl2c, hC2⟩ := Kd.R_reads ho2
    injection he2 with he2 _ _
    subst he2
    obtain ⟨A0, c0, he0⟩ := Kd.R_slice ho0
    subst he0
    have HO0 := Aside0.mk (show Kd.R k27 27 w w0.heap.size (fun k_ => ((P0_ k_ ∨ P2_ k_) ∨ w.heap.size ≤ k_)) (.slice A0 l0.length c0) l0 from Kd.R_mono ho0 (fun k hk => .inl (.inl hk)))
    have HR := Aside0.mk hC2
    have HB := Aside0.mk hB
    have HP := Aside0.mk ho0.1
    have hbl : l0.length < 1000000 := hbig
    clear ho0 ho2 hok2 own2 reps2 hb2 hh2 hnc2 hcm2 hs2 ht2 hone2 hB hC2 hl2c hp0_2 hp2_0 hl2 ha0 ha1 hi hge
    go_enter Try.func26, Try.ntmps26
    go_wp2_with (first | ((with_reducible refine gate_builtin (b := .append) (xs := #[.tmp 23, .tmp 24]) rfl ?_); at_builtin; refine Kd.R_append_rows k27 (w0 := w0) w0.heap.size rfl (.tmp 23) (.tmp 24) 22 27 (.agg #[(.int .i64 0), (.int .i64 0), (.int .i64 0), (.int .i64 0)]) 32 rfl Try.underlying22 info27 rfl (by decide) (by omega) (.slice A0 l0.length c0) l0 [x] _ _ _ (fun k_ => ((P0_ k_ ∨ P2_ k_) ∨ w.heap.size ≤ k_)) (fun _ => False) rfl rfl ?aO ?aR (fun _ _ h => h) (fun _ h => h.elim) ?aF ?aB ?aS ?aL ?_; (case aR => exact HR.out); (case aB => exact HB.out); (case aF => exact (fun _ h => .inr h)); (case aO => exact HO0.out); (case aS => exact HB.out.size); (case aL => omega); intro v1 w1 ho hb hg hat; have HO := Aside0.mk ho; have HB1 := Aside0.mk hb; have HG := Aside0.mk hg; clear ho hb hg hat))
    all_goals
      go_ret
      exact ⟨_, rfl, HO.out, HB1.out, Kept.of_grown HG.out (Kept.refl _ _) (fun k hk => .inl (.inl (HP.out k hk)))⟩

/-! ### dedup_row_ahead: function 25 -/
def dedup_row_ahead.f (a0_0 : Int) (a0_1 : Int) (a0_2 : Int) (a0_3 : Int) (a1 : Int) : Option (Bool) := some (decide (a0_0 < a1))
set_option maxHeartbeats 8000000 in
set_option maxRecDepth 100000 in
theorem dedup_row_ahead.calls (a0_0 : Int) (a0_1 : Int) (a0_2 : Int) (a0_3 : Int) (a1 : Int) (r : Bool) (w : World) (h : dedup_row_ahead.f a0_0 a0_1 a0_2 a0_3 a1 = some r) :
    Calls Try.prog 25 #[.agg #[.int .i64 a0_0, .int .i64 a0_1, .int .i64 a0_2, .int .i64 a0_3], .int .i64 a1] w fun e w' => e = .returned (.bool r) ∧ Below w.heap.size w w' := by
  have hu41 := Try.underlying41
  have HB := Aside0.mk (Below.refl w.heap.size w)
  have H : (some (decide (a0_0 < a1))) = some r := h
  clear h
  obtain rfl := Option.some.inj H
  go_enter Try.func25, Try.ntmps25
  go_wp2_with (first | ((with_reducible refine gate_dst (N := 2) rfl ?_); refine box_event ?hg (N := 2) ?hd (cs := #[.int .i64 a0_0, .int .i64 a0_1, .int .i64 a0_2, .int .i64 a0_3]) (t := 41) ?hr ?_; (case hd => rfl); (case hg => rfl); (case hr => first | (go_simp; done) | (go_simp; rfl)); intro gb159 hg w3 hbox hb; have n0_ := Aside0.mk (below_step (by repeat (first | (with_reducible first | exact HB.out | apply below_alloc | apply pw_below_drewN | apply below_drew1) | exact HB.out)) hb); have n1_ := Aside0.mk (hbox); have n2_ := Aside0.mk ((by rw [hg]; exact (below_size (by repeat (first | (with_reducible first | exact HB.out | apply below_alloc | apply pw_below_drewN | apply below_drew1) | exact HB.out))) : w.heap.size ≤ gb159)); have n3_ := Aside0.mk ((by rw [hg]; exact (below_size (by repeat (first | (with_reducible first | exact HB.out | apply below_alloc | apply pw_below_drewN | apply below_drew1) | exact HB.out))) : w.heap.size ≤ gb159)); clear HB; have HB := n0_; have BK159 := n1_; have GW159 := n2_; have GE159 := n3_; clear n0_ n1_ n2_ n3_; clear hb hbox hg; have hcz4_0 : w3.cell? ⟨gb159, 0, none⟩ = some (.int .i64 a0_0) := (blk_cell BK159.out 0).trans rfl; have hcz4_1 : w3.cell? ⟨gb159, 1, none⟩ = some (.int .i64 a0_1) := (blk_cell BK159.out 1).trans rfl; have hcz4_2 : w3.cell? ⟨gb159, 2, none⟩ = some (.int .i64 a0_2) := (blk_cell BK159.out 2).trans rfl; have hcz4_3 : w3.cell? ⟨gb159, 3, none⟩ = some (.int .i64 a0_3) := (blk_cell BK159.out 3).trans rfl; have hfz4_0 := blk_frozen BK159.out 0; have hfz4_1 := blk_frozen BK159.out 1; have hfz4_2 := blk_frozen BK159.out 2; have hfz4_3 := blk_frozen BK159.out 3))
  go_ret
  exact ⟨by first | rfl | (simp [errW_none, errW_some] <;> rfl) | (simp [*, errW_none, errW_some] <;> rfl), by repeat (first | (with_reducible first | exact HB.out | apply below_alloc | apply pw_below_drewN | apply below_drew1 | refine below_set ?_ GE159.out) | exact HB.out)⟩

/-! ### dedup_Put_1: function 24 -/
def dedup_Put_1.f (a0_0 : Int) (a0_1 : Int) (a0_2 : Int) (a0_3 : Int) (a1 : Int) : Option (Bool) := (dedup_row_ahead.f a0_0 a0_1 a0_2 a0_3 a1).bind fun t161 => (some (!t161))
set_option maxHeartbeats 8000000 in
set_option maxRecDepth 100000 in
theorem dedup_Put_1.calls (a0_0 : Int) (a0_1 : Int) (a0_2 : Int) (a0_3 : Int) (a1 : Int) (r : Bool) (w : World) (h : dedup_Put_1.f a0_0 a0_1 a0_2 a0_3 a1 = some r) :
    Calls Try.prog 24 #[.agg #[.int .i64 a0_0, .int .i64 a0_1, .int .i64 a0_2, .int .i64 a0_3], .int .i64 a1] w fun e w' => e = .returned (.bool r) ∧ Below w.heap.size w w' := by
  have hu41 := Try.underlying41
  have HB := Aside0.mk (Below.refl w.heap.size w)
  have H : ((dedup_row_ahead.f a0_0 a0_1 a0_2 a0_3 a1).bind fun t161 => (some (!t161))) = some r := h
  clear h
  replace H := Option.bind_eq_some_iff.mp H
  obtain ⟨t161, A30, H⟩ := H
  replace H : (some (!t161)) = some r := H
  have A3 := Aside0.mk A30
  clear A30
  obtain rfl := Option.some.inj H
  go_enter Try.func24, Try.ntmps24
  go_wp2_with (first | ((with_reducible refine gate_dst (N := 2) rfl ?_); refine box_event ?hg (N := 2) ?hd (cs := #[.int .i64 a0_0, .int .i64 a0_1, .int .i64 a0_2, .int .i64 a0_3]) (t := 41) ?hr ?_; (case hd => rfl); (case hg => rfl); (case hr => first | (go_simp; done) | (go_simp; rfl)); intro gb160 hg w4 hbox hb; have n0_ := Aside0.mk (below_step (by repeat (first | (with_reducible first | exact HB.out | apply below_alloc | apply pw_below_drewN | apply below_drew1) | exact HB.out)) hb); have n1_ := Aside0.mk (hbox); have n2_ := Aside0.mk ((by rw [hg]; exact (below_size (by repeat (first | (with_reducible first | exact HB.out | apply below_alloc | apply pw_below_drewN | apply below_drew1) | exact HB.out))) : w.heap.size ≤ gb160)); have n3_ := Aside0.mk ((by rw [hg]; exact (below_size (by repeat (first | (with_reducible first | exact HB.out | apply below_alloc | apply pw_below_drewN | apply below_drew1) | exact HB.out))) : w.heap.size ≤ gb160)); clear HB; have HB := n0_; have BK160 := n1_; have GW160 := n2_; have GE160 := n3_; clear n0_ n1_ n2_ n3_; clear hb hbox hg; have hcz5_0 : w4.cell? ⟨gb160, 0, none⟩ = some (.int .i64 a0_0) := (blk_cell BK160.out 0).trans rfl; have hcz5_1 : w4.cell? ⟨gb160, 1, none⟩ = some (.int .i64 a0_1) := (blk_cell BK160.out 1).trans rfl; have hcz5_2 : w4.cell? ⟨gb160, 2, none⟩ = some (.int .i64 a0_2) := (blk_cell BK160.out 2).trans rfl; have hcz5_3 : w4.cell? ⟨gb160, 3, none⟩ = some (.int .i64 a0_3) := (blk_cell BK160.out 3).trans rfl; have hfz5_0 := blk_frozen BK160.out 0; have hfz5_1 := blk_frozen BK160.out 1; have hfz5_2 := blk_frozen BK160.out 2; have hfz5_3 := blk_frozen BK160.out 3) | ((with_reducible refine gate_callee (f := 25) rfl ?_); refine goesL_ (some 7) rfl rfl Try.func25 (by kernel_rfl) rfl #[.agg #[.int .i64 a0_0, .int .i64 a0_1, .int .i64 a0_2, .int .i64 a0_3], .int .i64 a1] rfl (by (try simp only [List.map_toArray, List.map_cons, List.map_nil]); first | done | rfl | (simp only [List.length_drop, List.length_take]; rfl)) ?_; (with_reducible refine (dedup_row_ahead.calls a0_0 a0_1 a0_2 a0_3 a1 t161 _ A3.out).mono ?_); rintro e w6 ⟨rfl, hb⟩; refine ⟨_, rfl, ?_⟩; have n0_ := Aside0.mk (blk_below (g := gb160) (o := .cells #[.int .i64 a0_0, .int .i64 a0_1, .int .i64 a0_2, .int .i64 a0_3] 41 (0, 0)) (by (with_reducible repeat (first | refine blk_drewN ?_ _ | refine blk_drew ?_ | refine blk_alloc ?_ _)); exact BK160.out) hb); have n1_ := Aside0.mk (below_step (by repeat (first | (with_reducible first | exact HB.out | apply below_alloc | apply pw_below_drewN | apply below_drew1 | refine below_set ?_ GE160.out) | exact HB.out)) hb); clear BK160; clear HB; have BK160 := n0_; have HB := n1_; clear n0_ n1_; (try clear hb); (try clear hb2); (try clear hk); (try clear hi)))
  go_ret
  exact ⟨by first | rfl | (simp [errW_none, errW_some] <;> rfl) | (simp [*, errW_none, errW_some] <;> rfl), by repeat (first | (with_reducible first | exact HB.out | apply below_alloc | apply pw_below_drewN | apply below_drew1 | refine below_set ?_ GE160.out) | exact HB.out)⟩

/-! ### dedup_place_dedup_Put_1: function 100001 -/
def dedup_place_dedup_Put_1.l0 : Nat → List (S27) → Int → Int → Option (Int)
  | 0, _, _, _ => none
  | k + 1, x0, x1, x7 => if x7 < (x0.length : Int) then (if 0 ≤ x7 then ((dedup_Put_1.f ((rd_T27 x0 x7).f0) ((rd_T27 x0 x7).f1) ((rd_T27 x0 x7).f2.f0) ((rd_T27 x0 x7).f2.f1) x1).bind fun t163 => (if t163 = true then (some x7) else (dedup_place_dedup_Put_1.l0 k x0 x1 (wrap64 (x7 + 1))))) else (none)) else (some x7)
def dedup_place_dedup_Put_1.f (k : Nat) (l0 : List (S27)) (a1 : Int)  : Option (Int) := dedup_place_dedup_Put_1.l0 k l0 a1 0
theorem dedup_place_dedup_Put_1.mono_l : ∀ k, (∀ y0 y1 y2, LeO (dedup_place_dedup_Put_1.l0 k y0 y1 y2) (dedup_place_dedup_Put_1.l0 (k + 1) y0 y1 y2))
  | 0 => fun _ _ _ r h => by simp [dedup_place_dedup_Put_1.l0] at h
  | k + 1 => by
    have ih0 := dedup_place_dedup_Put_1.mono_l k
    · intro y0 y1 y2
      unfold dedup_place_dedup_Put_1.l0
      repeat' first
      | (with_reducible exact ih0 _ _ _)
      | (with_reducible exact LeO.refl _)
      | (with_reducible exact LeO.none _)
      | (with_reducible refine LeO.ite ?_ ?_)
      | (with_reducible refine LeO.bind ?_ (fun _ => ?_))
      | exact ih0 _ _ _
      | exact LeO.none _
      | refine LeO.ite ?_ ?_
      | refine LeO.bind ?_ (fun _ => ?_)
theorem dedup_place_dedup_Put_1.mono : ∀ a0 a1 k, LeO (dedup_place_dedup_Put_1.f k a0 a1) (dedup_place_dedup_Put_1.f (k + 1) a0 a1) := by
  intro a0 a1 k
  have ih0 := dedup_place_dedup_Put_1.mono_l k
  unfold dedup_place_dedup_Put_1.f
  repeat' first
      | (with_reducible exact ih0 _ _ _)
      | (with_reducible exact LeO.refl _)
      | (with_reducible exact LeO.none _)
      | (with_reducible refine LeO.ite ?_ ?_)
      | (with_reducible refine LeO.bind ?_ (fun _ => ?_))
      | exact ih0 _ _ _
      | exact LeO.none _
      | refine LeO.ite ?_ ?_
      | refine LeO.bind ?_ (fun _ => ?_)
set_option maxHeartbeats 8000000 in
set_option maxRecDepth 100000 in
theorem dedup_place_dedup_Put_1.calls (k : Nat) (A0 : Option Addr) (c0 : Nat) (l0 : List (S27)) (a1 : Int)  (r : Int) (w : World) (hr0 : Kd.C k27 w A0 l0.length l0) (hc0 : l0.length ≤ c0) (h : dedup_place_dedup_Put_1.f k l0 a1 = some r) :
    Calls Try.prog 22 #[.slice A0 l0.length c0, .int .i64 a1, .func (.func 24) #[] #[]] w fun e w' => e = .returned (.int .i64 r) ∧ Below w.heap.size w w' := by
  have hu27 := Try.underlying27
  have HR0 := Aside0.mk hr0
  have HC0 := Aside0.mk hc0
  clear hr0 hc0
  have HB := Aside0.mk (Below.refl w.heap.size w)
  have H : (dedup_place_dedup_Put_1.l0 k l0 a1 0) = some r := h
  clear h
  have H' := Aside0.mk H
  clear H
  go_enter Try.func22, Try.ntmps22
  go_wp2; try (go_step3; go_wp2); try (go_step3; go_wp2)
  go_loopg [7] k (fun kq v7 w' => ∃ (x7_1 : Int), v7 = .int .i64 x7_1 ∧ Aside0 (dedup_place_dedup_Put_1.l0 kq l0 a1 x7_1 = some r) ∧ Aside0 (kq ≤ k) ∧ Aside0 (Below w.heap.size w w'))
  case atStart => exact ⟨(0), (by first | rfl | (simp; done) | (simp [*]; done)), H', ⟨Nat.le_refl _⟩, ⟨by repeat (first | (with_reducible first | exact HB.out | apply below_alloc | apply pw_below_drewN | apply below_drew1) | exact HB.out)⟩⟩
  case round =>
    clear H'
    try clear c2
    try clear p2
    try clear p3
    obtain ⟨x7_1, rfl, HA, HK1, HB⟩ := hrel
    cases gk with
    | zero => exact absurd HA.out (by simp [dedup_place_dedup_Put_1.l0])
    | succ k1 =>
      have H := HA.out
      clear HA
      simp only [dedup_place_dedup_Put_1.l0] at H
      by_cases c4 : x7_1 < (l0.length : Int)
      · rw [if_pos c4] at H
        have c4b0 : decide (x7_1 < (l0.length : Int)) = true := decide_eq_true c4
        clear c4
        by_cases c5 : 0 ≤ x7_1
        · rw [if_pos c5] at H
          have c5b0 : decide (0 ≤ x7_1) = true := decide_eq_true c5
          clear c5
          replace H := Option.bind_eq_some_iff.mp H
          obtain ⟨t163, A60, H⟩ := H
          replace H : (if t163 = true then (some x7_1) else (dedup_place_dedup_Put_1.l0 k1 l0 a1 (wrap64 (x7_1 + 1)))) = some r := H
          have A6 := Aside0.mk A60
          clear A60
          by_cases c7 : t163 = true
          · subst c7
            have H1 : (some x7_1) = some r := by rw [if_pos rfl] at H; exact H
            clear H
            have H := H1
            clear H1
            obtain rfl := Option.some.inj H
            have p162 : 0 ≤ (x7_1 : Int) := of_decide_eq_true (by first | (with_reducible assumption) | assumption)
            have q162 : x7_1 < (l0.length : Int) := of_decide_eq_true (by first | (with_reducible assumption) | assumption)
            obtain ⟨ad162, e162, hx162_0, hx162_1, hx162_2, hx162_3⟩ := at_T27 HR0.out x7_1 p162 q162
            cases e162
            replace hx162_0 := (HB.out.cell (World.block_lt_of_cell? w _ hx162_0)).trans hx162_0
            replace hx162_1 := (HB.out.cell (World.block_lt_of_cell? w _ hx162_1)).trans hx162_1
            replace hx162_2 := (HB.out.cell (World.block_lt_of_cell? w _ hx162_2)).trans hx162_2
            replace hx162_3 := (HB.out.cell (World.block_lt_of_cell? w _ hx162_3)).trans hx162_3
            replace p162 := eq_true p162
            replace q162 := eq_true q162
            go_wp2_with (first | (go_at_call 24; (with_reducible refine (dedup_Put_1.calls ((rd_T27 l0 x7_1).f0) ((rd_T27 l0 x7_1).f1) ((rd_T27 l0 x7_1).f2.f0) ((rd_T27 l0 x7_1).f2.f1) a1 true _ A6.out).mono ?_); rintro e w8 ⟨rfl, hb⟩; have n0_ := Aside0.mk (below_step (by repeat (first | (with_reducible first | exact HB.out | apply below_alloc | apply pw_below_drewN | apply below_drew1) | exact HB.out)) hb); clear HB; have HB := n0_; clear n0_; (try clear hb); (try clear hb2); (try clear hk); (try clear hi))); try (go_step3; go_wp2_with (first | (go_at_call 24; (with_reducible refine (dedup_Put_1.calls ((rd_T27 l0 x7_1).f0) ((rd_T27 l0 x7_1).f1) ((rd_T27 l0 x7_1).f2.f0) ((rd_T27 l0 x7_1).f2.f1) a1 true _ A6.out).mono ?_); rintro e w8 ⟨rfl, hb⟩; have n0_ := Aside0.mk (below_step (by repeat (first | (with_reducible first | exact HB.out | apply below_alloc | apply pw_below_drewN | apply below_drew1) | exact HB.out)) hb); clear HB; have HB := n0_; clear n0_; (try clear hb); (try clear hb2); (try clear hk); (try clear hi)))); try (go_step3; go_wp2_with (first | (go_at_call 24; (with_reducible refine (dedup_Put_1.calls ((rd_T27 l0 x7_1).f0) ((rd_T27 l0 x7_1).f1) ((rd_T27 l0 x7_1).f2.f0) ((rd_T27 l0 x7_1).f2.f1) a1 true _ A6.out).mono ?_); rintro e w8 ⟨rfl, hb⟩; have n0_ := Aside0.mk (below_step (by repeat (first | (with_reducible first | exact HB.out | apply below_alloc | apply pw_below_drewN | apply below_drew1) | exact HB.out)) hb); clear HB; have HB := n0_; clear n0_; (try clear hb); (try clear hb2); (try clear hk); (try clear hi))))
            (try rw [Exit.noGoto_ret]); go_ret
            exact ⟨by first | rfl | (simp [errW_none, errW_some] <;> rfl) | (simp [*, errW_none, errW_some] <;> rfl), by repeat (first | (with_reducible first | exact HB.out | apply below_alloc | apply pw_below_drewN | apply below_drew1) | exact HB.out)⟩
          · replace c7 := Bool.eq_false_iff.mpr c7
            subst c7
            have H1 : (dedup_place_dedup_Put_1.l0 k1 l0 a1 (wrap64 (x7_1 + 1))) = some r := by rw [if_neg (show ¬ (false = true) by decide)] at H; exact H
            clear H
            have H := H1
            clear H1
            have H' := Aside0.mk H
            clear H
            have p162 : 0 ≤ (x7_1 : Int) := of_decide_eq_true (by first | (with_reducible assumption) | assumption)
            have q162 : x7_1 < (l0.length : Int) := of_decide_eq_true (by first | (with_reducible assumption) | assumption)
            obtain ⟨ad162, e162, hx162_0, hx162_1, hx162_2, hx162_3⟩ := at_T27 HR0.out x7_1 p162 q162
            cases e162
            replace hx162_0 := (HB.out.cell (World.block_lt_of_cell? w _ hx162_0)).trans hx162_0
            replace hx162_1 := (HB.out.cell (World.block_lt_of_cell? w _ hx162_1)).trans hx162_1
            replace hx162_2 := (HB.out.cell (World.block_lt_of_cell? w _ hx162_2)).trans hx162_2
            replace hx162_3 := (HB.out.cell (World.block_lt_of_cell? w _ hx162_3)).trans hx162_3
            replace p162 := eq_true p162
            replace q162 := eq_true q162
            go_wp2_with (first | (go_at_call 24; (with_reducible refine (dedup_Put_1.calls ((rd_T27 l0 x7_1).f0) ((rd_T27 l0 x7_1).f1) ((rd_T27 l0 x7_1).f2.f0) ((rd_T27 l0 x7_1).f2.f1) a1 false _ A6.out).mono ?_); rintro e w9 ⟨rfl, hb⟩; have n0_ := Aside0.mk (below_step (by repeat (first | (with_reducible first | exact HB.out | apply below_alloc | apply pw_below_drewN | apply below_drew1) | exact HB.out)) hb); clear HB; have HB := n0_; clear n0_; (try clear hb); (try clear hb2); (try clear hk); (try clear hi))); try (go_step3; go_wp2_with (first | (go_at_call 24; (with_reducible refine (dedup_Put_1.calls ((rd_T27 l0 x7_1).f0) ((rd_T27 l0 x7_1).f1) ((rd_T27 l0 x7_1).f2.f0) ((rd_T27 l0 x7_1).f2.f1) a1 false _ A6.out).mono ?_); rintro e w9 ⟨rfl, hb⟩; have n0_ := Aside0.mk (below_step (by repeat (first | (with_reducible first | exact HB.out | apply below_alloc | apply pw_below_drewN | apply below_drew1) | exact HB.out)) hb); clear HB; have HB := n0_; clear n0_; (try clear hb); (try clear hb2); (try clear hk); (try clear hi)))); try (go_step3; go_wp2_with (first | (go_at_call 24; (with_reducible refine (dedup_Put_1.calls ((rd_T27 l0 x7_1).f0) ((rd_T27 l0 x7_1).f1) ((rd_T27 l0 x7_1).f2.f0) ((rd_T27 l0 x7_1).f2.f1) a1 false _ A6.out).mono ?_); rintro e w9 ⟨rfl, hb⟩; have n0_ := Aside0.mk (below_step (by repeat (first | (with_reducible first | exact HB.out | apply below_alloc | apply pw_below_drewN | apply below_drew1) | exact HB.out)) hb); clear HB; have HB := n0_; clear n0_; (try clear hb); (try clear hb2); (try clear hk); (try clear hi))))
            go_roundg k1
            case measure => have := HK1.out; omega
            case rel => exact ⟨(wrap64 (x7_1 + 1)), (by first | rfl | (simp; done) | (simp [*]; done)), H', ⟨by have := HK1.out; omega⟩, ⟨by repeat (first | (with_reducible first | exact HB.out | apply below_alloc | apply pw_below_drewN | apply below_drew1) | exact HB.out)⟩⟩
        · rw [if_neg c5] at H
          exact absurd H (by simp)
      · rw [if_neg c4] at H
        have c4b0 : decide (x7_1 < (l0.length : Int)) = false := decide_eq_false c4
        clear c4
        obtain rfl := Option.some.inj H
        go_wp2; try (go_step3; go_wp2); try (go_step3; go_wp2)
        (try rw [Exit.noGoto_ret]); go_ret
        exact ⟨by first | rfl | (simp [errW_none, errW_some] <;> rfl) | (simp [*, errW_none, errW_some] <;> rfl), by repeat (first | (with_reducible first | exact HB.out | apply below_alloc | apply pw_below_drewN | apply below_drew1) | exact HB.out)⟩

end Go.Proofs.Ytbohgnecphhdmaa.P
