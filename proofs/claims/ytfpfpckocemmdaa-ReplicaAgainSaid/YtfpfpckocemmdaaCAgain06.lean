/- Part 6 of the walk. -/
import Derived.Test.YtfpfpckocemmdaaCAgain05
section
namespace Go.Proofs.Ytfpfpckocemmdaa.P
open Go.RowKit Go.Proofs.YtfpfpckocemmdaaW.PrintWords Go.Proofs.YtfpfpckocemmdaaW.PrintLast Go.Proofs.YtfpfpckocemmdaaW.PrintMore
set_option linter.unusedVariables false
set_option linter.unusedSimpArgs false
set_option maxHeartbeats 8000000 in
set_option maxRecDepth 100000 in
theorem prepare_joins (x : Nod) (m : S28) (A : Option Addr) (c : Nat) (w0 w : World) (base g : Nat) (ok : Nat → Prop) (hn0 : 1 ≤ x.n) (hn1 : x.n ≤ 1000) (hv : 0 ≤ m.f3) (hp : m.f3 % x.n = m.f1) (ht : x.told.length ≤ 1000) (hc : m.f7.length ≤ c) (hl : m.f7.length ≤ 1000) (hl0 : x.log.length ≤ 1000) (hM : ∀ W, Below base w0 W → Kd.C Kd.string W A m.f7.length m.f7) (hw : x.works = false) (hv2 : ¬ m.f3 > x.view) (h : Did w0 w base g ok x) :
    Calls Try.prog 23 #[.pointer (some ⟨g, 0, none⟩), .agg #[.int .i64 m.f0, .int .i64 m.f1, .int .i64 m.f2, .int .i64 m.f3, .int .i64 m.f4, .int .i64 m.f5, .int .i64 m.f6, .slice A m.f7.length c]] w fun e w' => e = .returned (.tuple #[]) ∧ Did w0 w' base g ok (let z := (x.takes m).settle m; z.say (z.ackOf m)) := by
  have hu57 := Try.underlying57
  have hu26 := Try.underlying26
  have hu28 := Try.underlying28
  have HN := Aside0.mk h
  have HD := Aside0.mk (h.boxed (.cells #[.int .i64 m.f0, .int .i64 m.f1, .int .i64 m.f2, .int .i64 m.f3, .int .i64 m.f4, .int .i64 m.f5, .int .i64 m.f6, .slice A m.f7.length c] 28))
  have HP := Aside0.mk (primary_of m.f3 x.n hv hn0)
  have HCL := Aside0.mk (show slices_Clone_string_string.f m.f7 = some m.f7 from if_pos (by omega))
  have HCC := Aside0.mk hc
  have HM := Aside0.mk hM
  have HN0 := Aside0.mk hn0
  have HN1 := Aside0.mk hn1
  have HT := Aside0.mk ht
  have HL := Aside0.mk hl
  have HL0 := Aside0.mk hl0
  have hlt := h.1.lt
  obtain ⟨A6, c6, A7, c7, A8, c8, A9, c9, hb, -⟩ := HD.out.blk
  have HB := Aside0.mk hb
  have hc1 : (w.alloc (.cells #[.int .i64 m.f0, .int .i64 m.f1, .int .i64 m.f2, .int .i64 m.f3, .int .i64 m.f4, .int .i64 m.f5, .int .i64 m.f6, .slice A m.f7.length c] 28)).cell? ⟨g, 1, none⟩ = some (.int .i64 x.n) := blk_cell hb 1
  have hc2 : (w.alloc (.cells #[.int .i64 m.f0, .int .i64 m.f1, .int .i64 m.f2, .int .i64 m.f3, .int .i64 m.f4, .int .i64 m.f5, .int .i64 m.f6, .slice A m.f7.length c] 28)).cell? ⟨g, 2, none⟩ = some (.int .i64 x.view) := blk_cell hb 2
  have hc3 : (w.alloc (.cells #[.int .i64 m.f0, .int .i64 m.f1, .int .i64 m.f2, .int .i64 m.f3, .int .i64 m.f4, .int .i64 m.f5, .int .i64 m.f6, .slice A m.f7.length c] 28)).cell? ⟨g, 3, none⟩ = some (.int .i64 x.last) := blk_cell hb 3
  have hc4 : (w.alloc (.cells #[.int .i64 m.f0, .int .i64 m.f1, .int .i64 m.f2, .int .i64 m.f3, .int .i64 m.f4, .int .i64 m.f5, .int .i64 m.f6, .slice A m.f7.length c] 28)).cell? ⟨g, 4, none⟩ = some (.bool x.works) := blk_cell hb 4
  have hc5 : (w.alloc (.cells #[.int .i64 m.f0, .int .i64 m.f1, .int .i64 m.f2, .int .i64 m.f3, .int .i64 m.f4, .int .i64 m.f5, .int .i64 m.f6, .slice A m.f7.length c] 28)).cell? ⟨g, 5, none⟩ = some (.int .i64 x.commit) := blk_cell hb 5
  have hc6 : (w.alloc (.cells #[.int .i64 m.f0, .int .i64 m.f1, .int .i64 m.f2, .int .i64 m.f3, .int .i64 m.f4, .int .i64 m.f5, .int .i64 m.f6, .slice A m.f7.length c] 28)).cell? ⟨g, 6, none⟩ = some (.slice A6 x.log.length c6) := blk_cell hb 6
  have hf2 : (w.alloc (.cells #[.int .i64 m.f0, .int .i64 m.f1, .int .i64 m.f2, .int .i64 m.f3, .int .i64 m.f4, .int .i64 m.f5, .int .i64 m.f6, .slice A m.f7.length c] 28)).frozen? ⟨g, 2, none⟩ = false := blk_frozen hb 2
  have hf3 : (w.alloc (.cells #[.int .i64 m.f0, .int .i64 m.f1, .int .i64 m.f2, .int .i64 m.f3, .int .i64 m.f4, .int .i64 m.f5, .int .i64 m.f6, .slice A m.f7.length c] 28)).frozen? ⟨g, 3, none⟩ = false := blk_frozen hb 3
  have hf4 : (w.alloc (.cells #[.int .i64 m.f0, .int .i64 m.f1, .int .i64 m.f2, .int .i64 m.f3, .int .i64 m.f4, .int .i64 m.f5, .int .i64 m.f6, .slice A m.f7.length c] 28)).frozen? ⟨g, 4, none⟩ = false := blk_frozen hb 4
  have hf5 : (w.alloc (.cells #[.int .i64 m.f0, .int .i64 m.f1, .int .i64 m.f2, .int .i64 m.f3, .int .i64 m.f4, .int .i64 m.f5, .int .i64 m.f6, .slice A m.f7.length c] 28)).frozen? ⟨g, 5, none⟩ = false := blk_frozen hb 5
  have hf6 : (w.alloc (.cells #[.int .i64 m.f0, .int .i64 m.f1, .int .i64 m.f2, .int .i64 m.f3, .int .i64 m.f4, .int .i64 m.f5, .int .i64 m.f6, .slice A m.f7.length c] 28)).frozen? ⟨g, 6, none⟩ = false := blk_frozen hb 6
  have hb1 : (w.alloc (.cells #[.int .i64 m.f0, .int .i64 m.f1, .int .i64 m.f2, .int .i64 m.f3, .int .i64 m.f4, .int .i64 m.f5, .int .i64 m.f6, .slice A m.f7.length c] 28)).cell? ⟨w.heap.size, 1, none⟩ = some (.int .i64 m.f1) := blk_cell (x_alloc_new w _) 1
  have hb3 : (w.alloc (.cells #[.int .i64 m.f0, .int .i64 m.f1, .int .i64 m.f2, .int .i64 m.f3, .int .i64 m.f4, .int .i64 m.f5, .int .i64 m.f6, .slice A m.f7.length c] 28)).cell? ⟨w.heap.size, 3, none⟩ = some (.int .i64 m.f3) := blk_cell (x_alloc_new w _) 3
  have hb5 : (w.alloc (.cells #[.int .i64 m.f0, .int .i64 m.f1, .int .i64 m.f2, .int .i64 m.f3, .int .i64 m.f4, .int .i64 m.f5, .int .i64 m.f6, .slice A m.f7.length c] 28)).cell? ⟨w.heap.size, 5, none⟩ = some (.int .i64 m.f5) := blk_cell (x_alloc_new w _) 5
  have hb7 : (w.alloc (.cells #[.int .i64 m.f0, .int .i64 m.f1, .int .i64 m.f2, .int .i64 m.f3, .int .i64 m.f4, .int .i64 m.f5, .int .i64 m.f6, .slice A m.f7.length c] 28)).cell? ⟨w.heap.size, 7, none⟩ = some (.slice A m.f7.length c) := blk_cell (x_alloc_new w _) 7
  have hne1 : g ≠ w.heap.size := by have : g < w.heap.size := hlt; omega
  have hne2 : w.heap.size ≠ g := hne1.symm
  generalize hpp : m.f3 % x.n = p at *
  have e1 : (p == m.f1) = true := beq_iff_eq.mpr hp
  have e2 : (p != m.f1) = false := bne_eq_false_iff_eq.mpr hp
  have HPP := Aside0.mk hp
  clear hb h hp hv hn0 hpp hc hl hl0 ht hn1 hM hlt
  obtain ⟨y, hy⟩ : ∃ y, y = x.takes m := ⟨_, rfl⟩
  have HE := Aside0.mk (show y = Nod.clear { x with view := m.f3, works := true, last := m.f3, log := m.f7 } by rw [hy]; unfold Nod.takes; rw [if_pos (.inr hw)])
  have HTY := Aside0.mk (show y.told.length ≤ 100000 by rw [HE.out]; have := HT.out; show x.told.length ≤ _; omega)
  have HZ := Aside0.mk (show (let z := (x.takes m).settle m; z.say (z.ackOf m)) = (y.settle m).say ((y.settle m).ackOf m) by rw [hy])
  clear hy
  have g1 : decide (m.f3 > x.view) = false := decide_eq_false hv2
  have g2 : decide (x.view < m.f3) = false := decide_eq_false hv2
  rw [hw] at hc4
  clear hw hv2
  go_enter Try.func23, Try.ntmps23
  go_wp2
  go_region_held3 (fun W => W.cell? ⟨g, 1, none⟩ = some (.int .i64 x.n) ∧ W.cell? ⟨w.heap.size, 3, none⟩ = some (.int .i64 m.f3))
    (first | exact ⟨hc1, hb3⟩ | go_keep)
    (first | (refine x_step_call rfl Try.func31 (by kernel_rfl) rfl #[.int .i64 m.f3, .int .i64 x.n] rfl (by simp [Act.eval, Act.put]) ?_; refine (quorum_Primary.calls m.f3 x.n p true _ HP.out).mono ?_; rintro e w' ⟨rfl, ⟨nd, rfl⟩⟩; refine ⟨_, rfl, ?_⟩))
  rename_i hh
  clear hh
  go_wp2
  go_region
  go_wp2
  go_region
  go_wp2_with (first | (go_at_call 42; refine (slices_Clone_string_string.calls A c m.f7 m.f7 _ (HN.out.reads HM.out ((((HD.out.drewN _).set_view m.f3).set_works true).set_last m.f3)) HCC.out HCL.out).mono ?_; rintro e w4 ⟨v4, rfl, hR4, hb4⟩; obtain ⟨A4, c4, rfl⟩ := Kd.R_slice hR4; have HD4 := Aside0.mk (((((HD.out.drewN _).set_view m.f3).set_works true).set_last m.f3).set_log hb4 (Nat.le_refl _) hR4); obtain ⟨D6, d6, D7, d7, D8, d8, D9, d9, hbk, -⟩ := (((((HD.out.drewN _).set_view m.f3).set_works true).set_last m.f3).below hb4).blk; have hs6 : w4.cell? ⟨g, 6, none⟩ = some _ := blk_cell hbk 6; have ht6 : w4.frozen? ⟨g, 6, none⟩ = false := blk_frozen hbk 6; clear hbk hb4 hR4) | (go_at_call 39; refine (clear_did { x with view := m.f3, works := true, last := m.f3, log := m.f7 } _ _ base g _ (by have := HN0.out; show 0 ≤ x.n; omega) HN1.out HD4.out).mono ?_; rintro e w6 ⟨rfl, h6⟩; rw [← HE.out] at h6; have HD6 := Aside0.mk h6; have HBX6 := Aside0.mk h6.box; obtain ⟨D6, d6, D7, d7, D8, d8, D9, d9, hbk, -⟩ := h6.blk; have HBK6 := Aside0.mk hbk; have hr5 : w6.cell? ⟨g, 5, none⟩ = some (.int .i64 y.commit) := blk_cell hbk 5; have hr6 : w6.cell? ⟨g, 6, none⟩ = some (.slice D6 y.log.length d6) := blk_cell hbk 6; have hq5 : w6.frozen? ⟨g, 5, none⟩ = false := blk_frozen hbk 5; have hx5 : w6.cell? ⟨w.heap.size, 5, none⟩ = some (.int .i64 m.f5) := blk_cell HBX6.out 5; clear h6 hbk))
  go_region
  go_wp2
  have HD7 := Aside0.mk (show Did _ ((w6.setCell ⟨g, 5, none⟩ (.int .i64 (min (max y.commit m.f5) (y.log.length : Int)))).drew) base g _ (y.settle m) from (HD6.out.set_commit (min (max y.commit m.f5) (y.log.length : Int))).drew)
  clear hc1 hc2 hc3 hc4 hc5 hc6 hf2 hf3 hf4 hf5 hf6 hb1 hb3 hb5 hb7
  clear hr5 hr6 hq5 hx5
  generalize hW7 : (w6.setCell ⟨g, 5, none⟩ (.int .i64 (min (max y.commit m.f5) (y.log.length : Int)))).drew = W7 at *
  clear hW7
  have HBX7 := Aside0.mk HD7.out.box
  obtain ⟨E6, f6, E7, f7, E8, f8, E9, f9, hbk, -⟩ := HD7.out.blk
  have HBK7 := Aside0.mk hbk
  have hs0 : W7.cell? ⟨g, 0, none⟩ = some (.int .i64 (y.settle m).id) := blk_cell hbk 0
  have hs2 : W7.cell? ⟨g, 2, none⟩ = some (.int .i64 (y.settle m).view) := blk_cell hbk 2
  have hs6 : W7.cell? ⟨g, 6, none⟩ = some (.slice E6 (y.settle m).log.length f6) := blk_cell hbk 6
  have hs9 : W7.cell? ⟨g, 9, none⟩ = some (.slice E9 (y.settle m).told.length f9) := blk_cell hbk 9
  have hx1 : W7.cell? ⟨w.heap.size, 1, none⟩ = some (.int .i64 m.f1) := blk_cell HBX7.out 1
  have HC9 := Aside0.mk (show W7.drew.cell? ⟨g, 9, none⟩ = _ from hs9)
  have HTI := Aside0.mk (show (y.settle m).told.length ≤ 100000 from HTY.out)
  have HBKD := Aside0.mk (show W7.drew.heap[g]? = some _ from hbk)
  have HBXD := Aside0.mk (show W7.drew.heap[w.heap.size]? = some _ from HBX7.out)
  have HNE := Aside0.mk hne1
  clear hbk
  generalize hz : y.settle m = z at *
  rw [ldTold_eq 103]
  go_region_held3 (fun W => W.cell? ⟨g, 0, none⟩ = some (.int .i64 z.id) ∧ W.cell? ⟨g, 2, none⟩ = some (.int .i64 z.view) ∧ W.cell? ⟨g, 6, none⟩ = some (.slice E6 z.log.length f6) ∧ W.cell? ⟨w.heap.size, 1, none⟩ = some (.int .i64 m.f1))
    (first
      | exact ⟨hs0, hs2, hs6, hx1⟩
      | exact ⟨blk_cell HBK8.out 0, blk_cell HBK8.out 2, blk_cell HBK8.out 6, blk_cell HBX8.out 1⟩
      | exact ⟨blk_cell (blk_alloc HBK8.out _) 0, blk_cell (blk_alloc HBK8.out _) 2, blk_cell (blk_alloc HBK8.out _) 6, blk_cell (blk_alloc HBX8.out _) 1⟩
      | exact ⟨blk_cell HBK4.out 0, blk_cell HBK4.out 2, blk_cell HBK4.out 6, blk_cell HBX4.out 1⟩
      | exact ⟨blk_cell HBK5.out 0, blk_cell HBK5.out 2, blk_cell HBK5.out 6, blk_cell HBX5.out 1⟩)
    (first
      | (refine x_step_call rfl Try.func46 (by kernel_rfl) rfl #[.int .i64 z.id, .int .i64 m.f1, .int .i64 z.view, .int .i64 (z.log.length : Int)] rfl (by simp [Act.eval, Act.put]) ?_; refine (ack_calls z.id m.f1 z.view (z.log.length : Int) W7.drew).mono ?_; rintro e w8 ⟨rfl, hb8⟩; have HB8 := Aside0.mk hb8; have HBK8 := Aside0.mk ((hb8.block g (blk_lt HBKD.out)).trans HBKD.out); have HBX8 := Aside0.mk ((hb8.block w.heap.size (blk_lt HBXD.out)).trans HBXD.out); have hs9' : ∀ o, (w8.alloc o).cell? ⟨g, 9, none⟩ = some (.slice E9 z.told.length f9) := fun o => blk_cell (blk_alloc HBK8.out o) 9; have hs9'' : w8.cell? ⟨g, 9, none⟩ = some (.slice E9 z.told.length f9) := blk_cell HBK8.out 9; clear hb8; refine ⟨_, rfl, ?_⟩)
      | (refine say_step (z.ackOf m) E9 f9 none 0 (HD7.out.drew) HB8.out (HC9.out) (Kd.R_nil _ _ _ _ _) HTI.out rfl (.tmp 104) (.tmp 124) rfl rfl rfl ?_; intro v1 w9 hd9 hg9 hv9; obtain ⟨A1, c1, rfl⟩ := hv9; have HD9 := Aside0.mk hd9; have HBK4 := Aside0.mk (hg9.trans HBKD.out); have HBX4 := Aside0.mk ((blk_far_inv (p := ⟨g, 9, none⟩) hd9.box HNE.out.symm)); have HBX5 := Aside0.mk hd9.box; have HBK5 := Aside0.mk (blk_put (cs' := z.cells (.slice E6 z.log.length f6) (.slice E7 z.acks.length f7) (.slice E8 z.votes.length f8) (.slice A1 (z.say (z.ackOf m)).told.length c1)) HBK4.out 9 (.slice A1 (z.say (z.ackOf m)).told.length c1) rfl); have hr9 : w9.cell? ⟨g, 9, none⟩ = some (.slice E9 z.told.length f9) := blk_cell HBK4.out 9; have hf9 : w9.frozen? ⟨g, 9, none⟩ = false := blk_frozen HBK4.out 9; clear hd9 hg9))
  all_goals
    go_wp2
    go_end0
    exact ⟨rfl, by rw [HZ.out]; exact HN.out.unbox HD9.out⟩
end Go.Proofs.Ytfpfpckocemmdaa.P
end
section
namespace Go.Proofs.Ytfpfpckocemmdaa.P
open Go.RowKit Go.Proofs.YtfpfpckocemmdaaW.PrintWords Go.Proofs.YtfpfpckocemmdaaW.PrintLast Go.Proofs.YtfpfpckocemmdaaW.PrintMore
set_option linter.unusedVariables false
set_option linter.unusedSimpArgs false
theorem begin_did (x : Nod) (w0 w : World) (base g : Nat) (ok : Nat → Prop) (hg : Good x) (h : Did w0 w base g ok x) :
    Calls Try.prog 30 #[.pointer (some ⟨g, 0, none⟩)] w fun e w' => e = .returned (.tuple #[]) ∧ Did w0 w' base g ok x.begin_ := by
  cases hw : x.works with
  | true =>
    have he : x.begin_ = x := by unfold Nod.begin_ Nod.may; rw [hw]; rfl
    rw [he]; exact begin_works x w0 w base g ok hw h
  | false =>
    cases hp : x.prim x.view with
    | false =>
      have he : x.begin_ = x := by unfold Nod.begin_ Nod.may; rw [hw, hp]; rfl
      rw [he]; exact begin_other x w0 w base g ok hw hg.n1 hg.view hp h
    | true =>
      cases hen : enoughOf x.votes x.n with
      | false =>
        have he : x.begin_ = x := by unfold Nod.begin_ Nod.may; rw [hw, hp, hen]; rfl
        rw [he]; exact begin_few x w0 w base g ok hg hw hp hen h
      | true =>
        have he : x.begin_ = x.rise.clear.counts.tell := by unfold Nod.begin_ Nod.may; rw [hw, hp, hen]; rfl
        rw [he]; exact begin_may x w0 w base g ok hg hw hp hen h
def Nod.acked (x : Nod) (m : S28) : Nod := { x with acks := x.acks.set m.f1.toNat (max (x.acks.getD m.f1.toNat 0) (min m.f6 (x.log.length : Int))) }
def Nod.ack (x : Nod) (m : S28) : Nod := if x.leads = true ∧ m.f3 ≤ x.view then (if (x.acked m).counts.commit > x.commit then (x.acked m).counts.tell else (x.acked m).counts) else x
theorem acked_good {x : Nod} (h : Good x) (m : S28) : Good (x.acked m) := ⟨h.n1, h.n2, h.id0, h.id1, h.view, h.log, by simpa [Nod.acked] using h.acks, h.votes, h.each, h.told⟩
theorem Did.set_ack {w0 w : World} {base g : Nat} {ok : Nat → Prop} {x : Nod} (h : Did w0 w base g ok x) (ga n c7 : Nat) (hc : w.cell? ⟨g, 7, none⟩ = some (.slice (some ⟨ga, 0, none⟩) n c7)) (i y : Int) : Did w0 (w.setCell ⟨ga, i.toNat, none⟩ (.int .i64 y)) base g ok { x with acks := x.acks.set i.toNat y } := by
  have hn := h.1.set_ack ga n c7 hc i y
  obtain ⟨v6, v7, v8, v9, P6, P7, P8, P9, hb, hg, hok, h6, h7, h8, h9, ho, a6, a7, a8⟩ := h.1
  have e7 : v7 = .slice (some ⟨ga, 0, none⟩) n c7 := by
    have h1 : w.cell? ⟨g, 7, none⟩ = some v7 := blk_cell hb 7
    rw [h1] at hc
    exact Option.some.inj hc
  subst e7
  have hP : P7 ga := h7.1 ga rfl
  have hga := (ho ga (.inr (.inl hP))).1
  have hbase : base ≤ ga := Kd.R_base h7 ga rfl
  exact ⟨hn, h.2.1.setCell hga _, below_at h.2.2.1 hbase, h.2.2.2⟩
theorem quiet_leads (x : Nod) (w : World) (g : Nat) (h0 : w.cell? ⟨g, 0, none⟩ = some (.int .i64 x.id)) (h1 : w.cell? ⟨g, 1, none⟩ = some (.int .i64 x.n)) (h2 : w.cell? ⟨g, 2, none⟩ = some (.int .i64 x.view)) (h4 : w.cell? ⟨g, 4, none⟩ = some (.bool x.works)) (hv : 0 ≤ x.view) (hn : 1 ≤ x.n) (k : Nat) :
    Calls Try.prog 34 #[.pointer (some ⟨g, 0, none⟩)] (w.drewN k) fun e w' => e = .returned (.bool x.leads) ∧ ∃ m, w' = (w.drewN k).drewN m :=
  (leads_calls x (w.drewN k) g h0 h1 h2 h4 hv hn).mono (fun _ _ ⟨a, b⟩ => ⟨a, b.out⟩)
set_option maxHeartbeats 8000000 in
set_option maxRecDepth 100000 in
theorem ack_not (x : Nod) (m : S28) (A : Option Addr) (c : Nat) (w0 w : World) (base g : Nat) (ok : Nat → Prop) (hg : Good x) (hf : 0 ≤ m.f1) (hf2 : m.f1 < x.n) (hl : x.leads = false) (h : Did w0 w base g ok x) :
    Calls Try.prog 24 #[.pointer (some ⟨g, 0, none⟩), .agg #[.int .i64 m.f0, .int .i64 m.f1, .int .i64 m.f2, .int .i64 m.f3, .int .i64 m.f4, .int .i64 m.f5, .int .i64 m.f6, .slice A m.f7.length c]] w fun e w' => e = .returned (.tuple #[]) ∧ Did w0 w' base g ok x := by
  have hu57 := Try.underlying57
  have hu26 := Try.underlying26
  have hu28 := Try.underlying28
  have HN := Aside0.mk h
  have HG := Aside0.mk hg
  have HD := Aside0.mk (h.boxed (.cells #[.int .i64 m.f0, .int .i64 m.f1, .int .i64 m.f2, .int .i64 m.f3, .int .i64 m.f4, .int .i64 m.f5, .int .i64 m.f6, .slice A m.f7.length c] 28))
  have hlt := h.1.lt
  obtain ⟨A6, c6, A7, c7, A8, c8, A9, c9, hb, -⟩ := HD.out.blk
  have HB := Aside0.mk hb
  have hc1 : (w.alloc (.cells #[.int .i64 m.f0, .int .i64 m.f1, .int .i64 m.f2, .int .i64 m.f3, .int .i64 m.f4, .int .i64 m.f5, .int .i64 m.f6, .slice A m.f7.length c] 28)).cell? ⟨g, 1, none⟩ = some (.int .i64 x.n) := blk_cell hb 1
  have hc2 : (w.alloc (.cells #[.int .i64 m.f0, .int .i64 m.f1, .int .i64 m.f2, .int .i64 m.f3, .int .i64 m.f4, .int .i64 m.f5, .int .i64 m.f6, .slice A m.f7.length c] 28)).cell? ⟨g, 2, none⟩ = some (.int .i64 x.view) := blk_cell hb 2
  have hb1 : (w.alloc (.cells #[.int .i64 m.f0, .int .i64 m.f1, .int .i64 m.f2, .int .i64 m.f3, .int .i64 m.f4, .int .i64 m.f5, .int .i64 m.f6, .slice A m.f7.length c] 28)).cell? ⟨w.heap.size, 1, none⟩ = some (.int .i64 m.f1) := blk_cell (x_alloc_new w _) 1
  have hb3 : (w.alloc (.cells #[.int .i64 m.f0, .int .i64 m.f1, .int .i64 m.f2, .int .i64 m.f3, .int .i64 m.f4, .int .i64 m.f5, .int .i64 m.f6, .slice A m.f7.length c] 28)).cell? ⟨w.heap.size, 3, none⟩ = some (.int .i64 m.f3) := blk_cell (x_alloc_new w _) 3
  have hb6 : (w.alloc (.cells #[.int .i64 m.f0, .int .i64 m.f1, .int .i64 m.f2, .int .i64 m.f3, .int .i64 m.f4, .int .i64 m.f5, .int .i64 m.f6, .slice A m.f7.length c] 28)).cell? ⟨w.heap.size, 6, none⟩ = some (.int .i64 m.f6) := blk_cell (x_alloc_new w _) 6
  have hc5 : (w.alloc (.cells #[.int .i64 m.f0, .int .i64 m.f1, .int .i64 m.f2, .int .i64 m.f3, .int .i64 m.f4, .int .i64 m.f5, .int .i64 m.f6, .slice A m.f7.length c] 28)).cell? ⟨g, 5, none⟩ = some (.int .i64 x.commit) := blk_cell hb 5
  have hc6 : (w.alloc (.cells #[.int .i64 m.f0, .int .i64 m.f1, .int .i64 m.f2, .int .i64 m.f3, .int .i64 m.f4, .int .i64 m.f5, .int .i64 m.f6, .slice A m.f7.length c] 28)).cell? ⟨g, 6, none⟩ = some (.slice A6 x.log.length c6) := blk_cell hb 6
  have hne1 : g ≠ w.heap.size := by have : g < w.heap.size := hlt; omega
  have hne2 : w.heap.size ≠ g := hne1.symm
  have HLQ := Aside0.mk (quiet_leads x (w.alloc (.cells #[.int .i64 m.f0, .int .i64 m.f1, .int .i64 m.f2, .int .i64 m.f3, .int .i64 m.f4, .int .i64 m.f5, .int .i64 m.f6, .slice A m.f7.length c] 28)) g (blk_cell hb 0) (blk_cell hb 1) (blk_cell hb 2) (blk_cell hb 4) hg.view hg.n1)
  rw [hl] at HLQ
  clear hb h hl hlt hg hf hf2
  go_enter Try.func24, Try.ntmps24
  go_wp2
  go_quiet ((go_at_call 34; exact Calls.quiet_of (HLQ.out _)))
  go_wp2
  refine bodyPost_ret (results_none rfl _ _ _) rfl ?_
  exact ⟨rfl, HN.out.unbox (HD.out.drewN _)⟩
set_option maxHeartbeats 8000000 in
set_option maxRecDepth 100000 in
theorem ack_later (x : Nod) (m : S28) (A : Option Addr) (c : Nat) (w0 w : World) (base g : Nat) (ok : Nat → Prop) (hg : Good x) (hf : 0 ≤ m.f1) (hf2 : m.f1 < x.n) (hl : x.leads = true) (hv : m.f3 > x.view) (h : Did w0 w base g ok x) :
    Calls Try.prog 24 #[.pointer (some ⟨g, 0, none⟩), .agg #[.int .i64 m.f0, .int .i64 m.f1, .int .i64 m.f2, .int .i64 m.f3, .int .i64 m.f4, .int .i64 m.f5, .int .i64 m.f6, .slice A m.f7.length c]] w fun e w' => e = .returned (.tuple #[]) ∧ Did w0 w' base g ok x := by
  have hu57 := Try.underlying57
  have hu26 := Try.underlying26
  have hu28 := Try.underlying28
  have HN := Aside0.mk h
  have HG := Aside0.mk hg
  have HD := Aside0.mk (h.boxed (.cells #[.int .i64 m.f0, .int .i64 m.f1, .int .i64 m.f2, .int .i64 m.f3, .int .i64 m.f4, .int .i64 m.f5, .int .i64 m.f6, .slice A m.f7.length c] 28))
  have hlt := h.1.lt
  obtain ⟨A6, c6, A7, c7, A8, c8, A9, c9, hb, -⟩ := HD.out.blk
  have HB := Aside0.mk hb
  have hc1 : (w.alloc (.cells #[.int .i64 m.f0, .int .i64 m.f1, .int .i64 m.f2, .int .i64 m.f3, .int .i64 m.f4, .int .i64 m.f5, .int .i64 m.f6, .slice A m.f7.length c] 28)).cell? ⟨g, 1, none⟩ = some (.int .i64 x.n) := blk_cell hb 1
  have hc2 : (w.alloc (.cells #[.int .i64 m.f0, .int .i64 m.f1, .int .i64 m.f2, .int .i64 m.f3, .int .i64 m.f4, .int .i64 m.f5, .int .i64 m.f6, .slice A m.f7.length c] 28)).cell? ⟨g, 2, none⟩ = some (.int .i64 x.view) := blk_cell hb 2
  have hb1 : (w.alloc (.cells #[.int .i64 m.f0, .int .i64 m.f1, .int .i64 m.f2, .int .i64 m.f3, .int .i64 m.f4, .int .i64 m.f5, .int .i64 m.f6, .slice A m.f7.length c] 28)).cell? ⟨w.heap.size, 1, none⟩ = some (.int .i64 m.f1) := blk_cell (x_alloc_new w _) 1
  have hb3 : (w.alloc (.cells #[.int .i64 m.f0, .int .i64 m.f1, .int .i64 m.f2, .int .i64 m.f3, .int .i64 m.f4, .int .i64 m.f5, .int .i64 m.f6, .slice A m.f7.length c] 28)).cell? ⟨w.heap.size, 3, none⟩ = some (.int .i64 m.f3) := blk_cell (x_alloc_new w _) 3
  have hb6 : (w.alloc (.cells #[.int .i64 m.f0, .int .i64 m.f1, .int .i64 m.f2, .int .i64 m.f3, .int .i64 m.f4, .int .i64 m.f5, .int .i64 m.f6, .slice A m.f7.length c] 28)).cell? ⟨w.heap.size, 6, none⟩ = some (.int .i64 m.f6) := blk_cell (x_alloc_new w _) 6
  have hc5 : (w.alloc (.cells #[.int .i64 m.f0, .int .i64 m.f1, .int .i64 m.f2, .int .i64 m.f3, .int .i64 m.f4, .int .i64 m.f5, .int .i64 m.f6, .slice A m.f7.length c] 28)).cell? ⟨g, 5, none⟩ = some (.int .i64 x.commit) := blk_cell hb 5
  have hc6 : (w.alloc (.cells #[.int .i64 m.f0, .int .i64 m.f1, .int .i64 m.f2, .int .i64 m.f3, .int .i64 m.f4, .int .i64 m.f5, .int .i64 m.f6, .slice A m.f7.length c] 28)).cell? ⟨g, 6, none⟩ = some (.slice A6 x.log.length c6) := blk_cell hb 6
  have hne1 : g ≠ w.heap.size := by have : g < w.heap.size := hlt; omega
  have hne2 : w.heap.size ≠ g := hne1.symm
  have HLQ := Aside0.mk (quiet_leads x (w.alloc (.cells #[.int .i64 m.f0, .int .i64 m.f1, .int .i64 m.f2, .int .i64 m.f3, .int .i64 m.f4, .int .i64 m.f5, .int .i64 m.f6, .slice A m.f7.length c] 28)) g (blk_cell hb 0) (blk_cell hb 1) (blk_cell hb 2) (blk_cell hb 4) hg.view hg.n1)
  rw [hl] at HLQ
  have g1 : decide (m.f3 > x.view) = true := decide_eq_true hv
  have g2 : decide (x.view < m.f3) = true := decide_eq_true hv
  clear hb h hl hlt hg hf hf2 hv
  go_enter Try.func24, Try.ntmps24
  go_wp2
  go_quiet ((go_at_call 34; exact Calls.quiet_of (HLQ.out _)))
  go_wp2
  refine bodyPost_ret (results_none rfl _ _ _) rfl ?_
  exact ⟨rfl, HN.out.unbox (HD.out.drewN _)⟩
set_option maxHeartbeats 8000000 in
set_option maxRecDepth 100000 in
theorem ack_more (x : Nod) (m : S28) (A : Option Addr) (c : Nat) (w0 w : World) (base g : Nat) (ok : Nat → Prop) (hg : Good x) (hf : 0 ≤ m.f1) (hf2 : m.f1 < x.n) (hl : x.leads = true) (hv : ¬ m.f3 > x.view) (hcm :  (x.acked m).counts.commit > x.commit) (h : Did w0 w base g ok x) :
    Calls Try.prog 24 #[.pointer (some ⟨g, 0, none⟩), .agg #[.int .i64 m.f0, .int .i64 m.f1, .int .i64 m.f2, .int .i64 m.f3, .int .i64 m.f4, .int .i64 m.f5, .int .i64 m.f6, .slice A m.f7.length c]] w fun e w' => e = .returned (.tuple #[]) ∧ Did w0 w' base g ok (x.acked m).counts.tell := by
  have hu57 := Try.underlying57
  have hu26 := Try.underlying26
  have hu28 := Try.underlying28
  have HN := Aside0.mk h
  have HG := Aside0.mk hg
  have HD := Aside0.mk (h.boxed (.cells #[.int .i64 m.f0, .int .i64 m.f1, .int .i64 m.f2, .int .i64 m.f3, .int .i64 m.f4, .int .i64 m.f5, .int .i64 m.f6, .slice A m.f7.length c] 28))
  have hlt := h.1.lt
  obtain ⟨A6, c6, A7, c7, A8, c8, A9, c9, hb, -⟩ := HD.out.blk
  have HB := Aside0.mk hb
  have hc1 : (w.alloc (.cells #[.int .i64 m.f0, .int .i64 m.f1, .int .i64 m.f2, .int .i64 m.f3, .int .i64 m.f4, .int .i64 m.f5, .int .i64 m.f6, .slice A m.f7.length c] 28)).cell? ⟨g, 1, none⟩ = some (.int .i64 x.n) := blk_cell hb 1
  have hc2 : (w.alloc (.cells #[.int .i64 m.f0, .int .i64 m.f1, .int .i64 m.f2, .int .i64 m.f3, .int .i64 m.f4, .int .i64 m.f5, .int .i64 m.f6, .slice A m.f7.length c] 28)).cell? ⟨g, 2, none⟩ = some (.int .i64 x.view) := blk_cell hb 2
  have hb1 : (w.alloc (.cells #[.int .i64 m.f0, .int .i64 m.f1, .int .i64 m.f2, .int .i64 m.f3, .int .i64 m.f4, .int .i64 m.f5, .int .i64 m.f6, .slice A m.f7.length c] 28)).cell? ⟨w.heap.size, 1, none⟩ = some (.int .i64 m.f1) := blk_cell (x_alloc_new w _) 1
  have hb3 : (w.alloc (.cells #[.int .i64 m.f0, .int .i64 m.f1, .int .i64 m.f2, .int .i64 m.f3, .int .i64 m.f4, .int .i64 m.f5, .int .i64 m.f6, .slice A m.f7.length c] 28)).cell? ⟨w.heap.size, 3, none⟩ = some (.int .i64 m.f3) := blk_cell (x_alloc_new w _) 3
  have hb6 : (w.alloc (.cells #[.int .i64 m.f0, .int .i64 m.f1, .int .i64 m.f2, .int .i64 m.f3, .int .i64 m.f4, .int .i64 m.f5, .int .i64 m.f6, .slice A m.f7.length c] 28)).cell? ⟨w.heap.size, 6, none⟩ = some (.int .i64 m.f6) := blk_cell (x_alloc_new w _) 6
  have hc5 : (w.alloc (.cells #[.int .i64 m.f0, .int .i64 m.f1, .int .i64 m.f2, .int .i64 m.f3, .int .i64 m.f4, .int .i64 m.f5, .int .i64 m.f6, .slice A m.f7.length c] 28)).cell? ⟨g, 5, none⟩ = some (.int .i64 x.commit) := blk_cell hb 5
  have hc6 : (w.alloc (.cells #[.int .i64 m.f0, .int .i64 m.f1, .int .i64 m.f2, .int .i64 m.f3, .int .i64 m.f4, .int .i64 m.f5, .int .i64 m.f6, .slice A m.f7.length c] 28)).cell? ⟨g, 6, none⟩ = some (.slice A6 x.log.length c6) := blk_cell hb 6
  have hne1 : g ≠ w.heap.size := by have : g < w.heap.size := hlt; omega
  have hne2 : w.heap.size ≠ g := hne1.symm
  have HLQ := Aside0.mk (quiet_leads x (w.alloc (.cells #[.int .i64 m.f0, .int .i64 m.f1, .int .i64 m.f2, .int .i64 m.f3, .int .i64 m.f4, .int .i64 m.f5, .int .i64 m.f6, .slice A m.f7.length c] 28)) g (blk_cell hb 0) (blk_cell hb 1) (blk_cell hb 2) (blk_cell hb 4) hg.view hg.n1)
  rw [hl] at HLQ
  have HG2 := Aside0.mk (counts_good (acked_good hg m))
  have k1 : decide ((x.acked m).counts.commit > x.commit) = true := decide_eq_true hcm
  have k2 : decide (x.commit < (x.acked m).counts.commit) = true := decide_eq_true hcm
  clear hcm
  have g1 : decide (m.f3 > x.view) = false := decide_eq_false hv
  have g2 : decide (x.view < m.f3) = false := decide_eq_false hv
  have hN := HD.out.1
  obtain ⟨v6, v7, v8, v9, P6, P7, P8, P9, hbb, -, hok, h6, h7, h8, h9, ho, a6, a7, a8⟩ := hN
  have hlen : 0 < x.acks.length := by rw [hg.acks]; have := hg.n1; omega
  obtain ⟨ga, d7, rfl, gb7, gl7, cl7, hg7⟩ := Kd.R_form h7 hlen
  have hc7 : (w.alloc (.cells #[.int .i64 m.f0, .int .i64 m.f1, .int .i64 m.f2, .int .i64 m.f3, .int .i64 m.f4, .int .i64 m.f5, .int .i64 m.f6, .slice A m.f7.length c] 28)).cell? ⟨g, 7, none⟩ = some (.slice (some ⟨ga, 0, none⟩) x.acks.length d7) := blk_cell hbb 7
  have HSA := Aside0.mk (fun k => (show Did _ (((w.alloc (.cells #[.int .i64 m.f0, .int .i64 m.f1, .int .i64 m.f2, .int .i64 m.f3, .int .i64 m.f4, .int .i64 m.f5, .int .i64 m.f6, .slice A m.f7.length c] 28)).drewN k).setCell ⟨ga, m.f1.toNat, none⟩ (.int .i64 (max (rdOf 0 x.acks m.f1) (min m.f6 (x.log.length : Int))))) base g _ (x.acked m) from (HD.out.drewN k).set_ack ga x.acks.length d7 (show ((w.alloc (.cells #[.int .i64 m.f0, .int .i64 m.f1, .int .i64 m.f2, .int .i64 m.f3, .int .i64 m.f4, .int .i64 m.f5, .int .i64 m.f6, .slice A m.f7.length c] 28)).drewN k).cell? ⟨g, 7, none⟩ = _ from hc7) m.f1 _))
  have q1 : m.f1 < (x.acks.length : Int) := by rw [hg.acks]; have := hg.n1; omega
  obtain ⟨hx, hfz⟩ := Kd.R_celln (0 : Int) h7 m.f1 hf q1
  have p1 := eq_true hf
  replace q1 := eq_true q1
  have hga1 : ga ≠ g := (ho ga (.inr (.inl (h7.1 ga rfl)))).2
  have hga2 := hga1.symm
  have hga3 : ga ≠ w.heap.size := by
    have h3 := (ho ga (.inr (.inl (h7.1 ga rfl)))).1
    intro e
    rcases h3 with h3 | h3
    · have := h3.2; omega
    · have h4 : ((w.alloc (.cells #[.int .i64 m.f0, .int .i64 m.f1, .int .i64 m.f2, .int .i64 m.f3, .int .i64 m.f4, .int .i64 m.f5, .int .i64 m.f6, .slice A m.f7.length c] 28))).heap.size = w.heap.size + 1 := by simp
      omega
  clear hb hbb h hl hlt hg hf hf2 hv h6 h7 h8 h9 ho a6 a7 a8 hok gb7 gl7 cl7 hg7
  go_enter Try.func24, Try.ntmps24
  go_wp2
  go_quiet ((go_at_call 34; exact Calls.quiet_of (HLQ.out _)))
  go_wp2
  go_region
  go_wp2_with (first | (go_at_call 35; refine (counts_did (x.acked m) (w.alloc (.cells #[.int .i64 m.f0, .int .i64 m.f1, .int .i64 m.f2, .int .i64 m.f3, .int .i64 m.f4, .int .i64 m.f5, .int .i64 m.f6, .slice A m.f7.length c] 28)) _ base g (Okb w0 w ok) (acked_good HG.out m) ?hA).mono ?_; (case hA => exact HSA.out _); rintro e w5 ⟨rfl, h5⟩; have HD5 := Aside0.mk h5; obtain ⟨E6, f6, E7, f7, E8, f8, E9, f9, hbk, -⟩ := h5.blk; have hs5 : w5.cell? ⟨g, 5, none⟩ = some (.int .i64 (x.acked m).counts.commit) := blk_cell hbk 5; clear h5 hbk) | (go_at_call 36; refine (tell_did (x.acked m).counts (w.alloc (.cells #[.int .i64 m.f0, .int .i64 m.f1, .int .i64 m.f2, .int .i64 m.f3, .int .i64 m.f4, .int .i64 m.f5, .int .i64 m.f6, .slice A m.f7.length c] 28)) _ base g (Okb w0 w ok) (by have := HG2.out.n1; omega) HG2.out.n2 HG2.out.told (by have := HG2.out.log; omega) HD5.out).mono ?_; rintro e w6 ⟨rfl, h6⟩; have HD6 := Aside0.mk h6; clear h6))
  all_goals
    go_end0
    exact ⟨rfl, HN.out.unbox HD6.out⟩
set_option maxHeartbeats 8000000 in
set_option maxRecDepth 100000 in
theorem ack_same (x : Nod) (m : S28) (A : Option Addr) (c : Nat) (w0 w : World) (base g : Nat) (ok : Nat → Prop) (hg : Good x) (hf : 0 ≤ m.f1) (hf2 : m.f1 < x.n) (hl : x.leads = true) (hv : ¬ m.f3 > x.view) (hcm : ¬ (x.acked m).counts.commit > x.commit) (h : Did w0 w base g ok x) :
    Calls Try.prog 24 #[.pointer (some ⟨g, 0, none⟩), .agg #[.int .i64 m.f0, .int .i64 m.f1, .int .i64 m.f2, .int .i64 m.f3, .int .i64 m.f4, .int .i64 m.f5, .int .i64 m.f6, .slice A m.f7.length c]] w fun e w' => e = .returned (.tuple #[]) ∧ Did w0 w' base g ok (x.acked m).counts := by
  have hu57 := Try.underlying57
  have hu26 := Try.underlying26
  have hu28 := Try.underlying28
  have HN := Aside0.mk h
  have HG := Aside0.mk hg
  have HD := Aside0.mk (h.boxed (.cells #[.int .i64 m.f0, .int .i64 m.f1, .int .i64 m.f2, .int .i64 m.f3, .int .i64 m.f4, .int .i64 m.f5, .int .i64 m.f6, .slice A m.f7.length c] 28))
  have hlt := h.1.lt
  obtain ⟨A6, c6, A7, c7, A8, c8, A9, c9, hb, -⟩ := HD.out.blk
  have HB := Aside0.mk hb
  have hc1 : (w.alloc (.cells #[.int .i64 m.f0, .int .i64 m.f1, .int .i64 m.f2, .int .i64 m.f3, .int .i64 m.f4, .int .i64 m.f5, .int .i64 m.f6, .slice A m.f7.length c] 28)).cell? ⟨g, 1, none⟩ = some (.int .i64 x.n) := blk_cell hb 1
  have hc2 : (w.alloc (.cells #[.int .i64 m.f0, .int .i64 m.f1, .int .i64 m.f2, .int .i64 m.f3, .int .i64 m.f4, .int .i64 m.f5, .int .i64 m.f6, .slice A m.f7.length c] 28)).cell? ⟨g, 2, none⟩ = some (.int .i64 x.view) := blk_cell hb 2
  have hb1 : (w.alloc (.cells #[.int .i64 m.f0, .int .i64 m.f1, .int .i64 m.f2, .int .i64 m.f3, .int .i64 m.f4, .int .i64 m.f5, .int .i64 m.f6, .slice A m.f7.length c] 28)).cell? ⟨w.heap.size, 1, none⟩ = some (.int .i64 m.f1) := blk_cell (x_alloc_new w _) 1
  have hb3 : (w.alloc (.cells #[.int .i64 m.f0, .int .i64 m.f1, .int .i64 m.f2, .int .i64 m.f3, .int .i64 m.f4, .int .i64 m.f5, .int .i64 m.f6, .slice A m.f7.length c] 28)).cell? ⟨w.heap.size, 3, none⟩ = some (.int .i64 m.f3) := blk_cell (x_alloc_new w _) 3
  have hb6 : (w.alloc (.cells #[.int .i64 m.f0, .int .i64 m.f1, .int .i64 m.f2, .int .i64 m.f3, .int .i64 m.f4, .int .i64 m.f5, .int .i64 m.f6, .slice A m.f7.length c] 28)).cell? ⟨w.heap.size, 6, none⟩ = some (.int .i64 m.f6) := blk_cell (x_alloc_new w _) 6
  have hc5 : (w.alloc (.cells #[.int .i64 m.f0, .int .i64 m.f1, .int .i64 m.f2, .int .i64 m.f3, .int .i64 m.f4, .int .i64 m.f5, .int .i64 m.f6, .slice A m.f7.length c] 28)).cell? ⟨g, 5, none⟩ = some (.int .i64 x.commit) := blk_cell hb 5
  have hc6 : (w.alloc (.cells #[.int .i64 m.f0, .int .i64 m.f1, .int .i64 m.f2, .int .i64 m.f3, .int .i64 m.f4, .int .i64 m.f5, .int .i64 m.f6, .slice A m.f7.length c] 28)).cell? ⟨g, 6, none⟩ = some (.slice A6 x.log.length c6) := blk_cell hb 6
  have hne1 : g ≠ w.heap.size := by have : g < w.heap.size := hlt; omega
  have hne2 : w.heap.size ≠ g := hne1.symm
  have HLQ := Aside0.mk (quiet_leads x (w.alloc (.cells #[.int .i64 m.f0, .int .i64 m.f1, .int .i64 m.f2, .int .i64 m.f3, .int .i64 m.f4, .int .i64 m.f5, .int .i64 m.f6, .slice A m.f7.length c] 28)) g (blk_cell hb 0) (blk_cell hb 1) (blk_cell hb 2) (blk_cell hb 4) hg.view hg.n1)
  rw [hl] at HLQ
  have HG2 := Aside0.mk (counts_good (acked_good hg m))
  have k1 : decide ((x.acked m).counts.commit > x.commit) = false := decide_eq_false hcm
  have k2 : decide (x.commit < (x.acked m).counts.commit) = false := decide_eq_false hcm
  clear hcm
  have g1 : decide (m.f3 > x.view) = false := decide_eq_false hv
  have g2 : decide (x.view < m.f3) = false := decide_eq_false hv
  have hN := HD.out.1
  obtain ⟨v6, v7, v8, v9, P6, P7, P8, P9, hbb, -, hok, h6, h7, h8, h9, ho, a6, a7, a8⟩ := hN
  have hlen : 0 < x.acks.length := by rw [hg.acks]; have := hg.n1; omega
  obtain ⟨ga, d7, rfl, gb7, gl7, cl7, hg7⟩ := Kd.R_form h7 hlen
  have hc7 : (w.alloc (.cells #[.int .i64 m.f0, .int .i64 m.f1, .int .i64 m.f2, .int .i64 m.f3, .int .i64 m.f4, .int .i64 m.f5, .int .i64 m.f6, .slice A m.f7.length c] 28)).cell? ⟨g, 7, none⟩ = some (.slice (some ⟨ga, 0, none⟩) x.acks.length d7) := blk_cell hbb 7
  have HSA := Aside0.mk (fun k => (show Did _ (((w.alloc (.cells #[.int .i64 m.f0, .int .i64 m.f1, .int .i64 m.f2, .int .i64 m.f3, .int .i64 m.f4, .int .i64 m.f5, .int .i64 m.f6, .slice A m.f7.length c] 28)).drewN k).setCell ⟨ga, m.f1.toNat, none⟩ (.int .i64 (max (rdOf 0 x.acks m.f1) (min m.f6 (x.log.length : Int))))) base g _ (x.acked m) from (HD.out.drewN k).set_ack ga x.acks.length d7 (show ((w.alloc (.cells #[.int .i64 m.f0, .int .i64 m.f1, .int .i64 m.f2, .int .i64 m.f3, .int .i64 m.f4, .int .i64 m.f5, .int .i64 m.f6, .slice A m.f7.length c] 28)).drewN k).cell? ⟨g, 7, none⟩ = _ from hc7) m.f1 _))
  have q1 : m.f1 < (x.acks.length : Int) := by rw [hg.acks]; have := hg.n1; omega
  obtain ⟨hx, hfz⟩ := Kd.R_celln (0 : Int) h7 m.f1 hf q1
  have p1 := eq_true hf
  replace q1 := eq_true q1
  have hga1 : ga ≠ g := (ho ga (.inr (.inl (h7.1 ga rfl)))).2
  have hga2 := hga1.symm
  have hga3 : ga ≠ w.heap.size := by
    have h3 := (ho ga (.inr (.inl (h7.1 ga rfl)))).1
    intro e
    rcases h3 with h3 | h3
    · have := h3.2; omega
    · have h4 : ((w.alloc (.cells #[.int .i64 m.f0, .int .i64 m.f1, .int .i64 m.f2, .int .i64 m.f3, .int .i64 m.f4, .int .i64 m.f5, .int .i64 m.f6, .slice A m.f7.length c] 28))).heap.size = w.heap.size + 1 := by simp
      omega
  clear hb hbb h hl hlt hg hf hf2 hv h6 h7 h8 h9 ho a6 a7 a8 hok gb7 gl7 cl7 hg7
  go_enter Try.func24, Try.ntmps24
  go_wp2
  go_quiet ((go_at_call 34; exact Calls.quiet_of (HLQ.out _)))
  go_wp2
  go_region
  go_wp2_with (first | (go_at_call 35; refine (counts_did (x.acked m) (w.alloc (.cells #[.int .i64 m.f0, .int .i64 m.f1, .int .i64 m.f2, .int .i64 m.f3, .int .i64 m.f4, .int .i64 m.f5, .int .i64 m.f6, .slice A m.f7.length c] 28)) _ base g (Okb w0 w ok) (acked_good HG.out m) ?hA).mono ?_; (case hA => exact HSA.out _); rintro e w5 ⟨rfl, h5⟩; have HD5 := Aside0.mk h5; obtain ⟨E6, f6, E7, f7, E8, f8, E9, f9, hbk, -⟩ := h5.blk; have hs5 : w5.cell? ⟨g, 5, none⟩ = some (.int .i64 (x.acked m).counts.commit) := blk_cell hbk 5; clear h5 hbk))
  all_goals
    go_end0
    exact ⟨rfl, HN.out.unbox HD5.out⟩
theorem ack_did (x : Nod) (m : S28) (A : Option Addr) (c : Nat) (w0 w : World) (base g : Nat) (ok : Nat → Prop) (hg : Good x) (hf : 0 ≤ m.f1) (hf2 : m.f1 < x.n) (h : Did w0 w base g ok x) :
    Calls Try.prog 24 #[.pointer (some ⟨g, 0, none⟩), .agg #[.int .i64 m.f0, .int .i64 m.f1, .int .i64 m.f2, .int .i64 m.f3, .int .i64 m.f4, .int .i64 m.f5, .int .i64 m.f6, .slice A m.f7.length c]] w fun e w' => e = .returned (.tuple #[]) ∧ Did w0 w' base g ok (x.ack m) := by
  unfold Nod.ack
  cases hl : x.leads with
  | false =>
    rw [if_neg (by simp)]
    exact ack_not x m A c w0 w base g ok hg hf hf2 hl h
  | true =>
    by_cases hv : m.f3 > x.view
    · rw [if_neg (by omega)]
      exact ack_later x m A c w0 w base g ok hg hf hf2 hl hv h
    · rw [if_pos ⟨rfl, by omega⟩]
      by_cases hcm : (x.acked m).counts.commit > x.commit
      · rw [if_pos hcm]
        exact ack_more x m A c w0 w base g ok hg hf hf2 hl hv hcm h
      · rw [if_neg hcm]
        exact ack_same x m A c w0 w base g ok hg hf hf2 hl hv hcm h
end Go.Proofs.Ytfpfpckocemmdaa.P
end
section
namespace Go.Proofs.Ytfpfpckocemmdaa.P
open Go.RowKit Go.Proofs.YtfpfpckocemmdaaW.PrintWords Go.Proofs.YtfpfpckocemmdaaW.PrintLast Go.Proofs.YtfpfpckocemmdaaW.PrintMore
set_option linter.unusedVariables false
set_option linter.unusedSimpArgs false
set_option maxHeartbeats 8000000 in
set_option maxRecDepth 100000 in
theorem vote_works (x : Nod) (m : S28) (A : Option Addr) (c : Nat) (w0 w : World) (base g : Nat) (ok : Nat → Prop) (hg : Good x) (hk : m.f0 = 3) (hf : 0 ≤ m.f1) (hf2 : m.f1 < x.n) (hmv : 0 ≤ m.f3) (hvl : x.votes.length ≤ 900) (hc : m.f7.length ≤ c) (hl : m.f7.length ≤ 1000) (hM : ∀ W, Below base w0 W → Kd.C Kd.string W A m.f7.length m.f7) (hp : x.prim m.f3 = true) (hv : ¬ m.f3 > x.view) (hw : x.works = true) (h : Did w0 w base g ok x) :
    Calls Try.prog 25 #[.pointer (some ⟨g, 0, none⟩), .agg #[.int .i64 m.f0, .int .i64 m.f1, .int .i64 m.f2, .int .i64 m.f3, .int .i64 m.f4, .int .i64 m.f5, .int .i64 m.f6, .slice A m.f7.length c]] w fun e w' => e = .returned (.tuple #[]) ∧ Did w0 w' base g ok (x.say (x.prep m.f1)) := by
  have hu57 := Try.underlying57
  have hu26 := Try.underlying26
  have hu28 := Try.underlying28
  have hu66 := Try.underlying66
  have HN := Aside0.mk h
  have HG := Aside0.mk hg
  have HD := Aside0.mk (h.boxed (.cells #[.int .i64 m.f0, .int .i64 m.f1, .int .i64 m.f2, .int .i64 m.f3, .int .i64 m.f4, .int .i64 m.f5, .int .i64 m.f6, .slice A m.f7.length c] 28))
  have HM := Aside0.mk hM
  have HCC := Aside0.mk hc
  have HL := Aside0.mk hl
  have HK := Aside0.mk hk
  have HF := Aside0.mk (And.intro hf hf2)
  have HMV := Aside0.mk hmv
  have HVL := Aside0.mk hvl
  have hlt := h.1.lt
  obtain ⟨A6, c6, A7, c7, A8, c8, A9, c9, hb, -⟩ := HD.out.blk
  have HB := Aside0.mk hb
  have hc2 : (w.alloc (.cells #[.int .i64 m.f0, .int .i64 m.f1, .int .i64 m.f2, .int .i64 m.f3, .int .i64 m.f4, .int .i64 m.f5, .int .i64 m.f6, .slice A m.f7.length c] 28)).cell? ⟨g, 2, none⟩ = some (.int .i64 x.view) := blk_cell hb 2
  have hc4 : (w.alloc (.cells #[.int .i64 m.f0, .int .i64 m.f1, .int .i64 m.f2, .int .i64 m.f3, .int .i64 m.f4, .int .i64 m.f5, .int .i64 m.f6, .slice A m.f7.length c] 28)).cell? ⟨g, 4, none⟩ = some (.bool x.works) := blk_cell hb 4
  have hb3 : (w.alloc (.cells #[.int .i64 m.f0, .int .i64 m.f1, .int .i64 m.f2, .int .i64 m.f3, .int .i64 m.f4, .int .i64 m.f5, .int .i64 m.f6, .slice A m.f7.length c] 28)).cell? ⟨w.heap.size, 3, none⟩ = some (.int .i64 m.f3) := blk_cell (x_alloc_new w _) 3
  have hne1 : g ≠ w.heap.size := by have : g < w.heap.size := hlt; omega
  have hne2 : w.heap.size ≠ g := hne1.symm
  have HP := Aside0.mk (primary_calls x m.f3 (w.alloc (.cells #[.int .i64 m.f0, .int .i64 m.f1, .int .i64 m.f2, .int .i64 m.f3, .int .i64 m.f4, .int .i64 m.f5, .int .i64 m.f6, .slice A m.f7.length c] 28)) g (blk_cell hb 0) (blk_cell hb 1) hmv hg.n1)
  rw [hp] at HP
  rw [hw] at hc4
  have g1 : decide (m.f3 > x.view) = false := decide_eq_false hv
  have g2 : decide (x.view < m.f3) = false := decide_eq_false hv
  clear hp hv hw
  clear hb h hlt hg hk hf hf2 hmv hvl hc hl hM
  go_enter Try.func25, Try.ntmps25
  go_wp2_with (first | (go_at_call 47; refine HP.out.mono ?_; rintro e w' ⟨rfl, ⟨nd, rfl⟩⟩))
  go_region
  go_wp2
  have HD5 := Aside0.mk (HD.out.drewN (nd + 1))
  clear hc2 hc4 hb3
  generalize hW5 : (w.alloc (.cells #[.int .i64 m.f0, .int .i64 m.f1, .int .i64 m.f2, .int .i64 m.f3, .int .i64 m.f4, .int .i64 m.f5, .int .i64 m.f6, .slice A m.f7.length c] 28)).drewN (nd + 1) = w5 at *
  clear hW5
  have HBX5 := Aside0.mk HD5.out.box
  obtain ⟨E6, f6, E7, f7, E8, f8, E9, f9, hbk, he6, hC6, -⟩ := HD5.out.blk
  have HBK5 := Aside0.mk hbk
  have HC6 := Aside0.mk hC6
  have HE6 := Aside0.mk he6
  have hs0 : w5.cell? ⟨g, 0, none⟩ = some (.int .i64 x.id) := blk_cell hbk 0
  have hs2 : w5.cell? ⟨g, 2, none⟩ = some (.int .i64 x.view) := blk_cell hbk 2
  have hs5 : w5.cell? ⟨g, 5, none⟩ = some (.int .i64 x.commit) := blk_cell hbk 5
  have hs6 : w5.cell? ⟨g, 6, none⟩ = some (.slice E6 x.log.length f6) := blk_cell hbk 6
  have hs9 : w5.cell? ⟨g, 9, none⟩ = some (.slice E9 x.told.length f9) := blk_cell hbk 9
  have hx1 : w5.cell? ⟨w.heap.size, 1, none⟩ = some (.int .i64 m.f1) := blk_cell HBX5.out 1
  have HC9 := Aside0.mk (show w5.drew.cell? ⟨g, 9, none⟩ = _ from hs9)
  have HTI := Aside0.mk (show x.told.length ≤ 100000 by have := HG.out.told; omega)
  have HBKD := Aside0.mk (show w5.drew.heap[g]? = some _ from hbk)
  have HBXD := Aside0.mk (show w5.drew.heap[w.heap.size]? = some _ from HBX5.out)
  have HNE := Aside0.mk hne1
  have HPR := Aside0.mk (prepare_of x.id m.f1 x.view x.commit x.log (by have := HG.out.log; omega))
  clear hbk hC6 he6
  rw [ldTold_eq 31]
  go_region_held3 (fun W => W.cell? ⟨g, 0, none⟩ = some (.int .i64 x.id) ∧ W.cell? ⟨g, 2, none⟩ = some (.int .i64 x.view) ∧ W.cell? ⟨g, 5, none⟩ = some (.int .i64 x.commit) ∧ W.cell? ⟨g, 6, none⟩ = some (.slice E6 x.log.length f6) ∧ W.cell? ⟨w.heap.size, 1, none⟩ = some (.int .i64 m.f1))
    (first
      | exact ⟨hs0, hs2, hs5, hs6, hx1⟩
      | exact ⟨blk_cell HBK8.out 0, blk_cell HBK8.out 2, blk_cell HBK8.out 5, blk_cell HBK8.out 6, blk_cell HBX8.out 1⟩
      | exact ⟨blk_cell (blk_alloc HBK8.out _) 0, blk_cell (blk_alloc HBK8.out _) 2, blk_cell (blk_alloc HBK8.out _) 5, blk_cell (blk_alloc HBK8.out _) 6, blk_cell (blk_alloc HBX8.out _) 1⟩
      | exact ⟨blk_cell HBK4.out 0, blk_cell HBK4.out 2, blk_cell HBK4.out 5, blk_cell HBK4.out 6, blk_cell HBX4.out 1⟩
      | exact ⟨blk_cell HBKZ.out 0, blk_cell HBKZ.out 2, blk_cell HBKZ.out 5, blk_cell HBKZ.out 6, blk_cell HBXZ.out 1⟩)
    (first
      | (refine x_step_call rfl Try.func48 (by kernel_rfl) rfl #[.int .i64 x.id, .int .i64 m.f1, .int .i64 x.view, .int .i64 x.commit, .slice E6 x.log.length f6] rfl (by simp [Act.eval, Act.put]) ?_; refine (msg_Prepare.calls x.id m.f1 x.view x.commit E6 f6 x.log 1 x.id m.f1 x.view 0 x.commit 0 x.log w5.drew (Kd.C_drew HC6.out) HE6.out HPR.out).mono ?_; rintro e w8 ⟨v7, rfl, hR, hb8⟩; have HB8 := Aside0.mk hb8; obtain ⟨AR, cR, eR⟩ := Kd.R_slice hR; subst eR; have HR := Aside0.mk hR; have HBK8 := Aside0.mk ((hb8.block g (blk_lt HBKD.out)).trans HBKD.out); have HBX8 := Aside0.mk ((hb8.block w.heap.size (blk_lt HBXD.out)).trans HBXD.out); have hs9' : ∀ o, (w8.alloc o).cell? ⟨g, 9, none⟩ = some (.slice E9 x.told.length f9) := fun o => blk_cell (blk_alloc HBK8.out o) 9; have hs9'' : w8.cell? ⟨g, 9, none⟩ = some (.slice E9 x.told.length f9) := blk_cell HBK8.out 9; clear hb8 hR; refine ⟨_, rfl, ?_⟩)
      | (refine say_step (x.prep m.f1) E9 f9 AR cR (HD5.out.drew) HB8.out (HC9.out) HR.out HTI.out rfl (.tmp 32) (.tmp 56) rfl rfl rfl ?_; intro v1 w9 hd9 hg9 hv9; obtain ⟨A1, c1, rfl⟩ := hv9; have HD9 := Aside0.mk hd9; have HBK4 := Aside0.mk (hg9.trans HBKD.out); have HBX4 := Aside0.mk ((blk_far_inv (p := ⟨g, 9, none⟩) hd9.box HNE.out.symm)); have HBXZ := Aside0.mk hd9.box; have HBKZ := Aside0.mk (blk_put (cs' := x.cells (.slice E6 x.log.length f6) (.slice E7 x.acks.length f7) (.slice E8 x.votes.length f8) (.slice A1 (x.say (x.prep m.f1)).told.length c1)) HBK4.out 9 (.slice A1 (x.say (x.prep m.f1)).told.length c1) rfl); have hr9 : w9.cell? ⟨g, 9, none⟩ = some (.slice E9 x.told.length f9) := blk_cell HBK4.out 9; have hf9 : w9.frozen? ⟨g, 9, none⟩ = false := blk_frozen HBK4.out 9; clear hd9 hg9))
  all_goals
    go_wp2
    refine bodyPost_ret (results_none rfl _ _ _) rfl ?_
    exact ⟨rfl, HN.out.unbox HD9.out⟩
end Go.Proofs.Ytfpfpckocemmdaa.P
end
section
namespace Go.Proofs.Ytfpfpckocemmdaa.P
open Go.RowKit Go.Proofs.YtfpfpckocemmdaaW.PrintWords Go.Proofs.YtfpfpckocemmdaaW.PrintLast Go.Proofs.YtfpfpckocemmdaaW.PrintMore
set_option linter.unusedVariables false
set_option linter.unusedSimpArgs false
set_option maxHeartbeats 8000000 in
set_option maxRecDepth 100000 in
theorem vote_waits (x : Nod) (m : S28) (A : Option Addr) (c : Nat) (w0 w : World) (base g : Nat) (ok : Nat → Prop) (hg : Good x) (hk : m.f0 = 3) (hf : 0 ≤ m.f1) (hf2 : m.f1 < x.n) (hmv : 0 ≤ m.f3) (hvl : x.votes.length ≤ 900) (hc : m.f7.length ≤ c) (hl : m.f7.length ≤ 1000) (hM : ∀ W, Below base w0 W → Kd.C Kd.string W A m.f7.length m.f7) (hp : x.prim m.f3 = true) (hv : ¬ m.f3 > x.view) (hw : x.works = false) (h : Did w0 w base g ok x) :
    Calls Try.prog 25 #[.pointer (some ⟨g, 0, none⟩), .agg #[.int .i64 m.f0, .int .i64 m.f1, .int .i64 m.f2, .int .i64 m.f3, .int .i64 m.f4, .int .i64 m.f5, .int .i64 m.f6, .slice A m.f7.length c]] w fun e w' => e = .returned (.tuple #[]) ∧ Did w0 w' base g ok (x.votedFor m) := by
  have hu57 := Try.underlying57
  have hu26 := Try.underlying26
  have hu28 := Try.underlying28
  have hu66 := Try.underlying66
  have HN := Aside0.mk h
  have HG := Aside0.mk hg
  have HD := Aside0.mk (h.boxed (.cells #[.int .i64 m.f0, .int .i64 m.f1, .int .i64 m.f2, .int .i64 m.f3, .int .i64 m.f4, .int .i64 m.f5, .int .i64 m.f6, .slice A m.f7.length c] 28))
  have HM := Aside0.mk hM
  have HCC := Aside0.mk hc
  have HL := Aside0.mk hl
  have HK := Aside0.mk hk
  have HF := Aside0.mk (And.intro hf hf2)
  have HMV := Aside0.mk hmv
  have HVL := Aside0.mk hvl
  have hlt := h.1.lt
  obtain ⟨A6, c6, A7, c7, A8, c8, A9, c9, hb, -⟩ := HD.out.blk
  have HB := Aside0.mk hb
  have hc2 : (w.alloc (.cells #[.int .i64 m.f0, .int .i64 m.f1, .int .i64 m.f2, .int .i64 m.f3, .int .i64 m.f4, .int .i64 m.f5, .int .i64 m.f6, .slice A m.f7.length c] 28)).cell? ⟨g, 2, none⟩ = some (.int .i64 x.view) := blk_cell hb 2
  have hc4 : (w.alloc (.cells #[.int .i64 m.f0, .int .i64 m.f1, .int .i64 m.f2, .int .i64 m.f3, .int .i64 m.f4, .int .i64 m.f5, .int .i64 m.f6, .slice A m.f7.length c] 28)).cell? ⟨g, 4, none⟩ = some (.bool x.works) := blk_cell hb 4
  have hb3 : (w.alloc (.cells #[.int .i64 m.f0, .int .i64 m.f1, .int .i64 m.f2, .int .i64 m.f3, .int .i64 m.f4, .int .i64 m.f5, .int .i64 m.f6, .slice A m.f7.length c] 28)).cell? ⟨w.heap.size, 3, none⟩ = some (.int .i64 m.f3) := blk_cell (x_alloc_new w _) 3
  have hne1 : g ≠ w.heap.size := by have : g < w.heap.size := hlt; omega
  have hne2 : w.heap.size ≠ g := hne1.symm
  have HP := Aside0.mk (primary_calls x m.f3 (w.alloc (.cells #[.int .i64 m.f0, .int .i64 m.f1, .int .i64 m.f2, .int .i64 m.f3, .int .i64 m.f4, .int .i64 m.f5, .int .i64 m.f6, .slice A m.f7.length c] 28)) g (blk_cell hb 0) (blk_cell hb 1) hmv hg.n1)
  rw [hp] at HP
  rw [hw] at hc4
  have g1 : decide (m.f3 > x.view) = false := decide_eq_false hv
  have g2 : decide (x.view < m.f3) = false := decide_eq_false hv
  clear hp hv hw
  clear hb h hlt hg hk hf hf2 hmv hvl hc hl hM
  go_enter Try.func25, Try.ntmps25
  go_wp2_with (first | (go_at_call 47; refine HP.out.mono ?_; rintro e w' ⟨rfl, ⟨nd, rfl⟩⟩))
  go_region
  go_wp2_with (fail)
  have HD6 := Aside0.mk (HD.out.drewN (nd + 1))
  clear hc2 hc4 hb3
  generalize hW6 : (w.alloc (.cells #[.int .i64 m.f0, .int .i64 m.f1, .int .i64 m.f2, .int .i64 m.f3, .int .i64 m.f4, .int .i64 m.f5, .int .i64 m.f6, .slice A m.f7.length c] 28)).drewN (nd + 1) = w6 at *
  clear hW6
  obtain ⟨y, hy⟩ : ∃ y, y = x := ⟨_, rfl⟩
  have HGY := Aside0.mk (show Good y by rw [hy]; exact HG.out)
  have HYL := Aside0.mk (show y.votes.length ≤ 900 by rw [hy]; exact HVL.out)
  rw [← hy] at HD6
  have HZ := Aside0.mk (show ∀ {W : World}, Did w0 W base g ok (y.votedFor m) → Did w0 W base g ok (x.votedFor m) by rw [hy]; exact fun h => h)
  clear hy
  have HBX6 := Aside0.mk HD6.out.box
  obtain ⟨E6, f6, E7, f7, E8, f8, E9, f9, hbk, he6, hC6, he7, hC7, he8, hC8, -⟩ := HD6.out.blk
  have HBK6 := Aside0.mk hbk
  have HC8 := Aside0.mk hC8
  have HE8 := Aside0.mk he8
  have HADD := Aside0.mk (add_of y.votes (voteOf m) HGY.out.votes HL.out (fun v hv => (HGY.out.each v hv).2.2))
  have HGZ := Aside0.mk (add_good HGY.out (voteOf m) HYL.out ⟨HF.out.1, by have h1 := HF.out.2; have h2 := HG.out.n2; show m.f1 ≤ 1000; omega, HL.out⟩)
  clear hbk he6 hC6 he7 hC7 he8 hC8
  have hx0 : w6.cell? ⟨w.heap.size, 0, none⟩ = some (.int .i64 m.f0) := blk_cell HBX6.out 0
  have hx1 : w6.cell? ⟨w.heap.size, 1, none⟩ = some (.int .i64 m.f1) := blk_cell HBX6.out 1
  have hx2 : w6.cell? ⟨w.heap.size, 2, none⟩ = some (.int .i64 m.f2) := blk_cell HBX6.out 2
  have hx3 : w6.cell? ⟨w.heap.size, 3, none⟩ = some (.int .i64 m.f3) := blk_cell HBX6.out 3
  have hx4 : w6.cell? ⟨w.heap.size, 4, none⟩ = some (.int .i64 m.f4) := blk_cell HBX6.out 4
  have hx5 : w6.cell? ⟨w.heap.size, 5, none⟩ = some (.int .i64 m.f5) := blk_cell HBX6.out 5
  have hx6 : w6.cell? ⟨w.heap.size, 6, none⟩ = some (.int .i64 m.f6) := blk_cell HBX6.out 6
  have hx7 : w6.cell? ⟨w.heap.size, 7, none⟩ = some (.slice A m.f7.length c) := blk_cell HBX6.out 7
  go_wp2_with (first | (go_at_call 49; refine (vote_calls m A c _ HK.out HCC.out (HN.out.reads HM.out HD6.out) (by have := HL.out; omega)).mono ?_; rintro e w7 ⟨v7, rfl, hR7, hb7⟩; obtain ⟨A7, c7', rfl⟩ := Kd.R_slice hR7; have HR7 := Aside0.mk hR7; have HB7 := Aside0.mk hb7; clear hR7 hb7))
  have HD8 := Aside0.mk ((HD6.out.below HB7.out).alloc (.cells #[.int .i64 m.f1, .int .i64 m.f4, .int .i64 m.f5, .slice A7 m.f7.length c7'] 66))
  have HBV8 := Aside0.mk (x_alloc_new w7 (.cells #[.int .i64 m.f1, .int .i64 m.f4, .int .i64 m.f5, .slice A7 m.f7.length c7'] 66))
  have HRR := Kd.R_reads' HR7.out
  have HCV := Aside0.mk (Kd.C_alloc HRR.2.2 (.cells #[.int .i64 m.f1, .int .i64 m.f4, .int .i64 m.f5, .slice A7 m.f7.length c7'] 66))
  have HEV := Aside0.mk HRR.2.1
  have HC88 := Aside0.mk (Kd.C_alloc (Kd.C_below HC8.out HB7.out) (.cells #[.int .i64 m.f1, .int .i64 m.f4, .int .i64 m.f5, .slice A7 m.f7.length c7'] 66))
  have HBK8 := Aside0.mk (blk_alloc ((HB7.out.block g (blk_lt HBK6.out)).trans HBK6.out) (.cells #[.int .i64 m.f1, .int .i64 m.f4, .int .i64 m.f5, .slice A7 m.f7.length c7'] 66))
  have hnv1 : g ≠ w7.heap.size := by have h1 := blk_lt HBK6.out; have h2 := HB7.out.size; omega
  have HNV := Aside0.mk hnv1
  have hnv2 := hnv1.symm
  clear HRR hx0 hx1 hx2 hx3 hx4 hx5 hx6 hx7
  generalize hW8 : w7.alloc (.cells #[.int .i64 m.f1, .int .i64 m.f4, .int .i64 m.f5, .slice A7 m.f7.length c7'] 66) = w8 at *
  generalize hgv : w7.heap.size = gv at *
  clear hW8
  have hy0 : w8.cell? ⟨gv, 0, none⟩ = some (.int .i64 m.f1) := blk_cell HBV8.out 0
  have hy1 : w8.cell? ⟨gv, 1, none⟩ = some (.int .i64 m.f4) := blk_cell HBV8.out 1
  have hy2 : w8.cell? ⟨gv, 2, none⟩ = some (.int .i64 m.f5) := blk_cell HBV8.out 2
  have hy3 : w8.cell? ⟨gv, 3, none⟩ = some (.slice A7 m.f7.length c7') := blk_cell HBV8.out 3
  have hs8 : w8.cell? ⟨g, 8, none⟩ = some (.slice E8 y.votes.length f8) := blk_cell HBK8.out 8
  rw [ldVotes_eq 69]
  go_region_held3 (fun W => W.cell? ⟨gv, 0, none⟩ = some (.int .i64 m.f1) ∧ W.cell? ⟨gv, 1, none⟩ = some (.int .i64 m.f4) ∧ W.cell? ⟨gv, 2, none⟩ = some (.int .i64 m.f5) ∧ W.cell? ⟨gv, 3, none⟩ = some (.slice A7 m.f7.length c7'))
    (first
      | exact ⟨hy0, hy1, hy2, hy3⟩
      | exact ⟨blk_cell HBV9.out 0, blk_cell HBV9.out 1, blk_cell HBV9.out 2, blk_cell HBV9.out 3⟩
      | exact ⟨blk_cell HBVZ.out 0, blk_cell HBVZ.out 1, blk_cell HBVZ.out 2, blk_cell HBVZ.out 3⟩)
    (first
      | (refine x_step_call rfl Try.func40 (by kernel_rfl) rfl #[.slice E8 y.votes.length f8, .agg #[.int .i64 m.f1, .int .i64 m.f4, .int .i64 m.f5, .slice A7 m.f7.length c7']] rfl (by simp [Act.eval, Act.put]) ?_; refine (quorum_Add.calls (y.votes.length + 1) E8 f8 y.votes m.f1 m.f4 m.f5 A7 c7' m.f7 _ w8.drew (Kd.C_drew HC88.out) HE8.out (Kd.C_drew HCV.out) HEV.out HADD.out).mono ?_; rintro e w9 ⟨v9, rfl, hS9, hb9⟩; obtain ⟨A9', c9', rfl⟩ := Kd.S_slice hS9; have HD9 := Aside0.mk (HD8.out.drew.set_votes hb9 (Nat.le_refl _) hS9); have HBV9 := Aside0.mk ((hb9.block gv (blk_lt HBV8.out)).trans HBV8.out); have HBK9 := Aside0.mk ((hb9.block g (blk_lt HBK8.out)).trans HBK8.out); have HBVZ := Aside0.mk (blk_far (p := ⟨g, 8, none⟩) HBV9.out HNV.out.symm (.slice A9' (addTo y.votes (voteOf m)).length c9')); have hr8 : w9.cell? ⟨g, 8, none⟩ = some (.slice E8 y.votes.length f8) := blk_cell HBK9.out 8; have hf8 : w9.frozen? ⟨g, 8, none⟩ = false := blk_frozen HBK9.out 8; clear hS9 hb9; refine ⟨_, rfl, ?_⟩))
  all_goals
    go_wp2_with (first | (go_at_call 30; refine (begin_did2 { y with votes := addTo y.votes (voteOf m) } _ _ base g (Okb w0 w ok) HGZ.out HD9.out).mono ?_; rintro e w10 ⟨rfl, h10⟩; have HD10 := Aside0.mk h10; clear h10))
    go_end0
    exact ⟨rfl, HZ.out (HN.out.unbox HD10.out)⟩
end Go.Proofs.Ytfpfpckocemmdaa.P
end
section
namespace Go.Proofs.Ytfpfpckocemmdaa.P
open Go.RowKit Go.Proofs.YtfpfpckocemmdaaW.PrintWords Go.Proofs.YtfpfpckocemmdaaW.PrintLast Go.Proofs.YtfpfpckocemmdaaW.PrintMore
set_option linter.unusedVariables false
set_option linter.unusedSimpArgs false
set_option maxHeartbeats 8000000 in
set_option maxRecDepth 100000 in
theorem vote_joins (x : Nod) (m : S28) (A : Option Addr) (c : Nat) (w0 w : World) (base g : Nat) (ok : Nat → Prop) (hg : Good x) (hk : m.f0 = 3) (hf : 0 ≤ m.f1) (hf2 : m.f1 < x.n) (hmv : 0 ≤ m.f3) (hvl : x.votes.length ≤ 900) (hc : m.f7.length ≤ c) (hl : m.f7.length ≤ 1000) (hM : ∀ W, Below base w0 W → Kd.C Kd.string W A m.f7.length m.f7) (hp : x.prim m.f3 = true) (hv : m.f3 > x.view) (h : Did w0 w base g ok x) :
    Calls Try.prog 25 #[.pointer (some ⟨g, 0, none⟩), .agg #[.int .i64 m.f0, .int .i64 m.f1, .int .i64 m.f2, .int .i64 m.f3, .int .i64 m.f4, .int .i64 m.f5, .int .i64 m.f6, .slice A m.f7.length c]] w fun e w' => e = .returned (.tuple #[]) ∧ Did w0 w' base g ok ((x.joins m.f3).votedFor m) := by
  have hu57 := Try.underlying57
  have hu26 := Try.underlying26
  have hu28 := Try.underlying28
  have hu66 := Try.underlying66
  have HN := Aside0.mk h
  have HG := Aside0.mk hg
  have HD := Aside0.mk (h.boxed (.cells #[.int .i64 m.f0, .int .i64 m.f1, .int .i64 m.f2, .int .i64 m.f3, .int .i64 m.f4, .int .i64 m.f5, .int .i64 m.f6, .slice A m.f7.length c] 28))
  have HM := Aside0.mk hM
  have HCC := Aside0.mk hc
  have HL := Aside0.mk hl
  have HK := Aside0.mk hk
  have HF := Aside0.mk (And.intro hf hf2)
  have HMV := Aside0.mk hmv
  have HVL := Aside0.mk hvl
  have hlt := h.1.lt
  obtain ⟨A6, c6, A7, c7, A8, c8, A9, c9, hb, -⟩ := HD.out.blk
  have HB := Aside0.mk hb
  have hc2 : (w.alloc (.cells #[.int .i64 m.f0, .int .i64 m.f1, .int .i64 m.f2, .int .i64 m.f3, .int .i64 m.f4, .int .i64 m.f5, .int .i64 m.f6, .slice A m.f7.length c] 28)).cell? ⟨g, 2, none⟩ = some (.int .i64 x.view) := blk_cell hb 2
  have hc4 : (w.alloc (.cells #[.int .i64 m.f0, .int .i64 m.f1, .int .i64 m.f2, .int .i64 m.f3, .int .i64 m.f4, .int .i64 m.f5, .int .i64 m.f6, .slice A m.f7.length c] 28)).cell? ⟨g, 4, none⟩ = some (.bool x.works) := blk_cell hb 4
  have hb3 : (w.alloc (.cells #[.int .i64 m.f0, .int .i64 m.f1, .int .i64 m.f2, .int .i64 m.f3, .int .i64 m.f4, .int .i64 m.f5, .int .i64 m.f6, .slice A m.f7.length c] 28)).cell? ⟨w.heap.size, 3, none⟩ = some (.int .i64 m.f3) := blk_cell (x_alloc_new w _) 3
  have hne1 : g ≠ w.heap.size := by have : g < w.heap.size := hlt; omega
  have hne2 : w.heap.size ≠ g := hne1.symm
  have HP := Aside0.mk (primary_calls x m.f3 (w.alloc (.cells #[.int .i64 m.f0, .int .i64 m.f1, .int .i64 m.f2, .int .i64 m.f3, .int .i64 m.f4, .int .i64 m.f5, .int .i64 m.f6, .slice A m.f7.length c] 28)) g (blk_cell hb 0) (blk_cell hb 1) hmv hg.n1)
  rw [hp] at HP
  have g1 : decide (m.f3 > x.view) = true := decide_eq_true hv
  have g2 : decide (x.view < m.f3) = true := decide_eq_true hv
  clear hp hv
  clear hb h hlt hg hk hf hf2 hmv hvl hc hl hM
  go_enter Try.func25, Try.ntmps25
  go_wp2_with (first | (go_at_call 47; refine HP.out.mono ?_; rintro e w' ⟨rfl, ⟨nd, rfl⟩⟩))
  go_region
  go_wp2_with (first | (go_at_call 29; refine (joins_did x m.f3 (w.alloc (.cells #[.int .i64 m.f0, .int .i64 m.f1, .int .i64 m.f2, .int .i64 m.f3, .int .i64 m.f4, .int .i64 m.f5, .int .i64 m.f6, .slice A m.f7.length c] 28)) _ base g (Okb w0 w ok) HG.out (HD.out.drewN _)).mono ?_; rintro e w6 ⟨rfl, h6⟩; have HD6 := Aside0.mk h6; obtain ⟨D6, d6, D7, d7, D8, d8, D9, d9, hbj, -⟩ := h6.blk; have hj4 : w6.cell? ⟨g, 4, none⟩ = some (.bool false) := blk_cell hbj 4; have hi0 : w6.cell? ⟨w.heap.size, 0, none⟩ = some (.int .i64 m.f0) := blk_cell h6.box 0; have hi1 : w6.cell? ⟨w.heap.size, 1, none⟩ = some (.int .i64 m.f1) := blk_cell h6.box 1; have hi2 : w6.cell? ⟨w.heap.size, 2, none⟩ = some (.int .i64 m.f2) := blk_cell h6.box 2; have hi3 : w6.cell? ⟨w.heap.size, 3, none⟩ = some (.int .i64 m.f3) := blk_cell h6.box 3; have hi4 : w6.cell? ⟨w.heap.size, 4, none⟩ = some (.int .i64 m.f4) := blk_cell h6.box 4; have hi5 : w6.cell? ⟨w.heap.size, 5, none⟩ = some (.int .i64 m.f5) := blk_cell h6.box 5; have hi6 : w6.cell? ⟨w.heap.size, 6, none⟩ = some (.int .i64 m.f6) := blk_cell h6.box 6; have hi7 : w6.cell? ⟨w.heap.size, 7, none⟩ = some (.slice A m.f7.length c) := blk_cell h6.box 7; clear h6 hbj) | fail)
  clear hc2 hc4 hb3 hj4 hi0 hi1 hi2 hi3 hi4 hi5 hi6 hi7
  obtain ⟨y, hy⟩ : ∃ y, y = x.joins m.f3 := ⟨_, rfl⟩
  have HGY := Aside0.mk (show Good y by rw [hy]; exact joins_good HG.out _ HMV.out)
  have HYL := Aside0.mk (show y.votes.length ≤ 900 by rw [hy]; simp [Nod.joins, Nod.join])
  rw [← hy] at HD6
  have HZ := Aside0.mk (show ∀ {W : World}, Did w0 W base g ok (y.votedFor m) → Did w0 W base g ok ((x.joins m.f3).votedFor m) by rw [hy]; exact fun h => h)
  clear hy
  have HBX6 := Aside0.mk HD6.out.box
  obtain ⟨E6, f6, E7, f7, E8, f8, E9, f9, hbk, he6, hC6, he7, hC7, he8, hC8, -⟩ := HD6.out.blk
  have HBK6 := Aside0.mk hbk
  have HC8 := Aside0.mk hC8
  have HE8 := Aside0.mk he8
  have HADD := Aside0.mk (add_of y.votes (voteOf m) HGY.out.votes HL.out (fun v hv => (HGY.out.each v hv).2.2))
  have HGZ := Aside0.mk (add_good HGY.out (voteOf m) HYL.out ⟨HF.out.1, by have h1 := HF.out.2; have h2 := HG.out.n2; show m.f1 ≤ 1000; omega, HL.out⟩)
  clear hbk he6 hC6 he7 hC7 he8 hC8
  have hx0 : w6.cell? ⟨w.heap.size, 0, none⟩ = some (.int .i64 m.f0) := blk_cell HBX6.out 0
  have hx1 : w6.cell? ⟨w.heap.size, 1, none⟩ = some (.int .i64 m.f1) := blk_cell HBX6.out 1
  have hx2 : w6.cell? ⟨w.heap.size, 2, none⟩ = some (.int .i64 m.f2) := blk_cell HBX6.out 2
  have hx3 : w6.cell? ⟨w.heap.size, 3, none⟩ = some (.int .i64 m.f3) := blk_cell HBX6.out 3
  have hx4 : w6.cell? ⟨w.heap.size, 4, none⟩ = some (.int .i64 m.f4) := blk_cell HBX6.out 4
  have hx5 : w6.cell? ⟨w.heap.size, 5, none⟩ = some (.int .i64 m.f5) := blk_cell HBX6.out 5
  have hx6 : w6.cell? ⟨w.heap.size, 6, none⟩ = some (.int .i64 m.f6) := blk_cell HBX6.out 6
  have hx7 : w6.cell? ⟨w.heap.size, 7, none⟩ = some (.slice A m.f7.length c) := blk_cell HBX6.out 7
  go_wp2_with (first | (go_at_call 49; refine (vote_calls m A c _ HK.out HCC.out (HN.out.reads HM.out HD6.out) (by have := HL.out; omega)).mono ?_; rintro e w7 ⟨v7, rfl, hR7, hb7⟩; obtain ⟨A7, c7', rfl⟩ := Kd.R_slice hR7; have HR7 := Aside0.mk hR7; have HB7 := Aside0.mk hb7; clear hR7 hb7))
  have HD8 := Aside0.mk ((HD6.out.below HB7.out).alloc (.cells #[.int .i64 m.f1, .int .i64 m.f4, .int .i64 m.f5, .slice A7 m.f7.length c7'] 66))
  have HBV8 := Aside0.mk (x_alloc_new w7 (.cells #[.int .i64 m.f1, .int .i64 m.f4, .int .i64 m.f5, .slice A7 m.f7.length c7'] 66))
  have HRR := Kd.R_reads' HR7.out
  have HCV := Aside0.mk (Kd.C_alloc HRR.2.2 (.cells #[.int .i64 m.f1, .int .i64 m.f4, .int .i64 m.f5, .slice A7 m.f7.length c7'] 66))
  have HEV := Aside0.mk HRR.2.1
  have HC88 := Aside0.mk (Kd.C_alloc (Kd.C_below HC8.out HB7.out) (.cells #[.int .i64 m.f1, .int .i64 m.f4, .int .i64 m.f5, .slice A7 m.f7.length c7'] 66))
  have HBK8 := Aside0.mk (blk_alloc ((HB7.out.block g (blk_lt HBK6.out)).trans HBK6.out) (.cells #[.int .i64 m.f1, .int .i64 m.f4, .int .i64 m.f5, .slice A7 m.f7.length c7'] 66))
  have hnv1 : g ≠ w7.heap.size := by have h1 := blk_lt HBK6.out; have h2 := HB7.out.size; omega
  have HNV := Aside0.mk hnv1
  have hnv2 := hnv1.symm
  clear HRR hx0 hx1 hx2 hx3 hx4 hx5 hx6 hx7
  generalize hW8 : w7.alloc (.cells #[.int .i64 m.f1, .int .i64 m.f4, .int .i64 m.f5, .slice A7 m.f7.length c7'] 66) = w8 at *
  generalize hgv : w7.heap.size = gv at *
  clear hW8
  have hy0 : w8.cell? ⟨gv, 0, none⟩ = some (.int .i64 m.f1) := blk_cell HBV8.out 0
  have hy1 : w8.cell? ⟨gv, 1, none⟩ = some (.int .i64 m.f4) := blk_cell HBV8.out 1
  have hy2 : w8.cell? ⟨gv, 2, none⟩ = some (.int .i64 m.f5) := blk_cell HBV8.out 2
  have hy3 : w8.cell? ⟨gv, 3, none⟩ = some (.slice A7 m.f7.length c7') := blk_cell HBV8.out 3
  have hs8 : w8.cell? ⟨g, 8, none⟩ = some (.slice E8 y.votes.length f8) := blk_cell HBK8.out 8
  rw [ldVotes_eq 69]
  go_region_held3 (fun W => W.cell? ⟨gv, 0, none⟩ = some (.int .i64 m.f1) ∧ W.cell? ⟨gv, 1, none⟩ = some (.int .i64 m.f4) ∧ W.cell? ⟨gv, 2, none⟩ = some (.int .i64 m.f5) ∧ W.cell? ⟨gv, 3, none⟩ = some (.slice A7 m.f7.length c7'))
    (first
      | exact ⟨hy0, hy1, hy2, hy3⟩
      | exact ⟨blk_cell HBV9.out 0, blk_cell HBV9.out 1, blk_cell HBV9.out 2, blk_cell HBV9.out 3⟩
      | exact ⟨blk_cell HBVZ.out 0, blk_cell HBVZ.out 1, blk_cell HBVZ.out 2, blk_cell HBVZ.out 3⟩)
    (first
      | (refine x_step_call rfl Try.func40 (by kernel_rfl) rfl #[.slice E8 y.votes.length f8, .agg #[.int .i64 m.f1, .int .i64 m.f4, .int .i64 m.f5, .slice A7 m.f7.length c7']] rfl (by simp [Act.eval, Act.put]) ?_; refine (quorum_Add.calls (y.votes.length + 1) E8 f8 y.votes m.f1 m.f4 m.f5 A7 c7' m.f7 _ w8.drew (Kd.C_drew HC88.out) HE8.out (Kd.C_drew HCV.out) HEV.out HADD.out).mono ?_; rintro e w9 ⟨v9, rfl, hS9, hb9⟩; obtain ⟨A9', c9', rfl⟩ := Kd.S_slice hS9; have HD9 := Aside0.mk (HD8.out.drew.set_votes hb9 (Nat.le_refl _) hS9); have HBV9 := Aside0.mk ((hb9.block gv (blk_lt HBV8.out)).trans HBV8.out); have HBK9 := Aside0.mk ((hb9.block g (blk_lt HBK8.out)).trans HBK8.out); have HBVZ := Aside0.mk (blk_far (p := ⟨g, 8, none⟩) HBV9.out HNV.out.symm (.slice A9' (addTo y.votes (voteOf m)).length c9')); have hr8 : w9.cell? ⟨g, 8, none⟩ = some (.slice E8 y.votes.length f8) := blk_cell HBK9.out 8; have hf8 : w9.frozen? ⟨g, 8, none⟩ = false := blk_frozen HBK9.out 8; clear hS9 hb9; refine ⟨_, rfl, ?_⟩))
  all_goals
    go_wp2_with (first | (go_at_call 30; refine (begin_did2 { y with votes := addTo y.votes (voteOf m) } _ _ base g (Okb w0 w ok) HGZ.out HD9.out).mono ?_; rintro e w10 ⟨rfl, h10⟩; have HD10 := Aside0.mk h10; clear h10))
    go_end0
    exact ⟨rfl, HZ.out (HN.out.unbox HD10.out)⟩
end Go.Proofs.Ytfpfpckocemmdaa.P
end
section
namespace Go.Proofs.Ytfpfpckocemmdaa.P
open Go.RowKit Go.Proofs.YtfpfpckocemmdaaW.PrintWords Go.Proofs.YtfpfpckocemmdaaW.PrintLast Go.Proofs.YtfpfpckocemmdaaW.PrintMore
set_option linter.unusedVariables false
set_option linter.unusedSimpArgs false
theorem prepare_did (x : Nod) (m : S28) (A : Option Addr) (c : Nat) (w0 w : World) (base g : Nat) (ok : Nat → Prop) (hg : Good x) (hv : 0 ≤ m.f3) (hc : m.f7.length ≤ c) (hl : m.f7.length ≤ 1000) (hM : ∀ W, Below base w0 W → Kd.C Kd.string W A m.f7.length m.f7) (h : Did w0 w base g ok x) :
    Calls Try.prog 23 #[.pointer (some ⟨g, 0, none⟩), .agg #[.int .i64 m.f0, .int .i64 m.f1, .int .i64 m.f2, .int .i64 m.f3, .int .i64 m.f4, .int .i64 m.f5, .int .i64 m.f6, .slice A m.f7.length c]] w fun e w' => e = .returned (.tuple #[]) ∧ Did w0 w' base g ok (x.prepare m) := by
  by_cases hp : m.f3 % x.n = m.f1
  · have he : x.prepare m = (let z := (x.takes m).settle m; z.say (z.ackOf m)) := by unfold Nod.prepare; rw [if_pos hp]
    rw [he]
    by_cases hv2 : m.f3 > x.view
    · exact prepare_newer x m A c w0 w base g ok hg.n1 hg.n2 hv hp hg.told hc hl hg.log hM hv2 h
    · cases hw : x.works with
      | false => exact prepare_joins x m A c w0 w base g ok hg.n1 hg.n2 hv hp hg.told hc hl hg.log hM hw hv2 h
      | true =>
        by_cases hll : m.f7.length > x.log.length
        · exact prepare_longer x m A c w0 w base g ok hg.n1 hg.n2 hv hp hg.told hc hl hg.log hM hw hv2 hll h
        · exact prepare_same x m A c w0 w base g ok hg.n1 hg.n2 hv hp hg.told hc hl hg.log hM hw hv2 hll h
  · have he : x.prepare m = x := by unfold Nod.prepare; rw [if_neg hp]
    rw [he]
    exact prepare_not x m A c w0 w base g ok hg.n1 hv hp h
theorem vote_did (x : Nod) (m : S28) (A : Option Addr) (c : Nat) (w0 w : World) (base g : Nat) (ok : Nat → Prop) (hg : Good x) (hk : m.f0 = 3) (hf : 0 ≤ m.f1) (hf2 : m.f1 < x.n) (hmv : 0 ≤ m.f3) (hvl : x.votes.length ≤ 900) (hc : m.f7.length ≤ c) (hl : m.f7.length ≤ 1000) (hM : ∀ W, Below base w0 W → Kd.C Kd.string W A m.f7.length m.f7) (h : Did w0 w base g ok x) :
    Calls Try.prog 25 #[.pointer (some ⟨g, 0, none⟩), .agg #[.int .i64 m.f0, .int .i64 m.f1, .int .i64 m.f2, .int .i64 m.f3, .int .i64 m.f4, .int .i64 m.f5, .int .i64 m.f6, .slice A m.f7.length c]] w fun e w' => e = .returned (.tuple #[]) ∧ Did w0 w' base g ok (x.vote m) := by
  unfold Nod.vote
  cases hp : x.prim m.f3 with
  | false =>
    rw [if_neg (by simp)]
    exact vote_not x m A c w0 w base g ok hg hk hf hf2 hmv hvl hc hl hM hp h
  | true =>
    rw [if_pos rfl]
    by_cases hv : m.f3 > x.view
    · rw [if_pos hv]
      exact vote_joins x m A c w0 w base g ok hg hk hf hf2 hmv hvl hc hl hM hp hv h
    · rw [if_neg hv]
      cases hw : x.works with
      | true =>
        rw [if_pos rfl]
        exact vote_works x m A c w0 w base g ok hg hk hf hf2 hmv hvl hc hl hM hp hv hw h
      | false =>
        rw [if_neg (by simp)]
        exact vote_waits x m A c w0 w base g ok hg hk hf hf2 hmv hvl hc hl hM hp hv hw h
end Go.Proofs.Ytfpfpckocemmdaa.P
end
section
namespace Go.Proofs.Ytfpfpckocemmdaa.P
open Go.RowKit Go.Proofs.YtfpfpckocemmdaaW.PrintWords Go.Proofs.YtfpfpckocemmdaaW.PrintLast Go.Proofs.YtfpfpckocemmdaaW.PrintMore
set_option linter.unusedVariables false
set_option linter.unusedSimpArgs false
set_option maxHeartbeats 8000000 in
set_option maxRecDepth 100000 in
theorem handle_prepare (id n view last : Int) (works : Bool) (commit : Int) (log : List ByteArray) (acks : List Int) (votes : List S66) (told : List S28) (A6 A7 A8 : Option Addr) (c6 c7 c8 : Nat) (w : World) (h6 : Kd.C Kd.string w A6 log.length log) (l6 : log.length ≤ c6) (h7 : Kd.C (Kd.int .i64) w A7 acks.length acks) (l7 : acks.length ≤ c7) (h8 : Kd.C k66 w A8 votes.length votes) (l8 : votes.length ≤ c8)
    (hl : log.length < 4398046511104) (ha : acks.length < 4398046511104) (hvl : votes.length < 4398046511104) (hv : ∀ v, v ∈ votes → v.f3.length < 4398046511104 ∧ (Lit.int .i64 v.f0).wf = true) (a1 a2 a3 a4 a5 a6 : Int) (a7 : List ByteArray) (A : Option Addr) (c : Nat) (hm : Kd.C Kd.string w A a7.length a7) (lm : a7.length ≤ c)
    (his : isB ⟨id, n, view, last, works, commit, log, acks, votes, told⟩ = true) (hb : msgB (⟨1, a1, a2, a3, a4, a5, a6, a7⟩ : S28) = true) (h_t : a2 = id) (h_f : ¬ a1 = id) (h_n : ¬ a1 ≥ n) (h_v : a3 ≥ view) :
    Calls Try.prog 8 #[.agg #[.int .i64 id, .int .i64 n, .int .i64 view, .int .i64 last, .bool works, .int .i64 commit, .slice A6 log.length c6, .slice A7 acks.length c7, .slice A8 votes.length c8], .agg #[.int .i64 1, .int .i64 a1, .int .i64 a2, .int .i64 a3, .int .i64 a4, .int .i64 a5, .int .i64 a6, .slice A a7.length c]] w fun e w' => ∃ v6 v7 v8 v9, e = .returned (.tuple #[.agg #[.int .i64 ((Nod.opened ⟨id, n, view, last, works, commit, log, acks, votes, told⟩).prepare (⟨1, a1, a2, a3, a4, a5, a6, a7⟩ : S28)).id, .int .i64 ((Nod.opened ⟨id, n, view, last, works, commit, log, acks, votes, told⟩).prepare (⟨1, a1, a2, a3, a4, a5, a6, a7⟩ : S28)).n, .int .i64 ((Nod.opened ⟨id, n, view, last, works, commit, log, acks, votes, told⟩).prepare (⟨1, a1, a2, a3, a4, a5, a6, a7⟩ : S28)).view, .int .i64 ((Nod.opened ⟨id, n, view, last, works, commit, log, acks, votes, told⟩).prepare (⟨1, a1, a2, a3, a4, a5, a6, a7⟩ : S28)).last, .bool ((Nod.opened ⟨id, n, view, last, works, commit, log, acks, votes, told⟩).prepare (⟨1, a1, a2, a3, a4, a5, a6, a7⟩ : S28)).works, .int .i64 ((Nod.opened ⟨id, n, view, last, works, commit, log, acks, votes, told⟩).prepare (⟨1, a1, a2, a3, a4, a5, a6, a7⟩ : S28)).commit, v6, v7, v8], v9, .int .i64 0]) ∧ Res w' w.heap.size ((Nod.opened ⟨id, n, view, last, works, commit, log, acks, votes, told⟩).prepare (⟨1, a1, a2, a3, a4, a5, a6, a7⟩ : S28)) v6 v7 v8 v9 ∧ Below w.heap.size w w' := by
  have hu26 := Try.underlying26
  have hu28 := Try.underlying28
  have hu57 := Try.underlying57
  have HR := Aside0.mk (right_of his)
  have hvs : votes.length ≤ 900 := by have h1 := HR.out.count; have h2 := HR.out.n7; simp only at h1 h2; omega
  have hvt : ∀ v, v ∈ votes → v.f3.length ≤ 1000 := fun v hv => by have h1 := (loggedB_len (votesB_all _ _ _ _ HR.out.votes v hv).2.2.2.2.2).1; omega
  obtain ⟨hw5, sz5, bx5, bm5, by5, bl5, be5⟩ := new5 w (.cells #[.int .i64 id, .int .i64 n, .int .i64 view, .int .i64 last, .bool works, .int .i64 commit, .slice A6 log.length c6, .slice A7 acks.length c7, .slice A8 votes.length c8] 26) (.cells #[.int .i64 1, .int .i64 a1, .int .i64 a2, .int .i64 a3, .int .i64 a4, .int .i64 a5, .int .i64 a6, .slice A a7.length c] 28) (.cells #[.int .i64 0, .int .i64 0, .int .i64 0, .int .i64 0, .bool false, .int .i64 0, .slice none 0 0, .slice none 0 0, .slice none 0 0] 26) (.cells #[.slice none 0 0] 30) (.cells #[.int .i64 0] 31)
  have HW5 := Aside0.mk hw5
  have SZ5 := Aside0.mk sz5
  have BX5 := Aside0.mk bx5
  have BM5 := Aside0.mk bm5
  have BY5 := Aside0.mk (five_zero by5)
  have BL5 := Aside0.mk bl5
  have BE5 := Aside0.mk be5
  clear hw5 sz5 bx5 bm5 by5 bl5 be5
  have H21 := Aside0.mk (open_is id n view last works commit log acks votes told A6 A7 A8 c6 c7 c8 _ (Kd.C_below h6 HW5.out) l6 (Kd.C_below h7 HW5.out) l7 (Kd.C_below h8 HW5.out) l8 hl ha hvl hv his hvs hvt)
  have HMC := Aside0.mk (fun (W : World) (hb : Below w.heap.size w W) => Kd.C_below hm hb)
  have LM := Aside0.mk lm
  obtain ⟨k, hk⟩ : ∃ k, 101 ≤ k := ⟨101, Nat.le_refl _⟩
  have HMS := Aside0.mk (msg_of k hk (⟨1, a1, a2, a3, a4, a5, a6, a7⟩ : S28))
  rw [hb] at HMS
  have ta : (a2 == id) = true := beq_iff_eq.mpr h_t
  have tb : (a2 != id) = false := bne_eq_false_iff_eq.mpr h_t
  have fa : (a1 == id) = false := beq_eq_false_iff_ne.mpr h_f
  have fb : (a1 != id) = true := bne_iff_ne.mpr h_f
  have na : decide (a1 ≥ n) = false := decide_eq_false h_n
  have nb : decide (n ≤ a1) = false := decide_eq_false h_n
  have va : decide (a3 ≥ view) = true := decide_eq_true h_v
  have vb : decide (view ≤ a3) = true := decide_eq_true h_v
  have hmk : ∀ W : World, (Instr.makeMap 55 none).run Try.prog W = .ok (.map (some W.heap.size)) (W.alloc (.map #[] 0)) := fun _ => rfl
  have HBM := Aside0.mk hb
  have HT_F := Aside0.mk (And.intro h_f h_n)
  have HVW := Aside0.mk h_v
  clear hb h_t h_f h_n h_v
  clear h6 l6 h7 l7 h8 l8 hl ha hvl hv his hvs hvt hm lm hk
  go_enter_defers Try.func8, Try.ntmps8
  go_wp2_with (first | (go_at_call 21; refine H21.out.mono ?_; rintro e w6 ⟨g, rfl, hN, hb6⟩; have HN6 := Aside0.mk hN; have HW6 := Aside0.mk (below_step HW5.out hb6); have SZ6 := Aside0.mk (show w.heap.size + 5 ≤ w6.heap.size by have h1 := hb6.size; have h2 := SZ5.out; omega); have BX6 := Aside0.mk ((hb6.block (w.heap.size) (by rw [SZ5.out]; omega)).trans BX5.out); have BM6 := Aside0.mk ((hb6.block (w.heap.size + 1) (by rw [SZ5.out]; omega)).trans BM5.out); have BY6 := Aside0.mk ((hb6.block (w.heap.size + 1 + 1) (by rw [SZ5.out]; omega)).trans BY5.out); have BL6 := Aside0.mk ((hb6.block (w.heap.size + 1 + 1 + 1) (by rw [SZ5.out]; omega)).trans BL5.out); have BE6 := Aside0.mk ((hb6.block (w.heap.size + 1 + 1 + 1 + 1) (by rw [SZ5.out]; omega)).trans BE5.out); have px0 : w6.cell? ⟨w.heap.size, 0, none⟩ = some (.int .i64 id) := blk_cell BX6.out 0; have px1 : w6.cell? ⟨w.heap.size, 1, none⟩ = some (.int .i64 n) := blk_cell BX6.out 1; have px2 : w6.cell? ⟨w.heap.size, 2, none⟩ = some (.int .i64 view) := blk_cell BX6.out 2; have pm0 : w6.cell? ⟨w.heap.size + 1, 0, none⟩ = some (.int .i64 1) := blk_cell BM6.out 0; have pm1 : w6.cell? ⟨w.heap.size + 1, 1, none⟩ = some (.int .i64 a1) := blk_cell BM6.out 1; have pm2 : w6.cell? ⟨w.heap.size + 1, 2, none⟩ = some (.int .i64 a2) := blk_cell BM6.out 2; have pm3 : w6.cell? ⟨w.heap.size + 1, 3, none⟩ = some (.int .i64 a3) := blk_cell BM6.out 3; have pm4 : w6.cell? ⟨w.heap.size + 1, 4, none⟩ = some (.int .i64 a4) := blk_cell BM6.out 4; have pm5 : w6.cell? ⟨w.heap.size + 1, 5, none⟩ = some (.int .i64 a5) := blk_cell BM6.out 5; have pm6 : w6.cell? ⟨w.heap.size + 1, 6, none⟩ = some (.int .i64 a6) := blk_cell BM6.out 6; have pm7 : w6.cell? ⟨w.heap.size + 1, 7, none⟩ = some (.slice A a7.length c) := blk_cell BM6.out 7; clear hN hb6) | (go_at_call 22; refine (msg_Is.calls k 1 a1 a2 a3 a4 a5 a6 A c a7 true w6 (HMC.out _ HW6.out) LM.out HMS.out).mono ?_; rintro e w7 ⟨rfl, hb7⟩; have HN7 := Aside0.mk (HN6.out.below hb7); have HW7 := Aside0.mk (below_step HW6.out hb7); have SZ7 := Aside0.mk (show w.heap.size + 5 ≤ w7.heap.size by have h1 := hb7.size; have h2 := SZ6.out; omega); have BX7 := Aside0.mk ((hb7.block (w.heap.size) (by have := SZ6.out; omega)).trans BX6.out); have BM7 := Aside0.mk ((hb7.block (w.heap.size + 1) (by have := SZ6.out; omega)).trans BM6.out); have BY7 := Aside0.mk ((hb7.block (w.heap.size + 1 + 1) (by have := SZ6.out; omega)).trans BY6.out); have BL7 := Aside0.mk ((hb7.block (w.heap.size + 1 + 1 + 1) (by have := SZ6.out; omega)).trans BL6.out); have BE7 := Aside0.mk ((hb7.block (w.heap.size + 1 + 1 + 1 + 1) (by have := SZ6.out; omega)).trans BE6.out); have qx0 : w7.cell? ⟨w.heap.size, 0, none⟩ = some (.int .i64 id) := blk_cell BX7.out 0; have qx1 : w7.cell? ⟨w.heap.size, 1, none⟩ = some (.int .i64 n) := blk_cell BX7.out 1; have qx2 : w7.cell? ⟨w.heap.size, 2, none⟩ = some (.int .i64 view) := blk_cell BX7.out 2; have qm0 : w7.cell? ⟨w.heap.size + 1, 0, none⟩ = some (.int .i64 1) := blk_cell BM7.out 0; have qm1 : w7.cell? ⟨w.heap.size + 1, 1, none⟩ = some (.int .i64 a1) := blk_cell BM7.out 1; have qm2 : w7.cell? ⟨w.heap.size + 1, 2, none⟩ = some (.int .i64 a2) := blk_cell BM7.out 2; have qm3 : w7.cell? ⟨w.heap.size + 1, 3, none⟩ = some (.int .i64 a3) := blk_cell BM7.out 3; have qm4 : w7.cell? ⟨w.heap.size + 1, 4, none⟩ = some (.int .i64 a4) := blk_cell BM7.out 4; have qm5 : w7.cell? ⟨w.heap.size + 1, 5, none⟩ = some (.int .i64 a5) := blk_cell BM7.out 5; have qm6 : w7.cell? ⟨w.heap.size + 1, 6, none⟩ = some (.int .i64 a6) := blk_cell BM7.out 6; have qm7 : w7.cell? ⟨w.heap.size + 1, 7, none⟩ = some (.slice A a7.length c) := blk_cell BM7.out 7; obtain ⟨W1, r1, b1, s1, B1⟩ := ins_run (w7.alloc (.map #[] 0)) w7.heap.size #[] 0 1 (.func (.func 23) #[] #[]) (x_alloc_new _ _) rfl; obtain ⟨W2, r2, b2, s2, B2⟩ := ins_run W1 w7.heap.size _ _ 2 (.func (.func 24) #[] #[]) b1 rfl; obtain ⟨W3, r3, b3, s3, B3⟩ := ins_run W2 w7.heap.size _ _ 3 (.func (.func 25) #[] #[]) b2 rfl; have rl := look_run W3 w7.heap.size _ _ 1 (.func (.func 23) #[] #[]) 0 b3 rfl; have HW3 := Aside0.mk (show Below w7.heap.size w7 W3 from (below_alloc (Below.refl _ _) (.map #[] 0)).trans ((B1 _ (Nat.le_refl _)).trans ((B2 _ (Nat.le_refl _)).trans (B3 _ (Nat.le_refl _))))); clear b1 b2 b3 s1 s2 s3 B1 B2 B3; have HND := Aside0.mk (HN7.out.below HW3.out); have SZD := Aside0.mk (show w.heap.size + 5 ≤ W3.heap.size by have h1 := HW3.out.size; have h2 := SZ7.out; omega); have HWD := Aside0.mk (below_step HW7.out HW3.out); have BXD := Aside0.mk ((HW3.out.block (w.heap.size) (by have := SZ7.out; omega)).trans BX7.out); have BMD := Aside0.mk ((HW3.out.block (w.heap.size + 1) (by have := SZ7.out; omega)).trans BM7.out); have BYD := Aside0.mk ((HW3.out.block (w.heap.size + 1 + 1) (by have := SZ7.out; omega)).trans BY7.out); have BLD := Aside0.mk ((HW3.out.block (w.heap.size + 1 + 1 + 1) (by have := SZ7.out; omega)).trans BL7.out); have BED := Aside0.mk ((HW3.out.block (w.heap.size + 1 + 1 + 1 + 1) (by have := SZ7.out; omega)).trans BE7.out); have dm0 : W3.cell? ⟨w.heap.size + 1, 0, none⟩ = some (.int .i64 1) := blk_cell BMD.out 0; have dm1 : W3.cell? ⟨w.heap.size + 1, 1, none⟩ = some (.int .i64 a1) := blk_cell BMD.out 1; have dm2 : W3.cell? ⟨w.heap.size + 1, 2, none⟩ = some (.int .i64 a2) := blk_cell BMD.out 2; have dm3 : W3.cell? ⟨w.heap.size + 1, 3, none⟩ = some (.int .i64 a3) := blk_cell BMD.out 3; have dm4 : W3.cell? ⟨w.heap.size + 1, 4, none⟩ = some (.int .i64 a4) := blk_cell BMD.out 4; have dm5 : W3.cell? ⟨w.heap.size + 1, 5, none⟩ = some (.int .i64 a5) := blk_cell BMD.out 5; have dm6 : W3.cell? ⟨w.heap.size + 1, 6, none⟩ = some (.int .i64 a6) := blk_cell BMD.out 6; have dm7 : W3.cell? ⟨w.heap.size + 1, 7, none⟩ = some (.slice A a7.length c) := blk_cell BMD.out 7; clear hb7) | (go_at_call 23; refine (prepare_did (Nod.opened ⟨id, n, view, last, works, commit, log, acks, votes, told⟩) (⟨1, a1, a2, a3, a4, a5, a6, a7⟩ : S28) A c W3 W3 (((((w.alloc (.cells #[.int .i64 id, .int .i64 n, .int .i64 view, .int .i64 last, .bool works, .int .i64 commit, .slice A6 log.length c6, .slice A7 acks.length c7, .slice A8 votes.length c8] 26)).alloc (.cells #[.int .i64 1, .int .i64 a1, .int .i64 a2, .int .i64 a3, .int .i64 a4, .int .i64 a5, .int .i64 a6, .slice A a7.length c] 28)).alloc (.cells #[.int .i64 0, .int .i64 0, .int .i64 0, .int .i64 0, .bool false, .int .i64 0, .slice none 0 0, .slice none 0 0, .slice none 0 0] 26)).alloc (.cells #[.slice none 0 0] 30)).alloc (.cells #[.int .i64 0] 31)).heap.size g _ HR.out.good (msg_facts HBM.out).1 LM.out (msg_facts HBM.out).2.1 (fun W hb => HMC.out W (HWD.out.trans (below_weak hb (by have := SZ5.out; omega)))) (Did.refl HND.out)).mono ?_; rintro e w8 ⟨rfl, h8⟩; have HD8 := Aside0.mk h8; have HN8 := Aside0.mk h8.1; have HW8 := Aside0.mk (HWD.out.trans (below_weak h8.2.2.1 (by have := SZ5.out; omega))); have SZ8 := Aside0.mk (show w.heap.size + 5 ≤ w8.heap.size by have h1 := h8.2.2.1.size; have h2 := SZD.out; omega); have BY8 := Aside0.mk ((h8.2.2.1.block (w.heap.size + 1 + 1) (by rw [SZ5.out]; omega)).trans BYD.out); have BL8 := Aside0.mk ((h8.2.2.1.block (w.heap.size + 1 + 1 + 1) (by rw [SZ5.out]; omega)).trans BLD.out); have BE8 := Aside0.mk ((h8.2.2.1.block (w.heap.size + 1 + 1 + 1 + 1) (by rw [SZ5.out]; omega)).trans BED.out); obtain ⟨D6, d6, D7, d7, D8, d8, D9, d9, hbg, hres⟩ := HN8.out.res2; have HRES := Aside0.mk hres; have BG8 := Aside0.mk hbg; have tg0 : w8.cell? ⟨g, 0, none⟩ = some (.int .i64 ((Nod.opened ⟨id, n, view, last, works, commit, log, acks, votes, told⟩).prepare (⟨1, a1, a2, a3, a4, a5, a6, a7⟩ : S28)).id) := blk_cell hbg 0; have tg1 : w8.cell? ⟨g, 1, none⟩ = some (.int .i64 ((Nod.opened ⟨id, n, view, last, works, commit, log, acks, votes, told⟩).prepare (⟨1, a1, a2, a3, a4, a5, a6, a7⟩ : S28)).n) := blk_cell hbg 1; have tg2 : w8.cell? ⟨g, 2, none⟩ = some (.int .i64 ((Nod.opened ⟨id, n, view, last, works, commit, log, acks, votes, told⟩).prepare (⟨1, a1, a2, a3, a4, a5, a6, a7⟩ : S28)).view) := blk_cell hbg 2; have tg3 : w8.cell? ⟨g, 3, none⟩ = some (.int .i64 ((Nod.opened ⟨id, n, view, last, works, commit, log, acks, votes, told⟩).prepare (⟨1, a1, a2, a3, a4, a5, a6, a7⟩ : S28)).last) := blk_cell hbg 3; have tg4 : w8.cell? ⟨g, 4, none⟩ = some (.bool ((Nod.opened ⟨id, n, view, last, works, commit, log, acks, votes, told⟩).prepare (⟨1, a1, a2, a3, a4, a5, a6, a7⟩ : S28)).works) := blk_cell hbg 4; have tg5 : w8.cell? ⟨g, 5, none⟩ = some (.int .i64 ((Nod.opened ⟨id, n, view, last, works, commit, log, acks, votes, told⟩).prepare (⟨1, a1, a2, a3, a4, a5, a6, a7⟩ : S28)).commit) := blk_cell hbg 5; have tg6 : w8.cell? ⟨g, 6, none⟩ = some (.slice D6 (((Nod.opened ⟨id, n, view, last, works, commit, log, acks, votes, told⟩).prepare (⟨1, a1, a2, a3, a4, a5, a6, a7⟩ : S28))).log.length d6) := blk_cell hbg 6; have tg7 : w8.cell? ⟨g, 7, none⟩ = some (.slice D7 (((Nod.opened ⟨id, n, view, last, works, commit, log, acks, votes, told⟩).prepare (⟨1, a1, a2, a3, a4, a5, a6, a7⟩ : S28))).acks.length d7) := blk_cell hbg 7; have tg8 : w8.cell? ⟨g, 8, none⟩ = some (.slice D8 (((Nod.opened ⟨id, n, view, last, works, commit, log, acks, votes, told⟩).prepare (⟨1, a1, a2, a3, a4, a5, a6, a7⟩ : S28))).votes.length d8) := blk_cell hbg 8; have tg9 : w8.cell? ⟨g, 9, none⟩ = some (.slice D9 (((Nod.opened ⟨id, n, view, last, works, commit, log, acks, votes, told⟩).prepare (⟨1, a1, a2, a3, a4, a5, a6, a7⟩ : S28))).told.length d9) := blk_cell hbg 9; have ty0 : w8.cell? ⟨w.heap.size + 1 + 1, 0, none⟩ = some (.int .i64 0) := (blk_cell BY8.out 0).trans rfl; have tf0 := blk_frozen BY8.out 0; have ty1 : w8.cell? ⟨w.heap.size + 1 + 1, 1, none⟩ = some (.int .i64 0) := (blk_cell BY8.out 1).trans rfl; have tf1 := blk_frozen BY8.out 1; have ty2 : w8.cell? ⟨w.heap.size + 1 + 1, 2, none⟩ = some (.int .i64 0) := (blk_cell BY8.out 2).trans rfl; have tf2 := blk_frozen BY8.out 2; have ty3 : w8.cell? ⟨w.heap.size + 1 + 1, 3, none⟩ = some (.int .i64 0) := (blk_cell BY8.out 3).trans rfl; have tf3 := blk_frozen BY8.out 3; have ty4 : w8.cell? ⟨w.heap.size + 1 + 1, 4, none⟩ = some (.bool false) := (blk_cell BY8.out 4).trans rfl; have tf4 := blk_frozen BY8.out 4; have ty5 : w8.cell? ⟨w.heap.size + 1 + 1, 5, none⟩ = some (.int .i64 0) := (blk_cell BY8.out 5).trans rfl; have tf5 := blk_frozen BY8.out 5; have ty6 : w8.cell? ⟨w.heap.size + 1 + 1, 6, none⟩ = some (.slice none 0 0) := (blk_cell BY8.out 6).trans rfl; have tf6 := blk_frozen BY8.out 6; have ty7 : w8.cell? ⟨w.heap.size + 1 + 1, 7, none⟩ = some (.slice none 0 0) := (blk_cell BY8.out 7).trans rfl; have tf7 := blk_frozen BY8.out 7; have ty8 : w8.cell? ⟨w.heap.size + 1 + 1, 8, none⟩ = some (.slice none 0 0) := (blk_cell BY8.out 8).trans rfl; have tf8 := blk_frozen BY8.out 8; have tl0 : w8.cell? ⟨w.heap.size + 1 + 1 + 1, 0, none⟩ = some (.slice none 0 0) := (blk_cell BL8.out 0).trans rfl; have tl1 := blk_frozen BL8.out 0; have te0 : w8.cell? ⟨w.heap.size + 1 + 1 + 1 + 1, 0, none⟩ = some (.int .i64 0) := (blk_cell BE8.out 0).trans rfl; have te1 := blk_frozen BE8.out 0; have HGE := Aside0.mk (show w.heap.size + 5 ≤ g from by have h1 := HN8.out.ge; have h2 := SZ5.out; omega); have ney1 : g ≠ w.heap.size + 1 + 1 := (by have := HGE.out; omega); have ney2 : w.heap.size + 1 + 1 ≠ g := (by have := HGE.out; omega); have nel1 : g ≠ w.heap.size + 1 + 1 + 1 := (by have := HGE.out; omega); have nel2 : w.heap.size + 1 + 1 + 1 ≠ g := (by have := HGE.out; omega); have nee1 : g ≠ w.heap.size + 1 + 1 + 1 + 1 := (by have := HGE.out; omega); have nee2 : w.heap.size + 1 + 1 + 1 + 1 ≠ g := (by have := HGE.out; omega); have nyl : w.heap.size + 1 + 1 ≠ w.heap.size + 1 + 1 + 1 := (by omega); have nye : w.heap.size + 1 + 1 ≠ w.heap.size + 1 + 1 + 1 + 1 := (by omega); have nle : w.heap.size + 1 + 1 + 1 ≠ w.heap.size + 1 + 1 + 1 + 1 := (by omega); have nyl' := nyl.symm; have nye' := nye.symm; have nle' := nle.symm; clear hbg hres; clear h8))
  generalize he : w.heap.size + 1 + 1 + 1 + 1 = ge at *
  have HG_e := Aside0.mk he
  clear he
  generalize hl : w.heap.size + 1 + 1 + 1 = gl at *
  have HG_l := Aside0.mk hl
  clear hl
  generalize hy : w.heap.size + 1 + 1 = gy at *
  have HG_y := Aside0.mk hy
  clear hy
  go_region
  all_goals
    go_wp2
    have HST := stores_ret (w7 := w8) BY8.out BL8.out BE8.out nyl nye nle (.int .i64 (((Nod.opened ⟨id, n, view, last, works, commit, log, acks, votes, told⟩).prepare (⟨1, a1, a2, a3, a4, a5, a6, a7⟩ : S28))).id) (.int .i64 (((Nod.opened ⟨id, n, view, last, works, commit, log, acks, votes, told⟩).prepare (⟨1, a1, a2, a3, a4, a5, a6, a7⟩ : S28))).n) (.int .i64 (((Nod.opened ⟨id, n, view, last, works, commit, log, acks, votes, told⟩).prepare (⟨1, a1, a2, a3, a4, a5, a6, a7⟩ : S28))).view) (.int .i64 (((Nod.opened ⟨id, n, view, last, works, commit, log, acks, votes, told⟩).prepare (⟨1, a1, a2, a3, a4, a5, a6, a7⟩ : S28))).last) (.bool (((Nod.opened ⟨id, n, view, last, works, commit, log, acks, votes, told⟩).prepare (⟨1, a1, a2, a3, a4, a5, a6, a7⟩ : S28))).works) (.int .i64 (((Nod.opened ⟨id, n, view, last, works, commit, log, acks, votes, told⟩).prepare (⟨1, a1, a2, a3, a4, a5, a6, a7⟩ : S28))).commit) (.slice D6 (((Nod.opened ⟨id, n, view, last, works, commit, log, acks, votes, told⟩).prepare (⟨1, a1, a2, a3, a4, a5, a6, a7⟩ : S28))).log.length d6) (.slice D7 (((Nod.opened ⟨id, n, view, last, works, commit, log, acks, votes, told⟩).prepare (⟨1, a1, a2, a3, a4, a5, a6, a7⟩ : S28))).acks.length d7) (.slice D8 (((Nod.opened ⟨id, n, view, last, works, commit, log, acks, votes, told⟩).prepare (⟨1, a1, a2, a3, a4, a5, a6, a7⟩ : S28))).votes.length d8) (.slice D9 (((Nod.opened ⟨id, n, view, last, works, commit, log, acks, votes, told⟩).prepare (⟨1, a1, a2, a3, a4, a5, a6, a7⟩ : S28))).told.length d9) (.int .i64 0)
    refine leaves_cons (f := 20) (args := #[.pointer (some ⟨gy, 0, none⟩), .pointer (some ⟨gl, 0, none⟩), .pointer (some ⟨ge, 0, none⟩)]) (by simp) (by kernel_rfl) ?_
    refine (caught_idle ⟨gy, 0, none⟩ ⟨gl, 0, none⟩ ⟨ge, 0, none⟩ _).mono ?_
    rintro e u' w9 ⟨rfl, rfl, rfl⟩
    have E1 := HG_e.out
    have E2 := HG_l.out
    have E3 := HG_y.out
    have E4 := SZ5.out
    refine ⟨_, results_8 rfl _ _ gy gl ge 26 _ (0, 0) _ _ rfl rfl rfl HST.1 rfl HST.2.1 HST.2.2.1, _, _, _, _, rfl, (HRES.out _ (fun k hk hl hg => HST.2.2.2.1 k (by omega) (by omega) (by omega))).lower (by omega), HW8.out.trans (HST.2.2.2.2 _ (by omega) (by omega) (by omega))⟩
end Go.Proofs.Ytfpfpckocemmdaa.P
end
section
namespace Go.Proofs.Ytfpfpckocemmdaa.P
open Go.RowKit Go.Proofs.YtfpfpckocemmdaaW.PrintWords Go.Proofs.YtfpfpckocemmdaaW.PrintLast Go.Proofs.YtfpfpckocemmdaaW.PrintMore
set_option linter.unusedVariables false
set_option linter.unusedSimpArgs false
set_option maxHeartbeats 8000000 in
set_option maxRecDepth 100000 in
theorem handle_ack (id n view last : Int) (works : Bool) (commit : Int) (log : List ByteArray) (acks : List Int) (votes : List S66) (told : List S28) (A6 A7 A8 : Option Addr) (c6 c7 c8 : Nat) (w : World) (h6 : Kd.C Kd.string w A6 log.length log) (l6 : log.length ≤ c6) (h7 : Kd.C (Kd.int .i64) w A7 acks.length acks) (l7 : acks.length ≤ c7) (h8 : Kd.C k66 w A8 votes.length votes) (l8 : votes.length ≤ c8)
    (hl : log.length < 4398046511104) (ha : acks.length < 4398046511104) (hvl : votes.length < 4398046511104) (hv : ∀ v, v ∈ votes → v.f3.length < 4398046511104 ∧ (Lit.int .i64 v.f0).wf = true) (a1 a2 a3 a4 a5 a6 : Int) (a7 : List ByteArray) (A : Option Addr) (c : Nat) (hm : Kd.C Kd.string w A a7.length a7) (lm : a7.length ≤ c)
    (his : isB ⟨id, n, view, last, works, commit, log, acks, votes, told⟩ = true) (hb : msgB (⟨2, a1, a2, a3, a4, a5, a6, a7⟩ : S28) = true) (h_t : a2 = id) (h_f : ¬ a1 = id) (h_n : ¬ a1 ≥ n) (h_v : a3 ≥ view) :
    Calls Try.prog 8 #[.agg #[.int .i64 id, .int .i64 n, .int .i64 view, .int .i64 last, .bool works, .int .i64 commit, .slice A6 log.length c6, .slice A7 acks.length c7, .slice A8 votes.length c8], .agg #[.int .i64 2, .int .i64 a1, .int .i64 a2, .int .i64 a3, .int .i64 a4, .int .i64 a5, .int .i64 a6, .slice A a7.length c]] w fun e w' => ∃ v6 v7 v8 v9, e = .returned (.tuple #[.agg #[.int .i64 ((Nod.opened ⟨id, n, view, last, works, commit, log, acks, votes, told⟩).ack (⟨2, a1, a2, a3, a4, a5, a6, a7⟩ : S28)).id, .int .i64 ((Nod.opened ⟨id, n, view, last, works, commit, log, acks, votes, told⟩).ack (⟨2, a1, a2, a3, a4, a5, a6, a7⟩ : S28)).n, .int .i64 ((Nod.opened ⟨id, n, view, last, works, commit, log, acks, votes, told⟩).ack (⟨2, a1, a2, a3, a4, a5, a6, a7⟩ : S28)).view, .int .i64 ((Nod.opened ⟨id, n, view, last, works, commit, log, acks, votes, told⟩).ack (⟨2, a1, a2, a3, a4, a5, a6, a7⟩ : S28)).last, .bool ((Nod.opened ⟨id, n, view, last, works, commit, log, acks, votes, told⟩).ack (⟨2, a1, a2, a3, a4, a5, a6, a7⟩ : S28)).works, .int .i64 ((Nod.opened ⟨id, n, view, last, works, commit, log, acks, votes, told⟩).ack (⟨2, a1, a2, a3, a4, a5, a6, a7⟩ : S28)).commit, v6, v7, v8], v9, .int .i64 0]) ∧ Res w' w.heap.size ((Nod.opened ⟨id, n, view, last, works, commit, log, acks, votes, told⟩).ack (⟨2, a1, a2, a3, a4, a5, a6, a7⟩ : S28)) v6 v7 v8 v9 ∧ Below w.heap.size w w' := by
  have hu26 := Try.underlying26
  have hu28 := Try.underlying28
  have hu57 := Try.underlying57
  have HR := Aside0.mk (right_of his)
  have hvs : votes.length ≤ 900 := by have h1 := HR.out.count; have h2 := HR.out.n7; simp only at h1 h2; omega
  have hvt : ∀ v, v ∈ votes → v.f3.length ≤ 1000 := fun v hv => by have h1 := (loggedB_len (votesB_all _ _ _ _ HR.out.votes v hv).2.2.2.2.2).1; omega
  obtain ⟨hw5, sz5, bx5, bm5, by5, bl5, be5⟩ := new5 w (.cells #[.int .i64 id, .int .i64 n, .int .i64 view, .int .i64 last, .bool works, .int .i64 commit, .slice A6 log.length c6, .slice A7 acks.length c7, .slice A8 votes.length c8] 26) (.cells #[.int .i64 2, .int .i64 a1, .int .i64 a2, .int .i64 a3, .int .i64 a4, .int .i64 a5, .int .i64 a6, .slice A a7.length c] 28) (.cells #[.int .i64 0, .int .i64 0, .int .i64 0, .int .i64 0, .bool false, .int .i64 0, .slice none 0 0, .slice none 0 0, .slice none 0 0] 26) (.cells #[.slice none 0 0] 30) (.cells #[.int .i64 0] 31)
  have HW5 := Aside0.mk hw5
  have SZ5 := Aside0.mk sz5
  have BX5 := Aside0.mk bx5
  have BM5 := Aside0.mk bm5
  have BY5 := Aside0.mk (five_zero by5)
  have BL5 := Aside0.mk bl5
  have BE5 := Aside0.mk be5
  clear hw5 sz5 bx5 bm5 by5 bl5 be5
  have H21 := Aside0.mk (open_is id n view last works commit log acks votes told A6 A7 A8 c6 c7 c8 _ (Kd.C_below h6 HW5.out) l6 (Kd.C_below h7 HW5.out) l7 (Kd.C_below h8 HW5.out) l8 hl ha hvl hv his hvs hvt)
  have HMC := Aside0.mk (fun (W : World) (hb : Below w.heap.size w W) => Kd.C_below hm hb)
  have LM := Aside0.mk lm
  obtain ⟨k, hk⟩ : ∃ k, 101 ≤ k := ⟨101, Nat.le_refl _⟩
  have HMS := Aside0.mk (msg_of k hk (⟨2, a1, a2, a3, a4, a5, a6, a7⟩ : S28))
  rw [hb] at HMS
  have ta : (a2 == id) = true := beq_iff_eq.mpr h_t
  have tb : (a2 != id) = false := bne_eq_false_iff_eq.mpr h_t
  have fa : (a1 == id) = false := beq_eq_false_iff_ne.mpr h_f
  have fb : (a1 != id) = true := bne_iff_ne.mpr h_f
  have na : decide (a1 ≥ n) = false := decide_eq_false h_n
  have nb : decide (n ≤ a1) = false := decide_eq_false h_n
  have va : decide (a3 ≥ view) = true := decide_eq_true h_v
  have vb : decide (view ≤ a3) = true := decide_eq_true h_v
  have hmk : ∀ W : World, (Instr.makeMap 55 none).run Try.prog W = .ok (.map (some W.heap.size)) (W.alloc (.map #[] 0)) := fun _ => rfl
  have HBM := Aside0.mk hb
  have HT_F := Aside0.mk (And.intro h_f h_n)
  have HVW := Aside0.mk h_v
  clear hb h_t h_f h_n h_v
  clear h6 l6 h7 l7 h8 l8 hl ha hvl hv his hvs hvt hm lm hk
  go_enter_defers Try.func8, Try.ntmps8
  go_wp2_with (first | (go_at_call 21; refine H21.out.mono ?_; rintro e w6 ⟨g, rfl, hN, hb6⟩; have HN6 := Aside0.mk hN; have HW6 := Aside0.mk (below_step HW5.out hb6); have SZ6 := Aside0.mk (show w.heap.size + 5 ≤ w6.heap.size by have h1 := hb6.size; have h2 := SZ5.out; omega); have BX6 := Aside0.mk ((hb6.block (w.heap.size) (by rw [SZ5.out]; omega)).trans BX5.out); have BM6 := Aside0.mk ((hb6.block (w.heap.size + 1) (by rw [SZ5.out]; omega)).trans BM5.out); have BY6 := Aside0.mk ((hb6.block (w.heap.size + 1 + 1) (by rw [SZ5.out]; omega)).trans BY5.out); have BL6 := Aside0.mk ((hb6.block (w.heap.size + 1 + 1 + 1) (by rw [SZ5.out]; omega)).trans BL5.out); have BE6 := Aside0.mk ((hb6.block (w.heap.size + 1 + 1 + 1 + 1) (by rw [SZ5.out]; omega)).trans BE5.out); have px0 : w6.cell? ⟨w.heap.size, 0, none⟩ = some (.int .i64 id) := blk_cell BX6.out 0; have px1 : w6.cell? ⟨w.heap.size, 1, none⟩ = some (.int .i64 n) := blk_cell BX6.out 1; have px2 : w6.cell? ⟨w.heap.size, 2, none⟩ = some (.int .i64 view) := blk_cell BX6.out 2; have pm0 : w6.cell? ⟨w.heap.size + 1, 0, none⟩ = some (.int .i64 2) := blk_cell BM6.out 0; have pm1 : w6.cell? ⟨w.heap.size + 1, 1, none⟩ = some (.int .i64 a1) := blk_cell BM6.out 1; have pm2 : w6.cell? ⟨w.heap.size + 1, 2, none⟩ = some (.int .i64 a2) := blk_cell BM6.out 2; have pm3 : w6.cell? ⟨w.heap.size + 1, 3, none⟩ = some (.int .i64 a3) := blk_cell BM6.out 3; have pm4 : w6.cell? ⟨w.heap.size + 1, 4, none⟩ = some (.int .i64 a4) := blk_cell BM6.out 4; have pm5 : w6.cell? ⟨w.heap.size + 1, 5, none⟩ = some (.int .i64 a5) := blk_cell BM6.out 5; have pm6 : w6.cell? ⟨w.heap.size + 1, 6, none⟩ = some (.int .i64 a6) := blk_cell BM6.out 6; have pm7 : w6.cell? ⟨w.heap.size + 1, 7, none⟩ = some (.slice A a7.length c) := blk_cell BM6.out 7; clear hN hb6) | (go_at_call 22; refine (msg_Is.calls k 2 a1 a2 a3 a4 a5 a6 A c a7 true w6 (HMC.out _ HW6.out) LM.out HMS.out).mono ?_; rintro e w7 ⟨rfl, hb7⟩; have HN7 := Aside0.mk (HN6.out.below hb7); have HW7 := Aside0.mk (below_step HW6.out hb7); have SZ7 := Aside0.mk (show w.heap.size + 5 ≤ w7.heap.size by have h1 := hb7.size; have h2 := SZ6.out; omega); have BX7 := Aside0.mk ((hb7.block (w.heap.size) (by have := SZ6.out; omega)).trans BX6.out); have BM7 := Aside0.mk ((hb7.block (w.heap.size + 1) (by have := SZ6.out; omega)).trans BM6.out); have BY7 := Aside0.mk ((hb7.block (w.heap.size + 1 + 1) (by have := SZ6.out; omega)).trans BY6.out); have BL7 := Aside0.mk ((hb7.block (w.heap.size + 1 + 1 + 1) (by have := SZ6.out; omega)).trans BL6.out); have BE7 := Aside0.mk ((hb7.block (w.heap.size + 1 + 1 + 1 + 1) (by have := SZ6.out; omega)).trans BE6.out); have qx0 : w7.cell? ⟨w.heap.size, 0, none⟩ = some (.int .i64 id) := blk_cell BX7.out 0; have qx1 : w7.cell? ⟨w.heap.size, 1, none⟩ = some (.int .i64 n) := blk_cell BX7.out 1; have qx2 : w7.cell? ⟨w.heap.size, 2, none⟩ = some (.int .i64 view) := blk_cell BX7.out 2; have qm0 : w7.cell? ⟨w.heap.size + 1, 0, none⟩ = some (.int .i64 2) := blk_cell BM7.out 0; have qm1 : w7.cell? ⟨w.heap.size + 1, 1, none⟩ = some (.int .i64 a1) := blk_cell BM7.out 1; have qm2 : w7.cell? ⟨w.heap.size + 1, 2, none⟩ = some (.int .i64 a2) := blk_cell BM7.out 2; have qm3 : w7.cell? ⟨w.heap.size + 1, 3, none⟩ = some (.int .i64 a3) := blk_cell BM7.out 3; have qm4 : w7.cell? ⟨w.heap.size + 1, 4, none⟩ = some (.int .i64 a4) := blk_cell BM7.out 4; have qm5 : w7.cell? ⟨w.heap.size + 1, 5, none⟩ = some (.int .i64 a5) := blk_cell BM7.out 5; have qm6 : w7.cell? ⟨w.heap.size + 1, 6, none⟩ = some (.int .i64 a6) := blk_cell BM7.out 6; have qm7 : w7.cell? ⟨w.heap.size + 1, 7, none⟩ = some (.slice A a7.length c) := blk_cell BM7.out 7; obtain ⟨W1, r1, b1, s1, B1⟩ := ins_run (w7.alloc (.map #[] 0)) w7.heap.size #[] 0 1 (.func (.func 23) #[] #[]) (x_alloc_new _ _) rfl; obtain ⟨W2, r2, b2, s2, B2⟩ := ins_run W1 w7.heap.size _ _ 2 (.func (.func 24) #[] #[]) b1 rfl; obtain ⟨W3, r3, b3, s3, B3⟩ := ins_run W2 w7.heap.size _ _ 3 (.func (.func 25) #[] #[]) b2 rfl; have rl := look_run W3 w7.heap.size _ _ 2 (.func (.func 24) #[] #[]) 1 b3 rfl; have HW3 := Aside0.mk (show Below w7.heap.size w7 W3 from (below_alloc (Below.refl _ _) (.map #[] 0)).trans ((B1 _ (Nat.le_refl _)).trans ((B2 _ (Nat.le_refl _)).trans (B3 _ (Nat.le_refl _))))); clear b1 b2 b3 s1 s2 s3 B1 B2 B3; have HND := Aside0.mk (HN7.out.below HW3.out); have SZD := Aside0.mk (show w.heap.size + 5 ≤ W3.heap.size by have h1 := HW3.out.size; have h2 := SZ7.out; omega); have HWD := Aside0.mk (below_step HW7.out HW3.out); have BXD := Aside0.mk ((HW3.out.block (w.heap.size) (by have := SZ7.out; omega)).trans BX7.out); have BMD := Aside0.mk ((HW3.out.block (w.heap.size + 1) (by have := SZ7.out; omega)).trans BM7.out); have BYD := Aside0.mk ((HW3.out.block (w.heap.size + 1 + 1) (by have := SZ7.out; omega)).trans BY7.out); have BLD := Aside0.mk ((HW3.out.block (w.heap.size + 1 + 1 + 1) (by have := SZ7.out; omega)).trans BL7.out); have BED := Aside0.mk ((HW3.out.block (w.heap.size + 1 + 1 + 1 + 1) (by have := SZ7.out; omega)).trans BE7.out); have dm0 : W3.cell? ⟨w.heap.size + 1, 0, none⟩ = some (.int .i64 2) := blk_cell BMD.out 0; have dm1 : W3.cell? ⟨w.heap.size + 1, 1, none⟩ = some (.int .i64 a1) := blk_cell BMD.out 1; have dm2 : W3.cell? ⟨w.heap.size + 1, 2, none⟩ = some (.int .i64 a2) := blk_cell BMD.out 2; have dm3 : W3.cell? ⟨w.heap.size + 1, 3, none⟩ = some (.int .i64 a3) := blk_cell BMD.out 3; have dm4 : W3.cell? ⟨w.heap.size + 1, 4, none⟩ = some (.int .i64 a4) := blk_cell BMD.out 4; have dm5 : W3.cell? ⟨w.heap.size + 1, 5, none⟩ = some (.int .i64 a5) := blk_cell BMD.out 5; have dm6 : W3.cell? ⟨w.heap.size + 1, 6, none⟩ = some (.int .i64 a6) := blk_cell BMD.out 6; have dm7 : W3.cell? ⟨w.heap.size + 1, 7, none⟩ = some (.slice A a7.length c) := blk_cell BMD.out 7; clear hb7) | (go_at_call 24; refine (ack_did (Nod.opened ⟨id, n, view, last, works, commit, log, acks, votes, told⟩) (⟨2, a1, a2, a3, a4, a5, a6, a7⟩ : S28) A c W3 W3 (((((w.alloc (.cells #[.int .i64 id, .int .i64 n, .int .i64 view, .int .i64 last, .bool works, .int .i64 commit, .slice A6 log.length c6, .slice A7 acks.length c7, .slice A8 votes.length c8] 26)).alloc (.cells #[.int .i64 2, .int .i64 a1, .int .i64 a2, .int .i64 a3, .int .i64 a4, .int .i64 a5, .int .i64 a6, .slice A a7.length c] 28)).alloc (.cells #[.int .i64 0, .int .i64 0, .int .i64 0, .int .i64 0, .bool false, .int .i64 0, .slice none 0 0, .slice none 0 0, .slice none 0 0] 26)).alloc (.cells #[.slice none 0 0] 30)).alloc (.cells #[.int .i64 0] 31)).heap.size g _ HR.out.good (msg_facts HBM.out).2.2 (by have h1 := HT_F.out.2; show a1 < n; omega) (Did.refl HND.out)).mono ?_; rintro e w8 ⟨rfl, h8⟩; have HD8 := Aside0.mk h8; have HN8 := Aside0.mk h8.1; have HW8 := Aside0.mk (HWD.out.trans (below_weak h8.2.2.1 (by have := SZ5.out; omega))); have SZ8 := Aside0.mk (show w.heap.size + 5 ≤ w8.heap.size by have h1 := h8.2.2.1.size; have h2 := SZD.out; omega); have BY8 := Aside0.mk ((h8.2.2.1.block (w.heap.size + 1 + 1) (by rw [SZ5.out]; omega)).trans BYD.out); have BL8 := Aside0.mk ((h8.2.2.1.block (w.heap.size + 1 + 1 + 1) (by rw [SZ5.out]; omega)).trans BLD.out); have BE8 := Aside0.mk ((h8.2.2.1.block (w.heap.size + 1 + 1 + 1 + 1) (by rw [SZ5.out]; omega)).trans BED.out); obtain ⟨D6, d6, D7, d7, D8, d8, D9, d9, hbg, hres⟩ := HN8.out.res2; have HRES := Aside0.mk hres; have BG8 := Aside0.mk hbg; have tg0 : w8.cell? ⟨g, 0, none⟩ = some (.int .i64 ((Nod.opened ⟨id, n, view, last, works, commit, log, acks, votes, told⟩).ack (⟨2, a1, a2, a3, a4, a5, a6, a7⟩ : S28)).id) := blk_cell hbg 0; have tg1 : w8.cell? ⟨g, 1, none⟩ = some (.int .i64 ((Nod.opened ⟨id, n, view, last, works, commit, log, acks, votes, told⟩).ack (⟨2, a1, a2, a3, a4, a5, a6, a7⟩ : S28)).n) := blk_cell hbg 1; have tg2 : w8.cell? ⟨g, 2, none⟩ = some (.int .i64 ((Nod.opened ⟨id, n, view, last, works, commit, log, acks, votes, told⟩).ack (⟨2, a1, a2, a3, a4, a5, a6, a7⟩ : S28)).view) := blk_cell hbg 2; have tg3 : w8.cell? ⟨g, 3, none⟩ = some (.int .i64 ((Nod.opened ⟨id, n, view, last, works, commit, log, acks, votes, told⟩).ack (⟨2, a1, a2, a3, a4, a5, a6, a7⟩ : S28)).last) := blk_cell hbg 3; have tg4 : w8.cell? ⟨g, 4, none⟩ = some (.bool ((Nod.opened ⟨id, n, view, last, works, commit, log, acks, votes, told⟩).ack (⟨2, a1, a2, a3, a4, a5, a6, a7⟩ : S28)).works) := blk_cell hbg 4; have tg5 : w8.cell? ⟨g, 5, none⟩ = some (.int .i64 ((Nod.opened ⟨id, n, view, last, works, commit, log, acks, votes, told⟩).ack (⟨2, a1, a2, a3, a4, a5, a6, a7⟩ : S28)).commit) := blk_cell hbg 5; have tg6 : w8.cell? ⟨g, 6, none⟩ = some (.slice D6 (((Nod.opened ⟨id, n, view, last, works, commit, log, acks, votes, told⟩).ack (⟨2, a1, a2, a3, a4, a5, a6, a7⟩ : S28))).log.length d6) := blk_cell hbg 6; have tg7 : w8.cell? ⟨g, 7, none⟩ = some (.slice D7 (((Nod.opened ⟨id, n, view, last, works, commit, log, acks, votes, told⟩).ack (⟨2, a1, a2, a3, a4, a5, a6, a7⟩ : S28))).acks.length d7) := blk_cell hbg 7; have tg8 : w8.cell? ⟨g, 8, none⟩ = some (.slice D8 (((Nod.opened ⟨id, n, view, last, works, commit, log, acks, votes, told⟩).ack (⟨2, a1, a2, a3, a4, a5, a6, a7⟩ : S28))).votes.length d8) := blk_cell hbg 8; have tg9 : w8.cell? ⟨g, 9, none⟩ = some (.slice D9 (((Nod.opened ⟨id, n, view, last, works, commit, log, acks, votes, told⟩).ack (⟨2, a1, a2, a3, a4, a5, a6, a7⟩ : S28))).told.length d9) := blk_cell hbg 9; have ty0 : w8.cell? ⟨w.heap.size + 1 + 1, 0, none⟩ = some (.int .i64 0) := (blk_cell BY8.out 0).trans rfl; have tf0 := blk_frozen BY8.out 0; have ty1 : w8.cell? ⟨w.heap.size + 1 + 1, 1, none⟩ = some (.int .i64 0) := (blk_cell BY8.out 1).trans rfl; have tf1 := blk_frozen BY8.out 1; have ty2 : w8.cell? ⟨w.heap.size + 1 + 1, 2, none⟩ = some (.int .i64 0) := (blk_cell BY8.out 2).trans rfl; have tf2 := blk_frozen BY8.out 2; have ty3 : w8.cell? ⟨w.heap.size + 1 + 1, 3, none⟩ = some (.int .i64 0) := (blk_cell BY8.out 3).trans rfl; have tf3 := blk_frozen BY8.out 3; have ty4 : w8.cell? ⟨w.heap.size + 1 + 1, 4, none⟩ = some (.bool false) := (blk_cell BY8.out 4).trans rfl; have tf4 := blk_frozen BY8.out 4; have ty5 : w8.cell? ⟨w.heap.size + 1 + 1, 5, none⟩ = some (.int .i64 0) := (blk_cell BY8.out 5).trans rfl; have tf5 := blk_frozen BY8.out 5; have ty6 : w8.cell? ⟨w.heap.size + 1 + 1, 6, none⟩ = some (.slice none 0 0) := (blk_cell BY8.out 6).trans rfl; have tf6 := blk_frozen BY8.out 6; have ty7 : w8.cell? ⟨w.heap.size + 1 + 1, 7, none⟩ = some (.slice none 0 0) := (blk_cell BY8.out 7).trans rfl; have tf7 := blk_frozen BY8.out 7; have ty8 : w8.cell? ⟨w.heap.size + 1 + 1, 8, none⟩ = some (.slice none 0 0) := (blk_cell BY8.out 8).trans rfl; have tf8 := blk_frozen BY8.out 8; have tl0 : w8.cell? ⟨w.heap.size + 1 + 1 + 1, 0, none⟩ = some (.slice none 0 0) := (blk_cell BL8.out 0).trans rfl; have tl1 := blk_frozen BL8.out 0; have te0 : w8.cell? ⟨w.heap.size + 1 + 1 + 1 + 1, 0, none⟩ = some (.int .i64 0) := (blk_cell BE8.out 0).trans rfl; have te1 := blk_frozen BE8.out 0; have HGE := Aside0.mk (show w.heap.size + 5 ≤ g from by have h1 := HN8.out.ge; have h2 := SZ5.out; omega); have ney1 : g ≠ w.heap.size + 1 + 1 := (by have := HGE.out; omega); have ney2 : w.heap.size + 1 + 1 ≠ g := (by have := HGE.out; omega); have nel1 : g ≠ w.heap.size + 1 + 1 + 1 := (by have := HGE.out; omega); have nel2 : w.heap.size + 1 + 1 + 1 ≠ g := (by have := HGE.out; omega); have nee1 : g ≠ w.heap.size + 1 + 1 + 1 + 1 := (by have := HGE.out; omega); have nee2 : w.heap.size + 1 + 1 + 1 + 1 ≠ g := (by have := HGE.out; omega); have nyl : w.heap.size + 1 + 1 ≠ w.heap.size + 1 + 1 + 1 := (by omega); have nye : w.heap.size + 1 + 1 ≠ w.heap.size + 1 + 1 + 1 + 1 := (by omega); have nle : w.heap.size + 1 + 1 + 1 ≠ w.heap.size + 1 + 1 + 1 + 1 := (by omega); have nyl' := nyl.symm; have nye' := nye.symm; have nle' := nle.symm; clear hbg hres; clear h8))
  generalize he : w.heap.size + 1 + 1 + 1 + 1 = ge at *
  have HG_e := Aside0.mk he
  clear he
  generalize hl : w.heap.size + 1 + 1 + 1 = gl at *
  have HG_l := Aside0.mk hl
  clear hl
  generalize hy : w.heap.size + 1 + 1 = gy at *
  have HG_y := Aside0.mk hy
  clear hy
  go_region
  all_goals
    go_wp2
    have HST := stores_ret (w7 := w8) BY8.out BL8.out BE8.out nyl nye nle (.int .i64 (((Nod.opened ⟨id, n, view, last, works, commit, log, acks, votes, told⟩).ack (⟨2, a1, a2, a3, a4, a5, a6, a7⟩ : S28))).id) (.int .i64 (((Nod.opened ⟨id, n, view, last, works, commit, log, acks, votes, told⟩).ack (⟨2, a1, a2, a3, a4, a5, a6, a7⟩ : S28))).n) (.int .i64 (((Nod.opened ⟨id, n, view, last, works, commit, log, acks, votes, told⟩).ack (⟨2, a1, a2, a3, a4, a5, a6, a7⟩ : S28))).view) (.int .i64 (((Nod.opened ⟨id, n, view, last, works, commit, log, acks, votes, told⟩).ack (⟨2, a1, a2, a3, a4, a5, a6, a7⟩ : S28))).last) (.bool (((Nod.opened ⟨id, n, view, last, works, commit, log, acks, votes, told⟩).ack (⟨2, a1, a2, a3, a4, a5, a6, a7⟩ : S28))).works) (.int .i64 (((Nod.opened ⟨id, n, view, last, works, commit, log, acks, votes, told⟩).ack (⟨2, a1, a2, a3, a4, a5, a6, a7⟩ : S28))).commit) (.slice D6 (((Nod.opened ⟨id, n, view, last, works, commit, log, acks, votes, told⟩).ack (⟨2, a1, a2, a3, a4, a5, a6, a7⟩ : S28))).log.length d6) (.slice D7 (((Nod.opened ⟨id, n, view, last, works, commit, log, acks, votes, told⟩).ack (⟨2, a1, a2, a3, a4, a5, a6, a7⟩ : S28))).acks.length d7) (.slice D8 (((Nod.opened ⟨id, n, view, last, works, commit, log, acks, votes, told⟩).ack (⟨2, a1, a2, a3, a4, a5, a6, a7⟩ : S28))).votes.length d8) (.slice D9 (((Nod.opened ⟨id, n, view, last, works, commit, log, acks, votes, told⟩).ack (⟨2, a1, a2, a3, a4, a5, a6, a7⟩ : S28))).told.length d9) (.int .i64 0)
    refine leaves_cons (f := 20) (args := #[.pointer (some ⟨gy, 0, none⟩), .pointer (some ⟨gl, 0, none⟩), .pointer (some ⟨ge, 0, none⟩)]) (by simp) (by kernel_rfl) ?_
    refine (caught_idle ⟨gy, 0, none⟩ ⟨gl, 0, none⟩ ⟨ge, 0, none⟩ _).mono ?_
    rintro e u' w9 ⟨rfl, rfl, rfl⟩
    have E1 := HG_e.out
    have E2 := HG_l.out
    have E3 := HG_y.out
    have E4 := SZ5.out
    refine ⟨_, results_8 rfl _ _ gy gl ge 26 _ (0, 0) _ _ rfl rfl rfl HST.1 rfl HST.2.1 HST.2.2.1, _, _, _, _, rfl, (HRES.out _ (fun k hk hl hg => HST.2.2.2.1 k (by omega) (by omega) (by omega))).lower (by omega), HW8.out.trans (HST.2.2.2.2 _ (by omega) (by omega) (by omega))⟩
end Go.Proofs.Ytfpfpckocemmdaa.P
end
section
namespace Go.Proofs.Ytfpfpckocemmdaa.P
open Go.RowKit Go.Proofs.YtfpfpckocemmdaaW.PrintWords Go.Proofs.YtfpfpckocemmdaaW.PrintLast Go.Proofs.YtfpfpckocemmdaaW.PrintMore
set_option linter.unusedVariables false
set_option linter.unusedSimpArgs false
set_option maxHeartbeats 8000000 in
set_option maxRecDepth 100000 in
theorem handle_vote (id n view last : Int) (works : Bool) (commit : Int) (log : List ByteArray) (acks : List Int) (votes : List S66) (told : List S28) (A6 A7 A8 : Option Addr) (c6 c7 c8 : Nat) (w : World) (h6 : Kd.C Kd.string w A6 log.length log) (l6 : log.length ≤ c6) (h7 : Kd.C (Kd.int .i64) w A7 acks.length acks) (l7 : acks.length ≤ c7) (h8 : Kd.C k66 w A8 votes.length votes) (l8 : votes.length ≤ c8)
    (hl : log.length < 4398046511104) (ha : acks.length < 4398046511104) (hvl : votes.length < 4398046511104) (hv : ∀ v, v ∈ votes → v.f3.length < 4398046511104 ∧ (Lit.int .i64 v.f0).wf = true) (a1 a2 a3 a4 a5 a6 : Int) (a7 : List ByteArray) (A : Option Addr) (c : Nat) (hm : Kd.C Kd.string w A a7.length a7) (lm : a7.length ≤ c)
    (his : isB ⟨id, n, view, last, works, commit, log, acks, votes, told⟩ = true) (hb : msgB (⟨3, a1, a2, a3, a4, a5, a6, a7⟩ : S28) = true) (h_t : a2 = id) (h_f : ¬ a1 = id) (h_n : ¬ a1 ≥ n) (h_v : a3 ≥ view) :
    Calls Try.prog 8 #[.agg #[.int .i64 id, .int .i64 n, .int .i64 view, .int .i64 last, .bool works, .int .i64 commit, .slice A6 log.length c6, .slice A7 acks.length c7, .slice A8 votes.length c8], .agg #[.int .i64 3, .int .i64 a1, .int .i64 a2, .int .i64 a3, .int .i64 a4, .int .i64 a5, .int .i64 a6, .slice A a7.length c]] w fun e w' => ∃ v6 v7 v8 v9, e = .returned (.tuple #[.agg #[.int .i64 ((Nod.opened ⟨id, n, view, last, works, commit, log, acks, votes, told⟩).vote (⟨3, a1, a2, a3, a4, a5, a6, a7⟩ : S28)).id, .int .i64 ((Nod.opened ⟨id, n, view, last, works, commit, log, acks, votes, told⟩).vote (⟨3, a1, a2, a3, a4, a5, a6, a7⟩ : S28)).n, .int .i64 ((Nod.opened ⟨id, n, view, last, works, commit, log, acks, votes, told⟩).vote (⟨3, a1, a2, a3, a4, a5, a6, a7⟩ : S28)).view, .int .i64 ((Nod.opened ⟨id, n, view, last, works, commit, log, acks, votes, told⟩).vote (⟨3, a1, a2, a3, a4, a5, a6, a7⟩ : S28)).last, .bool ((Nod.opened ⟨id, n, view, last, works, commit, log, acks, votes, told⟩).vote (⟨3, a1, a2, a3, a4, a5, a6, a7⟩ : S28)).works, .int .i64 ((Nod.opened ⟨id, n, view, last, works, commit, log, acks, votes, told⟩).vote (⟨3, a1, a2, a3, a4, a5, a6, a7⟩ : S28)).commit, v6, v7, v8], v9, .int .i64 0]) ∧ Res w' w.heap.size ((Nod.opened ⟨id, n, view, last, works, commit, log, acks, votes, told⟩).vote (⟨3, a1, a2, a3, a4, a5, a6, a7⟩ : S28)) v6 v7 v8 v9 ∧ Below w.heap.size w w' := by
  have hu26 := Try.underlying26
  have hu28 := Try.underlying28
  have hu57 := Try.underlying57
  have HR := Aside0.mk (right_of his)
  have hvs : votes.length ≤ 900 := by have h1 := HR.out.count; have h2 := HR.out.n7; simp only at h1 h2; omega
  have hvt : ∀ v, v ∈ votes → v.f3.length ≤ 1000 := fun v hv => by have h1 := (loggedB_len (votesB_all _ _ _ _ HR.out.votes v hv).2.2.2.2.2).1; omega
  obtain ⟨hw5, sz5, bx5, bm5, by5, bl5, be5⟩ := new5 w (.cells #[.int .i64 id, .int .i64 n, .int .i64 view, .int .i64 last, .bool works, .int .i64 commit, .slice A6 log.length c6, .slice A7 acks.length c7, .slice A8 votes.length c8] 26) (.cells #[.int .i64 3, .int .i64 a1, .int .i64 a2, .int .i64 a3, .int .i64 a4, .int .i64 a5, .int .i64 a6, .slice A a7.length c] 28) (.cells #[.int .i64 0, .int .i64 0, .int .i64 0, .int .i64 0, .bool false, .int .i64 0, .slice none 0 0, .slice none 0 0, .slice none 0 0] 26) (.cells #[.slice none 0 0] 30) (.cells #[.int .i64 0] 31)
  have HW5 := Aside0.mk hw5
  have SZ5 := Aside0.mk sz5
  have BX5 := Aside0.mk bx5
  have BM5 := Aside0.mk bm5
  have BY5 := Aside0.mk (five_zero by5)
  have BL5 := Aside0.mk bl5
  have BE5 := Aside0.mk be5
  clear hw5 sz5 bx5 bm5 by5 bl5 be5
  have H21 := Aside0.mk (open_is id n view last works commit log acks votes told A6 A7 A8 c6 c7 c8 _ (Kd.C_below h6 HW5.out) l6 (Kd.C_below h7 HW5.out) l7 (Kd.C_below h8 HW5.out) l8 hl ha hvl hv his hvs hvt)
  have HMC := Aside0.mk (fun (W : World) (hb : Below w.heap.size w W) => Kd.C_below hm hb)
  have LM := Aside0.mk lm
  obtain ⟨k, hk⟩ : ∃ k, 101 ≤ k := ⟨101, Nat.le_refl _⟩
  have HMS := Aside0.mk (msg_of k hk (⟨3, a1, a2, a3, a4, a5, a6, a7⟩ : S28))
  rw [hb] at HMS
  have ta : (a2 == id) = true := beq_iff_eq.mpr h_t
  have tb : (a2 != id) = false := bne_eq_false_iff_eq.mpr h_t
  have fa : (a1 == id) = false := beq_eq_false_iff_ne.mpr h_f
  have fb : (a1 != id) = true := bne_iff_ne.mpr h_f
  have na : decide (a1 ≥ n) = false := decide_eq_false h_n
  have nb : decide (n ≤ a1) = false := decide_eq_false h_n
  have va : decide (a3 ≥ view) = true := decide_eq_true h_v
  have vb : decide (view ≤ a3) = true := decide_eq_true h_v
  have hmk : ∀ W : World, (Instr.makeMap 55 none).run Try.prog W = .ok (.map (some W.heap.size)) (W.alloc (.map #[] 0)) := fun _ => rfl
  have HBM := Aside0.mk hb
  have HT_F := Aside0.mk (And.intro h_f h_n)
  have HVW := Aside0.mk h_v
  clear hb h_t h_f h_n h_v
  clear h6 l6 h7 l7 h8 l8 hl ha hvl hv his hvs hvt hm lm hk
  go_enter_defers Try.func8, Try.ntmps8
  go_wp2_with (first | (go_at_call 21; refine H21.out.mono ?_; rintro e w6 ⟨g, rfl, hN, hb6⟩; have HN6 := Aside0.mk hN; have HW6 := Aside0.mk (below_step HW5.out hb6); have SZ6 := Aside0.mk (show w.heap.size + 5 ≤ w6.heap.size by have h1 := hb6.size; have h2 := SZ5.out; omega); have BX6 := Aside0.mk ((hb6.block (w.heap.size) (by rw [SZ5.out]; omega)).trans BX5.out); have BM6 := Aside0.mk ((hb6.block (w.heap.size + 1) (by rw [SZ5.out]; omega)).trans BM5.out); have BY6 := Aside0.mk ((hb6.block (w.heap.size + 1 + 1) (by rw [SZ5.out]; omega)).trans BY5.out); have BL6 := Aside0.mk ((hb6.block (w.heap.size + 1 + 1 + 1) (by rw [SZ5.out]; omega)).trans BL5.out); have BE6 := Aside0.mk ((hb6.block (w.heap.size + 1 + 1 + 1 + 1) (by rw [SZ5.out]; omega)).trans BE5.out); have px0 : w6.cell? ⟨w.heap.size, 0, none⟩ = some (.int .i64 id) := blk_cell BX6.out 0; have px1 : w6.cell? ⟨w.heap.size, 1, none⟩ = some (.int .i64 n) := blk_cell BX6.out 1; have px2 : w6.cell? ⟨w.heap.size, 2, none⟩ = some (.int .i64 view) := blk_cell BX6.out 2; have pm0 : w6.cell? ⟨w.heap.size + 1, 0, none⟩ = some (.int .i64 3) := blk_cell BM6.out 0; have pm1 : w6.cell? ⟨w.heap.size + 1, 1, none⟩ = some (.int .i64 a1) := blk_cell BM6.out 1; have pm2 : w6.cell? ⟨w.heap.size + 1, 2, none⟩ = some (.int .i64 a2) := blk_cell BM6.out 2; have pm3 : w6.cell? ⟨w.heap.size + 1, 3, none⟩ = some (.int .i64 a3) := blk_cell BM6.out 3; have pm4 : w6.cell? ⟨w.heap.size + 1, 4, none⟩ = some (.int .i64 a4) := blk_cell BM6.out 4; have pm5 : w6.cell? ⟨w.heap.size + 1, 5, none⟩ = some (.int .i64 a5) := blk_cell BM6.out 5; have pm6 : w6.cell? ⟨w.heap.size + 1, 6, none⟩ = some (.int .i64 a6) := blk_cell BM6.out 6; have pm7 : w6.cell? ⟨w.heap.size + 1, 7, none⟩ = some (.slice A a7.length c) := blk_cell BM6.out 7; clear hN hb6) | (go_at_call 22; refine (msg_Is.calls k 3 a1 a2 a3 a4 a5 a6 A c a7 true w6 (HMC.out _ HW6.out) LM.out HMS.out).mono ?_; rintro e w7 ⟨rfl, hb7⟩; have HN7 := Aside0.mk (HN6.out.below hb7); have HW7 := Aside0.mk (below_step HW6.out hb7); have SZ7 := Aside0.mk (show w.heap.size + 5 ≤ w7.heap.size by have h1 := hb7.size; have h2 := SZ6.out; omega); have BX7 := Aside0.mk ((hb7.block (w.heap.size) (by have := SZ6.out; omega)).trans BX6.out); have BM7 := Aside0.mk ((hb7.block (w.heap.size + 1) (by have := SZ6.out; omega)).trans BM6.out); have BY7 := Aside0.mk ((hb7.block (w.heap.size + 1 + 1) (by have := SZ6.out; omega)).trans BY6.out); have BL7 := Aside0.mk ((hb7.block (w.heap.size + 1 + 1 + 1) (by have := SZ6.out; omega)).trans BL6.out); have BE7 := Aside0.mk ((hb7.block (w.heap.size + 1 + 1 + 1 + 1) (by have := SZ6.out; omega)).trans BE6.out); have qx0 : w7.cell? ⟨w.heap.size, 0, none⟩ = some (.int .i64 id) := blk_cell BX7.out 0; have qx1 : w7.cell? ⟨w.heap.size, 1, none⟩ = some (.int .i64 n) := blk_cell BX7.out 1; have qx2 : w7.cell? ⟨w.heap.size, 2, none⟩ = some (.int .i64 view) := blk_cell BX7.out 2; have qm0 : w7.cell? ⟨w.heap.size + 1, 0, none⟩ = some (.int .i64 3) := blk_cell BM7.out 0; have qm1 : w7.cell? ⟨w.heap.size + 1, 1, none⟩ = some (.int .i64 a1) := blk_cell BM7.out 1; have qm2 : w7.cell? ⟨w.heap.size + 1, 2, none⟩ = some (.int .i64 a2) := blk_cell BM7.out 2; have qm3 : w7.cell? ⟨w.heap.size + 1, 3, none⟩ = some (.int .i64 a3) := blk_cell BM7.out 3; have qm4 : w7.cell? ⟨w.heap.size + 1, 4, none⟩ = some (.int .i64 a4) := blk_cell BM7.out 4; have qm5 : w7.cell? ⟨w.heap.size + 1, 5, none⟩ = some (.int .i64 a5) := blk_cell BM7.out 5; have qm6 : w7.cell? ⟨w.heap.size + 1, 6, none⟩ = some (.int .i64 a6) := blk_cell BM7.out 6; have qm7 : w7.cell? ⟨w.heap.size + 1, 7, none⟩ = some (.slice A a7.length c) := blk_cell BM7.out 7; obtain ⟨W1, r1, b1, s1, B1⟩ := ins_run (w7.alloc (.map #[] 0)) w7.heap.size #[] 0 1 (.func (.func 23) #[] #[]) (x_alloc_new _ _) rfl; obtain ⟨W2, r2, b2, s2, B2⟩ := ins_run W1 w7.heap.size _ _ 2 (.func (.func 24) #[] #[]) b1 rfl; obtain ⟨W3, r3, b3, s3, B3⟩ := ins_run W2 w7.heap.size _ _ 3 (.func (.func 25) #[] #[]) b2 rfl; have rl := look_run W3 w7.heap.size _ _ 3 (.func (.func 25) #[] #[]) 2 b3 rfl; have HW3 := Aside0.mk (show Below w7.heap.size w7 W3 from (below_alloc (Below.refl _ _) (.map #[] 0)).trans ((B1 _ (Nat.le_refl _)).trans ((B2 _ (Nat.le_refl _)).trans (B3 _ (Nat.le_refl _))))); clear b1 b2 b3 s1 s2 s3 B1 B2 B3; have HND := Aside0.mk (HN7.out.below HW3.out); have SZD := Aside0.mk (show w.heap.size + 5 ≤ W3.heap.size by have h1 := HW3.out.size; have h2 := SZ7.out; omega); have HWD := Aside0.mk (below_step HW7.out HW3.out); have BXD := Aside0.mk ((HW3.out.block (w.heap.size) (by have := SZ7.out; omega)).trans BX7.out); have BMD := Aside0.mk ((HW3.out.block (w.heap.size + 1) (by have := SZ7.out; omega)).trans BM7.out); have BYD := Aside0.mk ((HW3.out.block (w.heap.size + 1 + 1) (by have := SZ7.out; omega)).trans BY7.out); have BLD := Aside0.mk ((HW3.out.block (w.heap.size + 1 + 1 + 1) (by have := SZ7.out; omega)).trans BL7.out); have BED := Aside0.mk ((HW3.out.block (w.heap.size + 1 + 1 + 1 + 1) (by have := SZ7.out; omega)).trans BE7.out); have dm0 : W3.cell? ⟨w.heap.size + 1, 0, none⟩ = some (.int .i64 3) := blk_cell BMD.out 0; have dm1 : W3.cell? ⟨w.heap.size + 1, 1, none⟩ = some (.int .i64 a1) := blk_cell BMD.out 1; have dm2 : W3.cell? ⟨w.heap.size + 1, 2, none⟩ = some (.int .i64 a2) := blk_cell BMD.out 2; have dm3 : W3.cell? ⟨w.heap.size + 1, 3, none⟩ = some (.int .i64 a3) := blk_cell BMD.out 3; have dm4 : W3.cell? ⟨w.heap.size + 1, 4, none⟩ = some (.int .i64 a4) := blk_cell BMD.out 4; have dm5 : W3.cell? ⟨w.heap.size + 1, 5, none⟩ = some (.int .i64 a5) := blk_cell BMD.out 5; have dm6 : W3.cell? ⟨w.heap.size + 1, 6, none⟩ = some (.int .i64 a6) := blk_cell BMD.out 6; have dm7 : W3.cell? ⟨w.heap.size + 1, 7, none⟩ = some (.slice A a7.length c) := blk_cell BMD.out 7; clear hb7) | (go_at_call 25; refine (vote_did (Nod.opened ⟨id, n, view, last, works, commit, log, acks, votes, told⟩) (⟨3, a1, a2, a3, a4, a5, a6, a7⟩ : S28) A c W3 W3 (((((w.alloc (.cells #[.int .i64 id, .int .i64 n, .int .i64 view, .int .i64 last, .bool works, .int .i64 commit, .slice A6 log.length c6, .slice A7 acks.length c7, .slice A8 votes.length c8] 26)).alloc (.cells #[.int .i64 3, .int .i64 a1, .int .i64 a2, .int .i64 a3, .int .i64 a4, .int .i64 a5, .int .i64 a6, .slice A a7.length c] 28)).alloc (.cells #[.int .i64 0, .int .i64 0, .int .i64 0, .int .i64 0, .bool false, .int .i64 0, .slice none 0 0, .slice none 0 0, .slice none 0 0] 26)).alloc (.cells #[.slice none 0 0] 30)).alloc (.cells #[.int .i64 0] 31)).heap.size g _ HR.out.good rfl (msg_facts HBM.out).2.2 (by have h1 := HT_F.out.2; show a1 < n; omega) (msg_facts HBM.out).1 (opened_votes HR.out) LM.out (msg_facts HBM.out).2.1 (fun W hb => HMC.out W (HWD.out.trans (below_weak hb (by have := SZ5.out; omega)))) (Did.refl HND.out)).mono ?_; rintro e w8 ⟨rfl, h8⟩; have HD8 := Aside0.mk h8; have HN8 := Aside0.mk h8.1; have HW8 := Aside0.mk (HWD.out.trans (below_weak h8.2.2.1 (by have := SZ5.out; omega))); have SZ8 := Aside0.mk (show w.heap.size + 5 ≤ w8.heap.size by have h1 := h8.2.2.1.size; have h2 := SZD.out; omega); have BY8 := Aside0.mk ((h8.2.2.1.block (w.heap.size + 1 + 1) (by rw [SZ5.out]; omega)).trans BYD.out); have BL8 := Aside0.mk ((h8.2.2.1.block (w.heap.size + 1 + 1 + 1) (by rw [SZ5.out]; omega)).trans BLD.out); have BE8 := Aside0.mk ((h8.2.2.1.block (w.heap.size + 1 + 1 + 1 + 1) (by rw [SZ5.out]; omega)).trans BED.out); obtain ⟨D6, d6, D7, d7, D8, d8, D9, d9, hbg, hres⟩ := HN8.out.res2; have HRES := Aside0.mk hres; have BG8 := Aside0.mk hbg; have tg0 : w8.cell? ⟨g, 0, none⟩ = some (.int .i64 ((Nod.opened ⟨id, n, view, last, works, commit, log, acks, votes, told⟩).vote (⟨3, a1, a2, a3, a4, a5, a6, a7⟩ : S28)).id) := blk_cell hbg 0; have tg1 : w8.cell? ⟨g, 1, none⟩ = some (.int .i64 ((Nod.opened ⟨id, n, view, last, works, commit, log, acks, votes, told⟩).vote (⟨3, a1, a2, a3, a4, a5, a6, a7⟩ : S28)).n) := blk_cell hbg 1; have tg2 : w8.cell? ⟨g, 2, none⟩ = some (.int .i64 ((Nod.opened ⟨id, n, view, last, works, commit, log, acks, votes, told⟩).vote (⟨3, a1, a2, a3, a4, a5, a6, a7⟩ : S28)).view) := blk_cell hbg 2; have tg3 : w8.cell? ⟨g, 3, none⟩ = some (.int .i64 ((Nod.opened ⟨id, n, view, last, works, commit, log, acks, votes, told⟩).vote (⟨3, a1, a2, a3, a4, a5, a6, a7⟩ : S28)).last) := blk_cell hbg 3; have tg4 : w8.cell? ⟨g, 4, none⟩ = some (.bool ((Nod.opened ⟨id, n, view, last, works, commit, log, acks, votes, told⟩).vote (⟨3, a1, a2, a3, a4, a5, a6, a7⟩ : S28)).works) := blk_cell hbg 4; have tg5 : w8.cell? ⟨g, 5, none⟩ = some (.int .i64 ((Nod.opened ⟨id, n, view, last, works, commit, log, acks, votes, told⟩).vote (⟨3, a1, a2, a3, a4, a5, a6, a7⟩ : S28)).commit) := blk_cell hbg 5; have tg6 : w8.cell? ⟨g, 6, none⟩ = some (.slice D6 (((Nod.opened ⟨id, n, view, last, works, commit, log, acks, votes, told⟩).vote (⟨3, a1, a2, a3, a4, a5, a6, a7⟩ : S28))).log.length d6) := blk_cell hbg 6; have tg7 : w8.cell? ⟨g, 7, none⟩ = some (.slice D7 (((Nod.opened ⟨id, n, view, last, works, commit, log, acks, votes, told⟩).vote (⟨3, a1, a2, a3, a4, a5, a6, a7⟩ : S28))).acks.length d7) := blk_cell hbg 7; have tg8 : w8.cell? ⟨g, 8, none⟩ = some (.slice D8 (((Nod.opened ⟨id, n, view, last, works, commit, log, acks, votes, told⟩).vote (⟨3, a1, a2, a3, a4, a5, a6, a7⟩ : S28))).votes.length d8) := blk_cell hbg 8; have tg9 : w8.cell? ⟨g, 9, none⟩ = some (.slice D9 (((Nod.opened ⟨id, n, view, last, works, commit, log, acks, votes, told⟩).vote (⟨3, a1, a2, a3, a4, a5, a6, a7⟩ : S28))).told.length d9) := blk_cell hbg 9; have ty0 : w8.cell? ⟨w.heap.size + 1 + 1, 0, none⟩ = some (.int .i64 0) := (blk_cell BY8.out 0).trans rfl; have tf0 := blk_frozen BY8.out 0; have ty1 : w8.cell? ⟨w.heap.size + 1 + 1, 1, none⟩ = some (.int .i64 0) := (blk_cell BY8.out 1).trans rfl; have tf1 := blk_frozen BY8.out 1; have ty2 : w8.cell? ⟨w.heap.size + 1 + 1, 2, none⟩ = some (.int .i64 0) := (blk_cell BY8.out 2).trans rfl; have tf2 := blk_frozen BY8.out 2; have ty3 : w8.cell? ⟨w.heap.size + 1 + 1, 3, none⟩ = some (.int .i64 0) := (blk_cell BY8.out 3).trans rfl; have tf3 := blk_frozen BY8.out 3; have ty4 : w8.cell? ⟨w.heap.size + 1 + 1, 4, none⟩ = some (.bool false) := (blk_cell BY8.out 4).trans rfl; have tf4 := blk_frozen BY8.out 4; have ty5 : w8.cell? ⟨w.heap.size + 1 + 1, 5, none⟩ = some (.int .i64 0) := (blk_cell BY8.out 5).trans rfl; have tf5 := blk_frozen BY8.out 5; have ty6 : w8.cell? ⟨w.heap.size + 1 + 1, 6, none⟩ = some (.slice none 0 0) := (blk_cell BY8.out 6).trans rfl; have tf6 := blk_frozen BY8.out 6; have ty7 : w8.cell? ⟨w.heap.size + 1 + 1, 7, none⟩ = some (.slice none 0 0) := (blk_cell BY8.out 7).trans rfl; have tf7 := blk_frozen BY8.out 7; have ty8 : w8.cell? ⟨w.heap.size + 1 + 1, 8, none⟩ = some (.slice none 0 0) := (blk_cell BY8.out 8).trans rfl; have tf8 := blk_frozen BY8.out 8; have tl0 : w8.cell? ⟨w.heap.size + 1 + 1 + 1, 0, none⟩ = some (.slice none 0 0) := (blk_cell BL8.out 0).trans rfl; have tl1 := blk_frozen BL8.out 0; have te0 : w8.cell? ⟨w.heap.size + 1 + 1 + 1 + 1, 0, none⟩ = some (.int .i64 0) := (blk_cell BE8.out 0).trans rfl; have te1 := blk_frozen BE8.out 0; have HGE := Aside0.mk (show w.heap.size + 5 ≤ g from by have h1 := HN8.out.ge; have h2 := SZ5.out; omega); have ney1 : g ≠ w.heap.size + 1 + 1 := (by have := HGE.out; omega); have ney2 : w.heap.size + 1 + 1 ≠ g := (by have := HGE.out; omega); have nel1 : g ≠ w.heap.size + 1 + 1 + 1 := (by have := HGE.out; omega); have nel2 : w.heap.size + 1 + 1 + 1 ≠ g := (by have := HGE.out; omega); have nee1 : g ≠ w.heap.size + 1 + 1 + 1 + 1 := (by have := HGE.out; omega); have nee2 : w.heap.size + 1 + 1 + 1 + 1 ≠ g := (by have := HGE.out; omega); have nyl : w.heap.size + 1 + 1 ≠ w.heap.size + 1 + 1 + 1 := (by omega); have nye : w.heap.size + 1 + 1 ≠ w.heap.size + 1 + 1 + 1 + 1 := (by omega); have nle : w.heap.size + 1 + 1 + 1 ≠ w.heap.size + 1 + 1 + 1 + 1 := (by omega); have nyl' := nyl.symm; have nye' := nye.symm; have nle' := nle.symm; clear hbg hres; clear h8))
  generalize he : w.heap.size + 1 + 1 + 1 + 1 = ge at *
  have HG_e := Aside0.mk he
  clear he
  generalize hl : w.heap.size + 1 + 1 + 1 = gl at *
  have HG_l := Aside0.mk hl
  clear hl
  generalize hy : w.heap.size + 1 + 1 = gy at *
  have HG_y := Aside0.mk hy
  clear hy
  go_region
  all_goals
    go_wp2
    have HST := stores_ret (w7 := w8) BY8.out BL8.out BE8.out nyl nye nle (.int .i64 (((Nod.opened ⟨id, n, view, last, works, commit, log, acks, votes, told⟩).vote (⟨3, a1, a2, a3, a4, a5, a6, a7⟩ : S28))).id) (.int .i64 (((Nod.opened ⟨id, n, view, last, works, commit, log, acks, votes, told⟩).vote (⟨3, a1, a2, a3, a4, a5, a6, a7⟩ : S28))).n) (.int .i64 (((Nod.opened ⟨id, n, view, last, works, commit, log, acks, votes, told⟩).vote (⟨3, a1, a2, a3, a4, a5, a6, a7⟩ : S28))).view) (.int .i64 (((Nod.opened ⟨id, n, view, last, works, commit, log, acks, votes, told⟩).vote (⟨3, a1, a2, a3, a4, a5, a6, a7⟩ : S28))).last) (.bool (((Nod.opened ⟨id, n, view, last, works, commit, log, acks, votes, told⟩).vote (⟨3, a1, a2, a3, a4, a5, a6, a7⟩ : S28))).works) (.int .i64 (((Nod.opened ⟨id, n, view, last, works, commit, log, acks, votes, told⟩).vote (⟨3, a1, a2, a3, a4, a5, a6, a7⟩ : S28))).commit) (.slice D6 (((Nod.opened ⟨id, n, view, last, works, commit, log, acks, votes, told⟩).vote (⟨3, a1, a2, a3, a4, a5, a6, a7⟩ : S28))).log.length d6) (.slice D7 (((Nod.opened ⟨id, n, view, last, works, commit, log, acks, votes, told⟩).vote (⟨3, a1, a2, a3, a4, a5, a6, a7⟩ : S28))).acks.length d7) (.slice D8 (((Nod.opened ⟨id, n, view, last, works, commit, log, acks, votes, told⟩).vote (⟨3, a1, a2, a3, a4, a5, a6, a7⟩ : S28))).votes.length d8) (.slice D9 (((Nod.opened ⟨id, n, view, last, works, commit, log, acks, votes, told⟩).vote (⟨3, a1, a2, a3, a4, a5, a6, a7⟩ : S28))).told.length d9) (.int .i64 0)
    refine leaves_cons (f := 20) (args := #[.pointer (some ⟨gy, 0, none⟩), .pointer (some ⟨gl, 0, none⟩), .pointer (some ⟨ge, 0, none⟩)]) (by simp) (by kernel_rfl) ?_
    refine (caught_idle ⟨gy, 0, none⟩ ⟨gl, 0, none⟩ ⟨ge, 0, none⟩ _).mono ?_
    rintro e u' w9 ⟨rfl, rfl, rfl⟩
    have E1 := HG_e.out
    have E2 := HG_l.out
    have E3 := HG_y.out
    have E4 := SZ5.out
    refine ⟨_, results_8 rfl _ _ gy gl ge 26 _ (0, 0) _ _ rfl rfl rfl HST.1 rfl HST.2.1 HST.2.2.1, _, _, _, _, rfl, (HRES.out _ (fun k hk hl hg => HST.2.2.2.1 k (by omega) (by omega) (by omega))).lower (by omega), HW8.out.trans (HST.2.2.2.2 _ (by omega) (by omega) (by omega))⟩
end Go.Proofs.Ytfpfpckocemmdaa.P
end
section
namespace Go.Proofs.Ytfpfpckocemmdaa.P
open Go.RowKit Go.Proofs.YtfpfpckocemmdaaW.PrintWords Go.Proofs.YtfpfpckocemmdaaW.PrintLast Go.Proofs.YtfpfpckocemmdaaW.PrintMore
set_option linter.unusedVariables false
set_option linter.unusedSimpArgs false
def Nod.logs (x : Nod) (s : ByteArray) : Nod := { x with log := x.log ++ [s] }
theorem Did.log_core {w0 w : World} {base g : Nat} {ok : Nat → Prop} {x : Nod} {v0 : Value} (h : Did w0 w base g ok x) (hc : w.cell? ⟨g, 6, none⟩ = some v0) :
    ∃ P : Nat → Prop, Kd.R Kd.string 9 w base P v0 x.log ∧ (∀ k, w.heap.size ≤ k → P k) ∧ base ≤ w.heap.size ∧
      ∀ s v1 w1, Kd.R Kd.string 9 w1 base P v1 (x.log ++ [s]) → w.grownBy w1 v0.ownBlock → Did w0 (w1.setCell ⟨g, 6, none⟩ v1) base g ok (x.logs s) ∧ w1.heap[g]? = w.heap[g]? := by
  have hlt := h.1.lt
  have hge := h.1.ge
  have hbase : base ≤ w.heap.size := by have := h.2.2.1.size; have := h.2.2.2.1; omega
  obtain ⟨v6, v7, v8, v9, P6, P7, P8, P9, hb6, hg, ⟨hok, hok2⟩, h6, h7, h8, h9, ho, a6, a7, a8⟩ := h.1.bound
  have e6 : v6 = v0 := by
    have h1 : w.cell? ⟨g, 6, none⟩ = some v6 := blk_cell hb6 6
    rw [h1] at hc
    exact Option.some.inj hc
  subst e6
  have hown : ∀ k, v6.ownBlock = some k → P6 k := h6.1
  have hP6 : ∀ k, P6 k → k < w.heap.size ∧ k ≠ g := fun k hk => ⟨(ho k (.inl hk)).1.2.1, (ho k (.inl hk)).2⟩
  refine ⟨fun k => P6 k ∨ w.heap.size ≤ k, Kd.R_mono h6 (fun k hk => .inl hk), fun k hk => .inr hk, hbase, ?_⟩
  intro s v1 w1 hs hgr
  have hstay : ∀ k, k < w.heap.size → ¬ P6 k → w1.heap[k]? = w.heap[k]? := fun k hk hn => hgr.block k hk (fun e => hn (hown k e.symm))
  have hg1 : w1.heap[g]? = w.heap[g]? := hstay g hlt (fun hp => (hP6 g hp).2 rfl)
  have hsz : w.heap.size ≤ w1.heap.size := hgr.size
  have hb1 : w1.heap[g]? = some (.cells (x.cells v6 v7 v8 v9) 57 (0, 0)) := hg1.trans hb6
  have hnd : Nd (w1.setCell ⟨g, 6, none⟩ v1) base g (fun k => ok k ∨ w0.heap.size ≤ k) (x.logs s) := by
    have hs0 : w0.heap.size ≤ w.heap.size := h.2.2.1.size
    refine ⟨v1, v7, v8, v9, fun k => P6 k ∨ w.heap.size ≤ k, P7, P8, P9, blk_put (cs' := (x.logs s).cells v1 v7 v8 v9) hb1 6 _ rfl, hg, hok, ?_, ?_, ?_, ?_, ?_, ?_, a7, a8⟩
    · exact Kd.R_far hs (fun k hp e => by rcases hp with hp | hp; exact (hP6 k hp).2 e; have : k = g := e; omega) _
    · exact Kd.R_far (Kd.R_step h7 (fun k hp hl => hstay k hl (fun h => (a6 k h).1 hp))) (fun k hp => (ho k (.inr (.inl hp))).2) _
    · exact Kd.S_far (Kd.S_step h8 (fun k hp hl => hstay k hl (fun h => (a6 k h).2.1 hp))) (fun k hp => (ho k (.inr (.inr (.inl hp)))).2) _
    · exact Kd.S_far (Kd.S_step h9 (fun k hp hl => hstay k hl (fun h => (a6 k h).2.2 hp))) (fun k hp => (ho k (.inr (.inr (.inr hp)))).2) _
    · rintro k ((hk | hk) | hk | hk | hk)
      · exact ⟨(ho k (.inl hk)).1.1, (ho k (.inl hk)).2⟩
      · exact ⟨.inr (by omega), by omega⟩
      · exact ⟨(ho k (.inr (.inl hk))).1.1, (ho k (.inr (.inl hk))).2⟩
      · exact ⟨(ho k (.inr (.inr (.inl hk)))).1.1, (ho k (.inr (.inr (.inl hk)))).2⟩
      · exact ⟨(ho k (.inr (.inr (.inr hk)))).1.1, (ho k (.inr (.inr (.inr hk)))).2⟩
    · rintro k (hk | hk)
      · exact a6 k hk
      · exact ⟨fun h => by have := (ho k (.inr (.inl h))).1.2.1; omega, fun h => by have := (ho k (.inr (.inr (.inl h)))).1.2.1; omega, fun h => by have := (ho k (.inr (.inr (.inr h)))).1.2.1; omega⟩
  have hown6 : ∀ k, P6 k → (ok k ∨ w0.heap.size ≤ k) ∧ base ≤ k := fun k hk => ⟨(ho k (.inl hk)).1.1, (ho k (.inl hk)).1.2.2⟩
  have hkept : Kept w0 w1 ok := h.2.1.then_ (S2 := fun k => P6 k) ⟨hsz, fun k hk hn => hstay k hk hn⟩ (fun k hk => (hown6 k hk).1)
  have hbel : Below base w0 w1 := h.2.2.1.trans ⟨hgr.os, hgr.tape, hgr.output, hsz, fun k hk => hstay k (by omega) (fun hp => by have := (hown6 k hp).2; omega)⟩
  exact ⟨⟨hnd, hkept.setCell (.inl h.2.2.2.2) _, below_at hbel hge, h.2.2.2⟩, hg1⟩
theorem log_wp {w0 w : World} {base g : Nat} {ok : Nat → Prop} {x : Nod} {ops : Array Oper} {rest : List Oper} {o : Oper} {a : Act} {Q : Exit → Act → World → Prop} (t : ByteArray) (A6 : Option Addr) (c6 : Nat) (h : Did w0 w base g ok x) (hc : w.cell? ⟨g, 6, none⟩ = some (.slice A6 x.log.length c6)) (hl : x.log.length ≤ 100000)
    (hg : o.guard = none) (s y : Operand) (ho : o.op = .call { callee := .builtin .append, args := #[s, y], argTypes := #[22, 22] }) (hs : a.eval s = .slice A6 x.log.length c6) (hy : a.eval y = .slice (some ⟨w.heap.size, 0, none⟩) 1 1)
    (hk : ∀ A1 c1 w1, Did w0 (w1.setCell ⟨g, 6, none⟩ (.slice A1 (x.logs t).log.length c1)) base g ok (x.logs t) → w1.heap[g]? = w.heap[g]? → wpList Try.prog ops Q rest (a.put o.dst (.slice A1 (x.logs t).log.length c1)) w1) :
    wpList Try.prog ops Q (o :: rest) a (w.alloc (.cells #[.string t] 9)) := by
  obtain ⟨P, hR, hP, hbase, hend⟩ := h.log_core hc
  refine Kd.R_append Kd.string (w0 := w) base hg s y 22 9 (.string ⟨#[]⟩) 16 ho Try.underlying22 info9 rfl (by decide) (by omega) _ x.log t [.string t] P (fun _ => False) hs hy rfl (fun k hk => hk.elim) hP hR (Below.refl _ _) hbase (by have := hl; omega) ?_
  intro v1 w1 hs1 hb1 hg1 _
  obtain ⟨A1, c1, rfl⟩ := Kd.R_slice hs1
  obtain ⟨hd, he⟩ := hend t _ w1 hs1 hg1
  exact hk A1 c1 w1 hd he
end Go.Proofs.Ytfpfpckocemmdaa.P
end
section
namespace Go.Proofs.Ytfpfpckocemmdaa.P
open Go.RowKit Go.Proofs.YtfpfpckocemmdaaW.PrintWords Go.Proofs.YtfpfpckocemmdaaW.PrintLast Go.Proofs.YtfpfpckocemmdaaW.PrintMore
set_option linter.unusedVariables false
set_option linter.unusedSimpArgs false
set_option maxHeartbeats 8000000 in
set_option maxRecDepth 100000 in
theorem ask_view (id n view last : Int) (works : Bool) (commit : Int) (log : List ByteArray) (acks : List Int) (votes : List S66) (told : List S28) (A6 A7 A8 : Option Addr) (c6 c7 c8 : Nat) (w : World) (h6 : Kd.C Kd.string w A6 log.length log) (l6 : log.length ≤ c6) (h7 : Kd.C (Kd.int .i64) w A7 acks.length acks) (l7 : acks.length ≤ c7) (h8 : Kd.C k66 w A8 votes.length votes) (l8 : votes.length ≤ c8)
    (hl : log.length < 4398046511104) (ha : acks.length < 4398046511104) (hvl : votes.length < 4398046511104) (hv : ∀ v, v ∈ votes → v.f3.length < 4398046511104 ∧ (Lit.int .i64 v.f0).wf = true) (s : ByteArray)
    (his : isB ⟨id, n, view, last, works, commit, log, acks, votes, told⟩ = true) (hld : (Nod.opened ⟨id, n, view, last, works, commit, log, acks, votes, told⟩).leads = false) :
    Calls Try.prog 13 #[.agg #[.int .i64 id, .int .i64 n, .int .i64 view, .int .i64 last, .bool works, .int .i64 commit, .slice A6 log.length c6, .slice A7 acks.length c7, .slice A8 votes.length c8], .string s] w fun e w' => ∃ v6 v7 v8 v9, e = .returned (.tuple #[.agg #[.int .i64 zeroNod.id, .int .i64 zeroNod.n, .int .i64 zeroNod.view, .int .i64 zeroNod.last, .bool zeroNod.works, .int .i64 zeroNod.commit, v6, v7, v8], v9, .int .i64 220]) ∧ Res w' w.heap.size zeroNod v6 v7 v8 v9 ∧ Below w.heap.size w w' := by
  have hu26 := Try.underlying26
  have hu28 := Try.underlying28
  have hu57 := Try.underlying57
  have hu66 := Try.underlying66
  have HR := Aside0.mk (right_of his)
  have hvs : votes.length ≤ 900 := by have h1 := HR.out.count; have h2 := HR.out.n7; simp only at h1 h2; omega
  have hvt : ∀ v, v ∈ votes → v.f3.length ≤ 1000 := fun v hv => by have h1 := (loggedB_len (votesB_all _ _ _ _ HR.out.votes v hv).2.2.2.2.2).1; omega
  obtain ⟨hw5, sz5, bx5, by5, bl5, be5⟩ := new4 w (.cells #[.int .i64 id, .int .i64 n, .int .i64 view, .int .i64 last, .bool works, .int .i64 commit, .slice A6 log.length c6, .slice A7 acks.length c7, .slice A8 votes.length c8] 26) (.cells #[.int .i64 0, .int .i64 0, .int .i64 0, .int .i64 0, .bool false, .int .i64 0, .slice none 0 0, .slice none 0 0, .slice none 0 0] 26) (.cells #[.slice none 0 0] 30) (.cells #[.int .i64 0] 31)
  have HW5 := Aside0.mk hw5
  have SZ5 := Aside0.mk sz5
  have BX5 := Aside0.mk bx5
  have BY5 := Aside0.mk (five_zero by5)
  have BL5 := Aside0.mk bl5
  have BE5 := Aside0.mk be5
  clear hw5 sz5 bx5 by5 bl5 be5
  have H21 := Aside0.mk (open_is id n view last works commit log acks votes told A6 A7 A8 c6 c7 c8 _ (Kd.C_below h6 HW5.out) l6 (Kd.C_below h7 HW5.out) l7 (Kd.C_below h8 HW5.out) l8 hl ha hvl hv his hvs hvt)
  have HLD := Aside0.mk hld
  clear hld
  have hpn : ∀ W : World, (Instr.panic (.iface 31 (.int .i64 220))).run Try.prog W = .halt (.panic (.iface 31 (.int .i64 220))) W := fun _ => rfl
  clear h6 l6 h7 l7 h8 l8 hl ha hvl hv his hvs hvt
  go_enter_defers Try.func13, Try.ntmps13
  go_wp2_with (first | (go_at_call 21; refine H21.out.mono ?_; rintro e w6 ⟨g, rfl, hN, hb6⟩; have HN6 := Aside0.mk hN; have HD6 := Aside0.mk (Did.refl hN); have HW6 := Aside0.mk (below_step HW5.out hb6); have SZ6 := Aside0.mk (show w.heap.size + 4 ≤ w6.heap.size by have h1 := hb6.size; have h2 := SZ5.out; omega); have BX6 := Aside0.mk ((hb6.block (w.heap.size) (by rw [SZ5.out]; omega)).trans BX5.out); have BY6 := Aside0.mk ((hb6.block (w.heap.size + 1) (by rw [SZ5.out]; omega)).trans BY5.out); have BL6 := Aside0.mk ((hb6.block (w.heap.size + 1 + 1) (by rw [SZ5.out]; omega)).trans BL5.out); have BE6 := Aside0.mk ((hb6.block (w.heap.size + 1 + 1 + 1) (by rw [SZ5.out]; omega)).trans BE5.out); obtain ⟨D6, d6, D7, d7, D8, d8, D9, d9, hbg, -⟩ := hN.res2; have p0 : w6.cell? ⟨g, 0, none⟩ = some (.int .i64 (Nod.opened ⟨id, n, view, last, works, commit, log, acks, votes, told⟩).id) := blk_cell hbg 0; have p1 : w6.cell? ⟨g, 1, none⟩ = some (.int .i64 (Nod.opened ⟨id, n, view, last, works, commit, log, acks, votes, told⟩).n) := blk_cell hbg 1; have p2 : w6.cell? ⟨g, 2, none⟩ = some (.int .i64 (Nod.opened ⟨id, n, view, last, works, commit, log, acks, votes, told⟩).view) := blk_cell hbg 2; have p3 : w6.cell? ⟨g, 3, none⟩ = some (.int .i64 (Nod.opened ⟨id, n, view, last, works, commit, log, acks, votes, told⟩).last) := blk_cell hbg 3; have p4 : w6.cell? ⟨g, 4, none⟩ = some (.bool (Nod.opened ⟨id, n, view, last, works, commit, log, acks, votes, told⟩).works) := blk_cell hbg 4; have p5 : w6.cell? ⟨g, 5, none⟩ = some (.int .i64 (Nod.opened ⟨id, n, view, last, works, commit, log, acks, votes, told⟩).commit) := blk_cell hbg 5; have p6 : w6.cell? ⟨g, 6, none⟩ = some (.slice D6 ((Nod.opened ⟨id, n, view, last, works, commit, log, acks, votes, told⟩)).log.length d6) := blk_cell hbg 6; have p7 : w6.cell? ⟨g, 7, none⟩ = some (.slice D7 ((Nod.opened ⟨id, n, view, last, works, commit, log, acks, votes, told⟩)).acks.length d7) := blk_cell hbg 7; have p8 : w6.cell? ⟨g, 8, none⟩ = some (.slice D8 ((Nod.opened ⟨id, n, view, last, works, commit, log, acks, votes, told⟩)).votes.length d8) := blk_cell hbg 8; have p9 : w6.cell? ⟨g, 9, none⟩ = some (.slice D9 ((Nod.opened ⟨id, n, view, last, works, commit, log, acks, votes, told⟩)).told.length d9) := blk_cell hbg 9; have HLC := Aside0.mk (leads_calls (Nod.opened ⟨id, n, view, last, works, commit, log, acks, votes, told⟩) w6 g p0 p1 p2 p4 HR.out.good.view HR.out.good.n1); clear hN hb6 hbg) | (go_at_call 34; have hlc := HLC.out; rw [HLD.out] at hlc; refine hlc.mono ?_; rintro e w7 ⟨rfl, ⟨nd, rfl⟩⟩))
  refine leaves_cons (f := 20) (args := #[.pointer (some ⟨w.heap.size + 1, 0, none⟩), .pointer (some ⟨w.heap.size + 1 + 1, 0, none⟩), .pointer (some ⟨w.heap.size + 1 + 1 + 1, 0, none⟩)]) (by simp) (by kernel_rfl) ?_
  refine (caught_panicking (w.heap.size + 1) (w.heap.size + 1 + 1) (w.heap.size + 1 + 1 + 1) 220 [] _ (show (w6.drewN _).heap[_]? = _ from BY6.out) (show (w6.drewN _).heap[_]? = _ from BL6.out) (show (w6.drewN _).heap[_]? = _ from BE6.out) (by omega) (by omega) (by omega)).mono ?_
  rintro e u' w9 ⟨rfl, rfl, ky, kl, ke, kb⟩
  refine ⟨_, results_8 rfl _ _ (w.heap.size + 1) (w.heap.size + 1 + 1) (w.heap.size + 1 + 1 + 1) 26 zeroNode (0, 0) (.slice none 0 0) 220 rfl rfl rfl ky rfl ((blk_cell kl 0).trans rfl) ((blk_cell ke 0).trans rfl), .slice none 0 0, .slice none 0 0, .slice none 0 0, .slice none 0 0, rfl, res_zero _ _, ?_⟩
  exact (pw_below_drewN HW6.out _).trans (kb w.heap.size (by omega) (by omega) (by omega))
set_option maxHeartbeats 8000000 in
set_option maxRecDepth 100000 in
theorem ask_full (id n view last : Int) (works : Bool) (commit : Int) (log : List ByteArray) (acks : List Int) (votes : List S66) (told : List S28) (A6 A7 A8 : Option Addr) (c6 c7 c8 : Nat) (w : World) (h6 : Kd.C Kd.string w A6 log.length log) (l6 : log.length ≤ c6) (h7 : Kd.C (Kd.int .i64) w A7 acks.length acks) (l7 : acks.length ≤ c7) (h8 : Kd.C k66 w A8 votes.length votes) (l8 : votes.length ≤ c8)
    (hl : log.length < 4398046511104) (ha : acks.length < 4398046511104) (hvl : votes.length < 4398046511104) (hv : ∀ v, v ∈ votes → v.f3.length < 4398046511104 ∧ (Lit.int .i64 v.f0).wf = true) (s : ByteArray)
    (his : isB ⟨id, n, view, last, works, commit, log, acks, votes, told⟩ = true) (hld : (Nod.opened ⟨id, n, view, last, works, commit, log, acks, votes, told⟩).leads = true) (hf : ((Nod.opened ⟨id, n, view, last, works, commit, log, acks, votes, told⟩).log.length : Int) = 60) :
    Calls Try.prog 13 #[.agg #[.int .i64 id, .int .i64 n, .int .i64 view, .int .i64 last, .bool works, .int .i64 commit, .slice A6 log.length c6, .slice A7 acks.length c7, .slice A8 votes.length c8], .string s] w fun e w' => ∃ v6 v7 v8 v9, e = .returned (.tuple #[.agg #[.int .i64 zeroNod.id, .int .i64 zeroNod.n, .int .i64 zeroNod.view, .int .i64 zeroNod.last, .bool zeroNod.works, .int .i64 zeroNod.commit, v6, v7, v8], v9, .int .i64 2]) ∧ Res w' w.heap.size zeroNod v6 v7 v8 v9 ∧ Below w.heap.size w w' := by
  have hu26 := Try.underlying26
  have hu28 := Try.underlying28
  have hu57 := Try.underlying57
  have hu66 := Try.underlying66
  have HR := Aside0.mk (right_of his)
  have hvs : votes.length ≤ 900 := by have h1 := HR.out.count; have h2 := HR.out.n7; simp only at h1 h2; omega
  have hvt : ∀ v, v ∈ votes → v.f3.length ≤ 1000 := fun v hv => by have h1 := (loggedB_len (votesB_all _ _ _ _ HR.out.votes v hv).2.2.2.2.2).1; omega
  obtain ⟨hw5, sz5, bx5, by5, bl5, be5⟩ := new4 w (.cells #[.int .i64 id, .int .i64 n, .int .i64 view, .int .i64 last, .bool works, .int .i64 commit, .slice A6 log.length c6, .slice A7 acks.length c7, .slice A8 votes.length c8] 26) (.cells #[.int .i64 0, .int .i64 0, .int .i64 0, .int .i64 0, .bool false, .int .i64 0, .slice none 0 0, .slice none 0 0, .slice none 0 0] 26) (.cells #[.slice none 0 0] 30) (.cells #[.int .i64 0] 31)
  have HW5 := Aside0.mk hw5
  have SZ5 := Aside0.mk sz5
  have BX5 := Aside0.mk bx5
  have BY5 := Aside0.mk (five_zero by5)
  have BL5 := Aside0.mk bl5
  have BE5 := Aside0.mk be5
  clear hw5 sz5 bx5 by5 bl5 be5
  have H21 := Aside0.mk (open_is id n view last works commit log acks votes told A6 A7 A8 c6 c7 c8 _ (Kd.C_below h6 HW5.out) l6 (Kd.C_below h7 HW5.out) l7 (Kd.C_below h8 HW5.out) l8 hl ha hvl hv his hvs hvt)
  have HLD := Aside0.mk hld
  have l1 : (((Nod.opened ⟨id, n, view, last, works, commit, log, acks, votes, told⟩).log.length : Int) == 60) = true := beq_iff_eq.mpr hf
  clear hld hf
  have hpn : ∀ W : World, (Instr.panic (.iface 31 (.int .i64 2))).run Try.prog W = .halt (.panic (.iface 31 (.int .i64 2))) W := fun _ => rfl
  clear h6 l6 h7 l7 h8 l8 hl ha hvl hv his hvs hvt
  go_enter_defers Try.func13, Try.ntmps13
  go_wp2_with (first | (go_at_call 21; refine H21.out.mono ?_; rintro e w6 ⟨g, rfl, hN, hb6⟩; have HN6 := Aside0.mk hN; have HD6 := Aside0.mk (Did.refl hN); have HW6 := Aside0.mk (below_step HW5.out hb6); have SZ6 := Aside0.mk (show w.heap.size + 4 ≤ w6.heap.size by have h1 := hb6.size; have h2 := SZ5.out; omega); have BX6 := Aside0.mk ((hb6.block (w.heap.size) (by rw [SZ5.out]; omega)).trans BX5.out); have BY6 := Aside0.mk ((hb6.block (w.heap.size + 1) (by rw [SZ5.out]; omega)).trans BY5.out); have BL6 := Aside0.mk ((hb6.block (w.heap.size + 1 + 1) (by rw [SZ5.out]; omega)).trans BL5.out); have BE6 := Aside0.mk ((hb6.block (w.heap.size + 1 + 1 + 1) (by rw [SZ5.out]; omega)).trans BE5.out); obtain ⟨D6, d6, D7, d7, D8, d8, D9, d9, hbg, -⟩ := hN.res2; have p0 : w6.cell? ⟨g, 0, none⟩ = some (.int .i64 (Nod.opened ⟨id, n, view, last, works, commit, log, acks, votes, told⟩).id) := blk_cell hbg 0; have p1 : w6.cell? ⟨g, 1, none⟩ = some (.int .i64 (Nod.opened ⟨id, n, view, last, works, commit, log, acks, votes, told⟩).n) := blk_cell hbg 1; have p2 : w6.cell? ⟨g, 2, none⟩ = some (.int .i64 (Nod.opened ⟨id, n, view, last, works, commit, log, acks, votes, told⟩).view) := blk_cell hbg 2; have p3 : w6.cell? ⟨g, 3, none⟩ = some (.int .i64 (Nod.opened ⟨id, n, view, last, works, commit, log, acks, votes, told⟩).last) := blk_cell hbg 3; have p4 : w6.cell? ⟨g, 4, none⟩ = some (.bool (Nod.opened ⟨id, n, view, last, works, commit, log, acks, votes, told⟩).works) := blk_cell hbg 4; have p5 : w6.cell? ⟨g, 5, none⟩ = some (.int .i64 (Nod.opened ⟨id, n, view, last, works, commit, log, acks, votes, told⟩).commit) := blk_cell hbg 5; have p6 : w6.cell? ⟨g, 6, none⟩ = some (.slice D6 ((Nod.opened ⟨id, n, view, last, works, commit, log, acks, votes, told⟩)).log.length d6) := blk_cell hbg 6; have p7 : w6.cell? ⟨g, 7, none⟩ = some (.slice D7 ((Nod.opened ⟨id, n, view, last, works, commit, log, acks, votes, told⟩)).acks.length d7) := blk_cell hbg 7; have p8 : w6.cell? ⟨g, 8, none⟩ = some (.slice D8 ((Nod.opened ⟨id, n, view, last, works, commit, log, acks, votes, told⟩)).votes.length d8) := blk_cell hbg 8; have p9 : w6.cell? ⟨g, 9, none⟩ = some (.slice D9 ((Nod.opened ⟨id, n, view, last, works, commit, log, acks, votes, told⟩)).told.length d9) := blk_cell hbg 9; have HLC := Aside0.mk (leads_calls (Nod.opened ⟨id, n, view, last, works, commit, log, acks, votes, told⟩) w6 g p0 p1 p2 p4 HR.out.good.view HR.out.good.n1); clear hN hb6 hbg) | (go_at_call 34; have hlc := HLC.out; rw [HLD.out] at hlc; refine hlc.mono ?_; rintro e w7 ⟨rfl, ⟨nd, rfl⟩⟩))
  refine leaves_cons (f := 20) (args := #[.pointer (some ⟨w.heap.size + 1, 0, none⟩), .pointer (some ⟨w.heap.size + 1 + 1, 0, none⟩), .pointer (some ⟨w.heap.size + 1 + 1 + 1, 0, none⟩)]) (by simp) (by kernel_rfl) ?_
  refine (caught_panicking (w.heap.size + 1) (w.heap.size + 1 + 1) (w.heap.size + 1 + 1 + 1) 2 [] _ (show (w6.drewN _).heap[_]? = _ from BY6.out) (show (w6.drewN _).heap[_]? = _ from BL6.out) (show (w6.drewN _).heap[_]? = _ from BE6.out) (by omega) (by omega) (by omega)).mono ?_
  rintro e u' w9 ⟨rfl, rfl, ky, kl, ke, kb⟩
  refine ⟨_, results_8 rfl _ _ (w.heap.size + 1) (w.heap.size + 1 + 1) (w.heap.size + 1 + 1 + 1) 26 zeroNode (0, 0) (.slice none 0 0) 2 rfl rfl rfl ky rfl ((blk_cell kl 0).trans rfl) ((blk_cell ke 0).trans rfl), .slice none 0 0, .slice none 0 0, .slice none 0 0, .slice none 0 0, rfl, res_zero _ _, ?_⟩
  exact (pw_below_drewN HW6.out _).trans (kb w.heap.size (by omega) (by omega) (by omega))
set_option maxHeartbeats 8000000 in
set_option maxRecDepth 100000 in
theorem ask_long (id n view last : Int) (works : Bool) (commit : Int) (log : List ByteArray) (acks : List Int) (votes : List S66) (told : List S28) (A6 A7 A8 : Option Addr) (c6 c7 c8 : Nat) (w : World) (h6 : Kd.C Kd.string w A6 log.length log) (l6 : log.length ≤ c6) (h7 : Kd.C (Kd.int .i64) w A7 acks.length acks) (l7 : acks.length ≤ c7) (h8 : Kd.C k66 w A8 votes.length votes) (l8 : votes.length ≤ c8)
    (hl : log.length < 4398046511104) (ha : acks.length < 4398046511104) (hvl : votes.length < 4398046511104) (hv : ∀ v, v ∈ votes → v.f3.length < 4398046511104 ∧ (Lit.int .i64 v.f0).wf = true) (s : ByteArray)
    (his : isB ⟨id, n, view, last, works, commit, log, acks, votes, told⟩ = true) (hld : (Nod.opened ⟨id, n, view, last, works, commit, log, acks, votes, told⟩).leads = true) (hf : ¬ ((Nod.opened ⟨id, n, view, last, works, commit, log, acks, votes, told⟩).log.length : Int) = 60) (hs : (s.size : Int) > 300) :
    Calls Try.prog 13 #[.agg #[.int .i64 id, .int .i64 n, .int .i64 view, .int .i64 last, .bool works, .int .i64 commit, .slice A6 log.length c6, .slice A7 acks.length c7, .slice A8 votes.length c8], .string s] w fun e w' => ∃ v6 v7 v8 v9, e = .returned (.tuple #[.agg #[.int .i64 zeroNod.id, .int .i64 zeroNod.n, .int .i64 zeroNod.view, .int .i64 zeroNod.last, .bool zeroNod.works, .int .i64 zeroNod.commit, v6, v7, v8], v9, .int .i64 2]) ∧ Res w' w.heap.size zeroNod v6 v7 v8 v9 ∧ Below w.heap.size w w' := by
  have hu26 := Try.underlying26
  have hu28 := Try.underlying28
  have hu57 := Try.underlying57
  have hu66 := Try.underlying66
  have HR := Aside0.mk (right_of his)
  have hvs : votes.length ≤ 900 := by have h1 := HR.out.count; have h2 := HR.out.n7; simp only at h1 h2; omega
  have hvt : ∀ v, v ∈ votes → v.f3.length ≤ 1000 := fun v hv => by have h1 := (loggedB_len (votesB_all _ _ _ _ HR.out.votes v hv).2.2.2.2.2).1; omega
  obtain ⟨hw5, sz5, bx5, by5, bl5, be5⟩ := new4 w (.cells #[.int .i64 id, .int .i64 n, .int .i64 view, .int .i64 last, .bool works, .int .i64 commit, .slice A6 log.length c6, .slice A7 acks.length c7, .slice A8 votes.length c8] 26) (.cells #[.int .i64 0, .int .i64 0, .int .i64 0, .int .i64 0, .bool false, .int .i64 0, .slice none 0 0, .slice none 0 0, .slice none 0 0] 26) (.cells #[.slice none 0 0] 30) (.cells #[.int .i64 0] 31)
  have HW5 := Aside0.mk hw5
  have SZ5 := Aside0.mk sz5
  have BX5 := Aside0.mk bx5
  have BY5 := Aside0.mk (five_zero by5)
  have BL5 := Aside0.mk bl5
  have BE5 := Aside0.mk be5
  clear hw5 sz5 bx5 by5 bl5 be5
  have H21 := Aside0.mk (open_is id n view last works commit log acks votes told A6 A7 A8 c6 c7 c8 _ (Kd.C_below h6 HW5.out) l6 (Kd.C_below h7 HW5.out) l7 (Kd.C_below h8 HW5.out) l8 hl ha hvl hv his hvs hvt)
  have HLD := Aside0.mk hld
  have l1 : (((Nod.opened ⟨id, n, view, last, works, commit, log, acks, votes, told⟩).log.length : Int) == 60) = false := beq_eq_false_iff_ne.mpr hf
  have l2 : decide ((s.size : Int) > 300) = true := decide_eq_true hs
  have l3 : decide ((300 : Int) < (s.size : Int)) = true := decide_eq_true hs
  clear hld hf hs
  have hpn : ∀ W : World, (Instr.panic (.iface 31 (.int .i64 2))).run Try.prog W = .halt (.panic (.iface 31 (.int .i64 2))) W := fun _ => rfl
  clear h6 l6 h7 l7 h8 l8 hl ha hvl hv his hvs hvt
  go_enter_defers Try.func13, Try.ntmps13
  go_wp2_with (first | (go_at_call 21; refine H21.out.mono ?_; rintro e w6 ⟨g, rfl, hN, hb6⟩; have HN6 := Aside0.mk hN; have HD6 := Aside0.mk (Did.refl hN); have HW6 := Aside0.mk (below_step HW5.out hb6); have SZ6 := Aside0.mk (show w.heap.size + 4 ≤ w6.heap.size by have h1 := hb6.size; have h2 := SZ5.out; omega); have BX6 := Aside0.mk ((hb6.block (w.heap.size) (by rw [SZ5.out]; omega)).trans BX5.out); have BY6 := Aside0.mk ((hb6.block (w.heap.size + 1) (by rw [SZ5.out]; omega)).trans BY5.out); have BL6 := Aside0.mk ((hb6.block (w.heap.size + 1 + 1) (by rw [SZ5.out]; omega)).trans BL5.out); have BE6 := Aside0.mk ((hb6.block (w.heap.size + 1 + 1 + 1) (by rw [SZ5.out]; omega)).trans BE5.out); obtain ⟨D6, d6, D7, d7, D8, d8, D9, d9, hbg, -⟩ := hN.res2; have p0 : w6.cell? ⟨g, 0, none⟩ = some (.int .i64 (Nod.opened ⟨id, n, view, last, works, commit, log, acks, votes, told⟩).id) := blk_cell hbg 0; have p1 : w6.cell? ⟨g, 1, none⟩ = some (.int .i64 (Nod.opened ⟨id, n, view, last, works, commit, log, acks, votes, told⟩).n) := blk_cell hbg 1; have p2 : w6.cell? ⟨g, 2, none⟩ = some (.int .i64 (Nod.opened ⟨id, n, view, last, works, commit, log, acks, votes, told⟩).view) := blk_cell hbg 2; have p3 : w6.cell? ⟨g, 3, none⟩ = some (.int .i64 (Nod.opened ⟨id, n, view, last, works, commit, log, acks, votes, told⟩).last) := blk_cell hbg 3; have p4 : w6.cell? ⟨g, 4, none⟩ = some (.bool (Nod.opened ⟨id, n, view, last, works, commit, log, acks, votes, told⟩).works) := blk_cell hbg 4; have p5 : w6.cell? ⟨g, 5, none⟩ = some (.int .i64 (Nod.opened ⟨id, n, view, last, works, commit, log, acks, votes, told⟩).commit) := blk_cell hbg 5; have p6 : w6.cell? ⟨g, 6, none⟩ = some (.slice D6 ((Nod.opened ⟨id, n, view, last, works, commit, log, acks, votes, told⟩)).log.length d6) := blk_cell hbg 6; have p7 : w6.cell? ⟨g, 7, none⟩ = some (.slice D7 ((Nod.opened ⟨id, n, view, last, works, commit, log, acks, votes, told⟩)).acks.length d7) := blk_cell hbg 7; have p8 : w6.cell? ⟨g, 8, none⟩ = some (.slice D8 ((Nod.opened ⟨id, n, view, last, works, commit, log, acks, votes, told⟩)).votes.length d8) := blk_cell hbg 8; have p9 : w6.cell? ⟨g, 9, none⟩ = some (.slice D9 ((Nod.opened ⟨id, n, view, last, works, commit, log, acks, votes, told⟩)).told.length d9) := blk_cell hbg 9; have HLC := Aside0.mk (leads_calls (Nod.opened ⟨id, n, view, last, works, commit, log, acks, votes, told⟩) w6 g p0 p1 p2 p4 HR.out.good.view HR.out.good.n1); clear hN hb6 hbg) | (go_at_call 34; have hlc := HLC.out; rw [HLD.out] at hlc; refine hlc.mono ?_; rintro e w7 ⟨rfl, ⟨nd, rfl⟩⟩))
  refine leaves_cons (f := 20) (args := #[.pointer (some ⟨w.heap.size + 1, 0, none⟩), .pointer (some ⟨w.heap.size + 1 + 1, 0, none⟩), .pointer (some ⟨w.heap.size + 1 + 1 + 1, 0, none⟩)]) (by simp) (by kernel_rfl) ?_
  refine (caught_panicking (w.heap.size + 1) (w.heap.size + 1 + 1) (w.heap.size + 1 + 1 + 1) 2 [] _ (show (w6.drewN _).heap[_]? = _ from BY6.out) (show (w6.drewN _).heap[_]? = _ from BL6.out) (show (w6.drewN _).heap[_]? = _ from BE6.out) (by omega) (by omega) (by omega)).mono ?_
  rintro e u' w9 ⟨rfl, rfl, ky, kl, ke, kb⟩
  refine ⟨_, results_8 rfl _ _ (w.heap.size + 1) (w.heap.size + 1 + 1) (w.heap.size + 1 + 1 + 1) 26 zeroNode (0, 0) (.slice none 0 0) 2 rfl rfl rfl ky rfl ((blk_cell kl 0).trans rfl) ((blk_cell ke 0).trans rfl), .slice none 0 0, .slice none 0 0, .slice none 0 0, .slice none 0 0, rfl, res_zero _ _, ?_⟩
  exact (pw_below_drewN HW6.out _).trans (kb w.heap.size (by omega) (by omega) (by omega))
end Go.Proofs.Ytfpfpckocemmdaa.P
end
section
namespace Go.Proofs.Ytfpfpckocemmdaa.P
open Go.RowKit Go.Proofs.YtfpfpckocemmdaaW.PrintWords Go.Proofs.YtfpfpckocemmdaaW.PrintLast Go.Proofs.YtfpfpckocemmdaaW.PrintMore
set_option linter.unusedVariables false
set_option linter.unusedSimpArgs false
theorem logs_good {x : Nod} (h : Good x) (s : ByteArray) (hl : x.log.length ≤ 900) : Good (x.logs s) := ⟨h.n1, h.n2, h.id0, h.id1, h.view, by show (x.log ++ [s]).length ≤ 1000; simp; omega, h.acks, h.votes, h.each, h.told⟩
set_option maxHeartbeats 8000000 in
set_option maxRecDepth 100000 in
theorem ask_does (id n view last : Int) (works : Bool) (commit : Int) (log : List ByteArray) (acks : List Int) (votes : List S66) (told : List S28) (A6 A7 A8 : Option Addr) (c6 c7 c8 : Nat) (w : World) (h6 : Kd.C Kd.string w A6 log.length log) (l6 : log.length ≤ c6) (h7 : Kd.C (Kd.int .i64) w A7 acks.length acks) (l7 : acks.length ≤ c7) (h8 : Kd.C k66 w A8 votes.length votes) (l8 : votes.length ≤ c8)
    (hl : log.length < 4398046511104) (ha : acks.length < 4398046511104) (hvl : votes.length < 4398046511104) (hv : ∀ v, v ∈ votes → v.f3.length < 4398046511104 ∧ (Lit.int .i64 v.f0).wf = true) (s : ByteArray)
    (his : isB ⟨id, n, view, last, works, commit, log, acks, votes, told⟩ = true) (hld : (Nod.opened ⟨id, n, view, last, works, commit, log, acks, votes, told⟩).leads = true) (hf : ¬ ((Nod.opened ⟨id, n, view, last, works, commit, log, acks, votes, told⟩).log.length : Int) = 60) (hs : ¬ (s.size : Int) > 300) :
    Calls Try.prog 13 #[.agg #[.int .i64 id, .int .i64 n, .int .i64 view, .int .i64 last, .bool works, .int .i64 commit, .slice A6 log.length c6, .slice A7 acks.length c7, .slice A8 votes.length c8], .string s] w fun e w' => ∃ v6 v7 v8 v9, e = .returned (.tuple #[.agg #[.int .i64 ((((Nod.opened ⟨id, n, view, last, works, commit, log, acks, votes, told⟩).logs s).counts).tell).id, .int .i64 ((((Nod.opened ⟨id, n, view, last, works, commit, log, acks, votes, told⟩).logs s).counts).tell).n, .int .i64 ((((Nod.opened ⟨id, n, view, last, works, commit, log, acks, votes, told⟩).logs s).counts).tell).view, .int .i64 ((((Nod.opened ⟨id, n, view, last, works, commit, log, acks, votes, told⟩).logs s).counts).tell).last, .bool ((((Nod.opened ⟨id, n, view, last, works, commit, log, acks, votes, told⟩).logs s).counts).tell).works, .int .i64 ((((Nod.opened ⟨id, n, view, last, works, commit, log, acks, votes, told⟩).logs s).counts).tell).commit, v6, v7, v8], v9, .int .i64 0]) ∧ Res w' w.heap.size ((((Nod.opened ⟨id, n, view, last, works, commit, log, acks, votes, told⟩).logs s).counts).tell) v6 v7 v8 v9 ∧ Below w.heap.size w w' := by
  have hu26 := Try.underlying26
  have hu28 := Try.underlying28
  have hu57 := Try.underlying57
  have hu66 := Try.underlying66
  have HR := Aside0.mk (right_of his)
  have hvs : votes.length ≤ 900 := by have h1 := HR.out.count; have h2 := HR.out.n7; simp only at h1 h2; omega
  have hvt : ∀ v, v ∈ votes → v.f3.length ≤ 1000 := fun v hv => by have h1 := (loggedB_len (votesB_all _ _ _ _ HR.out.votes v hv).2.2.2.2.2).1; omega
  obtain ⟨hw5, sz5, bx5, by5, bl5, be5⟩ := new4 w (.cells #[.int .i64 id, .int .i64 n, .int .i64 view, .int .i64 last, .bool works, .int .i64 commit, .slice A6 log.length c6, .slice A7 acks.length c7, .slice A8 votes.length c8] 26) (.cells #[.int .i64 0, .int .i64 0, .int .i64 0, .int .i64 0, .bool false, .int .i64 0, .slice none 0 0, .slice none 0 0, .slice none 0 0] 26) (.cells #[.slice none 0 0] 30) (.cells #[.int .i64 0] 31)
  have HW5 := Aside0.mk hw5
  have SZ5 := Aside0.mk sz5
  have BX5 := Aside0.mk bx5
  have BY5 := Aside0.mk (five_zero by5)
  have BL5 := Aside0.mk bl5
  have BE5 := Aside0.mk be5
  clear hw5 sz5 bx5 by5 bl5 be5
  have H21 := Aside0.mk (open_is id n view last works commit log acks votes told A6 A7 A8 c6 c7 c8 _ (Kd.C_below h6 HW5.out) l6 (Kd.C_below h7 HW5.out) l7 (Kd.C_below h8 HW5.out) l8 hl ha hvl hv his hvs hvt)
  have HLD := Aside0.mk hld
  have l1 : (((Nod.opened ⟨id, n, view, last, works, commit, log, acks, votes, told⟩).log.length : Int) == 60) = false := beq_eq_false_iff_ne.mpr hf
  have l2 : decide ((s.size : Int) > 300) = false := decide_eq_false hs
  have l3 : decide ((300 : Int) < (s.size : Int)) = false := decide_eq_false hs
  have HG0 := Aside0.mk (logs_good HR.out.good s (by have h1 := (loggedB_len HR.out.log).1; show log.length ≤ 900; simp only at h1; omega))
  have HG1 := Aside0.mk (counts_good HG0.out)
  have HLL := Aside0.mk (show (Nod.opened ⟨id, n, view, last, works, commit, log, acks, votes, told⟩).log.length ≤ 100000 by have h1 := HR.out.good.log; omega)
  clear hld hf hs
  clear h6 l6 h7 l7 h8 l8 hl ha hvl hv his hvs hvt
  go_enter_defers Try.func13, Try.ntmps13
  go_wp2_with (first | (go_at_call 21; refine H21.out.mono ?_; rintro e w6 ⟨g, rfl, hN, hb6⟩; have HN6 := Aside0.mk hN; have HD6 := Aside0.mk (Did.refl hN); have HW6 := Aside0.mk (below_step HW5.out hb6); have SZ6 := Aside0.mk (show w.heap.size + 4 ≤ w6.heap.size by have h1 := hb6.size; have h2 := SZ5.out; omega); have BX6 := Aside0.mk ((hb6.block (w.heap.size) (by rw [SZ5.out]; omega)).trans BX5.out); have BY6 := Aside0.mk ((hb6.block (w.heap.size + 1) (by rw [SZ5.out]; omega)).trans BY5.out); have BL6 := Aside0.mk ((hb6.block (w.heap.size + 1 + 1) (by rw [SZ5.out]; omega)).trans BL5.out); have BE6 := Aside0.mk ((hb6.block (w.heap.size + 1 + 1 + 1) (by rw [SZ5.out]; omega)).trans BE5.out); obtain ⟨D6, d6, D7, d7, D8, d8, D9, d9, hbg, -⟩ := hN.res2; have p0 : w6.cell? ⟨g, 0, none⟩ = some (.int .i64 (Nod.opened ⟨id, n, view, last, works, commit, log, acks, votes, told⟩).id) := blk_cell hbg 0; have p1 : w6.cell? ⟨g, 1, none⟩ = some (.int .i64 (Nod.opened ⟨id, n, view, last, works, commit, log, acks, votes, told⟩).n) := blk_cell hbg 1; have p2 : w6.cell? ⟨g, 2, none⟩ = some (.int .i64 (Nod.opened ⟨id, n, view, last, works, commit, log, acks, votes, told⟩).view) := blk_cell hbg 2; have p3 : w6.cell? ⟨g, 3, none⟩ = some (.int .i64 (Nod.opened ⟨id, n, view, last, works, commit, log, acks, votes, told⟩).last) := blk_cell hbg 3; have p4 : w6.cell? ⟨g, 4, none⟩ = some (.bool (Nod.opened ⟨id, n, view, last, works, commit, log, acks, votes, told⟩).works) := blk_cell hbg 4; have p5 : w6.cell? ⟨g, 5, none⟩ = some (.int .i64 (Nod.opened ⟨id, n, view, last, works, commit, log, acks, votes, told⟩).commit) := blk_cell hbg 5; have p6 : w6.cell? ⟨g, 6, none⟩ = some (.slice D6 ((Nod.opened ⟨id, n, view, last, works, commit, log, acks, votes, told⟩)).log.length d6) := blk_cell hbg 6; have p7 : w6.cell? ⟨g, 7, none⟩ = some (.slice D7 ((Nod.opened ⟨id, n, view, last, works, commit, log, acks, votes, told⟩)).acks.length d7) := blk_cell hbg 7; have p8 : w6.cell? ⟨g, 8, none⟩ = some (.slice D8 ((Nod.opened ⟨id, n, view, last, works, commit, log, acks, votes, told⟩)).votes.length d8) := blk_cell hbg 8; have p9 : w6.cell? ⟨g, 9, none⟩ = some (.slice D9 ((Nod.opened ⟨id, n, view, last, works, commit, log, acks, votes, told⟩)).told.length d9) := blk_cell hbg 9; have HLC := Aside0.mk (leads_calls (Nod.opened ⟨id, n, view, last, works, commit, log, acks, votes, told⟩) w6 g p0 p1 p2 p4 HR.out.good.view HR.out.good.n1); have HCD := Aside0.mk (fun k => (show (w6.drewN k).cell? ⟨g, 6, none⟩ = some (.slice D6 ((Nod.opened ⟨id, n, view, last, works, commit, log, acks, votes, told⟩)).log.length d6) from p6)); have BGD := Aside0.mk (fun k => (show (w6.drewN k).heap[g]? = _ from hbg)); clear hN hb6 hbg) | (go_at_call 34; have hlc := HLC.out; rw [HLD.out] at hlc; refine hlc.mono ?_; rintro e w7 ⟨rfl, ⟨nd, rfl⟩⟩) | ((with_reducible refine gate_builtin (b := .append) (xs := #[.tmp 32, .tmp 34]) rfl ?_); at_builtin; refine log_wp s D6 d6 (HD6.out.drewN _) (HCD.out _) HLL.out rfl (.tmp 32) (.tmp 34) rfl rfl rfl ?_; intro A1 c1 w8 hd8 he8; have HD8 := Aside0.mk hd8; have hbg8 := he8.trans (BGD.out _); have hc68 : w8.cell? ⟨g, 6, none⟩ = some _ := blk_cell hbg8 6; have hf68 : w8.frozen? ⟨g, 6, none⟩ = false := blk_frozen hbg8 6; clear hd8 he8 hbg8) | (go_at_call 35; refine (counts_did ((Nod.opened ⟨id, n, view, last, works, commit, log, acks, votes, told⟩).logs s) w6 _ _ g _ HG0.out HD8.out).mono ?_; rintro e w9 ⟨rfl, h9⟩; have HD9 := Aside0.mk h9; clear h9) | (go_at_call 36; refine (tell_did (((Nod.opened ⟨id, n, view, last, works, commit, log, acks, votes, told⟩).logs s).counts) w6 _ _ g _ (by have := HG1.out.n1; omega) HG1.out.n2 HG1.out.told (by have := HG1.out.log; omega) HD9.out).mono ?_; rintro e w10 ⟨rfl, h10⟩; have HN10 := Aside0.mk h10.1; have HW10 := Aside0.mk (HW6.out.trans (below_weak h10.2.2.1 (by have := SZ5.out; omega))); have BY10 := Aside0.mk ((h10.2.2.1.block (w.heap.size + 1) (by rw [SZ5.out]; omega)).trans BY6.out); have BL10 := Aside0.mk ((h10.2.2.1.block (w.heap.size + 1 + 1) (by rw [SZ5.out]; omega)).trans BL6.out); have BE10 := Aside0.mk ((h10.2.2.1.block (w.heap.size + 1 + 1 + 1) (by rw [SZ5.out]; omega)).trans BE6.out); obtain ⟨D6, d6, D7, d7, D8, d8, D9, d9, hbg, hres⟩ := HN10.out.res2; have HRES := Aside0.mk hres; have BG10 := Aside0.mk hbg; have tg0 : w10.cell? ⟨g, 0, none⟩ = some (.int .i64 ((((Nod.opened ⟨id, n, view, last, works, commit, log, acks, votes, told⟩).logs s).counts).tell).id) := blk_cell hbg 0; have tg1 : w10.cell? ⟨g, 1, none⟩ = some (.int .i64 ((((Nod.opened ⟨id, n, view, last, works, commit, log, acks, votes, told⟩).logs s).counts).tell).n) := blk_cell hbg 1; have tg2 : w10.cell? ⟨g, 2, none⟩ = some (.int .i64 ((((Nod.opened ⟨id, n, view, last, works, commit, log, acks, votes, told⟩).logs s).counts).tell).view) := blk_cell hbg 2; have tg3 : w10.cell? ⟨g, 3, none⟩ = some (.int .i64 ((((Nod.opened ⟨id, n, view, last, works, commit, log, acks, votes, told⟩).logs s).counts).tell).last) := blk_cell hbg 3; have tg4 : w10.cell? ⟨g, 4, none⟩ = some (.bool ((((Nod.opened ⟨id, n, view, last, works, commit, log, acks, votes, told⟩).logs s).counts).tell).works) := blk_cell hbg 4; have tg5 : w10.cell? ⟨g, 5, none⟩ = some (.int .i64 ((((Nod.opened ⟨id, n, view, last, works, commit, log, acks, votes, told⟩).logs s).counts).tell).commit) := blk_cell hbg 5; have tg6 : w10.cell? ⟨g, 6, none⟩ = some (.slice D6 (((((Nod.opened ⟨id, n, view, last, works, commit, log, acks, votes, told⟩).logs s).counts).tell)).log.length d6) := blk_cell hbg 6; have tg7 : w10.cell? ⟨g, 7, none⟩ = some (.slice D7 (((((Nod.opened ⟨id, n, view, last, works, commit, log, acks, votes, told⟩).logs s).counts).tell)).acks.length d7) := blk_cell hbg 7; have tg8 : w10.cell? ⟨g, 8, none⟩ = some (.slice D8 (((((Nod.opened ⟨id, n, view, last, works, commit, log, acks, votes, told⟩).logs s).counts).tell)).votes.length d8) := blk_cell hbg 8; have tg9 : w10.cell? ⟨g, 9, none⟩ = some (.slice D9 (((((Nod.opened ⟨id, n, view, last, works, commit, log, acks, votes, told⟩).logs s).counts).tell)).told.length d9) := blk_cell hbg 9; have ty0 : w10.cell? ⟨w.heap.size + 1, 0, none⟩ = some (.int .i64 0) := (blk_cell BY10.out 0).trans rfl; have tf0 := blk_frozen BY10.out 0; have ty1 : w10.cell? ⟨w.heap.size + 1, 1, none⟩ = some (.int .i64 0) := (blk_cell BY10.out 1).trans rfl; have tf1 := blk_frozen BY10.out 1; have ty2 : w10.cell? ⟨w.heap.size + 1, 2, none⟩ = some (.int .i64 0) := (blk_cell BY10.out 2).trans rfl; have tf2 := blk_frozen BY10.out 2; have ty3 : w10.cell? ⟨w.heap.size + 1, 3, none⟩ = some (.int .i64 0) := (blk_cell BY10.out 3).trans rfl; have tf3 := blk_frozen BY10.out 3; have ty4 : w10.cell? ⟨w.heap.size + 1, 4, none⟩ = some (.bool false) := (blk_cell BY10.out 4).trans rfl; have tf4 := blk_frozen BY10.out 4; have ty5 : w10.cell? ⟨w.heap.size + 1, 5, none⟩ = some (.int .i64 0) := (blk_cell BY10.out 5).trans rfl; have tf5 := blk_frozen BY10.out 5; have ty6 : w10.cell? ⟨w.heap.size + 1, 6, none⟩ = some (.slice none 0 0) := (blk_cell BY10.out 6).trans rfl; have tf6 := blk_frozen BY10.out 6; have ty7 : w10.cell? ⟨w.heap.size + 1, 7, none⟩ = some (.slice none 0 0) := (blk_cell BY10.out 7).trans rfl; have tf7 := blk_frozen BY10.out 7; have ty8 : w10.cell? ⟨w.heap.size + 1, 8, none⟩ = some (.slice none 0 0) := (blk_cell BY10.out 8).trans rfl; have tf8 := blk_frozen BY10.out 8; have tl0 : w10.cell? ⟨w.heap.size + 1 + 1, 0, none⟩ = some (.slice none 0 0) := (blk_cell BL10.out 0).trans rfl; have tl1 := blk_frozen BL10.out 0; have te0 : w10.cell? ⟨w.heap.size + 1 + 1 + 1, 0, none⟩ = some (.int .i64 0) := (blk_cell BE10.out 0).trans rfl; have te1 := blk_frozen BE10.out 0; have HGE := Aside0.mk (show w.heap.size + 4 ≤ g from by have h1 := HN10.out.ge; have h2 := SZ5.out; omega); have ney1 : g ≠ w.heap.size + 1 := (by have := HGE.out; omega); have ney2 : w.heap.size + 1 ≠ g := (by have := HGE.out; omega); have nel1 : g ≠ w.heap.size + 1 + 1 := (by have := HGE.out; omega); have nel2 : w.heap.size + 1 + 1 ≠ g := (by have := HGE.out; omega); have nee1 : g ≠ w.heap.size + 1 + 1 + 1 := (by have := HGE.out; omega); have nee2 : w.heap.size + 1 + 1 + 1 ≠ g := (by have := HGE.out; omega); have nyl : w.heap.size + 1 ≠ w.heap.size + 1 + 1 := (by omega); have nye : w.heap.size + 1 ≠ w.heap.size + 1 + 1 + 1 := (by omega); have nle : w.heap.size + 1 + 1 ≠ w.heap.size + 1 + 1 + 1 := (by omega); have nyl' := nyl.symm; have nye' := nye.symm; have nle' := nle.symm; clear hbg hres; clear h10))
  generalize he : w.heap.size + 1 + 1 + 1 = ge at *
  have HG_e := Aside0.mk he
  clear he
  generalize hl : w.heap.size + 1 + 1 = gl at *
  have HG_l := Aside0.mk hl
  clear hl
  generalize hy : w.heap.size + 1 = gy at *
  have HG_y := Aside0.mk hy
  clear hy
  go_region
  all_goals
    go_wp2
    have HST := stores_ret (w7 := w10) BY10.out BL10.out BE10.out nyl nye nle (.int .i64 (((((Nod.opened ⟨id, n, view, last, works, commit, log, acks, votes, told⟩).logs s).counts).tell)).id) (.int .i64 (((((Nod.opened ⟨id, n, view, last, works, commit, log, acks, votes, told⟩).logs s).counts).tell)).n) (.int .i64 (((((Nod.opened ⟨id, n, view, last, works, commit, log, acks, votes, told⟩).logs s).counts).tell)).view) (.int .i64 (((((Nod.opened ⟨id, n, view, last, works, commit, log, acks, votes, told⟩).logs s).counts).tell)).last) (.bool (((((Nod.opened ⟨id, n, view, last, works, commit, log, acks, votes, told⟩).logs s).counts).tell)).works) (.int .i64 (((((Nod.opened ⟨id, n, view, last, works, commit, log, acks, votes, told⟩).logs s).counts).tell)).commit) (.slice D6 (((((Nod.opened ⟨id, n, view, last, works, commit, log, acks, votes, told⟩).logs s).counts).tell)).log.length d6) (.slice D7 (((((Nod.opened ⟨id, n, view, last, works, commit, log, acks, votes, told⟩).logs s).counts).tell)).acks.length d7) (.slice D8 (((((Nod.opened ⟨id, n, view, last, works, commit, log, acks, votes, told⟩).logs s).counts).tell)).votes.length d8) (.slice D9 (((((Nod.opened ⟨id, n, view, last, works, commit, log, acks, votes, told⟩).logs s).counts).tell)).told.length d9) (.int .i64 0)
    refine leaves_cons (f := 20) (args := #[.pointer (some ⟨gy, 0, none⟩), .pointer (some ⟨gl, 0, none⟩), .pointer (some ⟨ge, 0, none⟩)]) (by simp) (by kernel_rfl) ?_
    refine (caught_idle ⟨gy, 0, none⟩ ⟨gl, 0, none⟩ ⟨ge, 0, none⟩ _).mono ?_
    rintro e u' w9 ⟨rfl, rfl, rfl⟩
    have E1 := HG_e.out
    have E2 := HG_l.out
    have E3 := HG_y.out
    have E4 := SZ5.out
    refine ⟨_, results_8 rfl _ _ gy gl ge 26 _ (0, 0) _ _ rfl rfl rfl HST.1 rfl HST.2.1 HST.2.2.1, _, _, _, _, rfl, (HRES.out _ (fun k hk hl hg => HST.2.2.2.1 k (by omega) (by omega) (by omega))).lower (by omega), HW10.out.trans (HST.2.2.2.2 _ (by omega) (by omega) (by omega))⟩
end Go.Proofs.Ytfpfpckocemmdaa.P
end
section
namespace Go.Proofs.Ytfpfpckocemmdaa.P
open Go.RowKit Go.Proofs.YtfpfpckocemmdaaW.PrintWords Go.Proofs.YtfpfpckocemmdaaW.PrintLast Go.Proofs.YtfpfpckocemmdaaW.PrintMore
set_option linter.unusedVariables false
set_option linter.unusedSimpArgs false
theorem tell_good {x : Nod} (h : Good x) (ht : x.told.length + x.n.toNat ≤ 1000) : Good x.tell := ⟨h.n1, h.n2, h.id0, h.id1, h.view, h.log, h.acks, h.votes, h.each, by
  have := x.upto_le x.n.toNat
  show (x.told ++ x.upto x.n.toNat).length ≤ 1000
  rw [List.length_append]
  omega⟩
theorem counts_told (x : Nod) : x.counts.told = x.told ∧ x.counts.n = x.n ∧ x.counts.id = x.id ∧ x.counts.view = x.view := by
  unfold Nod.counts Nod.count
  split <;> exact ⟨rfl, rfl, rfl, rfl⟩
theorem begin_good {x : Nod} (h : Good x) (ht : x.told.length + x.n.toNat ≤ 1000) : Good x.begin_ := by
  unfold Nod.begin_
  split
  · rename_i hm
    have hne : x.votes ≠ [] := by
      unfold Nod.may at hm
      simp only [Bool.and_eq_true] at hm
      exact enough_ne _ _ h.n1 hm.2
    have hc := counts_told x.rise.clear
    refine tell_good (counts_good (clear_good (rise_good h hne))) ?_
    rw [hc.1, hc.2.1]
    exact ht
  · exact h
theorem cast_of (a b : Int) (v : S66) (h : v.f3.length < 4398046511104) : msg_Cast.f a b v.f0 v.f1 v.f2 v.f3 = some (3, v.f0, a, b, v.f1, v.f2, 0, v.f3) := by
  unfold msg_Cast.f slices_Clone_string_string.f
  rw [if_pos h]; rfl
def Nod.castTo (x : Nod) (p : Int) : S28 := ⟨3, x.id, p, x.view, x.last, x.commit, 0, x.log⟩
set_option maxHeartbeats 8000000 in
set_option maxRecDepth 100000 in
theorem timeout_last (id n view last : Int) (works : Bool) (commit : Int) (log : List ByteArray) (acks : List Int) (votes : List S66) (told : List S28) (A6 A7 A8 : Option Addr) (c6 c7 c8 : Nat) (w : World) (h6 : Kd.C Kd.string w A6 log.length log) (l6 : log.length ≤ c6) (h7 : Kd.C (Kd.int .i64) w A7 acks.length acks) (l7 : acks.length ≤ c7) (h8 : Kd.C k66 w A8 votes.length votes) (l8 : votes.length ≤ c8)
    (hl : log.length < 4398046511104) (ha : acks.length < 4398046511104) (hvl : votes.length < 4398046511104) (hv : ∀ v, v ∈ votes → v.f3.length < 4398046511104 ∧ (Lit.int .i64 v.f0).wf = true)
    (his : isB ⟨id, n, view, last, works, commit, log, acks, votes, told⟩ = true) (hv9 : view = 1000000) :
    Calls Try.prog 12 #[.agg #[.int .i64 id, .int .i64 n, .int .i64 view, .int .i64 last, .bool works, .int .i64 commit, .slice A6 log.length c6, .slice A7 acks.length c7, .slice A8 votes.length c8]] w fun e w' => ∃ v6 v7 v8 v9, e = .returned (.tuple #[.agg #[.int .i64 zeroNod.id, .int .i64 zeroNod.n, .int .i64 zeroNod.view, .int .i64 zeroNod.last, .bool zeroNod.works, .int .i64 zeroNod.commit, v6, v7, v8], v9, .int .i64 2]) ∧ Res w' w.heap.size zeroNod v6 v7 v8 v9 ∧ Below w.heap.size w w' := by
  have hu26 := Try.underlying26
  have hu28 := Try.underlying28
  have hu57 := Try.underlying57
  have hu66 := Try.underlying66
  have HR := Aside0.mk (right_of his)
  have hvs : votes.length ≤ 900 := by have h1 := HR.out.count; have h2 := HR.out.n7; simp only at h1 h2; omega
  have hvt : ∀ v, v ∈ votes → v.f3.length ≤ 1000 := fun v hv => by have h1 := (loggedB_len (votesB_all _ _ _ _ HR.out.votes v hv).2.2.2.2.2).1; omega
  obtain ⟨hw5, sz5, bx5, by5, bl5, be5⟩ := new4 w (.cells #[.int .i64 id, .int .i64 n, .int .i64 view, .int .i64 last, .bool works, .int .i64 commit, .slice A6 log.length c6, .slice A7 acks.length c7, .slice A8 votes.length c8] 26) (.cells #[.int .i64 0, .int .i64 0, .int .i64 0, .int .i64 0, .bool false, .int .i64 0, .slice none 0 0, .slice none 0 0, .slice none 0 0] 26) (.cells #[.slice none 0 0] 30) (.cells #[.int .i64 0] 31)
  have HW5 := Aside0.mk hw5
  have SZ5 := Aside0.mk sz5
  have BX5 := Aside0.mk bx5
  have BY5 := Aside0.mk (five_zero by5)
  have BL5 := Aside0.mk bl5
  have BE5 := Aside0.mk be5
  clear hw5 sz5 bx5 by5 bl5 be5
  have H21 := Aside0.mk (open_is id n view last works commit log acks votes told A6 A7 A8 c6 c7 c8 _ (Kd.C_below h6 HW5.out) l6 (Kd.C_below h7 HW5.out) l7 (Kd.C_below h8 HW5.out) l8 hl ha hvl hv his hvs hvt)
  have e1 : (((Nod.opened ⟨id, n, view, last, works, commit, log, acks, votes, told⟩).view : Int) == 1000000) = true := beq_iff_eq.mpr hv9
  clear hv9
  have hpn : ∀ W : World, (Instr.panic (.iface 31 (.int .i64 2))).run Try.prog W = .halt (.panic (.iface 31 (.int .i64 2))) W := fun _ => rfl
  clear h6 l6 h7 l7 h8 l8 hl ha hvl hv his hvs hvt
  go_enter_defers Try.func12, Try.ntmps12
  go_wp2_with (first | (go_at_call 21; refine H21.out.mono ?_; rintro e w6 ⟨g, rfl, hN, hb6⟩; have HN6 := Aside0.mk hN; have HD6 := Aside0.mk (Did.refl hN); have HW6 := Aside0.mk (below_step HW5.out hb6); have SZ6 := Aside0.mk (show w.heap.size + 4 ≤ w6.heap.size by have h1 := hb6.size; have h2 := SZ5.out; omega); have BX6 := Aside0.mk ((hb6.block (w.heap.size) (by rw [SZ5.out]; omega)).trans BX5.out); have BY6 := Aside0.mk ((hb6.block (w.heap.size + 1) (by rw [SZ5.out]; omega)).trans BY5.out); have BL6 := Aside0.mk ((hb6.block (w.heap.size + 1 + 1) (by rw [SZ5.out]; omega)).trans BL5.out); have BE6 := Aside0.mk ((hb6.block (w.heap.size + 1 + 1 + 1) (by rw [SZ5.out]; omega)).trans BE5.out); obtain ⟨D6, d6, D7, d7, D8, d8, D9, d9, hbg, -⟩ := hN.res2; have p0 : w6.cell? ⟨g, 0, none⟩ = some (.int .i64 (Nod.opened ⟨id, n, view, last, works, commit, log, acks, votes, told⟩).id) := blk_cell hbg 0; have p1 : w6.cell? ⟨g, 1, none⟩ = some (.int .i64 (Nod.opened ⟨id, n, view, last, works, commit, log, acks, votes, told⟩).n) := blk_cell hbg 1; have p2 : w6.cell? ⟨g, 2, none⟩ = some (.int .i64 (Nod.opened ⟨id, n, view, last, works, commit, log, acks, votes, told⟩).view) := blk_cell hbg 2; have p3 : w6.cell? ⟨g, 3, none⟩ = some (.int .i64 (Nod.opened ⟨id, n, view, last, works, commit, log, acks, votes, told⟩).last) := blk_cell hbg 3; have p4 : w6.cell? ⟨g, 4, none⟩ = some (.bool (Nod.opened ⟨id, n, view, last, works, commit, log, acks, votes, told⟩).works) := blk_cell hbg 4; have p5 : w6.cell? ⟨g, 5, none⟩ = some (.int .i64 (Nod.opened ⟨id, n, view, last, works, commit, log, acks, votes, told⟩).commit) := blk_cell hbg 5; have p6 : w6.cell? ⟨g, 6, none⟩ = some (.slice D6 ((Nod.opened ⟨id, n, view, last, works, commit, log, acks, votes, told⟩)).log.length d6) := blk_cell hbg 6; have p7 : w6.cell? ⟨g, 7, none⟩ = some (.slice D7 ((Nod.opened ⟨id, n, view, last, works, commit, log, acks, votes, told⟩)).acks.length d7) := blk_cell hbg 7; have p8 : w6.cell? ⟨g, 8, none⟩ = some (.slice D8 ((Nod.opened ⟨id, n, view, last, works, commit, log, acks, votes, told⟩)).votes.length d8) := blk_cell hbg 8; have p9 : w6.cell? ⟨g, 9, none⟩ = some (.slice D9 ((Nod.opened ⟨id, n, view, last, works, commit, log, acks, votes, told⟩)).told.length d9) := blk_cell hbg 9; clear hN hb6 hbg))
  refine leaves_cons (f := 20) (args := #[.pointer (some ⟨w.heap.size + 1, 0, none⟩), .pointer (some ⟨w.heap.size + 1 + 1, 0, none⟩), .pointer (some ⟨w.heap.size + 1 + 1 + 1, 0, none⟩)]) (by simp) (by kernel_rfl) ?_
  refine (caught_panicking (w.heap.size + 1) (w.heap.size + 1 + 1) (w.heap.size + 1 + 1 + 1) 2 [] w6 BY6.out BL6.out BE6.out (by omega) (by omega) (by omega)).mono ?_
  rintro e u' w9 ⟨rfl, rfl, ky, kl, ke, kb⟩
  refine ⟨_, results_8 rfl _ _ (w.heap.size + 1) (w.heap.size + 1 + 1) (w.heap.size + 1 + 1 + 1) 26 zeroNode (0, 0) (.slice none 0 0) 2 rfl rfl rfl ky rfl ((blk_cell kl 0).trans rfl) ((blk_cell ke 0).trans rfl), .slice none 0 0, .slice none 0 0, .slice none 0 0, .slice none 0 0, rfl, res_zero _ _, ?_⟩
  exact HW6.out.trans (kb w.heap.size (by omega) (by omega) (by omega))
end Go.Proofs.Ytfpfpckocemmdaa.P
end
section
namespace Go.Proofs.Ytfpfpckocemmdaa.P
open Go.RowKit Go.Proofs.YtfpfpckocemmdaaW.PrintWords Go.Proofs.YtfpfpckocemmdaaW.PrintLast Go.Proofs.YtfpfpckocemmdaaW.PrintMore
set_option linter.unusedVariables false
set_option linter.unusedSimpArgs false
set_option maxHeartbeats 8000000 in
set_option maxRecDepth 100000 in
theorem timeout_prim (id n view last : Int) (works : Bool) (commit : Int) (log : List ByteArray) (acks : List Int) (votes : List S66) (told : List S28) (A6 A7 A8 : Option Addr) (c6 c7 c8 : Nat) (w : World) (h6 : Kd.C Kd.string w A6 log.length log) (l6 : log.length ≤ c6) (h7 : Kd.C (Kd.int .i64) w A7 acks.length acks) (l7 : acks.length ≤ c7) (h8 : Kd.C k66 w A8 votes.length votes) (l8 : votes.length ≤ c8)
    (hl : log.length < 4398046511104) (ha : acks.length < 4398046511104) (hvl : votes.length < 4398046511104) (hv : ∀ v, v ∈ votes → v.f3.length < 4398046511104 ∧ (Lit.int .i64 v.f0).wf = true)
    (his : isB ⟨id, n, view, last, works, commit, log, acks, votes, told⟩ = true) (hv9 : ¬ view = 1000000) (hpp : (((Nod.opened ⟨id, n, view, last, works, commit, log, acks, votes, told⟩).joins (view + 1)).begin_).view % (((Nod.opened ⟨id, n, view, last, works, commit, log, acks, votes, told⟩).joins (view + 1)).begin_).n = (((Nod.opened ⟨id, n, view, last, works, commit, log, acks, votes, told⟩).joins (view + 1)).begin_).id) :
    Calls Try.prog 12 #[.agg #[.int .i64 id, .int .i64 n, .int .i64 view, .int .i64 last, .bool works, .int .i64 commit, .slice A6 log.length c6, .slice A7 acks.length c7, .slice A8 votes.length c8]] w fun e w' => ∃ v6 v7 v8 v9, e = .returned (.tuple #[.agg #[.int .i64 (((Nod.opened ⟨id, n, view, last, works, commit, log, acks, votes, told⟩).joins (view + 1)).begin_).id, .int .i64 (((Nod.opened ⟨id, n, view, last, works, commit, log, acks, votes, told⟩).joins (view + 1)).begin_).n, .int .i64 (((Nod.opened ⟨id, n, view, last, works, commit, log, acks, votes, told⟩).joins (view + 1)).begin_).view, .int .i64 (((Nod.opened ⟨id, n, view, last, works, commit, log, acks, votes, told⟩).joins (view + 1)).begin_).last, .bool (((Nod.opened ⟨id, n, view, last, works, commit, log, acks, votes, told⟩).joins (view + 1)).begin_).works, .int .i64 (((Nod.opened ⟨id, n, view, last, works, commit, log, acks, votes, told⟩).joins (view + 1)).begin_).commit, v6, v7, v8], v9, .int .i64 0]) ∧ Res w' w.heap.size (((Nod.opened ⟨id, n, view, last, works, commit, log, acks, votes, told⟩).joins (view + 1)).begin_) v6 v7 v8 v9 ∧ Below w.heap.size w w' := by
  have hu26 := Try.underlying26
  have hu28 := Try.underlying28
  have hu57 := Try.underlying57
  have hu66 := Try.underlying66
  have HR := Aside0.mk (right_of his)
  have hvs : votes.length ≤ 900 := by have h1 := HR.out.count; have h2 := HR.out.n7; simp only at h1 h2; omega
  have hvt : ∀ v, v ∈ votes → v.f3.length ≤ 1000 := fun v hv => by have h1 := (loggedB_len (votesB_all _ _ _ _ HR.out.votes v hv).2.2.2.2.2).1; omega
  obtain ⟨hw5, sz5, bx5, by5, bl5, be5⟩ := new4 w (.cells #[.int .i64 id, .int .i64 n, .int .i64 view, .int .i64 last, .bool works, .int .i64 commit, .slice A6 log.length c6, .slice A7 acks.length c7, .slice A8 votes.length c8] 26) (.cells #[.int .i64 0, .int .i64 0, .int .i64 0, .int .i64 0, .bool false, .int .i64 0, .slice none 0 0, .slice none 0 0, .slice none 0 0] 26) (.cells #[.slice none 0 0] 30) (.cells #[.int .i64 0] 31)
  have HW5 := Aside0.mk hw5
  have SZ5 := Aside0.mk sz5
  have BX5 := Aside0.mk bx5
  have BY5 := Aside0.mk (five_zero by5)
  have BL5 := Aside0.mk bl5
  have BE5 := Aside0.mk be5
  clear hw5 sz5 bx5 by5 bl5 be5
  have H21 := Aside0.mk (open_is id n view last works commit log acks votes told A6 A7 A8 c6 c7 c8 _ (Kd.C_below h6 HW5.out) l6 (Kd.C_below h7 HW5.out) l7 (Kd.C_below h8 HW5.out) l8 hl ha hvl hv his hvs hvt)
  have e1 : (((Nod.opened ⟨id, n, view, last, works, commit, log, acks, votes, told⟩).view : Int) == 1000000) = false := beq_eq_false_iff_ne.mpr hv9
  have wv0 : (Nod.opened ⟨id, n, view, last, works, commit, log, acks, votes, told⟩).view = view := rfl
  have wv : IntKind.i64.wrap ((Nod.opened ⟨id, n, view, last, works, commit, log, acks, votes, told⟩).view + 1) = view + 1 := by have h1 := HR.out.view1; have h0 := HR.out.view0; simp only at h0 h1; rw [IntKind.wrap_i64, wv0]; omega
  have wv2 : wrap64 ((Nod.opened ⟨id, n, view, last, works, commit, log, acks, votes, told⟩).view + 1) = view + 1 := by have h1 := HR.out.view1; have h0 := HR.out.view0; simp only at h0 h1; rw [wv0]; unfold wrap64; omega
  have HG1 := Aside0.mk (joins_good HR.out.good (view + 1) (by have h0 := HR.out.view0; simp only at h0; omega))
  have HG2 := Aside0.mk (begin_good HG1.out (by have h7 := HR.out.n7; simp only at h7; show 0 + Int.toNat n ≤ 1000; omega))
  have HP2 := Aside0.mk (primary_of (((Nod.opened ⟨id, n, view, last, works, commit, log, acks, votes, told⟩).joins (view + 1)).begin_).view (((Nod.opened ⟨id, n, view, last, works, commit, log, acks, votes, told⟩).joins (view + 1)).begin_).n HG2.out.view HG2.out.n1)
  clear hv9 wv0
  have f1 : (((((Nod.opened ⟨id, n, view, last, works, commit, log, acks, votes, told⟩).joins (view + 1)).begin_).view % (((Nod.opened ⟨id, n, view, last, works, commit, log, acks, votes, told⟩).joins (view + 1)).begin_).n) == (((Nod.opened ⟨id, n, view, last, works, commit, log, acks, votes, told⟩).joins (view + 1)).begin_).id) = true := beq_iff_eq.mpr hpp
  have f2 : (((((Nod.opened ⟨id, n, view, last, works, commit, log, acks, votes, told⟩).joins (view + 1)).begin_).view % (((Nod.opened ⟨id, n, view, last, works, commit, log, acks, votes, told⟩).joins (view + 1)).begin_).n) != (((Nod.opened ⟨id, n, view, last, works, commit, log, acks, votes, told⟩).joins (view + 1)).begin_).id) = false := bne_eq_false_iff_eq.mpr hpp
  clear hpp
  clear h6 l6 h7 l7 h8 l8 hl ha hvl hv his hvs hvt
  go_enter_defers Try.func12, Try.ntmps12
  go_wp2_with (first | (go_at_call 21; refine H21.out.mono ?_; rintro e w6 ⟨g, rfl, hN, hb6⟩; have HN6 := Aside0.mk hN; have HD6 := Aside0.mk (Did.refl hN); have HW6 := Aside0.mk (below_step HW5.out hb6); have SZ6 := Aside0.mk (show w.heap.size + 4 ≤ w6.heap.size by have h1 := hb6.size; have h2 := SZ5.out; omega); have BX6 := Aside0.mk ((hb6.block (w.heap.size) (by rw [SZ5.out]; omega)).trans BX5.out); have BY6 := Aside0.mk ((hb6.block (w.heap.size + 1) (by rw [SZ5.out]; omega)).trans BY5.out); have BL6 := Aside0.mk ((hb6.block (w.heap.size + 1 + 1) (by rw [SZ5.out]; omega)).trans BL5.out); have BE6 := Aside0.mk ((hb6.block (w.heap.size + 1 + 1 + 1) (by rw [SZ5.out]; omega)).trans BE5.out); obtain ⟨D6, d6, D7, d7, D8, d8, D9, d9, hbg, -⟩ := hN.res2; have p0 : w6.cell? ⟨g, 0, none⟩ = some (.int .i64 (Nod.opened ⟨id, n, view, last, works, commit, log, acks, votes, told⟩).id) := blk_cell hbg 0; have p1 : w6.cell? ⟨g, 1, none⟩ = some (.int .i64 (Nod.opened ⟨id, n, view, last, works, commit, log, acks, votes, told⟩).n) := blk_cell hbg 1; have p2 : w6.cell? ⟨g, 2, none⟩ = some (.int .i64 (Nod.opened ⟨id, n, view, last, works, commit, log, acks, votes, told⟩).view) := blk_cell hbg 2; have p3 : w6.cell? ⟨g, 3, none⟩ = some (.int .i64 (Nod.opened ⟨id, n, view, last, works, commit, log, acks, votes, told⟩).last) := blk_cell hbg 3; have p4 : w6.cell? ⟨g, 4, none⟩ = some (.bool (Nod.opened ⟨id, n, view, last, works, commit, log, acks, votes, told⟩).works) := blk_cell hbg 4; have p5 : w6.cell? ⟨g, 5, none⟩ = some (.int .i64 (Nod.opened ⟨id, n, view, last, works, commit, log, acks, votes, told⟩).commit) := blk_cell hbg 5; have p6 : w6.cell? ⟨g, 6, none⟩ = some (.slice D6 ((Nod.opened ⟨id, n, view, last, works, commit, log, acks, votes, told⟩)).log.length d6) := blk_cell hbg 6; have p7 : w6.cell? ⟨g, 7, none⟩ = some (.slice D7 ((Nod.opened ⟨id, n, view, last, works, commit, log, acks, votes, told⟩)).acks.length d7) := blk_cell hbg 7; have p8 : w6.cell? ⟨g, 8, none⟩ = some (.slice D8 ((Nod.opened ⟨id, n, view, last, works, commit, log, acks, votes, told⟩)).votes.length d8) := blk_cell hbg 8; have p9 : w6.cell? ⟨g, 9, none⟩ = some (.slice D9 ((Nod.opened ⟨id, n, view, last, works, commit, log, acks, votes, told⟩)).told.length d9) := blk_cell hbg 9; clear hN hb6 hbg) | (go_at_call 29; refine (joins_did (Nod.opened ⟨id, n, view, last, works, commit, log, acks, votes, told⟩) (view + 1) w6 _ _ g _ HR.out.good HD6.out).mono ?_; rintro e w7 ⟨rfl, h7⟩; have HD7 := Aside0.mk h7; clear h7) | (go_at_call 30; refine (begin_did ((Nod.opened ⟨id, n, view, last, works, commit, log, acks, votes, told⟩).joins (view + 1)) w6 _ _ g _ HG1.out HD7.out).mono ?_; rintro e w8 ⟨rfl, h8⟩; have HD8 := Aside0.mk h8; obtain ⟨D6, d6, D7, d7, D8, d8, D9, d9, hb8, -⟩ := h8.1.res2; have BG8 := Aside0.mk hb8; have s80 : w8.cell? ⟨g, 0, none⟩ = some (.int .i64 (((Nod.opened ⟨id, n, view, last, works, commit, log, acks, votes, told⟩).joins (view + 1)).begin_).id) := blk_cell hb8 0; have s81 : w8.cell? ⟨g, 1, none⟩ = some (.int .i64 (((Nod.opened ⟨id, n, view, last, works, commit, log, acks, votes, told⟩).joins (view + 1)).begin_).n) := blk_cell hb8 1; have s82 : w8.cell? ⟨g, 2, none⟩ = some (.int .i64 (((Nod.opened ⟨id, n, view, last, works, commit, log, acks, votes, told⟩).joins (view + 1)).begin_).view) := blk_cell hb8 2; clear h8 hb8))
  go_region_held3 (fun W => W.cell? ⟨g, 1, none⟩ = some (.int .i64 (((Nod.opened ⟨id, n, view, last, works, commit, log, acks, votes, told⟩).joins (view + 1)).begin_).n) ∧ W.cell? ⟨g, 2, none⟩ = some (.int .i64 (((Nod.opened ⟨id, n, view, last, works, commit, log, acks, votes, told⟩).joins (view + 1)).begin_).view))
    (first | exact ⟨s81, s82⟩ | go_keep)
    (first | (refine x_step_call rfl Try.func31 (by kernel_rfl) rfl #[.int .i64 (((Nod.opened ⟨id, n, view, last, works, commit, log, acks, votes, told⟩).joins (view + 1)).begin_).view, .int .i64 (((Nod.opened ⟨id, n, view, last, works, commit, log, acks, votes, told⟩).joins (view + 1)).begin_).n] rfl (by simp [Act.eval, Act.put]) ?_; refine (quorum_Primary.calls (((Nod.opened ⟨id, n, view, last, works, commit, log, acks, votes, told⟩).joins (view + 1)).begin_).view (((Nod.opened ⟨id, n, view, last, works, commit, log, acks, votes, told⟩).joins (view + 1)).begin_).n _ true _ HP2.out).mono ?_; rintro e w' ⟨rfl, ⟨nd, rfl⟩⟩; refine ⟨_, rfl, ?_⟩))
  rename_i hh
  clear hh
  go_wp2
  have h10 := HD8.out.drewN (1 + nd)
  clear s80 s81 s82
  generalize w8.drewN (1 + nd) = w10 at *
  have HN10 := Aside0.mk h10.1
  have HW10 := Aside0.mk (HW6.out.trans (below_weak h10.2.2.1 (by have := SZ5.out; omega)))
  have BY10 := Aside0.mk ((h10.2.2.1.block (w.heap.size + 1) (by rw [SZ5.out]; omega)).trans BY6.out)
  have BL10 := Aside0.mk ((h10.2.2.1.block (w.heap.size + 1 + 1) (by rw [SZ5.out]; omega)).trans BL6.out)
  have BE10 := Aside0.mk ((h10.2.2.1.block (w.heap.size + 1 + 1 + 1) (by rw [SZ5.out]; omega)).trans BE6.out)
  obtain ⟨D6, d6, D7, d7, D8, d8, D9, d9, hbg, hres⟩ := HN10.out.res2
  have HRES := Aside0.mk hres
  have BG10 := Aside0.mk hbg
  have tg0 : w10.cell? ⟨g, 0, none⟩ = some (.int .i64 (((Nod.opened ⟨id, n, view, last, works, commit, log, acks, votes, told⟩).joins (view + 1)).begin_).id) := blk_cell hbg 0
  have tg1 : w10.cell? ⟨g, 1, none⟩ = some (.int .i64 (((Nod.opened ⟨id, n, view, last, works, commit, log, acks, votes, told⟩).joins (view + 1)).begin_).n) := blk_cell hbg 1
  have tg2 : w10.cell? ⟨g, 2, none⟩ = some (.int .i64 (((Nod.opened ⟨id, n, view, last, works, commit, log, acks, votes, told⟩).joins (view + 1)).begin_).view) := blk_cell hbg 2
  have tg3 : w10.cell? ⟨g, 3, none⟩ = some (.int .i64 (((Nod.opened ⟨id, n, view, last, works, commit, log, acks, votes, told⟩).joins (view + 1)).begin_).last) := blk_cell hbg 3
  have tg4 : w10.cell? ⟨g, 4, none⟩ = some (.bool (((Nod.opened ⟨id, n, view, last, works, commit, log, acks, votes, told⟩).joins (view + 1)).begin_).works) := blk_cell hbg 4
  have tg5 : w10.cell? ⟨g, 5, none⟩ = some (.int .i64 (((Nod.opened ⟨id, n, view, last, works, commit, log, acks, votes, told⟩).joins (view + 1)).begin_).commit) := blk_cell hbg 5
  have tg6 : w10.cell? ⟨g, 6, none⟩ = some (.slice D6 ((((Nod.opened ⟨id, n, view, last, works, commit, log, acks, votes, told⟩).joins (view + 1)).begin_)).log.length d6) := blk_cell hbg 6
  have tg7 : w10.cell? ⟨g, 7, none⟩ = some (.slice D7 ((((Nod.opened ⟨id, n, view, last, works, commit, log, acks, votes, told⟩).joins (view + 1)).begin_)).acks.length d7) := blk_cell hbg 7
  have tg8 : w10.cell? ⟨g, 8, none⟩ = some (.slice D8 ((((Nod.opened ⟨id, n, view, last, works, commit, log, acks, votes, told⟩).joins (view + 1)).begin_)).votes.length d8) := blk_cell hbg 8
  have tg9 : w10.cell? ⟨g, 9, none⟩ = some (.slice D9 ((((Nod.opened ⟨id, n, view, last, works, commit, log, acks, votes, told⟩).joins (view + 1)).begin_)).told.length d9) := blk_cell hbg 9
  have ty0 : w10.cell? ⟨w.heap.size + 1, 0, none⟩ = some (.int .i64 0) := (blk_cell BY10.out 0).trans rfl
  have tf0 := blk_frozen BY10.out 0
  have ty1 : w10.cell? ⟨w.heap.size + 1, 1, none⟩ = some (.int .i64 0) := (blk_cell BY10.out 1).trans rfl
  have tf1 := blk_frozen BY10.out 1
  have ty2 : w10.cell? ⟨w.heap.size + 1, 2, none⟩ = some (.int .i64 0) := (blk_cell BY10.out 2).trans rfl
  have tf2 := blk_frozen BY10.out 2
  have ty3 : w10.cell? ⟨w.heap.size + 1, 3, none⟩ = some (.int .i64 0) := (blk_cell BY10.out 3).trans rfl
  have tf3 := blk_frozen BY10.out 3
  have ty4 : w10.cell? ⟨w.heap.size + 1, 4, none⟩ = some (.bool false) := (blk_cell BY10.out 4).trans rfl
  have tf4 := blk_frozen BY10.out 4
  have ty5 : w10.cell? ⟨w.heap.size + 1, 5, none⟩ = some (.int .i64 0) := (blk_cell BY10.out 5).trans rfl
  have tf5 := blk_frozen BY10.out 5
  have ty6 : w10.cell? ⟨w.heap.size + 1, 6, none⟩ = some (.slice none 0 0) := (blk_cell BY10.out 6).trans rfl
  have tf6 := blk_frozen BY10.out 6
  have ty7 : w10.cell? ⟨w.heap.size + 1, 7, none⟩ = some (.slice none 0 0) := (blk_cell BY10.out 7).trans rfl
  have tf7 := blk_frozen BY10.out 7
  have ty8 : w10.cell? ⟨w.heap.size + 1, 8, none⟩ = some (.slice none 0 0) := (blk_cell BY10.out 8).trans rfl
  have tf8 := blk_frozen BY10.out 8
  have tl0 : w10.cell? ⟨w.heap.size + 1 + 1, 0, none⟩ = some (.slice none 0 0) := (blk_cell BL10.out 0).trans rfl
  have tl1 := blk_frozen BL10.out 0
  have te0 : w10.cell? ⟨w.heap.size + 1 + 1 + 1, 0, none⟩ = some (.int .i64 0) := (blk_cell BE10.out 0).trans rfl
  have te1 := blk_frozen BE10.out 0
  have HGE := Aside0.mk (show w.heap.size + 4 ≤ g from by have h1 := HN10.out.ge; have h2 := SZ5.out; omega)
  have ney1 : g ≠ w.heap.size + 1 := (by have := HGE.out; omega)
  have ney2 : w.heap.size + 1 ≠ g := (by have := HGE.out; omega)
  have nel1 : g ≠ w.heap.size + 1 + 1 := (by have := HGE.out; omega)
  have nel2 : w.heap.size + 1 + 1 ≠ g := (by have := HGE.out; omega)
  have nee1 : g ≠ w.heap.size + 1 + 1 + 1 := (by have := HGE.out; omega)
  have nee2 : w.heap.size + 1 + 1 + 1 ≠ g := (by have := HGE.out; omega)
  have nyl : w.heap.size + 1 ≠ w.heap.size + 1 + 1 := (by omega)
  have nye : w.heap.size + 1 ≠ w.heap.size + 1 + 1 + 1 := (by omega)
  have nle : w.heap.size + 1 + 1 ≠ w.heap.size + 1 + 1 + 1 := (by omega)
  have nyl' := nyl.symm
  have nye' := nye.symm
  have nle' := nle.symm
  clear hbg hres
  clear h10
  generalize he : w.heap.size + 1 + 1 + 1 = ge at *
  have HG_e := Aside0.mk he
  clear he
  generalize hl : w.heap.size + 1 + 1 = gl at *
  have HG_l := Aside0.mk hl
  clear hl
  generalize hy : w.heap.size + 1 = gy at *
  have HG_y := Aside0.mk hy
  clear hy
  go_region
  all_goals
    go_wp2
    have HST := stores_ret (w7 := w10) BY10.out BL10.out BE10.out nyl nye nle (.int .i64 ((((Nod.opened ⟨id, n, view, last, works, commit, log, acks, votes, told⟩).joins (view + 1)).begin_)).id) (.int .i64 ((((Nod.opened ⟨id, n, view, last, works, commit, log, acks, votes, told⟩).joins (view + 1)).begin_)).n) (.int .i64 ((((Nod.opened ⟨id, n, view, last, works, commit, log, acks, votes, told⟩).joins (view + 1)).begin_)).view) (.int .i64 ((((Nod.opened ⟨id, n, view, last, works, commit, log, acks, votes, told⟩).joins (view + 1)).begin_)).last) (.bool ((((Nod.opened ⟨id, n, view, last, works, commit, log, acks, votes, told⟩).joins (view + 1)).begin_)).works) (.int .i64 ((((Nod.opened ⟨id, n, view, last, works, commit, log, acks, votes, told⟩).joins (view + 1)).begin_)).commit) (.slice D6 ((((Nod.opened ⟨id, n, view, last, works, commit, log, acks, votes, told⟩).joins (view + 1)).begin_)).log.length d6) (.slice D7 ((((Nod.opened ⟨id, n, view, last, works, commit, log, acks, votes, told⟩).joins (view + 1)).begin_)).acks.length d7) (.slice D8 ((((Nod.opened ⟨id, n, view, last, works, commit, log, acks, votes, told⟩).joins (view + 1)).begin_)).votes.length d8) (.slice D9 ((((Nod.opened ⟨id, n, view, last, works, commit, log, acks, votes, told⟩).joins (view + 1)).begin_)).told.length d9) (.int .i64 0)
    refine leaves_cons (f := 20) (args := #[.pointer (some ⟨gy, 0, none⟩), .pointer (some ⟨gl, 0, none⟩), .pointer (some ⟨ge, 0, none⟩)]) (by simp) (by kernel_rfl) ?_
    refine (caught_idle ⟨gy, 0, none⟩ ⟨gl, 0, none⟩ ⟨ge, 0, none⟩ _).mono ?_
    rintro e u' w9 ⟨rfl, rfl, rfl⟩
    have E1 := HG_e.out
    have E2 := HG_l.out
    have E3 := HG_y.out
    have E4 := SZ5.out
    refine ⟨_, results_8 rfl _ _ gy gl ge 26 _ (0, 0) _ _ rfl rfl rfl HST.1 rfl HST.2.1 HST.2.2.1, _, _, _, _, rfl, (HRES.out _ (fun k hk hl hg => HST.2.2.2.1 k (by omega) (by omega) (by omega))).lower (by omega), HW10.out.trans (HST.2.2.2.2 _ (by omega) (by omega) (by omega))⟩
end Go.Proofs.Ytfpfpckocemmdaa.P
end
